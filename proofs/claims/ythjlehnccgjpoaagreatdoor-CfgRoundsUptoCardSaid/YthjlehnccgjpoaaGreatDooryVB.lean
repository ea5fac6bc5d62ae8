/- Lemmas. -/
import Derived.Calls
import Derived.Orders
import Derived.Deep.Quiet
import Derived.Tactics
import Derived.Below
import Derived.Scope
import Derived.Laws.World
import Derived.WalkKit
import Derived.Laws.Tables
import Derived.Laws.CopyRow
import Derived.Laws.CopyOwn
import Derived.Laws.Rows
import Derived.Laws.AppendOwn
import Derived.Laws.MakeOwn
import Derived.Laws.Small
import Derived.Laws.Strings
import Derived.Laws.Pointers
import Derived.Laws.Strings3
import Derived.Laws.Concat
import Derived.WideLaws
import Derived.Lib.SliceRun
import Derived.Lib.AppendStr
import Derived.Lib.AppendZeros
import Derived.Laws.Append
namespace Go.Proofs.YthjlehnccgjpoaaGreatDoor
open Go.RowKit
abbrev BA:=ByteArray
abbrev Fr:=Nat->Value
def up(σ:Fr)(d:Option Nat)(v:Value):Fr:=
 match d with
 | some d=>λi=>bif Nat.beq i d then v else σ i
 | none=>σ
def ev(σ:Fr):Operand->Value
 | .tmp t=>σ t
 | .const v=>v
 | .global g=>.pointer (some ⟨g,0,none⟩)
 | .func f=>.func (.func f) #[] #[]
def asB:Value->Option Bool
 | .bool b=>some b
 | _=>none
abbrev Pan:=List PanicEntry->World->Prop
def endK(K:Value->World->Prop)(E:Pan):Ending->World->Prop
 | .returned v,w=>K v w
 | .panicked c,w=>E c w
 | .outgrown,_=>False
def Cv(P:Program)(f:FuncId)(args:Array Value)(w:World)(K:Value->World->Prop)(E:Pan):Prop:=Calls P f args w (endK K E)
theorem Cv.mono{P:Program}{f:FuncId}{args:Array Value}{w:World}{K K':Value->World->Prop}{E E':Pan}(h:Cv P f args w K E)(hk:∀v w',K v w'->K' v w')(he:∀c w',E c w'->E' c w'):Cv P f args w K' E':=
 Calls.mono h λe w' r=>by
  cases e with
  | returned v=>exact hk _ _ r
  | panicked c=>exact he _ _ r
  | outgrown=>exact r
def noPan:Pan:=λ_ _=>False
def opK(P:Program)(E:Pan)(s:Sem Next)(w:World)(K:Value->World->Prop):Prop:=
 match s.run P w with
 | .ok (.value v) w'=>K v w'
 | .ok .skip w'=>K undef w'
 | .ok (.enter f args) w'=>Cv P f args w' K E
 | .halt (.panic v) w'=>E [{ v,recovered:=false }] w'
 | _=>False
def yldX(ops:List Oper)(σ:Fr)(j:Nat):Option Bool:=
 match ops[j]? with
 | some o=>match o.dst with
  | some d=>asB (σ d)
  | none=>none
 | none=>none
def gsem(b:Option Bool)(want:Bool)(s:Sem Next):Sem Next:=bif b == some want then s else pure (.value undef)
def gval(b:Option Bool)(want:Bool)(x:Value):Value:=bif b == some want then x else undef
def xV(s:Sem Value):Sem Next:=do pure (.value (← s))
def xU(s:Sem Unit):Sem Next:=do s;pure .skip
def xPick(c a b:Value):Sem Next:=do pure (.value (if ← asBool c then a else b))
def xBin(op:BinOp)(t:TypeId)(x y:Operand)(a b:Value):Sem Next:=do pure (.value (← (do eqGuard op t x y a b;binOp op t a b)))
def xCall(f:Value)(args:List Value):Sem Next:=do let d ← Deferred.ofValue f args.toArray;invoke d.target d.args
def xInvoke(r:Value)(name:String)(args:List Value):Sem Next:=invoke (.fn (.method name) #[]) (r::args).toArray
def xNil (v : Value) : Sem Next := execOp (λ_ => v) ⟨none, .nilCheck (.const .nilIface), 0, "", #[], none⟩
def isK:Operand->Bool
 | .const _=>true
 | _=>false
def xBuiltin(b:Builtin)(ts:Array TypeId)(type:TypeId)(ks:List Bool)(args:List Value):Sem Next:=invoke (.builtin b ts type ks.toArray) args.toArray
def evP(σ:Fr):List (Nat×Operand)->List (Nat×Value)
 | []=>[]
 | p::l=>(p.1,ev σ p.2)::evP σ l
def semX(σ:Fr)(o:Oper):Sem Next:=
 match o.op with
 | .pick c a b=>xPick (ev σ c) (ev σ a) (ev σ b)
 | .binOp op t x y _=>xBin op t x y (ev σ x) (ev σ y)
 | .call c=>
  match c.callee with
  | .value f=>xCall (ev σ f) (c.args.toList.map (ev σ))
  | .invoke r name=>xInvoke (ev σ r) name (c.args.toList.map (ev σ))
  | .builtin b=>xBuiltin b c.argTypes o.type (c.args.toList.map isK) (c.args.toList.map (ev σ))
 | .build t ps=>xV (Instr.build t (evP σ ps.toList).toArray)
 | .buildSlice t n ps=>xV (Instr.buildSlice t n (evP σ ps.toList).toArray)
 | .nilCheck x=>xNil (ev σ x)
 | .makeFunc fn first captured=>xV (Instr.makeFunc fn (first.toList.map (ev σ)).toArray (captured.toList.map (ev σ)).toArray)
 | _=>execOp (ev σ) o
theorem mapA{α β:Type}(f:α->β)(l:Array α):(l.toList.map f).toArray=l.map f:=by
 rw [←Array.toList_map,Array.toArray_toList]
theorem d1T(σ:Fr)(ps:Array (Nat×Operand)):(evP σ ps.toList).toArray=ps.map λ(i,x)=>(i,ev σ x):=by
 have h:∀l:List (Nat×Operand),evP σ l=l.map λ(i,x)=>(i,ev σ x):=by
  intro l
  induction l with
  | nil=>rfl
  | cons p l ih=>simp only [evP,ih,List.map_cons]
 rw [h,mapA]
theorem b2f(σ:Fr)(o:Oper):semX σ o=execOp (ev σ) o:=by
 obtain ⟨dst,op,type,pos,after,guard⟩:=o
 cases op<;>try rfl
 case call c=>
  obtain ⟨callee,args,ts⟩:=c
  cases callee with
  | value f=>simp only [semX,execOp,resolve,xCall,mapA]
  | invoke r name=>
   have e:(ev σ r::args.toList.map (ev σ)).toArray=#[ev σ r]++args.map (ev σ):=by
    rw [←mapA]
    simp only [List.append_toArray,List.singleton_append]
   simp only [semX,execOp,resolve,xInvoke,e]
   rfl
  | builtin b=>
   simp only [semX,execOp,resolve,xBuiltin]
   have:(args.toList.map isK).toArray=args.map (fun | .const _=>true | _=>false):=by
    rw [mapA]
    exact congrArg (λf=>args.map f) (funext λx=>by cases x<;>rfl)
   rw [this,mapA]
   rfl
 case build t ps=>simp only [semX,execOp,xV,d1T]
 case buildSlice t n ps=>simp only [semX,execOp,xV,d1T]
 case makeFunc fn first captured=>simp only [semX,execOp,xV,mapA]
def gopS(ops:List Oper)(σ:Fr)(o:Oper):Sem Next:=
 match o.guard with
 | none=>semX σ o
 | some (j,want)=>gsem (yldX ops σ j) want (semX σ o)
def mvX(ops:List Oper)(σ:Fr)(o:Oper):Option Value:=
 match o.op with
 | .move x | .assign x=>match o.guard with
  | none=>some (ev σ x)
  | some (j,want)=>some (gval (yldX ops σ j) want (ev σ x))
 | _=>none
def opsX(P:Program)(E:Pan)(ops:List Oper):List Oper->Fr->World->(Fr->World->Prop)->Prop
 | [],σ,w,K=>K σ w
 | o::r,σ,w,K=>
  match mvX ops σ o with
  | some v=>opsX P E ops r (up σ o.dst v) w K
  | none=>opK P E (gopS ops σ o) w λv w'=>opsX P E ops r (up σ o.dst v) w' K
def Ext(w w':World):Prop:=Below w.heap.size w w'
theorem Ext.refl(w:World):Ext w w:=Below.refl _ _
theorem Ext.trans{a b c:World}(h:Ext a b)(k:Ext b c):Ext a c:=Below.trans h (k.mono h.size)
def qP(P:Program)(s:Sem Next)(K:Value->Prop):Prop:=∃v,(∀w',s.run P w'=.ok (.value v) w')/\K v
def sameB(g:Option Nat)(w w':World):Prop:=
 match g with
 | some g=>w'.heap[g]? = w.heap[g]?
 | none=>True
theorem sameB.refl(g:Option Nat)(w:World):sameB g w w:=by
 cases g
 ·trivial
 ·rfl
theorem sameB.trans{g:Option Nat}{a b c:World}(h:sameB g a b)(k:sameB g b c):sameB g a c:=by
 cases g
 ·trivial
 ·exact Eq.trans k h
def qL(P:Program)(w:World)(g:Option Nat)(s:Sem Next)(K:Value->Prop):Prop:=∃v,(∀w',sameB g w w'->s.run P w'=.ok (.value v) w')/\K v
def keepX:List (Option Nat)->World->World->Prop->Prop
 | [],_,_,p=>p
 | g::l,w,w',p=>sameB g w w'/\keepX l w w' p
def blk:Value->Option Nat
 | .pointer (some a)=>some a.block
 | .map (some r)=>some r
 | _=>none
def dX(w:World)(K:World->Prop):Prop:=K { w with drawn:=w.drawn+1 }
inductive Ord where
 | done
 | early (i:Nat) (k:Ord)
 | load (i:Nat) (k:Ord)
 | step (i:Nat) (k:Ord)
 | alt (i:Nat) (k r:Ord)
def memb:List Nat->Nat->Bool
 | [],_=>false
 | d::l,i=>bif Nat.beq i d then true else memb l i
def dstsL:List Oper->List Nat
 | []=>[]
 | o::l=>match o.dst with
  | some d=>d::dstsL l
  | none=>dstsL l
noncomputable def dsts(c:Code):List Nat:=
 Code.rec (motive:=λ_=>List Nat) [] (λ_ ops _=>dstsL ops.toList) (λ_ _ x y=>x++y) (λ_ _ _ x y=>x++y) (λ_ _ x=>x) (λ_ x=>x) (λ_ _ _ _ _ _=>[]) (λ_=>[]) (λ_ x=>x) (λ_=>[]) (λ_=>[]) [] (λ_=>[]) c
theorem c5K(x y:Code):dsts (.seq x y)=dsts x++dsts y:=rfl
theorem c4B(o:Operand)(x y:Code):dsts (.cond o x y)=dsts x++dsts y:=rfl
def rdB(σ:Fr)(o:Oper):Option Nat:=
 match o.op with
 | .load _ a=>blk (ev σ a)
 | .lookup _ a _ _=>blk (ev σ a)
 | .call c=>blk (ev σ (c.args.getD 0 (.const undef)))
 | _=>none
def nthN:List Nat->Nat->Nat
 | [],_=>0
 | l::_,0=>l
 | _::r,n+1=>nthN r n
def selB(nd:Nat):List (Nat×Option Nat)->List (Option Nat)
 | []=>[]
 | p::l=>bif nd.testBit p.1 then p.2::selB nd l else selB nd l
def regX(P:Program)(E:Pan)(ops:List Oper)(need:List Nat)(pd:List (Nat×Option Nat)):Ord->Fr->World->(Fr->World->Prop)->Prop
 | .done,σ,w,K=>K σ w
 | .early i k,σ,w,K=>
  match ops[i]? with
  | none=>False
  | some o=>
   match mvX ops σ o with
   | some v=>regX P E ops need pd k (up σ o.dst v) w K
   | none=>qP P (gopS ops σ o) λv=>regX P E ops need pd k (up σ o.dst v) w K
 | .load i k,σ,w,K=>
  match ops[i]? with
  | none=>False
  | some o=>qL P w (rdB σ o) (gopS ops σ o) λv=>regX P E ops need ((i,rdB σ o)::pd) k (up σ o.dst v) w K
 | .step i k,σ,w,K=>
  match ops[i]? with
  | none=>False
  | some o=>opK P E (gopS ops σ o) w λv w'=>keepX (selB (nthN need i) pd) w w' (regX P E ops need pd k (up σ o.dst v) w' K)
 | .alt i k r,σ,w,K=>
  match ops[i]? with
  | none=>False
  | some o=>(opK P E (gopS ops σ o) w λv w'=>keepX (selB (nthN need i) pd) w w' (regX P E ops need pd k (up σ o.dst v) w' K))/\regX P E ops need pd r σ w K
def altsO:Ord->List Nat
 | .step i _=>[i]
 | .alt i _ r=>i::altsO r
 | _=>[]
def depM(o:Oper):Nat:=o.after.toList.foldr (λe m=>bif Region.binds .any e then m ||| (1 <<< e.on) else m) 0
def slotM(l:List Nat):Nat:=l.foldr (λt m=>m ||| (1 <<< t)) 0
def dstM(o:Oper):Nat:=
 match o.dst with
 | some d=>1 <<< d
 | none=>0
def msGo(ops:Array Oper):List Oper->List (Nat×Nat×Nat)->Bool
 | [],[]=>true
 | o::os,(d,t,l)::r=>Nat.beq d (depM o)&&(Nat.beq t (dstM o)&&(Nat.beq l (slotM (o.looksAt ops))&&msGo ops os r))
 | _,_=>false
def pairOk(i j:Nat)(p q:Nat×Nat×Nat):Bool:=
 (Nat.beq (p.2.1 &&& (q.2.2 ||| q.2.1)) 0&&Nat.beq (q.2.1 &&& p.2.2) 0)||(q.1.testBit i||p.1.testBit j)
def pairsGo(i:Nat)(p:Nat×Nat×Nat):Nat->List (Nat×Nat×Nat)->Bool
 | _,[]=>true
 | j,q::r=>pairOk i j p q&&pairsGo i p (j+1) r
def pairsAll:Nat->List (Nat×Nat×Nat)->Bool
 | _,[]=>true
 | i,p::r=>pairsGo i p (i+1) r&&pairsAll (i+1) r
def rdyB(d L:Nat):Bool:=Nat.beq (d &&& L) d
def rdyIn(L:Nat)(alts:List Nat):Nat->List (Nat×Nat×Nat)->Bool
 | _,[]=>true
 | k,p::r=>(L.testBit k||(!rdyB p.1 L||memb alts k))&&rdyIn L alts (k+1) r
def nthM:List (Nat×Nat×Nat)->Nat->Option (Nat×Nat×Nat)
 | [],_=>none
 | p::_,0=>some p
 | _::r,n+1=>nthM r n
def isRdy(ms:List (Nat×Nat×Nat))(L i:Nat):Bool:=
 match nthM ms i with
 | some p=>!L.testBit i&&rdyB p.1 L
 | none=>false
def waitM(i:Nat):Nat->Nat->List (Nat×Nat×Nat)->Nat
 | _,acc,[]=>acc
 | k,acc,p::r=>bif Nat.beq (p.1 &&& acc) 0 then waitM i (k+1) acc r else waitM i (k+1) (acc ||| (1 <<< k)) r
def needGo(L W i:Nat):Nat->List Nat->List (Nat×Nat×Nat)->Bool
 | _,_,[]=>true
 | k,[],_::r=>(Nat.beq k i||(L.testBit k||W.testBit k))&&needGo L W i (k+1) [] r
 | k,n::ns,_::r=>(Nat.beq k i||(L.testBit k||(n.testBit i||W.testBit k)))&&needGo L W i (k+1) ns r
def okM(ms:List (Nat×Nat×Nat))(need:List Nat):Nat->Bool->Ord->Nat->Bool
 | _,_,.done,L=>rdyIn L [] 0 ms
 | f+1,_,.early i k,L=>isRdy ms L i&&okM ms need f true k (L ||| (1 <<< i))
 | f+1,_,.load i k,L=>isRdy ms L i&&(needGo L (waitM i 0 (1 <<< i) ms) i 0 need ms&&okM ms need f true k (L ||| (1 <<< i)))
 | f+1,hd,.step i k,L=>(!hd||(isRdy ms L i&&rdyIn L [i] 0 ms))&&okM ms need f true k (L ||| (1 <<< i))
 | f+1,hd,.alt i k r,L=>(!hd||(isRdy ms L i&&rdyIn L (i::altsO r) 0 ms))&&(okM ms need f true k (L ||| (1 <<< i))&&okM ms need (f+1) false r L)
 | 0,_,_,_=>false
def dokL(N:Nat):List Nat->Bool
 | []=>true
 | d::l=>Nat.blt d N&&dokL N l
inductive Hint where
 | none
 | seq (a b:Hint)
 | cut (S:List Nat) (a b:Hint)
 | cond (a b:Hint)
 | block (a:Hint)
 | loop (S:List Nat) (a:Hint)
 | scope (a:Hint)
 | reg (ms:List (Nat×Nat×Nat)) (need:List Nat) (o:Ord)
def lReg(ops:Array Oper)(draw:Bool)(h:Hint):Bool:=
 match draw,h with
 | true,.reg ms need o=>Region.noSelect ops&&(msGo ops ops.toList ms&&(pairsAll 0 ms&&okM ms need ops.size true o 0))
 | true,_=>false
 | false,_=>true
def lSeq(x y:Hint->Bool)(h:Hint):Bool:=
 match h with
 | .cut _ a b=>x a&&y b
 | .seq a b=>x a&&y b
 | _=>false
def lCond(x y:Hint->Bool)(h:Hint):Bool:=
 match h with
 | .cond a b=>x a&&y b
 | _=>false
def lBlock(x:Hint->Bool)(h:Hint):Bool:=
 match h with
 | .block a=>x a
 | _=>false
def lLoop(x:Hint->Bool)(h:Hint):Bool:=
 match h with
 | .loop _ a=>x a
 | _=>false
def lScope(x:Hint->Bool)(h:Hint):Bool:=
 match h with
 | .scope a=>x a
 | _=>false
noncomputable def lexOk(c:Code):Hint->Bool:=
 Code.rec (motive:=λ_=>Hint->Bool) (λ_=>true) (λ_ ops draw=>lReg ops draw) (λ_ _ x y=>lSeq x y) (λ_ _ _ x y=>lCond x y) (λ_ _ x=>lBlock x) (λ_ x=>lLoop x) (λ_ _ _ _ _ _ _=>true) (λ_ _=>true) (λ_ x=>lScope x) (λ_ _=>true) (λ_ _=>true) (λ_=>true) (λ_ _=>true) c
theorem b6f(x y:Code)(h:Hint):lexOk (.seq x y) h=lSeq (lexOk x) (lexOk y) h:=rfl
theorem b4q(o:Operand)(x y:Code)(h:Hint):lexOk (.cond o x y) h=lCond (lexOk x) (lexOk y) h:=rfl
theorem b1c(i:Nat)(ops:Array Oper)(d:Bool)(h:Hint):lexOk (.region i ops d) h=lReg ops d h:=rfl
def nth:List Value->Nat->Value
 | [],_=>undef
 | v::_,0=>v
 | _::l,n+1=>nth l n
def pickS:List Nat->List Value->Nat->Option Value
 | [],_,_=>none
 | s::S,l,i=>bif Nat.beq i s then some (nth l 0) else pickS S l.tail i
def fill(σ:Fr)(D:List Nat)(S:List Nat)(l:List Value)(τ:Fr):Fr:=λi=>
 match pickS S l i with
 | some v=>v
 | none=>bif memb D i then τ i else σ i
def xcut(K:List Value->World->Prop)(body:(List Value->World->Prop)->Prop):Prop:=body K
def fill'(σ:Fr)(D:List Nat)(τ:Fr):Fr:=λi=>bif memb D i then τ i else σ i
abbrev thenX(K:Fr->World->Prop)(Q:Exit->Fr->World->Prop):Exit->Fr->World->Prop
 | .normal,σ,w=>K σ w
 | e,σ,w=>Q e σ w
abbrev inBlockX(id:Nat)(Q:Exit->Fr->World->Prop):Exit->Fr->World->Prop
 | .exit id',σ,w=>bif Nat.beq id' id then Q .normal σ w else Q (.exit id') σ w
 | e,σ,w=>Q e σ w
abbrev noGotoX(Q:Exit->Fr->World->Prop):Exit->Fr->World->Prop
 | .goto _,_,_=>False
 | e,σ,w=>Q e σ w
def xcond(v:Value)(A B:Prop):Prop:=
 match v with
 | .bool true=>A
 | .bool false=>B
 | _=>False
def xloop(S:List Nat)(init:List Value)(w:World)(body:Fr->World->(List Value->World->Prop)->Prop):Prop:=
 ∃(I:List Value->World->Prop)(μ:List Value->World->Nat),I init w/\
  ∀(τ:Fr)(w':World),I (S.map τ) w'->body τ w' λl w''=>I l w''/\μ l w'' < μ (S.map τ) w'
abbrev WT:=Hint->Fr->World->(Exit->Fr->World->Prop)->Prop
abbrev wReg(P:Program)(E:Pan)(ops:Array Oper)(draw:Bool):WT:=λh σ w Q=>
 match draw with
 | false=>opsX P E ops.toList ops.toList σ w λσ' w'=>Q .normal σ' w'
 | true=>
  match h with
  | .reg _ need o=>dX w λw'=>regX P E ops.toList need [] o σ w' λσ' w''=>Q .normal σ' w''
  | _=>False
abbrev wSeq(X Y:WT)(D:List Nat):WT:=λh σ w Q=>
 match h with
 | .cut S hx hy=>xcut (λl w1=>∀τ:Fr,Y hy (fill σ D S l τ) w1 Q) λJ=>X hx σ w (thenX (λσ1 w1=>J (S.map σ1) w1) Q)
 | .seq hx hy=>X hx σ w (thenX (λσ1 w1=>Y hy σ1 w1 Q) Q)
 | _=>False
abbrev wCond(c:Operand)(X Y:WT):WT:=λh σ w Q=>
 match h with
 | .cond hx hy=>xcond (ev σ c) (X hx σ w Q) (Y hy σ w Q)
 | _=>False
abbrev wBlock(id:Nat)(X:WT):WT:=λh σ w Q=>
 match h with
 | .block hc=>X hc σ w (inBlockX id Q)
 | _=>False
abbrev wLoop(X:WT)(D:List Nat):WT:=λh σ w Q=>
 match h with
 | .loop S hc=>xloop S (S.map σ) w λτ w' next=>X hc (fill' σ D τ) w' (thenX (λσ' w''=>next (S.map σ') w'') Q)
 | _=>False
abbrev wScope(X:WT):WT:=λh σ w Q=>
 match h with
 | .scope hc=>X hc σ w (noGotoX Q)
 | _=>False
noncomputable def WPx(P:Program)(E:Pan)(c:Code):WT:=
 Code.rec (motive:=λ_=>WT) (λ_ σ w Q=>Q .normal σ w) (λ_ ops draw=>wReg P E ops draw) (λx _ X Y=>wSeq X Y (dsts x)) (λc _ _ X Y=>wCond c X Y) (λid _ X=>wBlock id X) (λb X=>wLoop X (dsts b))
  (λ_ _ _ _ _ _ _ _ _ _=>False) (λid _ σ w Q=>Q (.exit id) σ w) (λ_ X=>wScope X) (λ_ _ σ w Q=>Q .normal σ w) (λ_ _ _ _ _=>False) (λ_ σ w Q=>Q .ret σ w) (λ_ _ _ _ _=>False) c
def Rep(N:Nat)(a:Act)(σ:Fr):Prop:=a.defers=[]/\a.tmps.size=N/\∀i,a.tmps.getD i undef = σ i
section
variable {P:Program}{N:Nat}
theorem Rep.eval{a:Act}{σ:Fr}(h:Rep N a σ):a.eval=ev σ:=by
 funext x
 cases x with
 | tmp t=>exact h.2.2 t
 | _=>rfl
theorem Rep.put{a:Act}{σ:Fr}(h:Rep N a σ){d:Option Nat}(hd:∀k,d=some k->k < N)(v:Value):Rep N (a.put d v) (up σ d v):=by
 cases d with
 | none=>exact h
 | some k=>
  have hk:=hd k rfl
  refine ⟨h.1,by simp [Act.put,h.2.1],λi=>?_⟩
  simp only [Act.put,up]
  have hi:=h.2.2 i
  simp only [Array.getD_eq_getD_getElem?,Array.getElem?_setIfInBounds] at hi ⊢
  by_cases e:k=i
  ·subst e
   have:k < a.tmps.size:=by rw [h.2.1];exact hk
   simp [this]
  ·have e':Nat.beq i k=false:=by
    rw [Bool.eq_false_iff];intro hb;exact e (Nat.eq_of_beq_eq_true hb).symm
   simp only [e,if_false,e',cond_false]
   exact hi
theorem d5a(σ:Fr)(d:Option Nat)(v:Value)(i:Nat)(h:d≠some i):up σ d v i = σ i:=by
 cases d with
 | none=>rfl
 | some k=>
  have e':Nat.beq i k=false:=by
   rw [Bool.eq_false_iff];intro hb;exact h (by rw [Nat.eq_of_beq_eq_true hb])
  simp [up,e']
theorem e1v{ops:List Oper}{a:Act}{σ:Fr}(h:Rep N a σ)(j:Nat):yielded ops.toArray a.tmps j=yldX ops σ j:=by
 unfold yielded yldX
 simp only [List.getElem?_toArray]
 cases ho:ops[j]? with
 | none=>rfl
 | some o=>
  cases hd:o.dst with
  | none=>simp [hd]
  | some d=>
   have hi:=h.2.2 d
   simp only [Array.getD_eq_getD_getElem?] at hi
   simp only [Option.bind_some,hd]
   rw [←hi]
   cases a.tmps[d]? with
   | none=>rfl
   | some v=>cases v<;>rfl
theorem b9e{ops:List Oper}{a:Act}{σ:Fr}(h:Rep N a σ)(o:Oper):
  Region.wanted o (yielded ops.toArray a.tmps)=(match o.guard with | none=>true | some (j,want)=>yldX ops σ j == some want):=by
 unfold Region.wanted
 cases o.guard with
 | none=>rfl
 | some g=>obtain ⟨j,want⟩:=g;simp only [e1v h]
theorem c5L{E:Pan}{s:Sem Next}{o:Oper}{a:Act}{w:World}{K:Value->World->Prop}{next:Act->World->Prop}{Q:Exit->Act->World->Prop}
  (hs:execOp a.eval o=s) (h:opK P E s w K) (hn:∀v w',K v w'->next (a.put o.dst v) w') (hE:∀c w',E c w'->Q (.panic c) a w'):o.wp P a w next Q:=by
 unfold Oper.wp
 rw [hs]
 unfold opK at h
 generalize s.run P w=r at h
 cases r with
 | halt x w'=>
  cases x<;>first | exact h.elim | exact hE _ _ h
 | ok n w'=>
  cases n<;>simp only at h<;>simp only [Oper.upon]
  case value v=>exact hn _ _ h
  case skip=>exact hn _ _ h
  case enter f args=>
   refine Calls.mono h λe w'' hk=>?_
   cases e with
   | returned v=>exact hn _ _ hk
   | panicked c=>exact hE _ _ hk
   | outgrown=>exact hk.elim
theorem c8D{ops:List Oper}{σ:Fr}{o:Oper}{v:Value}(h:mvX ops σ o=some v):gopS ops σ o=pure (.value v):=by
 unfold mvX at h
 unfold gopS
 split at h
 ·rename_i x hx
  cases hg:o.guard with
  | none=>
   simp only [hg,Option.some.injEq] at h
   subst h
   simp only [b2f,execOp,hx]
  | some g=>
   obtain ⟨j,want⟩:=g
   simp only [hg,Option.some.injEq] at h
   subst h
   simp only [b2f,execOp,hx,gsem,gval]
   cases (yldX ops σ j == some want)<;>rfl
 ·rename_i x hx
  cases hg:o.guard with
  | none=>
   simp only [hg,Option.some.injEq] at h
   subst h
   simp only [b2f,execOp,hx]
  | some g=>
   obtain ⟨j,want⟩:=g
   simp only [hg,Option.some.injEq] at h
   subst h
   simp only [b2f,execOp,hx,gsem,gval]
   cases (yldX ops σ j == some want)<;>rfl
 ·cases h
theorem d1U{E:Pan}{ops:List Oper}{o:Oper}{r:List Oper}{σ:Fr}{w:World}{K:Fr->World->Prop}(h:opsX P E ops (o::r) σ w K):
  opK P E (gopS ops σ o) w λv w'=>opsX P E ops r (up σ o.dst v) w' K:=by
 unfold opsX at h
 split at h
 ·rename_i v hv
  rw [c8D hv]
  exact h
 ·exact h
def dokO(N:Nat)(l:List Oper):Prop:=∀o∈l,∀k,o.dst=some k->k < N
theorem d8p{l:List Oper}(h:dokL N (dstsL l)=true):dokO N l:=by
 induction l with
 | nil=>intro o ho;cases ho
 | cons x l ih=>
  cases hd:x.dst with
  | none=>
   simp only [dstsL,hd] at h
   intro o ho k hk
   rcases List.mem_cons.1 ho with rfl | ho
   ·rw [hd] at hk;cases hk
   ·exact ih h o ho k hk
  | some d=>
   simp only [dstsL,hd,dokL,Bool.and_eq_true] at h
   intro o ho k hk
   rcases List.mem_cons.1 ho with rfl | ho
   ·rw [hd] at hk;cases hk
    exact Nat.le_of_ble_eq_true h.1
   ·exact ih h.2 o ho k hk
def Kept(D:List Nat)(σ σ':Fr):Prop:=∀i,memb D i=false->σ' i = σ i
theorem c1c(a b:List Nat)(i:Nat):memb (a++b) i=(memb a i||memb b i):=by
 induction a with
 | nil=>rfl
 | cons d a ih=>
  simp only [List.cons_append,memb]
  cases Nat.beq i d<;>simp [ih]
theorem Kept.refl(D:List Nat)(σ:Fr):Kept D σ σ:=λ_ _=>rfl
theorem Kept.trans{D:List Nat}{a b c:Fr}(h:Kept D a b)(k:Kept D b c):Kept D a c:=λi hi=>(k i hi).trans (h i hi)
theorem Kept.left{D E:List Nat}{a b:Fr}(h:Kept D a b):Kept (D++E) a b:=λi hi=>h i (by rw [c1c] at hi;exact (Bool.or_eq_false_iff.1 hi).1)
theorem Kept.right{D E:List Nat}{a b:Fr}(h:Kept E a b):Kept (D++E) a b:=λi hi=>h i (by rw [c1c] at hi;exact (Bool.or_eq_false_iff.1 hi).2)
theorem Kept.up{D:List Nat}{a b:Fr}(h:Kept D a b){d:Option Nat}(hd:∀k,d=some k->memb D k=true)(v:Value):Kept D a (up b d v):=λi hi=>
 (d5a b d v i (λe=>by rw [hd i e] at hi;cases hi)).trans (h i hi)
theorem d0p{o:Oper}{l:List Oper}(ho:o∈l){k:Nat}(hk:o.dst=some k):memb (dstsL l) k=true:=by
 induction l with
 | nil=>cases ho
 | cons x l ih=>
  rcases List.mem_cons.1 ho with rfl | ho
  ·simp only [dstsL,hk,memb,Nat.beq_refl,cond_true]
  ·cases hd:x.dst with
   | none=>simp only [dstsL,hd];exact ih ho
   | some d=>
    simp only [dstsL,hd,memb]
    cases Nat.beq k d
    ·exact ih ho
    ·rfl
theorem d0q{E:Pan}{ops:List Oper}{Q:Exit->Act->World->Prop}{K:Fr->World->Prop}{D:List Nat}{σ₀:Fr}(hE:∀c a w,a.defers=[]->E c w->Q (.panic c) a w):∀(l:List Oper),(∀o∈l,o∈ops)->dokO N ops->(∀o∈ops,∀k,o.dst=some k->memb D k=true)->
  ∀(σ:Fr)(a:Act)(w:World),Rep N a σ->Kept D σ₀ σ->opsX P E ops l σ w K->
  (∀σ' a' w',Rep N a' σ'->Kept D σ₀ σ'->K σ' w'->Q .normal a' w')->wpList P ops.toArray Q l a w:=by
 intro l
 induction l with
 | nil=>intro _ _ _ σ a w hr hk h hq;exact hq _ _ _ hr hk h
 | cons o r ih=>
  intro hsub hdok hD σ a w hr hk h hq
  have hstep:=d1U h
  have hput:∀v,Rep N (a.put o.dst v) (up σ o.dst v):=λv=>hr.put (λk hk=>hdok o (hsub o (List.mem_cons_self ..)) k hk) v
  have hkeep:∀v,Kept D σ₀ (up σ o.dst v):=λv=>hk.up (λk hk=>hD o (hsub o (List.mem_cons_self ..)) k hk) v
  have hnext:∀v w',opsX P E ops r (up σ o.dst v) w' K->wpList P ops.toArray Q r (a.put o.dst v) w':=λv w' hh=>
   ih (λo' ho'=>hsub o' (List.mem_cons_of_mem _ ho')) hdok hD _ _ _ (hput v) (hkeep v) hh hq
  refine wpList_step λK' hK'=>?_
  rw [b9e hr]
  unfold gopS at hstep
  simp only [b2f] at hstep
  cases hg:o.guard with
  | none=>
   simp only [hg] at hstep
   simp only [if_true]
   exact c5L (by rw [hr.eval]) hstep (λv w' hh=>hK' _ _ (hnext v w' hh)) λc w' he=>hE _ _ _ hr.1 he
  | some g=>
   obtain ⟨j,want⟩:=g
   simp only [hg,gsem] at hstep
   by_cases hw:(yldX ops σ j == some want)=true
   ·simp only [hw,cond_true] at hstep
    simp only [hw,if_true]
    exact c5L (by rw [hr.eval]) hstep (λv w' hh=>hK' _ _ (hnext v w' hh)) λc w' he=>hE _ _ _ hr.1 he
   ·have hw':(yldX ops σ j == some want)=false:=by simpa using hw
    simp only [hw',cond_false] at hstep
    simp only [hw',Bool.false_eq_true,if_false]
    exact hK' _ _ (hnext undef w hstep)
def opA(P:Program)(E:Pan)(o:Oper)(a:Act)(w:World)(K:Act->World->Prop):Prop:=
 match (execOp a.eval o).run P w with
 | .ok (.value v) w'=>K (a.put o.dst v) w'
 | .ok .skip w'=>K (a.put o.dst undef) w'
 | .ok (.enter f args) w'=>Cv P f args w' (λv w''=>K (a.put o.dst v) w'') E
 | .halt (.panic v) w'=>E [{ v,recovered:=false }] w'
 | _=>False
def wOp(P:Program)(E:Pan)(ops:Array Oper)(i:Nat)(K:Act->World->Prop)(a:Act)(w:World):Prop:=
 match ops[i]? with
 | none=>K a w
 | some o=>if Region.wanted o (yielded ops a.tmps) then opA P E o a w K else K (a.put o.dst undef) w
theorem d5b{E:Pan}{o:Oper}{a:Act}{w:World}{K K':Act->World->Prop}(hk:∀a w,K a w->K' a w)(h:opA P E o a w K):opA P E o a w K':=by
 unfold opA at *
 generalize (execOp a.eval o).run P w=r at *
 cases r with
 | ok n w'=>
  cases n<;>simp only at h ⊢
  case value v=>exact hk _ _ h
  case skip=>exact hk _ _ h
  case enter f args=>exact Cv.mono h (λv w' h=>hk _ _ h) λ_ _ h=>h
 | halt x w'=>cases x<;>simp only at h ⊢ <;> exact h
theorem b7C{E:Pan}{ops:Array Oper}{i:Nat}{a:Act}{w:World}{K K':Act->World->Prop}(hk:∀a w,K a w->K' a w)(h:wOp P E ops i K a w):wOp P E ops i K' a w:=by
 unfold wOp at *
 split
 ·rename_i ho;simp only [ho] at h;exact hk _ _ h
 ·rename_i o ho
  simp only [ho] at h
  split
  ·rename_i hw;simp only [hw,if_true] at h;exact d5b hk h
  ·rename_i hw;simp only [hw] at h;exact hk _ _ h
theorem put_defers(a:Act)(d:Option Tmp)(v:Value):(a.put d v).defers=a.defers:=by cases d<;>rfl
theorem c7Y{E:Pan}{ops:Array Oper}{Q:Exit->Act->World->Prop}{i:Nat}{a:Act}{w:World}{K:Act->World->Prop}(hd:a.defers=[])(hE:∀c a w,a.defers=[]->E c w->Q (.panic c) a w)
  (h:wOp P E ops i K a w):wpOp P ops Q i (λa' w'=>a'.defers=[]/\K a' w') a w:=by
 unfold wOp at h
 unfold wpOp
 split
 ·rename_i ho;simp only [ho] at h;exact ⟨hd,h⟩
 ·rename_i o ho
  simp only [ho] at h
  split
  ·rename_i hw
   simp only [hw,if_true] at h
   refine .inl ?_
   unfold opA at h
   unfold Oper.wp
   generalize (execOp a.eval o).run P w=r at *
   cases r with
   | ok n w'=>
    cases n<;>simp only at h<;>simp only [Oper.upon]
    case value v=>exact ⟨by rw [put_defers];exact hd,h⟩
    case skip=>exact ⟨by rw [put_defers];exact hd,h⟩
    case enter f args=>
     refine Calls.mono h λe w'' hk=>?_
     cases e with
     | returned v=>exact ⟨by rw [put_defers];exact hd,hk⟩
     | panicked c=>exact hE _ _ _ hd hk
     | outgrown=>exact hk.elim
   | halt x w'=>cases x<;>simp only at h<;>simp only [Oper.upon]<;>exact hE _ _ _ hd h
  ·rename_i hw;simp only [hw] at h;exact ⟨by rw [put_defers];exact hd,h⟩
def wpE(P:Program)(E:Pan)(ops:Array Oper)(need:List Nat)(pd:List (Nat×Option Nat))(Q:Act->World->Prop):Nat->Array Bool->Act->World->Prop
 | 0,L,a,w=>Region.ready .any ops L=[]/\Q a w
 | f+1,L,a,w=>(Region.ready .any ops L=[]->Q a w)/\
  ∀i∈Region.ready .any ops L,wOp P E ops i (λa' w'=>(∀p∈pd,(nthN need i).testBit p.1=true->sameB p.2 w w')/\wpE P E ops need pd Q f (L.setIfInBounds i true) a' w') a w
theorem b9f{E:Pan}{ops:Array Oper}{need:List Nat}{pd:List (Nat×Option Nat)}{Q:Act->World->Prop}{Q':Exit->Act->World->Prop}(hE:∀c a w,a.defers=[]->E c w->Q' (.panic c) a w)(hQ:∀a w,a.defers=[]->Q a w->Q' .normal a w):
  ∀(f:Nat)(L:Array Bool)(a:Act)(w:World),a.defers=[]->wpE P E ops need pd Q f L a w->wpAny P .any ops Q' f L a w
 | 0,_,_,_,hd,h=>⟨h.1,hQ _ _ hd h.2⟩
 | f+1,_,_,_,hd,h=>⟨λh0=>hQ _ _ hd (h.1 h0),λi hi=>wpOp_mono (λa' w' h'=>b9f hE hQ f _ a' w' h'.1 h'.2.2) (c7Y hd hE (h.2 i hi))⟩
def YC(P:Program)(ops:Array Oper)(C:World->Prop)(o:Oper)(v:Value)(a:Act):Prop:=
 (Region.wanted o (yielded ops a.tmps)=true/\∀w,C w->(execOp a.eval o).run P w=.ok (.value v) w)\/(Region.wanted o (yielded ops a.tmps)=false/\v=undef)
theorem YC.of_same{ops:Array Oper}{C:World->Prop}{o:Oper}{v:Value}{a a':Act}(hy:YC P ops C o v a)(he:execOp a'.eval o=execOp a.eval o)
  (hw:Region.wanted o (yielded ops a'.tmps)=Region.wanted o (yielded ops a.tmps)):YC P ops C o v a':=by
 unfold YC at *
 rw [he,hw]
 exact hy
theorem YC.wOp{E:Pan}{ops:Array Oper}{C:World->Prop}{i:Nat}{o:Oper}{v:Value}{a:Act}(hi:ops[i]? = some o)(hy:YC P ops C o v a){K:Act->World->Prop}{w:World}(hC:C w)(h:K (a.put o.dst v) w):wOp P E ops i K a w:=by
 unfold Go.Proofs.YthjlehnccgjpoaaGreatDoor.wOp
 simp only [hi]
 rcases hy with ⟨hw,hv⟩ | ⟨hw,rfl⟩
 ·simp only [hw,if_true,opA,hv w hC];exact h
 ·simp only [hw,Bool.false_eq_true,if_false];exact h
theorem d8q{E:Pan}{ops:Array Oper}{C:World->Prop}{j:Nat}{oi oj:Oper}{v:Value}(hj:ops[j]? = some oj)(hap:oi.apart ops oj=true)
  (hsi:∀cs b,oi.op≠.select cs b) (hsj:∀cs b,oj.op≠.select cs b) {K:Act->World->Prop} {a:Act} {w:World}
  (hy:YC P ops C oi v a) (h:wOp P E ops j K (a.put oi.dst v) w):
  wOp P E ops j (λa' w'=>YC P ops C oi v a'/\K (a'.put oi.dst v) w') a w:=by
 obtain ⟨h1,h2,h3⟩:=Oper.apart_spec hap
 have keep:∀u,YC P ops C oi v (a.put oj.dst u):=λu=>
  hy.of_same (execOp_put oi hsi a oj.dst u h3) (wanted_put oi a oj.dst u h3)
 unfold wOp at *
 simp only [hj] at *
 rw [wanted_put oj a oi.dst v h1] at h
 split
 ·rename_i hw
  simp only [hw,if_true] at h
  unfold opA at *
  rw [execOp_put oj hsj a oi.dst v h1] at h
  generalize (execOp a.eval oj).run P w=r at *
  cases r with
  | ok n w'=>
   cases n<;>simp only at h ⊢
   case value u=>exact ⟨keep u,by rw [←Act.put_comm a v u h2];exact h⟩
   case skip=>exact ⟨keep _,by rw [←Act.put_comm a v undef h2];exact h⟩
   case enter f args=>exact Cv.mono h (λu w' h=>⟨keep u,by rw [←Act.put_comm a v u h2];exact h⟩) λ_ _ h=>h
  | halt x w'=>cases x<;>simp only at h ⊢ <;> exact h
 ·rename_i hw
  simp only [hw] at h
  exact ⟨keep _,by rw [←Act.put_comm a v undef h2];exact h⟩
inductive Waits (ops:Array Oper) (i:Nat):Nat->Prop where
 | one {k:Nat} {o:Oper} (ho:ops[k]? = some o) {e} (he:e∈o.after) (hb:Region.binds .any e=true) (hi:e.on=i):Waits ops i k
 | more {k:Nat} {o:Oper} (ho:ops[k]? = some o) {e} (he:e∈o.after) (hb:Region.binds .any e=true) (hi:Waits ops i e.on):Waits ops i k
def Closed(ops:Array Oper)(L:Array Bool):Prop:=∀j oj,ops[j]? = some oj->L.getD j false=true->∀e∈oj.after,Region.binds .any e=true->L.getD e.on false=true
theorem Closed.waits{ops:Array Oper}{L:Array Bool}(hc:Closed ops L){i k:Nat}(h:Waits ops i k)(hk:L.getD k false=true):L.getD i false=true:=by
 induction h with
 | one ho he hb hi=>subst hi;exact hc _ _ ho hk _ he hb
 | more ho he hb _ ih=>exact ih (hc _ _ ho hk _ he hb)
theorem d0r{L:Array Bool}{i:Nat}(h:L.getD i false=true)(k:L.getD i true=false):False:=by
 rcases Nat.lt_or_ge i L.size with h' | h'
 ·simp [h'] at h k;rw [h] at k;cases k
 ·simp [Array.getElem?_eq_none h'] at h
theorem c7Z{ops:Array Oper}{L:Array Bool}(hc:Closed ops L){i k:Nat}(h:Waits ops i k)(hr:k∈Region.ready .any ops L):L.getD i false=true:=by
 obtain ⟨_,o,ho,hall⟩:=mem_ready.1 hr
 cases h with
 | one ho' he hb hi=>
  obtain rfl:=Option.some.inj (ho.symm.trans ho')
  subst hi
  exact hall _ he hb
 | more ho' he hb hi=>
  obtain rfl:=Option.some.inj (ho.symm.trans ho')
  exact hc.waits hi (hall _ he hb)
theorem Closed.set{ops:Array Oper}{L:Array Bool}(hc:Closed ops L){i:Nat}(hr:i∈Region.ready .any ops L):Closed ops (L.setIfInBounds i true):=by
 obtain ⟨_,oi,hoi,hall⟩:=mem_ready.1 hr
 intro j oj hj hl e he hb
 by_cases hij:i=j
 ·subst hij
  obtain rfl:=Option.some.inj (hoi.symm.trans hj)
  exact getD_set_true (hall e he hb)
 ·rw [getD_set_ne false hij] at hl
  exact getD_set_true (hc j oj hj hl e he hb)
def FreeP(ops:Array Oper)(L:Array Bool)(i:Nat):Prop:=∀oi j oj,ops[i]? = some oi->ops[j]? = some oj->j≠i->L.getD j true=false->(∀e∈oj.after,Region.binds .any e=true->e.on≠i)->oi.apart ops oj=true
def NeedP(ops:Array Oper)(need:List Nat)(L:Array Bool)(i:Nat):Prop:=∀j,j < ops.size->j≠i->L.getD j true=false->(nthN need j).testBit i=true\/Waits ops i j
def OkP(ops:Array Oper)(need:List Nat):Nat->Bool->Ord->Array Bool->Prop
 | _,_,.done,L=>Region.ready .any ops L=[]
 | f+1,_,.early i k,L=>i∈Region.ready .any ops L/\FreeP ops L i/\OkP ops need f true k (L.setIfInBounds i true)
 | f+1,_,.load i k,L=>i∈Region.ready .any ops L/\FreeP ops L i/\NeedP ops need L i/\OkP ops need f true k (L.setIfInBounds i true)
 | f+1,hd,.step i k,L=>(hd=true->i∈Region.ready .any ops L/\∀j∈Region.ready .any ops L,j∈altsO (.step i k))/\(i∈Region.ready .any ops L->OkP ops need f true k (L.setIfInBounds i true))
 | f+1,hd,.alt i k r,L=>(hd=true->i∈Region.ready .any ops L/\∀j∈Region.ready .any ops L,j∈altsO (.alt i k r))/\(i∈Region.ready .any ops L->OkP ops need f true k (L.setIfInBounds i true))/\OkP ops need (f+1) false r L
 | 0,_,_,_=>False
theorem a5b(k j:Nat):(1 <<< k).testBit j=decide (j=k):=by
 rw [Nat.one_shiftLeft,Nat.testBit_two_pow]
 exact decide_eq_decide.2 ⟨λh=>h.symm,λh=>h.symm⟩
theorem b5a(o:Oper)(j:Nat):(depM o).testBit j=true↔∃e∈o.after,Region.binds .any e=true/\e.on=j:=by
 unfold depM
 have h:∀l:List Edge,(l.foldr (λe m=>bif Region.binds .any e then m ||| (1 <<< e.on) else m) 0).testBit j=true↔∃e∈l,Region.binds .any e=true/\e.on=j:=by
  intro l
  induction l with
  | nil=>simp
  | cons e l ih=>
   simp only [List.foldr_cons,List.mem_cons]
   cases hb:Region.binds .any e with
   | false=>
    simp only [cond_false,ih]
    constructor
    ·rintro ⟨e',h1,h2⟩;exact ⟨e',.inr h1,h2⟩
    ·rintro ⟨e',h1 | h1,h2,h3⟩
     ·subst h1;rw [hb] at h2;cases h2
     ·exact ⟨e',h1,h2,h3⟩
   | true=>
    simp only [cond_true,Nat.testBit_or,Bool.or_eq_true,ih,a5b,decide_eq_true_eq]
    constructor
    ·rintro (⟨e',h1,h2⟩ | h)
     ·exact ⟨e',.inr h1,h2⟩
     ·exact ⟨e,.inl rfl,hb,h.symm⟩
    ·rintro ⟨e',h1 | h1,h2,h3⟩
     ·subst h1;exact .inr h3.symm
     ·exact .inl ⟨e',h1,h2,h3⟩
 rw [h]
 simp
theorem d1V(l:List Nat)(t:Nat):(slotM l).testBit t=true↔t∈l:=by
 unfold slotM
 induction l with
 | nil=>simp
 | cons x l ih=>
  rw [List.foldr_cons,Nat.testBit_or,Bool.or_eq_true,ih,a5b,decide_eq_true_eq,List.mem_cons]
  exact or_comm
theorem d5c(o:Oper)(t:Nat):(dstM o).testBit t=true↔o.dst=some t:=by
 unfold dstM
 cases h:o.dst with
 | none=>simp
 | some d=>
  rw [a5b,decide_eq_true_eq,Option.some.injEq]
  exact eq_comm
theorem d6V{a b:Nat}(h:Nat.beq (a &&& b) 0=true)(t:Nat):¬(a.testBit t=true/\b.testBit t=true):=by
 intro ⟨h1,h2⟩
 have h0:=Nat.eq_of_beq_eq_true h
 have:(a &&& b).testBit t=true:=by rw [Nat.testBit_and,h1,h2];rfl
 rw [h0] at this
 simp at this
structure MsOk (ops:Array Oper) (ms:List (Nat×Nat×Nat)):Prop where
 len:ms.length=ops.size
 at_:∀i o,ops[i]? = some o->nthM ms i=some (depM o,dstM o,slotM (o.looksAt ops))
theorem c8E{ops:Array Oper}:∀(os:List Oper)(ms:List (Nat×Nat×Nat)),msGo ops os ms=true->ms.length=os.length/\∀i o,os[i]? = some o->nthM ms i=some (depM o,dstM o,slotM (o.looksAt ops))
 | [],[],_=>⟨rfl,λi o h=>by simp at h⟩
 | o::os,(d,t,l)::r,h=>by
  simp only [msGo,Bool.and_eq_true] at h
  obtain ⟨h1,h2⟩:=c8E os r h.2.2.2
  refine ⟨by simp [h1],λi o' ho=>?_⟩
  cases i with
  | zero=>
   simp only [List.getElem?_cons_zero,Option.some.injEq] at ho
   subst ho
   rw [nthM,Nat.eq_of_beq_eq_true h.1,Nat.eq_of_beq_eq_true h.2.1,Nat.eq_of_beq_eq_true h.2.2.1]
  | succ i=>exact h2 i o' (by simpa using ho)
 | [],_::_,h=>by cases h
 | _::_,[],h=>by simp [msGo] at h
theorem c2i{i:Nat}{p:Nat×Nat×Nat}:∀(r:List (Nat×Nat×Nat))(j0 j:Nat)(q:Nat×Nat×Nat),pairsGo i p j0 r=true->nthM r j=some q->pairOk i (j0+j) p q=true
 | [],_,_,_,_,h=>by cases h
 | x::r,j0,0,q,h,hq=>by
  simp only [pairsGo,Bool.and_eq_true] at h
  simp only [nthM,Option.some.injEq] at hq
  subst hq
  exact h.1
 | x::r,j0,j+1,q,h,hq=>by
  simp only [pairsGo,Bool.and_eq_true] at h
  have:=c2i r (j0+1) j q h.2 hq
  rwa [show j0+1+j=j0+(j+1) by omega] at this
theorem b6x:∀(l:List (Nat×Nat×Nat))(i0 i j:Nat)(p q:Nat×Nat×Nat),pairsAll i0 l=true->nthM l i=some p->nthM l j=some q->i < j->pairOk (i0+i) (i0+j) p q=true
 | [],_,_,_,_,_,_,h,_,_=>by cases h
 | x::l,i0,0,j+1,p,q,h,hp,hq,_=>by
  simp only [pairsAll,Bool.and_eq_true] at h
  simp only [nthM,Option.some.injEq] at hp
  subst hp
  have:=c2i l (i0+1) j q h.1 hq
  rwa [show i0+1+j=i0+(j+1) by omega] at this
 | x::l,i0,i+1,j+1,p,q,h,hp,hq,hij=>by
  simp only [pairsAll,Bool.and_eq_true] at h
  have:=b6x l (i0+1) i j p q h.2 hp hq (by omega)
  rwa [show i0+1+i=i0+(i+1) by omega,show i0+1+j=i0+(j+1) by omega] at this
 | _::_,_,_,0,_,_,_,_,_,h=>by omega
theorem c5M{ops:Array Oper}{x y:Oper}(h1:∀d,x.dst=some d->d ∉ y.looksAt ops)(h2:∀d,x.dst=some d->y.dst≠some d)(h3:∀d,y.dst=some d->d ∉ x.looksAt ops):x.apart ops y=true:=by
 unfold Oper.apart
 cases hx:x.dst with
 | none=>
  cases hy:y.dst with
  | none=>rfl
  | some e=>simp [h3 e hy]
 | some d=>
  have a1:=h1 d hx
  have a2:=h2 d hx
  cases hy:y.dst with
  | none=>simp [a1]
  | some e=>
   rw [hy] at a2
   simp only [Bool.and_eq_true,Bool.not_eq_true',bne_iff_ne,ne_eq]
   exact ⟨⟨by simpa using a1,by simpa using a2⟩,by simpa using h3 e hy⟩
theorem c2j{ops:Array Oper}{i j:Nat}{oi oj:Oper}(h:pairOk i j (depM oi,dstM oi,slotM (oi.looksAt ops)) (depM oj,dstM oj,slotM (oj.looksAt ops))=true):
  (oi.apart ops oj=true/\oj.apart ops oi=true)\/(∃e∈oj.after,Region.binds .any e=true/\e.on=i)\/(∃e∈oi.after,Region.binds .any e=true/\e.on=j):=by
 simp only [pairOk,Bool.or_eq_true,Bool.and_eq_true] at h
 rcases h with ⟨h1,h2⟩ | h | h
 ·have a:=d6V h1
  have b:=d6V h2
  simp only [Nat.testBit_or,Bool.or_eq_true,d5c,d1V] at a b
  exact .inl ⟨c5M (λd hd hm=>a d ⟨hd,.inl hm⟩) (λd hd he=>a d ⟨hd,.inr he⟩) (λd hd hm=>b d ⟨hd,hm⟩),
   c5M (λd hd hm=>b d ⟨hd,hm⟩) (λd hd he=>a d ⟨he,.inr hd⟩) (λd hd hm=>a d ⟨hd,.inl hm⟩)⟩
 ·exact .inr (.inl ((b5a _ _).1 h))
 ·exact .inr (.inr ((b5a _ _).1 h))
structure LM (ops:Array Oper) (L:Array Bool) (m:Nat):Prop where
 size:L.size=ops.size
 bit:∀k,L.getD k false=m.testBit k
theorem LM.un{ops:Array Oper}{L:Array Bool}{m:Nat}(h:LM ops L m){k:Nat}(hk:k < ops.size):L.getD k true=m.testBit k:=by
 rw [←h.bit k]
 have:k < L.size:=by rw [h.size];exact hk
 simp [this]
theorem c5N{d m:Nat}:rdyB d m=true↔∀t,d.testBit t=true->m.testBit t=true:=by
 unfold rdyB
 rw [Nat.beq_eq]
 constructor
 ·intro h t ht
  rw [←h,Nat.testBit_and,Bool.and_eq_true] at ht
  exact ht.2
 ·intro h
  refine Nat.eq_of_testBit_eq λt=>?_
  rw [Nat.testBit_and]
  cases hd:d.testBit t with
  | false=>rfl
  | true=>rw [h t hd];rfl
theorem LM.ready{ops:Array Oper}{ms:List (Nat×Nat×Nat)}(_:MsOk ops ms){L:Array Bool}{m:Nat}(h:LM ops L m){k:Nat}:
  k∈Region.ready .any ops L↔∃o,ops[k]? = some o/\m.testBit k=false/\rdyB (depM o) m=true:=by
 rw [mem_ready]
 constructor
 ·rintro ⟨h1,o,ho,h2⟩
  refine ⟨o,ho,by rw [←h.un (Array.getElem?_eq_some_iff.1 ho).1];exact h1,c5N.2 λt ht=>?_⟩
  obtain ⟨e,he,hb,rfl⟩:=(b5a _ _).1 ht
  rw [←h.bit]
  exact h2 e he hb
 ·rintro ⟨o,ho,h1,h2⟩
  refine ⟨by rw [h.un (Array.getElem?_eq_some_iff.1 ho).1];exact h1,o,ho,λe he hb=>?_⟩
  rw [h.bit]
  exact c5N.1 h2 _ ((b5a _ _).2 ⟨e,he,hb,rfl⟩)
theorem LM.isRdy{ops:Array Oper}{ms:List (Nat×Nat×Nat)}(hm:MsOk ops ms){L:Array Bool}{m:Nat}(h:LM ops L m){k:Nat}(hr:isRdy ms m k=true):k∈Region.ready .any ops L:=by
 unfold Go.Proofs.YthjlehnccgjpoaaGreatDoor.isRdy at hr
 rw [h.ready hm]
 cases ho:ops[k]? with
 | none=>
  have hlen:∀(l:List (Nat×Nat×Nat))(n:Nat),l.length<=n->nthM l n=none:=by
   intro l
   induction l with
   | nil=>intro n _;rfl
   | cons x l ih=>
    intro n hn
    cases n with
    | zero=>simp at hn
    | succ n=>exact ih n (by simpa using hn)
  have:ms.length<=k:=by
   rw [hm.len]
   exact Array.getElem?_eq_none_iff.1 ho
  rw [hlen ms k this] at hr
  cases hr
 | some o=>
  rw [hm.at_ k o ho] at hr
  simp only [Bool.and_eq_true,Bool.not_eq_true'] at hr
  exact ⟨o,rfl,hr.1,hr.2⟩
theorem c5O{m:Nat}{alts:List Nat}:∀(l:List (Nat×Nat×Nat))(k0 k:Nat)(p:Nat×Nat×Nat),rdyIn m alts k0 l=true->nthM l k=some p->m.testBit (k0+k)=false->rdyB p.1 m=true->memb alts (k0+k)=true
 | [],_,_,_,_,h,_,_=>by cases h
 | x::l,k0,0,p,h,hp,h1,h2=>by
  simp only [rdyIn,Bool.and_eq_true,Bool.or_eq_true,Bool.not_eq_true'] at h
  simp only [nthM,Option.some.injEq] at hp
  subst hp
  rcases h.1 with h | h | h
  ·rw [Nat.add_zero] at h1;rw [h1] at h;cases h
  ·rw [h2] at h;cases h
  ·exact h
 | x::l,k0,k+1,p,h,hp,h1,h2=>by
  simp only [rdyIn,Bool.and_eq_true] at h
  have:=c5O l (k0+1) k p h.2 hp (by rwa [show k0+1+k=k0+(k+1) by omega]) h2
  rwa [show k0+1+k=k0+(k+1) by omega] at this
theorem d5d{l:List Nat}{k:Nat}(h:memb l k=true):k∈l:=by
 induction l with
 | nil=>cases h
 | cons x l ih=>
  simp only [memb] at h
  cases hx:Nat.beq k x with
  | true=>exact List.mem_cons.2 (.inl (Nat.eq_of_beq_eq_true hx))
  | false=>rw [hx] at h;exact List.mem_cons_of_mem _ (ih h)
theorem LM.rdyIn{ops:Array Oper}{ms:List (Nat×Nat×Nat)}(hm:MsOk ops ms){L:Array Bool}{m:Nat}(h:LM ops L m){alts:List Nat}(hr:rdyIn m alts 0 ms=true):∀k∈Region.ready .any ops L,k∈alts:=by
 intro k hk
 obtain ⟨o,ho,h1,h2⟩:=(h.ready hm).1 hk
 have:=c5O ms 0 k _ hr (hm.at_ k o ho) (by simpa using h1) h2
 exact d5d (by simpa using this)
theorem LM.set{ops:Array Oper}{L:Array Bool}{m:Nat}(h:LM ops L m){i:Nat}(hi:i < ops.size):LM ops (L.setIfInBounds i true) (m ||| (1 <<< i)):=by
 refine ⟨by simp [h.size],λk=>?_⟩
 rw [Nat.testBit_or,a5b]
 by_cases e:i=k
 ·subst e
  have:i < L.size:=by rw [h.size];exact hi
  simp [this]
 ·rw [getD_set_ne false e,h.bit]
  have:decide (k=i)=false:=by simpa using λh=>e h.symm
  rw [this,Bool.or_false]
theorem b7D{ops:Array Oper}{L:Array Bool}{i:Nat}(h:i∈Region.ready .any ops L):i < ops.size:=by
 obtain ⟨_,o,ho,_⟩:=mem_ready.1 h
 exact (Array.getElem?_eq_some_iff.1 ho).1
theorem LM.free{ops:Array Oper}{ms:List (Nat×Nat×Nat)}(hm:MsOk ops ms)(hp:pairsAll 0 ms=true){L:Array Bool}{i:Nat}(hr:i∈Region.ready .any ops L):FreeP ops L i:=by
 intro oi j oj hoi hoj hji hun hno
 have hdep:¬∃e∈oi.after,Region.binds .any e=true/\e.on=j:=by
  rintro ⟨e,he,hb,rfl⟩
  obtain ⟨_,o,ho,hall⟩:=mem_ready.1 hr
  obtain rfl:=Option.some.inj (hoi.symm.trans ho)
  exact d0r (hall e he hb) hun
 have hno':¬∃e∈oj.after,Region.binds .any e=true/\e.on=i:=by
  rintro ⟨e,he,hb,h⟩
  exact hno e he hb h
 have p:=hm.at_ i oi hoi
 have q:=hm.at_ j oj hoj
 rcases Nat.lt_or_gt_of_ne hji with h | h
 ·have:=b6x ms 0 j i _ _ hp q p h
  simp only [Nat.zero_add] at this
  rcases c2j this with h | h | h
  ·exact h.2
  ·exact (hdep h).elim
  ·exact (hno' h).elim
 ·have:=b6x ms 0 i j _ _ hp p q h
  simp only [Nat.zero_add] at this
  rcases c2j this with h | h | h
  ·exact h.1
  ·exact (hno' h).elim
  ·exact (hdep h).elim
theorem c1r{ops:Array Oper}{ms:List (Nat×Nat×Nat)}(hm:MsOk ops ms){i:Nat}:∀(l:List (Nat×Nat×Nat))(k acc:Nat),(∀j p,nthM l j=some p->nthM ms (k+j)=some p)->(∀t,acc.testBit t=true->t=i\/Waits ops i t)->∀t,(waitM i k acc l).testBit t=true->t=i\/Waits ops i t
 | [],_,_,_,hacc,t,h=>hacc t h
 | p::l,k,acc,hl,hacc,t,h=>by
  have hl':∀j p,nthM l j=some p->nthM ms (k+1+j)=some p:=λj p hj=>by
   have:=hl (j+1) p hj
   rwa [show k+(j+1)=k+1+j by omega] at this
  simp only [waitM] at h
  cases hb:Nat.beq (p.1 &&& acc) 0 with
  | true=>rw [hb] at h;exact c1r hm l (k+1) acc hl' hacc t h
  | false=>
   rw [hb] at h
   refine c1r hm l (k+1) _ hl' (λt ht=>?_) t h
   rw [Nat.testBit_or,a5b,Bool.or_eq_true,decide_eq_true_eq] at ht
   rcases ht with ht | ht
   ·exact hacc t ht
   ·subst ht
    have hne:p.1 &&& acc≠0:=λh0=>by rw [h0] at hb;cases hb
    obtain ⟨b,hb2⟩:=Nat.exists_testBit_of_ne_zero hne
    rw [Nat.testBit_and,Bool.and_eq_true] at hb2
    have hk:=hl 0 p rfl
    rw [Nat.add_zero] at hk
    cases ho:ops[t]? with
    | none=>
     have hlen:∀(l:List (Nat×Nat×Nat))(n:Nat),l.length<=n->nthM l n=none:=by
      intro l
      induction l with
      | nil=>intro n _;rfl
      | cons x l ih=>
       intro n hn
       cases n with
       | zero=>simp at hn
       | succ n=>exact ih n (by simpa using hn)
     have:ms.length<=t:=by
      rw [hm.len]
      exact Array.getElem?_eq_none_iff.1 ho
     rw [hlen ms t this] at hk
     cases hk
    | some o=>
     rw [hm.at_ t o ho] at hk
     obtain rfl:=(Option.some.inj hk).symm
     obtain ⟨e,he,heb,hon⟩:=(b5a _ _).1 hb2.1
     rcases hacc b hb2.2 with h | h
     ·exact .inr (.one ho he heb (hon.trans h))
     ·exact .inr (.more ho he heb (hon ▸ h))
theorem b9g{L W i:Nat}:∀(l:List (Nat×Nat×Nat))(ns:List Nat)(k0 k:Nat),needGo L W i k0 ns l=true->k < l.length->k0+k≠i->L.testBit (k0+k)=false->(nthN ns k).testBit i=true\/W.testBit (k0+k)=true
 | [],_,_,_,_,h,_,_=>by simp at h
 | p::l,[],k0,0,h,_,h1,h2=>by
  simp only [needGo,Bool.and_eq_true,Bool.or_eq_true] at h
  rcases h.1 with h | h | h
  ·exact (h1 (Nat.eq_of_beq_eq_true h)).elim
  ·rw [Nat.add_zero] at h2;rw [h2] at h;cases h
  ·exact .inr h
 | p::l,n::ns,k0,0,h,_,h1,h2=>by
  simp only [needGo,Bool.and_eq_true,Bool.or_eq_true] at h
  rcases h.1 with h | h | h | h
  ·exact (h1 (Nat.eq_of_beq_eq_true h)).elim
  ·rw [Nat.add_zero] at h2;rw [h2] at h;cases h
  ·exact .inl h
  ·exact .inr h
 | p::l,[],k0,k+1,h,hk,h1,h2=>by
  simp only [needGo,Bool.and_eq_true] at h
  have:=b9g l [] (k0+1) k h.2 (by simpa using hk) (by omega) (by rwa [show k0+1+k=k0+(k+1) by omega])
  rw [show k0+1+k=k0+(k+1) by omega] at this
  simpa [nthN] using this
 | p::l,n::ns,k0,k+1,h,hk,h1,h2=>by
  simp only [needGo,Bool.and_eq_true] at h
  have:=b9g l ns (k0+1) k h.2 (by simpa using hk) (by omega) (by rwa [show k0+1+k=k0+(k+1) by omega])
  rw [show k0+1+k=k0+(k+1) by omega] at this
  simpa [nthN] using this
theorem LM.need{ops:Array Oper}{ms:List (Nat×Nat×Nat)}(hm:MsOk ops ms){L:Array Bool}{m:Nat}(h:LM ops L m){need:List Nat}{i:Nat}(hn:needGo m (waitM i 0 (1 <<< i) ms) i 0 need ms=true):NeedP ops need L i:=by
 intro j hj hji hun
 rw [h.un hj] at hun
 have:=b9g ms need 0 j hn (by rw [hm.len];exact hj) (by simpa using hji) (by simpa using hun)
 rcases this with h1 | h1
 ·exact .inl h1
 ·rw [Nat.zero_add] at h1
  rcases c1r hm ms 0 _ (λj p h=>by simpa using h) (λt ht=>by rw [a5b] at ht;exact .inl (of_decide_eq_true ht)) j h1 with h2 | h2
  ·exact (hji h2).elim
  ·exact .inr h2
theorem e1w{ops:Array Oper}{ms:List (Nat×Nat×Nat)}{need:List Nat}(hm:MsOk ops ms)(hp:pairsAll 0 ms=true):∀(od:Ord)(f:Nat)(hd:Bool)(L:Array Bool)(m:Nat),LM ops L m->okM ms need f hd od m=true->OkP ops need f hd od L:=by
 intro od
 induction od with
 | done=>
  intro f hd L m h hok
  have hr:rdyIn m [] 0 ms=true:=by cases f<;>exact hok
  have:=h.rdyIn hm hr
  have e:Region.ready .any ops L=[]:=List.eq_nil_iff_forall_not_mem.2 λk hk=>by cases this k hk
  cases f<;>exact e
 | early i k ih=>
  intro f hd L m h hok
  cases f with
  | zero=>cases hok
  | succ f=>
   simp only [okM,Bool.and_eq_true] at hok
   have hr:=h.isRdy hm hok.1
   exact ⟨hr,LM.free hm hp hr,ih f true _ _ (h.set (b7D hr)) hok.2⟩
 | load i k ih=>
  intro f hd L m h hok
  cases f with
  | zero=>cases hok
  | succ f=>
   simp only [okM,Bool.and_eq_true] at hok
   have hr:=h.isRdy hm hok.1
   exact ⟨hr,LM.free hm hp hr,h.need hm hok.2.1,ih f true _ _ (h.set (b7D hr)) hok.2.2⟩
 | step i k ih=>
  intro f hd L m h hok
  cases f with
  | zero=>cases hok
  | succ f=>
   simp only [okM,Bool.and_eq_true,Bool.or_eq_true,Bool.not_eq_true'] at hok
   refine ⟨λhd1=>?_,λhr=>ih f true _ _ (h.set (b7D hr)) hok.2⟩
   rcases hok.1 with h1 | h1
   ·rw [hd1] at h1;cases h1
   ·exact ⟨h.isRdy hm h1.1,h.rdyIn hm h1.2⟩
 | alt i k r ih ihr=>
  intro f hd L m h hok
  cases f with
  | zero=>cases hok
  | succ f=>
   simp only [okM,Bool.and_eq_true,Bool.or_eq_true,Bool.not_eq_true'] at hok
   refine ⟨λhd1=>?_,λhr=>ih f true _ _ (h.set (b7D hr)) hok.2.1,ihr (f+1) false _ _ h hok.2.2⟩
   rcases hok.1 with h1 | h1
   ·rw [hd1] at h1;cases h1
   ·exact ⟨h.isRdy hm h1.1,h.rdyIn hm h1.2⟩
theorem lm0(ops:Array Oper):LM ops (Array.replicate ops.size false) 0:=⟨by simp,λk=>by
 rcases Nat.lt_or_ge k ops.size with h | h
 ·simp [h]
 ·simp [h]⟩
theorem c4C{E:Pan}{ops:Array Oper}{need:List Nat}{pd qd:List (Nat×Option Nat)}{Q:Act->World->Prop}{i:Nat}{oi:Oper}{v:Value}{w0:World}{g:Option Nat}{pb:Bool}(hi:ops[i]? = some oi)(hsel:∀(j:Nat)(o:Oper) cs b,ops[j]? = some o->o.op≠.select cs b)
  (hpd:∀p∈pd,p∈qd) (hqd:pb=true\/(i,g)∈qd):
  ∀(f:Nat)(L:Array Bool)(a:Act)(w:World),Closed ops L->(pb=true\/sameB g w0 w)->
   (∀j oj,ops[j]? = some oj->j≠i->L.getD j true=false->(∀e∈oj.after,Region.binds .any e=true->e.on≠i)->oi.apart ops oj=true)->
   (∀j,j < ops.size->j≠i->L.getD j true=false->pb=true\/(nthN need j).testBit i=true\/Waits ops i j)->
   i∈Region.ready .any ops L->YC P ops (λw'=>pb=true\/sameB g w0 w') oi v a->
   wpE P E ops need qd Q f (L.setIfInBounds i true) (a.put oi.dst v) w->wpE P E ops need pd Q (f+1) L a w:=by
 have weak:∀(f:Nat)(L:Array Bool)(a:Act)(w:World),wpE P E ops need qd Q f L a w->wpE P E ops need pd Q f L a w:=by
  intro f
  induction f with
  | zero=>intro L a w h;exact h
  | succ f ih=>intro L a w h;exact ⟨h.1,λi hi=>b7C (λa' w' h=>⟨λp hp=>h.1 p (hpd p hp),ih _ _ _ h.2⟩) (h.2 i hi)⟩
 intro f
 induction f with
 | zero=>
  intro L a w hcl hw hfree hneed hr hy H
  refine ⟨λh=>(by rw [h] at hr;cases hr),λj hj=>?_⟩
  by_cases hji:j=i
  ·subst hji;exact hy.wOp hi hw ⟨λ_ _ _=>sameB.refl _ _,weak _ _ _ _ H⟩
  ·have:=ready_mono hj hji
   rw [H.1] at this
   cases this
 | succ f ih=>
  intro L a w hcl hw hfree hneed hr hy H
  refine ⟨λh=>(by rw [h] at hr;cases hr),λj hj=>?_⟩
  by_cases hji:j=i
  ·subst hji;exact hy.wOp hi hw ⟨λ_ _ _=>sameB.refl _ _,weak _ _ _ _ H⟩
  ·have h1:=H.2 j (ready_mono hj hji)
   obtain ⟨hjun,oj,hoj,hall⟩:=mem_ready.1 hj
   have hiun:=(mem_ready.1 hr).1
   have hnot:∀e∈oj.after,Region.binds .any e=true->e.on≠i:=λe he hb heq=>by
    have h1:=hall e he hb
    rw [heq] at h1
    exact d0r h1 hiun
   have h2:=d8q hoj (hfree j oj hoj hji hjun hnot) (λcs b=>hsel i oi cs b hi) (λcs b=>hsel j oj cs b hoj) hy h1
   have hfree':∀k ok,ops[k]? = some ok->k≠i->(L.setIfInBounds j true).getD k true=false->
     (∀e∈ok.after,Region.binds .any e=true->e.on≠i)->oi.apart ops ok=true:=λk ok hk hki hun hno=>by
    refine hfree k ok hk hki ?_ hno
    by_cases hjk:j=k
    ·subst hjk;exact hjun
    ·rw [getD_set_ne true hjk] at hun;exact hun
   have hneed':∀k,k < ops.size->k≠i->(L.setIfInBounds j true).getD k true=false->pb=true\/(nthN need k).testBit i=true\/Waits ops i k:=λk hk hki hun=>by
    refine hneed k hk hki ?_
    by_cases hjk:j=k
    ·subst hjk;exact hjun
    ·rw [getD_set_ne true hjk] at hun;exact hun
   have hjlt:j < ops.size:=(Array.getElem?_eq_some_iff.1 hoj).1
   refine b7C (λa' w' h3=>⟨λp hp=>h3.2.1 p (hpd p hp),ih (L.setIfInBounds j true) a' w' (hcl.set hj) ?_ hfree' hneed' (ready_mono hr (Ne.symm hji)) h3.1 ?_⟩) h2
   ·rcases hw with h | h
    ·exact .inl h
    ·rcases hqd with h5 | h5
     ·exact .inl h5
     ·rcases hneed j hjlt hji hjun with h4 | h4 | h4
      ·exact .inl h4
      ·exact .inr (h.trans (h3.2.1 _ h5 h4))
      ·exact (d0r (c7Z hcl h4 hj) hiun).elim
   ·rw [Array.setIfInBounds_comm _ _ hji]
    exact h3.2.2
theorem d1W{ops:List Oper}{C:World->Prop}{o:Oper}{v:Value}{a:Act}{σ:Fr}(hr:Rep N a σ){w0:World}(hC:C w0)(h:∀w,C w->(gopS ops σ o).run P w=.ok (.value v) w):YC P ops.toArray C o v a:=by
 unfold YC
 rw [b9e hr]
 unfold gopS at h
 simp only [b2f] at h
 cases hg:o.guard with
 | none=>
  simp only [hg] at h
  exact .inl ⟨rfl,λw hw=>by rw [hr.eval];exact h w hw⟩
 | some g=>
  obtain ⟨j,want⟩:=g
  simp only [hg,gsem] at h
  cases hw:(yldX ops σ j == some want) with
  | true=>
   simp only [hw,cond_true] at h
   exact .inl ⟨hw,λw hw=>by rw [hr.eval];exact h w hw⟩
  | false=>
   simp only [hw,cond_false] at h
   have:=h w0 hC
   simp only [Sem.run_pure,Result.ok.injEq,Next.value.injEq] at this
   exact .inr ⟨hw,this.1.symm⟩
theorem c8F{E:Pan}{ops:List Oper}{i:Nat}{o:Oper}{a:Act}{σ:Fr}{w:World}{K:Value->World->Prop}(ho:ops[i]? = some o)(hr:Rep N a σ)(h:opK P E (gopS ops σ o) w K):
  wOp P E ops.toArray i (λa' w'=>∃v,a'=a.put o.dst v/\K v w') a w:=by
 unfold wOp
 simp only [List.getElem?_toArray,ho]
 rw [b9e hr]
 unfold gopS at h
 simp only [b2f] at h
 have plain:opK P E (execOp (ev σ) o) w K->opA P E o a w λa' w'=>∃v,a'=a.put o.dst v/\K v w':=by
  intro h
  unfold opK at h
  unfold opA
  rw [hr.eval]
  generalize (execOp (ev σ) o).run P w=r at *
  cases r with
  | ok n w'=>
   cases n<;>simp only at h ⊢
   case value v=>exact ⟨_,rfl,h⟩
   case skip=>exact ⟨_,rfl,h⟩
   case enter f args=>exact Cv.mono h (λu w' h=>⟨_,rfl,h⟩) λ_ _ h=>h
  | halt x w'=>cases x<;>simp only at h ⊢ <;> exact h
 cases hg:o.guard with
 | none=>
  simp only [hg] at h
  simp only [if_true]
  exact plain h
 | some g=>
  obtain ⟨j,want⟩:=g
  simp only [hg,gsem] at h
  by_cases hw:(yldX ops σ j == some want)=true
  ·simp only [hw,cond_true] at h
   simp only [hw,if_true]
   exact plain h
  ·have hw':(yldX ops σ j == some want)=false:=by simpa using hw
   simp only [hw',cond_false] at h
   simp only [hw',Bool.false_eq_true,if_false]
   exact ⟨_,rfl,h⟩
theorem c4D{l:List (Option Nat)}{w w':World}{p:Prop}(h:keepX l w w' p):(∀g∈l,sameB g w w')/\p:=by
 induction l with
 | nil=>exact ⟨λ_ h=>(by cases h),h⟩
 | cons g l ih=>
  obtain ⟨h1,h2⟩:=h
  obtain ⟨h3,h4⟩:=ih h2
  refine ⟨λk hk=>?_,h4⟩
  rcases List.mem_cons.1 hk with rfl | hk
  ·exact h1
  ·exact h3 k hk
theorem c5P{nd:Nat}{pd:List (Nat×Option Nat)}{p:Nat×Option Nat}(hp:p∈pd)(hn:nd.testBit p.1=true):p.2∈selB nd pd:=by
 induction pd with
 | nil=>cases hp
 | cons q pd ih=>
  rcases List.mem_cons.1 hp with rfl | hp
  ·simp [selB,hn]
  ·simp only [selB]
   cases nd.testBit q.1
   ·exact ih hp
   ·exact List.mem_cons_of_mem _ (ih hp)
section
variable {E:Pan}{ops:List Oper}{need:List Nat}{K:Fr->World->Prop}{Q:Act->World->Prop}{D:List Nat}{σ₀:Fr}
theorem d0s(hsel:Region.noSelect ops.toArray=true)(hdok:dokO N ops)(hD:∀o∈ops,∀k,o.dst=some k->memb D k=true)
  (hq:∀σ' a' w',Rep N a' σ'->Kept D σ₀ σ'->K σ' w'->Q a' w'):∀(od:Ord)(pd:List (Nat×Option Nat))(f:Nat)(L:Array Bool)(σ:Fr)(a:Act)(w:World),Closed ops.toArray L->Rep N a σ->Kept D σ₀ σ->regX P E ops need pd od σ w K->
   (OkP ops.toArray need f true od L->wpE P E ops.toArray need pd Q f L a w)/\
   (OkP ops.toArray need f false od L->∀i∈altsO od,i∈Region.ready .any ops.toArray L->∃g,f=g+1/\wOp P E ops.toArray i (λa' w'=>(∀p∈pd,(nthN need i).testBit p.1=true->sameB p.2 w w')/\wpE P E ops.toArray need pd Q g (L.setIfInBounds i true) a' w') a w):=by
 intro od
 have hstep:∀{i:Nat}{o:Oper}{σ:Fr}{a:Act},ops[i]? = some o->Rep N a σ->Kept D σ₀ σ->∀v,Rep N (a.put o.dst v) (up σ o.dst v)/\Kept D σ₀ (up σ o.dst v):=λho hr hk v=>
  ⟨hr.put (λk hk=>hdok _ (List.mem_of_getElem? ho) k hk) v,hk.up (λk hk=>hD _ (List.mem_of_getElem? ho) k hk) v⟩
 induction od with
 | done=>
  intro pd f L σ a w hcl hr hk h
  refine ⟨λhok=>?_,λ_ i hi=>(by cases hi)⟩
  have he:Region.ready .any ops.toArray L=[]:=by
   cases f<;>exact hok
  have hQ:Q a w:=hq _ _ _ hr hk h
  cases f with
  | zero=>exact ⟨he,hQ⟩
  | succ f=>exact ⟨λ_=>hQ,λi hi=>by rw [he] at hi;cases hi⟩
 | early i k ih=>
  intro pd f L σ a w hcl hr hk h
  refine ⟨λhok=>?_,λ_ i hi=>(by cases hi)⟩
  cases f with
  | zero=>exact hok.elim
  | succ f=>
   obtain ⟨hrd',hfr,hok⟩:=hok
   simp only [regX] at h
   split at h
   ·exact h.elim
   ·rename_i o ho
    have ho':ops.toArray[i]? = some o:=by simpa using ho
    have main:∀v,(∀w',(gopS ops σ o).run P w'=.ok (.value v) w')->regX P E ops need pd k (up σ o.dst v) w K->wpE P E ops.toArray need pd Q (f+1) L a w:=λv hv hk'=>by
     obtain ⟨hr',hkk⟩:=hstep ho hr hk v
     exact c4C (pb:=true) (w0:=w) (g:=none) (qd:=pd) ho' (Region.noSelect_spec hsel) (λ_ h=>h) (.inl rfl) f L a w hcl (.inl rfl) (λj oj=>hfr o j oj ho') (λ_ _ _ _=>.inl rfl) hrd'
      (d1W hr (w0:=w) (.inl rfl) λw' _=>hv w') ((ih pd f _ _ _ _ (hcl.set hrd') hr' hkk hk').1 hok)
    split at h
    ·rename_i v hv
     exact main v (λw'=>by rw [c8D hv];rfl) h
    ·obtain ⟨v,hv,hk'⟩:=h
     exact main v hv hk'
 | load i k ih=>
  intro pd f L σ a w hcl hr hk h
  refine ⟨λhok=>?_,λ_ i hi=>(by cases hi)⟩
  cases f with
  | zero=>exact hok.elim
  | succ f=>
   obtain ⟨hrd',hfr,hnd,hok⟩:=hok
   simp only [regX] at h
   split at h
   ·exact h.elim
   ·rename_i o ho
    have ho':ops.toArray[i]? = some o:=by simpa using ho
    obtain ⟨v,hv,hk'⟩:=h
    obtain ⟨hr',hkk⟩:=hstep ho hr hk v
    exact c4C (pb:=false) (w0:=w) (g:=rdB σ o) (qd:=(i,rdB σ o)::pd) ho' (Region.noSelect_spec hsel) (λ_ h=>List.mem_cons_of_mem _ h) (.inr (List.mem_cons_self ..)) f L a w hcl (.inr (sameB.refl _ _)) (λj oj=>hfr o j oj ho') (λj hj hji hun=>.inr (hnd j hj hji hun)) hrd'
      (d1W hr (w0:=w) (.inr (sameB.refl _ _)) λw' hw'=>hv w' (hw'.resolve_left (by simp))) ((ih _ f _ _ _ _ (hcl.set hrd') hr' hkk hk').1 hok)
 | step i k ih=>
  intro pd f L σ a w hcl hr hk h
  have two:∀hd,OkP ops.toArray need f hd (.step i k) L->∀j∈altsO (.step i k),j∈Region.ready .any ops.toArray L->∃g,f=g+1/\wOp P E ops.toArray j (λa' w'=>(∀p∈pd,(nthN need j).testBit p.1=true->sameB p.2 w w')/\wpE P E ops.toArray need pd Q g (L.setIfInBounds j true) a' w') a w:=by
   intro hd hok j hj hrd
   obtain rfl:j=i:=by simpa [altsO] using hj
   cases f with
   | zero=>exact hok.elim
   | succ f=>
    refine ⟨f,rfl,?_⟩
    simp only [regX] at h
    split at h
    ·exact h.elim
    ·rename_i o ho
     refine b7C ?_ (c8F ho hr h)
     rintro a' w' ⟨v,rfl,hn⟩
     obtain ⟨h1,h2⟩:=c4D hn
     obtain ⟨hr',hkk⟩:=hstep ho hr hk v
     exact ⟨λp hp hm=>h1 _ (c5P hp hm),(ih _ f _ _ _ _ (hcl.set hrd) hr' hkk h2).1 (hok.2 hrd)⟩
  refine ⟨λhok=>?_,two false⟩
  cases f with
  | zero=>exact hok.elim
  | succ f=>
   refine ⟨λh0=>?_,λj hj=>?_⟩
   ·have:=(hok.1 rfl).1
    rw [h0] at this
    cases this
   ·obtain ⟨g,hg,hw⟩:=two true hok j ((hok.1 rfl).2 j hj) hj
    obtain rfl:f=g:=by omega
    exact hw
 | alt i k r ih ihr=>
  intro pd f L σ a w hcl hr hk h
  have two:∀hd,OkP ops.toArray need f hd (.alt i k r) L->∀j∈altsO (.alt i k r),j∈Region.ready .any ops.toArray L->∃g,f=g+1/\wOp P E ops.toArray j (λa' w'=>(∀p∈pd,(nthN need j).testBit p.1=true->sameB p.2 w w')/\wpE P E ops.toArray need pd Q g (L.setIfInBounds j true) a' w') a w:=by
   intro hd hok j hj hrd
   cases f with
   | zero=>exact hok.elim
   | succ f=>
    simp only [regX] at h
    split at h
    ·exact h.elim
    ·rename_i o ho
     simp only [altsO,List.mem_cons] at hj
     by_cases hji:j=i
     ·subst hji
      refine ⟨f,rfl,?_⟩
      refine b7C ?_ (c8F ho hr h.1)
      rintro a' w' ⟨v,rfl,hn⟩
      obtain ⟨h1,h2⟩:=c4D hn
      obtain ⟨hr',hkk⟩:=hstep ho hr hk v
      exact ⟨λp hp hm=>h1 _ (c5P hp hm),(ih _ f _ _ _ _ (hcl.set hrd) hr' hkk h2).1 (hok.2.1 hrd)⟩
     ·exact (ihr pd (f+1) L σ a w hcl hr hk h.2).2 hok.2.2 j (hj.resolve_left hji) hrd
  refine ⟨λhok=>?_,two false⟩
  cases f with
  | zero=>exact hok.elim
  | succ f=>
   refine ⟨λh0=>?_,λj hj=>?_⟩
   ·have:=(hok.1 rfl).1
    rw [h0] at this
    cases this
   ·obtain ⟨g,hg,hw⟩:=two true hok j ((hok.1 rfl).2 j hj) hj
    obtain rfl:f=g:=by omega
    exact hw
end
theorem d1X(S:List Nat)(σ:Fr)(i:Nat):pickS S (S.map σ) i=some (σ i)\/pickS S (S.map σ) i=none:=by
 induction S with
 | nil=>exact .inr rfl
 | cons s S ih=>
  simp only [List.map_cons,pickS,nth,List.tail_cons]
  cases h:Nat.beq i s
  ·exact ih
  ·left
   rw [Nat.eq_of_beq_eq_true h]
   rfl
theorem d1Y{σ σ1:Fr}{D S:List Nat}(h:Kept D σ σ1):fill σ D S (S.map σ1) σ1 = σ1:=by
 funext i
 unfold fill
 rcases d1X S σ1 i with e | e<;>rw [e]
 cases hm:memb D i
 ·exact (h i hm).symm
 ·rfl
theorem d0t{σ σ1:Fr}{D:List Nat}(h:Kept D σ σ1):fill' σ D σ1 = σ1:=by
 funext i
 unfold fill'
 cases hm:memb D i
 ·exact (h i hm).symm
 ·rfl
theorem c1d(a b:List Nat):dokL N (a++b)=(dokL N a&&dokL N b):=by
 induction a with
 | nil=>rfl
 | cons d a ih=>simp only [List.cons_append,dokL,ih,Bool.and_assoc]
theorem d8r(ops:Array Oper)(n:Nat):Closed ops (Array.replicate n false):=λj oj _ hl=>by
 rcases Nat.lt_or_ge j n with h | h
 ·simp [h] at hl
 ·simp [h] at hl
theorem c4E{E:Pan}(hm:P.follows .mixedOrders=true):∀(c:Code)(h:Hint)(σ:Fr)(a:Act)(w:World)(Q:Exit->Fr->World->Prop)(Q':Exit->Act->World->Prop),
  WPx P E c h σ w Q->dokL N (dsts c)=true->lexOk c h=true->Rep N a σ->(∀c a w,a.defers=[]->E c w->Q' (.panic c) a w)->
  (∀e σ' a' w',Rep N a' σ'->Kept (dsts c) σ σ'->Q e σ' w'->Q' e a' w')->c.wp P Q' a w:=by
 intro c
 induction c with
 | skip=>intro h σ a w Q Q' hx _ _ hr hE hq;exact wp_skip (hq _ _ _ _ hr (Kept.refl _ _) hx)
 | label l=>intro h σ a w Q Q' hx _ _ hr hE hq;exact wp_label (hq _ _ _ _ hr (Kept.refl _ _) hx)
 | exit id=>intro h σ a w Q Q' hx _ _ hr hE hq;exact wp_exit (hq _ _ _ _ hr (Kept.refl _ _) hx)
 | ret=>intro h σ a w Q Q' hx _ _ hr hE hq;exact wp_ret (hq _ _ _ _ hr (Kept.refl _ _) hx)
 | refuse s=>intro h σ a w Q Q' hx _ _ hr hE hq;exact hx.elim
 | goto l=>intro h σ a w Q Q' hx _ _ hr hE hq;exact hx.elim
 | scope c ih=>
  intro h σ a w Q Q' hx hd hlex hr hE hq
  cases h<;>try exact hx.elim
  rename_i hc
  refine wp_scope_straight (ih hc σ a w (noGotoX Q) _ hx hd hlex hr (λc a w hd h=>hE c a w hd h) ?_)
  intro e σ' a' w' hr' hk' hh
  cases e<;>first | exact hh.elim | exact hq _ _ _ _ hr' hk' hh
 | rangeFunc f ps x y ih1 ih2=>intro h σ a w Q Q' hx _ _ hr hE hq;exact hx.elim
 | region id ops draw=>
  intro h σ a w Q Q' hx hd hlex hr hE hq
  have hdo:dokO N ops.toList:=d8p hd
  have hD:∀o∈ops.toList,∀k,o.dst=some k->memb (dstsL ops.toList) k=true:=λo ho k hk=>d0p ho hk
  cases draw with
  | false=>
   refine wp_region_list ?_
   have:=d0q (P:=P) (N:=N) (ops:=ops.toList) (Q:=Q') (D:=dstsL ops.toList) (σ₀:=σ) hE ops.toList (λ_ h=>h) hdo hD σ a w hr (Kept.refl _ _) hx
    (λσ' a' w' hr' hk' hh=>hq _ _ _ _ hr' hk' hh)
   simpa using this
  | true=>
   cases h<;>try exact hx.elim
   ·rename_i ms need od
    simp only [b1c,lReg,Bool.and_eq_true] at hlex
    have hms:MsOk ops ms:=by
     obtain ⟨h1,h2⟩:=c8E ops.toList ms hlex.2.1
     exact ⟨by simpa using h1,λi o ho=>h2 i o (by simpa using ho)⟩
    have:=d0s (P:=P) (N:=N) (E:=E) (ops:=ops.toList) (need:=need) (Q:=λa' w'=>Q' .normal a' w') (D:=dstsL ops.toList) (σ₀:=σ) (by simpa using hlex.1) hdo hD
     (λσ' a' w' hr' hk' hh=>hq _ _ _ _ hr' hk' hh) od [] ops.size (Array.replicate ops.size false) σ a _ (d8r _ _) hr (Kept.refl _ _) hx
    simp only [Array.toArray_toList] at this
    exact wp_region_any hm (b9f hE (λa w _ h=>h) _ _ _ _ hr.1 (this.1 (e1w hms hlex.2.2.1 od _ _ _ _ (lm0 ops) hlex.2.2.2)))
 | seq x y ihx ihy=>
  intro h σ a w Q Q' hx hd hlex hr hE hq
  have hd':=hd
  simp only [c5K,c1d,Bool.and_eq_true] at hd'
  refine wp_seq ?_
  cases h<;>try exact hx.elim
  ·rename_i hhx hhy
   simp only [b6f,lSeq,Bool.and_eq_true] at hlex
   refine ihx hhx σ a w _ _ hx hd'.1 hlex.1 hr (λc a w hd h=>hE c a w hd h) ?_
   intro e σ1 a1 w1 hr1 hk1 hh
   cases e with
   | normal=>exact ihy hhy σ1 a1 w1 _ _ hh hd'.2 hlex.2 hr1 hE λe' σ2 a2 w2 hr2 hk2 hh2=>hq _ _ _ _ hr2 (hk1.left.trans hk2.right) hh2
   | exit i=>exact hq _ _ _ _ hr1 hk1.left hh
   | goto l=>exact hq _ _ _ _ hr1 hk1.left hh
   | ret=>exact hq _ _ _ _ hr1 hk1.left hh
   | panic ch=>exact hq _ _ _ _ hr1 hk1.left hh
   | outgrown=>exact hq _ _ _ _ hr1 hk1.left hh
  ·rename_i S hhx hhy
   simp only [b6f,lSeq,Bool.and_eq_true] at hlex
   refine ihx hhx σ a w _ _ hx hd'.1 hlex.1 hr (λc a w hd h=>hE c a w hd h) ?_
   intro e σ1 a1 w1 hr1 hk1 hh
   cases e with
   | normal=>
    have hh1:=hh σ1
    rw [d1Y hk1] at hh1
    exact ihy hhy σ1 a1 w1 _ _ hh1 hd'.2 hlex.2 hr1 hE λe' σ2 a2 w2 hr2 hk2 hh2=>hq _ _ _ _ hr2 (hk1.left.trans hk2.right) hh2
   | exit i=>exact hq _ _ _ _ hr1 hk1.left hh
   | goto l=>exact hq _ _ _ _ hr1 hk1.left hh
   | ret=>exact hq _ _ _ _ hr1 hk1.left hh
   | panic ch=>exact hq _ _ _ _ hr1 hk1.left hh
   | outgrown=>exact hq _ _ _ _ hr1 hk1.left hh
 | cond c x y ihx ihy=>
  intro h σ a w Q Q' hx hd hlex hr hE hq
  have hd':=hd
  simp only [c4B,c1d,Bool.and_eq_true] at hd'
  cases h<;>try exact hx.elim
  rename_i hhx hhy
  simp only [b4q,lCond,Bool.and_eq_true] at hlex
  have hxc:xcond (ev σ c) (WPx P E x hhx σ w Q) (WPx P E y hhy σ w Q):=hx
  unfold xcond at hxc
  split at hxc
  ·rename_i hv
   exact wp_cond_true (by rw [hr.eval];exact hv) (ihx hhx σ a w _ _ hxc hd'.1 hlex.1 hr hE λe σ' a' w' hr' hk' hh=>hq _ _ _ _ hr' hk'.left hh)
  ·rename_i hv
   exact wp_cond_false (by rw [hr.eval];exact hv) (ihy hhy σ a w _ _ hxc hd'.2 hlex.2 hr hE λe σ' a' w' hr' hk' hh=>hq _ _ _ _ hr' hk'.right hh)
  ·exact hxc.elim
 | block id c ih=>
  intro h σ a w Q Q' hx hd hlex hr hE hq
  cases h<;>try exact hx.elim
  rename_i hc
  refine wp_block (ih hc σ a w _ _ hx hd hlex hr (λc a w hd h=>hE c a w hd h) ?_)
  intro e σ' a' w' hr' hk' hh
  cases e with
  | exit i=>
   simp only [inBlockX] at hh
   simp only [Exit.inBlock]
   by_cases hi:i=id
   ·subst hi
    simp only [Nat.beq_refl,cond_true] at hh
    simp only [if_true]
    exact hq _ _ _ _ hr' hk' hh
   ·have:Nat.beq i id=false:=by rw [Bool.eq_false_iff];intro hb;exact hi (Nat.eq_of_beq_eq_true hb)
    simp only [this,cond_false] at hh
    simp only [hi,if_false]
    exact hq _ _ _ _ hr' hk' hh
  | normal=>exact hq _ _ _ _ hr' hk' hh
  | goto l=>exact hq _ _ _ _ hr' hk' hh
  | ret=>exact hq _ _ _ _ hr' hk' hh
  | panic ch=>exact hq _ _ _ _ hr' hk' hh
  | outgrown=>exact hq _ _ _ _ hr' hk' hh
 | loop c ih=>
  intro h σ a w Q Q' hx hd hlex hr hE hq
  cases h<;>try exact hx.elim
  rename_i S hc
  obtain ⟨I,μ,h0,hround⟩:=hx
  refine wp_loop (λa' w'=>∃σ',Rep N a' σ'/\Kept (dsts c) σ σ'/\I (S.map σ') w') (λa' w'=>μ (S.map λi=>a'.tmps.getD i undef) w') ⟨σ,hr,Kept.refl _ _,h0⟩ ?_
  rintro a1 w1 ⟨σ1,hr1,hk1,hI1⟩
  have hb:=hround σ1 w1 hI1
  dsimp only at hb
  rw [d0t hk1] at hb
  have hσ1:(λi=>a1.tmps.getD i undef) = σ1:=funext hr1.2.2
  rw [hσ1]
  refine ih hc σ1 a1 w1 _ _ hb hd hlex hr1 (λc a w hd h=>hE c a w hd h) ?_
  intro e σ2 a2 w2 hr2 hk2 hh
  cases e with
  | normal=>
   have hσ2:(λi=>a2.tmps.getD i undef) = σ2:=funext hr2.2.2
   refine ⟨⟨σ2,hr2,hk1.trans hk2,hh.1⟩,?_⟩
   rw [hσ2]
   exact hh.2
  | exit i=>exact hq _ _ _ _ hr2 (hk1.trans hk2) hh
  | goto l=>exact hq _ _ _ _ hr2 (hk1.trans hk2) hh
  | ret=>exact hq _ _ _ _ hr2 (hk1.trans hk2) hh
  | panic ch=>exact hq _ _ _ _ hr2 (hk1.trans hk2) hh
  | outgrown=>exact hq _ _ _ _ hr2 (hk1.trans hk2) hh
def cellAt(t:TypeId)(v:Value):Sem Value:=do loadVar t (← asAddr v)
def xcell(P:Program)(t:TypeId)(a:Value)(w:World)(K:Value->Prop):Prop:=∃v,(cellAt t a).run P w=.ok v w/\K v
def resX(P:Program)(σ:Fr):List ResultVar->World->(List Value->Prop)->Prop
 | [],_,K=>K []
 | .tmp t::r,w,K=>resX P σ r w λvs=>K (σ t::vs)
 | .cell a t::r,w,K=>xcell P t (σ a) w λv=>resX P σ r w λvs=>K (v::vs)
def retV(vs:List Value):Value:=
 match vs with
 | [v]=>v
 | vs=>.tuple vs.toArray
abbrev bodyX(P:Program)(rs:List ResultVar)(R:Value->World->Prop):Exit->Fr->World->Prop
 | .normal,σ,w=>resX P σ rs w λvs=>R (retV vs) w
 | .ret,σ,w=>resX P σ rs w λvs=>R (retV vs) w
 | _,_,_=>False
def b6g:List Value->Fr
 | [],_=>undef
 | v::_,0=>v
 | _::l,n+1=>b6g l n
noncomputable def callX(P:Program)(rs:List ResultVar)(c:Code)(h:Hint)(args:List Value)(w:World)(R:Value->World->Prop)(E:Pan):Prop:=
 WPx P E c h (b6g args) w (bodyX P rs R)
theorem c4F(l:List Value)(i:Nat):b6g l i=l.getD i undef:=by
 induction l generalizing i with
 | nil=>simp [b6g]
 | cons v l ih=>
  cases i with
  | zero=>simp [b6g]
  | succ i=>simp only [b6g,ih];simp
theorem d8s{a:Act}{σ:Fr}(hr:Rep N a σ){w:World}:∀(l:List ResultVar)(K:List Value->Prop),resX P σ l w K->
  ∃vs,((l.mapM (m:=Sem) fun
   | .tmp t=>pure (a.tmps.getD t undef)
   | .cell b t=>do loadVar t (← asAddr (a.tmps.getD b undef))).run P w=.ok vs w)/\K vs:=by
 intro l
 induction l with
 | nil=>intro K h;exact ⟨[],by simp,h⟩
 | cons x l ih=>
  intro K h
  cases x with
  | tmp t=>
   obtain ⟨vs,h1,h2⟩:=ih _ h
   refine ⟨σ t::vs,?_,h2⟩
   rw [List.mapM_cons]
   rw [Sem.run_bind,Sem.run_pure,Result.andThen_ok,Sem.run_bind,h1,Result.andThen_ok,Sem.run_pure,hr.2.2]
  | cell b t=>
   obtain ⟨v,hv,h⟩:=h
   obtain ⟨vs,h1,h2⟩:=ih _ h
   refine ⟨v::vs,?_,h2⟩
   rw [List.mapM_cons]
   have hv':(do loadVar t (← asAddr (a.tmps.getD b undef)):Sem Value).run P w=.ok v w:=by rw [hr.2.2];exact hv
   rw [Sem.run_bind,hv',Result.andThen_ok,Sem.run_bind,h1,Result.andThen_ok,Sem.run_pure]
theorem b4r{fn:Func}{R:Value->World->Prop}{E:Pan}{e:Exit}{σ:Fr}{a:Act}{w:World}(hr:Rep N a σ)(h:bodyX P fn.results.toList R e σ w):
  bodyPost P fn (endK R E) e a w:=by
 have key:resX P σ fn.results.toList w (λvs=>R (retV vs) w)->∃v,(results fn a.tmps).run P w=.ok v w/\R v w:=by
  intro h
  obtain ⟨vs,h1,h2⟩:=d8s hr _ _ h
  refine ⟨retV vs,?_,h2⟩
  unfold results
  rw [Array.mapM_eq_mapM_toList]
  simp only [Sem.run_bind,map_eq_pure_bind,Sem.run_pure]
  refine (congrArg (λr:Result (List Value)=>(r.andThen λ(x:List Value) w'=>Result.ok x.toArray w').andThen λ(x:Array Value) w'=>Result.ok (if h:x.size=1 then x[0] else Value.tuple x) w') h1).trans ?_
  simp only [Result.andThen_ok]
  congr 1
  cases vs with
  | nil=>rfl
  | cons x l=>
   cases l with
   | nil=>rfl
   | cons y l=>
    rw [dif_neg (by simp)]
    rfl
 cases e with
 | normal=>obtain ⟨v,h1,h2⟩:=key h;exact ⟨hr.1,v,h1,h2⟩
 | ret=>obtain ⟨v,h1,h2⟩:=key h;exact ⟨hr.1,v,h1,h2⟩
 | exit i=>exact h.elim
 | goto l=>exact h.elim
 | panic ch=>exact h.elim
 | outgrown=>exact h.elim
theorem c8a{f:FuncId}{fn:Func}{c:Code}{h:Hint}{rs:List ResultVar}{args:List Value}{w:World}{R:Value->World->Prop}{E:Pan}(hf:P.funcs[f]? = some fn)(hb:fn.body=some c)
  (hrs:fn.results.toList=rs) (hn:args.length<=fn.ntmps) (hd:dokL fn.ntmps (dsts c)=true) (hl:lexOk c h=true) (hm:P.follows .mixedOrders=true) (hx:callX P rs c h args w R E):Cv P f args.toArray w R E:=by
 subst hrs
 refine calls_of_wp hf hb ?_
 refine c4E (N:=fn.ntmps) hm c h (b6g args) _ w _ _ hx hd hl ⟨rfl,by simp;omega,λi=>?_⟩ (λc a w hd h=>⟨hd,h⟩) (λe σ' a' w' hr' _ hh=>b4r hr' hh)
 rw [c4F]
 simp only [Array.getD_eq_getD_getElem?,List.getD_eq_getElem?_getD]
 by_cases hi:i < args.length
 ·simp [Array.getElem?_append,hi]
 ·simp only [Array.getElem?_append,List.size_toArray,hi,if_false,Array.getElem?_replicate]
  rw [List.getElem?_eq_none (by omega)]
  split<;>rfl
noncomputable def chkF(P:Program)(fn:Func)(h:Hint)(n:Nat):Bool:=fn.body.isSome&&(Nat.ble n fn.ntmps&&(dokL fn.ntmps (dsts (fn.body.getD .skip))&&(lexOk (fn.body.getD .skip) h&&P.follows .mixedOrders)))
theorem okF{f:FuncId}{fn:Func}{h:Hint}{args:List Value}{w:World}{R:Value->World->Prop}{E:Pan}{X:Prop}(hf:P.funcs[f]? = some fn)(hk:chkF P fn h args.length=true)(e:X=callX P fn.results.toList (fn.body.getD .skip) h args w R E)(hx:X):Cv P f args.toArray w R E:=by
 simp only [chkF,Bool.and_eq_true] at hk
 obtain ⟨k1,k2,k3,k4,k5⟩:=hk
 refine c8a hf (c:=fn.body.getD .skip) ?_ rfl (Nat.le_of_ble_eq_true k2) k3 k4 k5 (e ▸ hx)
 cases hb:fn.body with
 | none=>rw [hb] at k1;cases k1
 | some c=>rfl
end
section
variable {P:Program}{E:Pan}{w:World}{K:Value->World->Prop}
def Pu(P:Program)(s:Sem Next)(v:Value):Prop:=∀w,s.run P w=.ok (.value v) w
def Ld(P:Program)(w:World)(g:Nat)(s:Sem Next)(v:Value):Prop:=∀w',w'.heap[g]? = w.heap[g]?->s.run P w'=.ok (.value v) w'
theorem c7{s:Sem Next}{v:Value}(h:Pu P s v)(k:K v w):opK P E s w K:=by
 unfold opK
 rw [h w]
 exact k
theorem g8{s:Sem Next}{v:Value}{K:Value->Prop}(h:Pu P s v)(k:K v):qP P s K:=⟨v,h,k⟩
theorem d7{g:Nat}{s:Sem Next}{v:Value}(h:Ld P w g s v)(k:K v w):opK P E s w K:=by
 unfold opK
 rw [h w rfl]
 exact k
theorem s7{g:Nat}{s:Sem Next}{v:Value}{K:Value->Prop}(h:Ld P w g s v)(k:K v):qL P w (some g) s K:=⟨v,h,k⟩
theorem Pu.ok{s:Sem Value}{v:Value}(h:∀w,s.run P w=.ok v w):Pu P (xV s) v:=λw=>by
 unfold xV
 rw [Sem.run_bind,h w]
 rfl
theorem Ld.ok{g:Nat}{s:Sem Value}{v:Value}(h:∀w',w'.heap[g]? = w.heap[g]?->s.run P w'=.ok v w'):Ld P w g (xV s) v:=λw' hw=>by
 unfold xV
 rw [Sem.run_bind,h w' hw]
 rfl
theorem U7{s:Sem Value}{v:Value}{w':World}(h:s.run P w=.ok v w')(k:K v w'):opK P E (xV s) w K:=by
 unfold opK xV
 rw [Sem.run_bind,h]
 exact k
theorem c8G{s:Sem Unit}{w':World}(h:s.run P w=.ok () w')(k:K undef w'):opK P E (xU s) w K:=by
 unfold opK xU
 rw [Sem.run_bind,h]
 exact k
def gv(b want:Bool)(v:Value):Value:=bif b == want then v else undef
theorem c2k(b want:Bool)(s:Sem Next):gsem (asB (.bool b)) want s=bif b == want then s else pure (.value undef):=by
 cases b<;>cases want<;>rfl
theorem K6(b want:Bool)(v:Value):gval (asB (.bool b)) want v=gv b want v:=by
 cases b<;>cases want<;>rfl
theorem Pu.g{b want:Bool}{s:Sem Next}{v:Value}(h:b=want->Pu P s v):Pu P (gsem (asB (.bool b)) want s) (gv b want v):=by
 intro w
 rw [c2k]
 unfold gv
 cases hb:b == want with
 | true=>exact h (by simpa using hb) w
 | false=>rfl
theorem Ld.g{g:Nat}{b want:Bool}{s:Sem Next}{v:Value}(h:b=want->Ld P w g s v):Ld P w g (gsem (asB (.bool b)) want s) (gv b want v):=by
 intro w' hw
 rw [c2k]
 unfold gv
 cases hb:b == want with
 | true=>exact h (by simpa using hb) w' hw
 | false=>rfl
theorem a9C{b want:Bool}{s:Sem Next}(h1:b=want->opK P E s w K)(h2:¬b=want->K undef w):opK P E (gsem (asB (.bool b)) want s) w K:=by
 rw [c2k]
 cases hb:b == want with
 | true=>exact h1 (by simpa using hb)
 | false=>exact h2 (by simpa using hb)
theorem p6{b want:Bool}{v:Value}(h:b=want):gv b want v=v:=by
 subst h
 cases b<;>rfl
theorem c1s{b want:Bool}{v:Value}(h:¬b=want):gv b want v=undef:=by
 cases b<;>cases want<;>first | exact (h rfl).elim | rfl
theorem a2E{b want:Bool}{g:Nat}{p:Value}{s:Sem Next}{v:Value}{K:Value->Prop}(hp:blk p=some g)(h:Ld P w g (gsem (asB (.bool b)) want s) (gv b want v))(k:K (gv b want v)):qL P w (blk (gv b want p)) (gsem (asB (.bool b)) want s) K:=by
 refine ⟨gv b want v,λw' hs=>?_,k⟩
 by_cases hb:b=want
 ·rw [p6 hb,hp] at hs
  exact h w' hs
 ·rw [c2k,show (b == want)=false by simpa using hb,c1s hb]
  rfl
theorem a8W{b want:Bool}{g:Nat}{p:Value}{w':World}(hp:blk p=some g)(h:w'.heap[g]? = w.heap[g]?):sameB (blk (gv b want p)) w w':=by
 by_cases hb:b=want
 ·rw [p6 hb,hp]
  exact h
 ·rw [c1s hb]
  trivial
theorem a7p(op:BinOp)(t:TypeId)(x y:Operand)(k k':IntKind)(a b:Int):
  xBin op t x y (.int k a) (.int k' b)=xV (binOp op t (.int k a) (.int k' b)):=by
 cases op<;>rfl
section
variable (t:TypeId)(x y:Operand)(k:IntKind)(a b:Int)
theorem D1:Pu P (xBin .lss t x y (.int k a) (.int k b)) (.bool (decide (a < b))):=by
 rw [a7p];exact Pu.ok λw=>by simp [binOp,Op.intCmp]
theorem b9h:Pu P (xBin .leq t x y (.int k a) (.int k b)) (.bool (decide (a<=b))):=by
 rw [a7p];exact Pu.ok λw=>by simp [binOp,Op.intCmp]
theorem X3:Pu P (xBin .gtr t x y (.int k a) (.int k b)) (.bool (decide (b < a))):=by
 rw [a7p];exact Pu.ok λw=>by simp [binOp,Op.intCmp]
theorem a5V:Pu P (xBin .geq t x y (.int k a) (.int k b)) (.bool (decide (b<=a))):=by
 rw [a7p];exact Pu.ok λw=>by simp [binOp,Op.intCmp]
theorem o9:Pu P (xBin .eql t x y (.int k a) (.int k b)) (.bool (decide (a=b))):=by
 rw [a7p];exact Pu.ok λw=>by simp [binOp,Op.intCmp];rfl
theorem O4:Pu P (xBin .neq t x y (.int k a) (.int k b)) (.bool (!decide (a=b))):=by
 rw [a7p];exact Pu.ok λw=>by simp [binOp,Op.intCmp];rw [Bool.eq_iff_iff];simp
theorem A7:Pu P (xBin .add t x y (.int k a) (.int k b)) (.int k (k.wrap (a+b))):=by
 rw [a7p];exact Pu.ok λw=>by simp [binOp,Op.intArith]
theorem a5j:Pu P (xBin .sub t x y (.int k a) (.int k b)) (.int k (k.wrap (a-b))):=by
 rw [a7p];exact Pu.ok λw=>by simp [binOp,Op.intArith]
end
theorem R5(b:Bool):Pu P (xV (Op.unary .not (.bool b))) (.bool !b):=Pu.ok λw=>by simp [Op.unary]
theorem e1x(k:IntKind)(n:Int):Pu P (xV (Op.unary .neg (.int k n))) (.int k (k.wrap (0-n))):=Pu.ok λw=>by simp [Op.unary,Op.intArith]
theorem c0d(b:Bool)(x y:Value):Pu P (xPick (.bool b) x y) (bif b then x else y):=by
 intro w
 cases b<;>rfl
theorem M3(b c:Bool):Pu P (xPick (.bool b) (gv b true (.bool c)) (.bool false)) (.bool (b&&c)):=by
 cases b<;>exact c0d _ _ _
theorem M6(b c:Bool):Pu P (xPick (.bool b) (.bool true) (gv b false (.bool c))) (.bool (b||c)):=by
 cases b<;>exact c0d _ _ _
theorem m7(vs:Array Value)(i:Nat)(v:Value)(h:vs[i]? = some v):Pu P (xV (Instr.extract (.tuple vs) i)) v:=Pu.ok λw=>by simp [Instr.extract,h]
theorem Q7(fn:Fn)(a b:Array Value):Pu P (xV (Instr.makeFunc fn a b)) (.func fn a b):=Pu.ok λw=>by simp [Instr.makeFunc]
theorem c5Q(t:TypeId)(s:BA)(k:IntKind)(i:Int)(ht:P.underlying t=some .string)(h0:0<=i)(hi:i < s.size):
  Pu P (xV (Instr.index t (.string s) (.int k i))) (.int .u8 ((s.get! i.toNat).toNat:Int)):=by
 refine Pu.ok λw=>?_
 have hi':i.toNat < s.size:=by omega
 rw [run_index_string (P:=P) (w:=w) t s k i ht,dif_pos ⟨h0,hi⟩]
 have e:s[i.toNat]'(by omega)=s.get! i.toNat:=by
  obtain ⟨⟨l⟩⟩:=s
  have hi':i.toNat < l.length:=hi'
  simp [ByteArray.get!,hi',ByteArray.getElem_eq_getElem_data]
 rw [e]
theorem d0u(t ty:TypeId)(s:BA)(ht:P.underlying t=some .string):Pu P (xBuiltin .len #[t] ty [false] [.string s]) (.int .i64 (s.size:Int)):=by
 have:xBuiltin .len #[t] ty [false] [.string s]=xV (Builtin.len_ #[t] ty #[.string s]):=rfl
 rw [this]
 exact Pu.ok λw=>run_len_string (P:=P) (w:=w) t ty s ht
theorem a1u{t e ty:TypeId}(hu:P.underlying t=some (.slice e))(a:Option Addr)(n c:Nat):Pu P (xBuiltin .len #[t] ty [false] [.slice a n c]) (.int .i64 (n:Int)):=by
 have e':P.elem t=e:=by simp [Program.elem,hu]
 have:xBuiltin .len #[t] ty [false] [.slice a n c]=xV (Builtin.len_ #[t] ty #[.slice a n c]):=rfl
 rw [this]
 exact Pu.ok λw=>run_len_slice (P:=P) (w:=w) t ty a n c (by rw [e'];exact hu)
theorem d1Z(ty:TypeId)(ts:Array TypeId)(ks:List Bool)(a b:Int):Pu P (xBuiltin .max ts ty ks [.int .i64 a,.int .i64 b]) (.int .i64 (if b > a then b else a)):=by
 have:xBuiltin .max ts ty ks [.int .i64 a,.int .i64 b]=xV (Builtin.max_ ts ty #[.int .i64 a,.int .i64 b]):=rfl
 rw [this]
 exact Pu.ok λw=>run_max_int2 (P:=P) (w:=w) ts ty .i64 .i64 a b
theorem t7(a:Addr):Pu P (xNil (.pointer (some a))) (.pointer (some a)):=λ_=>rfl
theorem a7q(g o j:Nat):(⟨g,o,none⟩:Addr).add j=⟨g,o+j,none⟩:=by unfold Addr.add;split<;>simp_all
theorem a0B{t e:TypeId}{m:Nat}(hu:P.underlying t=some (.slice e))(hs:∀w,(sizeOf e).run P w=.ok m w){a:Option Addr}{g o:Nat}(ha:a=some ⟨g,o,none⟩)(len cap:Nat)(k:IntKind)(i:Int)(h0:0<=i)(h1:i < len):
  Pu P (xV (Instr.indexAt t (.slice a len cap) (.int k i))) (.pointer (some ⟨g,o+i.toNat*m,none⟩)):=by
 subst ha
 refine Pu.ok λw=>?_
 have e':P.elem t=e:=by simp [Program.elem,hu]
 rw [run_indexAt_slice (P:=P) (w:=w) t _ len cap k i (by rw [e'];exact hu),if_pos ⟨h0,h1⟩,e',hs,Result.andThen_ok,a7q]
def AtW(w:World)(g o:Nat)(vs:List Value):Prop:=∃arr t fr,w.heap[g]? = some (.cells arr t fr)/\o+vs.length<=arr.size/\(arr.toList.drop o).take vs.length=vs
theorem b4s{g o:Nat}{cs:Array Value}{t:TypeId}{fr:Nat×Nat}(h:w.heap[g]? = some (.cells cs t fr)):w.cell? ⟨g,o,none⟩=cs[o]?:=by
 simp [World.cell?,h]
theorem AtW.get{g o:Nat}{vs:List Value}(h:AtW w g o vs){j:Nat}{v:Value}(hj:vs[j]? = some v):w.cell? ⟨g,o+j,none⟩=some v:=by
 obtain ⟨arr,t,fr,h1,h2,h3⟩:=h
 rw [b4s h1]
 rw [←h3] at hj
 simp only [List.getElem?_take,List.getElem?_drop,Array.getElem?_toList] at hj
 split at hj
 ·exact hj
 ·cases hj
theorem AtW.move{w':World}{g o:Nat}{vs:List Value}(h:AtW w g o vs)(e:w'.heap[g]? = w.heap[g]?):AtW w' g o vs:=by
 obtain ⟨arr,t,fr,h1,h2⟩:=h
 exact ⟨arr,t,fr,e.trans h1,h2⟩
theorem AtW.sub{g o:Nat}{vs:List Value}(h:AtW w g o vs){k n:Nat}(hk:k+n<=vs.length):AtW w g (o+k) ((vs.drop k).take n):=by
 obtain ⟨arr,t,fr,h1,h2,h3⟩:=h
 have hl:((vs.drop k).take n).length=n:=by simp;omega
 refine ⟨arr,t,fr,h1,by rw [hl];omega,?_⟩
 have e:(((arr.toList.drop o).take vs.length).drop k).take n=(vs.drop k).take n:=by rw [h3]
 rw [hl,← e,List.drop_take,List.drop_drop,List.take_take,Nat.min_eq_left (by omega)]
theorem c1t(a:Addr):Instr.sureAddr (.pointer (some a))=pure a:=rfl
theorem ld1{t:TypeId}{g o:Nat}{v:Value}(hA:∀w,(isAgg t).run P w=.ok false w)(h:AtW w g o [v]):Ld P w g (xV (Instr.loadAt t (.pointer (some ⟨g,o,none⟩)))) v:=by
 refine Ld.ok λw' e=>?_
 have hc:=(h.move e).get (j:=0) (v:=v) rfl
 simp only [Instr.loadAt,c1t,Sem.run_bind,Sem.run_pure,Result.andThen_ok,loadVar,hA,Bool.false_eq_true,if_false,run_load]
 rw [show w'.cell? ⟨g,o,none⟩=some v from hc]
theorem ldA{t:TypeId}{g o n:Nat}{vs:List Value}(hA:∀w,(isAgg t).run P w=.ok true w)(hs:∀w,(sizeOf t).run P w=.ok n w)(hn:vs.length=n)(h:AtW w g o vs):
  Ld P w g (xV (Instr.loadAt t (.pointer (some ⟨g,o,none⟩)))) (.agg vs.toArray):=by
 subst hn
 refine Ld.ok λw' e=>?_
 have:=run_loadCells_list (P:=P) (w:=w') ⟨g,o,none⟩ vs (λj v hj=>by rw [a7q];exact (h.move e).get hj)
 simp only [Instr.loadAt,c1t,Sem.run_bind,Sem.run_pure,Result.andThen_ok,loadVar,hA,if_true,hs,this]
theorem c8H{t:TypeId}{g o:Nat}{v:Value}{K:Value->Prop}(hA:∀w,(isAgg t).run P w=.ok false w)(h:AtW w g o [v])(k:K v):xcell P t (.pointer (some ⟨g,o,none⟩)) w K:=by
 refine ⟨v,?_,k⟩
 have hc:=h.get (j:=0) (v:=v) rfl
 simp only [cellAt,asAddr,Sem.run_bind,Sem.run_pure,Result.andThen_ok,loadVar,hA,Bool.false_eq_true,if_false,run_load]
 rw [show w.cell? ⟨g,o,none⟩=some v from hc]
theorem a3g{t:TypeId}{g o n:Nat}{vs:List Value}{K:Value->Prop}(hA:∀w,(isAgg t).run P w=.ok true w)(hs:∀w,(sizeOf t).run P w=.ok n w)(hn:vs.length=n)(h:AtW w g o vs)(k:K (.agg vs.toArray)):
  xcell P t (.pointer (some ⟨g,o,none⟩)) w K:=by
 subst hn
 refine ⟨_,?_,k⟩
 have:=run_loadCells_list (P:=P) (w:=w) ⟨g,o,none⟩ vs (λj v hj=>by rw [a7q];exact h.get hj)
 simp only [cellAt,asAddr,Sem.run_bind,Sem.run_pure,Result.andThen_ok,loadVar,hA,if_true,hs,this]
end
abbrev Hp:=Nat->Option Obj
abbrev Frag:=List (Nat×Obj)
def Sub(H:Hp)(w:World):Prop:=∀i o,H i=some o->w.heap[i]? = some o
def Hle(H H':Hp):Prop:=∀i o,H i=some o->H' i=some o
theorem Hle.refl(H:Hp):Hle H H:=λ_ _ h=>h
theorem Hle.trans{A B C:Hp}(h:Hle A B)(k:Hle B C):Hle A C:=λi o e=>k i o (h i o e)
def inF(Fs:List Frag)(i:Nat):Prop:=∃p∈Fs.flatten,p.1=i
structure Inv (w0:World) (ps:Nat->Prop) (H0 H:Hp) (Fs:List Frag) (w:World):Prop where
 sub:Sub H w
 own:∀p∈Fs.flatten,w.heap[p.1]? = some p.2
 priv:∀p∈Fs.flatten,H p.1=none
 nodup:(Fs.flatten.map (·.1)).Nodup
 fresh:∀p∈Fs.flatten,ps p.1\/w0.heap.size<=p.1
 frame:∀i,i < w0.heap.size->¬ps i->w.heap[i]? = w0.heap[i]?
 mono:w0.heap.size<=w.heap.size
 os:w.os=w0.os
 tape:w.tape=w0.tape
 output:w.output=w0.output
 le:Hle H0 H
 back:∀i,i < w0.heap.size->¬ps i->H i=H0 i
theorem d6W{W:World}{g:Nat}{o:Obj}(h:W.heap[g]? = some o):g < W.heap.size:=(Array.getElem?_eq_some_iff.1 h).1
section
variable {w0 w:World}{ps:Nat->Prop}{H0 H:Hp}{Fs:List Frag}
theorem Inv.perm{Gs:List Frag}(I:Inv w0 ps H0 H Fs w)(hp:Gs.flatten.Perm Fs.flatten):Inv w0 ps H0 H Gs w:=
 ⟨I.sub,λp h=>I.own p (hp.mem_iff.1 h),λp h=>I.priv p (hp.mem_iff.1 h),(hp.map _).nodup_iff.2 I.nodup,λp h=>I.fresh p (hp.mem_iff.1 h),I.frame,I.mono,I.os,I.tape,I.output,I.le,I.back⟩
def bring:Nat->List Frag->List Frag
 | 0,l=>l
 | _+1,[]=>[]
 | k+1,a::l=>
  match bring k l with
  | []=>[a]
  | b::r=>b::a::r
theorem c2l:∀(k:Nat)(l:List Frag),(bring k l).flatten.Perm l.flatten
 | 0,_=>.refl _
 | _+1,[]=>.refl _
 | k+1,a::l=>by
  have ih:=c2l k l
  unfold bring
  split
  ·rename_i h
   rw [h] at ih
   simp only [List.flatten_cons,List.flatten_nil,List.append_nil] at ih ⊢
   rw [ih.symm.eq_nil,List.append_nil]
  ·rename_i b r h
   rw [h] at ih
   simp only [List.flatten_cons] at ih ⊢
   exact (List.perm_append_comm_assoc b a r.flatten).trans (ih.append_left a)
theorem Inv.bring(k:Nat)(I:Inv w0 ps H0 H Fs w):Inv w0 ps H0 H (bring k Fs) w:=I.perm (c2l k Fs)
theorem Inv.split{p:Nat×Obj}{F:Frag}(I:Inv w0 ps H0 H ((p::F)::Fs) w):Inv w0 ps H0 H ([p]::F::Fs) w:=I.perm (.refl _)
theorem Inv.drop{F:Frag}(I:Inv w0 ps H0 H (F::Fs) w):Inv w0 ps H0 H Fs w:=
 ⟨I.sub,λp h=>I.own p (List.mem_append_right _ h),λp h=>I.priv p (List.mem_append_right _ h),by
  have:=I.nodup
  rw [List.flatten_cons,List.map_append] at this
  exact (List.nodup_append.1 this).2.1,λp h=>I.fresh p (List.mem_append_right _ h),I.frame,I.mono,I.os,I.tape,I.output,I.le,I.back⟩
theorem Inv.nil(I:Inv w0 ps H0 H Fs w):Inv w0 ps H0 H ([]::Fs) w:=I.perm (.refl _)
theorem Inv.lt(I:Inv w0 ps H0 H Fs w){p:Nat×Obj}(h:p∈Fs.flatten):p.1 < w.heap.size:=d6W (I.own p h)
theorem Inv.lt1{g:Nat}{o:Obj}{F:Frag}(I:Inv w0 ps H0 H (((g,o)::F)::Fs) w):g < w.heap.size:=I.lt (p:=(g,o)) (List.mem_cons_self ..)
theorem Inv.hp1{g:Nat}{o:Obj}{F:Frag}(I:Inv w0 ps H0 H (((g,o)::F)::Fs) w):w.heap[g]? = some o:=I.own (g,o) (List.mem_cons_self ..)
theorem Inv.Hlt(I:Inv w0 ps H0 H Fs w){i:Nat}{o:Obj}(h:H i=some o):i < w.heap.size:=d6W (I.sub i o h)
theorem Inv.Hnot(I:Inv w0 ps H0 H Fs w){i:Nat}{o:Obj}(h:H i=some o):¬inF Fs i:=by
 rintro ⟨p,hp,rfl⟩
 rw [I.priv p hp] at h
 cases h
theorem Inv.nnew(I:Inv w0 ps H0 H Fs w):¬inF Fs w.heap.size:=by
 rintro ⟨p,hp,e⟩
 have:=I.lt hp
 omega
theorem Inv.Hnew(I:Inv w0 ps H0 H Fs w):H w.heap.size=none:=by
 cases h:H w.heap.size with
 | none=>rfl
 | some o=>have:=I.Hlt h;omega
theorem Inv.alloc(I:Inv w0 ps H0 H Fs w)(o:Obj):Inv w0 ps H0 H ([(w.heap.size,o)]::Fs) (w.alloc o):=by
 have old:∀i,i < w.heap.size->(w.alloc o).heap[i]? = w.heap[i]?:=λi hi=>Below.heap_alloc w o i hi
 have new:(w.alloc o).heap[w.heap.size]? = some o:=heap_alloc_new w o
 have hs:(w.alloc o).heap.size=w.heap.size+1:=World.size_alloc w o
 refine ⟨λi o' h=>(old i (I.Hlt h)).trans (I.sub i o' h),?_,?_,?_,?_,λi hi hp=>(old i (by have:=I.mono;omega)).trans (I.frame i hi hp),by have:=I.mono;omega,I.os,I.tape,I.output,I.le,I.back⟩
 ·intro p hp
  rcases List.mem_cons.1 hp with rfl | hp
  ·exact new
  ·exact (old _ (I.lt hp)).trans (I.own p hp)
 ·intro p hp
  rcases List.mem_cons.1 hp with rfl | hp
  ·exact I.Hnew
  ·exact I.priv p hp
 ·show ((w.heap.size,o)::Fs.flatten).map (·.1) |>.Nodup
  rw [List.map_cons,List.nodup_cons]
  refine ⟨λh=>?_,I.nodup⟩
  obtain ⟨p,hp,e⟩:=List.mem_map.1 h
  exact I.nnew ⟨p,hp,e⟩
 ·intro p hp
  rcases List.mem_cons.1 hp with rfl | hp
  ·exact .inr I.mono
  ·exact I.fresh p hp
theorem Inv.drawn(I:Inv w0 ps H0 H Fs w)(n:Nat):Inv w0 ps H0 H Fs { w with drawn:=n }:=
 ⟨I.sub,I.own,I.priv,I.nodup,I.fresh,I.frame,I.mono,I.os,I.tape,I.output,I.le,I.back⟩
theorem Inv.setRow{g:Nat}{cs cs':Array Value}{t:TypeId}{fr:Nat×Nat}{F:Frag}(I:Inv w0 ps H0 H (((g,.cells cs t fr)::F)::Fs) w):Inv w0 ps H0 H (((g,.cells cs' t fr)::F)::Fs) (w.setRow g cs'):=by
 have far:∀i,i≠g->(w.setRow g cs').heap[i]? = w.heap[i]?:=λi hi=>setRow_other w g i cs' hi
 have hs:(w.setRow g cs').heap.size=w.heap.size:=setRow_size w g cs'
 have hg:∀p∈F++Fs.flatten,p.1≠g:=by
  have:=I.nodup
  rw [show ((((g,Obj.cells cs t fr)::F)::Fs).flatten.map (·.1))=g::((F++Fs.flatten).map (·.1)) from rfl,List.nodup_cons] at this
  exact λp hp e=>this.1 (List.mem_map.2 ⟨p,hp,e⟩)
 have hgp:ps g\/w0.heap.size<=g:=I.fresh (g,.cells cs t fr) (List.mem_cons_self ..)
 refine ⟨λi o h=>(far i λe=>?_).trans (I.sub i o h),?_,?_,?_,?_,λi hi hp=>(far i λe=>?_).trans (I.frame i hi hp),by have:=I.mono;omega,I.os,I.tape,I.output,I.le,I.back⟩
 ·subst e
  exact I.Hnot h ⟨(i,.cells cs t fr),List.mem_cons_self ..,rfl⟩
 ·intro p hp
  rcases List.mem_cons.1 hp with rfl | hp
  ·exact setRow_heap w g cs cs' t fr I.hp1
  ·exact (far _ (hg p hp)).trans (I.own p (List.mem_cons_of_mem _ hp))
 ·intro p hp
  rcases List.mem_cons.1 hp with rfl | hp
  ·exact I.priv (g,.cells cs t fr) (List.mem_cons_self ..)
  ·exact I.priv p (List.mem_cons_of_mem _ hp)
 ·exact I.nodup
 ·intro p hp
  rcases List.mem_cons.1 hp with rfl | hp
  ·exact hgp
  ·exact I.fresh p (List.mem_cons_of_mem _ hp)
 ·subst e
  rcases hgp with h | h
  ·exact hp h
  ·omega
def addF(H:Hp)(F:Frag):Hp:=λi=>
 match F.find? (λp=>p.1 == i) with
 | some p=>some p.2
 | none=>H i
theorem d8t{F:Frag}(hn:(F.map (·.1)).Nodup){p:Nat×Obj}(hp:p∈F):addF H F p.1=some p.2:=by
 unfold addF
 have:F.find? (λq=>q.1 == p.1)=some p:=by
  induction F with
  | nil=>cases hp
  | cons q F ih=>
   rw [List.map_cons,List.nodup_cons] at hn
   rcases List.mem_cons.1 hp with rfl | hp
   ·simp
   ·have hne:(q.1 == p.1)=false:=by
     rw [beq_eq_false_iff_ne]
     intro e
     exact hn.1 (List.mem_map.2 ⟨p,hp,e.symm⟩)
    rw [List.find?_cons,hne]
    exact ih hn.2 hp
 rw [this]
theorem c1u{F:Frag}{i:Nat}(h:∀p∈F,p.1≠i):addF H F i=H i:=by
 unfold addF
 have:F.find? (λq=>q.1 == i)=none:=List.find?_eq_none.2 λp hp=>by simpa using h p hp
 rw [this]
theorem d0v(H:Hp)(F:Frag)(i:Nat):(∃p∈F,p.1=i/\addF H F i=some p.2)\/((∀p∈F,p.1≠i)/\addF H F i=H i):=by
 unfold addF
 cases h:F.find? (λp=>p.1 == i) with
 | some p=>exact .inl ⟨p,List.mem_of_find?_eq_some h,by simpa using List.find?_some h,rfl⟩
 | none=>exact .inr ⟨λp hp=>by simpa using List.find?_eq_none.1 h p hp,rfl⟩
theorem Inv.freeze{F:Frag}(I:Inv w0 ps H0 H (F::Fs) w):Inv w0 ps H0 (addF H F) Fs w/\Hle H (addF H F)/\∀p∈F,addF H F p.1=some p.2:=by
 have nd:=I.nodup
 rw [List.flatten_cons,List.map_append] at nd
 obtain ⟨n1,n2,n3⟩:=List.nodup_append.1 nd
 have hle:Hle H (addF H F):=λi o h=>by
  rw [c1u λp hp e=>?_]
  ·exact h
  ·subst e
   rw [I.priv p (List.mem_append_left _ hp)] at h
   cases h
 refine ⟨⟨?_,λp h=>I.own p (List.mem_append_right _ h),?_,n2,λp h=>I.fresh p (List.mem_append_right _ h),I.frame,I.mono,I.os,I.tape,I.output,I.le.trans hle,?_⟩,hle,λp hp=>d8t n1 hp⟩
 ·intro i o h
  rcases d0v H F i with ⟨p,hp,rfl,e⟩ | ⟨_,e⟩
  ·rw [e] at h
   cases h
   exact I.own p (List.mem_append_left _ hp)
  ·rw [e] at h
   exact I.sub i o h
 ·intro p hp
  rw [c1u λq hq e=>?_]
  ·exact I.priv p (List.mem_append_right _ hp)
  ·exact n3 q.1 (List.mem_map.2 ⟨q,hq,rfl⟩) p.1 (List.mem_map.2 ⟨p,hp,rfl⟩) e
 ·intro i hi hp
  rw [c1u λq hq e=>?_]
  ·exact I.back i hi hp
  ·subst e
   rcases I.fresh q (List.mem_append_left _ hq) with h | h
   ·exact hp h
   ·omega
end
def Ct(P:Program)(f:FuncId)(args:List Value)(H:Hp)(Fi:List Frag)(Q:Value->Hp->List Frag->Prop)(QE:List PanicEntry->Hp->List Frag->Prop):Prop:=
 ∀w,Inv w (inF Fi) H H Fi w->Cv P f args.toArray w (λv w'=>∃H' Fo,Inv w (inF Fi) H H' Fo w'/\Q v H' Fo) (λc w'=>∃H' Fo,Inv w (inF Fi) H H' Fo w'/\QE c H' Fo)
def noQE:List PanicEntry->Hp->List Frag->Prop:=λ_ _ _=>False
theorem Ct.mono{P:Program}{f:FuncId}{args:List Value}{H:Hp}{Fi:List Frag}{Q Q':Value->Hp->List Frag->Prop}{QE QE':List PanicEntry->Hp->List Frag->Prop}(h:Ct P f args H Fi Q QE)(hq:∀v H' Fo,Hle H H'->Q v H' Fo->Q' v H' Fo)(he:∀c H' Fo,Hle H H'->QE c H' Fo->QE' c H' Fo):Ct P f args H Fi Q' QE':=λw I=>
 Cv.mono (h w I) (λ_ _ ⟨H',Fo,I',q⟩=>⟨H',Fo,I',hq _ _ _ I'.le q⟩) λ_ _ ⟨H',Fo,I',q⟩=>⟨H',Fo,I',he _ _ _ I'.le q⟩
section
variable {P:Program}{E:Pan}{w0 w:World}{ps:Nat->Prop}{H0 H:Hp}{Fs:List Frag}{K:Value->World->Prop}
theorem Inv.call{Fi Fr Fo:List Frag}{H':Hp}{w':World}(I:Inv w0 ps H0 H (Fi++Fr) w)(J:Inv w (inF Fi) H H' Fo w'):Inv w0 ps H0 H' (Fo++Fr) w'/\∀i,i < w.heap.size->¬inF Fi i->w'.heap[i]? = w.heap[i]?:=by
 have nd:=I.nodup
 rw [List.flatten_append,List.map_append] at nd
 obtain ⟨n1,n2,n3⟩:=List.nodup_append.1 nd
 have memL:∀p,p∈Fi.flatten->p∈(Fi++Fr).flatten:=λp hp=>by rw [List.flatten_append];exact List.mem_append_left _ hp
 have memR:∀p,p∈Fr.flatten->p∈(Fi++Fr).flatten:=λp hp=>by rw [List.flatten_append];exact List.mem_append_right _ hp
 have hr:∀p∈Fr.flatten,¬inF Fi p.1:=by
  rintro p hp ⟨q,hq,e⟩
  exact n3 q.1 (List.mem_map.2 ⟨q,hq,rfl⟩) p.1 (List.mem_map.2 ⟨p,hp,rfl⟩) e
 have ho:∀p∈Fo.flatten,ps p.1\/w0.heap.size<=p.1:=λp hp=>by
  rcases J.fresh p hp with ⟨q,hq,e⟩ | h
  ·rw [←e];exact I.fresh q (memL q hq)
  ·have:=I.mono;exact .inr (by omega)
 have hin:∀i,i < w0.heap.size->¬ps i->¬inF Fi i:=by
  rintro i hi hp ⟨q,hq,rfl⟩
  rcases I.fresh q (memL q hq) with h | h
  ·exact hp h
  ·omega
 refine ⟨⟨J.sub,?_,?_,?_,?_,λi hi hp=>(J.frame i (by have:=I.mono;omega) (hin i hi hp)).trans (I.frame i hi hp),by have:=I.mono;have:=J.mono;omega,J.os.trans I.os,J.tape.trans I.tape,J.output.trans I.output,I.le.trans J.le,
  λi hi hp=>(J.back i (by have:=I.mono;omega) (hin i hi hp)).trans (I.back i hi hp)⟩,J.frame⟩
 ·intro p hp
  rw [List.flatten_append] at hp
  rcases List.mem_append.1 hp with hp | hp
  ·exact J.own p hp
  ·exact (J.frame p.1 (I.lt (memR p hp)) (hr p hp)).trans (I.own p (memR p hp))
 ·intro p hp
  rw [List.flatten_append] at hp
  rcases List.mem_append.1 hp with hp | hp
  ·exact J.priv p hp
  ·exact (J.back p.1 (I.lt (memR p hp)) (hr p hp)).trans (I.priv p (memR p hp))
 ·rw [List.flatten_append,List.map_append]
  refine List.nodup_append.2 ⟨J.nodup,n2,?_⟩
  intro a ha b hb e
  subst e
  obtain ⟨p,hp,rfl⟩:=List.mem_map.1 ha
  obtain ⟨q,hq,e⟩:=List.mem_map.1 hb
  rcases J.fresh p hp with h | h
  ·exact hr q hq (by rw [e];exact h)
  ·have:=I.lt (memR q hq)
   omega
 ·intro p hp
  rw [List.flatten_append] at hp
  rcases List.mem_append.1 hp with hp | hp
  ·exact ho p hp
  ·exact I.fresh p (memR p hp)
theorem Inv.self{Fi Fr:List Frag}(I:Inv w0 ps H0 H (Fi++Fr) w):Inv w (inF Fi) H H Fi w:=by
 have nd:=I.nodup
 rw [List.flatten_append,List.map_append] at nd
 obtain ⟨n1,_,_⟩:=List.nodup_append.1 nd
 have memL:∀p,p∈Fi.flatten->p∈(Fi++Fr).flatten:=λp hp=>by rw [List.flatten_append];exact List.mem_append_left _ hp
 exact ⟨I.sub,λp hp=>I.own p (memL p hp),λp hp=>I.priv p (memL p hp),n1,λp hp=>.inl ⟨p,hp,rfl⟩,λ_ _ _=>rfl,Nat.le_refl _,rfl,rfl,rfl,Hle.refl _,λ_ _ _=>rfl⟩
theorem a1y{f:FuncId}{args:List Value}{Fi Fr:List Frag}{Q:Value->Hp->List Frag->Prop}{QE:List PanicEntry->Hp->List Frag->Prop}(I:Inv w0 ps H0 H (Fi++Fr) w)(hc:Ct P f args H Fi Q QE)
  (hq:∀v H' Fo w',Inv w0 ps H0 H' (Fo++Fr) w'->Hle H H'->(∀i,i < w.heap.size->¬inF Fi i->w'.heap[i]? = w.heap[i]?)->Q v H' Fo->K v w')
  (he:∀c H' Fo w',Inv w0 ps H0 H' (Fo++Fr) w'->QE c H' Fo->E c w'):Cv P f args.toArray w K E:=
 Cv.mono (hc w I.self) (λv w' ⟨H',Fo,J,q⟩=>hq v H' Fo w' (I.call J).1 J.le (I.call J).2 q) λc w' ⟨H',Fo,J,q⟩=>he c H' Fo w' (I.call J).1 q
theorem a4p{s:Sem Next}{f:FuncId}{args:Array Value}(h:s.run P w=.ok (.enter f args) w)(k:Cv P f args w K E):opK P E s w K:=by
 unfold opK
 rw [h]
 exact k
theorem a1O{f:FuncId}{args:List Value}{cap:List Value}(he:∀args w,(callFunc f args).run P w=.ok (.enter f args) w)(h:Cv P f (args++cap).toArray w K E):opK P E (xCall (.func (.func f) #[] cap.toArray) args) w K:=by
 refine a4p (f:=f) (args:=(args++cap).toArray) ?_ h
 simp only [xCall,Deferred.ofValue,invoke,Sem.run_bind,Sem.run_pure,Result.andThen_ok,he,List.append_toArray,List.nil_append]
theorem a7R{f:FuncId}{args cap:List Value}{Fi Fr:List Frag}{Q:Value->Hp->List Frag->Prop}(he:∀args w,(callFunc f args).run P w=.ok (.enter f args) w)(hc:Ct P f (args++cap) H Fi Q noQE)(I:Inv w0 ps H0 H (Fi++Fr) w)
  (hq:∀v H' Fo w',Inv w0 ps H0 H' (Fo++Fr) w'->Hle H H'->(∀i,i < w.heap.size->¬inF Fi i->w'.heap[i]? = w.heap[i]?)->Q v H' Fo->K v w'):opK P E (xCall (.func (.func f) #[] cap.toArray) args) w K:=
 a1O he (a1y I hc hq λ_ _ _ _ _ q=>q.elim)
theorem f7{f:FuncId}{args:List Value}{Fi Fr:List Frag}{Q:Value->Hp->List Frag->Prop}(he:∀args w,(callFunc f args).run P w=.ok (.enter f args) w)(hc:Ct P f args H Fi Q noQE)(I:Inv w0 ps H0 H (Fi++Fr) w)
  (hq:∀v H' Fo w',Inv w0 ps H0 H' (Fo++Fr) w'->Hle H H'->(∀i,i < w.heap.size->¬inF Fi i->w'.heap[i]? = w.heap[i]?)->Q v H' Fo->K v w'):opK P E (xCall (.func (.func f) #[] #[]) args) w K:=
 a7R (cap:=[]) he (by rw [List.append_nil];exact hc) I hq
theorem Ct.of{f:FuncId}{args:List Value}{Fi:List Frag}{Q:Value->Hp->List Frag->Prop}(h:∀(w0 w:World)(ps0:Nat->Prop)(H0:Hp)(R:Value->World->Prop)(E:Pan),Inv w0 ps0 H0 H Fi w->(∀v H' Fo w',Inv w0 ps0 H0 H' Fo w'->Q v H' Fo->R v w')->Cv P f args.toArray w R E):Ct P f args H Fi Q noQE:=
 λw I=>h w w _ _ _ _ I λ_ H' Fo _ J q=>⟨H',Fo,J,q⟩
def bx(g:Nat)(t:TypeId)(cs:List Value):Frag:=[(g,.cells cs.toArray t (0,0))]
theorem Inv.at1{g:Nat}{t:TypeId}{cs:List Value}{F:Frag}(I:Inv w0 ps H0 H (((g,.cells cs.toArray t (0,0))::F)::Fs) w){o:Nat}{vs:List Value}(h:o+vs.length<=cs.length)(hv:(cs.drop o).take vs.length=vs):AtW w g o vs:=
 ⟨_,_,_,I.hp1,by simpa using h,hv⟩
theorem r8{t:TypeId}{z:Value}(I:Inv w0 ps H0 H Fs w)(hz:∀w,(zeroValue t).run P w=.ok z w){cs:List Value}(hc:z.cells=cs.toArray)
  (h:∀g w',Inv w0 ps H0 H (bx g t cs::Fs) w'->(∀i,i < w.heap.size->w'.heap[i]? = w.heap[i]?)->K (.pointer (some ⟨g,0,none⟩)) w'):opK P E (xV (Instr.alloc t true (.tuple #[]))) w K:=by
 refine U7 (v:=.pointer (some ⟨w.heap.size,0,none⟩)) (w':=w.alloc (.cells z.cells t)) ?_ ?_
 ·simp only [Instr.alloc,Sem.run_bind,hz,Result.andThen_ok,newVar,newRow,newObj,Sem.run,Sem.run_pure]
  rfl
 ·rw [hc]
  exact h _ _ (I.alloc _) λi hi=>Below.heap_alloc w _ i hi
theorem D3{t:TypeId}{v:Value}(I:Inv w0 ps H0 H Fs w){cs:List Value}(hc:v.cells=cs.toArray)
  (h:∀g w',Inv w0 ps H0 H (bx g t cs::Fs) w'->(∀i,i < w.heap.size->w'.heap[i]? = w.heap[i]?)->K (.pointer (some ⟨g,0,none⟩)) w'):opK P E (xV (Instr.box t v)) w K:=by
 refine U7 (v:=.pointer (some ⟨w.heap.size,0,none⟩)) (w':=w.alloc (.cells v.cells t)) ?_ ?_
 ·simp only [Instr.box,Sem.run_bind,Result.andThen_ok,newVar,newRow,newObj,Sem.run,Sem.run_pure]
  rfl
 ·rw [hc]
  exact h _ _ (I.alloc _) λi hi=>Below.heap_alloc w _ i hi
theorem H9{t t':TypeId}{g o n:Nat}{v:Value}{cs cs':List Value}{F:Frag}(I:Inv w0 ps H0 H (((g,.cells cs.toArray t' (0,0))::F)::Fs) w)(hs:∀w,(sizeOf t).run P w=.ok n w){vs:List Value}(hv:v.cells=vs.toArray)(hn:vs.length=n)
  (hb:o+n<=cs.length) (h1:vs.all (·.oneCell')=true) (hc:cs.take o++vs++cs.drop (o+vs.length)=cs')
  (h:∀w',Inv w0 ps H0 H (((g,.cells cs'.toArray t' (0,0))::F)::Fs) w'->(∀i,i≠g->w'.heap[i]? = w.heap[i]?)->K undef w'):opK P E (xU (Instr.storeAt t (.pointer (some ⟨g,o,none⟩)) v)) w K:=by
 subst hn
 refine c8G (w':=w.setRow g cs'.toArray) ?_ ?_
 ·have:=run_storeCells_at (P:=P) g o t' vs 0 cs.toArray w I.hp1 (by simpa using hb) (λv' hv'=>List.all_eq_true.1 h1 v' hv')
  simp only [Nat.add_zero] at this
  have hsz:vs.toArray.size=vs.length:=by simp
  simp only [Instr.storeAt,c1t,Sem.run_bind,Sem.run_pure,Result.andThen_ok,storeVar,hs,hv,hsz,ne_eq,not_true_eq_false,if_false,this,hc]
 ·exact h _ I.setRow λi hi=>setRow_other w g i _ hi
theorem L6{K:World->Prop}(I:Inv w0 ps H0 H Fs w)(h:∀w',Inv w0 ps H0 H Fs w'->K w'):dX w K:=h _ (I.drawn _)
def AtH(H:Hp)(g o:Nat)(vs:List Value):Prop:=∃arr t fr,H g=some (.cells arr t fr)/\o+vs.length<=arr.size/\(arr.toList.drop o).take vs.length=vs
theorem AtH.le{H':Hp}{g o:Nat}{vs:List Value}(h:AtH H g o vs)(e:Hle H H'):AtH H' g o vs:=by
 obtain ⟨arr,t,fr,h1,h2⟩:=h
 exact ⟨arr,t,fr,e _ _ h1,h2⟩
theorem Inv.atH(I:Inv w0 ps H0 H Fs w){g o:Nat}{vs:List Value}(h:AtH H g o vs):AtW w g o vs:=by
 obtain ⟨arr,t,fr,h1,h2⟩:=h
 exact ⟨arr,t,fr,I.sub _ _ h1,h2⟩
theorem Inv.b1d(I:Inv w0 ps H0 H Fs w){g o:Nat}{vs:List Value}(h:AtH H g o vs):g < w.heap.size:=by
 obtain ⟨arr,t,fr,h1,_⟩:=h
 exact I.Hlt h1
theorem Inv.c8I(I:Inv w0 ps H0 H Fs w){g o:Nat}{vs:List Value}(h:AtH H g o vs):¬inF Fs g:=by
 obtain ⟨arr,t,fr,h1,_⟩:=h
 exact I.Hnot h1
structure Sl where
 a:Option Addr
 n:Nat
 c:Nat
def Sl.v(s:Sl):Value:=.slice s.a s.n s.c
theorem nb{n m:Nat}(h:Nat.ble n m=true):n<=m:=Nat.le_of_ble_eq_true h
abbrev vi(n:Int):Value:=.int .i64 n
abbrev vs(s:Sl):Value:=.slice s.a s.n s.c
def EltH(H:Hp)(s:Sl)(i:Int)(sz:Nat)(vs:List Value):Prop:=∃g o,s.a=some ⟨g,o,none⟩/\AtH H g (o+i.toNat*sz) vs
theorem EltH.le{H':Hp}{s:Sl}{i:Int}{sz:Nat}{vs:List Value}(h:EltH H s i sz vs)(e:Hle H H'):EltH H' s i sz vs:=by
 obtain ⟨g,o,h1,h2⟩:=h
 exact ⟨g,o,h1,h2.le e⟩
def RowR(t:TypeId)(sz:Nat)(s:Sl)(cs:List Value)(F:Frag):Prop:=
 cs.length=s.n*sz/\((s=⟨none,0,0⟩/\F=[])\/∃g arr,s.a=some ⟨g,0,none⟩/\F=[(g,.cells arr t (0,0))]/\s.n<=s.c/\s.c<=maxLen/\arr.size=s.c*sz/\arr.toList.take (s.n*sz)=cs)
theorem RowR.nil(t:TypeId)(sz:Nat):RowR t sz ⟨none,0,0⟩ [] []:=⟨by simp,.inl ⟨rfl,rfl⟩⟩
theorem RowR.at_{t:TypeId}{sz:Nat}{s:Sl}{cs:List Value}{F:Frag}(hr:RowR t sz s cs F)(I:Inv w0 ps H0 H (F::Fs) w){g:Nat}{o:Nat}{arr:Array Value}(hF:F=[(g,.cells arr t (0,0))]){vs:List Value}(ht:arr.toList.take (s.n*sz)=cs)(h:o+vs.length<=cs.length)(hv:(cs.drop o).take vs.length=vs):AtW w g o vs:=by
 subst hF
 have hl:cs.length<=arr.size:=by
  have:=congrArg List.length ht
  simp only [List.length_take,Array.length_toList] at this
  omega
 refine ⟨arr,t,(0,0),I.hp1,by omega,?_⟩
 have hk:=hr.1
 rw [←ht,List.drop_take,List.take_take,Nat.min_eq_left (by omega)] at hv
 exact hv
theorem RowR.elt{t:TypeId}{sz:Nat}{s:Sl}{cs:List Value}{F:Frag}(hr:RowR t sz s cs F)(hF:∀p∈F,H p.1=some p.2){i:Int}{vs:List Value}(_:0<=i)(h:i.toNat*sz+vs.length<=cs.length)(h0:vs≠[])(hv:(cs.drop (i.toNat*sz)).take vs.length=vs):EltH H s i sz vs:=by
 obtain ⟨h1,h2⟩:=hr
 rcases h2 with ⟨rfl,rfl⟩ | ⟨g,arr,ha,rfl,h3,h4,h5,h6⟩
 ·simp only [Nat.zero_mul] at h1
  have:vs.length≠0:=λe=>h0 (List.length_eq_zero_iff.1 e)
  omega
 ·have hl:cs.length<=arr.size:=by
   have:=congrArg List.length h6
   simp only [List.length_take,Array.length_toList] at this
   omega
  refine ⟨g,0,ha,arr,t,(0,0),hF _ (List.mem_singleton_self _),by omega,?_⟩
  rw [Nat.zero_add]
  rw [←h6,List.drop_take,List.take_take,Nat.min_eq_left (by omega)] at hv
  exact hv
end
def TL{α:Type}(init:α)(H:Hp)(body:α->Hp->(α->Hp->Prop)->Prop):Prop:=
 ∃(I:α->Hp->Prop)(μ:α->Nat),I init H/\∀s H' (next:α->Hp->Prop),I s H'->(∀s' H'',I s' H''->μ s' < μ s->next s' H'')->body s H' next
theorem P7{α:Type}{init:α}{H:Hp}{body:α->Hp->(α->Hp->Prop)->Prop}(I:α->Hp->Prop)(μ:α->Nat)(h0:I init H)
  (hb:∀s H' (next:α->Hp->Prop),I s H'->(∀s' H'',I s' H''->μ s' < μ s->next s' H'')->body s H' next):TL init H body:=⟨I,μ,h0,hb⟩
open Classical in
theorem G6{S:List Nat}{init:List Value}{w:World}{body:Fr->World->(List Value->World->Prop)->Prop}(J:Nat->List Value->World->Prop)(h0:∃n,J n init w)
  (hb:∀n (τ:Fr) w' (next:List Value->World->Prop),J n (S.map τ) w'->(∀l w'' m,m < n->J m l w''->next l w'')->body τ w' next):xloop S init w body:=by
 have least:∀l w',(∃n,J n l w')->∃n,J n l w'/\∀m,J m l w'->n<=m:=by
  rintro l w' ⟨n,hn⟩
  induction n using Nat.strongRecOn with
  | _ n ih=>
   by_cases hx:∃m,m < n/\J m l w'
   ·obtain ⟨m,hm,hJ⟩:=hx
    exact ih m hm hJ
   ·exact ⟨n,hn,λm hm=>Nat.le_of_not_lt λh=>hx ⟨m,h,hm⟩⟩
 refine ⟨λl w'=>∃n,J n l w',λl w'=>if h:∃n,J n l w' then (least l w' h).choose else 0,h0,λτ w' hI=>?_⟩
 have hsp:=(least _ _ hI).choose_spec
 refine hb _ τ w' _ hsp.1 λl w'' m hm hJ=>⟨⟨m,hJ⟩,?_⟩
 have hI':∃n,J n l w'':=⟨m,hJ⟩
 dsimp only
 rw [dif_pos hI,dif_pos hI']
 exact Nat.lt_of_le_of_lt ((least _ _ hI').choose_spec.2 m hJ) hm
theorem a2f{σ:Type}{w0 w:World}{ps:Nat->Prop}{H0 H:Hp}{S:List Nat}{init:List Value}{x0:σ}{B:σ->Hp->(σ->Hp->Prop)->Prop}{body:Fr->World->(List Value->World->Prop)->Prop}(e:σ->List Value)(Fs:σ->List Frag)(h:TL x0 H B)(he:init=e x0)(I:Inv w0 ps H0 H (Fs x0) w)
  (hb:∀s H (τ:Fr) w next n,S.map τ = e s->Inv w0 ps H0 H (Fs s) w->B s H n->(∀s' H' w',n s' H'->Inv w0 ps H0 H' (Fs s') w'->next (e s') w')->body τ w next):xloop S init w body:=by
 obtain ⟨J,m,h0,hs⟩:=h
 subst he
 refine G6 (J:=λk l w=>∃(s:σ)(H:Hp),k=m s/\l=e s/\Inv w0 ps H0 H (Fs s) w/\J s H) ⟨_,x0,H,rfl,rfl,I,h0⟩ ?_
 rintro k τ w' next ⟨s,H1,rfl,hl,I1,hj⟩ hn
 exact hb s H1 τ w' next (λs' H'=>J s' H'/\m s' < m s) hl I1 (hs s H1 _ hj λ_ _ a b=>⟨a,b⟩) λs' H' w2 q I2=>hn _ _ _ q.2 ⟨s',H',rfl,rfl,I2,q.1⟩
theorem u7{K:List Value->World->Prop}{body:(List Value->World->Prop)->Prop}(h:∀j:List Value->World->Prop,(∀l w,K l w->j l w)->body j):xcut K body:=h K λ_ _ h=>h
theorem X2{p:Prop} [Decidable p] {A B:Prop} (h1:p->A) (h2:¬p->B):xcond (.bool (decide p)) A B:=by
 by_cases h:p
 ·simpa [xcond,h] using h1 h
 ·simpa [xcond,h] using h2 h
theorem b0R{p:Prop} [Decidable p] {A B:Prop} (h1:¬p->A) (h2:p->B):xcond (.bool (!decide p)) A B:=by
 by_cases h:p
 ·simpa [xcond,h] using h2 h
 ·simpa [xcond,h] using h1 h
theorem Z5{b:Bool}{A B:Prop}(h1:b=true->A)(h2:b=false->B):xcond (.bool b) A B:=by
 cases b
 ·exact h2 rfl
 ·exact h1 rfl
theorem j7{p:Prop} [Decidable p] {A B A' B':Prop} (h:(p->A')/\(¬p->B')) (h1:p->A'->A) (h2:¬p->B'->B):xcond (.bool (decide p)) A B:=X2 (λc=>h1 c (h.1 c)) λc=>h2 c (h.2 c)
theorem a1L{p:Prop} [Decidable p] {A B A' B':Prop} (h:(¬p->A')/\(p->B')) (h1:¬p->A'->A) (h2:p->B'->B):xcond (.bool (!decide p)) A B:=b0R (λc=>h1 c (h.1 c)) λc=>h2 c (h.2 c)
theorem t6{b:Bool}{A B A' B':Prop}(h:(b=true->A')/\(b=false->B'))(h1:b=true->A'->A)(h2:b=false->B'->B):xcond (.bool b) A B:=Z5 (λc=>h1 c (h.1 c)) λc=>h2 c (h.2 c)
section
variable {P:Program}{w0 w:World}{ps:Nat->Prop}{H0 H:Hp}{Fs:List Frag}
theorem l1{t t':TypeId}{g o:Nat}{v:Value}{cs:List Value}{F:Frag}(hA:∀w,(isAgg t).run P w=.ok false w)(I:Inv w0 ps H0 H (((g,.cells cs.toArray t' (0,0))::F)::Fs) w)(hv:cs[o]? = some v):Ld P w g (xV (Instr.loadAt t (.pointer (some ⟨g,o,none⟩)))) v:=
 ld1 hA (I.at1 (vs:=[v]) (by have:=(List.getElem?_eq_some_iff.1 hv).1;simp only [List.length_singleton];omega) (by
  obtain ⟨h1,h2⟩:=List.getElem?_eq_some_iff.1 hv
  rw [←h2,List.drop_eq_getElem_cons h1];rfl))
theorem lW{t t':TypeId}{g n:Nat}{cs:List Value}{F:Frag}(hA:∀w,(isAgg t).run P w=.ok true w)(hs:∀w,(sizeOf t).run P w=.ok n w)(hn:cs.length=n)(I:Inv w0 ps H0 H (((g,.cells cs.toArray t' (0,0))::F)::Fs) w):Ld P w g (xV (Instr.loadAt t (.pointer (some ⟨g,0,none⟩)))) (.agg cs.toArray):=
 ldA hA hs hn (I.at1 (o:=0) (by simp) (by simp))
theorem D9{t t':TypeId}{g n:Nat}{cs:List Value}{F:Frag}{K:Value->Prop}(hA:∀w,(isAgg t).run P w=.ok true w)(hs:∀w,(sizeOf t).run P w=.ok n w)(hn:cs.length=n)(I:Inv w0 ps H0 H (((g,.cells cs.toArray t' (0,0))::F)::Fs) w)(k:K (.agg cs.toArray)):xcell P t (.pointer (some ⟨g,0,none⟩)) w K:=
 a3g hA hs hn (I.at1 (o:=0) (vs:=cs) (by omega) (by simp)) k
theorem v8{E:Pan}{K:Value->World->Prop}{t t':TypeId}{g n:Nat}{v:Value}{cs:List Value}{F:Frag}(I:Inv w0 ps H0 H (((g,.cells cs.toArray t' (0,0))::F)::Fs) w)(hs:∀w,(sizeOf t).run P w=.ok n w){vs:List Value}
  (h:∀w',Inv w0 ps H0 H (((g,.cells vs.toArray t' (0,0))::F)::Fs) w'->(∀i,i≠g->w'.heap[i]? = w.heap[i]?)->K undef w') (hv:v.cells=vs.toArray:=by rfl) (hn:vs.length=n:=by rfl) (hb:cs.length=n:=by rfl) (h1:vs.all (·.oneCell')=true:=by rfl):opK P E (xU (Instr.storeAt t (.pointer (some ⟨g,0,none⟩)) v)) w K:=
 H9 I hs hv hn (by omega) h1 (by rw [List.take_zero,List.nil_append,Nat.zero_add,hn,← hb,List.drop_length,List.append_nil]) h
theorem K0{E:Pan}{K:Value->World->Prop}{t t':TypeId}{g o:Nat}{v:Value}{cs:List Value}{F:Frag}(I:Inv w0 ps H0 H (((g,.cells cs.toArray t' (0,0))::F)::Fs) w)(hs:∀w,(sizeOf t).run P w=.ok 1 w)
  (h:∀w',Inv w0 ps H0 H (((g,.cells (cs.set o v).toArray t' (0,0))::F)::Fs) w'->(∀i,i≠g->w'.heap[i]? = w.heap[i]?)->K undef w') (hv:v.cells=#[v]:=by rfl) (hb:o+1<=cs.length:=by exact nb rfl) (h1:v.oneCell'=true:=by rfl):opK P E (xU (Instr.storeAt t (.pointer (some ⟨g,o,none⟩)) v)) w K:=
 H9 I hs (vs:=[v]) hv rfl hb (by simp [h1]) (by rw [List.set_eq_take_append_cons_drop,if_pos (Nat.lt_of_succ_le hb)];simp) h
end
section
variable {P:Program}
theorem bytes_beq(a b:BA):(a.toList == b.toList)=decide (a=b):=by
 rw [Bool.eq_iff_iff,beq_iff_eq,decide_eq_true_eq]
 constructor
 ·intro h
  rw [ByteArray.toList_eq,ByteArray.toList_eq] at h
  exact ByteArray.ext (Array.toList_inj.1 h)
 ·intro h;rw [h]
theorem a0C(t:TypeId)(x y:Operand)(a b:BA):Pu P (xBin .eql t x y (.string a) (.string b)) (.bool (decide (a=b))):=by
 refine Pu.ok (s:=do eqGuard .eql t x y (.string a) (.string b);binOp .eql t (.string a) (.string b)) λw=>?_
 have h1:(eqGuard .eql t x y (.string a) (.string b)).run P w=.ok () w:=rfl
 rw [Sem.run_bind,h1,Result.andThen_ok,binOp_string_eql,bytes_beq]
 rfl
theorem d2a(t:TypeId)(x y:Operand)(a b:BA):Pu P (xBin .neq t x y (.string a) (.string b)) (.bool (!decide (a=b))):=by
 refine Pu.ok (s:=do eqGuard .neq t x y (.string a) (.string b);binOp .neq t (.string a) (.string b)) λw=>?_
 have h1:(eqGuard .neq t x y (.string a) (.string b)).run P w=.ok () w:=rfl
 rw [Sem.run_bind,h1,Result.andThen_ok,binOp_string_neq,← bytes_beq]
 rfl
theorem b5b(a b:BA):(a.toList=b.toList)=(a=b):=by
 have:=bytes_beq a b
 rw [Bool.eq_iff_iff,beq_iff_eq,decide_eq_true_eq] at this
 exact propext this
theorem b6h(op:BinOp)(t:TypeId)(x y:Operand)(a b:Option Addr)(w:World):(eqGuard op t x y (.pointer a) (.pointer b)).run P w=.ok () w:=by
 cases op<;>rfl
theorem c5R(t:TypeId){e:TypeId}(x y:Operand)(a:Option Addr)(h:P.underlying t=some (.pointer e)):Pu P (xBin .eql t x y (.pointer a) (.pointer none)) (.bool a.isNone):=by
 refine Pu.ok (s:=do eqGuard .eql t x y (.pointer a) (.pointer none);binOp .eql t (.pointer a) (.pointer none)) λw=>?_
 rw [Sem.run_bind,b6h,Result.andThen_ok]
 exact run_eql_pointer_nil (P:=P) w t a (by rw [show P.pointee t=e by simp [Program.pointee,h]];exact h)
section
variable (t:TypeId)(x y:Operand)(k:IntKind)(a b:Int)
theorem e1y(h:b≠0):Pu P (xBin .rem t x y (.int k a) (.int k b)) (.int k (Int.tmod a b)):=by
 rw [a7p];exact Pu.ok λw=>by simp [binOp,Op.intDiv,h]
end
end
theorem d0w{b1 b2:Bool}(h:(b1&&b2)=true):b1=true/\b2=true:=by
 cases b1<;>cases b2<;>first | exact ⟨rfl,rfl⟩ | cases h
theorem c3E(b1 b2:Bool)(s:Sem Next):gsem (asB (gv b1 true (.bool b2))) true s=gsem (asB (.bool (b1&&b2))) true s:=by
 cases b1<;>cases b2<;>rfl
theorem a7r{b1 b2:Bool}(h:(!b1&&b2)=true):b1=false/\b2=true:=by
 cases b1<;>cases b2<;>first | exact ⟨rfl,rfl⟩ | cases h
theorem a3h(b1 b2:Bool)(s:Sem Next):gsem (asB (gv b1 false (.bool b2))) true s=gsem (asB (.bool (!b1&&b2))) true s:=by
 cases b1<;>cases b2<;>rfl
theorem e1z{b1 b2:Bool}{v:Value}(h:b1=true):gv (b1&&b2) true v=gv b2 true v:=by
 subst h
 cases b2<;>rfl
theorem b9i{b1 b2:Bool}{v:Value}(h:b1=false):gv (!b1&&b2) true v=gv b2 true v:=by
 subst h
 cases b2<;>rfl
theorem c0e(b w:Bool)(v:Value):gv b w (gv b w v)=gv b w v:=by
 cases b<;>cases w<;>rfl
theorem d2b(b1 b2:Bool)(v:Value):gval (asB (gv b1 false (.bool b2))) true v=gv (!b1&&b2) true v:=by
 cases b1<;>cases b2<;>rfl
theorem e6Z{P:Program}{w:World}{g g':Option Nat}{s s':Sem Next}{K:Value->Prop}(e:s=s')(eg:g=g')(h:qL P w g' s' K):qL P w g s K:=by rw [e,eg];exact h
theorem Pu.e{P:Program}{s s':Sem Next}{v:Value}(e:s=s')(h:Pu P s' v):Pu P s v:=by rw [e];exact h
theorem Ld.e{P:Program}{w:World}{g:Nat}{s s':Sem Next}{v:Value}(e:s=s')(h:Ld P w g s' v):Ld P w g s v:=by rw [e];exact h
theorem d6X{P:Program}{E:Pan}{w:World}{K:Value->World->Prop}{s s':Sem Next}(e:s=s')(h:opK P E s' w K):opK P E s w K:=by rw [e];exact h
def TG{α:Type}(q:Prop)(call:(α->Hp->Prop)->Prop)(d:α)(H:Hp)(K:α->Hp->Prop):Prop:=(q->call K)/\(¬q->K d H)
theorem b9j{P:Program}{E:Pan}{w:World}{K:Value->World->Prop}{b want:Bool}{s:Sem Next}{D:Value->World->Prop}(h1:b=want->opK P E s w D)(h2:¬b=want->D undef w)(h3:∀v w2,D v w2->K v w2):opK P E (gsem (asB (.bool b)) want s) w K:=by
 refine a9C (λhb=>?_) λhb=>h3 _ _ (h2 hb)
 have h:=h1 hb
 unfold opK at h ⊢
 split at h
 ·exact h3 _ _ h
 ·exact h3 _ _ h
 ·exact Cv.mono h h3 λ_ _ h=>h
 ·exact h
 ·exact h.elim
theorem R6{α:Type}{P:Program}{E:Pan}{w0 w:World}{ps:Nat->Prop}{H0 H:Hp}{enc:α->Value}{Kr:α->Hp->Prop}{f:FuncId}{args:List Value}{Fi Fr:List Frag}(he:∀args w,(callFunc f args).run P w=.ok (.enter f args) w)(hc:Ct P f args H Fi (λv H' Fo=>∃a,v=enc a/\Fo=Fi/\Kr a H') noQE)(I:Inv w0 ps H0 H (Fi++Fr) w):
  opK P E (xCall (.func (.func f) #[] #[]) args) w λv w'=>∃a H',v=enc a/\Inv w0 ps H0 H' (Fi++Fr) w'/\(∀i,i < w.heap.size->¬inF Fi i->w'.heap[i]? = w.heap[i]?)/\Hle H H'/\Kr a H':=
 f7 he hc I λ_ H' _ _ J l k ⟨a,hv,hf,q⟩=>⟨a,H',hv,hf ▸ J,k,l,q⟩
theorem Q4{α:Type}{P:Program}{E:Pan}{w0 w:World}{ps:Nat->Prop}{H0 H:Hp}{Fs:List Frag}{K:Value->World->Prop}{b want:Bool}{s:Sem Next}{C:(α->Hp->Prop)->Prop}{d:α}{Kr:α->Hp->Prop}(Fi:List Frag)(enc:α->Value)(h:TG (b=want) C d H Kr)(I:Inv w0 ps H0 H Fs w)
  (hc:b=want->C Kr->opK P E s w λv w'=>∃a H',v=enc a/\Inv w0 ps H0 H' Fs w'/\(∀i,i < w.heap.size->¬inF Fi i->w'.heap[i]? = w.heap[i]?)/\Hle H H'/\Kr a H')
  (hk:∀a H' w',Inv w0 ps H0 H' Fs w'->(∀i,i < w.heap.size->¬inF Fi i->w'.heap[i]? = w.heap[i]?)->Hle H H'->Kr a H'->K (gv b want (enc a)) w'):opK P E (gsem (asB (.bool b)) want s) w K:=by
 refine b9j (D:=λv w'=>∃a H',v=gv b want (enc a)/\Inv w0 ps H0 H' Fs w'/\(∀i,i < w.heap.size->¬inF Fi i->w'.heap[i]? = w.heap[i]?)/\Hle H H'/\Kr a H') (λc=>?_) (λc=>?_) ?_
 ·simp only [p6 c];exact hc c (h.1 c)
 ·exact ⟨d,H,by rw [c1s c],I,λ_ _ _=>rfl,Hle.refl _,h.2 c⟩
 ·rintro v w' ⟨a,H',rfl,J,k,l,q⟩;exact hk a H' w' J k l q
theorem d6Y{H:Hp}{s:Sl}{i:Int}{sz:Nat}{vs:List Value}{q A B:Prop}(h:q->A/\B/\EltH H s i sz vs):∃g o,q->A/\B/\s.a=some ⟨g,o,none⟩/\AtH H g (o+i.toNat*sz) vs:=by
 by_cases hq:q
 ·obtain ⟨a,b,g,o,h1,h2⟩:=h hq
  exact ⟨g,o,λ_=>⟨a,b,h1,h2⟩⟩
 ·exact ⟨0,0,λh=>(hq h).elim⟩
section
variable {w0 w:World}{ps:Nat->Prop}{H0 H:Hp}{Fs:List Frag}
theorem Inv.e1A{g g' o':Nat}{o:Obj}{F:Frag}{vs:List Value}(I:Inv w0 ps H0 H (((g,o)::F)::Fs) w)(h:AtH H g' o' vs):g'≠g:=λe=>by
 subst e
 exact I.c8I h ⟨(g',o),List.mem_cons_self ..,rfl⟩
theorem Inv.c3F{g g':Nat}{o o':Obj}{F F':Frag}(I:Inv w0 ps H0 H (((g,o)::F)::((g',o')::F')::Fs) w):g'≠g:=λe=>by
 subst e
 have:=I.nodup
 rw [show ((((g',o)::F)::((g',o')::F')::Fs).flatten.map (·.1))=g'::((F++(g',o')::(F'++Fs.flatten)).map (·.1)) from rfl,List.nodup_cons] at this
 exact this.1 (List.mem_map.2 ⟨(g',o'),List.mem_append_right _ (List.mem_cons_self ..),rfl⟩)
theorem Inv.V1{Fi Fr:List Frag}{g:Nat}{o:Obj}{F:Frag}(I:Inv w0 ps H0 H (Fi++(((g,o)::F)::Fr)) w):¬inF Fi g:=by
 rintro ⟨p,hp,e⟩
 have nd:=I.nodup
 rw [List.flatten_append,List.map_append] at nd
 obtain ⟨_,_,n3⟩:=List.nodup_append.1 nd
 exact n3 p.1 (List.mem_map.2 ⟨p,hp,rfl⟩) g (List.mem_map.2 ⟨(g,o),List.mem_cons_self ..,rfl⟩) e
theorem Inv.start(w:World):Inv w (λ_=>False) (λi=>w.heap[i]?) (λi=>w.heap[i]?) [] w:=
 ⟨λ_ _ h=>h,λ_ h=>(by cases h),λ_ h=>(by cases h),.nil,λ_ h=>(by cases h),λ_ _ _=>rfl,Nat.le_refl _,rfl,rfl,rfl,Hle.refl _,λ_ _ _=>rfl⟩
end
section
variable {P:Program}{t:TypeId}(s:BA){k k':IntKind}
theorem c8J(ht:P.underlying t=some .string){i:Int}(h0:0<=i)(h1:i<=s.size):Pu P (xV (Instr.sliceAt t (.string s) (some (.int k i)) none none)) (.string (s.extract i.toNat s.size)):=Pu.ok λw=>by
 rw [run_sliceAt_string (P:=P) (w:=w) _ _ _ _ _ ht,run_slice_string_from_if w t s k i ht,if_pos ⟨h0,h1⟩]
theorem c8K(ht:P.underlying t=some .string){i:Int}(h0:0<=i)(h1:i<=s.size):Pu P (xV (Instr.sliceAt t (.string s) none (some (.int k i)) none)) (.string (s.extract 0 i.toNat)):=Pu.ok λw=>by
 rw [run_sliceAt_string (P:=P) (w:=w) _ _ _ _ _ ht,run_slice_string_to_if w t s k i ht,if_pos ⟨h0,h1⟩]
theorem b7E(ht:P.underlying t=some .string){i j:Int}(h0:0<=i)(h1:i<=j)(h2:j<=s.size):Pu P (xV (Instr.sliceAt t (.string s) (some (.int k i)) (some (.int k' j)) none)) (.string (s.extract i.toNat j.toNat)):=Pu.ok λw=>by
 rw [run_sliceAt_string (P:=P) (w:=w) _ _ _ _ _ ht,run_slice_string w t s k k' i j ht h0 h1 h2]
def okI(v:Value):Prop:=v=.nilIface\/∃t x,v=.iface t x
def isNilI:Value->Bool
 | .nilIface=>true
 | _=>false
theorem d5e{P:Program}(t:TypeId)(x:Operand){v:Value}(hi:P.underlying t=some (.interface (P.methodsAt t)))(h:okI v):Pu P (xBin .neq t x (.const Value.nilIface) v Value.nilIface) (.bool (!isNilI v)):=by
 refine Pu.ok (s:=do eqGuard .neq t x (.const Value.nilIface) v Value.nilIface;binOp .neq t v Value.nilIface) λw=>?_
 rcases h with rfl | ⟨u,y,rfl⟩
 ·have h1:(eqGuard .neq t x (.const Value.nilIface) Value.nilIface Value.nilIface).run P w=.ok () w:=by unfold eqGuard;cases x<;>rfl
  rw [Sem.run_bind,h1,Result.andThen_ok,run_neq_nil_nil w t hi];rfl
 ·have h1:(eqGuard .neq t x (.const Value.nilIface) (Value.iface u y) Value.nilIface).run P w=.ok () w:=rfl
  rw [Sem.run_bind,h1,Result.andThen_ok,run_neq_held_nil w t u y hi];rfl
end
class PanQ where
 q:Value->Prop
def panQE [PanQ]:List PanicEntry->Hp->List Frag->Prop:=λc _ _=>∃v,c=[{ v:=v,recovered:=false }]/\PanQ.q v
section
variable  [PanQ] {P:Program} {E:Pan} {w0 w:World} {ps:Nat->Prop} {H0 H:Hp} {K:Value->World->Prop}
theorem panE{Fr:List Frag}(hE:∀c H' Fo w',Inv w0 ps H0 H' Fo w'->panQE c H' Fo->E c w'):∀c H' Fo w',Inv w0 ps H0 H' (Fo++Fr) w'->panQE c H' Fo->E c w':=λc H' Fo w' J q=>hE c H' (Fo++Fr) w' J q
theorem Ct.ofE{f:FuncId}{args:List Value}{Fi:List Frag}{Q:Value->Hp->List Frag->Prop}(h:∀(w0 w:World)(ps0:Nat->Prop)(H0:Hp)(R:Value->World->Prop)(E:Pan),Inv w0 ps0 H0 H Fi w->(∀v H' Fo w',Inv w0 ps0 H0 H' Fo w'->Q v H' Fo->R v w')->(∀c H' Fo w',Inv w0 ps0 H0 H' Fo w'->panQE c H' Fo->E c w')->Cv P f args.toArray w R E):Ct P f args H Fi Q panQE:=
 λw I=>h w w _ _ _ _ I (λ_ H' Fo _ J q=>⟨H',Fo,J,q⟩) λ_ H' Fo _ J q=>⟨H',Fo,J,q⟩
theorem D8(hE:∀c H' Fo w',Inv w0 ps H0 H' Fo w'->panQE c H' Fo->E c w'){f:FuncId}{args:List Value}{Fi Fr:List Frag}{Q:Value->Hp->List Frag->Prop}(he:∀args w,(callFunc f args).run P w=.ok (.enter f args) w)(hc:Ct P f args H Fi Q panQE)(I:Inv w0 ps H0 H (Fi++Fr) w)
  (hq:∀v H' Fo w',Inv w0 ps H0 H' (Fo++Fr) w'->Hle H H'->(∀i,i < w.heap.size->¬inF Fi i->w'.heap[i]? = w.heap[i]?)->Q v H' Fo->K v w'):opK P E (xCall (.func (.func f) #[] #[]) args) w K:=
 a1O (cap:=[]) he (a1y I (by rw [List.append_nil];exact hc) hq (panE hE))
end
theorem b6i{P:Program}{E:Pan}{w:World}{K:Value->World->Prop}{t:TypeId}{v:Value}(h:E [{ v:=.iface t v,recovered:=false }] w):opK P E (xV (Instr.panic (.iface t v))) w K:=h
def SlH{α:Type}(H:Hp)(sz:Nat)(c:α->List Value)(s:Sl)(xs:List α):Prop:=s.n=xs.length/\∀(i:Nat)(x:α),xs[i]? = some x->EltH H s i sz (c x)
theorem SlH.le{α:Type}{H H':Hp}{sz:Nat}{c:α->List Value}{s:Sl}{xs:List α}(h:SlH H sz c s xs)(e:Hle H H'):SlH H' sz c s xs:=⟨h.1,λi x hx=>(h.2 i x hx).le e⟩
theorem SlH.get{α:Type}{H:Hp}{sz:Nat}{c:α->List Value}{s:Sl}{xs:List α}(h:SlH H sz c s xs){i:Int}(h0:0<=i)(h1:i < s.n):∃x,xs[i.toNat]? = some x/\EltH H s i sz (c x):=by
 have hi:i.toNat < xs.length:=by have:=h.1;omega
 refine ⟨xs[i.toNat],List.getElem?_eq_getElem hi,?_⟩
 have:=h.2 i.toNat _ (List.getElem?_eq_getElem hi)
 rwa [Int.toNat_of_nonneg h0] at this
theorem SlH.nil{α:Type}(H:Hp)(sz:Nat)(c:α->List Value):SlH H sz c ⟨none,0,0⟩ ([]:List α):=⟨rfl,λi x h=>by simp at h⟩
def RowL{α:Type}(e:TypeId)(sz:Nat)(c:α->List Value)(s:Sl)(xs:List α)(F:Frag):Prop:=RowR e sz s (xs.flatMap c) F/\s.n=xs.length/\(∀x,(c x).length=sz)/\∀x,(c x).all (·.oneCell')=true
theorem RowL.nil{α:Type}{e:TypeId}{sz:Nat}{c:α->List Value}(h1:∀x,(c x).length=sz)(h2:∀x,(c x).all (·.oneCell')=true):RowL e sz c ⟨none,0,0⟩ ([]:List α) []:=⟨RowR.nil e sz,rfl,h1,h2⟩
section
variable {α:Type}{c:α->List Value}{sz:Nat}
theorem Y1(h:∀x,(c x).length=sz):∀xs:List α,(xs.flatMap c).length=xs.length*sz
 | []=>by simp
 | x::l=>by rw [List.flatMap_cons,List.length_append,h,Y1 h l,List.length_cons,Nat.succ_mul,Nat.add_comm]
theorem b9k(h:∀x,(c x).length=sz):∀(xs:List α)(i:Nat)(x:α),xs[i]? = some x->((xs.flatMap c).drop (i*sz)).take sz=c x
 | [],i,x,hx=>by simp at hx
 | y::l,0,x,hx=>by
  simp only [List.getElem?_cons_zero,Option.some.injEq] at hx
  subst hx
  rw [List.flatMap_cons,Nat.zero_mul,List.drop_zero,← h y,List.take_left']
  rfl
 | y::l,i+1,x,hx=>by
  rw [List.flatMap_cons,Nat.succ_mul,Nat.add_comm (i*sz),← List.drop_drop,← h y,List.drop_left,h y]
  exact b9k h l i x (by simpa using hx)
theorem c5S(h:∀x,(c x).length=sz):∀(xs:List α)(i:Nat)(v:α),i < xs.length->(xs.set i v).flatMap c=(xs.flatMap c).take (i*sz)++c v++(xs.flatMap c).drop (i*sz+sz)
 | [],i,v,hi=>by simp at hi
 | y::l,0,v,_=>by
  rw [List.set_cons_zero,List.flatMap_cons,List.flatMap_cons,Nat.zero_mul,List.take_zero,List.nil_append,Nat.zero_add,← h y,List.drop_left]
 | y::l,i+1,v,hi=>by
  rw [List.set_cons_succ,List.flatMap_cons,List.flatMap_cons,c5S h l i v (by simpa using hi),Nat.succ_mul,Nat.add_comm (i*sz),← h y,List.take_length_add_append,Nat.add_assoc,List.drop_length_add_append,Nat.add_comm (c y).length (i*(c y).length)]
  simp only [List.append_assoc]
theorem c5T(h:∀x,(c x).all (·.oneCell')=true)(xs:List α):∀v∈xs.flatMap c,v.oneCell'=true:=by
 intro v hv
 obtain ⟨x,_,hx⟩:=List.mem_flatMap.1 hv
 exact List.all_eq_true.1 (h x) v hx
end
section
variable {P:Program}{E:Pan}{w0 w:World}{ps:Nat->Prop}{H0 H:Hp}{Fs:List Frag}{K:Value->World->Prop}{α:Type}{c:α->List Value}{e:TypeId}{sz:Nat}{s:Sl}{xs:List α}{F:Frag}
theorem RowL.frozen(h:RowL e sz c s xs F)(h0:0 < sz)(hF:∀p∈F,H p.1=some p.2):SlH H sz c s xs:=by
 obtain ⟨h1,h2,h3,h4⟩:=h
 refine ⟨h2,λi x hx=>?_⟩
 have hi:i < xs.length:=(List.getElem?_eq_some_iff.1 hx).1
 have hl:=Y1 h3 xs
 have hm:i*sz+sz<=xs.length*sz:=by rw [←Nat.succ_mul];exact Nat.mul_le_mul_right sz hi
 refine RowR.elt h1 hF (by omega) ?_ ?_ ?_
 ·rw [h3,hl,Int.toNat_natCast];exact hm
 ·intro hc
  have:=h3 x
  rw [hc] at this
  simp at this
  omega
 ·rw [h3,Int.toNat_natCast]
  exact b9k h3 xs i x hx
theorem Inv.freezeL(I:Inv w0 ps H0 H (F::Fs) w)(h:RowL e sz c s xs F)(h0:0 < sz):∃H',Inv w0 ps H0 H' Fs w/\Hle H H'/\SlH H' sz c s xs:=
 ⟨_,I.freeze.1,I.freeze.2.1,h.frozen h0 I.freeze.2.2⟩
theorem a4E{t ty:TypeId}(hu:P.underlying t=some (.slice e))(h:RowL e sz c s xs F):Pu P (xBuiltin .len #[t] ty [false] [.slice s.a s.n s.c]) (.int .i64 (xs.length:Int)):=by
 rw [←h.2.1]
 exact a1u hu _ _ _
def SrcW(w:World)(c:α->List Value)(t:Sl)(ys:List α):Prop:=t.n=ys.length/\∃a,t.a=some a/\∀j v,(ys.flatMap c)[j]? = some v->w.cell? (a.add j)=some v
theorem RowL.src{w':World}(I:Inv w0 ps H0 H (F::Fs) w)(h:RowL e sz c s xs F)(hn:xs≠[])(hw:∀p∈F,w'.heap[p.1]? = w.heap[p.1]?):SrcW w' c s xs:=by
 obtain ⟨⟨h1,h2⟩,h3,h4,h5⟩:=h
 refine ⟨h3,?_⟩
 rcases h2 with ⟨rfl,_⟩ | ⟨g,arr,ha,rfl,_,_,hsz,htk⟩
 ·exact (hn (List.length_eq_zero_iff.1 h3.symm)).elim
 ·refine ⟨_,ha,λj v hj=>?_⟩
  rw [a7q,b4s ((hw _ (List.mem_singleton_self _)).trans I.hp1),Nat.zero_add]
  rw [←htk,List.getElem?_take] at hj
  split at hj
  ·simpa using hj
  ·cases hj
theorem d0x{t ty:TypeId}{i:TypeInfo}{z:Value}{bytes:Nat}(ht:P.underlying t=some (.slice e))(hi:P.info? e=some i)(hz:i.zero=some z)(hsize:i.size=sz)(hby:i.bytes=bytes)(hzs:z.cells.size=sz)
  (I:Inv w0 ps H0 H (F::Fs) w) (hr:RowL e sz c s xs F) {t2:Sl} {ys:List α} (hs:SrcW w c t2 ys) (hy:ys≠[]) (hb:(xs.length+ys.length)*(bytes+1)<=140737488355328):
  ∃(s':Sl)(F':Frag)(w':World),(Builtin.append_ #[t,t] ty #[.slice s.a s.n s.c,.slice t2.a t2.n t2.c]).run P w=.ok (.slice s'.a s'.n s'.c) w'/\RowL e sz c s' (xs++ys) F'/\Inv w0 ps H0 H (F'::Fs) w'/\∀k,k < w.heap.size->(∀p∈F,p.1≠k)->w'.heap[k]? = w.heap[k]?:=by
 subst hsize
 subst hby
 obtain ⟨hR,hn,hc,h1⟩:=hr
 obtain ⟨hm,a,ha,hcell⟩:=hs
 have hyl:0 < ys.length:=List.length_pos_iff.2 hy
 have e1:=Y1 hc xs
 have e2:=Y1 hc ys
 have hmax:xs.length+ys.length<=140737488355328:=Nat.le_trans (Nat.le_mul_of_pos_right _ (Nat.succ_pos _)) hb
 have hb':(xs.length+ys.length)*i.bytes<=140737488355328:=Nat.le_trans (Nat.mul_le_mul_left _ (Nat.le_succ _)) hb
 have hml:xs.length+ys.length<=maxLen:=by simp only [maxLen];omega
 have flat:(xs++ys).flatMap c=xs.flatMap c++ys.flatMap c:=List.flatMap_append
 rw [ha,hm,hn]
 have fresh:∀old,old < xs.length+ys.length->RowL e i.size c ⟨some ⟨w.heap.size,0,none⟩,xs.length+ys.length,grownCap w (xs.length+ys.length) old e⟩ (xs++ys)
   [(w.heap.size,.cells ((xs.flatMap c).toArray++(ys.flatMap c).toArray++Builtin.zeroCells z.cells (grownCap w (xs.length+ys.length) old e-(xs.length+ys.length))) e (0,0))]:=by
  intro old ho
  have hge:=grownCap_ge w (xs.length+ys.length) old e
  refine ⟨⟨by rw [Y1 hc,List.length_append],.inr ⟨_,_,rfl,rfl,hge,grownCap_le_maxLen w _ old e hml,?_,?_⟩⟩,by simp,hc,h1⟩
  ·simp only [Array.size_append,List.size_toArray,size_zeroCells,hzs,e1,e2,← Nat.add_mul]
   congr 1
   omega
  ·simp only [Array.toList_append,List.append_assoc]
   rw [←List.append_assoc,← flat,show (xs.length+ys.length)*i.size=((xs++ys).flatMap c).length by rw [Y1 hc,List.length_append]]
   exact List.take_left
 obtain ⟨hl,hR⟩:=hR
 rcases hR with ⟨rfl,rfl⟩ | ⟨g,arr,hsa,rfl,h3,h4,h5,h6⟩
 ·have hx:xs=[]:=List.length_eq_zero_iff.1 hn.symm
  subst hx
  have hr:=run_append_nil (P:=P) w t ty e i z ht hi hz a ys.length t2.c (ys.flatMap c) e2 hcell hyl (by omega) (by simp only [List.length_nil,Nat.zero_add] at hb';omega)
  have hf:=fresh 0 (by simp;omega)
  simp only [List.flatMap_nil,List.length_nil,Nat.zero_add,List.nil_append,Array.empty_append] at hf
  refine ⟨_,_,_,hr,hf,(I.drop.drawn (w.drawn+1)).alloc _,λk hk _=>?_⟩
  exact Below.heap_alloc w.drew _ k hk
 ·rw [hsa]
  have hn':s.n=xs.length:=hn
  by_cases hroom:xs.length+ys.length<=s.c
  ·have hfit:xs.length*i.size+(ys.flatMap c).length<=arr.size:=by rw [e2,h5,← Nat.add_mul];exact Nat.mul_le_mul_right _ hroom
   have hr:=run_append_room (P:=P) w t ty e i ht hi g xs.length s.c arr I.hp1 a ys.length t2.c (ys.flatMap c) e2 hcell (c5T h1 ys) hroom hfit
   refine ⟨⟨some ⟨g,0,none⟩,xs.length+ys.length,s.c⟩,_,_,hr,⟨⟨by rw [Y1 hc,List.length_append],.inr ⟨g,_,rfl,rfl,hroom,h4,?_,?_⟩⟩,by simp,hc,h1⟩,I.setRow,λk _ hk=>setRow_other w g k _ λeq=>hk (g,.cells arr e (0,0)) (List.mem_singleton_self _) eq.symm⟩
   ·simp only [List.size_toArray,List.length_append,List.length_take,List.length_drop,Array.length_toList]
    omega
   ·rw [hn'] at h6
    simp only []
    rw [h6,← flat,show (xs.length+ys.length)*i.size=((xs++ys).flatMap c).length by rw [Y1 hc,List.length_append]]
    exact List.take_left
  ·have holds:∀j v,(xs.flatMap c)[j]? = some v->w.cell? ((⟨g,0,none⟩:Addr).add j)=some v:=λj v hj=>by
    rw [a7q,b4s I.hp1,Nat.zero_add]
    rw [←h6,List.getElem?_take] at hj
    split at hj
    ·simpa using hj
    ·cases hj
   have hr:=run_append_grow (P:=P) w t ty e i z ht hi hz ⟨g,0,none⟩ xs.length s.c (xs.flatMap c) e1 holds a ys.length t2.c (ys.flatMap c) e2 hcell (by omega) (by omega) (growslice_fits (by omega) hb')
   refine ⟨_,_,_,hr,fresh s.c (by omega),(I.drop.drawn (w.drawn+1)).alloc _,λk hk _=>?_⟩
   exact Below.heap_alloc w.drew _ k hk
theorem c8b{t ty:TypeId}{i:TypeInfo}(ht:P.underlying t=some (.slice e))(hi:P.info? e=some i)(hr:RowL e sz c s xs F)(a2:Option Addr)(c2:Nat):
  (Builtin.append_ #[t,t] ty #[.slice s.a s.n s.c,.slice a2 0 c2]).run P w=.ok (.slice s.a s.n s.c) w:=by
 have hle:s.n<=s.c:=by
  rcases hr.1.2 with ⟨rfl,_⟩ | ⟨g,arr,_,_,h,_⟩
  ·exact Nat.le_refl _
  ·exact h
 cases ha:s.a<;>cases a2<;>simp [Builtin.append_,run_underlying ht,sizeOf,typeInfo,hi,Builtin.lenOf,Builtin.firstCells,loadCells,loadCellsFrom,storeCells,hle]
def SrcO(w:World)(c:α->List Value)(t:Sl)(ys:List α):Prop:=t.n=ys.length/\(ys≠[]->SrcW w c t ys)
theorem b4t{t ty:TypeId}{ks:List Bool}{i:TypeInfo}{z:Value}{bytes:Nat}(ht:P.underlying t=some (.slice e))(hi:P.info? e=some i)(hz:i.zero=some z)(hsize:i.size=sz)(hby:i.bytes=bytes)(hzs:z.cells.size=sz)
  (I:Inv w0 ps H0 H (F::Fs) w) (hr:RowL e sz c s xs F) {t2:Sl} {ys:List α} (hs:SrcO w c t2 ys) (hb:(xs.length+ys.length)*(bytes+1)<=140737488355328)
  (h:∀(s':Sl)(F':Frag)(w':World),RowL e sz c s' (xs++ys) F'->Inv w0 ps H0 H (F'::Fs) w'->(∀k,k < w.heap.size->(∀p∈F,p.1≠k)->w'.heap[k]? = w.heap[k]?)->K (.slice s'.a s'.n s'.c) w'):
  opK P E (xBuiltin .append #[t,t] ty ks [.slice s.a s.n s.c,.slice t2.a t2.n t2.c]) w K:=by
 have hx:xBuiltin .append #[t,t] ty ks [.slice s.a s.n s.c,.slice t2.a t2.n t2.c]=xV (Builtin.append_ #[t,t] ty #[.slice s.a s.n s.c,.slice t2.a t2.n t2.c]):=rfl
 rw [hx]
 by_cases hy:ys=[]
 ·subst hy
  have h0:t2.n=0:=hs.1
  have hrun:=c8b (P:=P) (w:=w) (ty:=ty) ht hi hr t2.a t2.c
  rw [←h0] at hrun
  refine U7 hrun (h s F w ?_ I λ_ _ _=>rfl)
  rw [List.append_nil]
  exact hr
 ·obtain ⟨s',F',w',h1,h2,h3,h4⟩:=d0x (ty:=ty) ht hi hz hsize hby hzs I hr (hs.2 hy) hy hb
  exact U7 h1 (h s' F' w' h2 h3 h4)
theorem SlH.src(I:Inv w0 ps H0 H Fs w){t:Sl}{ys:List α}(h:SlH H sz c t ys)(hc:∀x,(c x).length=sz):SrcO w c t ys:=by
 refine ⟨h.1,λhy=>⟨h.1,?_⟩⟩
 obtain ⟨y,l,rfl⟩:=List.exists_cons_of_ne_nil hy
 obtain ⟨g,o,ha,_⟩:=h.2 0 y rfl
 refine ⟨_,ha,?_⟩
 have all:∀(zs:List α)(k:Nat),(∀(i:Nat)(x:α),zs[i]? = some x->AtW w g (o+(k+i)*sz) (c x))->∀j v,(zs.flatMap c)[j]? = some v->w.cell? ⟨g,o+k*sz+j,none⟩=some v:=by
  intro zs
  induction zs with
  | nil=>intro k _ j v hj;simp at hj
  | cons z zs ih=>
   intro k hz j v hj
   rw [List.flatMap_cons] at hj
   by_cases hlt:j < sz
   ·rw [List.getElem?_append_left (by rw [hc];exact hlt)] at hj
    have:=(hz 0 z rfl).get hj
    rwa [Nat.add_zero] at this
   ·rw [List.getElem?_append_right (by rw [hc];omega),hc] at hj
    have:=ih (k+1) (λi x hx=>by
     have:=hz (i+1) x (by simpa using hx)
     rwa [show k+(i+1)=k+1+i by omega] at this) _ _ hj
    rwa [show o+(k+1)*sz+(j-sz)=o+k*sz+j by rw [Nat.succ_mul];omega] at this
 intro j v hj
 have:=all (y::l) 0 (λi x hx=>by
  obtain ⟨g',o',ha',hx'⟩:=h.2 i x hx
  rw [ha] at ha'
  cases ha'
  rw [Int.toNat_natCast] at hx'
  rw [Nat.zero_add]
  exact I.atH hx') j v hj
 rw [a7q]
 rwa [Nat.zero_mul,Nat.add_zero] at this
theorem RowL.srcO{F2:Frag}(I:Inv w0 ps H0 H (F2::Fs) w){t:Sl}{ys:List α}(h:RowL e sz c t ys F2):SrcO w c t ys:=⟨h.2.1,λhy=>h.src I hy λ_ _=>rfl⟩
theorem O0{t:TypeId}{n:Nat}{parts:Array (Nat×Value)}{cs:List Value}(I:Inv w0 ps H0 H Fs w)(hrun:∀w:World,(Instr.buildSlice t n parts).run P w=.ok (.slice (some ⟨w.heap.size,0,none⟩) n n) (w.alloc (.cells cs.toArray e)))
  (hn:n=xs.length) (hcs:xs.flatMap c=cs) (hc:∀x,(c x).length=sz) (h1:∀x,(c x).all (·.oneCell')=true) (hm:n<=maxLen)
  (h:∀(s':Sl)(F':Frag)(w':World),RowL e sz c s' xs F'->Inv w0 ps H0 H (F'::Fs) w'->(∀k,k < w.heap.size->w'.heap[k]? = w.heap[k]?)->K (.slice s'.a s'.n s'.c) w'):
  opK P E (xV (Instr.buildSlice t n parts)) w K:=by
 subst hn
 subst hcs
 have e1:=Y1 hc xs
 refine U7 (hrun w) (h ⟨some ⟨w.heap.size,0,none⟩,xs.length,xs.length⟩ _ _ ⟨⟨e1,.inr ⟨_,_,rfl,rfl,Nat.le_refl _,hm,by simp [e1],?_⟩⟩,rfl,hc,h1⟩ (I.alloc _) λk hk=>Below.heap_alloc w _ k hk)
 simp only []
 rw [←e1]
 exact List.take_length
theorem c4G{z:Value}{x0:α}(hz:z.cells=(c x0).toArray)(hc:∀x,(c x).length=sz)(h0:0 < sz):∀n:Nat,(madeCells z.cells (n*sz)).toList=(List.replicate n x0).flatMap c:=by
 intro n
 refine List.ext_getElem? λj=>?_
 have hlz:z.cells.size=sz:=by rw [hz,List.size_toArray,hc]
 have main:∀n j,((List.replicate n x0).flatMap c)[j]? = if j < n*sz then (c x0)[j % sz]? else none:=by
  intro n
  induction n with
  | zero=>intro j;simp
  | succ n ih=>
   intro j
   rw [List.replicate_succ,List.flatMap_cons]
   by_cases hj:j < sz
   ·rw [List.getElem?_append_left (by rw [hc];exact hj),Nat.mod_eq_of_lt hj,if_pos (by rw [Nat.succ_mul];omega)]
   ·rw [List.getElem?_append_right (by rw [hc];omega),hc,ih,← Nat.mod_eq_sub_mod (by omega)]
    have:(j-sz < n*sz)=(j < (n+1)*sz):=by rw [Nat.succ_mul];exact propext ⟨λh=>by omega,λh=>by omega⟩
    simp only [this]
 rw [main]
 simp only [madeCells,Array.toList_map,Array.toList_range,List.getElem?_map]
 by_cases hj:j < n*sz
 ·rw [List.getElem?_range hj,if_pos hj,Option.map_some,hlz]
  have hm:j % sz < (c x0).length:=by rw [hc];exact Nat.mod_lt _ h0
  rw [hz,List.getElem?_eq_getElem hm]
  simp [hm]
 ·rw [if_neg hj,List.getElem?_eq_none (by simpa using hj)]
  rfl
theorem c2m{t:TypeId}{i:TypeInfo}{z:Value}{bytes:Nat}{x0:α}(ht:P.underlying t=some (.slice e))(hi:P.info? e=some i)(hz:i.zero=some z)(hsize:i.size=sz)(hby:i.bytes=bytes)(hzc:z.cells=(c x0).toArray)
  (I:Inv w0 ps H0 H Fs w) (hc:∀x,(c x).length=sz) (h1:∀x,(c x).all (·.oneCell')=true) (h0:0 < sz) (kl kc:IntKind) (n:Int) (hn0:0<=n) (hb:n*(bytes+1)<=140737488355328)
  (h:∀(s':Sl)(F':Frag)(w':World),RowL e sz c s' (List.replicate n.toNat x0) F'->Inv w0 ps H0 H (F'::Fs) w'->(∀k,k < w.heap.size->w'.heap[k]? = w.heap[k]?)->K (.slice s'.a s'.n s'.c) w'):
  opK P E (xV (Instr.makeSlice t (.int kl n) (.int kc n))) w K:=by
 subst hsize
 subst hby
 have hnn:((n.toNat:Nat):Int)=n:=Int.toNat_of_nonneg hn0
 have hb1:n<=n*((i.bytes:Int)+1):=by
  have:n*1<=n*((i.bytes:Int)+1):=Int.mul_le_mul_of_nonneg_left (by omega) hn0
  rwa [Int.mul_one] at this
 have hb2:(i.bytes:Int)*n<=281474976710656:=by
  have:n*((i.bytes:Int)+1)=(i.bytes:Int)*n+n:=by rw [Int.mul_add,Int.mul_one,Int.mul_comm]
  omega
 have hrun:=run_make (P:=P) w t e i z ht hi hz kl kc n n hn0 (Int.le_refl _) hb2 (by omega)
 refine U7 hrun (h ⟨some ⟨w.heap.size,0,none⟩,n.toNat,n.toNat⟩ _ _ ⟨⟨by rw [Y1 hc,List.length_replicate],.inr ⟨_,_,rfl,rfl,Nat.le_refl _,?_,size_madeCells _ _,?_⟩⟩,by simp,hc,h1⟩ (I.alloc _) λk hk=>Below.heap_alloc w _ k hk)
 ·simp only [maxLen]
  omega
 ·simp only []
  rw [c4G hzc hc h0]
  have:n.toNat*i.size=((List.replicate n.toNat x0).flatMap c).length:=by rw [Y1 hc,List.length_replicate]
  rw [this]
  exact List.take_length
theorem RowL.addr(h:RowL e sz c s xs F){i:Nat}{x:α}(hx:xs[i]? = some x):∃g arr,s.a=some ⟨g,0,none⟩/\F=[(g,.cells arr e (0,0))]:=by
 obtain ⟨⟨h1,h2⟩,h3,_⟩:=h
 have hi:i < xs.length:=(List.getElem?_eq_some_iff.1 hx).1
 rcases h2 with ⟨rfl,_⟩ | ⟨g,arr,ha,hF,_⟩
 ·simp only at h3;omega
 ·exact ⟨g,arr,ha,hF⟩
theorem RowL.atW(I:Inv w0 ps H0 H (F::Fs) w)(h:RowL e sz c s xs F){g:Nat}(ha:s.a=some ⟨g,0,none⟩){i:Nat}{x:α}(hx:xs[i]? = some x):AtW w g (0+i*sz) (c x):=by
 obtain ⟨⟨h1,h2⟩,h3,h4,_⟩:=h
 have hi:i < xs.length:=(List.getElem?_eq_some_iff.1 hx).1
 rcases h2 with ⟨rfl,_⟩ | ⟨g',arr,ha',rfl,q1,q2,q3,q4⟩
 ·cases ha
 ·rw [ha] at ha'
  cases ha'
  rw [Nat.zero_add]
  refine RowR.at_ (s:=s) ⟨h1,.inr ⟨g,arr,ha,rfl,q1,q2,q3,q4⟩⟩ I rfl q4 ?_ ?_
  ·rw [h4,Y1 h4,← Nat.succ_mul]
   exact Nat.mul_le_mul_right sz hi
  ·rw [h4]
   exact b9k h4 xs i x hx
theorem c8c{β:Type}{L v:List β}{a k N:Nat}(h:a+k<=N)(hN:N<=L.length)(hv:v.length=k):(L.take a++v++L.drop (a+k)).take N=(L.take N).take a++v++(L.take N).drop (a+k):=by
 have hl:(L.take a++v).length=a+k:=by simp only [List.length_append,List.length_take,hv];omega
 rw [List.take_append,hl,List.take_of_length_le (by omega),List.drop_take,List.take_take,Nat.min_eq_left (by omega)]
theorem a9D{t:TypeId}{v:Value}{x:α}(I:Inv w0 ps H0 H (F::Fs) w)(h:RowL e sz c s xs F){g:Nat}(ha:s.a=some ⟨g,0,none⟩){i:Nat}(hi:i < xs.length)(hs:∀w,(sizeOf t).run P w=.ok sz w)(hv:v.cells=(c x).toArray)
  (hk:∀(F':Frag)(w':World),RowL e sz c s (xs.set i x) F'->Inv w0 ps H0 H (F'::Fs) w'->(∀k,(∀p∈F,p.1≠k)->w'.heap[k]? = w.heap[k]?)->K undef w'):opK P E (xU (Instr.storeAt t (.pointer (some ⟨g,0+i*sz,none⟩)) v)) w K:=by
 obtain ⟨⟨h1,h2⟩,h3,h4,h5⟩:=h
 rcases h2 with ⟨rfl,_⟩ | ⟨g',arr,ha',rfl,q1,q2,q3,q4⟩
 ·cases ha
 ·rw [ha] at ha'
  cases ha'
  have e1:=Y1 h4 xs
  have hm:i*sz+sz<=xs.length*sz:=by rw [←Nat.succ_mul];exact Nat.mul_le_mul_right sz hi
  have hle:xs.length*sz<=arr.size:=by
   have:=congrArg List.length q4
   simp only [List.length_take,Array.length_toList] at this
   omega
  have I':Inv w0 ps H0 H ([(g,.cells arr.toList.toArray e (0,0))]::Fs) w:=by rw [Array.toArray_toList];exact I
  refine H9 (cs:=arr.toList) I' hs (vs:=c x) hv (h4 x) (by rw [Nat.zero_add,Array.length_toList];omega) (h5 x) rfl λw' J hw=>?_
  refine hk _ w' ⟨⟨by rw [Y1 h4,List.length_set,h3],.inr ⟨g,_,ha,rfl,q1,q2,?_,?_⟩⟩,by rw [List.length_set];exact h3,h4,h5⟩ J λk hkk=>hw k λeq=>hkk (g,.cells arr e (0,0)) (List.mem_singleton_self _) eq.symm
  ·simp only [List.size_toArray,List.length_append,List.length_take,List.length_drop,h4,Nat.zero_add,Array.length_toList]
   omega
  ·rw [c5S h4 xs i x hi,← q4,h3,Nat.zero_add,h4]
   exact c8c hm (by rw [Array.length_toList];exact hle) (h4 x)
theorem RowL.lt(h:RowL e sz c s xs F){i:Int}{x:α}(h0:0<=i)(hx:xs[i.toNat]? = some x):i < (s.n:Int):=by
 have hi:=(List.getElem?_eq_some_iff.1 hx).1
 have:=h.2.1
 omega
theorem Inv.c5U{g:Nat}{o:Obj}{F':Frag}(I:Inv w0 ps H0 H (F::((g,o)::F')::Fs) w):∀p∈F,p.1≠g:=λp hp eq=>
 Inv.V1 (Fi:=[F]) (Fr:=Fs) I ⟨p,by simpa using hp,eq⟩
end
def csl(x:Sl):List Value:=[Value.slice x.a x.n x.c]
theorem c0f(x:Sl):(csl x).length=1:=rfl
theorem c0g(x:Sl):(csl x).all (·.oneCell')=true:=rfl
inductive Inners {α:Type} (e:TypeId) (sz:Nat) (c:α->List Value):List Sl->List (List α)->Frag->Prop
 | nil:Inners e sz c [] [] []
 | cons {s:Sl} {xs:List α} {F:Frag} {ss:List Sl} {xss:List (List α)} {G:Frag}:RowL e sz c s xs F->Inners e sz c ss xss G->Inners e sz c (s::ss) (xs::xss) (F++G)
def RowsL{α:Type}(o e:TypeId)(sz:Nat)(c:α->List Value)(s:Sl)(xss:List (List α))(F:Frag):Prop:=
 ∃(ss:List Sl)(Fo Fi:Frag),RowL o 1 csl s ss Fo/\Inners e sz c ss xss Fi/\F.Perm (Fo++Fi)
def Hole{α:Type}(e:TypeId)(sz:Nat)(c:α->List Value)(ss:List Sl)(xss:List (List α))(i:Nat)(Fr:Frag):Prop:=
 ∀(si':Sl)(xs':List α)(Fi':Frag),RowL e sz c si' xs' Fi'->∃F',Inners e sz c (ss.set i si') (xss.set i xs') F'/\F'.Perm (Fi'++Fr)
section
variable {P:Program}{E:Pan}{w0 w:World}{ps:Nat->Prop}{H0 H:Hp}{Fs:List Frag}{K:Value->World->Prop}{α:Type}{c:α->List Value}{o e:TypeId}{sz:Nat}{s:Sl}{xss:List (List α)}{F:Frag}
theorem Inners.len{ss:List Sl}(h:Inners e sz c ss xss F):ss.length=xss.length:=by
 induction h with
 | nil=>rfl
 | cons _ _ ih=>rw [List.length_cons,List.length_cons,ih]
theorem Inners.get{ss:List Sl}(h:Inners e sz c ss xss F):∀{i:Nat}{xs:List α},xss[i]? = some xs->∃(si:Sl)(Fi Fr:Frag),ss[i]? = some si/\RowL e sz c si xs Fi/\F.Perm (Fi++Fr)/\Hole e sz c ss xss i Fr:=by
 induction h with
 | nil=>intro i xs hx;simp at hx
 | @cons s xs0 F ss xss G hr hi ih=>
  intro i xs hx
  cases i with
  | zero=>
   simp only [List.getElem?_cons_zero,Option.some.injEq] at hx
   subst hx
   exact ⟨s,F,G,rfl,hr,.refl _,λsi' xs' Fi' hr'=>⟨_,.cons hr' hi,.refl _⟩⟩
  | succ i=>
   obtain ⟨si,Fi,Fr,h1,h2,h3,h4⟩:=ih (by simpa using hx)
   refine ⟨si,Fi,F++Fr,by simpa using h1,h2,(List.Perm.append_left F h3).trans (List.perm_append_comm_assoc F Fi Fr),λsi' xs' Fi' hr'=>?_⟩
   obtain ⟨F',k1,k2⟩:=h4 si' xs' Fi' hr'
   exact ⟨F++F',.cons hr k1,(List.Perm.append_left F k2).trans (List.perm_append_comm_assoc F Fi' Fr)⟩
theorem Inners.app{ss ts:List Sl}{yss:List (List α)}{G:Frag}(h:Inners e sz c ss xss F)(k:Inners e sz c ts yss G):Inners e sz c (ss++ts) (xss++yss) (F++G):=by
 induction h with
 | nil=>exact k
 | cons hr _ ih=>
  rw [List.append_assoc]
  exact .cons hr ih
theorem Inners.made(h1:∀x,(c x).length=sz)(h2:∀x,(c x).all (·.oneCell')=true):∀n:Nat,Inners e sz c (List.replicate n (Sl.mk none 0 0)) (List.replicate n ([]:List α)) []
 | 0=>.nil
 | n+1=>.cons (RowL.nil h1 h2) (Inners.made h1 h2 n)
theorem Inv.d6Z{A B C:Frag}(I:Inv w0 ps H0 H (A::B::C::Fs) w):Inv w0 ps H0 H ((A++(B++C))::Fs) w:=I.perm (by simp only [List.flatten_cons,List.append_assoc];exact .refl _)
theorem RowsL.nil(_:∀x,(c x).length=sz)(_:∀x,(c x).all (·.oneCell')=true):RowsL o e sz c ⟨none,0,0⟩ ([]:List (List α)) []:=⟨[],[],[],RowL.nil c0f c0g,.nil,.refl _⟩
theorem RowsL.made(h1:∀x,(c x).length=sz)(h2:∀x,(c x).all (·.oneCell')=true){n:Nat}(h:RowL o 1 csl s (List.replicate n (Sl.mk none 0 0)) F):RowsL o e sz c s (List.replicate n ([]:List α)) F:=⟨_,F,[],h,Inners.made h1 h2 n,by rw [List.append_nil]⟩
theorem RowsL.len(h:RowsL o e sz c s xss F):s.n=xss.length:=by
 obtain ⟨ss,Fo,Fi,h1,h2,_⟩:=h
 rw [h1.2.1,h2.len]
theorem RowsL.open_(h:RowsL o e sz c s xss F)(I:Inv w0 ps H0 H (F::Fs) w){i:Nat}{xs:List α}(hx:xss[i]? = some xs):∃(ss:List Sl)(si:Sl)(Fo Fi Fr:Frag),RowL o 1 csl s ss Fo/\ss[i]? = some si/\RowL e sz c si xs Fi/\Hole e sz c ss xss i Fr/\F.Perm (Fo++(Fi++Fr))/\Inv w0 ps H0 H (Fo::Fi::Fr::Fs) w:=by
 obtain ⟨ss,Fo,Fa,h1,h2,h3⟩:=h
 obtain ⟨si,Fi,Fr,k1,k2,k3,k4⟩:=h2.get hx
 refine ⟨ss,si,Fo,Fi,Fr,h1,k1,k2,k4,h3.trans (List.Perm.append_left Fo k3),I.perm ?_⟩
 simp only [List.flatten_cons]
 have:=(h3.trans (List.Perm.append_left Fo k3)).symm
 have:=List.Perm.append_right Fs.flatten this
 simpa only [List.append_assoc] using this
theorem RowsL.split(h:RowsL o e sz c s xss F)(I:Inv w0 ps H0 H (F::Fs) w):∃(ss:List Sl)(Fo Fi:Frag),RowL o 1 csl s ss Fo/\Inners e sz c ss xss Fi/\Inv w0 ps H0 H (Fo::Fi::Fs) w:=by
 obtain ⟨ss,Fo,Fa,h1,h2,h3⟩:=h
 refine ⟨ss,Fo,Fa,h1,h2,I.perm ?_⟩
 simp only [List.flatten_cons]
 have:=List.Perm.append_right Fs.flatten h3.symm
 simpa only [List.append_assoc] using this
theorem RowsL.d2c{ss:List Sl}{si':Sl}{xs':List α}{Fo Fi Fr:Frag}{i:Nat}(h1:RowL o 1 csl s (ss.set i si') Fo)(h2:RowL e sz c si' xs' Fi)(h3:Hole e sz c ss xss i Fr):RowsL o e sz c s (xss.set i xs') (Fo++(Fi++Fr)):=by
 obtain ⟨F',k1,k2⟩:=h3 si' xs' Fi h2
 exact ⟨_,Fo,F',h1,k1,List.Perm.append_left Fo k2.symm⟩
theorem d5f{β:Type}{l:List β}{i:Nat}{x:β}(h:l[i]? = some x):l.set i x=l:=by
 obtain ⟨h1,h2⟩:=List.getElem?_eq_some_iff.1 h
 subst h2
 exact List.set_getElem_self h1
theorem RowsL.same{i:Nat}{xs:List α}(h:RowsL o e sz c s (xss.set i xs) F)(hx:xss[i]? = some xs):RowsL o e sz c s xss F:=by rwa [d5f hx] at h
theorem RowsL.app{s':Sl}{ss ts:List Sl}{yss:List (List α)}{Fo Fi G:Frag}(h:RowL o 1 csl s' (ss++ts) Fo)(h1:Inners e sz c ss xss Fi)(h2:Inners e sz c ts yss G):RowsL o e sz c s' (xss++yss) (Fo++(Fi++G)):=⟨_,Fo,_,h,h1.app h2,.refl _⟩
theorem RowsL.one{xs:List α}{si:Sl}{Fo Fi:Frag}(h:RowL o 1 csl s [si] Fo)(h1:RowL e sz c si xs Fi):RowsL o e sz c s [xs] (Fo++Fi):=⟨_,Fo,Fi,h,by have:=Inners.cons h1 Inners.nil;rwa [List.append_nil] at this,.refl _⟩
def SlHH{α:Type}(H:Hp)(sz:Nat)(c:α->List Value)(s:Sl)(xss:List (List α)):Prop:=
 s.n=xss.length/\∃ss:List Sl,SlH H 1 csl s ss/\∀(i:Nat)(si:Sl)(xs:List α),ss[i]? = some si->xss[i]? = some xs->SlH H sz c si xs/\si.n<=si.c
theorem SlHH.le{H':Hp}(h:SlHH H sz c s xss)(l:Hle H H'):SlHH H' sz c s xss:=by
 obtain ⟨h0,ss,h1,h2⟩:=h
 exact ⟨h0,ss,h1.le l,λi si xs a b=>⟨(h2 i si xs a b).1.le l,(h2 i si xs a b).2⟩⟩
theorem RowL.cap{xs:List α}(h:RowL e sz c s xs F):s.n<=s.c:=by
 rcases h.1.2 with ⟨rfl,_⟩ | ⟨_,_,_,_,h,_⟩
 ·exact Nat.le_refl _
 ·exact h
theorem Inners.frozen{ss:List Sl}(h:Inners e sz c ss xss F)(h0:0 < sz)(hF:∀p∈F,H p.1=some p.2):∀(i:Nat)(si:Sl)(xs:List α),ss[i]? = some si->xss[i]? = some xs->SlH H sz c si xs/\si.n<=si.c:=by
 induction h with
 | nil=>intro i si xs hs;simp at hs
 | cons hr _ ih=>
  intro i si xs hs hx
  cases i with
  | zero=>
   simp only [List.getElem?_cons_zero,Option.some.injEq] at hs hx
   subst hs;subst hx
   exact ⟨hr.frozen h0 λp hp=>hF p (List.mem_append_left _ hp),hr.cap⟩
  | succ i=>exact ih (λp hp=>hF p (List.mem_append_right _ hp)) i si xs (by simpa using hs) (by simpa using hx)
theorem Inv.freezeLL(I:Inv w0 ps H0 H (F::Fs) w)(h:RowsL o e sz c s xss F)(h0:0 < sz):∃H',Inv w0 ps H0 H' Fs w/\Hle H H'/\SlHH H' sz c s xss/\s.n<=s.c:=by
 obtain ⟨ss,Fo,Fi,h1,h2,h3⟩:=h
 have hf:=I.freeze
 refine ⟨_,hf.1,hf.2.1,⟨by rw [h1.2.1,h2.len],ss,h1.frozen (by decide) λp hp=>hf.2.2 p (h3.symm.mem_iff.1 (List.mem_append_left _ hp)),h2.frozen h0 λp hp=>hf.2.2 p (h3.symm.mem_iff.1 (List.mem_append_right _ hp))⟩,h1.cap⟩
theorem Inv.freezeC{xs:List α}(I:Inv w0 ps H0 H (F::Fs) w)(h:RowL e sz c s xs F)(h0:0 < sz):∃H',Inv w0 ps H0 H' Fs w/\Hle H H'/\SlH H' sz c s xs/\s.n<=s.c:=
 ⟨_,I.freeze.1,I.freeze.2.1,h.frozen h0 I.freeze.2.2,h.cap⟩
def NewS(H H':Hp)(e:TypeId)(sz:Nat)(s:Sl):Prop:=s.n<=s.c/\(s.n=0\/∃g arr,s.a=some ⟨g,0,none⟩/\H' g=some (.cells arr e (0,0))/\H g=none/\s.n*sz<=arr.size)
theorem NewS.le{H H1 H2:Hp}{sz:Nat}{s:Sl}(h:NewS H H1 e sz s)(l:Hle H1 H2):NewS H H2 e sz s:=⟨h.1,h.2.imp id λ⟨g,arr,a,b,c,d⟩=>⟨g,arr,a,l _ _ b,c,d⟩⟩
theorem NewS.sub{H0 H H1:Hp}{sz:Nat}{s:Sl}(h:NewS H H1 e sz s)(l:Hle H0 H):NewS H0 H1 e sz s:=by
 refine ⟨h.1,h.2.imp id ?_⟩
 rintro ⟨g,arr,a,b,c,d⟩
 refine ⟨g,arr,a,b,?_,d⟩
 cases e:H0 g with
 | none=>rfl
 | some o=>have:=l _ _ e;rw [c] at this;cases this
theorem RowL.d2d{xs:List α}(h:RowL e sz c s xs F)(I:Inv w0 ps H0 H (F::Fs) w){g:Nat}(ha:s.a=some ⟨g,0,none⟩):g < w.heap.size:=by
 rcases h.1.2 with ⟨rfl,_⟩ | ⟨g',arr,ha',rfl,_⟩
 ·cases ha
 ·rw [ha] at ha'
  cases ha'
  exact I.lt1
theorem RowL.inF{xs:List α}(h:RowL e sz c s xs F){g:Nat}(ha:s.a=some ⟨g,0,none⟩):∃ob,F=[(g,ob)]:=by
 rcases h.1.2 with ⟨rfl,_⟩ | ⟨g',arr,ha',rfl,_⟩
 ·cases ha
 ·rw [ha] at ha'
  cases ha'
  exact ⟨_,rfl⟩
end
def Sl.cut(s:Sl)(l h m sz:Nat):Sl:=⟨if m=l then s.a else s.a.map (·.add (l*sz)),h-l,m-l⟩
theorem SlH.cut{α:Type}{H:Hp}{sz:Nat}{c:α->List Value}{s:Sl}{xs:List α}(hs:SlH H sz c s xs){l h m:Nat}(h1:l<=h)(h2:h<=s.n)(h3:h<=m):SlH H sz c (s.cut l h m sz) ((xs.take h).drop l):=by
 have hn:=hs.1
 refine ⟨by simp only [Sl.cut,List.length_drop,List.length_take];omega,λi x hx=>?_⟩
 rw [List.getElem?_drop,List.getElem?_take] at hx
 split at hx
 ·rename_i hlt
  obtain ⟨g,o,ha,hA⟩:=hs.2 _ x hx
  have hml:m≠l:=by omega
  refine ⟨g,o+l*sz,?_,?_⟩
  ·simp only [Sl.cut,if_neg hml,ha,Option.map_some,a7q]
  ·rw [Int.toNat_natCast] at hA ⊢
   rwa [Nat.add_mul,← Nat.add_assoc] at hA
 ·cases hx
section
variable {P:Program}{t e:TypeId}{sz:Nat}(ht:P.underlying t=some (.slice e))(hz:∀w,(sizeOf e).run P w=.ok sz w)(s:Sl)
include ht
theorem c8L:P.elem t=e:=by simp [Program.elem,ht]
include hz
theorem d5g{k:IntKind}{l:Int}(h0:0<=l)(h1:l<=s.n):Pu P (xV (Instr.sliceAt t (.slice s.a s.n s.c) (some (.int k l)) none none)) (.slice (s.cut l.toNat s.n s.c sz).a (s.cut l.toNat s.n s.c sz).n (s.cut l.toNat s.n s.c sz).c):=by
 have he:=c8L ht
 refine Pu.ok λw=>?_
 rw [run_sliceAt_slice _ _ _ _ _ _ (by rw [he];exact ht),run_slice_l _ _ _ _ _ (by rw [he];exact ht) _ _ h0 h1,he,hz]
 rfl
theorem c1v{k:IntKind}{h:Int}(h0:0<=h)(h1:h<=s.c):Pu P (xV (Instr.sliceAt t (.slice s.a s.n s.c) none (some (.int k h)) none)) (.slice (s.cut 0 h.toNat s.c sz).a (s.cut 0 h.toNat s.c sz).n (s.cut 0 h.toNat s.c sz).c):=by
 have he:=c8L ht
 refine Pu.ok λw=>?_
 rw [run_sliceAt_slice _ _ _ _ _ _ (by rw [he];exact ht),run_slice_h _ _ _ _ _ (by rw [he];exact ht) _ _ h0 h1,he,hz]
 rfl
end
section
variable {P:Program}
theorem c3G(op:BinOp)(t:TypeId)(x y:Operand)(a b:Option Addr)(n c n' c':Nat)(w:World):(eqGuard op t x y (.slice a n c) (.slice b n' c')).run P w=.ok () w:=by
 cases op<;>rfl
theorem d2e(t:TypeId){e:TypeId}(x y:Operand)(s:Sl)(h:P.underlying t=some (.slice e)):Pu P (xBin .eql t x y (vs s) (.slice none 0 0)) (.bool s.a.isNone):=by
 refine Pu.ok (s:=do eqGuard .eql t x y (vs s) (.slice none 0 0);binOp .eql t (vs s) (.slice none 0 0)) λw=>?_
 rw [Sem.run_bind,c3G,Result.andThen_ok]
 exact Lib.run_eql_slice_nil w t e s.a s.n s.c 0 0 h
def sbytes(s:BA):List Int:=s.data.toList.map λb=>(b.toNat:Int)
theorem b4u(s:BA):(sbytes s).length=s.size:=by rw [sbytes,List.length_map,Array.length_toList];rfl
theorem c5X(s:BA){c:Int->List Value}(hc:∀x,c x=[.int .u8 x]):(sbytes s).flatMap c=Lib.strCells s:=by
 unfold sbytes Lib.strCells
 induction s.data.toList with
 | nil=>rfl
 | cons b l ih=>rw [List.map_cons,List.flatMap_cons,hc,List.map_cons,ih];rfl
section
variable {E:Pan}{w0 w:World}{ps:Nat->Prop}{H0 H:Hp}{Fs:List Frag}{F:Frag}{K:Value->World->Prop}
theorem d8u{t u ty e:TypeId}{i:TypeInfo}{bytes:Nat}{c:Int->List Value}(hcc:∀x,c x=[.int .u8 x])(ht:P.underlying t=some (.slice e))(hu:P.underlying u=some .string)(hi:P.info? e=some i)(hz:i.zero=some (.int .u8 0))(hsize:i.size=1)(hby:i.bytes=bytes)
  {s:Sl} {xs:List Int} (I:Inv w0 ps H0 H (F::Fs) w) (hr:RowL e 1 c s xs F) (b:BA) (hb0:b.size≠0) (hb:(xs.length+b.size)*(bytes+1)<=140737488355328):
  ∃(s':Sl)(F':Frag)(w':World),(Builtin.append_ #[t,u] ty #[.slice s.a s.n s.c,.string b]).run P w=.ok (.slice s'.a s'.n s'.c) w'/\RowL e 1 c s' (xs++sbytes b) F'/\Inv w0 ps H0 H (F'::Fs) w'/\∀k,k < w.heap.size->(∀p∈F,p.1≠k)->w'.heap[k]? = w.heap[k]?:=by
 subst hby
 obtain ⟨hR,hn,hc,h1⟩:=hr
 have hyl:0 < b.size:=by omega
 have e1:=Y1 hc xs
 have e2:=c5X b hcc
 have e3:=Lib.strCells_length b
 have hmax:xs.length+b.size<=140737488355328:=Nat.le_trans (Nat.le_mul_of_pos_right _ (Nat.succ_pos _)) hb
 have hb':(xs.length+b.size)*i.bytes<=140737488355328:=Nat.le_trans (Nat.mul_le_mul_left _ (Nat.le_succ _)) hb
 have hml:xs.length+b.size<=maxLen:=by simp only [maxLen];omega
 have flat:(xs++sbytes b).flatMap c=xs.flatMap c++Lib.strCells b:=by rw [List.flatMap_append,e2]
 have flen:((xs++sbytes b).flatMap c).length=(xs.length+b.size)*1:=by rw [Y1 hc,List.length_append,b4u]
 rw [Nat.mul_one] at e1
 have fresh:∀old,old < xs.length+b.size->RowL e 1 c ⟨some ⟨w.heap.size,0,none⟩,xs.length+b.size,grownCap w (xs.length+b.size) old e⟩ (xs++sbytes b)
   [(w.heap.size,.cells ((xs.flatMap c).toArray++(Lib.strCells b).toArray++Builtin.zeroCells (Value.int .u8 0).cells (grownCap w (xs.length+b.size) old e-(xs.length+b.size))) e (0,0))]:=by
  intro old ho
  have hge:=grownCap_ge w (xs.length+b.size) old e
  refine ⟨⟨flen,.inr ⟨_,_,rfl,rfl,hge,grownCap_le_maxLen w _ old e hml,?_,?_⟩⟩,by simp [b4u],hc,h1⟩
  ·simp only [Array.size_append,List.size_toArray,size_zeroCells,e1,e3]
   show xs.length+b.size+(grownCap w (xs.length+b.size) old e-(xs.length+b.size))*1=_
   omega
  ·simp only [Array.toList_append,List.append_assoc]
   rw [←List.append_assoc,← flat,← flen]
   exact List.take_left
 obtain ⟨hl,hR⟩:=hR
 rcases hR with ⟨rfl,rfl⟩ | ⟨g,arr,hsa,rfl,h3,h4,h5,h6⟩
 ·have hx:xs=[]:=List.length_eq_zero_iff.1 hn.symm
  subst hx
  have hr:=run_append_nil_string (P:=P) w t u ty e i (.int .u8 0) ht hu hi hz b (by omega) (by omega) (by simp only [List.length_nil,Nat.zero_add] at hb';omega)
  have hf:=fresh 0 (by simp;omega)
  simp only [List.flatMap_nil,List.length_nil,Nat.zero_add,List.nil_append,Array.empty_append] at hf
  refine ⟨⟨some ⟨w.heap.size,0,none⟩,b.size,grownCap w b.size 0 e⟩,_,_,hr,?_,(I.drop.drawn (w.drawn+1)).alloc _,λk hk _=>?_⟩
  ·have hsd:b.data.map (λb=>Value.int IntKind.u8 b.toNat)=(Lib.strCells b).toArray:=by
    apply Array.ext'
    simp [Lib.strCells]
   rw [hsd]
   exact hf
  ·exact Below.heap_alloc w.drew _ k hk
 ·rw [hsa,hn]
  by_cases hroom:xs.length+b.size<=s.c
  ·have hfit:xs.length+b.size<=arr.size:=by rw [h5];omega
   have hr:=Lib.run_append_room_string (P:=P) w t u ty e i ht hu hi hsize g xs.length s.c arr I.hp1 b hroom hfit
   refine ⟨⟨some ⟨g,0,none⟩,xs.length+b.size,s.c⟩,_,_,hr,⟨⟨flen,.inr ⟨g,_,rfl,rfl,hroom,h4,?_,?_⟩⟩,by simp [b4u],hc,h1⟩,I.setRow,λk _ hk=>setRow_other w g k _ λeq=>hk (g,_) (List.mem_singleton_self _) eq.symm⟩
   ·simp only [List.size_toArray,List.length_append,List.length_take,List.length_drop,Array.length_toList,e3]
    omega
   ·rw [hn,Nat.mul_one] at h6
    simp only []
    rw [h6,← flat,← flen]
    exact List.take_left
  ·have holds:∀j v,(xs.flatMap c)[j]? = some v->w.cell? ((⟨g,0,none⟩:Addr).add j)=some v:=λj v hj=>by
    rw [a7q,b4s I.hp1,Nat.zero_add]
    rw [←h6,List.getElem?_take] at hj
    split at hj
    ·simpa using hj
    ·cases hj
   have hr:=Lib.run_append_grow_string (P:=P) w t u ty e i (.int .u8 0) ht hu hi hz ⟨g,0,none⟩ xs.length s.c (xs.flatMap c) (by rw [hsize,Nat.mul_one];exact e1) holds b (by omega) (by omega) (growslice_fits (by omega) hb')
   refine ⟨_,_,_,hr,fresh s.c (by omega),(I.drop.drawn (w.drawn+1)).alloc _,λk hk _=>?_⟩
   exact Below.heap_alloc w.drew _ k hk
theorem d5i{t u ty e:TypeId}{i:TypeInfo}{c:Int->List Value}{s:Sl}{xs:List Int}(ht:P.underlying t=some (.slice e))(hu:P.underlying u=some .string)(hi:P.info? e=some i)(hr:RowL e 1 c s xs F)(b:BA)(hb0:b.size=0):
  (Builtin.append_ #[t,u] ty #[.slice s.a s.n s.c,.string b]).run P w=.ok (.slice s.a s.n s.c) w:=by
 have hle:s.n<=s.c:=by
  rcases hr.1.2 with ⟨rfl,_⟩ | ⟨g,arr,_,_,h,_⟩
  ·exact Nat.le_refl _
  ·exact h
 have hb:b.data=#[]:=Array.eq_empty_of_size_eq_zero hb0
 cases ha:s.a<;>simp [Builtin.append_,run_underlying ht,run_underlying hu,sizeOf,typeInfo,hi,Builtin.lenOf,Builtin.firstCells,loadCells,storeCells,hle,hb0,hb]
theorem d5j{t u ty:TypeId}{ks:List Bool}{e:TypeId}{i:TypeInfo}{bytes:Nat}{c:Int->List Value}(hcc:∀x,c x=[.int .u8 x])(ht:P.underlying t=some (.slice e))(hu:P.underlying u=some .string)(hi:P.info? e=some i)(hz:i.zero=some (.int .u8 0))(hsize:i.size=1)(hby:i.bytes=bytes)
  {s:Sl} {xs:List Int} (I:Inv w0 ps H0 H (F::Fs) w) (hr:RowL e 1 c s xs F) (b:BA) (hb:(xs.length+b.size)*(bytes+1)<=140737488355328)
  (h:∀(s':Sl)(F':Frag)(w':World),RowL e 1 c s' (xs++sbytes b) F'->Inv w0 ps H0 H (F'::Fs) w'->(∀k,k < w.heap.size->(∀p∈F,p.1≠k)->w'.heap[k]? = w.heap[k]?)->K (.slice s'.a s'.n s'.c) w'):
  opK P E (xBuiltin .append #[t,u] ty ks [.slice s.a s.n s.c,.string b]) w K:=by
 have hx:xBuiltin .append #[t,u] ty ks [.slice s.a s.n s.c,.string b]=xV (Builtin.append_ #[t,u] ty #[.slice s.a s.n s.c,.string b]):=rfl
 rw [hx]
 by_cases hy:b.size=0
 ·refine U7 (d5i (ty:=ty) ht hu hi hr b hy) (h s F w ?_ I λ_ _ _=>rfl)
  rw [show sbytes b=[] from List.length_eq_zero_iff.1 (by rw [b4u];exact hy),List.append_nil]
  exact hr
 ·obtain ⟨s',F',w',h1,h2,h3,h4⟩:=d8u (ty:=ty) hcc ht hu hi hz hsize hby I hr b hy hb
  exact U7 h1 (h s' F' w' h2 h3 h4)
theorem e1B{α:Type}{t tn ty:TypeId}{ks:List Bool}{e:TypeId}{sz:Nat}{c:α->List Value}{i:TypeInfo}{z:Value}{bytes:Nat}{k kn:IntKind}(ht:P.underlying t=some (.slice e))(htn:P.underlying tn=some (.int kn))(hi:P.info? e=some i)(hz:i.zero=some z)(hsize:i.size=sz)(hby:i.bytes=bytes)(hzs:z.cells.size=sz)(aa:0 < sz)
  (hcl:∀x,(c x).length=sz) (hco:∀x,(c x).all (·.oneCell')=true) (I:Inv w0 ps H0 H Fs w) {n:Int} (h0:0 < n) (hb:n*((bytes:Int)+1)<=140737488355328)
  (h:∀(g m:Nat)(F':Frag)(w':World),RowL e sz c ⟨some ⟨g,0,none⟩,0,m⟩ [] F'->Inv w0 ps H0 H (F'::Fs) w'->K (.slice (some ⟨g,0,none⟩) n.toNat m) w'):
  opK P E (xBuiltin .append #[t,tn] ty ks [.slice none 0 0,.int k n]) w K:=by
 have hx:xBuiltin .append #[t,tn] ty ks [.slice none 0 0,.int k n]=xV (Builtin.append_ #[t,tn] ty #[.slice none 0 0,.int k n]):=rfl
 rw [hx]
 subst hsize;subst hby
 obtain ⟨m,rfl⟩:=Int.eq_ofNat_of_zero_le (Int.le_of_lt h0)
 have hm:m*(i.bytes+1)<=140737488355328:=by
  have hb':=hb
  rw [show ((i.bytes:Int)+1)=((i.bytes+1:Nat):Int) from rfl,← Int.natCast_mul] at hb'
  omega
 have h1:m<=140737488355328:=Nat.le_trans (Nat.le_mul_of_pos_right _ (Nat.succ_pos _)) hm
 have h2:m*i.bytes<=140737488355328:=Nat.le_trans (Nat.mul_le_mul_left _ (Nat.le_succ _)) hm
 have hr:=Lib.run_append_nil_zeros (P:=P) w t tn ty e i z k kn ht htn hi hz m (by omega) aa (by omega) (by omega)
 refine U7 hr ?_
 have hge:=grownCap_ge w m 0 e
 refine h w.heap.size (grownCap w m 0 e) [(w.heap.size,_)] _ ⟨⟨by rw [List.flatMap_nil,Nat.zero_mul];rfl,.inr ⟨_,_,rfl,rfl,Nat.zero_le _,grownCap_le_maxLen w m 0 e (by simp only [maxLen];omega),?_,by rw [Nat.zero_mul,List.take_zero,List.flatMap_nil]⟩⟩,rfl,hcl,hco⟩ ((I.drawn (w.drawn+1)).alloc _)
 simp only [Array.size_append,size_zeroCells,hzs]
 rw [←Nat.add_mul]
 congr 1
 omega
def setObjAt(w:World)(r:Nat)(o:Obj):World:={ w with heap:=w.heap.setIfInBounds r o }
theorem e1C{W:World}{r:Nat}{o:Obj}(hl:r < W.heap.size):(setObjAt W r o).heap[r]? = some o:=by
 simp [setObjAt,hl]
theorem b9l{W:World}{r k:Nat}{o:Obj}(h:k≠r):(setObjAt W r o).heap[k]? = W.heap[k]?:=by
 simp only [setObjAt]
 rw [Array.getElem?_setIfInBounds_ne (Ne.symm h)]
theorem Inv.setObj{g:Nat}{o o':Obj}{F:Frag}(I:Inv w0 ps H0 H (((g,o)::F)::Fs) w):Inv w0 ps H0 H (((g,o')::F)::Fs) (setObjAt w g o'):=by
 have far:∀i,i≠g->(setObjAt w g o').heap[i]? = w.heap[i]?:=λi hi=>b9l hi
 have hs:(setObjAt w g o').heap.size=w.heap.size:=by simp [setObjAt]
 have hg:∀p∈F++Fs.flatten,p.1≠g:=by
  have:=I.nodup
  rw [show ((((g,o)::F)::Fs).flatten.map (·.1))=g::((F++Fs.flatten).map (·.1)) from rfl,List.nodup_cons] at this
  exact λp hp e=>this.1 (List.mem_map.2 ⟨p,hp,e⟩)
 have hgp:ps g\/w0.heap.size<=g:=I.fresh (g,o) (List.mem_cons_self ..)
 refine ⟨λi o1 h=>(far i λe=>?_).trans (I.sub i o1 h),?_,?_,?_,?_,λi hi hp=>(far i λe=>?_).trans (I.frame i hi hp),by have:=I.mono;omega,I.os,I.tape,I.output,I.le,I.back⟩
 ·subst e
  exact I.Hnot h ⟨(i,o),List.mem_cons_self ..,rfl⟩
 ·intro p hp
  rcases List.mem_cons.1 hp with rfl | hp
  ·exact e1C I.lt1
  ·exact (far _ (hg p hp)).trans (I.own p (List.mem_cons_of_mem _ hp))
 ·intro p hp
  rcases List.mem_cons.1 hp with rfl | hp
  ·exact I.priv (g,o) (List.mem_cons_self ..)
  ·exact I.priv p (List.mem_cons_of_mem _ hp)
 ·exact I.nodup
 ·intro p hp
  rcases List.mem_cons.1 hp with rfl | hp
  ·exact hgp
  ·exact I.fresh p (List.mem_cons_of_mem _ hp)
 ·subst e
  rcases hgp with h | h
  ·exact hp h
  ·omega
def itf(g:Nat)(s:BA)(p:Nat):Frag:=[(g,.stringIter s p)]
theorem b6N{t:TypeId}(hu:P.underlying t=some .string)(s:BA)(I:Inv w0 ps H0 H Fs w)
  (h:∀(g:Nat)(w':World),Inv w0 ps H0 H (itf g s 0::Fs) w'->(∀k,k < w.heap.size->w'.heap[k]? = w.heap[k]?)->K (.pointer (some ⟨g,0,none⟩)) w'):opK P E (xV (Instr.range t (.string s))) w K:=by
 refine U7 (w':=w.alloc (.stringIter s 0)) (v:=.pointer (some ⟨w.heap.size,0,none⟩)) ?_ (h _ _ (I.alloc _) λk hk=>Below.heap_alloc w _ k hk)
 simp only [Instr.range,Sem.run_bind,run_underlying hu,Result.andThen_ok,newObj,Sem.run,Sem.run_pure]
 rfl
theorem b9m{g:Nat}{s:BA}{p ty:Nat}(I:Inv w0 ps H0 H (itf g s p::Fs) w)
  (h1:p < s.size->∀w',Inv w0 ps H0 H (itf g s (p+(Utf8.decode s p).2)::Fs) w'->(∀k,k≠g->w'.heap[k]? = w.heap[k]?)->K (.tuple #[.bool true,.int .i64 (p:Int),.int .i32 ((Utf8.decode s p).1:Int)]) w')
  (h2:¬p < s.size->K (.tuple #[.bool false]) w):opK P E (xV (Instr.next (.pointer (some ⟨g,0,none⟩)) true ty)) w K:=by
 have hi:w.heap[g]? = some (.stringIter s p):=I.hp1
 by_cases hp:p < s.size
 ·refine U7 (w':=setObjAt w g (.stringIter s (p+(Utf8.decode s p).2))) ?_ (h1 hp _ I.setObj λk hk=>b9l hk)
  simp [Instr.next,getObj,Go.setObj,Sem.run,hi,hp,setObjAt,goInt]
 ·refine U7 ?_ (h2 hp)
  simp [Instr.next,getObj,Sem.run,hi,hp]
end
end
def a0h(a:Int):Prop:=-9223372036854775808<=a/\a<=9223372036854775807
instance (a:Int):Decidable (a0h a):=by unfold a0h;infer_instance
theorem S3{a:Int}(h:a0h a):IntKind.wrap .i64 a=a:=by rw [IntKind.wrap_i64];unfold a0h at h;omega
theorem K7{i:Int}(h0:0<=i)(h1:i<=1099511627776):IntKind.wrap .i64 (i+1)=i+1:=S3 ⟨by omega,by omega⟩
theorem a2g{α:Type}{q:Prop} [Decidable q] {call:(α->Hp->Prop)->Prop} {d:α} {H:Hp} {K:α->Hp->Prop} (v:α) (hc:q->∀K':α->Hp->Prop,K' v H->call K') (h:K (if q then v else d) H):TG q call d H K:=
 ⟨λhq=>hc hq _ (by rwa [if_pos hq] at h),λhq=>by rwa [if_neg hq] at h⟩
theorem W1{α:Type}{l:List α}{i:Nat}{x:α}(h:l[i]? = some x):l.take (i+1)=l.take i++[x]:=by
 rw [List.take_add_one,h];rfl
theorem K2{α:Type}{l:List α}{i:Nat}(h:i < l.length):∃x,l[i]? = some x:=⟨_,List.getElem?_eq_getElem h⟩
theorem O1{α:Type}{l:List α}{i:Nat}{x:α}(h:l[i]? = some x):i < l.length:=(List.getElem?_eq_some_iff.1 h).1
theorem c5Y{α:Type}{a b:List α}{i:Nat}{x:α}(h:(a++b)[i]? = some x):a[i]? = some x\/(a.length<=i/\b[i-a.length]? = some x):=by
 by_cases hi:i < a.length
 ·rw [List.getElem?_append_left hi] at h;exact .inl h
 ·rw [List.getElem?_append_right (by omega)] at h;exact .inr ⟨by omega,h⟩
def C4{α β:Type}(R:α->β->Prop)(xs:List α)(ys:List β):Prop:=xs.length=ys.length/\∀(i:Nat)(x:α)(y:β),xs[i]? = some x->ys[i]? = some y->R x y
theorem C4.mono{α β:Type}{R S:α->β->Prop}{xs:List α}{ys:List β}(h:C4 R xs ys)(f:∀x y,R x y->S x y):C4 S xs ys:=⟨h.1,λi x y a b=>f _ _ (h.2 i x y a b)⟩
theorem C4.get{α β:Type}{R:α->β->Prop}{xs:List α}{ys:List β}(h:C4 R xs ys){i:Nat}{x:α}(hx:xs[i]? = some x):∃y,ys[i]? = some y/\R x y:=by
 obtain ⟨y,hy⟩:=K2 (l:=ys) (i:=i) (by rw [←h.1];exact O1 hx)
 exact ⟨y,hy,h.2 i x y hx hy⟩
theorem C4.nil{α β:Type}{R:α->β->Prop}:C4 R ([]:List α) ([]:List β):=⟨rfl,λi x y h=>by simp at h⟩
theorem C4.app{α β:Type}{R:α->β->Prop}{xs xs':List α}{ys ys':List β}(h:C4 R xs ys)(h':C4 R xs' ys'):C4 R (xs++xs') (ys++ys'):=by
 refine ⟨by rw [List.length_append,List.length_append,h.1,h'.1],λi x y hx hy=>?_⟩
 rcases c5Y hx with hx | ⟨hi,hx⟩
 ·rcases c5Y hy with hy | ⟨hj,hy⟩
  ·exact h.2 i x y hx hy
  ·have:=O1 hx;have:=h.1;omega
 ·rcases c5Y hy with hy | ⟨hj,hy⟩
  ·have:=O1 hy;have:=h.1;omega
  ·rw [←h.1] at hy;exact h'.2 _ x y hx hy
theorem C4.one{α β:Type}{R:α->β->Prop}{x:α}{y:β}(h:R x y):C4 R [x] [y]:=⟨rfl,λi a b ha hb=>by
 cases i with
 | zero=>simp at ha hb;subst ha;subst hb;exact h
 | succ i=>simp at ha⟩
theorem C4.map{α β γ:Type}{R:γ->β->Prop}{f:α->γ}{xs:List α}{ys:List β}(h:C4 (λx y=>R (f x) y) xs ys):C4 R (xs.map f) ys:=by
 refine ⟨by rw [List.length_map];exact h.1,λi x y hx hy=>?_⟩
 rw [List.getElem?_map] at hx
 cases hq:xs[i]? with
 | none=>rw [hq] at hx;cases hx
 | some a=>rw [hq] at hx;simp at hx;subst hx;exact h.2 i a y hq hy
section
variable {H:Hp}
theorem SlHH.get{α:Type}{sz:Nat}{cf:α->List Value}{s:Sl}{xss:List (List α)}(h:SlHH H sz cf s xss){i:Int}(h0:0<=i)(h1:i < s.n):
  ∃si xs,xss[i.toNat]? = some xs/\EltH H s i 1 [Value.slice si.a si.n si.c]/\SlH H sz cf si xs/\si.n<=si.c:=by
 obtain ⟨hn,ss,hss,hin⟩:=h
 obtain ⟨si,hs,hE⟩:=hss.get h0 h1
 have hlt:i.toNat < xss.length:=by omega
 exact ⟨si,xss[i.toNat],List.getElem?_eq_getElem hlt,hE,hin _ _ _ hs (List.getElem?_eq_getElem hlt)⟩
end
end Go.Proofs.YthjlehnccgjpoaaGreatDoor
