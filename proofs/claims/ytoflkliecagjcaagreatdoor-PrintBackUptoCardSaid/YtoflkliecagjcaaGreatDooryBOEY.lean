/- The second reading (E0) for code that yields or ranges over a function: the same, walked in the wide fence, in a round or not; the marks of loops that have been entered are carried along. No program in sight. -/
import Derived.OrdersIn
import Derived.RangeFuncLeaves
import Derived.RangeFuncIn
import Derived.RangeFuncRecord
import Derived.RangeFuncCalls
import Derived.TacticsIn
import Derived.Test.YtoflkliecagjcaaGreatDooryBOE2
namespace Go.Proofs.YtoflkliecagjcaaGreatDoor.Od
open Go.RowKit
def FW(ro:Option Nat):Fence:={ Fence.wide with round:=ro }
def opY(P:Program)(s:Sem Next)(w:World)(K:Value→World→Prop):Prop:=
 match s.run P w with
 | .ok (.value v) w'=>K v w'
 | .ok .skip w'=>K undef w'
 | .ok (.enter f args) w'=>Cv P f args w' K
 | .ok (.round l f tmps as bd) w'=>RoundIn Fence.wide 0 P l f tmps as bd w' fun e w''=>∃v,e=.returned v∧K v w''
 | _=>False
theorem d2s{P:Program}{s:Sem Next}{w:World}{K:Value→World→Prop}(h:opK P s w K):opY P s w K:=by
 unfold opK at h
 unfold opY
 generalize s.run P w=r at h ⊢
 cases r with
 | halt x w'=>exact h.elim
 | ok n w'=>cases n<;>first | exact h | exact h.elim
theorem c5X{P:Program}{s:Sem Next}{w:World}{K K':Value→World→Prop}(h:opY P s w K)(hk:∀v w',K v w'→K' v w'):opY P s w K':=by
 unfold opY at h ⊢
 generalize s.run P w=r at h ⊢
 cases r with
 | halt x w'=>exact h.elim
 | ok n w'=>
  cases n<;>simp only at h ⊢
  case value v=>exact hk _ _ h
  case skip=>exact hk _ _ h
  case enter f args=>exact Calls.mono h fun e w' ⟨v,he,hv⟩=>⟨v,he,hk _ _ hv⟩
  case round l f tmps as bd=>exact RoundIn.mono h fun e w' ⟨v,he,hv⟩=>⟨v,he,hk _ _ hv⟩
def dynCall:Op→Bool
 | .call c=>match c.callee with | .value (.tmp _)=>true | _=>false
 | _=>false
def opD(b:Bool)(P:Program)(s:Sem Next)(w:World)(K:Value→World→Prop):Prop:=@Bool.rec (fun _=>Prop) (opK P s w K) (opY P s w K) b
theorem d4p{b:Bool}{P:Program}{s:Sem Next}{w:World}{K:Value→World→Prop}(h:opD b P s w K):opY P s w K:=by
 cases b
 ·exact d2s h
 ·exact h
def opsY(P:Program)(ops:List Oper):List Oper→Fr→World→(Fr→World→Prop)→Prop
 | [],σ,w,K=>K σ w
 | o::r,σ,w,K=>
  match mvX ops σ o with
  | some v=>opsY P ops r (up σ o.dst v) w K
  | none=>opD (dynCall o.op) P (gopS ops σ o) w fun v w'=>opsY P ops r (up σ o.dst v) w' K
def setps(σ:Fr)(vs:List Value):Nat→List Tmp→Fr
 | k,p::ps=>setps (up σ (some p) (nth vs k)) vs (k+1) ps
 | _,[]=>σ
def markOf(D:Nat):Deferred:={ target:=.collected D,args:=#[] }
def roundEnd(l:Nat)(rec:LoopState→Option Code→Loop)(K:Value→World→Prop):Exit→World→Prop
 | .normal,w=>w.heap[l]? = some (.loop (rec .busy none))∧K (.bool true) (World.setObjAt w l (.loop (rec .ready none)))
 | .ret,w=>w.heap[l]? = some (.loop (rec .busy none))∧K (.bool false) (World.setObjAt w l (.loop (rec .done (some .ret))))
 | .exit id,w=>w.heap[l]? = some (.loop (rec .busy none))∧K (.bool false) (World.setObjAt w l (.loop (rec .done (some (.exit id)))))
 | _,_=>False
def beginY(l:Nat)(rec:LoopState→Option Code→Loop)(w:World)(K:World→Prop):Prop:=
 w.heap[l]? = some (.loop (rec .ready none))∧K (World.setObjAt w l (.loop (rec .busy none)))
def xrange(P:Program)(g:Value)(np:Nat)(w:World)
  (round:(LoopState→Option Code→Loop)→List Value→World→(Exit→World→Prop)→Prop) (rest jr:World→Prop) (je:Nat→World→Prop):Prop:=
 ∃gf lb,g=.func (.func gf) #[] lb∧(∀args w,(callFunc gf args).run P w=.ok (.enter gf args) w)∧
  ∀rec:LoopState→Option Code→Loop,
   (∀(args:List Value)(W:World)(K:Value→World→Prop),args.length=np→W.heap[w.heap.size+1]? = some (.loop (rec .ready none))→
    round rec args W (roundEnd (w.heap.size+1) rec K)→opY P (xCall (.func (.yield (w.heap.size+1)) #[] #[]) args) W K)→
   CallsIn Fence.wide 0 P gf (#[.func (.yield (w.heap.size+1)) #[] #[]]++lb) ((w.alloc (.deferred (some []))).alloc (.loop (rec .ready none))) fun e W=>(∃v,e=.returned v)∧
    ((W.heap[w.heap.size+1]? = some (.loop (rec .ready none))∧rest (World.setObjAt W (w.heap.size+1) (.loop (rec .exhausted none))))∨
     (W.heap[w.heap.size+1]? = some (.loop (rec .done (some .ret)))∧jr (World.setObjAt W (w.heap.size+1) (.loop (rec .exhausted (some .ret)))))∨
     (∃id,W.heap[w.heap.size+1]? = some (.loop (rec .done (some (.exit id))))∧je id (World.setObjAt W (w.heap.size+1) (.loop (rec .exhausted (some (.exit id)))))))
theorem c4j{P:Program}{g:Value}{np:Nat}{w:World}{round:(LoopState→Option Code→Loop)→List Value→World→(Exit→World→Prop)→Prop}{rest jr:World→Prop}{je:Nat→World→Prop}
  {gf:FuncId} {lb:Array Value} (hg:g=.func (.func gf) #[] lb) (he:∀args w,(callFunc gf args).run P w=.ok (.enter gf args) w)
  (h:∀rec:LoopState→Option Code→Loop,
   (∀(args:List Value)(W:World)(K:Value→World→Prop),args.length=np→W.heap[w.heap.size+1]? = some (.loop (rec .ready none))→
    round rec args W (roundEnd (w.heap.size+1) rec K)→opY P (xCall (.func (.yield (w.heap.size+1)) #[] #[]) args) W K)→
   Cv P gf (#[.func (.yield (w.heap.size+1)) #[] #[]]++lb) ((w.alloc (.deferred (some []))).alloc (.loop (rec .ready none))) fun _ W=>
    ((W.heap[w.heap.size+1]? = some (.loop (rec .ready none))∧rest (World.setObjAt W (w.heap.size+1) (.loop (rec .exhausted none))))∨
     (W.heap[w.heap.size+1]? = some (.loop (rec .done (some .ret)))∧jr (World.setObjAt W (w.heap.size+1) (.loop (rec .exhausted (some .ret)))))∨
     (∃id,W.heap[w.heap.size+1]? = some (.loop (rec .done (some (.exit id))))∧je id (World.setObjAt W (w.heap.size+1) (.loop (rec .exhausted (some (.exit id)))))))):
  xrange P g np w round rest jr je:=
 ⟨gf,lb,hg,he,fun rec hr=>callsIn_wide.2 (Calls.mono (h rec hr) fun _ _ ⟨v,he,hv⟩=>⟨⟨v,he⟩,hv⟩)⟩
def okY:Bool→Code→Bool
 | _,.region _ ops d=>(ops.toList.all fun o=>match o.op with | .defer _=>false | _=>true)&&bif d then Region.lexB .any ops else true
 | r,.seq a b=>okY r a&&okY r b
 | r,.cond _ a b=>okY r a&&okY r b
 | r,.block _ c=>okY r c
 | r,.loop c=>okY r c
 | r,.rangeFunc _ _ a b=>!r&&okY true a&&okY true b
 | _,_=>true
def dstsY:Code→List Nat
 | .region _ ops _=>dstsL ops.toList
 | .seq a b=>dstsY a++dstsY b
 | .cond _ a b=>dstsY a++dstsY b
 | .block _ c=>dstsY c
 | .loop c=>dstsY c
 | .rangeFunc _ ps a b=>ps.toList++(dstsY a++dstsY b)
 | _=>[]
inductive HintY where
 | none
 | seq (a b:HintY)
 | cut (S:List Nat) (a b:HintY)
 | cond (a b:HintY)
 | block (a:HintY)
 | loop (S:List Nat) (a:HintY)
 | range (a b:HintY)
def thenY(K:List Nat→Fr→World→Prop)(Q:Exit→List Nat→Fr→World→Prop):Exit→List Nat→Fr→World→Prop
 | .normal,ds,σ,w=>K ds σ w
 | e,ds,σ,w=>Q e ds σ w
def inBlockY(id:Nat)(Q:Exit→List Nat→Fr→World→Prop):Exit→List Nat→Fr→World→Prop
 | .exit id',ds,σ,w=>bif Nat.beq id' id then Q .normal ds σ w else Q (.exit id') ds σ w
 | e,ds,σ,w=>Q e ds σ w
def asY(K:Fr→World→Prop):Exit→List Nat→Fr→World→Prop
 | .normal,[],σ,w=>K σ w
 | _,_,_,_=>False
def bdY(E:Exit→World→Prop):Exit→List Nat→Fr→World→Prop
 | e,[],_,w=>E e w
 | _,_::_,_,_=>False
def WPy(P:Program):Code→HintY→List Nat→Fr→World→(Exit→List Nat→Fr→World→Prop)→Prop
 | .skip,_,ds,σ,w,Q=>Q .normal ds σ w
 | .region _ ops false,_,ds,σ,w,Q=>opsY P ops.toList ops.toList σ w fun σ' w'=>Q .normal ds σ' w'
 | .region _ ops true,_,ds,σ,w,Q=>qopsX P ops.toList w ops.toList σ fun σ'=>∀w',Ext w w'→Q .normal ds σ' w'
 | .seq x y,h,ds,σ,w,Q=>
  match h with
  | .seq hx hy=>WPy P x hx ds σ w (thenY (fun ds1 σ1 w1=>WPy P y hy ds1 σ1 w1 Q) Q)
  | _=>False
 | .cond c x y,h,ds,σ,w,Q=>
  match h with
  | .cond hx hy=>xcond (ev σ c) (WPy P x hx ds σ w Q) (WPy P y hy ds σ w Q)
  | _=>xcond (ev σ c) (WPy P x .none ds σ w Q) (WPy P y .none ds σ w Q)
 | .block id c,h,ds,σ,w,Q=>
  match h with
  | .block hc=>WPy P c hc ds σ w (inBlockY id Q)
  | _=>False
 | .loop c,h,ds,σ,w,Q=>
  match h with
  | .loop S hc=>xloop S (S.map σ) w fun τ w' next=>WPy P c hc ds (fill' σ (dstsY c) τ) w' (thenY (fun ds' σ' w''=>ds'=ds∧next (S.map σ') w'') Q)
  | _=>False
 | .exit id,_,ds,σ,w,Q=>Q (.exit id) ds σ w
 | .ret,_,ds,σ,w,Q=>Q .ret ds σ w
 | .rangeFunc g ps as bd,h,ds,σ,w,Q=>
  match h with
  | .range ha hb=>xrange P (ev σ g) ps.size w
    (fun rec args W E=>WPy P as ha [] (setps σ args 0 ps.toList) W (asY fun σ1 w1=>beginY (w.heap.size+1) rec w1 fun w2=>WPy P bd hb [] σ1 w2 (bdY E)))
    (fun W=>Q .normal (w.heap.size::ds) σ W) (fun W=>Q .ret (w.heap.size::ds) σ W) (fun id W=>Q (.exit id) (w.heap.size::ds) σ W)
  | _=>False
 | _,_,_,_,_,_=>False
section
variable {P:Program}{N:Nat}{ro:Option Nat}
def RepD(N:Nat)(ds:List Nat)(a:Act)(σ:Fr):Prop:=a.defers=ds.map markOf∧a.tmps.size=N∧∀i,a.tmps.getD i undef = σ i
theorem RepD.rep{ds:List Nat}{a:Act}{σ:Fr}(h:RepD N ds a σ):Rep N { a with defers:=[] } σ:=⟨rfl,h.2.1,h.2.2⟩
theorem RepD.eval{ds:List Nat}{a:Act}{σ:Fr}(h:RepD N ds a σ):a.eval=ev σ:=by
 funext x
 cases x with
 | tmp t=>exact h.2.2 t
 | _=>rfl
theorem RepD.put{ds:List Nat}{a:Act}{σ:Fr}(h:RepD N ds a σ){d:Option Nat}(hd:∀k,d=some k→k < N)(v:Value):RepD N ds (a.put d v) (up σ d v):=by
 have:=h.rep.put hd v
 cases d with
 | none=>exact h
 | some k=>exact ⟨h.1,this.2.1,this.2.2⟩
theorem wantedD{ds:List Nat}{ops:List Oper}{a:Act}{σ:Fr}(h:RepD N ds a σ)(o:Oper):
  Region.wanted o (yielded ops.toArray a.tmps)=(match o.guard with | none=>true | some (j,want)=>yldX ops σ j == some want):=a4J h.rep o
theorem c4k{s:Sem Next}{o:Oper}{a:Act}{w:World}{K:Value→World→Prop}{next:Act→World→Prop}{Q:Exit→Act→World→Prop}(hnd:∀c,o.op≠.defer c)
  (hs:execOp a.eval o=s) (h:opY P s w K) (hn:∀v w',K v w'→next (a.put o.dst v) w'):o.wpIn (FW ro) 0 P a w next Q:=by
 refine ⟨fun _ _=>trivial,?_⟩
 rw [Oper.semAt_eq _ _ _ hnd,hs]
 unfold opY at h
 generalize s.run P w=r at h
 cases r with
 | halt x w'=>exact h.elim
 | ok n w'=>
  cases n<;>simp only at h<;>simp only [Oper.uponIn]
  case value v=>exact hn _ _ h
  case skip=>exact hn _ _ h
  case enter f args=>
   refine ⟨(fun hd=>by cases hd),?_⟩
   have h':CallsIn Fence.wide 0 P f args w' _:=callsIn_wide.2 h
   exact CallsIn.mono (F:=FW ro) h' fun e w'' ⟨v,he,hk⟩=>by subst he;exact hn _ _ hk
  case round l f tmps as bd=>
   refine ⟨(fun hd=>by cases hd),?_⟩
   exact RoundIn.mono (F:=FW ro) h fun e w'' ⟨v,he,hk⟩=>by subst he;exact hn _ _ hk
theorem c4l{ops:List Oper}{o:Oper}{r:List Oper}{σ:Fr}{w:World}{K:Fr→World→Prop}(h:opsY P ops (o::r) σ w K):
  opY P (gopS ops σ o) w fun v w'=>opsY P ops r (up σ o.dst v) w' K:=by
 unfold opsY at h
 split at h
 ·rename_i v hv
  rw [a7r hv]
  exact h
 ·exact d4p h
theorem c2b{ds:List Nat}{ops:List Oper}{Q:Exit→Act→World→Prop}{K:Fr→World→Prop}{D:List Nat}{σ₀:Fr}(hnd:∀o∈ops,∀c,o.op≠.defer c):∀(l:List Oper),(∀o∈l,o∈ops)→dokO N ops→(∀o∈ops,∀k,o.dst=some k→memb D k=true)→
  ∀(σ:Fr)(a:Act)(w:World),RepD N ds a σ→Kept D σ₀ σ→opsY P ops l σ w K→
  (∀σ' a' w',RepD N ds a' σ'→Kept D σ₀ σ'→K σ' w'→Q .normal a' w')→wpListIn (FW ro) 0 P ops.toArray Q l a w:=by
 intro l
 induction l with
 | nil=>intro _ _ _ σ a w hr hk h hq;exact hq _ _ _ hr hk h
 | cons o r ih=>
  intro hsub hdok hD σ a w hr hk h hq
  have hstep:=c4l h
  have hput:∀v,RepD N ds (a.put o.dst v) (up σ o.dst v):=fun v=>hr.put (fun k hk=>hdok o (hsub o (List.mem_cons_self ..)) k hk) v
  have hkeep:∀v,Kept D σ₀ (up σ o.dst v):=fun v=>hk.up (fun k hk=>hD o (hsub o (List.mem_cons_self ..)) k hk) v
  have hnext:∀v w',opsY P ops r (up σ o.dst v) w' K→wpListIn (FW ro) 0 P ops.toArray Q r (a.put o.dst v) w':=fun v w' hh=>
   ih (fun o' ho'=>hsub o' (List.mem_cons_of_mem _ ho')) hdok hD _ _ _ (hput v) (hkeep v) hh hq
  refine wpListIn_step fun K' hK'=>?_
  rw [wantedD hr]
  unfold gopS at hstep
  simp only [a0t] at hstep
  cases hg:o.guard with
  | none=>
   simp only [hg] at hstep
   simp only [if_true]
   exact c4k (hnd o (hsub o (List.mem_cons_self ..))) (by rw [hr.eval]) hstep fun v w' hh=>hK' _ _ (hnext v w' hh)
  | some g=>
   obtain ⟨j,want⟩:=g
   simp only [hg,gsem] at hstep
   by_cases hw:(yldX ops σ j == some want)=true
   ·simp only [hw,cond_true] at hstep
    simp only [hw,if_true]
    exact c4k (hnd o (hsub o (List.mem_cons_self ..))) (by rw [hr.eval]) hstep fun v w' hh=>hK' _ _ (hnext v w' hh)
   ·have hw':(yldX ops σ j == some want)=false:=by simpa using hw
    simp only [hw',cond_false] at hstep
    simp only [hw',Bool.false_eq_true,if_false]
    exact ⟨fun _ _=>trivial,hK' _ _ (hnext undef w hstep)⟩
theorem b9Y{ds:List Nat}{ops:List Oper}{w:World}{K:Fr→Prop}{Q:Act→Prop}{D:List Nat}{σ₀:Fr}:∀(l:List Oper),(∀o∈l,o∈ops)→dokO N ops→(∀o∈ops,∀k,o.dst=some k→memb D k=true)→
  ∀(σ:Fr)(a:Act),RepD N ds a σ→Kept D σ₀ σ→qopsX P ops w l σ K→
  (∀σ' a',RepD N ds a' σ'→Kept D σ₀ σ'→K σ'→Q a')→wpQuiet P ops.toArray (Ext w) Q l a:=by
 intro l
 induction l with
 | nil=>intro _ _ _ σ a hr hk h hq;exact hq _ _ hr hk h
 | cons o r ih=>
  intro hsub hdok hD σ a hr hk h hq
  have hstep:qK P w (gopS ops σ o) fun v=>qopsX P ops w r (up σ o.dst v) K:=by
   unfold qopsX at h
   split at h
   ·rename_i v hv
    rw [a7r hv]
    exact ⟨v,fun w' _=>⟨rfl,rfl⟩,h⟩
   ·exact h
  have hput:∀v,RepD N ds (a.put o.dst v) (up σ o.dst v):=fun v=>hr.put (fun k hk=>hdok o (hsub o (List.mem_cons_self ..)) k hk) v
  have hkeep:∀v,Kept D σ₀ (up σ o.dst v):=fun v=>hk.up (fun k hk=>hD o (hsub o (List.mem_cons_self ..)) k hk) v
  have hnext:∀v,qopsX P ops w r (up σ o.dst v) K→wpQuiet P ops.toArray (Ext w) Q r (a.put o.dst v):=fun v hh=>
   ih (fun o' ho'=>hsub o' (List.mem_cons_of_mem _ ho')) hdok hD _ _ (hput v) (hkeep v) hh hq
  refine wpQuiet_step fun K' hK'=>?_
  rw [wantedD hr]
  obtain ⟨v,hv,hh⟩:=hstep
  unfold gopS at hv
  simp only [a0t] at hv
  have plain:(∀w',Ext w w'→Oper.quietUpon P (Ext w) w' v ((execOp (ev σ) o).run P w'))→Oper.quiet P o a (Ext w) K':=fun hv=>
   ⟨v,fun w' hw'=>by unfold Oper.quietAt;rw [hr.eval];exact hv w' hw',hK' _ (hnext v hh)⟩
  cases hg:o.guard with
  | none=>
   simp only [hg] at hv
   simp only [if_true]
   exact plain hv
  | some g=>
   obtain ⟨j,want⟩:=g
   simp only [hg,gsem] at hv
   by_cases hw:(yldX ops σ j == some want)=true
   ·simp only [hw,cond_true] at hv
    simp only [hw,if_true]
    exact plain hv
   ·have hw':(yldX ops σ j == some want)=false:=by simpa using hw
    simp only [hw',cond_false] at hv
    simp only [hw',Bool.false_eq_true,if_false]
    have:=hv w (Ext.refl w)
    have hu:undef=v:=this.2
    rw [hu]
    exact hK' _ (hnext v hh)
def onlyN(Q:Exit→Act→World→Prop):Exit→Act→World→Prop
 | .normal,a,w=>Q .normal a w
 | _,_,_=>False
theorem c4m{ops:Array Oper}{Q:Exit→Act→World→Prop}{i:Nat}{K K':Act→World→Prop}{a:Act}{w:World}(hnd:∀o∈ops.toList,∀c,o.op≠.defer c)
  (h:wpOp P ops (onlyN Q) i K a w) (hk:∀a w,K a w→K' a w):wpOpIn (FW ro) 0 P ops Q i K' a w:=by
 unfold wpOp at h
 unfold wpOpIn
 cases ho:ops[i]? with
 | none=>simp only [ho] at h ⊢;exact hk _ _ h
 | some o=>
  have hmem:o∈ops.toList:=by
   obtain ⟨hi,he⟩:=Array.getElem?_eq_some_iff.1 ho
   rw [←he]
   exact Array.getElem_mem_toList hi
  simp only [ho] at h ⊢
  split
  ·rename_i hw
   simp only [hw,if_true] at h
   rcases h with h | ⟨_,a',w',h⟩
   ·refine ⟨fun _ _=>trivial,?_⟩
    rw [Oper.semAt_eq _ _ _ (hnd o hmem)]
    unfold Oper.wp at h
    generalize (execOp a.eval o).run P w=r at h ⊢
    cases r with
    | halt x w'=>cases x<;>simp only [Oper.upon,onlyN] at h ⊢
    | ok x w'=>
     cases x<;>simp only [Oper.upon,Oper.uponIn] at h ⊢
     case value v=>exact hk _ _ h
     case skip=>exact hk _ _ h
     case defer d=>exact hk _ _ h
     case enter f args=>
      refine ⟨(fun hd=>by cases hd),?_⟩
      have h':CallsIn Fence.wide 0 P f args w' _:=callsIn_wide.2 h
      refine CallsIn.mono (F:=FW ro) h' fun e w'' he=>?_
      cases e with
      | returned v=>exact hk _ _ he
      | panicked ch=>exact he.elim
      | outgrown=>obtain ⟨_,_,hx⟩:=he;exact hx.elim
     case row row args=>
      refine ⟨(fun hd=>by cases hd),?_⟩
      intro c cs _
      obtain ⟨v,w'',r,st⟩:=h c cs
      exact ⟨v,w'',hk _ _ r,(stepsIn_wide (P:=P)).2 st⟩
   ·exact h.elim
  ·rename_i hw
   simp only [hw] at h
   exact ⟨fun _ _=>trivial,hk _ _ h⟩
theorem b5e{md:Region.Mode}{ops:Array Oper}{Q:Exit→Act→World→Prop}(hnd:∀o∈ops.toList,∀c,o.op≠.defer c):∀(fuel:Nat)(listed:Array Bool)(a:Act)(w:World),
  wpAny P md ops (onlyN Q) fuel listed a w→wpAnyIn (FW ro) 0 P md ops Q fuel listed a w
 | 0,_,_,_,h=>h
 | fuel+1,_,_,_,h=>⟨h.1,fun i hi=>c4m hnd (h.2 i hi) fun a w h=>b5e hnd fuel _ a w h⟩
theorem b2s{C:World→Prop}{ops:Array Oper}{id:Nat}{Q:Exit→Act→World→Prop}{a:Act}{w:World}(hnd:∀o∈ops.toList,∀c,o.op≠.defer c)(hm:P.follows .mixedOrders=true)(hB:Region.lexB .any ops=true)
  (hC:C { w with drawn:=w.drawn+1 }) (h:wpQuiet P ops C (fun a'=>∀w',C w'→Q .normal a' w') ops.toList a):(Code.region id ops true).wpIn (FW ro) 0 P Q a w:=by
 simp only [Region.lexB,Bool.and_eq_true] at hB
 refine wpIn_region_any hm (b5e hnd _ _ _ _ (wpAny_of_quiet (Q':=onlyN Q) (Q:=fun a'=>∀w',C w'→Q .normal a' w') (fun _ w' hw' h=>h w' hw') _ _ _ _ hC ?_))
 have:=wpAnyQ_lex (C:=C) (md:=.any) hB.1 ops.toList 0 (Array.replicate ops.size false) a (by simp) (by simpa using hB.2) h
 simpa using this
theorem c0Y:∀(l:List Value)(k:Nat)(h:k < l.length),l[k]=nth l k
 | _::_,0,_=>rfl
 | _::l,k+1,h=>by
  simp only [List.getElem_cons_succ,nth]
  exact c0Y l k (by simpa using h)
theorem c4n(vs:List Value):∀(ps:List Tmp)(k:Nat)(σ:Fr)(t:Array Value),t.size=N→(∀i,t.getD i undef = σ i)→(∀p∈ps,p < N)→vs.length=k+ps.length→
  ((ps.zip (vs.drop k)).foldl (fun t (p,v)=>t.setIfInBounds p v) t).size=N∧∀i,((ps.zip (vs.drop k)).foldl (fun t (p,v)=>t.setIfInBounds p v) t).getD i undef=setps σ vs k ps i:=by
 intro ps
 induction ps with
 | nil=>intro k σ t h1 h2 _ _;exact ⟨h1,h2⟩
 | cons p ps ih=>
  intro k σ t h1 h2 h3 hl
  simp only [List.length_cons] at hl
  have hd:vs.drop k=nth vs k::vs.drop (k+1):=by
   rw [List.drop_eq_getElem_cons (by omega)]
   congr 1
   exact c0Y vs k (by omega)
  rw [hd]
  have hr:Rep N { tmps:=t,defers:=[] } σ:=⟨rfl,h1,h2⟩
  have:=hr.put (d:=some p) (fun k hk=>by cases hk;exact h3 p (List.mem_cons_self ..)) (nth vs k)
  exact ih (k+1) (up σ (some p) (nth vs k)) (t.setIfInBounds p (nth vs k)) this.2.1 this.2.2 (fun q hq=>h3 q (List.mem_cons_of_mem _ hq)) (by omega)
theorem c5Y(ps:Array Tmp)(vs:List Value)(t:Array Value):(ps.zip vs.toArray).foldl (fun t (p,v)=>t.setIfInBounds p v) t=(ps.toList.zip vs).foldl (fun t (p,v)=>t.setIfInBounds p v) t:=by
 rw [←Array.foldl_toList]
 congr 1
 simp
theorem c4o{D:Nat}{w:World}(h:w.heap[D]? = some (.deferred (some []))):(Instr.takeDeferred D).run P w=.ok [] (World.setObjAt w D (.deferred none)):=run_takeDeferred h
theorem c5Z{l:List Nat}(h:dokL N l=true):∀p∈l,p < N:=by
 induction l with
 | nil=>intro p hp;cases hp
 | cons d l ih=>
  simp only [dokL,Bool.and_eq_true] at h
  intro p hp
  rcases List.mem_cons.1 hp with rfl | hp
  ·exact Nat.le_of_ble_eq_true h.1
  ·exact ih h.2 p hp
theorem c4p(hm:P.follows .mixedOrders=true):∀(c:Code)(h:HintY)(ro:Option Nat)(ds:List Nat)(σ:Fr)(a:Act)(w:World)(Q:Exit→List Nat→Fr→World→Prop)(Q':Exit→Act→World→Prop),
  WPy P c h ds σ w Q→dokL N (dstsY c)=true→okY ro.isSome c=true→RepD N ds a σ→
  (∀e ds' σ' a' w',RepD N ds' a' σ'→Kept (dstsY c) σ σ'→Q e ds' σ' w'→Q' e a' w')→c.wpIn (FW ro) 0 P Q' a w:=by
 intro c
 induction c with
 | skip=>intro h ro ds σ a w Q Q' hx _ _ hr hq;exact wpIn_skip (hq _ _ _ _ _ hr (Kept.refl _ _) hx)
 | label l=>intro h ro ds σ a w Q Q' hx _ _ hr hq;exact hx.elim
 | exit id=>intro h ro ds σ a w Q Q' hx _ _ hr hq;exact wpIn_exit (hq _ _ _ _ _ hr (Kept.refl _ _) hx)
 | ret=>intro h ro ds σ a w Q Q' hx _ _ hr hq;exact wpIn_ret (hq _ _ _ _ _ hr (Kept.refl _ _) hx)
 | refuse s=>intro h ro ds σ a w Q Q' hx _ _ hr hq;exact hx.elim
 | goto l=>intro h ro ds σ a w Q Q' hx _ _ hr hq;exact hx.elim
 | scope c ih=>intro h ro ds σ a w Q Q' hx _ _ hr hq;exact hx.elim
 | region id ops draw=>
  intro h ro ds σ a w Q Q' hx hd hnd hr hq
  have hdo:dokO N ops.toList:=b2I hd
  have hD:∀o∈ops.toList,∀k,o.dst=some k→memb (dstsL ops.toList) k=true:=fun o ho k hk=>a6A ho hk
  have hnd0:=(Bool.and_eq_true _ _ ▸ hnd:_∧_)
  have hnd':∀o∈ops.toList,∀c,o.op≠.defer c:=fun o ho c e=>by
   have:=List.all_eq_true.1 hnd0.1 o ho
   rw [e] at this
   cases this
  cases draw with
  | true=>
   refine b2s (C:=Ext w) hnd' hm hnd0.2 (Ext.drew w) ?_
   have:=b9Y (P:=P) (N:=N) (ops:=ops.toList) (Q:=fun a'=>∀w',Ext w w'→Q' .normal a' w') (D:=dstsL ops.toList) (σ₀:=σ) ops.toList (fun _ h=>h) hdo hD σ a hr (Kept.refl _ _) hx
    (fun σ' a' hr' hk' hh w' hw'=>hq _ _ _ _ _ hr' hk' (hh w' hw'))
   simpa using this
  | false=>
   refine wpIn_region_list ?_
   have:=c2b (P:=P) (N:=N) (ro:=ro) (ops:=ops.toList) (Q:=Q') (D:=dstsL ops.toList) (σ₀:=σ) hnd' ops.toList (fun _ h=>h) hdo hD σ a w hr (Kept.refl _ _) hx
    (fun σ' a' w' hr' hk' hh=>hq _ _ _ _ _ hr' hk' hh)
   simpa using this
 | seq x y ihx ihy=>
  intro h ro ds σ a w Q Q' hx hd hnd hr hq
  simp only [dstsY,a2l,Bool.and_eq_true] at hd
  simp only [okY,Bool.and_eq_true] at hnd
  refine wpIn_seq ?_
  unfold WPy at hx
  split at hx
  ·rename_i hhx hhy
   refine ihx hhx ro ds σ a w _ _ hx hd.1 hnd.1 hr ?_
   intro e ds1 σ1 a1 w1 hr1 hk1 hh
   cases e with
   | normal=>exact ihy hhy ro ds1 σ1 a1 w1 _ _ hh hd.2 hnd.2 hr1 fun e' ds2 σ2 a2 w2 hr2 hk2 hh2=>hq _ _ _ _ _ hr2 (hk1.left.trans hk2.right) hh2
   | exit i=>exact hq _ _ _ _ _ hr1 hk1.left hh
   | goto l=>exact hq _ _ _ _ _ hr1 hk1.left hh
   | ret=>exact hq _ _ _ _ _ hr1 hk1.left hh
   | panic ch=>exact hq _ _ _ _ _ hr1 hk1.left hh
   | outgrown=>exact hq _ _ _ _ _ hr1 hk1.left hh
  ·exact hx.elim
 | cond c x y ihx ihy=>
  intro h ro ds σ a w Q Q' hx hd hnd hr hq
  simp only [dstsY,a2l,Bool.and_eq_true] at hd
  simp only [okY,Bool.and_eq_true] at hnd
  have go:∀hhx hhy,xcond (ev σ c) (WPy P x hhx ds σ w Q) (WPy P y hhy ds σ w Q)→(Code.cond c x y).wpIn (FW ro) 0 P Q' a w:=by
   intro hhx hhy hxc
   unfold xcond at hxc
   split at hxc
   ·rename_i hv
    exact wpIn_cond_true (by rw [hr.eval];exact hv) (ihx hhx ro ds σ a w _ _ hxc hd.1 hnd.1 hr fun e ds' σ' a' w' hr' hk' hh=>hq _ _ _ _ _ hr' hk'.left hh)
   ·rename_i hv
    exact wpIn_cond_false (by rw [hr.eval];exact hv) (ihy hhy ro ds σ a w _ _ hxc hd.2 hnd.2 hr fun e ds' σ' a' w' hr' hk' hh=>hq _ _ _ _ _ hr' hk'.right hh)
   ·exact hxc.elim
  unfold WPy at hx
  split at hx
  ·exact go _ _ hx
  ·exact go _ _ hx
 | block id c ih=>
  intro h ro ds σ a w Q Q' hx hd hnd hr hq
  unfold WPy at hx
  split at hx
  ·rename_i hc
   refine wpIn_block (ih hc ro ds σ a w _ _ hx hd hnd hr ?_)
   intro e ds' σ' a' w' hr' hk' hh
   cases e with
   | exit i=>
    simp only [inBlockY] at hh
    simp only [Exit.inBlock]
    by_cases hi:i=id
    ·subst hi
     simp only [Nat.beq_refl,cond_true] at hh
     simp only [if_true]
     exact hq _ _ _ _ _ hr' hk' hh
    ·have:Nat.beq i id=false:=by rw [Bool.eq_false_iff];intro hb;exact hi (Nat.eq_of_beq_eq_true hb)
     simp only [this,cond_false] at hh
     simp only [hi,if_false]
     exact hq _ _ _ _ _ hr' hk' hh
   | normal=>exact hq _ _ _ _ _ hr' hk' hh
   | goto l=>exact hq _ _ _ _ _ hr' hk' hh
   | ret=>exact hq _ _ _ _ _ hr' hk' hh
   | panic ch=>exact hq _ _ _ _ _ hr' hk' hh
   | outgrown=>exact hq _ _ _ _ _ hr' hk' hh
  ·exact hx.elim
 | loop c ih=>
  intro h ro ds σ a w Q Q' hx hd hnd hr hq
  unfold WPy at hx
  split at hx
  ·rename_i S hc
   obtain ⟨I,μ,h0,hround⟩:=hx
   refine wpIn_loop (fun a' w'=>∃σ',RepD N ds a' σ'∧Kept (dstsY c) σ σ'∧I (S.map σ') w') (fun a' w'=>μ (S.map fun i=>a'.tmps.getD i undef) w') ⟨σ,hr,Kept.refl _ _,h0⟩ ?_
   rintro a1 w1 ⟨σ1,hr1,hk1,hI1⟩
   have hb:=hround σ1 w1 hI1
   dsimp only at hb
   rw [a8Q hk1] at hb
   have hσ1:(fun i=>a1.tmps.getD i undef) = σ1:=funext hr1.2.2
   rw [hσ1]
   refine ih hc ro ds σ1 a1 w1 _ _ hb hd hnd hr1 ?_
   intro e ds2 σ2 a2 w2 hr2 hk2 hh
   cases e with
   | normal=>
    have hσ2:(fun i=>a2.tmps.getD i undef) = σ2:=funext hr2.2.2
    obtain ⟨hds,hh⟩:=hh
    subst hds
    refine ⟨⟨σ2,hr2,hk1.trans hk2,hh.1⟩,?_⟩
    rw [hσ2]
    exact hh.2
   | exit i=>exact hq _ _ _ _ _ hr2 (hk1.trans hk2) hh
   | goto l=>exact hq _ _ _ _ _ hr2 (hk1.trans hk2) hh
   | ret=>exact hq _ _ _ _ _ hr2 (hk1.trans hk2) hh
   | panic ch=>exact hq _ _ _ _ _ hr2 (hk1.trans hk2) hh
   | outgrown=>exact hq _ _ _ _ _ hr2 (hk1.trans hk2) hh
  ·exact hx.elim
 | rangeFunc g ps as bd iha ihb=>
  intro h ro ds σ a w Q Q' hx hd hnd hr hq
  simp only [dstsY,a2l,Bool.and_eq_true] at hd
  simp only [okY,Bool.and_eq_true,Bool.not_eq_true',Option.isSome_eq_false_iff,Option.isNone_iff_eq_none] at hnd
  obtain ⟨⟨hro,hna⟩,hnb⟩:=hnd
  subst hro
  unfold WPy at hx
  split at hx
  ·rename_i ha hb
   obtain ⟨gf,lb,hg,hcall,hx⟩:=hx
   refine wpIn_rangeFunc (F:=FW none) fun fn _=>?_
   have hci:=hx fun st pe=>{ state:=st,pending:=pe,fn:=fn,tmps:=a.tmps,params:=ps,assign:=as,body:=bd,defers:=w.heap.size }
   have hg':a.eval g=.func (.func gf) #[] lb:=by rw [hr.eval];exact hg
   refine ⟨w.heap.size+1,[markOf w.heap.size],((w.alloc (.deferred (some []))).alloc (.loop { state:=.ready,pending:=none,fn:=fn,tmps:=a.tmps,params:=ps,assign:=as,body:=bd,defers:=w.heap.size })),{ target:=.fn (.func gf) lb,args:=#[.func (.yield (w.heap.size+1)) #[] #[]] },((w.alloc (.deferred (some []))).alloc (.loop { state:=.ready,pending:=none,fn:=fn,tmps:=a.tmps,params:=ps,assign:=as,body:=bd,defers:=w.heap.size })),gf,#[.func (.yield (w.heap.size+1)) #[] #[]]++lb,((w.alloc (.deferred (some []))).alloc (.loop { state:=.ready,pending:=none,fn:=fn,tmps:=a.tmps,params:=ps,assign:=as,body:=bd,defers:=w.heap.size })),
    run_enterLoop_outer fn a.tmps ps as bd,?_,fun _ _=>trivial,?_,(fun hd=>by cases hd),?_⟩
   ·simp only [resolve,hg',Deferred.ofValue,Sem.run_pure,Array.empty_append]
    rw [show Array.map a.eval #[Operand.const (Value.func (.yield (w.heap.size+1)) #[] #[])]=#[Value.func (.yield (w.heap.size+1)) #[] #[]] from by simp [Act.eval]]
   ·simp only [invoke,hcall]
   ·refine CallsIn.mono (F:=FW none) (hci ?_) ?_
    ·intro args W K hlen hrec hR
     have hrun:(xCall (.func (.yield (w.heap.size+1)) #[] #[]) args).run P W=.ok (.round (w.heap.size+1) fn ((ps.toList.zip args).foldl (fun t (p,v)=>t.setIfInBounds p v) a.tmps) as bd) W:=by
      simp only [xCall,Deferred.ofValue,invoke,Sem.run_bind,Sem.run_pure,Result.andThen_ok,Array.empty_append]
      rw [run_yield hrec (by simpa using hlen),c5Y]
     unfold opY
     rw [hrun]
     show RoundIn Fence.wide 0 P _ _ _ _ _ _ _
     obtain ⟨hs1,hs2⟩:=c4n (N:=N) args ps.toList 0 σ a.tmps hr.2.1 hr.2.2 (c5Z hd.1) (by simpa using hlen)
     refine roundIn_of_wpIn (F:=Fence.wide) trivial ?_
     refine iha ha (some (w.heap.size+1)) [] (setps σ args 0 ps.toList) _ W _ _ hR hd.2.1 hna ⟨rfl,hs1,hs2⟩ ?_
     intro e ds1 σ1 a1 w1 hr1 _ hh1
     have hn:e=.normal∧ds1=[]:=by cases e<;>cases ds1<;>first | exact ⟨rfl,rfl⟩ | exact hh1.elim
     obtain ⟨rfl,rfl⟩:=hn
     obtain ⟨hb1,hb2⟩:=hh1
     refine ⟨_,run_beginRound hb1 rfl,?_⟩
     refine ihb hb (some (w.heap.size+1)) [] σ1 a1 _ _ _ hb2 hd.2.2 hnb hr1 ?_
     intro e2 ds2 σ2 a2 w2 hr2 _ hh
     cases ds2 with
     | cons _ _=>exact hh.elim
     | nil=>
      cases e2 with
      | normal=>exact ⟨_,_,run_endRound none hh.1,_,rfl,hh.2⟩
      | ret=>exact ⟨_,_,run_endRound (some .ret) hh.1,_,rfl,hh.2⟩
      | exit i=>exact ⟨_,_,run_endRound (some (.exit i)) hh.1,_,rfl,hh.2⟩
      | goto l=>exact hh.elim
      | panic ch=>exact hh.elim
      | outgrown=>exact hh.elim
    ·rintro e W ⟨⟨v,rfl⟩,hcase⟩
     have hrd:RepD N (w.heap.size::ds) { a with defers:=[markOf w.heap.size]++a.defers } σ:=⟨by simp [hr.1],hr.2.1,hr.2.2⟩
     rcases hcase with ⟨h1,h2⟩ | ⟨h1,h2⟩ | ⟨i,h1,h2⟩
     ·exact ⟨_,_,run_endLoop h1 (by intro hh;cases hh),hq _ _ _ _ _ hrd (Kept.refl _ _) h2⟩
     ·exact ⟨_,_,run_endLoop h1 (by intro hh;cases hh),wpIn_ret (hq _ _ _ _ _ hrd (Kept.refl _ _) h2)⟩
     ·exact ⟨_,_,run_endLoop h1 (by intro hh;cases hh),wpIn_exit (hq _ _ _ _ _ hrd (Kept.refl _ _) h2)⟩
  ·exact hx.elim
def closeM:List Nat→World→(World→Prop)→Prop
 | [],w,K=>K w
 | d::ds,w,K=>w.heap[d]? = some (.deferred (some []))∧closeM ds (World.setObjAt w d (.deferred none)) K
def bodyY(P:Program)(rs:List ResultVar)(R:Value→World→Prop):Exit→List Nat→Fr→World→Prop
 | .normal,ds,σ,w=>closeM ds w fun w'=>resX P σ rs w' fun vs=>R (retV vs) w'
 | .ret,ds,σ,w=>closeM ds w fun w'=>resX P σ rs w' fun vs=>R (retV vs) w'
 | _,_,_,_=>False
def callY(P:Program)(rs:List ResultVar)(c:Code)(h:HintY)(args:List Value)(w:World)(R:Value→World→Prop):Prop:=
 WPy P c h [] (a2I args) w (bodyY P rs R)
theorem b2t{fn:Func}{R:Value→World→Prop}{tmps:Array Value}{σ:Fr}(hs:tmps.size=N)(hσ:∀i,tmps.getD i undef = σ i):∀(ds:List Nat)(w:World),closeM ds w (fun w'=>resX P σ fn.results.toList w' fun vs=>R (retV vs) w')→
  LeavesInM Fence.wide 0 P fn tmps (fun e w'=>∃v,e=.returned v∧R v w') (ds.map markOf) .returning w:=by
 intro ds
 induction ds with
 | nil=>
  intro w h
  have:=a5g (N:=N) (P:=P) (fn:=fn) (R:=R) (e:=.ret) (σ:=σ) (a:={ tmps:=tmps,defers:=[] }) (w:=w) ⟨rfl,hs,hσ⟩ h
  exact this.2
 | cons d ds ih=>
  intro w h
  exact ⟨(by intro hh;cases hh),.inl ⟨d,_,rfl,c4o h.1,ih _ h.2⟩⟩
theorem b3K{f:FuncId}{fn:Func}{c:Code}{h:HintY}{args:List Value}{w:World}{R:Value→World→Prop}(hf:P.funcs[f]? = some fn)(hb:fn.body=some c)
  (hn:args.length≤fn.ntmps) (hd:dokL fn.ntmps (dstsY c)=true) (hl:okY false c=true) (hm:P.follows .mixedOrders=true) (hx:callY P fn.results.toList c h args w R):Cv P f args.toArray w R:=by
 refine (callsIn_wide (n:=0)).1 (callsIn_of_wp_marks hf hb trivial ?_)
 refine c4p (N:=fn.ntmps) hm c h none [] (a2I args) _ w _ _ hx hd hl ⟨rfl,by simp;omega,fun i=>?_⟩ (fun e ds' σ' a' w' hr' _ hh=>?_)
 ·rw [a7Y]
  simp only [Array.getD_eq_getD_getElem?,List.getD_eq_getElem?_getD]
  by_cases hi:i < args.length
  ·simp [Array.getElem?_append,hi]
  ·simp only [Array.getElem?_append,List.size_toArray,hi,if_false,Array.getElem?_replicate]
   rw [List.getElem?_eq_none (by omega)]
   split<;>rfl
 ·cases e with
  | normal=>
   show LeavesInM _ _ _ _ _ _ _ _ _
   rw [hr'.1]
   exact b2t hr'.2.1 hr'.2.2 ds' w' hh
  | ret=>
   show LeavesInM _ _ _ _ _ _ _ _ _
   rw [hr'.1]
   exact b2t hr'.2.1 hr'.2.2 ds' w' hh
  | exit i=>exact hh.elim
  | goto l=>exact hh.elim
  | panic ch=>exact hh.elim
  | outgrown=>exact hh.elim
end
end Go.Proofs.YtoflkliecagjcaaGreatDoor.Od
