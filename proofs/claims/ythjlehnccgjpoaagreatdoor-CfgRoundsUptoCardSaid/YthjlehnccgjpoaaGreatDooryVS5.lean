/- Lemmas. -/
import Derived.MapKept
import Derived.Laws.Cover1
import Derived.Test.YthjlehnccgjpoaaGreatDooryVB
namespace Go.Proofs.YthjlehnccgjpoaaGreatDoor
open Go.RowKit Go.MapKept
section
variable {κ ν:Type} [DecidableEq κ]
def lk(k:κ):List (κ×ν)->Option ν
 | []=>none
 | p::r=>if k=p.1 then some p.2 else lk k r
def b3I(k:κ)(v:ν):List (κ×ν)->List (κ×ν)
 | []=>[(k,v)]
 | p::r=>if k=p.1 then (k,v)::r else p::b3I k v r
theorem b6O(k k':κ)(v:ν):∀l:List (κ×ν),lk k' (b3I k v l)=if k'=k then some v else lk k' l
 | []=>by simp [b3I,lk]
 | p::r=>by
  rw [b3I]
  by_cases h:k=p.1
  ·rw [if_pos h,lk,lk]
   by_cases h':k'=k
   ·rw [if_pos h',if_pos h']
   ·rw [if_neg h',if_neg h',if_neg (by rw [←h];exact h')]
  ·rw [if_neg h,lk,lk]
   by_cases h':k'=p.1
   ·rw [if_pos h',if_pos h',if_neg (by rw [h'];exact λe=>h e.symm)]
   ·rw [if_neg h',if_neg h',b6O k k' v r]
def findP(k:κ):List (κ×ν)->Nat->Option (Nat×ν)
 | [],_=>none
 | p::r,i=>if k=p.1 then some (i,p.2) else findP k r (i+1)
theorem c5Z(k:κ):∀(l:List (κ×ν))(i:Nat),(findP k l i).map (·.2)=lk k l
 | [],_=>rfl
 | p::r,i=>by
  rw [findP,lk]
  split
  ·rfl
  ·exact c5Z k r (i+1)
end
structure KeyOk {κ:Type} [DecidableEq κ] (P:Program) (kt:TypeId) (kd:TypeDesc) (kv:κ->Value):Prop where
 hk:P.underlying kt=some kd
 key:∀a:κ,IsKey kd (kv a)
 inj:∀a b:κ,kv a=kv b->a=b
theorem keyS{P:Program}{kt:TypeId}(h:P.underlying kt=some .string):KeyOk P kt .string (λs:BA=>Value.string s):=⟨h,λa=>trivial,λa b e=>by cases e;rfl⟩
theorem keyI{P:Program}{kt:TypeId}(h:P.underlying kt=some (.int .i64)):KeyOk P kt (.int .i64) (λn:Int=>Value.int .i64 n):=⟨h,λa=>rfl,λa b e=>by cases e;rfl⟩
def MapEs{κ ν:Type}(kv:κ->Value)(vv:ν->Value)(es:Array MapEntry)(l:List (κ×ν)):Prop:=es.toList.map (λe=>(e.key,e.val))=l.map λp=>(kv p.1,vv p.2)
def MapH{κ ν:Type}(H:Hp)(kv:κ->Value)(vv:ν->Value)(x:Option Nat)(l:List (κ×ν)):Prop:=∃g es clock,x=some g/\H g=some (.map es clock)/\MapEs kv vv es l
theorem MapH.le{κ ν:Type}{H H':Hp}{kv:κ->Value}{vv:ν->Value}{x:Option Nat}{l:List (κ×ν)}(h:MapH H kv vv x l)(e:Hle H H'):MapH H' kv vv x l:=by
 obtain ⟨g,es,c,h1,h2,h3⟩:=h
 exact ⟨g,es,c,h1,e _ _ h2,h3⟩
theorem MapEs.nil{κ ν:Type}(kv:κ->Value)(vv:ν->Value):MapEs kv vv #[] ([]:List (κ×ν)):=rfl
section
variable {κ ν:Type} [DecidableEq κ] {P:Program} {kt:TypeId} {kd:TypeDesc} {kv:κ->Value} {vv:ν->Value}
theorem b7G(ko:KeyOk P kt kd kv)(k:κ):∀(es:List MapEntry)(l:List (κ×ν))(i:Nat),es.map (λe=>(e.key,e.val))=l.map (λp=>(kv p.1,vv p.2))->Instr.findNow kd (kv k) es i=some ((findP k l i).map λq=>(q.1,vv q.2))
 | [],[],_,_=>rfl
 | [],_::_,_,h=>by simp at h
 | _::_,[],_,h=>by simp at h
 | e::es,p::l,i,h=>by
  simp only [List.map_cons,List.cons.injEq,Prod.mk.injEq] at h
  obtain ⟨⟨h1,h2⟩,h3⟩:=h
  obtain ⟨r,hr,hi⟩:=Go.MapKept.sameNow_of_keys (ko.key k) (ko.key p.1)
  rw [Instr.findNow,findP,h1,hr]
  by_cases hq:k=p.1
  ·rw [if_pos hq,hi.2 (by rw [hq])]
   simp [h2]
  ·rw [if_neg hq]
   have:r=false:=by
    cases hb:r
    ·rfl
    ·exact (hq (ko.inj _ _ (hi.1 hb))).elim
   rw [this]
   exact b7G ko k es l (i+1) h3
theorem b7H(ko:KeyOk P kt kd kv){mt et:TypeId}(hm:P.underlying mt=some (.map kt et)){z:ν}(hz:∀w,(zeroValue et).run P w=.ok (vv z) w)(k:κ){es:Array MapEntry}{clock r:Nat}{l:List (κ×ν)}(he:MapEs kv vv es l){w:World}(hb:w.heap[r]? = some (.map es clock)):
  (Instr.lookup mt (.map (some r)) (kv k) false).run P w=.ok (vv ((lk k l).getD z)) w:=by
 have h1:=b7G ko k es.toList l 0 he
 rw [←c5Z k l 0]
 cases hq:findP k l 0 with
 | none=>
  rw [hq] at h1
  simp [Instr.lookup,run_underlying hm,Go.MapKept.run_getObj_map hb,Go.MapKept.run_checkKey ko.hk (ko.key k),Go.MapKept.run_findKey ko.hk h1,hz,Result.andThen]
 | some q=>
  rw [hq] at h1
  simp [Instr.lookup,run_underlying hm,Go.MapKept.run_getObj_map hb,Go.MapKept.run_checkKey ko.hk (ko.key k),Go.MapKept.run_findKey ko.hk h1,Result.andThen]
theorem c6a(k:κ)(v:ν):∀(es:List MapEntry)(l:List (κ×ν))(i j:Nat)(x:ν),es.map (λe=>(e.key,e.val))=l.map (λp=>(kv p.1,vv p.2))->findP k l i=some (j,x)->
  i<=j/\(es.modify (j-i) λe=>{ e with key:=kv k,val:=vv v }).map (λe=>(e.key,e.val))=(b3I k v l).map (λp=>(kv p.1,vv p.2))/\∃e,es[j-i]? = some e/\e.key=kv k
 | [],[],_,_,_,_,h=>by simp [findP] at h
 | [],_::_,_,_,_,h,_=>by simp at h
 | _::_,[],_,_,_,h,_=>by simp at h
 | e::es,p::l,i,j,x,h,hf=>by
  simp only [List.map_cons,List.cons.injEq,Prod.mk.injEq] at h
  obtain ⟨⟨h1,h2⟩,h3⟩:=h
  rw [findP] at hf
  rw [b3I]
  by_cases hq:k=p.1
  ·rw [if_pos hq] at hf ⊢
   simp only [Option.some.injEq,Prod.mk.injEq] at hf
   obtain ⟨rfl,rfl⟩:=hf
   rw [Nat.sub_self]
   refine ⟨Nat.le_refl _,?_,e,rfl,by rw [h1,hq]⟩
   simp [List.modify,List.modifyHead,h3]
  ·rw [if_neg hq] at hf ⊢
   obtain ⟨g1,g2,g3⟩:=c6a k v es l (i+1) j x h3 hf
   have e1:j-i=(j-(i+1))+1:=by omega
   refine ⟨by omega,?_,?_⟩
   ·rw [e1]
    simp only [List.modify_succ_cons,List.map_cons,h1,h2]
    rw [g2]
   ·rw [e1];exact g3
theorem c4H(k:κ)(v:ν):∀(l:List (κ×ν))(i:Nat),findP k l i=none->b3I k v l=l++[(k,v)]
 | [],_,_=>rfl
 | p::l,i,h=>by
  rw [findP] at h
  rw [b3I]
  by_cases hq:k=p.1
  ·rw [if_pos hq] at h;cases h
  ·rw [if_neg hq] at h ⊢
   rw [c4H k v l (i+1) h];rfl
theorem c5k(ko:KeyOk P kt kd kv){mt et:TypeId}(hm:P.underlying mt=some (.map kt et))(k:κ)(v:ν){es:Array MapEntry}{clock r:Nat}{l:List (κ×ν)}(he:MapEs kv vv es l){w:World}(hb:w.heap[r]? = some (.map es clock)):
  ∃es' clock',(Instr.mapUpdate mt (.map (some r)) (kv k) (vv v)).run P w=.ok () (setObjAt w r (.map es' clock'))/\MapEs kv vv es' (b3I k v l):=by
 have h1:=b7G ko k es.toList l 0 he
 cases hq:findP k l 0 with
 | none=>
  rw [hq] at h1
  refine ⟨es.push { key:=kv k,val:=vv v,born:=clock },clock+1,?_,?_⟩
  ·simp [Instr.mapUpdate,run_underlying hm,Go.MapKept.run_getObj_map hb,Go.MapKept.run_checkKey ko.hk (ko.key k),Go.MapKept.run_findKey ko.hk h1,Go.MapKept.run_setObj_map _ hb,Result.andThen,setObjAt]
  ·unfold MapEs at he ⊢
   rw [c4H k v l 0 hq]
   simp [he]
 | some q=>
  obtain ⟨j,x⟩:=q
  rw [hq] at h1
  obtain ⟨_,g2,e,g3,g4⟩:=c6a k v es.toList l 0 j x he hq
  rw [Nat.sub_zero] at g2 g3
  have hj:es[j]? = some e:=by simpa using g3
  refine ⟨es.modify j λe=>{ e with key:=kv k,val:=vv v },clock,?_,?_⟩
  ·simp [Instr.mapUpdate,run_underlying hm,Go.MapKept.run_getObj_map hb,Go.MapKept.run_checkKey ko.hk (ko.key k),Go.MapKept.run_findKey ko.hk h1,hj,g4,Go.MapKept.run_keyThatStays (ko.key k),Go.MapKept.run_setObj_map _ hb,Result.andThen,setObjAt]
  ·unfold MapEs
   rw [Array.toList_modify];exact g2
end
section
variable {κ ν:Type} [DecidableEq κ] {P:Program} {E:Pan} {w0 w:World} {ps:Nat->Prop} {H0 H:Hp} {Fs:List Frag} {F:Frag} {K:Value->World->Prop} {kt:TypeId} {kd:TypeDesc} {kv:κ->Value} {vv:ν->Value}
theorem c0h{t:TypeId}(I:Inv w0 ps H0 H Fs w)(h:∀(g:Nat)(w':World),Inv w0 ps H0 H ([(g,.map #[] 0)]::Fs) w'->(∀k,k < w.heap.size->w'.heap[k]? = w.heap[k]?)->K (.map (some g)) w'):opK P E (xV (Instr.makeMap t none)) w K:=
 U7 (w':=w.alloc (.map #[] 0)) (v:=.map (some w.heap.size)) rfl (h _ _ (I.alloc _) λk hk=>Below.heap_alloc w _ k hk)
theorem b4V(ko:KeyOk P kt kd kv){mt et:TypeId}(hm:P.underlying mt=some (.map kt et)){g clock:Nat}{es:Array MapEntry}{l:List (κ×ν)}(I:Inv w0 ps H0 H (((g,.map es clock)::F)::Fs) w)(he:MapEs kv vv es l)(k:κ)(v:ν)
  (h:∀(es':Array MapEntry)(clock':Nat)(w':World),MapEs kv vv es' (b3I k v l)->Inv w0 ps H0 H (((g,.map es' clock')::F)::Fs) w'->(∀i,i≠g->w'.heap[i]? = w.heap[i]?)->K undef w'):opK P E (xU (Instr.mapUpdate mt (.map (some g)) (kv k) (vv v))) w K:=by
 obtain ⟨es',clock',h1,h2⟩:=c5k ko hm k v he I.hp1
 exact c8G h1 (h es' clock' _ h2 I.setObj λi hi=>b9l hi)
theorem c3H(ko:KeyOk P kt kd kv){mt et:TypeId}(hm:P.underlying mt=some (.map kt et)){z:ν}(hz:∀w,(zeroValue et).run P w=.ok (vv z) w){g clock:Nat}{es:Array MapEntry}{l:List (κ×ν)}(I:Inv w0 ps H0 H (((g,.map es clock)::F)::Fs) w)(he:MapEs kv vv es l)(k:κ)
  (h:K (vv ((lk k l).getD z)) w):opK P E (xV (Instr.lookup mt (.map (some g)) (kv k) false)) w K:=
 U7 (b7H ko hm hz k he I.hp1) h
theorem d5k(ko:KeyOk P kt kd kv){mt et:TypeId}(hm:P.underlying mt=some (.map kt et)){z:ν}(hz:∀w,(zeroValue et).run P w=.ok (vv z) w){x:Option Nat}{l:List (κ×ν)}(I:Inv w0 ps H0 H Fs w)(hM:MapH H kv vv x l)(k:κ)
  (h:K (vv ((lk k l).getD z)) w):opK P E (xV (Instr.lookup mt (.map x) (kv k) false)) w K:=by
 obtain ⟨g,es,c,rfl,h2,h3⟩:=hM
 exact U7 (b7H ko hm hz k h3 (I.sub g _ h2)) h
end
section
variable {κ ν:Type} [DecidableEq κ] {P:Program} {w0 w:World} {ps:Nat->Prop} {H0 H:Hp} {Fs:List Frag} {kt:TypeId} {kd:TypeDesc} {kv:κ->Value} {vv:ν->Value}
theorem b7I{K:Value->Prop}(ko:KeyOk P kt kd kv){mt et:TypeId}(hm:P.underlying mt=some (.map kt et)){z:ν}(hz:∀w,(zeroValue et).run P w=.ok (vv z) w){x:Option Nat}{l:List (κ×ν)}(I:Inv w0 ps H0 H Fs w)(hM:MapH H kv vv x l)(k:κ)
  (h:K (vv ((lk k l).getD z))):qL P w (blk (.map x)) (xV (Instr.lookup mt (.map x) (kv k) false)) K:=by
 obtain ⟨g,es,c,rfl,h2,h3⟩:=hM
 refine ⟨_,λw' hs=>?_,h⟩
 have hs':w'.heap[g]? = w.heap[g]?:=hs
 have:=b7H ko hm hz k h3 (w:=w') (r:=g) (hs'.trans (I.sub g _ h2))
 unfold xV
 rw [Sem.run_bind,this];rfl
end
theorem d7a{α:Type}{c:α->List Value}{e:TypeId}{sz:Nat}{s:Sl}{xs:List α}{F:Frag}{q:Prop}{i:Int}{x:α}(hr:RowL e sz c s xs F)(h:q->(0:Int)<=i/\xs[i.toNat]? = some x):∃g,q->(0:Int)<=i/\xs[i.toNat]? = some x/\s.a=some ⟨g,0,none⟩:=by
 by_cases hq:q
 ·obtain ⟨g,arr,ha,_⟩:=hr.addr (h hq).2
  exact ⟨g,λ_=>⟨(h hq).1,(h hq).2,ha⟩⟩
 ·exact ⟨0,λz=>(hq z).elim⟩
end Go.Proofs.YthjlehnccgjpoaaGreatDoor
