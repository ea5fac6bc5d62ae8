/- Maps: a map as a list of pairs; making, writing, reading; frozen maps. No program in sight. -/
import Derived.MapKept
import Derived.Laws.Cover1
import Derived.Test.YtaokfhdinhimfaaGreatDooryLB
namespace Go.Proofs.YtaokfhdinhimfaaGreatDoor
open Go.RowKit Go.MapKept
section
variable {κ ν:Type} [DecidableEq κ]
def lk(k:κ):List (κ×ν)→Option ν
 | []=>none
 | p::r=>if k=p.1 then some p.2 else lk k r
def b0q(k:κ)(v:ν):List (κ×ν)→List (κ×ν)
 | []=>[(k,v)]
 | p::r=>if k=p.1 then (k,v)::r else p::b0q k v r
theorem b2N(k k':κ)(v:ν):∀l:List (κ×ν),lk k' (b0q k v l)=if k'=k then some v else lk k' l
 | []=>by simp [b0q,lk]
 | p::r=>by
  rw [b0q]
  by_cases h:k=p.1
  ·rw [if_pos h,lk,lk]
   by_cases h':k'=k
   ·rw [if_pos h',if_pos h']
   ·rw [if_neg h',if_neg h',if_neg (by rw [←h];exact h')]
  ·rw [if_neg h,lk,lk]
   by_cases h':k'=p.1
   ·rw [if_pos h',if_pos h',if_neg (by rw [h'];exact fun e=>h e.symm)]
   ·rw [if_neg h',if_neg h',b2N k k' v r]
def findP(k:κ):List (κ×ν)→Nat→Option (Nat×ν)
 | [],_=>none
 | p::r,i=>if k=p.1 then some (i,p.2) else findP k r (i+1)
theorem b9d(k:κ):∀(l:List (κ×ν))(i:Nat),(findP k l i).map (·.2)=lk k l
 | [],_=>rfl
 | p::r,i=>by
  rw [findP,lk]
  split
  ·rfl
  ·exact b9d k r (i+1)
end
structure KeyOk {κ:Type} [DecidableEq κ] (P:Program) (kt:TypeId) (kd:TypeDesc) (kv:κ→Value):Prop where
 hk:P.underlying kt=some kd
 key:∀a:κ,IsKey kd (kv a)
 inj:∀a b:κ,kv a=kv b→a=b
theorem keyS{P:Program}{kt:TypeId}(h:P.underlying kt=some .string):KeyOk P kt .string (fun s:ByteArray=>Value.string s):=⟨h,fun a=>trivial,fun a b e=>by cases e;rfl⟩
theorem keyI{P:Program}{kt:TypeId}(h:P.underlying kt=some (.int .i64)):KeyOk P kt (.int .i64) (fun n:Int=>Value.int .i64 n):=⟨h,fun a=>rfl,fun a b e=>by cases e;rfl⟩
def MapEs{κ ν:Type}(kv:κ→Value)(vv:ν→Value)(es:Array MapEntry)(l:List (κ×ν)):Prop:=es.toList.map (fun e=>(e.key,e.val))=l.map fun p=>(kv p.1,vv p.2)
def MapH{κ ν:Type}(H:Hp)(kv:κ→Value)(vv:ν→Value)(x:Option Nat)(l:List (κ×ν)):Prop:=∃g es clock,x=some g∧H g=some (.map es clock)∧MapEs kv vv es l
theorem MapH.le{κ ν:Type}{H H':Hp}{kv:κ→Value}{vv:ν→Value}{x:Option Nat}{l:List (κ×ν)}(h:MapH H kv vv x l)(e:Hle H H'):MapH H' kv vv x l:=by
 obtain ⟨g,es,c,h1,h2,h3⟩:=h
 exact ⟨g,es,c,h1,e _ _ h2,h3⟩
theorem MapEs.nil{κ ν:Type}(kv:κ→Value)(vv:ν→Value):MapEs kv vv #[] ([]:List (κ×ν)):=rfl
section
variable {κ ν:Type} [DecidableEq κ] {P:Program} {kt:TypeId} {kd:TypeDesc} {kv:κ→Value} {vv:ν→Value}
theorem b3l(ko:KeyOk P kt kd kv)(k:κ):∀(es:List MapEntry)(l:List (κ×ν))(i:Nat),es.map (fun e=>(e.key,e.val))=l.map (fun p=>(kv p.1,vv p.2))→Instr.findNow kd (kv k) es i=some ((findP k l i).map fun q=>(q.1,vv q.2))
 | [],[],_,_=>rfl
 | [],_::_,_,h=>by simp at h
 | _::_,[],_,h=>by simp at h
 | e::es,p::l,i,h=>by
  simp only [List.map_cons,List.cons.injEq,Prod.mk.injEq] at h
  obtain ⟨⟨h1,h2⟩,h3⟩:=h
  obtain ⟨r,hr,hi⟩:=Go.MapKept.sameNow_of_keys (ko.key k) (ko.key p.1)
  rw [Instr.findNow,findP,h1,hr]
  by_cases hq:k=p.1
  ·rw [if_pos hq,hi.2 (by rw [hq])]
   simp [h2]
  ·rw [if_neg hq]
   have:r=false:=by
    cases hb:r
    ·rfl
    ·exact (hq (ko.inj _ _ (hi.1 hb))).elim
   rw [this]
   exact b3l ko k es l (i+1) h3
theorem b3m(ko:KeyOk P kt kd kv){mt et:TypeId}(hm:P.underlying mt=some (.map kt et)){z:ν}(hz:∀w,(zeroValue et).run P w=.ok (vv z) w)(k:κ){es:Array MapEntry}{clock r:Nat}{l:List (κ×ν)}(he:MapEs kv vv es l){w:World}(hb:w.heap[r]? = some (.map es clock)):
  (Instr.lookup mt (.map (some r)) (kv k) false).run P w=.ok (vv ((lk k l).getD z)) w:=by
 have h1:=b3l ko k es.toList l 0 he
 rw [←b9d k l 0]
 cases hq:findP k l 0 with
 | none=>
  rw [hq] at h1
  simp [Instr.lookup,run_underlying hm,Go.MapKept.run_getObj_map hb,Go.MapKept.run_checkKey ko.hk (ko.key k),Go.MapKept.run_findKey ko.hk h1,hz,Result.andThen]
 | some q=>
  rw [hq] at h1
  simp [Instr.lookup,run_underlying hm,Go.MapKept.run_getObj_map hb,Go.MapKept.run_checkKey ko.hk (ko.key k),Go.MapKept.run_findKey ko.hk h1,Result.andThen]
theorem b9e(k:κ)(v:ν):∀(es:List MapEntry)(l:List (κ×ν))(i j:Nat)(x:ν),es.map (fun e=>(e.key,e.val))=l.map (fun p=>(kv p.1,vv p.2))→findP k l i=some (j,x)→
  i≤j∧(es.modify (j-i) fun e=>{ e with key:=kv k,val:=vv v }).map (fun e=>(e.key,e.val))=(b0q k v l).map (fun p=>(kv p.1,vv p.2))∧∃e,es[j-i]? = some e∧e.key=kv k
 | [],[],_,_,_,_,h=>by simp [findP] at h
 | [],_::_,_,_,_,h,_=>by simp at h
 | _::_,[],_,_,_,h,_=>by simp at h
 | e::es,p::l,i,j,x,h,hf=>by
  simp only [List.map_cons,List.cons.injEq,Prod.mk.injEq] at h
  obtain ⟨⟨h1,h2⟩,h3⟩:=h
  rw [findP] at hf
  rw [b0q]
  by_cases hq:k=p.1
  ·rw [if_pos hq] at hf ⊢
   simp only [Option.some.injEq,Prod.mk.injEq] at hf
   obtain ⟨rfl,rfl⟩:=hf
   rw [Nat.sub_self]
   refine ⟨Nat.le_refl _,?_,e,rfl,by rw [h1,hq]⟩
   simp [List.modify,List.modifyHead,h3]
  ·rw [if_neg hq] at hf ⊢
   obtain ⟨g1,g2,g3⟩:=b9e k v es l (i+1) j x h3 hf
   have e1:j-i=(j-(i+1))+1:=by omega
   refine ⟨by omega,?_,?_⟩
   ·rw [e1]
    simp only [List.modify_succ_cons,List.map_cons,h1,h2]
    rw [g2]
   ·rw [e1];exact g3
theorem b8e(k:κ)(v:ν):∀(l:List (κ×ν))(i:Nat),findP k l i=none→b0q k v l=l++[(k,v)]
 | [],_,_=>rfl
 | p::l,i,h=>by
  rw [findP] at h
  rw [b0q]
  by_cases hq:k=p.1
  ·rw [if_pos hq] at h;cases h
  ·rw [if_neg hq] at h ⊢
   rw [b8e k v l (i+1) h];rfl
theorem b8v(ko:KeyOk P kt kd kv){mt et:TypeId}(hm:P.underlying mt=some (.map kt et))(k:κ)(v:ν){es:Array MapEntry}{clock r:Nat}{l:List (κ×ν)}(he:MapEs kv vv es l){w:World}(hb:w.heap[r]? = some (.map es clock)):
  ∃es' clock',(Instr.mapUpdate mt (.map (some r)) (kv k) (vv v)).run P w=.ok () (setObjAt w r (.map es' clock'))∧MapEs kv vv es' (b0q k v l):=by
 have h1:=b3l ko k es.toList l 0 he
 cases hq:findP k l 0 with
 | none=>
  rw [hq] at h1
  refine ⟨es.push { key:=kv k,val:=vv v,born:=clock },clock+1,?_,?_⟩
  ·simp [Instr.mapUpdate,run_underlying hm,Go.MapKept.run_getObj_map hb,Go.MapKept.run_checkKey ko.hk (ko.key k),Go.MapKept.run_findKey ko.hk h1,Go.MapKept.run_setObj_map _ hb,Result.andThen,setObjAt]
  ·unfold MapEs at he ⊢
   rw [b8e k v l 0 hq]
   simp [he]
 | some q=>
  obtain ⟨j,x⟩:=q
  rw [hq] at h1
  obtain ⟨_,g2,e,g3,g4⟩:=b9e k v es.toList l 0 j x he hq
  rw [Nat.sub_zero] at g2 g3
  have hj:es[j]? = some e:=by simpa using g3
  refine ⟨es.modify j fun e=>{ e with key:=kv k,val:=vv v },clock,?_,?_⟩
  ·simp [Instr.mapUpdate,run_underlying hm,Go.MapKept.run_getObj_map hb,Go.MapKept.run_checkKey ko.hk (ko.key k),Go.MapKept.run_findKey ko.hk h1,hj,g4,Go.MapKept.run_keyThatStays (ko.key k),Go.MapKept.run_setObj_map _ hb,Result.andThen,setObjAt]
  ·unfold MapEs
   rw [Array.toList_modify];exact g2
end
section
variable {κ ν:Type} [DecidableEq κ] {P:Program} {E:Pan} {w0 w:World} {ps:Nat→Prop} {H0 H:Hp} {Fs:List Frag} {F:Frag} {K:Value→World→Prop} {kt:TypeId} {kd:TypeDesc} {kv:κ→Value} {vv:ν→Value}
theorem b4L{t:TypeId}(I:Inv w0 ps H0 H Fs w)(h:∀(g:Nat)(w':World),Inv w0 ps H0 H ([(g,.map #[] 0)]::Fs) w'→(∀k,k < w.heap.size→w'.heap[k]? = w.heap[k]?)→K (.map (some g)) w'):opK P E (xV (Instr.makeMap t none)) w K:=
 a3J (w':=w.alloc (.map #[] 0)) (v:=.map (some w.heap.size)) rfl (h _ _ (I.alloc _) fun k hk=>Below.heap_alloc w _ k hk)
theorem b1f(ko:KeyOk P kt kd kv){mt et:TypeId}(hm:P.underlying mt=some (.map kt et)){g clock:Nat}{es:Array MapEntry}{l:List (κ×ν)}(I:Inv w0 ps H0 H (((g,.map es clock)::F)::Fs) w)(he:MapEs kv vv es l)(k:κ)(v:ν)
  (h:∀(es':Array MapEntry)(clock':Nat)(w':World),MapEs kv vv es' (b0q k v l)→Inv w0 ps H0 H (((g,.map es' clock')::F)::Fs) w'→(∀i,i≠g→w'.heap[i]? = w.heap[i]?)→K undef w'):opK P E (xU (Instr.mapUpdate mt (.map (some g)) (kv k) (vv v))) w K:=by
 obtain ⟨es',clock',h1,h2⟩:=b8v ko hm k v he I.hp1
 exact c1j h1 (h es' clock' _ h2 I.setObj fun i hi=>b4m hi)
theorem b6G(ko:KeyOk P kt kd kv){mt et:TypeId}(hm:P.underlying mt=some (.map kt et)){z:ν}(hz:∀w,(zeroValue et).run P w=.ok (vv z) w){g clock:Nat}{es:Array MapEntry}{l:List (κ×ν)}(I:Inv w0 ps H0 H (((g,.map es clock)::F)::Fs) w)(he:MapEs kv vv es l)(k:κ)
  (h:K (vv ((lk k l).getD z)) w):opK P E (xV (Instr.lookup mt (.map (some g)) (kv k) false)) w K:=
 a3J (b3m ko hm hz k he I.hp1) h
theorem c5E(ko:KeyOk P kt kd kv){mt et:TypeId}(hm:P.underlying mt=some (.map kt et)){z:ν}(hz:∀w,(zeroValue et).run P w=.ok (vv z) w){x:Option Nat}{l:List (κ×ν)}(I:Inv w0 ps H0 H Fs w)(hM:MapH H kv vv x l)(k:κ)
  (h:K (vv ((lk k l).getD z)) w):opK P E (xV (Instr.lookup mt (.map x) (kv k) false)) w K:=by
 obtain ⟨g,es,c,rfl,h2,h3⟩:=hM
 exact a3J (b3m ko hm hz k h3 (I.sub g _ h2)) h
end
section
variable {κ ν:Type} [DecidableEq κ] {P:Program} {w0 w:World} {ps:Nat→Prop} {H0 H:Hp} {Fs:List Frag} {kt:TypeId} {kd:TypeDesc} {kv:κ→Value} {vv:ν→Value}
theorem b3n{K:Value→Prop}(ko:KeyOk P kt kd kv){mt et:TypeId}(hm:P.underlying mt=some (.map kt et)){z:ν}(hz:∀w,(zeroValue et).run P w=.ok (vv z) w){x:Option Nat}{l:List (κ×ν)}(I:Inv w0 ps H0 H Fs w)(hM:MapH H kv vv x l)(k:κ)
  (h:K (vv ((lk k l).getD z))):qL P w (blk (.map x)) (xV (Instr.lookup mt (.map x) (kv k) false)) K:=by
 obtain ⟨g,es,c,rfl,h2,h3⟩:=hM
 refine ⟨_,fun w' hs=>?_,h⟩
 have hs':w'.heap[g]? = w.heap[g]?:=hs
 have:=b3m ko hm hz k h3 (w:=w') (r:=g) (hs'.trans (I.sub g _ h2))
 unfold xV
 rw [Sem.run_bind,this];rfl
end
theorem c1p{P:Program}(ty:TypeId)(ts:Array TypeId)(ks:List Bool)(a b c:Int):Pu P (xBuiltin .max ts ty ks [.int .i64 a,.int .i64 b,.int .i64 c]) (.int .i64 (if c > (if b > a then b else a) then c else (if b > a then b else a))):=by
 have:xBuiltin .max ts ty ks [.int .i64 a,.int .i64 b,.int .i64 c]=xV (Builtin.max_ ts ty #[.int .i64 a,.int .i64 b,.int .i64 c]):=rfl
 rw [this]
 exact Pu.ok fun w=>run_max_int3 (P:=P) (w:=w) ts ty .i64 .i64 .i64 a b c
end Go.Proofs.YtaokfhdinhimfaaGreatDoor
