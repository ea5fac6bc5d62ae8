/- More operations: shifts by any number, slices held against nil, numbers of an array in a box, a string's bytes appended, an empty slice with room. No program in sight. -/
import Derived.Lib.SliceRun
import Derived.Lib.AppendStr
import Derived.Lib.AppendZeros
import Derived.Laws.Append
import Derived.Test.YtoflkliecagjcaaGreatDooryBS3
namespace Go.Proofs.YtoflkliecagjcaaGreatDoor
open Go.RowKit
section
variable {P:Program}
def sbytes(s:ByteArray):List Int:=s.data.toList.map fun b=>(b.toNat:Int)
theorem a8S(s:ByteArray):(sbytes s).length=s.size:=by rw [sbytes,List.length_map,Array.length_toList];rfl
theorem b7X(s:ByteArray){c:Int→List Value}(hc:∀x,c x=[.int .u8 x]):(sbytes s).flatMap c=Lib.strCells s:=by
 unfold sbytes Lib.strCells
 induction s.data.toList with
 | nil=>rfl
 | cons b l ih=>rw [List.map_cons,List.flatMap_cons,hc,List.map_cons,ih];rfl
section
variable {E:Pan}{w0 w:World}{ps:Nat→Prop}{H0 H:Hp}{Fs:List Frag}{F:Frag}{K:Value→World→Prop}
theorem c7R{t u ty e:TypeId}{i:TypeInfo}{bytes:Nat}{c:Int→List Value}(hcc:∀x,c x=[.int .u8 x])(ht:P.underlying t=some (.slice e))(hu:P.underlying u=some .string)(hi:P.info? e=some i)(hz:i.zero=some (.int .u8 0))(hsize:i.size=1)(hby:i.bytes=bytes)
  {s:Sl} {xs:List Int} (I:Inv w0 ps H0 H (F::Fs) w) (hr:RowL e 1 c s xs F) (b:ByteArray) (hb0:b.size≠0) (hb:(xs.length+b.size)*(bytes+1)≤140737488355328):
  ∃(s':Sl)(F':Frag)(w':World),(Builtin.append_ #[t,u] ty #[.slice s.a s.n s.c,.string b]).run P w=.ok (.slice s'.a s'.n s'.c) w'∧RowL e 1 c s' (xs++sbytes b) F'∧Inv w0 ps H0 H (F'::Fs) w'∧∀k,k < w.heap.size→(∀p∈F,p.1≠k)→w'.heap[k]? = w.heap[k]?:=by
 subst hby
 obtain ⟨hR,hn,hc,h1⟩:=hr
 have hyl:0 < b.size:=by omega
 have e1:=a1L hc xs
 have e2:=b7X b hcc
 have e3:=Lib.strCells_length b
 have hmax:xs.length+b.size≤140737488355328:=Nat.le_trans (Nat.le_mul_of_pos_right _ (Nat.succ_pos _)) hb
 have hb':(xs.length+b.size)*i.bytes≤140737488355328:=Nat.le_trans (Nat.mul_le_mul_left _ (Nat.le_succ _)) hb
 have hml:xs.length+b.size≤maxLen:=by simp only [maxLen];omega
 have flat:(xs++sbytes b).flatMap c=xs.flatMap c++Lib.strCells b:=by rw [List.flatMap_append,e2]
 have flen:((xs++sbytes b).flatMap c).length=(xs.length+b.size)*1:=by rw [a1L hc,List.length_append,a8S]
 rw [Nat.mul_one] at e1
 have fresh:∀old,old < xs.length+b.size→RowL e 1 c ⟨some ⟨w.heap.size,0,none⟩,xs.length+b.size,grownCap w (xs.length+b.size) old e⟩ (xs++sbytes b)
   [(w.heap.size,.cells ((xs.flatMap c).toArray++(Lib.strCells b).toArray++Builtin.zeroCells (Value.int .u8 0).cells (grownCap w (xs.length+b.size) old e-(xs.length+b.size))) e (0,0))]:=by
  intro old ho
  have hge:=grownCap_ge w (xs.length+b.size) old e
  refine ⟨⟨flen,.inr ⟨_,_,rfl,rfl,hge,grownCap_le_maxLen w _ old e hml,?_,?_⟩⟩,by simp [a8S],hc,h1⟩
  ·simp only [Array.size_append,List.size_toArray,size_zeroCells,e1,e3]
   show xs.length+b.size+(grownCap w (xs.length+b.size) old e-(xs.length+b.size))*1=_
   omega
  ·simp only [Array.toList_append,List.append_assoc]
   rw [←List.append_assoc,← flat,← flen]
   exact List.take_left
 obtain ⟨hl,hR⟩:=hR
 rcases hR with ⟨rfl,rfl⟩ | ⟨g,arr,hsa,rfl,h3,h4,h5,h6⟩
 ·have hx:xs=[]:=List.length_eq_zero_iff.1 hn.symm
  subst hx
  have hr:=run_append_nil_string (P:=P) w t u ty e i (.int .u8 0) ht hu hi hz b (by omega) (by omega) (by simp only [List.length_nil,Nat.zero_add] at hb';omega)
  have hf:=fresh 0 (by simp;omega)
  simp only [List.flatMap_nil,List.length_nil,Nat.zero_add,List.nil_append,Array.empty_append] at hf
  refine ⟨⟨some ⟨w.heap.size,0,none⟩,b.size,grownCap w b.size 0 e⟩,_,_,hr,?_,(I.drop.drawn (w.drawn+1)).alloc _,fun k hk _=>?_⟩
  ·have hsd:b.data.map (fun b=>Value.int IntKind.u8 b.toNat)=(Lib.strCells b).toArray:=by
    apply Array.ext'
    simp [Lib.strCells]
   rw [hsd]
   exact hf
  ·exact Below.heap_alloc w.drew _ k hk
 ·rw [hsa,hn]
  by_cases hroom:xs.length+b.size≤s.c
  ·have hfit:xs.length+b.size≤arr.size:=by rw [h5];omega
   have hr:=Lib.run_append_room_string (P:=P) w t u ty e i ht hu hi hsize g xs.length s.c arr I.hp1 b hroom hfit
   refine ⟨⟨some ⟨g,0,none⟩,xs.length+b.size,s.c⟩,_,_,hr,⟨⟨flen,.inr ⟨g,_,rfl,rfl,hroom,h4,?_,?_⟩⟩,by simp [a8S],hc,h1⟩,I.setRow,fun k _ hk=>setRow_other w g k _ fun eq=>hk (g,_) (List.mem_singleton_self _) eq.symm⟩
   ·simp only [List.size_toArray,List.length_append,List.length_take,List.length_drop,Array.length_toList,e3]
    omega
   ·rw [hn,Nat.mul_one] at h6
    simp only []
    rw [h6,← flat,← flen]
    exact List.take_left
  ·have holds:∀j v,(xs.flatMap c)[j]? = some v→w.cell? ((⟨g,0,none⟩:Addr).add j)=some v:=fun j v hj=>by
    rw [a2w,a3d I.hp1,Nat.zero_add]
    rw [←h6,List.getElem?_take] at hj
    split at hj
    ·simpa using hj
    ·cases hj
   have hr:=Lib.run_append_grow_string (P:=P) w t u ty e i (.int .u8 0) ht hu hi hz ⟨g,0,none⟩ xs.length s.c (xs.flatMap c) (by rw [hsize,Nat.mul_one];exact e1) holds b (by omega) (by omega) (growslice_fits (by omega) hb')
   refine ⟨_,_,_,hr,fresh s.c (by omega),(I.drop.drawn (w.drawn+1)).alloc _,fun k hk _=>?_⟩
   exact Below.heap_alloc w.drew _ k hk
theorem c5v{t u ty e:TypeId}{i:TypeInfo}{c:Int→List Value}{s:Sl}{xs:List Int}(ht:P.underlying t=some (.slice e))(hu:P.underlying u=some .string)(hi:P.info? e=some i)(hr:RowL e 1 c s xs F)(b:ByteArray)(hb0:b.size=0):
  (Builtin.append_ #[t,u] ty #[.slice s.a s.n s.c,.string b]).run P w=.ok (.slice s.a s.n s.c) w:=by
 have hle:s.n≤s.c:=by
  rcases hr.1.2 with ⟨rfl,_⟩ | ⟨g,arr,_,_,h,_⟩
  ·exact Nat.le_refl _
  ·exact h
 have hb:b.data=#[]:=Array.eq_empty_of_size_eq_zero hb0
 cases ha:s.a<;>simp [Builtin.append_,run_underlying ht,run_underlying hu,sizeOf,typeInfo,hi,Builtin.lenOf,Builtin.firstCells,loadCells,storeCells,hle,hb0,hb]
theorem c5w{t u ty:TypeId}{ks:List Bool}{e:TypeId}{i:TypeInfo}{bytes:Nat}{c:Int→List Value}(hcc:∀x,c x=[.int .u8 x])(ht:P.underlying t=some (.slice e))(hu:P.underlying u=some .string)(hi:P.info? e=some i)(hz:i.zero=some (.int .u8 0))(hsize:i.size=1)(hby:i.bytes=bytes)
  {s:Sl} {xs:List Int} (I:Inv w0 ps H0 H (F::Fs) w) (hr:RowL e 1 c s xs F) (b:ByteArray) (hb:(xs.length+b.size)*(bytes+1)≤140737488355328)
  (h:∀(s':Sl)(F':Frag)(w':World),RowL e 1 c s' (xs++sbytes b) F'→Inv w0 ps H0 H (F'::Fs) w'→(∀k,k < w.heap.size→(∀p∈F,p.1≠k)→w'.heap[k]? = w.heap[k]?)→K (.slice s'.a s'.n s'.c) w'):
  opK P E (xBuiltin .append #[t,u] ty ks [.slice s.a s.n s.c,.string b]) w K:=by
 have hx:xBuiltin .append #[t,u] ty ks [.slice s.a s.n s.c,.string b]=xV (Builtin.append_ #[t,u] ty #[.slice s.a s.n s.c,.string b]):=rfl
 rw [hx]
 by_cases hy:b.size=0
 ·refine V8 (c5v (ty:=ty) ht hu hi hr b hy) (h s F w ?_ I fun _ _ _=>rfl)
  rw [show sbytes b=[] from List.length_eq_zero_iff.1 (by rw [a8S];exact hy),List.append_nil]
  exact hr
 ·obtain ⟨s',F',w',h1,h2,h3,h4⟩:=c7R (ty:=ty) hcc ht hu hi hz hsize hby I hr b hy hb
  exact V8 h1 (h s' F' w' h2 h3 h4)
theorem c9Y{α:Type}{t tn ty:TypeId}{ks:List Bool}{e:TypeId}{sz:Nat}{c:α→List Value}{i:TypeInfo}{z:Value}{bytes:Nat}{k kn:IntKind}(ht:P.underlying t=some (.slice e))(htn:P.underlying tn=some (.int kn))(hi:P.info? e=some i)(hz:i.zero=some z)(hsize:i.size=sz)(hby:i.bytes=bytes)(hzs:z.cells.size=sz)(h0s:0 < sz)
  (hcl:∀x,(c x).length=sz) (hco:∀x,(c x).all (·.oneCell')=true) (I:Inv w0 ps H0 H Fs w) {n:Int} (h0:0 < n) (hb:n*((bytes:Int)+1)≤140737488355328)
  (h:∀(g m:Nat)(F':Frag)(w':World),RowL e sz c ⟨some ⟨g,0,none⟩,0,m⟩ [] F'→Inv w0 ps H0 H (F'::Fs) w'→K (.slice (some ⟨g,0,none⟩) n.toNat m) w'):
  opK P E (xBuiltin .append #[t,tn] ty ks [.slice none 0 0,.int k n]) w K:=by
 have hx:xBuiltin .append #[t,tn] ty ks [.slice none 0 0,.int k n]=xV (Builtin.append_ #[t,tn] ty #[.slice none 0 0,.int k n]):=rfl
 rw [hx]
 subst hsize;subst hby
 obtain ⟨m,rfl⟩:=Int.eq_ofNat_of_zero_le (Int.le_of_lt h0)
 have hm:m*(i.bytes+1)≤140737488355328:=by
  have hb':=hb
  rw [show ((i.bytes:Int)+1)=((i.bytes+1:Nat):Int) from rfl,← Int.natCast_mul] at hb'
  omega
 have h1:m≤140737488355328:=Nat.le_trans (Nat.le_mul_of_pos_right _ (Nat.succ_pos _)) hm
 have h2:m*i.bytes≤140737488355328:=Nat.le_trans (Nat.mul_le_mul_left _ (Nat.le_succ _)) hm
 have hr:=Lib.run_append_nil_zeros (P:=P) w t tn ty e i z k kn ht htn hi hz m (by omega) h0s (by omega) (by omega)
 refine V8 hr ?_
 have hge:=grownCap_ge w m 0 e
 refine h w.heap.size (grownCap w m 0 e) [(w.heap.size,_)] _ ⟨⟨by rw [List.flatMap_nil,Nat.zero_mul];rfl,.inr ⟨_,_,rfl,rfl,Nat.zero_le _,grownCap_le_maxLen w m 0 e (by simp only [maxLen];omega),?_,by rw [Nat.zero_mul,List.take_zero,List.flatMap_nil]⟩⟩,rfl,hcl,hco⟩ ((I.drawn (w.drawn+1)).alloc _)
 simp only [Array.size_append,size_zeroCells,hzs]
 rw [←Nat.add_mul]
 congr 1
 omega
def setObjAt(w:World)(r:Nat)(o:Obj):World:={ w with heap:=w.heap.setIfInBounds r o }
theorem a9n{W:World}{r:Nat}{o:Obj}(hl:r < W.heap.size):(setObjAt W r o).heap[r]? = some o:=by
 simp [setObjAt,hl]
theorem O0{W:World}{r k:Nat}{o:Obj}(h:k≠r):(setObjAt W r o).heap[k]? = W.heap[k]?:=by
 simp only [setObjAt]
 rw [Array.getElem?_setIfInBounds_ne (Ne.symm h)]
theorem Inv.setObj{g:Nat}{o o':Obj}{F:Frag}(I:Inv w0 ps H0 H (((g,o)::F)::Fs) w):Inv w0 ps H0 H (((g,o')::F)::Fs) (setObjAt w g o'):=by
 have far:∀i,i≠g→(setObjAt w g o').heap[i]? = w.heap[i]?:=fun i hi=>O0 hi
 have hs:(setObjAt w g o').heap.size=w.heap.size:=by simp [setObjAt]
 have hg:∀p∈F++Fs.flatten,p.1≠g:=by
  have:=I.nodup
  rw [show ((((g,o)::F)::Fs).flatten.map (·.1))=g::((F++Fs.flatten).map (·.1)) from rfl,List.nodup_cons] at this
  exact fun p hp e=>this.1 (List.mem_map.2 ⟨p,hp,e⟩)
 have hgp:ps g∨w0.heap.size≤g:=I.fresh (g,o) (List.mem_cons_self ..)
 refine ⟨fun i o1 h=>(far i fun e=>?_).trans (I.sub i o1 h),?_,?_,?_,?_,fun i hi hp=>(far i fun e=>?_).trans (I.frame i hi hp),by have:=I.mono;omega,I.os,I.tape,I.output,I.le,I.back⟩
 ·subst e
  exact I.Hnot h ⟨(i,o),List.mem_cons_self ..,rfl⟩
 ·intro p hp
  rcases List.mem_cons.1 hp with rfl | hp
  ·exact a9n I.lt1
  ·exact (far _ (hg p hp)).trans (I.own p (List.mem_cons_of_mem _ hp))
 ·intro p hp
  rcases List.mem_cons.1 hp with rfl | hp
  ·exact I.priv (g,o) (List.mem_cons_self ..)
  ·exact I.priv p (List.mem_cons_of_mem _ hp)
 ·exact I.nodup
 ·intro p hp
  rcases List.mem_cons.1 hp with rfl | hp
  ·exact hgp
  ·exact I.fresh p (List.mem_cons_of_mem _ hp)
 ·subst e
  rcases hgp with h | h
  ·exact hp h
  ·omega
def itf(g:Nat)(s:ByteArray)(p:Nat):Frag:=[(g,.stringIter s p)]
theorem b2L{t:TypeId}(hu:P.underlying t=some .string)(s:ByteArray)(I:Inv w0 ps H0 H Fs w)
  (h:∀(g:Nat)(w':World),Inv w0 ps H0 H (itf g s 0::Fs) w'→(∀k,k < w.heap.size→w'.heap[k]? = w.heap[k]?)→K (.pointer (some ⟨g,0,none⟩)) w'):opK P E (xV (Instr.range t (.string s))) w K:=by
 refine V8 (w':=w.alloc (.stringIter s 0)) (v:=.pointer (some ⟨w.heap.size,0,none⟩)) ?_ (h _ _ (I.alloc _) fun k hk=>Below.heap_alloc w _ k hk)
 simp only [Instr.range,Sem.run_bind,run_underlying hu,Result.andThen_ok,newObj,Sem.run,Sem.run_pure]
 rfl
theorem b4K{g:Nat}{s:ByteArray}{p ty:Nat}(I:Inv w0 ps H0 H (itf g s p::Fs) w)
  (h1:p < s.size→∀w',Inv w0 ps H0 H (itf g s (p+(Utf8.decode s p).2)::Fs) w'→(∀k,k≠g→w'.heap[k]? = w.heap[k]?)→K (.tuple #[.bool true,.int .i64 (p:Int),.int .i32 ((Utf8.decode s p).1:Int)]) w')
  (h2:¬p < s.size→K (.tuple #[.bool false]) w):opK P E (xV (Instr.next (.pointer (some ⟨g,0,none⟩)) true ty)) w K:=by
 have hi:w.heap[g]? = some (.stringIter s p):=I.hp1
 by_cases hp:p < s.size
 ·refine V8 (w':=setObjAt w g (.stringIter s (p+(Utf8.decode s p).2))) ?_ (h1 hp _ I.setObj fun k hk=>O0 hk)
  simp [Instr.next,getObj,Go.setObj,Sem.run,hi,hp,setObjAt,goInt]
 ·refine V8 ?_ (h2 hp)
  simp [Instr.next,getObj,Sem.run,hi,hp]
end
end
def a1M(a:Int):Prop:=-9223372036854775808≤a∧a≤9223372036854775807
instance (a:Int):Decidable (a1M a):=by unfold a1M;infer_instance
theorem X9{a:Int}(h:a1M a):IntKind.wrap .i64 a=a:=by rw [IntKind.wrap_i64];unfold a1M at h;omega
theorem a0e{i:Int}(h0:0≤i)(h1:i≤1099511627776):IntKind.wrap .i64 (i+1)=i+1:=X9 ⟨by omega,by omega⟩
theorem a1F{α:Type}{q:Prop} [Decidable q] {call:(α→Hp→Prop)→Prop} {d:α} {H:Hp} {K:α→Hp→Prop} (v:α) (hc:q→∀K':α→Hp→Prop,K' v H→call K') (h:K (if q then v else d) H):TG q call d H K:=
 ⟨fun hq=>hc hq _ (by rwa [if_pos hq] at h),fun hq=>by rwa [if_neg hq] at h⟩
theorem a6B{α:Type}{l:List α}{i:Nat}{x:α}(h:l[i]? = some x):l.take (i+1)=l.take i++[x]:=by
 rw [List.take_add_one,h];rfl
theorem O9{α:Type}{l:List α}{i:Nat}(h:i < l.length):∃x,l[i]? = some x:=⟨_,List.getElem?_eq_getElem h⟩
theorem P4{α:Type}{l:List α}{i:Nat}{x:α}(h:l[i]? = some x):i < l.length:=(List.getElem?_eq_some_iff.1 h).1
theorem b7Y{α:Type}{a b:List α}{i:Nat}{x:α}(h:(a++b)[i]? = some x):a[i]? = some x∨(a.length≤i∧b[i-a.length]? = some x):=by
 by_cases hi:i < a.length
 ·rw [List.getElem?_append_left hi] at h;exact .inl h
 ·rw [List.getElem?_append_right (by omega)] at h;exact .inr ⟨by omega,h⟩
def u5{α β:Type}(R:α→β→Prop)(xs:List α)(ys:List β):Prop:=xs.length=ys.length∧∀(i:Nat)(x:α)(y:β),xs[i]? = some x→ys[i]? = some y→R x y
theorem u5.mono{α β:Type}{R S:α→β→Prop}{xs:List α}{ys:List β}(h:u5 R xs ys)(f:∀x y,R x y→S x y):u5 S xs ys:=⟨h.1,fun i x y a b=>f _ _ (h.2 i x y a b)⟩
theorem u5.get{α β:Type}{R:α→β→Prop}{xs:List α}{ys:List β}(h:u5 R xs ys){i:Nat}{x:α}(hx:xs[i]? = some x):∃y,ys[i]? = some y∧R x y:=by
 obtain ⟨y,hy⟩:=O9 (l:=ys) (i:=i) (by rw [←h.1];exact P4 hx)
 exact ⟨y,hy,h.2 i x y hx hy⟩
theorem u5.nil{α β:Type}{R:α→β→Prop}:u5 R ([]:List α) ([]:List β):=⟨rfl,fun i x y h=>by simp at h⟩
theorem u5.app{α β:Type}{R:α→β→Prop}{xs xs':List α}{ys ys':List β}(h:u5 R xs ys)(h':u5 R xs' ys'):u5 R (xs++xs') (ys++ys'):=by
 refine ⟨by rw [List.length_append,List.length_append,h.1,h'.1],fun i x y hx hy=>?_⟩
 rcases b7Y hx with hx | ⟨hi,hx⟩
 ·rcases b7Y hy with hy | ⟨hj,hy⟩
  ·exact h.2 i x y hx hy
  ·have:=P4 hx;have:=h.1;omega
 ·rcases b7Y hy with hy | ⟨hj,hy⟩
  ·have:=P4 hy;have:=h.1;omega
  ·rw [←h.1] at hy;exact h'.2 _ x y hx hy
theorem u5.one{α β:Type}{R:α→β→Prop}{x:α}{y:β}(h:R x y):u5 R [x] [y]:=⟨rfl,fun i a b ha hb=>by
 cases i with
 | zero=>simp at ha hb;subst ha;subst hb;exact h
 | succ i=>simp at ha⟩
theorem u5.map{α β γ:Type}{R:γ→β→Prop}{f:α→γ}{xs:List α}{ys:List β}(h:u5 (fun x y=>R (f x) y) xs ys):u5 R (xs.map f) ys:=by
 refine ⟨by rw [List.length_map];exact h.1,fun i x y hx hy=>?_⟩
 rw [List.getElem?_map] at hx
 cases hq:xs[i]? with
 | none=>rw [hq] at hx;cases hx
 | some a=>rw [hq] at hx;simp at hx;subst hx;exact h.2 i a y hq hy
theorem c0m{α:Type}{xs ys:List α}(hl:xs.length=ys.length)(h:∀(i:Nat)(x y:α),xs[i]? = some x→ys[i]? = some y→x=y):xs=ys:=by
 refine List.ext_getElem hl fun i h1 h2=>h i _ _ (List.getElem?_eq_getElem h1) (List.getElem?_eq_getElem h2)
section
variable {H:Hp}
theorem SlHH.get{α:Type}{sz:Nat}{cf:α→List Value}{s:Sl}{xss:List (List α)}(h:SlHH H sz cf s xss){i:Int}(h0:0≤i)(h1:i < s.n):
  ∃si xs,xss[i.toNat]? = some xs∧EltH H s i 1 [Value.slice si.a si.n si.c]∧SlH H sz cf si xs∧si.n≤si.c:=by
 obtain ⟨hn,ss,hss,hin⟩:=h
 obtain ⟨si,hs,hE⟩:=hss.get h0 h1
 have hlt:i.toNat < xss.length:=by omega
 exact ⟨si,xss[i.toNat],List.getElem?_eq_getElem hlt,hE,hin _ _ _ hs (List.getElem?_eq_getElem hlt)⟩
end
end Go.Proofs.YtoflkliecagjcaaGreatDoor
