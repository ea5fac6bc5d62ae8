/- More operations: shifts by any number, slices held against nil, numbers of an array in a box, a string's bytes appended, an empty slice with room. No program in sight. -/
import Derived.Lib.SliceRun
import Derived.Lib.AppendStr
import Derived.Lib.AppendZeros
import Derived.Laws.Append
import Derived.Test.YtpgelfheccpejaaDooryCS3
namespace Go.Proofs.YtpgelfheccpejaaDoor
open Go.RowKit
section
variable {P:Program}
theorem a9v(op:BinOp)(t:TypeId)(x y:Operand)(a b:Option Addr)(n c n' c':Nat)(w:World):(eqGuard op t x y (.slice a n c) (.slice b n' c')).run P w=.ok () w:=by
 unfold eqGuard
 cases op<;>rfl
theorem b4g(t:TypeId){e:TypeId}(x y:Operand)(s:Sl)(h:P.underlying t=some (.slice e)):Pu P (xBin .eql t x y (vs s) (.slice none 0 0)) (.bool s.a.isNone):=by
 refine Pu.ok (s:=do eqGuard .eql t x y (vs s) (.slice none 0 0);binOp .eql t (vs s) (.slice none 0 0)) fun w=>?_
 rw [Sem.run_bind,a9v,Result.andThen_ok]
 exact Lib.run_eql_slice_nil w t e s.a s.n s.c 0 0 h
section
variable {E:Pan}{w0 w:World}{ps:Nat→Prop}{H0 H:Hp}{Fs:List Frag}{F:Frag}{K:Value→World→Prop}
theorem b7T{α:Type}{t tn ty:TypeId}{ks:List Bool}{e:TypeId}{sz:Nat}{c:α→List Value}{i:TypeInfo}{z:Value}{bytes:Nat}{k kn:IntKind}(ht:P.underlying t=some (.slice e))(htn:P.underlying tn=some (.int kn))(hi:P.info? e=some i)(hz:i.zero=some z)(hsize:i.size=sz)(hby:i.bytes=bytes)(hzs:z.cells.size=sz)(h0s:0 < sz)
  (hcl:∀x,(c x).length=sz) (hco:∀x,(c x).all (·.oneCell')=true) (I:Inv w0 ps H0 H Fs w) {n:Int} (h0:0 < n) (hb:n*((bytes:Int)+1)≤140737488355328)
  (h:∀(g m:Nat)(F':Frag)(w':World),RowL e sz c ⟨some ⟨g,0,none⟩,0,m⟩ [] F'→Inv w0 ps H0 H (F'::Fs) w'→K (.slice (some ⟨g,0,none⟩) n.toNat m) w'):
  opK P E (xBuiltin .append #[t,tn] ty ks [.slice none 0 0,.int k n]) w K:=by
 have hx:xBuiltin .append #[t,tn] ty ks [.slice none 0 0,.int k n]=xV (Builtin.append_ #[t,tn] ty #[.slice none 0 0,.int k n]):=rfl
 rw [hx]
 subst hsize;subst hby
 obtain ⟨m,rfl⟩:=Int.eq_ofNat_of_zero_le (Int.le_of_lt h0)
 have hm:m*(i.bytes+1)≤140737488355328:=by
  have hb':=hb
  rw [show ((i.bytes:Int)+1)=((i.bytes+1:Nat):Int) from rfl,← Int.natCast_mul] at hb'
  omega
 have h1:m≤140737488355328:=Nat.le_trans (Nat.le_mul_of_pos_right _ (Nat.succ_pos _)) hm
 have h2:m*i.bytes≤140737488355328:=Nat.le_trans (Nat.mul_le_mul_left _ (Nat.le_succ _)) hm
 have hr:=Lib.run_append_nil_zeros (P:=P) w t tn ty e i z k kn ht htn hi hz m (by omega) h0s (by omega) (by omega)
 refine a3z hr ?_
 have hge:=grownCap_ge w m 0 e
 refine h w.heap.size (grownCap w m 0 e) [(w.heap.size,_)] _ ⟨⟨by rw [List.flatMap_nil,Nat.zero_mul];rfl,.inr ⟨_,_,rfl,rfl,Nat.zero_le _,grownCap_le_maxLen w m 0 e (by simp only [maxLen];omega),?_,by rw [Nat.zero_mul,List.take_zero,List.flatMap_nil]⟩⟩,rfl,hcl,hco⟩ ((I.drawn (w.drawn+1)).alloc _)
 simp only [Array.size_append,size_zeroCells,hzs]
 rw [←Nat.add_mul]
 congr 1
 omega
def setObjAt(w:World)(r:Nat)(o:Obj):World:={ w with heap:=w.heap.setIfInBounds r o }
theorem b7U{W:World}{r:Nat}{o:Obj}(hl:r < W.heap.size):(setObjAt W r o).heap[r]? = some o:=by
 simp [setObjAt,hl]
theorem a9O{W:World}{r k:Nat}{o:Obj}(h:k≠r):(setObjAt W r o).heap[k]? = W.heap[k]?:=by
 simp only [setObjAt]
 rw [Array.getElem?_setIfInBounds_ne (Ne.symm h)]
theorem Inv.setObj{g:Nat}{o o':Obj}{F:Frag}(I:Inv w0 ps H0 H (((g,o)::F)::Fs) w):Inv w0 ps H0 H (((g,o')::F)::Fs) (setObjAt w g o'):=by
 have far:∀i,i≠g→(setObjAt w g o').heap[i]? = w.heap[i]?:=fun i hi=>a9O hi
 have hs:(setObjAt w g o').heap.size=w.heap.size:=by simp [setObjAt]
 have hg:∀p∈F++Fs.flatten,p.1≠g:=by
  have:=I.nodup
  rw [show ((((g,o)::F)::Fs).flatten.map (·.1))=g::((F++Fs.flatten).map (·.1)) from rfl,List.nodup_cons] at this
  exact fun p hp e=>this.1 (List.mem_map.2 ⟨p,hp,e⟩)
 have hgp:ps g∨w0.heap.size≤g:=I.fresh (g,o) (List.mem_cons_self ..)
 refine ⟨fun i o1 h=>(far i fun e=>?_).trans (I.sub i o1 h),?_,?_,?_,?_,fun i hi hp=>(far i fun e=>?_).trans (I.frame i hi hp),by have:=I.mono;omega,I.os,I.tape,I.output,I.le,I.back⟩
 ·subst e
  exact I.Hnot h ⟨(i,o),List.mem_cons_self ..,rfl⟩
 ·intro p hp
  rcases List.mem_cons.1 hp with rfl | hp
  ·exact b7U I.lt1
  ·exact (far _ (hg p hp)).trans (I.own p (List.mem_cons_of_mem _ hp))
 ·intro p hp
  rcases List.mem_cons.1 hp with rfl | hp
  ·exact I.priv (g,o) (List.mem_cons_self ..)
  ·exact I.priv p (List.mem_cons_of_mem _ hp)
 ·exact I.nodup
 ·intro p hp
  rcases List.mem_cons.1 hp with rfl | hp
  ·exact hgp
  ·exact I.fresh p (List.mem_cons_of_mem _ hp)
 ·subst e
  rcases hgp with h | h
  ·exact hp h
  ·omega
def itf(g:Nat)(s:ByteArray)(p:Nat):Frag:=[(g,.stringIter s p)]
theorem b2X{t:TypeId}(hu:P.underlying t=some .string)(s:ByteArray)(I:Inv w0 ps H0 H Fs w)
  (h:∀(g:Nat)(w':World),Inv w0 ps H0 H (itf g s 0::Fs) w'→(∀k,k < w.heap.size→w'.heap[k]? = w.heap[k]?)→K (.pointer (some ⟨g,0,none⟩)) w'):opK P E (xV (Instr.range t (.string s))) w K:=by
 refine a3z (w':=w.alloc (.stringIter s 0)) (v:=.pointer (some ⟨w.heap.size,0,none⟩)) ?_ (h _ _ (I.alloc _) fun k hk=>Below.heap_alloc w _ k hk)
 simp only [Instr.range,Sem.run_bind,run_underlying hu,Result.andThen_ok,newObj,Sem.run,Sem.run_pure]
 rfl
theorem b4h{g:Nat}{s:ByteArray}{p ty:Nat}(I:Inv w0 ps H0 H (itf g s p::Fs) w)
  (h1:p < s.size→∀w',Inv w0 ps H0 H (itf g s (p+(Utf8.decode s p).2)::Fs) w'→(∀k,k≠g→w'.heap[k]? = w.heap[k]?)→K (.tuple #[.bool true,.int .i64 (p:Int),.int .i32 ((Utf8.decode s p).1:Int)]) w')
  (h2:¬p < s.size→K (.tuple #[.bool false]) w):opK P E (xV (Instr.next (.pointer (some ⟨g,0,none⟩)) true ty)) w K:=by
 have hi:w.heap[g]? = some (.stringIter s p):=I.hp1
 by_cases hp:p < s.size
 ·refine a3z (w':=setObjAt w g (.stringIter s (p+(Utf8.decode s p).2))) ?_ (h1 hp _ I.setObj fun k hk=>a9O hk)
  simp [Instr.next,getObj,Go.setObj,Sem.run,hi,hp,setObjAt,goInt]
 ·refine a3z ?_ (h2 hp)
  simp [Instr.next,getObj,Sem.run,hi,hp]
end
end
end Go.Proofs.YtpgelfheccpejaaDoor
