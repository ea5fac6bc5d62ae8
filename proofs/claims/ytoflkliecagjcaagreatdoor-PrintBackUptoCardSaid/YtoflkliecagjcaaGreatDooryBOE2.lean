/- Memory in the second reading: blocks known whole (heap[g]?), loads and stores in them; cells of what came in; what stays. No program in sight. -/
import Derived.Laws.Tables
import Derived.Laws.CopyRow
import Derived.Laws.CopyOwn
import Derived.Laws.Rows
import Derived.Test.YtoflkliecagjcaaGreatDooryBOE1
namespace Go.Proofs.YtoflkliecagjcaaGreatDoor.Od
open Go.RowKit
theorem a2C{W:World}{o:Obj}{g:Nat}(h:g=W.heap.size):(W.alloc o).heap[g]? = some o:=by
 subst h
 show (W.heap.push o)[W.heap.size]? = some o
 simp
theorem U4{W:World}{o:Obj}{g:Nat}(h:g < W.heap.size):(W.alloc o).heap[g]? = W.heap[g]?:=Below.heap_alloc W o g h
def rowPut(ob:Option Obj)(cs:Array Value):Option Obj:=
 match ob with
 | some (.cells _ t fr)=>some (.cells cs t fr)
 | ob=>ob
theorem a1r{old cs:Array Value}{t:TypeId}{fr:Nat×Nat}:rowPut (some (.cells old t fr)) cs=some (.cells cs t fr):=rfl
theorem a6X{W:World}{g k:Nat}{cs:Array Value}(h:k=g):(W.setRow g cs).heap[k]? = rowPut (W.heap[k]?) cs:=by
 subst h
 simp only [World.setRow,Array.getElem?_modify,if_true]
 cases W.heap[k]? with
 | none=>rfl
 | some o=>cases o<;>rfl
theorem a0O{W:World}{g k:Nat}{cs:Array Value}(h:k≠g):(W.setRow g cs).heap[k]? = W.heap[k]?:=setRow_other W g k cs h
theorem f9(W:World)(o:Obj):(W.alloc o).heap.size=W.heap.size+1:=World.size_alloc W o
theorem j6(W:World)(g:Nat)(cs:Array Value):(W.setRow g cs).heap.size=W.heap.size:=setRow_size W g cs
theorem a1h{W:World}{g:Nat}{o:Obj}(h:W.heap[g]? = some o):g < W.heap.size:=(Array.getElem?_eq_some_iff.1 h).1
theorem Ext.size{a b:World}(h:Ext a b):a.heap.size≤b.heap.size:=Below.size h
theorem Ext.heap{a b:World}(h:Ext a b){g:Nat}(hg:g < a.heap.size):b.heap[g]? = a.heap[g]?:=Below.block h g hg
theorem Ext.cell{a b:World}(h:Ext a b){p:Addr}(hp:p.block < a.heap.size):b.cell? p=a.cell? p:=Below.cell h hp
theorem Ext.alloc{a b:World}(h:Ext a b)(o:Obj):Ext a (b.alloc o):=Below.alloc h (Below.size h) o
theorem Ext.row{a b:World}(h:Ext a b){g:Nat}(hg:a.heap.size≤g)(cs:Array Value):Ext a (b.setRow g cs):=below_setRow h hg cs
theorem Ext.put{a b:World}(h:Ext a b){p:Addr}(hg:a.heap.size≤p.block)(v:Value):Ext a (b.setCell p v):=Below.setCell h hg v
section
variable {P:Program}{w:World}{K:Value→World→Prop}
def ldH(ob:Option Obj)(o n:Nat)(K:List Value→Prop):Prop:=
 match ob with
 | some (.cells cs _ _)=>o+n≤cs.size∧K ((cs.toList.drop o).take n)
 | _=>False
theorem a3y{cs:Array Value}{t:TypeId}{fr:Nat×Nat}{o n:Nat}{K:List Value→Prop}:ldH (some (.cells cs t fr)) o n K=(o+n≤cs.size∧K ((cs.toList.drop o).take n)):=rfl
theorem a2w(g o j:Nat):(⟨g,o,none⟩:Addr).add j=⟨g,o+j,none⟩:=by unfold Addr.add;split<;>simp_all
theorem a3d{g o:Nat}{cs:Array Value}{t:TypeId}{fr:Nat×Nat}(h:w.heap[g]? = some (.cells cs t fr)):w.cell? ⟨g,o,none⟩=cs[o]?:=by
 simp [World.cell?,h]
theorem a6f(a:Addr):Instr.sureAddr (.pointer (some a))=pure a:=rfl
theorem c1Z{t:TypeId}{a:Addr}{v:Value}(hA:∀w,(isAgg t).run P w=.ok false w)(hc:w.cell? a=some v)(h:K v w):opK P (xV (Instr.loadAt t (.pointer (some a)))) w K:=by
 rw [a1Z (v:=v) (w':=w)]
 ·exact h
 ·simp only [Instr.loadAt,a6f,Sem.run_bind,Sem.run_pure,Result.andThen_ok,loadVar,hA,Bool.false_eq_true,if_false,run_load,hc]
theorem c2a{t:TypeId}{g o:Nat}{cs:List Value}(hA:∀w,(isAgg t).run P w=.ok true w)(hs:∀w,(sizeOf t).run P w=.ok cs.length w)
  (hc:∀j v,cs[j]? = some v→w.cell? ⟨g,o+j,none⟩=some v) (h:K (.agg cs.toArray) w):opK P (xV (Instr.loadAt t (.pointer (some ⟨g,o,none⟩)))) w K:=by
 rw [a1Z (v:=.agg cs.toArray) (w':=w)]
 ·exact h
 ·have:=run_loadCells_list (P:=P) (w:=w) ⟨g,o,none⟩ cs (fun j v hj=>by rw [a2w];exact hc j v hj)
  simp only [Instr.loadAt,a6f,Sem.run_bind,Sem.run_pure,Result.andThen_ok,loadVar,hA,if_true,hs,this]
theorem b6N{t:TypeId}{g o:Nat}(hA:∀w,(isAgg t).run P w=.ok false w)(h:ldH (w.heap[g]?) o 1 fun l=>K (nth l 0) w):opK P (xV (Instr.loadAt t (.pointer (some ⟨g,o,none⟩)))) w K:=by
 unfold ldH at h
 split at h
 ·rename_i cs t' fr hg
  obtain ⟨h1,h2⟩:=h
  have e:(cs.toList.drop o).take 1=[cs[o]'(by omega)]:=by
   rw [List.drop_eq_getElem_cons (by simp;omega)]
   simp
  rw [e] at h2
  exact c1Z (v:=cs[o]'(by omega)) hA (by rw [a3d hg,Array.getElem?_eq_getElem (by omega)]) h2
 ·exact h.elim
theorem c4f{t:TypeId}{g o n:Nat}(hA:∀w,(isAgg t).run P w=.ok true w)(hs:∀w,(sizeOf t).run P w=.ok n w)(h:ldH (w.heap[g]?) o n fun l=>K (.agg l.toArray) w):
  opK P (xV (Instr.loadAt t (.pointer (some ⟨g,o,none⟩)))) w K:=by
 unfold ldH at h
 split at h
 ·rename_i cs t' fr hg
  obtain ⟨h1,h2⟩:=h
  have hl:((cs.toList.drop o).take n).length=n:=by simp;omega
  refine c2a hA (by rw [hl];exact hs) (fun j v hj=>?_) h2
  rw [a3d hg]
  simp only [List.getElem?_take,List.getElem?_drop,Array.getElem?_toList] at hj
  split at hj
  ·exact hj
  ·cases hj
 ·exact h.elim
def spliced(l:List Value)(o:Nat)(vs:List Value):List Value:=l.take o++vs++l.drop (o+vs.length)
def stH(ob:Option Obj)(o:Nat)(vs:List Value)(K:Array Value→Prop):Prop:=
 match ob with
 | some (.cells cs _ (0,0))=>o+vs.length≤cs.size∧vs.all (·.oneCell')=true∧K (spliced cs.toList o vs).toArray
 | _=>False
theorem a4m{cs:Array Value}{t:TypeId}{o:Nat}{vs:List Value}{K:Array Value→Prop}:stH (some (.cells cs t (0,0))) o vs K=(o+vs.length≤cs.size∧vs.all (·.oneCell')=true∧K (spliced cs.toList o vs).toArray):=rfl
theorem c4g{t:TypeId}{g o n:Nat}{v:Value}(hs:∀w,(sizeOf t).run P w=.ok n w)(hn:v.cells.size=n)(h:stH (w.heap[g]?) o v.cells.toList fun cs=>K undef (w.setRow g cs)):
  opK P (xU (Instr.storeAt t (.pointer (some ⟨g,o,none⟩)) v)) w K:=by
 unfold stH at h
 split at h
 ·rename_i cs t' hg
  obtain ⟨h1,h2,h3⟩:=h
  rw [b5M (w':=w.setRow g (spliced cs.toList o v.cells.toList).toArray)]
  ·exact h3
  ·have:=run_storeCells_at (P:=P) g o t' v.cells.toList 0 cs w hg (by simpa using h1) (fun v' hv'=>List.all_eq_true.1 h2 v' hv')
   simp only [Nat.add_zero] at this
   simp only [Instr.storeAt,a6f,Sem.run_bind,Sem.run_pure,Result.andThen_ok,storeVar,hs,hn,ne_eq,not_true_eq_false,if_false,this,spliced]
 ·exact h.elim
theorem c4h{t:TypeId}{z:Value}(hz:∀w,(zeroValue t).run P w=.ok z w):opK P (xV (Instr.alloc t true (.tuple #[]))) w K=K (.pointer (some ⟨w.heap.size,0,none⟩)) (w.alloc (.cells z.cells t)):=by
 refine a1Z ?_
 simp only [Instr.alloc,Sem.run_bind,hz,Result.andThen_ok,newVar,newRow,newObj,Sem.run,Sem.run_pure]
 rfl
theorem b3h{t:TypeId}(v:Value):opK P (xV (Instr.box t v)) w K=K (.pointer (some ⟨w.heap.size,0,none⟩)) (w.alloc (.cells v.cells t)):=by
 refine a1Z ?_
 simp only [Instr.box,Sem.run_bind,Result.andThen_ok,newVar,newRow,newObj,Sem.run,Sem.run_pure]
 rfl
theorem xcellA{t:TypeId}{g o n:Nat}{K:Value→Prop}(hA:∀w,(isAgg t).run P w=.ok true w)(hs:∀w,(sizeOf t).run P w=.ok n w)(h:ldH (w.heap[g]?) o n fun l=>K (.agg l.toArray)):
  xcell P t (.pointer (some ⟨g,o,none⟩)) w K:=by
 unfold ldH at h
 split at h
 ·rename_i cs t' fr hg
  obtain ⟨h1,h2⟩:=h
  have hl:((cs.toList.drop o).take n).length=n:=by simp;omega
  refine ⟨_,?_,h2⟩
  have:=run_loadCells_list (P:=P) (w:=w) ⟨g,o,none⟩ ((cs.toList.drop o).take n) (fun j v hj=>by
   rw [a2w,a3d hg]
   simp only [List.getElem?_take,List.getElem?_drop,Array.getElem?_toList] at hj
   split at hj
   ·exact hj
   ·cases hj)
  rw [hl] at this
  simp only [cellAt,asAddr,Sem.run_bind,Sem.run_pure,Result.andThen_ok,loadVar,hA,if_true,hs,this]
 ·exact h.elim
theorem c4i(k:IntKind)(n:Int):(Value.int k n).cells=#[.int k n]:=rfl
theorem b8C(s:ByteArray):(Value.string s).cells=#[.string s]:=rfl
theorem a3q(cs:Array Value):(Value.agg cs).cells=cs:=rfl
theorem d2o(a b c:Value):opK P (xV (Instr.extract (.tuple #[a,b,c]) 0)) w K=K a w:=a7U _ _ _ rfl
theorem d2p(a b c:Value):opK P (xV (Instr.extract (.tuple #[a,b,c]) 1)) w K=K b w:=a7U _ _ _ rfl
theorem d2q(a b c:Value):opK P (xV (Instr.extract (.tuple #[a,b,c]) 2)) w K=K c w:=a7U _ _ _ rfl
theorem d2r(a:Value):opK P (xV (Instr.extract (.tuple #[a]) 0)) w K=K a w:=a7U _ _ _ rfl
theorem b7u{t:TypeId}(hu:P.underlying t=some .string)(s:ByteArray):opK P (xV (Instr.range t (.string s))) w K=K (.pointer (some ⟨w.heap.size,0,none⟩)) (w.alloc (.stringIter s 0)):=by
 refine a1Z ?_
 simp only [Instr.range,Sem.run_bind,run_underlying hu,Result.andThen_ok,newObj,Sem.run,Sem.run_pure]
 rfl
def World.setObjAt(w:World)(r:Nat)(o:Obj):World:={ w with heap:=w.heap.setIfInBounds r o }
theorem a9n{W:World}{r k:Nat}{o:Obj}(h:k=r)(hl:k < W.heap.size):(World.setObjAt W r o).heap[k]? = some o:=by
 subst h
 simp [World.setObjAt,hl]
theorem O0{W:World}{r k:Nat}{o:Obj}(h:k≠r):(World.setObjAt W r o).heap[k]? = W.heap[k]?:=by
 simp only [World.setObjAt]
 rw [Array.getElem?_setIfInBounds_ne (Ne.symm h)]
theorem j8(W:World)(r:Nat)(o:Obj):(World.setObjAt W r o).heap.size=W.heap.size:=by simp [World.setObjAt]
theorem Ext.obj{a b:World}(h:Ext a b){g:Nat}(hg:a.heap.size≤g)(o:Obj):Ext a (World.setObjAt b g o):=
 Below.trans h ⟨rfl,rfl,rfl,by rw [j8];exact Nat.le_refl _,fun k hk=>O0 (by omega)⟩
theorem b7v{r:Nat}{s:ByteArray}{pos ty:Nat}(hi:w.heap[r]? = some (.stringIter s pos))(hp:pos < s.size):
  opK P (xV (Instr.next (.pointer (some ⟨r,0,none⟩)) true ty)) w K =
   K (.tuple #[.bool true,.int .i64 pos,.int .i32 ((Utf8.decode s pos).1:Int)]) (World.setObjAt w r (.stringIter s (pos+(Utf8.decode s pos).2))):=by
 refine a1Z ?_
 simp [Instr.next,getObj,setObj,Sem.run,hi,hp,World.setObjAt,goInt]
theorem b7w{r:Nat}{s:ByteArray}{pos ty:Nat}(hi:w.heap[r]? = some (.stringIter s pos))(hp:s.size≤pos):
  opK P (xV (Instr.next (.pointer (some ⟨r,0,none⟩)) true ty)) w K=K (.tuple #[.bool false]) w:=by
 refine a1Z ?_
 have:¬pos < s.size:=by omega
 simp [Instr.next,getObj,Sem.run,hi,this]
theorem a3e{f:FuncId}{args:List Value}{cap:Array Value}(he:∀args w,(callFunc f args).run P w=.ok (.enter f args) w)(h:Cv P f (args.toArray++cap) w K):
  opK P (xCall (.func (.func f) #[] cap) args) w K:=by
 rw [a0R (f:=f) (args:=args.toArray++cap) (w':=w)]
 ·exact h
 ·simp only [xCall,Deferred.ofValue,invoke,Sem.run_bind,Sem.run_pure,Result.andThen_ok,he,Array.empty_append]
end
end Go.Proofs.YtoflkliecagjcaaGreatDoor.Od
