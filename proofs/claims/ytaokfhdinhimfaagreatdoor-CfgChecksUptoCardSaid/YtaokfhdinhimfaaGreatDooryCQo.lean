/- The arguments of the trees' laws, opened: expressions, conditions, statements, programs. -/
import Derived.Test.YtaokfhdinhimfaaGreatDooryCO
import Derived.Test.YtaokfhdinhimfaaGreatDooryCQ5
namespace Go.Proofs.YtaokfhdinhimfaaGreatDoor
open Go.RowKit Go.ChangeShapes
set_option maxRecDepth 100000
section
variable {Hd:Type}{enc:TypeId×Value→Hd}{P:Program}{W:World}
end
section
variable {Hd:Type}{enc:TypeId×Value→Hd}{W:World}
theorem a5y{t:TypeId}(ht:Tryz.prog.underlying t=some (.int .i64))(hc:Tryz.prog.cellsOf t=1){n:Nat}{l:List Value}{x:DataW Hd×List MemPlace}(h:DataW.trod enc Tryz.prog W 0 (fun _=>true) true n t (l.take (Tryz.prog.cellsOf t))=some x):∃z:Int,l.take 1=[.int .i64 z]∧a7l z:=by
 rw [hc] at h
 obtain ⟨z,hz,a,b⟩:=c5y ht h
 exact ⟨z,hz,a,b⟩
theorem fldk{t k:Nat}(hc:Tryz.prog.cellsOf t=k){n:Nat}{l:List Value}{x:DataW Hd×List MemPlace}(h:DataW.trod enc Tryz.prog W 0 (fun _=>true) true n t (l.take (Tryz.prog.cellsOf t))=some x):DataW.trod enc Tryz.prog W 0 (fun _=>true) true n t (l.take k)=some x:=by rwa [hc] at h
theorem i3:Tryz.prog.underlying 3=some (.int .i64):=Tryz.underlying3
theorem i2:Tryz.prog.underlying 2=some (.int .i64):=Tryz.underlying2
theorem ce3:Tryz.prog.cellsOf 3=1:=by kernel_rfl
theorem ce2:Tryz.prog.cellsOf 2=1:=by kernel_rfl
end
end Go.Proofs.YtaokfhdinhimfaaGreatDoor
