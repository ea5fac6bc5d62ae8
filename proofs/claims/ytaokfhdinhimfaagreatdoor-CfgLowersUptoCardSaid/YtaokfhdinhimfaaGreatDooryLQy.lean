/- The walk told by counts and depths. Plain. -/
import Derived.Test.YtaokfhdinhimfaaGreatDooryLQx
namespace Go.Proofs.YtaokfhdinhimfaaGreatDoor
open Go.RowKit
set_option maxRecDepth 100000
set_option maxHeartbeats 2000000
mutual
def dpT(B:Int):PT→Int→Prop
 | .mk _ cs,d=>d≤B∧dpTs B cs (d+1)
def dpTs(B:Int):List PT→Int→Prop
 | [],_=>True
 | t::ts,d=>dpT B t d∧dpTs B ts d
end
variable {B:Int}
theorem c3k{s:W}{d:Int}(hb:s.fbad=0)(h2:¬s.fn=4096)(h3:¬64 < d):wStep s d=⟨s.fn+1,if d > s.fdepth then d else s.fdepth,0⟩:=by
 unfold wStep;rw [if_pos hb,if_neg h2,if_neg h3]
mutual
theorem c5e:∀(t:PT)(d:Int)(s:W),0≤s.fn→s.fn≤4096→s.fbad=0→((wT t d s).fbad=0↔(s.fn+cT t≤4096∧dpT 64 t d))
 | .mk l cs,d,s,h0,h1,hb=>by
  rw [wT,cT,dpT]
  by_cases h2:s.fn=4096
  ·have:(wStep s d).fbad≠0:=by unfold wStep;rw [if_pos hb,if_pos h2];exact (by decide:(33:Int)≠0)
   rw [a5g _ _ _ this]
   exact ⟨fun e=>(this e).elim,fun e=>by omega⟩
  ·by_cases h3:64 < d
   ·have:(wStep s d).fbad≠0:=by unfold wStep;rw [if_pos hb,if_neg h2,if_pos h3];exact (by decide:(32:Int)≠0)
    rw [a5g _ _ _ this]
    exact ⟨fun e=>(this e).elim,fun e=>by omega⟩
   ·rw [c3k hb h2 h3,b7T cs (d+1) _ (by dsimp only;omega) (by dsimp only;omega) rfl]
    dsimp only
    constructor
    ·rintro ⟨a,b⟩;exact ⟨by omega,by omega,b⟩
    ·rintro ⟨a,b,c⟩;exact ⟨by omega,c⟩
theorem b7T:∀(ts:List PT)(d:Int)(s:W),0≤s.fn→s.fn≤4096→s.fbad=0→((wTs ts d s).fbad=0↔(s.fn+cTs ts≤4096∧dpTs 64 ts d))
 | [],d,s,h0,h1,hb=>by rw [wTs,cTs,dpTs];exact ⟨fun _=>⟨by omega,trivial⟩,fun _=>hb⟩
 | t::ts,d,s,h0,h1,hb=>by
  rw [wTs,cTs,dpTs]
  by_cases h2:(wT t d s).fbad=0
  ·have hi:=(c5e t d s h0 h1 hb).1 h2
   have hc:=c5c t d s h2
   rw [b7T ts d _ (by omega) (by omega) h2,hc]
   constructor
   ·rintro ⟨a,b⟩;exact ⟨by omega,hi.2,b⟩
   ·rintro ⟨a,b,c⟩;exact ⟨by omega,c⟩
  ·rw [a5g _ _ _ h2]
   have:=mt (c5e t d s h0 h1 hb).2 h2
   exact ⟨fun e=>(h2 e).elim,fun e=>(this ⟨by omega,e.2.1⟩).elim⟩
end
theorem c0C(ts:List PT):toldS ts=0↔(cTs ts≤4096∧dpTs 64 ts 1∧formTs ts=true∧namesTs ts=true):=by
 have h:=b7T ts 1 w0S (Int.le_refl _) (by decide) rfl
 have e0:w0S.fn=0:=rfl
 rw [e0] at h
 unfold toldS
 constructor
 ·intro e
  split at e
  ·rename_i hb
   have:=h.1 hb
   split at e
   ·rename_i hf
    split at e
    ·rename_i hn;exact ⟨by omega,this.2,hf,hn⟩
    ·cases e
   ·cases e
  ·rename_i hb;exact (hb e).elim
 ·rintro ⟨a,b,c,d⟩
  rw [if_pos (h.2 ⟨by omega,b⟩),if_pos c,if_pos d]
end Go.Proofs.YtaokfhdinhimfaaGreatDoor
namespace Go.Proofs.YtaokfhdinhimfaaGreatDoor
open Go.RowKit
set_option maxRecDepth 100000
set_option maxHeartbeats 2000000
theorem c0D(ds:List i7):∀l:List Us,(useT ds l).2=0↔∀u∈l,kOf ds u.f6=asU u
 | []=>by rw [useT];exact ⟨(fun _ u h=>by cases h),fun _=>rfl⟩
 | u::l=>by
  rw [useT]
  by_cases h:kOf ds u.f6=asU u
  ·rw [if_pos h,c0D ds l]
   constructor
   ·intro g v hv
    rcases List.mem_cons.1 hv with e | hv
    ·rw [e];exact h
    ·exact g v hv
   ·exact fun g v hv=>g v (List.mem_cons_of_mem _ hv)
  ·rw [if_neg h]
   constructor
   ·intro e
    split at e
    ·exact (by decide:(63:Int)≠0) e |>.elim
    ·exact (by decide:(64:Int)≠0) e |>.elim
   ·exact fun g=>(h (g u List.mem_cons_self)).elim
theorem b5N(q:PP):(wellS q).2=0↔toldS q.nodes=0∧DeclOk q.decls∧∀u∈uTs q.body,kOf q.decls u.f6=asU u:=by
 unfold wellS
 by_cases h0:toldS q.nodes=0
 ·rw [if_pos h0]
  cases hd:declT [] q.decls with
  | none=>
   dsimp only
   rw [c0D]
   exact ⟨fun h=>⟨h0,(c0B _).1 hd,h⟩,fun h=>h.2.2⟩
  | some r=>
   dsimp only
   refine ⟨fun e=>(c6o hd e).elim,fun h=>?_⟩
   rw [(c0B _).2 h.2.1] at hd;cases hd
 ·rw [if_neg h0]
  exact ⟨fun e=>(h0 e).elim,fun e=>(h0 e.1).elim⟩
def findI:List i7→ByteArray→Int→Int
 | [],_,_=>-1
 | d::r,s,i=>if d.f6=s then i else findI r s (i+1)
theorem b3Y:∀(l:List i7)(s:ByteArray)(i:Int),0≤i→(0≤findI l s i↔hasN l s=true)
 | [],s,i,_=>by simp [findI,hasN,memS]
 | d::r,s,i,h=>by
  rw [findI]
  unfold hasN
  rw [a4l,List.map_cons,List.mem_cons]
  by_cases e:d.f6=s
  ·rw [if_pos e];exact ⟨fun _=>.inl e.symm,fun _=>h⟩
  ·rw [if_neg e,b3Y r s (i+1) (by omega)]
   unfold hasN
   rw [a4l]
   exact ⟨.inr,fun q=>q.elim (fun q=>(e q.symm).elim) id⟩
theorem c5f:∀(l:List i7)(s:ByteArray)(i:Int),0≤i→0≤findI l s i→∃d,i≤findI l s i∧l[(findI l s i-i).toNat]? = some d∧kOf l s=kindD d
 | [],s,i,_,h=>by simp [findI] at h
 | d::r,s,i,h0,h=>by
  rw [findI] at h ⊢
  rw [kOf]
  by_cases e:d.f6=s
  ·rw [if_pos e,if_pos e];exact ⟨d,Int.le_refl _,by rw [Int.sub_self];rfl,rfl⟩
  ·rw [if_neg e] at h ⊢
   rw [if_neg e]
   obtain ⟨x,h1,h2,h3⟩:=c5f r s (i+1) (by omega) h
   refine ⟨x,by omega,?_,h3⟩
   rw [show (findI r s (i+1)-i).toNat=(findI r s (i+1)-(i+1)).toNat+1 by omega]
   exact h2
end Go.Proofs.YtaokfhdinhimfaaGreatDoor
