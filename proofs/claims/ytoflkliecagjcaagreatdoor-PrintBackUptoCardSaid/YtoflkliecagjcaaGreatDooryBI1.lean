/- Printing: a writer that embeds a strings.Builder: what the builder's methods do to the writer's own block. -/
import Derived.Lib.UnsafeStr
import Derived.Lib.Builder
import Derived.Laws.Externs
import Derived.Test.YtoflkliecagjcaaGreatDooryBQ9
namespace Go.Proofs.YtoflkliecagjcaaGreatDoor
open Go.RowKit
set_option maxRecDepth 100000
set_option maxHeartbeats 1000000
def ib(l:List UInt8):List Int:=l.map fun b=>(b.toNat:Int)
theorem d3g(a b:List UInt8):ib (a++b)=ib a++ib b:=List.map_append
theorem b5i(a:List UInt8):(ib a).length=a.length:=List.length_map ..
theorem d4v(s:ByteArray):sbytes s=ib s.data.toList:=rfl
theorem c6m(l:List UInt8):(ib l).flatMap t8=Lib.byteCells l:=by
 unfold ib Lib.byteCells
 induction l with
 | nil=>rfl
 | cons b l ih=>rw [List.map_cons,List.flatMap_cons,ih,List.map_cons];rfl
theorem Inv.mod{w0 w:World}{ps:Nat→Prop}{H0 H:Hp}{Fs:List Frag}{g:Nat}{o o':Obj}{F:Frag}(I:Inv w0 ps H0 H (((g,o)::F)::Fs) w)(w':World)(hg:w'.heap[g]? = some o')(far:∀i,i≠g→w'.heap[i]? = w.heap[i]?)
  (hs:w'.heap.size=w.heap.size) (ho:w'.os=w.os) (ht:w'.tape=w.tape) (hO:w'.output=w.output):Inv w0 ps H0 H (((g,o')::F)::Fs) w':=by
 have hne:∀p∈F++Fs.flatten,p.1≠g:=by
  have:=I.nodup
  rw [show ((((g,o)::F)::Fs).flatten.map (·.1))=g::((F++Fs.flatten).map (·.1)) from rfl,List.nodup_cons] at this
  exact fun p hp e=>this.1 (List.mem_map.2 ⟨p,hp,e⟩)
 have hgp:ps g∨w0.heap.size≤g:=I.fresh (g,o) (List.mem_cons_self ..)
 refine ⟨fun i x h=>(far i fun e=>?_).trans (I.sub i x h),?_,?_,I.nodup,?_,fun i hi hp=>(far i fun e=>?_).trans (I.frame i hi hp),by have:=I.mono;omega,ho.trans I.os,ht.trans I.tape,hO.trans I.output,I.le,I.back⟩
 ·subst e
  exact I.Hnot h ⟨(i,o),List.mem_cons_self ..,rfl⟩
 ·intro p hp
  rcases List.mem_cons.1 hp with rfl | hp
  ·exact hg
  ·exact (far _ (hne p hp)).trans (I.own p (List.mem_cons_of_mem _ hp))
 ·intro p hp
  rcases List.mem_cons.1 hp with rfl | hp
  ·exact I.priv (g,o) (List.mem_cons_self ..)
  ·exact I.priv p (List.mem_cons_of_mem _ hp)
 ·intro p hp
  rcases List.mem_cons.1 hp with rfl | hp
  ·exact hgp
  ·exact I.fresh p (List.mem_cons_of_mem _ hp)
 ·subst e
  rcases hgp with h | h
  ·exact hp h
  ·omega
theorem Inv.frz{w0 w:World}{ps:Nat→Prop}{H0 H:Hp}{Fs:List Frag}{g:Nat}{cs:Array Value}{t:TypeId}{fr:Nat×Nat}{F:Frag}(I:Inv w0 ps H0 H (((g,.cells cs t fr)::F)::Fs) w)(n:Nat):∃fr',Inv w0 ps H0 H (((g,.cells cs t fr')::F)::Fs) (w.freeze ⟨g,0,none⟩ n):=by
 by_cases hn:n=0
 ·exact ⟨fr,by unfold World.freeze;rw [if_pos hn];exact I⟩
 refine ⟨if fr.1 == fr.2 then (0,0+n) else (min fr.1 0,max fr.2 (0+n)),I.mod _ ?_ ?_ ?_ ?_ ?_ ?_⟩
 ·have:=I.hp1
  simp [World.freeze,hn,Array.getElem?_modify,this]
 ·intro i hi
  simp [World.freeze,hn,Array.getElem?_modify,Ne.symm hi]
 all_goals simp [World.freeze,hn]
theorem c9h {P : Program} {E : Pan} {w : World} {K : Value → World → Prop} {f : FuncId} {fn : Func} {e : Array Value → Sem Value} {args : List Value} {v : Value} (hf : P.funcs[f]? = some fn) (hname : (fn.name == "runtime.NumGoroutine") = false) (hb : fn.body.isNone = true) (hn : Extern.findNext fn = none) (he : Extern.find fn = some e)
  (hr:(e args.toArray).run P w=.ok v w) (k:K v w):opK P E (xCall (.func (.func f) #[] #[]) args) w K:=by
 have h:(xCall (.func (.func f) #[] #[]) args).run P w=.ok (.value v) w:=by
  have h1:=run_callFunc_extern hf hname hb hn he args.toArray w
  rw [hr] at h1
  simp only [xCall,Deferred.ofValue,invoke,Sem.run_bind,Sem.run_pure,Result.andThen_ok,Array.empty_append,Array.append_empty,h1]
 unfold opK
 rw [h]
 exact k
theorem d3h:∃j,Tryz.prog.info? 45=some j∧j.size≠0:=by
 have h:(Tryz.prog.info? 45).map (·.size)=some 2:=by kernel_rfl
 obtain ⟨j,hj,hs⟩:=Option.map_eq_some_iff.1 h
 exact ⟨j,hj,by rw [hs];decide⟩
theorem b8I{x:c7}{xs:List Int}{H:Hp}{K:c7→List Int→Hp→Prop}(h:K ⟨⟨some ⟨0,0,none⟩,Sl.mk none 0 0⟩,x.fdeep⟩ xs H):a3V x xs H K:=by
 intro g0 a b hr
 refine Ct.of fun w0 w ps0 H0 R E I hR=>d1J ?_
 unfold F82
 obtain ⟨⟨ad,bf⟩,dp⟩:=x
 have hsh:∀{cs:List Value}{w:World}{Fs:List Frag},Inv w0 ps0 H0 H (bx g0 47 cs::Fs) w→w.shape? g0=some (47,cs.length):=fun I=>by
  have:=I.hp1
  simp [World.shape?,this]
 obtain ⟨j,hj,hjs⟩:=d3h
 refine a7 (q9 _) ?_
 refine a7 b1a ?_
 cases ad with
 | none=>
  refine b8 (l1 Tryz.isAgg42 (v:=.pointer none) I rfl) ?_
  refine a7 (b7T 42 _ _ none Tryz.underlying42) ?_
  refine W8 (fun _=>?_) (fun c=>by cases c)
  refine V8 (Lib.run_to_unsafe w ⟨g0,0,none⟩ Tryz.underlying42 Tryz.underlying181 hj hjs (hsh I) (by show 0 < 3;decide)) ?_
  refine c9h Tryz.func114 (by kernel_rfl) (by kernel_rfl) (by kernel_rfl) (e:=Extern.AbiNoEscape.same) (by kernel_rfl) (Lib.run_noEscape w _) ?_
  refine V8 (Lib.run_from_unsafe w ⟨g0,0,none⟩ Tryz.underlying181 Tryz.underlying42 hj (hsh I) (by kernel_rfl)) ?_
  refine a7 (q9 _) ?_
  refine a7 b1a ?_
  refine N7 I Tryz.sizeOf42 fun w1 I1 _=>?_
  exact hR _ H _ _ I1 ⟨⟨⟨some ⟨0,0,none⟩,Sl.mk none 0 0⟩,dp⟩,xs,a,b,rfl,rfl,hr,h⟩
 | some ad=>
  refine b8 (l1 Tryz.isAgg42 (v:=.pointer (some ⟨g0,0,none⟩)) I rfl) ?_
  refine a7 (b7T 42 _ _ (some ⟨g0,0,none⟩) Tryz.underlying42) ?_
  refine W8 (fun c=>by cases c) (fun _=>?_)
  refine a7 (q9 _) ?_
  refine a7 b1a ?_
  refine b8 (l1 Tryz.isAgg42 (v:=.pointer (some ⟨g0,0,none⟩)) I rfl) ?_
  have hn:∀w:World,(do eqGuard .neq 42 (.tmp 17) (.tmp 18) (.pointer (some ⟨g0,0,none⟩)) (.pointer (some ⟨g0,0,none⟩));binOp .neq 42 (.pointer (some ⟨g0,0,none⟩)) (.pointer (some ⟨g0,0,none⟩)):Sem Value).run Tryz.prog w=.ok (.bool false) w:=fun w=>by
   rw [Sem.run_bind,a9V,Result.andThen_ok]
   exact Lib.run_neq_ptr_same w _ Tryz.underlying42 hj
  refine a7 (Pu.ok (s:=do eqGuard .neq 42 (.tmp 17) (.tmp 18) (.pointer (some ⟨g0,0,none⟩)) (.pointer (some ⟨g0,0,none⟩));binOp .neq 42 (.pointer (some ⟨g0,0,none⟩)) (.pointer (some ⟨g0,0,none⟩))) hn) ?_
  refine W8 (fun c=>by cases c) (fun _=>?_)
  exact hR _ H _ _ I ⟨⟨⟨some ⟨0,0,none⟩,Sl.mk none 0 0⟩,dp⟩,xs,a,b,rfl,rfl,hr,h⟩
theorem c6n{x:c7}{l:List UInt8}{s:ByteArray}{H:Hp}{K:Int→Value→c7→List Int→Hp→Prop}(hb:l.length+s.size≤1099511627776)(h:∀n v y,y.fdeep=x.fdeep→K n v y (ib (l++s.data.toList)) H):a0A x (ib l) s H K:=by
 refine a7e _ _ _ ?_
 unfold a3z
 refine b8I ⟨by rw [b5i];omega,?_⟩
 rw [d4v,← d3g]
 exact h _ _ _ rfl
theorem d3i{x:c7}{xs:List Int}{H:Hp}{K:Int→Hp→Prop}(h:K xs.length H):a3J x xs H K:=b0H _ _ h
theorem b6d{x:c7}{l:List UInt8}{H:Hp}{K:Bool→Hp→Prop}(h:K (decide (65536 < l.length)) H):Z1 x (ib l) H K:=by
 refine a8w _ _ ?_
 unfold a4s
 refine d3i ?_
 rw [b5i,show (decide ((65536:Int) < (l.length:Int)))=decide (65536 < l.length) from decide_eq_decide.2 (by omega)]
 exact h
theorem b6R{x:c7}{l:List UInt8}{H:Hp}{K:ByteArray→c7→List Int→Hp→Prop}(h:∀y c,K ⟨l.toArray⟩ y c H):a2y x (ib l) H K:=by
 intro g0 a b hr
 refine Ct.of fun w0 w ps0 H0 R E I hR=>d0m ?_
 unfold F14
 refine T1 I fun w1 I1=>?_
 refine o0 (q9 _) ?_
 refine o0 a6D ?_
 refine o0 (q9 _) ?_
 refine o0 a6D ?_
 refine u7 (l1 Tryz.isAgg43 I1 rfl) ?_
 refine u7 (l1 Tryz.isAgg43 I1 rfl) ?_
 refine o0 (a8R Tryz.underlying43 hr) ?_
 rw [b5i]
 have hp74:Tryz.prog.underlying 78=some (.pointer 5):=Tryz.underlying78
 have fin:∀(F':Frag)(w':World),Inv w0 ps0 H0 H [bx g0 47 (i8 g0 x a),F'] w'→R (.string ⟨l.toArray⟩) w':=fun F' w' I'=>hR _ H _ _ I' ⟨⟨l.toArray⟩,x,ib l,a,F',rfl,rfl,True.intro,h _ _⟩
 have hd:∀v,xBuiltin .unsafeSliceData #[43] 78 [false] [v]=xV (Builtin.unsafeSliceData_ #[43] 78 #[v]):=fun _=>rfl
 have hu:∀p n,xBuiltin .unsafeString #[78,3] 9 [false,false] [p,n]=xV (Builtin.unsafeString_ #[78,3] 9 #[p,n]):=fun _ _=>rfl
 rw [hd]
 obtain ⟨⟨h1,h2⟩,h3,h4,h5⟩:=hr
 rw [b5i] at h3
 rw [c6m] at h1 h2
 rcases h2 with ⟨rfl,rfl⟩ | ⟨g,arr,ha,rfl,q1,q2,q3,q4⟩
 ·refine V8 (Lib.run_unsafeSliceData_nil _ _ _ _ _) ⟨rfl,?_⟩
  rw [hu]
  obtain rfl:l=[]:=List.length_eq_zero_iff.1 h3.symm
  exact V8 (Lib.run_unsafeString_none w1 _ _ _ _) (fin [] _ I1)
 ·have I2:=I1.bring 1
  have hg:=I2.hp1
  have hsh:w1.shape? g=some (5,arr.size):=by simp [World.shape?,hg]
  obtain ⟨aa,an,ac⟩:=a
  dsimp only at ha h1 h3 q1 q2 q3 q4
  subst ha
  by_cases hc:ac=0
  ·have hn0:an=0:=by omega
   obtain rfl:l=[]:=List.length_eq_zero_iff.1 (by omega)
   subst hc hn0
   refine V8 (Lib.run_unsafeSliceData_zero w1 _ _ 5 hp74 ⟨g,0,none⟩ 0 _ hsh) ⟨Below.heap_alloc w1 _ g0 I1.lt1,?_⟩
   rw [hu]
   exact V8 (Lib.run_unsafeString_none _ _ _ _ _) (fin _ _ ((I1.alloc _).drop))
  ·refine V8 (Lib.run_unsafeSliceData_row _ _ _ _ _ _ hc) ⟨rfl,?_⟩
   rw [hu]
   by_cases h0:l=[]
   ·subst h0
    exact V8 (Lib.run_unsafeString_none w1 _ _ _ _) (fin _ _ I1)
   ·rw [Nat.mul_one] at h1 q3 q4
    have hl:=Lib.byteCells_length l
    have hle:an≤arr.size:=by omega
    have hm:ac≤9223372036854775807:=by unfold maxLen at q2;omega
    obtain ⟨fr',I3⟩:=I2.frz l.length
    refine V8 (Lib.run_unsafeString_row w1 _ _ _ 5 hp74 (by kernel_rfl) g arr.size hsh l h0 (by omega) (by omega) fun j z hz=>?_) (fin _ _ (I3.bring 1))
    have hj:=(List.getElem?_eq_some_iff.1 hz).1
    have e1:(Lib.byteCells l)[j]? = some (.int .u8 z.toNat):=by simp [Lib.byteCells,hz]
    rw [←q4,List.getElem?_take,if_pos (by omega),Array.getElem?_toList] at e1
    rw [show (⟨g,0,none⟩:Addr).add j=⟨g,j,none⟩ by cases j<;>simp [Addr.add]]
    simp [World.cell?,hg,e1]
def putAllW:List UInt8→List (List UInt8)→List UInt8
 | xs,[]=>xs
 | xs,s::l=>if 65536 < xs.length then xs else putAllW (xs++s) l
theorem d3j{x:c7}{l:List UInt8}{s:Sl}{ps:List ByteArray}{H:Hp}{K:c7→List Int→Hp→Prop}(hs:SlH H 1 q6 s ps)(hp:∀p∈ps,p.size≤1048576)(hl:l.length≤1114112)(hn:ps.length≤100)
  (h:∀y,y.fdeep=x.fdeep→K y (ib (putAllW l (ps.map (·.data.toList)))) H):v6 x (ib l) s H K:=by
 refine a9c _ _ _ ?_
 unfold a4H
 have hsn:=hs.1
 refine U6 (fun st H'=>H'=H∧∃(i:Nat)(ad:Option Addr)(m:List UInt8),i≤ps.length∧st=((i:Int),ad,ib m,x.fdeep)∧m.length≤1114112∧putAllW m ((ps.drop i).map (·.data.toList))=putAllW l (ps.map (·.data.toList))) (fun st=>ps.length-st.1.toNat)
  ⟨rfl,0,x.G8.faddr,l,Nat.zero_le _,rfl,hl,by rw [List.drop_zero]⟩ ?_
 rintro st H1 next ⟨rfl,i,ad,m,hi,rfl,hm,hv⟩ hnx
 dsimp only
 unfold a1f
 refine ⟨fun q=>?_,fun q=>?_⟩
 ·have hi':i < ps.length:=by omega
  obtain ⟨p,hpi⟩:∃p,ps[i]? = some p:=⟨_,List.getElem?_eq_getElem hi'⟩
  have hdrop:ps.drop i=p::ps.drop (i+1):=by
   obtain ⟨hlt,heq⟩:=List.getElem?_eq_some_iff.1 hpi
   rw [List.drop_eq_getElem_cons hlt,heq]
  have hps:=hp p (List.mem_of_getElem? hpi)
  rw [hdrop,List.map_cons,putAllW] at hv
  refine ⟨by omega,by omega,p,hs.2 i p hpi,b6d ⟨fun c=>?_,fun c=>?_⟩⟩
  ·rw [decide_eq_true_eq] at c
   rw [if_pos c] at hv
   rw [hv]
   exact h _ rfl
  ·rw [decide_eq_false_iff_not] at c
   rw [if_neg c] at hv
   refine c6n (by omega) fun n v y hy=>?_
   rw [show IntKind.wrap .i64 ((i:Int)+1)=((i+1:Nat):Int) by rw [a0e (by omega) (by omega)];omega]
   have hsz:p.data.toList.length=p.size:=by rw [Array.length_toList];rfl
   exact hnx _ _ ⟨rfl,i+1,y.G8.faddr,m++p.data.toList,by omega,by rw [hy],by rw [List.length_append];omega,hv⟩ (by dsimp only;omega)
 ·obtain rfl:i=ps.length:=by omega
  rw [List.drop_length,List.map_nil,putAllW] at hv
  rw [hv]
  exact h _ rfl
end Go.Proofs.YtoflkliecagjcaaGreatDoor
