/- Memory in parts: what is frozen (H), what the running call owns (fragments), what its callers own (the frame). Rules for operations of the second reading. No program in sight. -/
import Derived.Test.YthaaobpfbgcfiaaGreatDooryWK1
namespace Go.Proofs.YthaaobpfbgcfiaaGreatDoor
open Go.RowKit
abbrev Hp:=Nat→Option Obj
abbrev Frag:=List (Nat×Obj)
def Sub(H:Hp)(w:World):Prop:=∀i o,H i=some o→w.heap[i]? = some o
def Hle(H H':Hp):Prop:=∀i o,H i=some o→H' i=some o
theorem Hle.refl(H:Hp):Hle H H:=fun _ _ h=>h
theorem Hle.trans{A B C:Hp}(h:Hle A B)(k:Hle B C):Hle A C:=fun i o e=>k i o (h i o e)
def inF(Fs:List Frag)(i:Nat):Prop:=∃p∈Fs.flatten,p.1=i
structure Inv (w0:World) (ps:Nat→Prop) (H0 H:Hp) (Fs:List Frag) (w:World):Prop where
 sub:Sub H w
 own:∀p∈Fs.flatten,w.heap[p.1]? = some p.2
 priv:∀p∈Fs.flatten,H p.1=none
 nodup:(Fs.flatten.map (·.1)).Nodup
 fresh:∀p∈Fs.flatten,ps p.1∨w0.heap.size≤p.1
 frame:∀i,i < w0.heap.size→¬ps i→w.heap[i]? = w0.heap[i]?
 mono:w0.heap.size≤w.heap.size
 os:w.os=w0.os
 tape:w.tape=w0.tape
 output:w.output=w0.output
 le:Hle H0 H
 back:∀i,i < w0.heap.size→¬ps i→H i=H0 i
theorem c6d{W:World}{g:Nat}{o:Obj}(h:W.heap[g]? = some o):g < W.heap.size:=(Array.getElem?_eq_some_iff.1 h).1
section
variable {w0 w:World}{ps:Nat→Prop}{H0 H:Hp}{Fs:List Frag}
theorem Inv.perm{Gs:List Frag}(I:Inv w0 ps H0 H Fs w)(hp:Gs.flatten.Perm Fs.flatten):Inv w0 ps H0 H Gs w:=
 ⟨I.sub,fun p h=>I.own p (hp.mem_iff.1 h),fun p h=>I.priv p (hp.mem_iff.1 h),(hp.map _).nodup_iff.2 I.nodup,fun p h=>I.fresh p (hp.mem_iff.1 h),I.frame,I.mono,I.os,I.tape,I.output,I.le,I.back⟩
def bring:Nat→List Frag→List Frag
 | 0,l=>l
 | _+1,[]=>[]
 | k+1,a::l=>
  match bring k l with
  | []=>[a]
  | b::r=>b::a::r
theorem b5E:∀(k:Nat)(l:List Frag),(bring k l).flatten.Perm l.flatten
 | 0,_=>.refl _
 | _+1,[]=>.refl _
 | k+1,a::l=>by
  have ih:=b5E k l
  unfold bring
  split
  ·rename_i h
   rw [h] at ih
   simp only [List.flatten_cons,List.flatten_nil,List.append_nil] at ih ⊢
   rw [ih.symm.eq_nil,List.append_nil]
  ·rename_i b r h
   rw [h] at ih
   simp only [List.flatten_cons] at ih ⊢
   exact (List.perm_append_comm_assoc b a r.flatten).trans (ih.append_left a)
theorem Inv.bring(k:Nat)(I:Inv w0 ps H0 H Fs w):Inv w0 ps H0 H (bring k Fs) w:=I.perm (b5E k Fs)
theorem Inv.split{p:Nat×Obj}{F:Frag}(I:Inv w0 ps H0 H ((p::F)::Fs) w):Inv w0 ps H0 H ([p]::F::Fs) w:=I.perm (.refl _)
theorem Inv.drop{F:Frag}(I:Inv w0 ps H0 H (F::Fs) w):Inv w0 ps H0 H Fs w:=
 ⟨I.sub,fun p h=>I.own p (List.mem_append_right _ h),fun p h=>I.priv p (List.mem_append_right _ h),by
  have:=I.nodup
  rw [List.flatten_cons,List.map_append] at this
  exact (List.nodup_append.1 this).2.1,fun p h=>I.fresh p (List.mem_append_right _ h),I.frame,I.mono,I.os,I.tape,I.output,I.le,I.back⟩
theorem Inv.nil(I:Inv w0 ps H0 H Fs w):Inv w0 ps H0 H ([]::Fs) w:=I.perm (.refl _)
theorem Inv.lt(I:Inv w0 ps H0 H Fs w){p:Nat×Obj}(h:p∈Fs.flatten):p.1 < w.heap.size:=c6d (I.own p h)
theorem Inv.lt1{g:Nat}{o:Obj}{F:Frag}(I:Inv w0 ps H0 H (((g,o)::F)::Fs) w):g < w.heap.size:=I.lt (p:=(g,o)) (List.mem_cons_self ..)
theorem Inv.hp1{g:Nat}{o:Obj}{F:Frag}(I:Inv w0 ps H0 H (((g,o)::F)::Fs) w):w.heap[g]? = some o:=I.own (g,o) (List.mem_cons_self ..)
theorem Inv.Hlt(I:Inv w0 ps H0 H Fs w){i:Nat}{o:Obj}(h:H i=some o):i < w.heap.size:=c6d (I.sub i o h)
theorem Inv.Hnot(I:Inv w0 ps H0 H Fs w){i:Nat}{o:Obj}(h:H i=some o):¬inF Fs i:=by
 rintro ⟨p,hp,rfl⟩
 rw [I.priv p hp] at h
 cases h
theorem Inv.nnew(I:Inv w0 ps H0 H Fs w):¬inF Fs w.heap.size:=by
 rintro ⟨p,hp,e⟩
 have:=I.lt hp
 omega
theorem Inv.Hnew(I:Inv w0 ps H0 H Fs w):H w.heap.size=none:=by
 cases h:H w.heap.size with
 | none=>rfl
 | some o=>have:=I.Hlt h;omega
theorem Inv.alloc(I:Inv w0 ps H0 H Fs w)(o:Obj):Inv w0 ps H0 H ([(w.heap.size,o)]::Fs) (w.alloc o):=by
 have old:∀i,i < w.heap.size→(w.alloc o).heap[i]? = w.heap[i]?:=fun i hi=>Below.heap_alloc w o i hi
 have new:(w.alloc o).heap[w.heap.size]? = some o:=heap_alloc_new w o
 have hs:(w.alloc o).heap.size=w.heap.size+1:=World.size_alloc w o
 refine ⟨fun i o' h=>(old i (I.Hlt h)).trans (I.sub i o' h),?_,?_,?_,?_,fun i hi hp=>(old i (by have:=I.mono;omega)).trans (I.frame i hi hp),by have:=I.mono;omega,I.os,I.tape,I.output,I.le,I.back⟩
 ·intro p hp
  rcases List.mem_cons.1 hp with rfl | hp
  ·exact new
  ·exact (old _ (I.lt hp)).trans (I.own p hp)
 ·intro p hp
  rcases List.mem_cons.1 hp with rfl | hp
  ·exact I.Hnew
  ·exact I.priv p hp
 ·show ((w.heap.size,o)::Fs.flatten).map (·.1) |>.Nodup
  rw [List.map_cons,List.nodup_cons]
  refine ⟨fun h=>?_,I.nodup⟩
  obtain ⟨p,hp,e⟩:=List.mem_map.1 h
  exact I.nnew ⟨p,hp,e⟩
 ·intro p hp
  rcases List.mem_cons.1 hp with rfl | hp
  ·exact .inr I.mono
  ·exact I.fresh p hp
theorem Inv.drawn(I:Inv w0 ps H0 H Fs w)(n:Nat):Inv w0 ps H0 H Fs { w with drawn:=n }:=
 ⟨I.sub,I.own,I.priv,I.nodup,I.fresh,I.frame,I.mono,I.os,I.tape,I.output,I.le,I.back⟩
theorem Inv.setRow{g:Nat}{cs cs':Array Value}{t:TypeId}{fr:Nat×Nat}{F:Frag}(I:Inv w0 ps H0 H (((g,.cells cs t fr)::F)::Fs) w):Inv w0 ps H0 H (((g,.cells cs' t fr)::F)::Fs) (w.setRow g cs'):=by
 have far:∀i,i≠g→(w.setRow g cs').heap[i]? = w.heap[i]?:=fun i hi=>setRow_other w g i cs' hi
 have hs:(w.setRow g cs').heap.size=w.heap.size:=setRow_size w g cs'
 have hg:∀p∈F++Fs.flatten,p.1≠g:=by
  have:=I.nodup
  rw [show ((((g,Obj.cells cs t fr)::F)::Fs).flatten.map (·.1))=g::((F++Fs.flatten).map (·.1)) from rfl,List.nodup_cons] at this
  exact fun p hp e=>this.1 (List.mem_map.2 ⟨p,hp,e⟩)
 have hgp:ps g∨w0.heap.size≤g:=I.fresh (g,.cells cs t fr) (List.mem_cons_self ..)
 refine ⟨fun i o h=>(far i fun e=>?_).trans (I.sub i o h),?_,?_,?_,?_,fun i hi hp=>(far i fun e=>?_).trans (I.frame i hi hp),by have:=I.mono;omega,I.os,I.tape,I.output,I.le,I.back⟩
 ·subst e
  exact I.Hnot h ⟨(i,.cells cs t fr),List.mem_cons_self ..,rfl⟩
 ·intro p hp
  rcases List.mem_cons.1 hp with rfl | hp
  ·exact setRow_heap w g cs cs' t fr I.hp1
  ·exact (far _ (hg p hp)).trans (I.own p (List.mem_cons_of_mem _ hp))
 ·intro p hp
  rcases List.mem_cons.1 hp with rfl | hp
  ·exact I.priv (g,.cells cs t fr) (List.mem_cons_self ..)
  ·exact I.priv p (List.mem_cons_of_mem _ hp)
 ·exact I.nodup
 ·intro p hp
  rcases List.mem_cons.1 hp with rfl | hp
  ·exact hgp
  ·exact I.fresh p (List.mem_cons_of_mem _ hp)
 ·subst e
  rcases hgp with h | h
  ·exact hp h
  ·omega
def addF(H:Hp)(F:Frag):Hp:=fun i=>
 match F.find? (fun p=>p.1 == i) with
 | some p=>some p.2
 | none=>H i
theorem c7i{F:Frag}(hn:(F.map (·.1)).Nodup){p:Nat×Obj}(hp:p∈F):addF H F p.1=some p.2:=by
 unfold addF
 have:F.find? (fun q=>q.1 == p.1)=some p:=by
  induction F with
  | nil=>cases hp
  | cons q F ih=>
   rw [List.map_cons,List.nodup_cons] at hn
   rcases List.mem_cons.1 hp with rfl | hp
   ·simp
   ·have hne:(q.1 == p.1)=false:=by
     rw [beq_eq_false_iff_ne]
     intro e
     exact hn.1 (List.mem_map.2 ⟨p,hp,e.symm⟩)
    rw [List.find?_cons,hne]
    exact ih hn.2 hp
 rw [this]
theorem b4W{F:Frag}{i:Nat}(h:∀p∈F,p.1≠i):addF H F i=H i:=by
 unfold addF
 have:F.find? (fun q=>q.1 == i)=none:=List.find?_eq_none.2 fun p hp=>by simpa using h p hp
 rw [this]
theorem c1j(H:Hp)(F:Frag)(i:Nat):(∃p∈F,p.1=i∧addF H F i=some p.2)∨((∀p∈F,p.1≠i)∧addF H F i=H i):=by
 unfold addF
 cases h:F.find? (fun p=>p.1 == i) with
 | some p=>exact .inl ⟨p,List.mem_of_find?_eq_some h,by simpa using List.find?_some h,rfl⟩
 | none=>exact .inr ⟨fun p hp=>by simpa using List.find?_eq_none.1 h p hp,rfl⟩
theorem Inv.freeze{F:Frag}(I:Inv w0 ps H0 H (F::Fs) w):Inv w0 ps H0 (addF H F) Fs w∧Hle H (addF H F)∧∀p∈F,addF H F p.1=some p.2:=by
 have nd:=I.nodup
 rw [List.flatten_cons,List.map_append] at nd
 obtain ⟨n1,n2,n3⟩:=List.nodup_append.1 nd
 have hle:Hle H (addF H F):=fun i o h=>by
  rw [b4W fun p hp e=>?_]
  ·exact h
  ·subst e
   rw [I.priv p (List.mem_append_left _ hp)] at h
   cases h
 refine ⟨⟨?_,fun p h=>I.own p (List.mem_append_right _ h),?_,n2,fun p h=>I.fresh p (List.mem_append_right _ h),I.frame,I.mono,I.os,I.tape,I.output,I.le.trans hle,?_⟩,hle,fun p hp=>c7i n1 hp⟩
 ·intro i o h
  rcases c1j H F i with ⟨p,hp,rfl,e⟩ | ⟨_,e⟩
  ·rw [e] at h
   cases h
   exact I.own p (List.mem_append_left _ hp)
  ·rw [e] at h
   exact I.sub i o h
 ·intro p hp
  rw [b4W fun q hq e=>?_]
  ·exact I.priv p (List.mem_append_right _ hp)
  ·exact n3 q.1 (List.mem_map.2 ⟨q,hq,rfl⟩) p.1 (List.mem_map.2 ⟨p,hp,rfl⟩) e
 ·intro i hi hp
  rw [b4W fun q hq e=>?_]
  ·exact I.back i hi hp
  ·subst e
   rcases I.fresh q (List.mem_append_left _ hq) with h | h
   ·exact hp h
   ·omega
end
def Ct(P:Program)(f:FuncId)(args:List Value)(H:Hp)(Fi:List Frag)(Q:Value→Hp→List Frag→Prop)(QE:List PanicEntry→Hp→List Frag→Prop):Prop:=
 ∀w,Inv w (inF Fi) H H Fi w→Cv P f args.toArray w (fun v w'=>∃H' Fo,Inv w (inF Fi) H H' Fo w'∧Q v H' Fo) (fun c w'=>∃H' Fo,Inv w (inF Fi) H H' Fo w'∧QE c H' Fo)
def noQE:List PanicEntry→Hp→List Frag→Prop:=fun _ _ _=>False
theorem Ct.mono{P:Program}{f:FuncId}{args:List Value}{H:Hp}{Fi:List Frag}{Q Q':Value→Hp→List Frag→Prop}{QE QE':List PanicEntry→Hp→List Frag→Prop}(h:Ct P f args H Fi Q QE)(hq:∀v H' Fo,Hle H H'→Q v H' Fo→Q' v H' Fo)(he:∀c H' Fo,Hle H H'→QE c H' Fo→QE' c H' Fo):Ct P f args H Fi Q' QE':=fun w I=>
 Cv.mono (h w I) (fun _ _ ⟨H',Fo,I',q⟩=>⟨H',Fo,I',hq _ _ _ I'.le q⟩) fun _ _ ⟨H',Fo,I',q⟩=>⟨H',Fo,I',he _ _ _ I'.le q⟩
section
variable {P:Program}{E:Pan}{w0 w:World}{ps:Nat→Prop}{H0 H:Hp}{Fs:List Frag}{K:Value→World→Prop}
theorem Inv.call{Fi Fr Fo:List Frag}{H':Hp}{w':World}(I:Inv w0 ps H0 H (Fi++Fr) w)(J:Inv w (inF Fi) H H' Fo w'):Inv w0 ps H0 H' (Fo++Fr) w'∧∀i,i < w.heap.size→¬inF Fi i→w'.heap[i]? = w.heap[i]?:=by
 have nd:=I.nodup
 rw [List.flatten_append,List.map_append] at nd
 obtain ⟨n1,n2,n3⟩:=List.nodup_append.1 nd
 have memL:∀p,p∈Fi.flatten→p∈(Fi++Fr).flatten:=fun p hp=>by rw [List.flatten_append];exact List.mem_append_left _ hp
 have memR:∀p,p∈Fr.flatten→p∈(Fi++Fr).flatten:=fun p hp=>by rw [List.flatten_append];exact List.mem_append_right _ hp
 have hr:∀p∈Fr.flatten,¬inF Fi p.1:=by
  rintro p hp ⟨q,hq,e⟩
  exact n3 q.1 (List.mem_map.2 ⟨q,hq,rfl⟩) p.1 (List.mem_map.2 ⟨p,hp,rfl⟩) e
 have ho:∀p∈Fo.flatten,ps p.1∨w0.heap.size≤p.1:=fun p hp=>by
  rcases J.fresh p hp with ⟨q,hq,e⟩ | h
  ·rw [←e];exact I.fresh q (memL q hq)
  ·have:=I.mono;exact .inr (by omega)
 have hin:∀i,i < w0.heap.size→¬ps i→¬inF Fi i:=by
  rintro i hi hp ⟨q,hq,rfl⟩
  rcases I.fresh q (memL q hq) with h | h
  ·exact hp h
  ·omega
 refine ⟨⟨J.sub,?_,?_,?_,?_,fun i hi hp=>(J.frame i (by have:=I.mono;omega) (hin i hi hp)).trans (I.frame i hi hp),by have:=I.mono;have:=J.mono;omega,J.os.trans I.os,J.tape.trans I.tape,J.output.trans I.output,I.le.trans J.le,
  fun i hi hp=>(J.back i (by have:=I.mono;omega) (hin i hi hp)).trans (I.back i hi hp)⟩,J.frame⟩
 ·intro p hp
  rw [List.flatten_append] at hp
  rcases List.mem_append.1 hp with hp | hp
  ·exact J.own p hp
  ·exact (J.frame p.1 (I.lt (memR p hp)) (hr p hp)).trans (I.own p (memR p hp))
 ·intro p hp
  rw [List.flatten_append] at hp
  rcases List.mem_append.1 hp with hp | hp
  ·exact J.priv p hp
  ·exact (J.back p.1 (I.lt (memR p hp)) (hr p hp)).trans (I.priv p (memR p hp))
 ·rw [List.flatten_append,List.map_append]
  refine List.nodup_append.2 ⟨J.nodup,n2,?_⟩
  intro a ha b hb e
  subst e
  obtain ⟨p,hp,rfl⟩:=List.mem_map.1 ha
  obtain ⟨q,hq,e⟩:=List.mem_map.1 hb
  rcases J.fresh p hp with h | h
  ·exact hr q hq (by rw [e];exact h)
  ·have:=I.lt (memR q hq)
   omega
 ·intro p hp
  rw [List.flatten_append] at hp
  rcases List.mem_append.1 hp with hp | hp
  ·exact ho p hp
  ·exact I.fresh p (memR p hp)
theorem Inv.self{Fi Fr:List Frag}(I:Inv w0 ps H0 H (Fi++Fr) w):Inv w (inF Fi) H H Fi w:=by
 have nd:=I.nodup
 rw [List.flatten_append,List.map_append] at nd
 obtain ⟨n1,_,_⟩:=List.nodup_append.1 nd
 have memL:∀p,p∈Fi.flatten→p∈(Fi++Fr).flatten:=fun p hp=>by rw [List.flatten_append];exact List.mem_append_left _ hp
 exact ⟨I.sub,fun p hp=>I.own p (memL p hp),fun p hp=>I.priv p (memL p hp),n1,fun p hp=>.inl ⟨p,hp,rfl⟩,fun _ _ _=>rfl,Nat.le_refl _,rfl,rfl,rfl,Hle.refl _,fun _ _ _=>rfl⟩
theorem O2{f:FuncId}{args:List Value}{Fi Fr:List Frag}{Q:Value→Hp→List Frag→Prop}{QE:List PanicEntry→Hp→List Frag→Prop}(I:Inv w0 ps H0 H (Fi++Fr) w)(hc:Ct P f args H Fi Q QE)
  (hq:∀v H' Fo w',Inv w0 ps H0 H' (Fo++Fr) w'→Hle H H'→(∀i,i < w.heap.size→¬inF Fi i→w'.heap[i]? = w.heap[i]?)→Q v H' Fo→K v w')
  (he:∀c H' Fo w',Inv w0 ps H0 H' (Fo++Fr) w'→QE c H' Fo→E c w'):Cv P f args.toArray w K E:=
 Cv.mono (hc w I.self) (fun v w' ⟨H',Fo,J,q⟩=>hq v H' Fo w' (I.call J).1 J.le (I.call J).2 q) fun c w' ⟨H',Fo,J,q⟩=>he c H' Fo w' (I.call J).1 q
theorem a2O{s:Sem Next}{f:FuncId}{args:Array Value}(h:s.run P w=.ok (.enter f args) w)(k:Cv P f args w K E):opK P E s w K:=by
 unfold opK
 rw [h]
 exact k
theorem q9{f:FuncId}{args:List Value}{cap:List Value}(he:∀args w,(callFunc f args).run P w=.ok (.enter f args) w)(h:Cv P f (args++cap).toArray w K E):opK P E (xCall (.func (.func f) #[] cap.toArray) args) w K:=by
 refine a2O (f:=f) (args:=(args++cap).toArray) ?_ h
 simp only [xCall,Deferred.ofValue,invoke,Sem.run_bind,Sem.run_pure,Result.andThen_ok,he,List.append_toArray,List.nil_append]
theorem a7k{f:FuncId}{args cap:List Value}{Fi Fr:List Frag}{Q:Value→Hp→List Frag→Prop}(he:∀args w,(callFunc f args).run P w=.ok (.enter f args) w)(hc:Ct P f (args++cap) H Fi Q noQE)(I:Inv w0 ps H0 H (Fi++Fr) w)
  (hq:∀v H' Fo w',Inv w0 ps H0 H' (Fo++Fr) w'→Hle H H'→(∀i,i < w.heap.size→¬inF Fi i→w'.heap[i]? = w.heap[i]?)→Q v H' Fo→K v w'):opK P E (xCall (.func (.func f) #[] cap.toArray) args) w K:=
 q9 he (O2 I hc hq fun _ _ _ _ _ q=>q.elim)
theorem f9{f:FuncId}{args:List Value}{Fi Fr:List Frag}{Q:Value→Hp→List Frag→Prop}(he:∀args w,(callFunc f args).run P w=.ok (.enter f args) w)(hc:Ct P f args H Fi Q noQE)(I:Inv w0 ps H0 H (Fi++Fr) w)
  (hq:∀v H' Fo w',Inv w0 ps H0 H' (Fo++Fr) w'→Hle H H'→(∀i,i < w.heap.size→¬inF Fi i→w'.heap[i]? = w.heap[i]?)→Q v H' Fo→K v w'):opK P E (xCall (.func (.func f) #[] #[]) args) w K:=
 a7k (cap:=[]) he (by rw [List.append_nil];exact hc) I hq
theorem Ct.of{f:FuncId}{args:List Value}{Fi:List Frag}{Q:Value→Hp→List Frag→Prop}(h:∀(w0 w:World)(ps0:Nat→Prop)(H0:Hp)(R:Value→World→Prop)(E:Pan),Inv w0 ps0 H0 H Fi w→(∀v H' Fo w',Inv w0 ps0 H0 H' Fo w'→Q v H' Fo→R v w')→Cv P f args.toArray w R E):Ct P f args H Fi Q noQE:=
 fun w I=>h w w _ _ _ _ I fun _ H' Fo _ J q=>⟨H',Fo,J,q⟩
def bx(g:Nat)(t:TypeId)(cs:List Value):Frag:=[(g,.cells cs.toArray t (0,0))]
theorem Inv.at1{g:Nat}{t:TypeId}{cs:List Value}{F:Frag}(I:Inv w0 ps H0 H (((g,.cells cs.toArray t (0,0))::F)::Fs) w){o:Nat}{vs:List Value}(h:o+vs.length≤cs.length)(hv:(cs.drop o).take vs.length=vs):AtW w g o vs:=
 ⟨_,_,_,I.hp1,by simpa using h,hv⟩
theorem s6{t:TypeId}{z:Value}(I:Inv w0 ps H0 H Fs w)(hz:∀w,(zeroValue t).run P w=.ok z w){cs:List Value}(hc:z.cells=cs.toArray)
  (h:∀g w',Inv w0 ps H0 H (bx g t cs::Fs) w'→(∀i,i < w.heap.size→w'.heap[i]? = w.heap[i]?)→K (.pointer (some ⟨g,0,none⟩)) w'):opK P E (xV (Instr.alloc t true (.tuple #[]))) w K:=by
 refine a0J (v:=.pointer (some ⟨w.heap.size,0,none⟩)) (w':=w.alloc (.cells z.cells t)) ?_ ?_
 ·simp only [Instr.alloc,Sem.run_bind,hz,Result.andThen_ok,newVar,newRow,newObj,Sem.run,Sem.run_pure]
  rfl
 ·rw [hc]
  exact h _ _ (I.alloc _) fun i hi=>Below.heap_alloc w _ i hi
theorem z7{t:TypeId}{v:Value}(I:Inv w0 ps H0 H Fs w){cs:List Value}(hc:v.cells=cs.toArray)
  (h:∀g w',Inv w0 ps H0 H (bx g t cs::Fs) w'→(∀i,i < w.heap.size→w'.heap[i]? = w.heap[i]?)→K (.pointer (some ⟨g,0,none⟩)) w'):opK P E (xV (Instr.box t v)) w K:=by
 refine a0J (v:=.pointer (some ⟨w.heap.size,0,none⟩)) (w':=w.alloc (.cells v.cells t)) ?_ ?_
 ·simp only [Instr.box,Sem.run_bind,Result.andThen_ok,newVar,newRow,newObj,Sem.run,Sem.run_pure]
  rfl
 ·rw [hc]
  exact h _ _ (I.alloc _) fun i hi=>Below.heap_alloc w _ i hi
theorem E8{t t':TypeId}{g o n:Nat}{v:Value}{cs cs':List Value}{F:Frag}(I:Inv w0 ps H0 H (((g,.cells cs.toArray t' (0,0))::F)::Fs) w)(hs:∀w,(sizeOf t).run P w=.ok n w){vs:List Value}(hv:v.cells=vs.toArray)(hn:vs.length=n)
  (hb:o+n≤cs.length) (h1:vs.all (·.oneCell')=true) (hc:cs.take o++vs++cs.drop (o+vs.length)=cs')
  (h:∀w',Inv w0 ps H0 H (((g,.cells cs'.toArray t' (0,0))::F)::Fs) w'→(∀i,i≠g→w'.heap[i]? = w.heap[i]?)→K undef w'):opK P E (xU (Instr.storeAt t (.pointer (some ⟨g,o,none⟩)) v)) w K:=by
 subst hn
 refine c0g (w':=w.setRow g cs'.toArray) ?_ ?_
 ·have:=run_storeCells_at (P:=P) g o t' vs 0 cs.toArray w I.hp1 (by simpa using hb) (fun v' hv'=>List.all_eq_true.1 h1 v' hv')
  simp only [Nat.add_zero] at this
  have hsz:vs.toArray.size=vs.length:=by simp
  simp only [Instr.storeAt,b4V,Sem.run_bind,Sem.run_pure,Result.andThen_ok,storeVar,hs,hv,hsz,ne_eq,not_true_eq_false,if_false,this,hc]
 ·exact h _ I.setRow fun i hi=>setRow_other w g i _ hi
theorem C6{K:World→Prop}(I:Inv w0 ps H0 H Fs w)(h:∀w',Inv w0 ps H0 H Fs w'→K w'):dX w K:=h _ (I.drawn _)
def AtH(H:Hp)(g o:Nat)(vs:List Value):Prop:=∃arr t fr,H g=some (.cells arr t fr)∧o+vs.length≤arr.size∧(arr.toList.drop o).take vs.length=vs
theorem AtH.le{H':Hp}{g o:Nat}{vs:List Value}(h:AtH H g o vs)(e:Hle H H'):AtH H' g o vs:=by
 obtain ⟨arr,t,fr,h1,h2⟩:=h
 exact ⟨arr,t,fr,e _ _ h1,h2⟩
theorem Inv.atH(I:Inv w0 ps H0 H Fs w){g o:Nat}{vs:List Value}(h:AtH H g o vs):AtW w g o vs:=by
 obtain ⟨arr,t,fr,h1,h2⟩:=h
 exact ⟨arr,t,fr,I.sub _ _ h1,h2⟩
theorem Inv.a5f(I:Inv w0 ps H0 H Fs w){g o:Nat}{vs:List Value}(h:AtH H g o vs):g < w.heap.size:=by
 obtain ⟨arr,t,fr,h1,_⟩:=h
 exact I.Hlt h1
theorem Inv.c0i(I:Inv w0 ps H0 H Fs w){g o:Nat}{vs:List Value}(h:AtH H g o vs):¬inF Fs g:=by
 obtain ⟨arr,t,fr,h1,_⟩:=h
 exact I.Hnot h1
structure Sl where
 a:Option Addr
 n:Nat
 c:Nat
def Sl.v(s:Sl):Value:=.slice s.a s.n s.c
theorem nb{n m:Nat}(h:Nat.ble n m=true):n≤m:=Nat.le_of_ble_eq_true h
abbrev vi(n:Int):Value:=.int .i64 n
abbrev vs(s:Sl):Value:=.slice s.a s.n s.c
def EltH(H:Hp)(s:Sl)(i:Int)(sz:Nat)(vs:List Value):Prop:=∃g o,s.a=some ⟨g,o,none⟩∧AtH H g (o+i.toNat*sz) vs
theorem EltH.le{H':Hp}{s:Sl}{i:Int}{sz:Nat}{vs:List Value}(h:EltH H s i sz vs)(e:Hle H H'):EltH H' s i sz vs:=by
 obtain ⟨g,o,h1,h2⟩:=h
 exact ⟨g,o,h1,h2.le e⟩
def RowR(t:TypeId)(sz:Nat)(s:Sl)(cs:List Value)(F:Frag):Prop:=
 cs.length=s.n*sz∧((s=⟨none,0,0⟩∧F=[])∨∃g arr,s.a=some ⟨g,0,none⟩∧F=[(g,.cells arr t (0,0))]∧s.n≤s.c∧s.c≤maxLen∧arr.size=s.c*sz∧arr.toList.take (s.n*sz)=cs)
theorem RowR.nil(t:TypeId)(sz:Nat):RowR t sz ⟨none,0,0⟩ [] []:=⟨by simp,.inl ⟨rfl,rfl⟩⟩
theorem RowR.at_{t:TypeId}{sz:Nat}{s:Sl}{cs:List Value}{F:Frag}(hr:RowR t sz s cs F)(I:Inv w0 ps H0 H (F::Fs) w){g:Nat}{o:Nat}{arr:Array Value}(hF:F=[(g,.cells arr t (0,0))]){vs:List Value}(ht:arr.toList.take (s.n*sz)=cs)(h:o+vs.length≤cs.length)(hv:(cs.drop o).take vs.length=vs):AtW w g o vs:=by
 subst hF
 have hl:cs.length≤arr.size:=by
  have:=congrArg List.length ht
  simp only [List.length_take,Array.length_toList] at this
  omega
 refine ⟨arr,t,(0,0),I.hp1,by omega,?_⟩
 have hk:=hr.1
 rw [←ht,List.drop_take,List.take_take,Nat.min_eq_left (by omega)] at hv
 exact hv
theorem RowR.elt{t:TypeId}{sz:Nat}{s:Sl}{cs:List Value}{F:Frag}(hr:RowR t sz s cs F)(hF:∀p∈F,H p.1=some p.2){i:Int}{vs:List Value}(hi:0≤i)(h:i.toNat*sz+vs.length≤cs.length)(h0:vs≠[])(hv:(cs.drop (i.toNat*sz)).take vs.length=vs):EltH H s i sz vs:=by
 obtain ⟨h1,h2⟩:=hr
 rcases h2 with ⟨rfl,rfl⟩ | ⟨g,arr,ha,rfl,h3,h4,h5,h6⟩
 ·simp only [Nat.zero_mul] at h1
  have:vs.length≠0:=fun e=>h0 (List.length_eq_zero_iff.1 e)
  omega
 ·have hl:cs.length≤arr.size:=by
   have:=congrArg List.length h6
   simp only [List.length_take,Array.length_toList] at this
   omega
  refine ⟨g,0,ha,arr,t,(0,0),hF _ (List.mem_singleton_self _),by omega,?_⟩
  rw [Nat.zero_add]
  rw [←h6,List.drop_take,List.take_take,Nat.min_eq_left (by omega)] at hv
  exact hv
end
end Go.Proofs.YthaaobpfbgcfiaaGreatDoor
