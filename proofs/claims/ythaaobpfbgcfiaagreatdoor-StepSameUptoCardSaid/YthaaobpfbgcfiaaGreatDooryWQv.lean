/- The walk told by counts and depths; a well program without some of its statements; the document's check of declarations and uses is the program's. Plain. -/
import Derived.Test.YthaaobpfbgcfiaaGreatDooryWQx
namespace Go.Proofs.YthaaobpfbgcfiaaGreatDoor
open Go.RowKit
set_option maxRecDepth 100000
set_option maxHeartbeats 2000000
theorem b9c(ds:List j7):∀l:List Us,(useT ds l).2=0↔∀u∈l,kOf ds u.f8=asU u
 | []=>by rw [useT];exact ⟨(fun _ u h=>by cases h),fun _=>rfl⟩
 | u::l=>by
  rw [useT]
  by_cases h:kOf ds u.f8=asU u
  ·rw [if_pos h,b9c ds l]
   constructor
   ·intro g v hv
    rcases List.mem_cons.1 hv with e | hv
    ·rw [e];exact h
    ·exact g v hv
   ·exact fun g v hv=>g v (List.mem_cons_of_mem _ hv)
  ·rw [if_neg h]
   constructor
   ·intro e
    split at e
    ·exact (by decide:(63:Int)≠0) e |>.elim
    ·exact (by decide:(64:Int)≠0) e |>.elim
   ·exact fun g=>(h (g u List.mem_cons_self)).elim
theorem a5E(q:PP):(wellS q).2=0↔toldS q.nodes=0∧DeclOk q.decls∧∀u∈uTs q.body,kOf q.decls u.f8=asU u:=by
 unfold wellS
 by_cases h0:toldS q.nodes=0
 ·rw [if_pos h0]
  cases hd:declT [] q.decls with
  | none=>
   dsimp only
   rw [b9c]
   exact ⟨fun h=>⟨h0,(b9b _).1 hd,h⟩,fun h=>h.2.2⟩
  | some r=>
   dsimp only
   refine ⟨fun e=>(c5o hd e).elim,fun h=>?_⟩
   rw [(b9b _).2 h.2.1] at hd;cases hd
 ·rw [if_neg h0]
  exact ⟨fun e=>(h0 e).elim,fun e=>(h0 e.1).elim⟩
section
variable {α:Type}{P:Program}{E:Pan}{w0 w:World}{ps:Nat→Prop}{H0 H:Hp}{Fs:List Frag}{F:Frag}{K:Value→World→Prop}{e:TypeId}{sz:Nat}{c:α→List Value}{s:Sl}{xs:List α}
theorem c8z(h:∀x,(c x).length=sz)(xs:List α){i:Nat}(hi:i≤xs.length):(xs.flatMap c).take (i*sz)=(xs.take i).flatMap c:=by
 have e1:xs.flatMap c=(xs.take i).flatMap c++(xs.drop i).flatMap c:=by rw [←List.flatMap_append,List.take_append_drop]
 have e2:((xs.take i).flatMap c).length=i*sz:=by rw [S6 h,List.length_take,Nat.min_eq_left hi]
 rw [e1,← e2,List.take_left]
theorem c8A{t ty:TypeId}{z:Value}{x0:α}(ht:P.underlying t=some (.slice e))(hz:∀w,(zeroValue e).run P w=.ok z w)(hzc:z.cells=(c x0).toArray)(h0:0 < sz)(I:Inv w0 ps H0 H (F::Fs) w)(h:RowL e sz c s xs F){i:Nat}(hi:i≤xs.length)
  (hk:∀(F':Frag)(w':World),RowL e sz c s (xs.take i++List.replicate (xs.length-i) x0) F'→Inv w0 ps H0 H (F'::Fs) w'→(∀k,(∀p∈F,p.1≠k)→w'.heap[k]? = w.heap[k]?)→K (.tuple #[]) w'):
  opK P E (xBuiltin .clear #[t] ty [false] [.slice (s.cut i s.n s.c sz).a (s.cut i s.n s.c sz).n (s.cut i s.n s.c sz).c]) w K:=by
 have hx:xBuiltin .clear #[t] ty [false] [.slice (s.cut i s.n s.c sz).a (s.cut i s.n s.c sz).n (s.cut i s.n s.c sz).c]=xV (Builtin.clear_ #[t] ty #[.slice (s.cut i s.n s.c sz).a (s.cut i s.n s.c sz).n (s.cut i s.n s.c sz).c]):=rfl
 rw [hx]
 obtain ⟨⟨h1,h2⟩,h3,h4,h5⟩:=h
 by_cases hn:i=xs.length
 ·subst hn
  have hrun:(Builtin.clear_ #[t] ty #[.slice (s.cut xs.length s.n s.c sz).a (s.cut xs.length s.n s.c sz).n (s.cut xs.length s.n s.c sz).c]).run P w=.ok (.tuple #[]) w:=by
   have:(s.cut xs.length s.n s.c sz).n=0:=by show s.n-xs.length=0;omega
   rw [this]
   cases (s.cut xs.length s.n s.c sz).a<;>simp [Builtin.clear_,run_underlying ht,Result.andThen]
  refine a0J hrun (hk F w ?_ I fun _ _=>rfl)
  rw [Nat.sub_self,List.replicate_zero,List.append_nil,List.take_length]
  exact ⟨⟨h1,h2⟩,h3,h4,h5⟩
 ·rcases h2 with ⟨rfl,_⟩ | ⟨g,arr,ha,rfl,q1,q2,q3,q4⟩
  ·have:(0:Nat)=xs.length:=h3
   omega
  ·obtain ⟨m,hm⟩:∃m,s.n-i=m+1:=⟨s.n-i-1,by omega⟩
   have e1:=S6 h4 xs
   have hvl:((List.replicate (xs.length-i) x0).flatMap c).length=(xs.length-i)*sz:=by rw [S6 h4,List.length_replicate]
   have hmul:i*sz+(xs.length-i)*sz=xs.length*sz:=by rw [←Nat.add_mul];congr 1;omega
   have hle:xs.length*sz≤arr.size:=by
    have:=congrArg List.length q4
    simp only [List.length_take,Array.length_toList] at this
    omega
   have hst:=run_storeCells_at P g (i*sz) e ((List.replicate (xs.length-i) x0).flatMap c) 0 arr w I.hp1 (by omega) (b8k h5 _)
   rw [Nat.add_zero] at hst
   have hzs:z.cells.size=sz:=by rw [hzc,List.size_toArray,h4]
   have hzc':(Builtin.zeroCells z.cells (m+1)).toList=(List.replicate (xs.length-i) x0).flatMap c:=by
    rw [←b7l hzc h4 h0 (xs.length-i),← hm,h3]
    unfold Builtin.zeroCells madeCells
    rw [hzs]
   have hrun:(Builtin.clear_ #[t] ty #[.slice (s.cut i s.n s.c sz).a (s.cut i s.n s.c sz).n (s.cut i s.n s.c sz).c]).run P w=.ok (.tuple #[]) (w.setRow g (arr.toList.take (i*sz)++(List.replicate (xs.length-i) x0).flatMap c++arr.toList.drop (i*sz+((List.replicate (xs.length-i) x0).flatMap c).length)).toArray):=by
    have e2:s.cut i s.n s.c sz=⟨some ⟨g,i*sz,none⟩,m+1,s.c-i⟩:=by
     unfold Sl.cut
     rw [if_neg (by omega),ha,hm,Option.map_some,a3R,Nat.zero_add]
    rw [e2]
    simp [Builtin.clear_,run_underlying ht,hz,hzc',hst,Result.andThen]
   refine a0J hrun (hk _ _ ⟨⟨?_,.inr ⟨g,_,ha,rfl,q1,q2,?_,?_⟩⟩,?_,h4,h5⟩ I.setRow fun k hkk=>setRow_other w g k _ fun eq=>hkk (g,.cells arr e (0,0)) (List.mem_singleton_self _) eq.symm)
   ·rw [S6 h4,List.length_append,List.length_take,List.length_replicate,h3];congr 1;omega
   ·simp only [List.size_toArray,List.length_append,List.length_take,List.length_drop,hvl,Array.length_toList]
    omega
   ·rw [List.flatMap_append,← c8z h4 xs hi,← q4,h3,List.take_take,Nat.min_eq_left (by omega)]
    have hl:(arr.toList.take (i*sz)++(List.replicate (xs.length-i) x0).flatMap c).length=xs.length*sz:=by
     rw [List.length_append,List.length_take,hvl,Array.length_toList];omega
    rw [List.toList_toArray,← hl,List.take_left]
   ·rw [List.length_append,List.length_take,List.length_replicate];omega
end
section
variable {H:Hp}
abbrev delV(g:Nat):Value:=.func (.func 53) #[] #[.pointer (some ⟨g,0,none⟩)]
theorem c3W(d:j7)(k:Int)(g:Nat):Ct Tryz.prog 53 [(Value.agg (m3 d).toArray),.pointer (some ⟨g,0,none⟩)] H [bx g 3 [vi k]] (fun v H' Fo=>v=.bool (!decide (kindD d=k))∧H'=H∧Fo=[bx g 3 [vi k]]) noQE:=by
 intro w I
 refine d0F ?_
 unfold F53
 refine z7 I (cs:=m3 d) rfl fun g1 w1 I1 k1=>?_
 refine C6 I1 fun w2 I2=>?_
 refine i8 (ldA (vs:=m3 d) Tryz.isAgg58 Tryz.sizeOf58 rfl (I2.at1 (o:=0) (nb rfl) rfl)) ?_
 refine i8 (ld1 Tryz.isAgg3 ((I2.bring 1).at1 (o:=0) (vs:=[(vi k)]) (nb rfl) rfl)) ?_
 refine q9 (cap:=[]) (fun args w=>Tryz.call47 args w) ?_
 refine O2 (Fi:=[]) (Fr:=[bx g1 58 (m3 d),bx g 3 [vi k]]) I2 (c0S (K:=fun r H'=>r=kindD d∧H'=H) ⟨rfl,rfl⟩) (fun v H3 Fo w3 I3 l3 k3 q=>?_) (fun _ _ _ _ _ q=>q.elim)
 obtain ⟨r,rfl,rfl,rfl,rfl⟩:=q
 refine ⟨k3 g (I2.bring 1).lt1 (fun ⟨p,hp,_⟩=>by cases hp),?_⟩
 refine d6 (O8 _ _ _ _ _ _) ?_
 exact ⟨_,_,I3.drop,rfl,rfl,rfl⟩
theorem c3X{s:Sl}{ds:List j7}{F:Frag}(k:Int)(g:Nat)(hr:RowL 58 2 m3 s ds F)(hb:ds.length≤big):Ct Tryz.prog 90 [vs s,delV g] H [F,bx g 3 [vi k]]
  (fun v H' Fo=>∃i:Int,v=vi i∧H'=H∧Fo=[F,bx g 3 [vi k]]∧((i = -1∧∀d∈ds,kindD d=k)∨(0≤i∧(∀d∈ds.take i.toNat,kindD d=k)∧∃d,ds[i.toNat]? = some d∧kindD d≠k))) noQE:=by
 intro w I
 refine d1s ?_
 unfold F90
 simp only [big] at hb
 refine v6 fun j1 hx1=>?_
 refine b6 (a3S Tryz.underlying22 hr) ?_
 refine K7 (J:=fun n l w'=>∃i:Nat,n=ds.length-i∧l=[vi (i:Int)]∧i≤ds.length∧Inv w (inF [F,bx g 3 [vi k]]) H H [F,bx g 3 [vi k]] w'∧∀d∈ds.take i,kindD d=k) ⟨_,0,rfl,rfl,Nat.zero_le _,I,fun d hd=>by simp at hd⟩ ?_
 rintro n τ w1 next2 ⟨i,rfl,hl,hi,I1,ha⟩ hn2
 simp only [List.map_cons,List.map_nil,List.cons.injEq,and_true] at hl
 simp only [hl]
 unfold c3D
 refine b6 (A4 _ _ _ _ _ _) ?_
 refine D7 (fun c=>?_) (fun c=>?_)
 ·obtain ⟨x,hx⟩:=y7 (l:=ds) (i:=i) (by omega)
  obtain ⟨g1,arr,ha1,hF⟩:=hr.addr hx
  have hlt:=C3 hx
  refine b6 (a2g ha1 _ _ _ _ (by omega) (by have:=hr.2.1;omega)) ?_
  refine d4 (ldA (vs:=m3 x) Tryz.isAgg58 Tryz.sizeOf58 rfl (hr.atW I1 ha1 hx)) ?_
  refine q9 (cap:=[.pointer (some ⟨g,0,none⟩)]) (fun args w=>Tryz.call53 args w) ?_
  refine O2 (Fi:=[bx g 3 [vi k]]) (Fr:=[F]) (I1.bring 1) (c3W x k g) (fun v H3 Fo w3 I3 l3 k3 q=>?_) (fun _ _ _ _ _ q=>q.elim)
  obtain ⟨rfl,rfl,rfl⟩:=q
  refine a9S (fun c2=>?_) (fun c2=>?_)
  ·exact ⟨_,_,I3.bring 1,i,rfl,rfl,rfl,.inr ⟨by omega,ha,x,hx,c2⟩⟩
  ·refine b6 (B0 _ _ _ _ _ _) ?_
   rw [D6 (by omega) (by omega)]
   refine hn2 _ _ _ (show ds.length-(i+1) < ds.length-i by omega) ⟨i+1,rfl,rfl,hlt,I3.bring 1,fun d hd=>?_⟩
   rw [L0 hx] at hd
   rcases List.mem_append.1 hd with hd | hd
   ·exact ha d hd
   ·rw [List.mem_singleton.1 hd];exact c2
 ·refine hx1 _ _ ?_
  unfold c3C
  intro _
  rw [List.take_of_length_le (by omega)] at ha
  exact ⟨_,_,I1,-1,rfl,rfl,rfl,.inl ⟨rfl,ha⟩⟩
def kF(k:Int)(ds:List j7):List j7:=ds.filter fun d=>decide (kindD d=k)
theorem c3Y{k:Int}{ds:List j7}(h:∀d∈ds,kindD d=k):kF k ds=ds:=List.filter_eq_self.2 fun d hd=>decide_eq_true (h d hd)
theorem b9d(k:Int)(a b:List j7):kF k (a++b)=kF k a++kF k b:=List.filter_append ..
theorem d1U{k:Int}{d:j7}(h:kindD d=k):kF k [d]=[d]:=by unfold kF;simp [h]
theorem c6R{k:Int}{d:j7}(h:kindD d≠k):kF k [d]=[]:=by unfold kF;simp [h]
theorem c8B{s:Sl}{ds:List j7}{F:Frag}(k:Int)(g:Nat)(hr:RowL 58 2 m3 s ds F)(hb:ds.length≤big):Ct Tryz.prog 51 [vs s,delV g] H [F,bx g 3 [vi k]]
  (fun v H' Fo=>∃s' F',v=vs s'∧H'=H∧Fo=[F',bx g 3 [vi k]]∧∀H1:Hp,(∀p∈F',H1 p.1=some p.2)→SlH H1 2 m3 s' (kF k ds)∧s'.n≤s'.c) noQE:=by
 intro w I
 refine d0D ?_
 unfold F51
 have hcap:=hr.cap
 have hlen:=hr.2.1
 refine q9 (cap:=[]) (fun args w=>Tryz.call90 args w) ?_
 refine O2 (Fi:=[F,bx g 3 [vi k]]) (Fr:=[]) I (c3X k g hr hb) (fun v H1 Fo w1 I1 l1 k1 q=>?_) (fun _ _ _ _ _ q=>q.elim)
 obtain ⟨i0,rfl,rfl,rfl,hi0⟩:=q
 simp only [big] at hb
 refine b6 (i7 _ _ _ _ _ _) ?_
 refine D7 (fun c=>?_) (fun c=>?_)
 ·rcases hi0 with ⟨_,ha⟩ | ⟨h0,_⟩
  ·exact ⟨_,_,I1,s,F,rfl,rfl,rfl,fun H2 h2=>⟨by rw [c3Y ha];exact hr.frozen (by decide) h2,hcap⟩⟩
  ·omega
 ·rcases hi0 with ⟨e,_⟩ | ⟨h0,ha,d0,hd0,hk0⟩
  ·exact (c e).elim
  ·refine v6 fun j1 hx1=>?_
   refine b6 (B0 _ _ _ _ _ _) ?_
   have hlt0:=C3 hd0
   rw [D6 h0 (by omega)]
   obtain ⟨i1,rfl⟩:∃i1:Nat,i0=i1:=⟨i0.toNat,by omega⟩
   rw [Int.toNat_natCast] at ha hd0 hlt0
   refine K7 (J:=fun n l w'=>∃(i j:Nat)(es:List j7)(F':Frag),n=ds.length-j∧l=[vi (i:Int),vi (j:Int)]∧i < j∧j≤ds.length∧RowL 58 2 m3 s es F'∧Inv w (inF [F,bx g 3 [vi k]]) H1 H1 [F',bx g 3 [vi k]] w'∧es.length=ds.length∧es.take i=kF k (ds.take j)∧es.drop j=ds.drop j)
    ⟨_,i1,i1+1,ds,F,rfl,rfl,by omega,by omega,hr,I1,rfl,by rw [L0 hd0,b9d,c3Y ha,c6R hk0,List.append_nil],rfl⟩ ?_
   rintro n τ w2 next2 ⟨i,j,es,F2,rfl,hl,hij,hj,hr2,I2,hel,ht,hd⟩ hn2
   simp only [List.map_cons,List.map_nil,List.cons.injEq,and_true] at hl
   simp only [hl.1,hl.2]
   unfold c3n
   refine b6 (a3S Tryz.underlying22 hr2) ?_
   refine b6 (A4 _ _ _ _ _ _) ?_
   refine D7 (fun c2=>?_) (fun c2=>?_)
   ·refine v6 fun j3 hx3=>?_
    obtain ⟨x,hx⟩:=y7 (l:=ds) (i:=j) (by omega)
    have hx':es[j]? = some x:=by
     have:=congrArg (fun l=>l[0]?) hd
     simp only [List.getElem?_drop,Nat.add_zero] at this
     rw [this];exact hx
    have hd':es.drop (j+1)=ds.drop (j+1):=by rw [←List.drop_drop,← List.drop_drop,hd]
    obtain ⟨g2,arr,ha2,hF2⟩:=hr2.addr hx'
    have hltj:=C3 hx
    refine b6 (a2g ha2 _ _ _ _ (by omega) (by omega)) ?_
    refine d4 (ldA (vs:=m3 x) Tryz.isAgg58 Tryz.sizeOf58 rfl (hr2.atW I2 ha2 hx')) ?_
    refine s6 I2 Tryz.zeroValue58 (cs:=[(Value.string ⟨#[]⟩),(vi 0)]) rfl fun g6 w6 I6 k6=>?_
    refine E8 I6 Tryz.sizeOf58 (vs:=m3 x) (cs':=m3 x) rfl rfl (nb rfl) rfl rfl fun w7 I7 k7=>?_
    refine d4 (ldA (vs:=m3 x) Tryz.isAgg58 Tryz.sizeOf58 rfl (I7.at1 (o:=0) (nb rfl) rfl)) ?_
    refine q9 (cap:=[.pointer (some ⟨g,0,none⟩)]) (fun args w=>Tryz.call53 args w) ?_
    refine O2 (Fi:=[bx g 3 [vi k]]) (Fr:=[bx g6 58 (m3 x),F2]) (I7.bring 2) (c3W x k g) (fun v H8 Fo w8 I8 l8 k8 q=>?_) (fun _ _ _ _ _ q=>q.elim)
    obtain ⟨rfl,rfl,rfl⟩:=q
    refine b6 (O4 _) ?_
    refine N9 (fun c3=>?_) (fun c3=>?_)
    ·have hk:kindD x=k:=by simpa using c3
     refine d4 (ldA (vs:=m3 x) Tryz.isAgg58 Tryz.sizeOf58 rfl ((I8.bring 1).at1 (o:=0) (nb rfl) rfl)) ?_
     refine b6 (a2g ha2 _ _ _ _ (by omega) (by omega)) ?_
     refine a1p (i:=i) (I8.bring 2) hr2 ha2 (by omega) Tryz.sizeOf58 rfl fun F9 w9 h9 I9 k9=>?_
     refine b6 (B0 _ _ _ _ _ _) ?_
     rw [D6 (by omega) (by omega)]
     refine hx3 _ _ ?_
     unfold b8K
     intro _
     refine b6 (B0 _ _ _ _ _ _) ?_
     rw [D6 (by omega) (by omega)]
     refine hn2 _ _ _ (show ds.length-(j+1) < ds.length-j by omega) ⟨i+1,j+1,_,F9,rfl,rfl,by omega,by omega,h9,(I9.bring 2).drop,by rw [List.length_set];exact hel,?_,?_⟩
     ·rw [L0 hx,b9d,d1U hk,← ht,L0 (x:=x) (by rw [List.getElem?_set_self (by omega)]),List.take_set_of_le (Nat.le_refl _)]
     ·rw [List.drop_set_of_lt (by omega),hd']
    ·have hk:kindD x≠k:=by simpa using c3
     refine hx3 _ _ ?_
     unfold b8K
     intro _
     refine b6 (B0 _ _ _ _ _ _) ?_
     rw [D6 (by omega) (by omega)]
     refine hn2 _ _ _ (show ds.length-(j+1) < ds.length-j by omega) ⟨i,j+1,es,F2,rfl,rfl,by omega,by omega,hr2,(I8.bring 1).drop.bring 1,hel,?_,hd'⟩
     rw [L0 hx,b9d,c6R hk,List.append_nil,ht]
   ·refine hx1 _ _ ?_
    unfold c3m
    intro _
    have hj':j=ds.length:=by omega
    rw [hj',List.take_length] at ht
    have hn2':=hr2.2.1
    refine b6 (b4X Tryz.underlying22 Tryz.sizeOf58 (s:=s) (l:=(i:Int)) (by omega) (by omega)) ?_
    rw [Int.toNat_natCast]
    refine c8A Tryz.underlying22 Tryz.zeroValue58 (x0:=⟨⟨#[]⟩,0⟩) rfl (by decide) I2 hr2 (i:=i) (by omega) fun F9 w9 h9 I9 k9=>?_
    refine b6 (b4Y Tryz.underlying22 Tryz.sizeOf58 (s:=s) (h:=(i:Int)) (by omega) (by omega)) ?_
    rw [Int.toNat_natCast]
    refine ⟨_,_,I9,s.cut 0 i s.c 2,F9,rfl,rfl,rfl,fun H2 h2=>⟨?_,?_⟩⟩
    ·have:=(h9.frozen (by decide) h2).cut (l:=0) (h:=i) (m:=s.c) (Nat.zero_le _) (by omega) (by omega)
     rw [List.drop_zero,List.take_append_of_le_length (by rw [List.length_take];omega),List.take_take,Nat.min_self,ht] at this
     exact this
    ·show i-0≤s.c-0
     omega
theorem c5p{s:Sl}{ds:List j7}(hs:SlH H 2 m3 s ds)(hb:ds.length≤big):Ct Tryz.prog 52 [vs s] H [] (fun v H' Fo=>∃s' F,v=vs s'∧H'=H∧Fo=[F]∧RowL 58 2 m3 s' ds F) noQE:=by
 intro w I
 refine d0E ?_
 unfold F52
 simp only [big] at hb
 refine b6 (b9U _ _ s) ?_
 refine N9 (fun c=>?_) (fun c=>?_)
 ·have:ds=[]:=by
   cases ds with
   | nil=>rfl
   | cons d ds=>
    obtain ⟨g,o,ha,_⟩:=hs.2 0 d rfl
    rw [ha] at c;cases c
  subst this
  exact ⟨_,_,I.nil,⟨none,0,0⟩,[],rfl,rfl,rfl,RowL.nil a8Y b3i⟩
 ·refine Y1 (e:=58) (c:=m3) (xs:=[]) I (c7n) rfl rfl a8Y b3i (nb rfl) fun s_2 F_3 w_4 h_5 I_6 k_7=>?_
  refine c9A (s:=s_2) (xs:=[]) I_6 h_5 (SlH.src I_6 hs a8Y) (by simp only [List.length_nil];omega) fun s_8 F_9 d5m d1V d4X d5n=>?_
  rw [List.nil_append] at d1V
  exact ⟨_,_,d4X,s_8,F_9,rfl,rfl,rfl,d1V⟩
def ofS(q:PP)(k:Int):List j7:=if (wellS q).2=0 then kF k q.decls else []
theorem c6S(hT:TabsH H){p:z8}{q:PP}(hp:PH H p q)(hsm:q.Sm){k:Int}{K:Sl→Int→Hp→Prop}(h:∀s H',Hle H H'→SlH H' 2 m3 s (ofS q k)→s.n≤s.c→K s (wellS q).2 H'):a6R p k H K:=by
 intro w I
 refine d0b ?_
 unfold F26
 refine z7 I (cs:=(v7 p)) rfl fun g1 w1 I1 k1=>?_
 refine z7 I1 (cs:=[vi k]) rfl fun g2 w2 I2 k2=>?_
 refine d4 (ldA Tryz.isAgg25 Tryz.sizeOf25 rfl ((I2.bring 1).at1 (o:=0) (vs:=(v7 p)) (nb rfl) rfl)) ?_
 refine q9 (cap:=[]) (fun args w=>Tryz.call10 args w) ?_
 refine O2 (Fi:=[]) (Fr:=[bx g2 3 [vi k],bx g1 25 (v7 p)]) I2 (c0T hT hp hsm (K:=fun n e H'=>e=(wellS q).2) fun H' l'=>rfl) (fun v H3 Fo w3 I3 l3 k3 q=>?_) (fun _ _ _ _ _ q=>q.elim)
 obtain ⟨r,e,rfl,rfl,rfl⟩:=q
 refine b6 (i5 _ _ _ rfl) ?_
 refine b6 (i5 _ _ _ rfl) ?_
 refine b6 (O8 _ _ _ _ _ _) ?_
 unfold ofS at h
 refine a9S (fun c=>?_) (fun c=>?_)
 ·rw [if_neg c] at h
  exact ⟨_,[],I3.drop.drop,⟨none,0,0⟩,_,rfl,rfl,h _ _ l3 (SlH.nil _ _ _) (Nat.le_refl _)⟩
 ·rw [if_pos c] at h
  obtain ⟨hd,hbd,_⟩:=hp
  refine b6 a7m ?_
  refine d4 (ld1 Tryz.isAgg22 ((I3.bring 1).at1 (o:=0) (vs:=[(vs p.a5g)]) (nb rfl) rfl)) ?_
  refine q9 (cap:=[]) (fun args w=>Tryz.call52 args w) ?_
  refine O2 (Fi:=[]) (Fr:=[bx g2 3 [vi k],bx g1 25 (v7 p)]) I3 (c5p (hd.le l3) hbd) (fun v H4 Fo w4 I4 l4 k4 q=>?_) (fun _ _ _ _ _ q=>q.elim)
  obtain ⟨s4,F4,rfl,rfl,rfl,hr⟩:=q
  refine b6 (a6z _ _ _) ?_
  refine q9 (cap:=[]) (fun args w=>Tryz.call51 args w) ?_
  refine O2 (Fi:=[F4,bx g2 3 [vi k]]) (Fr:=[bx g1 25 (v7 p)]) I4 (c8B k g2 hr hbd) (fun v H5 Fo w5 I5 l5 k5 q=>?_) (fun _ _ _ _ _ q=>q.elim)
  obtain ⟨s5,F5,rfl,rfl,rfl,hs5⟩:=q
  obtain ⟨I6,l6,h6⟩:=I5.freeze
  obtain ⟨hs6,hc6⟩:=hs5 _ h6
  refine ⟨_,[],I6.drop.drop,s5,0,rfl,rfl,?_⟩
  have:=h s5 _ (l3.trans l6) hs6 hc6
  rw [c] at this
  exact this
end
section
variable {H:Hp}
theorem b9e(q:PP)(k:Int):(ofS q k).length≤q.decls.length:=by
 unfold ofS;split
 ·exact List.length_filter_le _ _
 ·exact Nat.zero_le _
theorem c8C(hT:TabsH H){p:z8}{q:PP}(hp:PH H p q)(hsm:q.Sm){K:Sl→Int→Hp→Prop}(h:∀s H',Hle H H'→SlH H' 1 C8 s ((ofS q 1).map (·.f8))→K s (wellS q).2 H'):a8v p H K:=by
 refine b3P _ ?_
 unfold a8O
 have hb:=hp.bd
 simp only [big] at hb
 have hle:=b9e q 1
 refine c6S hT hp hsm fun s1 H1 l1 hS1 _=>?_
 have n1:=hS1.1
 refine Z2 (fun(z:List ByteArray×Int) H'=>0≤z.2∧z.2≤(ofS q 1).length∧H'=H1∧z.1=((ofS q 1).take z.2.toNat).map (·.f8)) (fun z=>((ofS q 1).length-z.2).toNat) ⟨Int.le_refl _,by dsimp only;omega,rfl,rfl⟩ ?_
 rintro ⟨cs,i⟩ H2 next ⟨i0,i1,rfl,hcs⟩ hn
 dsimp only at i0 i1 hcs ⊢
 unfold a3G
 refine ⟨fun c=>?_,fun c=>?_⟩
 ·obtain ⟨x,hx,hE⟩:=hS1.get i0 (by omega)
  have hlt:=C3 hx
  have hcl:cs.length≤(ofS q 1).length:=by rw [hcs,List.length_map,List.length_take];omega
  refine ⟨i0,by omega,x,hE,by simp only [List.length_cons,List.length_nil];omega,?_⟩
  rw [D6 i0 (by omega)]
  refine hn _ _ ⟨by dsimp only;omega,by dsimp only;omega,rfl,?_⟩ (by dsimp only;omega)
  dsimp only
  rw [show (i+1).toNat=i.toNat+1 by omega,L0 hx,List.map_append,← hcs];rfl
 ·unfold a3F
  intro s2 H3 l3 hS3 _
  rw [hcs,List.take_of_length_le (by omega)] at hS3
  exact h s2 H3 (l1.trans l3) hS3
theorem c3Z(hT:TabsH H){p:z8}{q:PP}(hp:PH H p q)(hsm:q.Sm){K:Sl→Int→Hp→Prop}(h:∀s H',Hle H H'→SlH H' 2 m3 s (ofS q 2)→K s (wellS q).2 H'):a7t p H K:=by
 refine b2Y _ ?_
 unfold a7M
 exact c6S hT hp hsm fun s1 H1 l1 hS1 _=>h s1 H1 l1 hS1
end
end Go.Proofs.YthaaobpfbgcfiaaGreatDoor
