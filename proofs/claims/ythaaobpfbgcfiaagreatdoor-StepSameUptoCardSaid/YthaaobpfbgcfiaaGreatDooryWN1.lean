/- Which names a program has; the document's check of a program, its size, its names. The law TreeChecks. -/
import Derived.Test.YthaaobpfbgcfiaaGreatDooryWQi
namespace Go.Proofs.YthaaobpfbgcfiaaGreatDoor
open Go.RowKit
set_option maxRecDepth 100000
set_option maxHeartbeats 2000000
def namL(l:Lab):List ByteArray:=if (nameL l).2=true then [(nameL l).1] else []
mutual
def nT:PT→List ByteArray
 | .mk l cs=>namL l++nTs cs
def nTs:List PT→List ByteArray
 | []=>[]
 | t::ts=>nT t++nTs ts
end
def putAll(l:List ByteArray)(xs:List ByteArray):List ByteArray:=xs.foldl putS l
theorem b6n(l a b:List ByteArray):putAll l (a++b)=putAll (putAll l a) b:=by unfold putAll;rw [List.foldl_append]
theorem c5g(v:V)(l:Lab)(d:Int)(h:(vMeet v l d).1=true):(vMeet v l d).2.ns=putAll v.ns (namL l):=by
 unfold vMeet at h ⊢
 unfold namL
 split at h
 ·cases h
 ·rename_i h1
  rw [if_neg h1]
  split at h
  ·cases h
  ·rename_i h2
   rw [if_neg h2]
   dsimp only
   split<;>rfl
mutual
theorem d3n:∀(t:PT)(d:Int)(v:V),(vT t d v).1=true→(vT t d v).2.ns=putAll v.ns (nT t)
 | .mk l cs,d,v=>by
  rw [vT,nT]
  by_cases hq:(vMeet v l d).1=true
  ·rw [if_pos hq]
   intro h
   rw [b8R cs (d+1) _ h,c5g v l d hq,b6n]
  ·rw [if_neg hq];exact fun h=>(hq h).elim
theorem b8R:∀(ts:List PT)(d:Int)(v:V),(vTs ts d v).1=true→(vTs ts d v).2.ns=putAll v.ns (nTs ts)
 | [],d,v=>by rw [vTs,nTs];exact fun _=>rfl
 | t::ts,d,v=>by
  rw [vTs,nTs]
  by_cases hq:(vT t d v).1=true
  ·rw [if_pos hq]
   intro h
   rw [b8R ts d _ h,d3n t d v hq,b6n]
  ·rw [if_neg hq];exact fun h=>(hq h).elim
end
structure Us where
 f8:ByteArray
 b6o:Bool
def useL:Lab→List Us
 | .decl _ _=>[]
 | .cond ..=>[]
 | .expr k _ s _=>if (decide (k=2)||decide (k=4))=true then [⟨s,decide (k=4)⟩] else []
 | .stmt k s _ _ _ _=>if (decide (k=1)||decide (k=2))=true then [⟨s,decide (k=2)⟩] else []
mutual
def uT:PT→List Us
 | .mk l cs=>useL l++uTs cs
def uTs:List PT→List Us
 | []=>[]
 | t::ts=>uT t++uTs ts
end
theorem b4q:∀a b:List PT,uTs (a++b)=uTs a++uTs b
 | [],b=>by rw [List.nil_append,uTs,List.nil_append]
 | t::a,b=>by rw [List.cons_append,uTs,uTs,b4q a b,List.append_assoc]
theorem c3S{ts:List PT}{i:Nat}{t:PT}(h:ts[i]? = some t):uTs (ts.take (i+1))=uTs (ts.take i)++uT t:=by
 rw [L0 h,b4q,uTs,uTs,List.append_nil]
theorem d1O(ts:List PT)(i:Nat):(uTs (ts.take i)).length≤(uTs ts).length:=by
 have:=b4q (ts.take i) (ts.drop i)
 rw [List.take_append_drop] at this
 rw [this,List.length_append];omega
theorem d3o{ts:List PT}{i:Nat}{t:PT}(h:ts[i]? = some t):(uTs (ts.take i)).length+(uT t).length≤(uTs ts).length:=by
 have:=d1O ts (i+1)
 rw [c3S h,List.length_append] at this;exact this
mutual
def cT:PT→Nat
 | .mk _ cs=>1+cTs cs
def cTs:List PT→Nat
 | []=>0
 | t::ts=>cT t+cTs ts
end
theorem a9W:∀a b:List PT,cTs (a++b)=cTs a+cTs b
 | [],b=>by rw [List.nil_append,cTs,Nat.zero_add]
 | t::a,b=>by rw [List.cons_append,cTs,cTs,a9W a b,Nat.add_assoc]
theorem c5h(l:Lab):(useL l).length≤1:=by
 cases l<;>simp only [useL]<;>(try split)<;>simp
mutual
theorem d1P:∀t:PT,(uT t).length≤cT t
 | .mk l cs=>by rw [uT,cT,List.length_append];have:=c5h l;have:=b6U cs;omega
theorem b6U:∀ts:List PT,(uTs ts).length≤cTs ts
 | []=>by rw [uTs,cTs];exact Nat.le_refl _
 | t::ts=>by rw [uTs,cTs,List.length_append];have:=d1P t;have:=b6U ts;omega
end
mutual
theorem c3T:∀(t:PT)(d:Int)(s:W),(wT t d s).fbad=0→(wT t d s).fn=s.fn+cT t
 | .mk l cs,d,s,h=>by
  rw [wT] at h ⊢
  rw [b6V cs _ _ h,cT]
  have hb:(wStep s d).fbad=0:=by
   by_cases hq:(wStep s d).fbad=0
   ·exact hq
   ·rw [a5X _ _ _ hq] at h;exact h
  unfold wStep at hb ⊢
  split at hb
  ·rename_i h1
   rw [if_pos h1]
   split at hb
   ·cases hb
   ·rename_i h2
    rw [if_neg h2]
    split at hb
    ·cases hb
    ·rename_i h3
     rw [if_neg h3];dsimp only;omega
  ·rename_i h1;exact (h1 hb).elim
theorem b6V:∀(ts:List PT)(d:Int)(s:W),(wTs ts d s).fbad=0→(wTs ts d s).fn=s.fn+cTs ts
 | [],d,s,h=>by rw [wTs,cTs];simp
 | t::ts,d,s,h=>by
  rw [wTs] at h ⊢
  rw [b6V ts _ _ h,cTs]
  have hb:(wT t d s).fbad=0:=by
   by_cases hq:(wT t d s).fbad=0
   ·exact hq
   ·rw [a5X _ _ _ hq] at h;exact h
  rw [c3T t d s hb];omega
end
theorem c8s{ts:List PT}(h:(wTs ts 1 w0S).fbad=0):cTs ts≤4096:=by
 have h1:=b6V ts 1 w0S h
 have h2:=(b8M ts 1 w0S d3m).2
 have h3:w0S.fn=0:=rfl
 omega
inductive Nd:PT→Prop
 | mk {l:Lab} {cs:List PT}:(∀z s,l≠.decl z s)→(∀t∈cs,Nd t)→Nd (.mk l cs)
theorem b0P{α:Type}{R:α→PT→Prop}{xs:List α}{ts:List PT}(hl:xs.length=ts.length)(h:∀(i:Nat)(x:α)(t:PT),xs[i]? = some x→ts[i]? = some t→Nd t):∀t∈ts,Nd t:=fun t ht=>by
 obtain ⟨i,hi⟩:=List.mem_iff_getElem?.1 ht
 obtain ⟨x,hx⟩:=y7 (l:=xs) (i:=i) (by rw [hl];exact C3 hi)
 exact h i x t hx hi
theorem b6p{a b:List PT}(ha:∀t∈a,Nd t)(hb:∀t∈b,Nd t):∀t∈a++b,Nd t:=fun t h=>(List.mem_append.1 h).elim (ha t) (hb t)
theorem EH.nd{H:Hp}{e:q8}{t:PT}(h:EH H e t):Nd t:=by
 induction h with
 | mk hs hb hl _ ih=>exact .mk (fun z s e=>by cases e) (b0P (R:=EH H) hl ih)
theorem CH.nd{H:Hp}{e:y9}{t:PT}(h:CH H e t):Nd t:=by
 induction h with
 | mk hs hb hr hc hcb hl _ ih=>exact .mk (fun z s e=>by cases e) (b6p (b0P (R:=EH H) hr.1 fun i x t a b=>(hr.2 i x t a b).nd) (b0P (R:=CH H) hl ih))
theorem SH.nd{H:Hp}{e:B4}{t:PT}(h:SH H e t):Nd t:=by
 induction h with
 | mk hs hb hr hc hcb hcr ha hab hal _ hbs hbb hbl _ ih1 ih2=>
  exact .mk (fun z s e=>by cases e) (b6p (b0P (R:=CH H) hcr.1 fun i x t a b=>(hcr.2 i x t a b).nd) (b6p (b0P (R:=EH H) hr.1 fun i x t a b=>(hr.2 i x t a b).nd) (b6p (b0P (R:=SH H) hal ih1) (b0P (R:=SH H) hbl ih2))))
section
variable {H:Hp}
theorem c5i{q:PP}(h:toldS q.nodes=0):(wTs q.nodes 1 w0S).fbad=0∧(allV q).1=true∧(allV q).2.n=(wTs q.nodes 1 w0S).fn∧(allV q).2.d=(wTs q.nodes 1 w0S).fdepth∧(allV q).2.ns=putAll [] (nTs q.nodes):=by
 have hb:(wTs q.nodes 1 w0S).fbad=0:=by
  unfold toldS at h
  by_cases hq:(wTs q.nodes 1 w0S).fbad=0
  ·exact hq
  ·rw [if_neg hq] at h;exact h
 have hs:=c6P q.nodes
 have hr:(allV q).1=true:=by
  cases hq:(allV q).1
  ·obtain ⟨h1,h2⟩:=hs.2 hq
   omega
  ·rfl
 obtain ⟨h1,_⟩:=hs.1 hr
 exact ⟨hb,hr,by rw [h1];rfl,by rw [h1];rfl,b8R q.nodes 1 v0 hr⟩
end
end Go.Proofs.YthaaobpfbgcfiaaGreatDoor
namespace Go.Proofs.YthaaobpfbgcfiaaGreatDoor
open Go.RowKit
set_option maxRecDepth 100000
set_option maxHeartbeats 2000000
mutual
def dpT(B:Int):PT→Int→Prop
 | .mk _ cs,d=>d≤B∧dpTs B cs (d+1)
def dpTs(B:Int):List PT→Int→Prop
 | [],_=>True
 | t::ts,d=>dpT B t d∧dpTs B ts d
end
variable {B:Int}
theorem c1U{s:W}{d:Int}(hb:s.fbad=0)(h2:¬s.fn=4096)(h3:¬64 < d):wStep s d=⟨s.fn+1,if d > s.fdepth then d else s.fdepth,0⟩:=by
 unfold wStep;rw [if_pos hb,if_neg h2,if_neg h3]
mutual
theorem c3U:∀(t:PT)(d:Int)(s:W),0≤s.fn→s.fn≤4096→s.fbad=0→((wT t d s).fbad=0↔(s.fn+cT t≤4096∧dpT 64 t d))
 | .mk l cs,d,s,h0,h1,hb=>by
  rw [wT,cT,dpT]
  by_cases h2:s.fn=4096
  ·have:(wStep s d).fbad≠0:=by unfold wStep;rw [if_pos hb,if_pos h2];exact (by decide:(33:Int)≠0)
   rw [a5X _ _ _ this]
   exact ⟨fun e=>(this e).elim,fun e=>by omega⟩
  ·by_cases h3:64 < d
   ·have:(wStep s d).fbad≠0:=by unfold wStep;rw [if_pos hb,if_neg h2,if_pos h3];exact (by decide:(32:Int)≠0)
    rw [a5X _ _ _ this]
    exact ⟨fun e=>(this e).elim,fun e=>by omega⟩
   ·rw [c1U hb h2 h3,b6W cs (d+1) _ (by dsimp only;omega) (by dsimp only;omega) rfl]
    dsimp only
    constructor
    ·rintro ⟨a,b⟩;exact ⟨by omega,by omega,b⟩
    ·rintro ⟨a,b,c⟩;exact ⟨by omega,c⟩
theorem b6W:∀(ts:List PT)(d:Int)(s:W),0≤s.fn→s.fn≤4096→s.fbad=0→((wTs ts d s).fbad=0↔(s.fn+cTs ts≤4096∧dpTs 64 ts d))
 | [],d,s,h0,h1,hb=>by rw [wTs,cTs,dpTs];exact ⟨fun _=>⟨by omega,trivial⟩,fun _=>hb⟩
 | t::ts,d,s,h0,h1,hb=>by
  rw [wTs,cTs,dpTs]
  by_cases h2:(wT t d s).fbad=0
  ·have hi:=(c3U t d s h0 h1 hb).1 h2
   have hc:=c3T t d s h2
   rw [b6W ts d _ (by omega) (by omega) h2,hc]
   constructor
   ·rintro ⟨a,b⟩;exact ⟨by omega,hi.2,b⟩
   ·rintro ⟨a,b,c⟩;exact ⟨by omega,c⟩
  ·rw [a5X _ _ _ h2]
   have:=mt (c3U t d s h0 h1 hb).2 h2
   exact ⟨fun e=>(h2 e).elim,fun e=>(this ⟨by omega,e.2.1⟩).elim⟩
end
theorem b8S(ts:List PT):toldS ts=0↔(cTs ts≤4096∧dpTs 64 ts 1∧formTs ts=true∧namesTs ts=true):=by
 have h:=b6W ts 1 w0S (Int.le_refl _) (by decide) rfl
 have e0:w0S.fn=0:=rfl
 rw [e0] at h
 unfold toldS
 constructor
 ·intro e
  split at e
  ·rename_i hb
   have:=h.1 hb
   split at e
   ·rename_i hf
    split at e
    ·rename_i hn;exact ⟨by omega,this.2,hf,hn⟩
    ·cases e
   ·cases e
  ·rename_i hb;exact (hb e).elim
 ·rintro ⟨a,b,c,d⟩
  rw [if_pos (h.2 ⟨by omega,b⟩),if_pos c,if_pos d]
end Go.Proofs.YthaaobpfbgcfiaaGreatDoor
namespace Go.Proofs.YthaaobpfbgcfiaaGreatDoor
open Go.RowKit
set_option maxRecDepth 100000
set_option maxHeartbeats 2000000
inductive Tr:PT→Prop
 | mk {l:Lab} {cs:List PT}:(∀t∈cs,Tr t)→Tr (.mk l cs)
section
variable {H:Hp}
end
def sN(k:Int)(s:ByteArray)(ts us vs ws:List PT):PT:=.mk (.stmt k s ts.length us.length vs.length ws.length) (us++(ts++(vs++ws)))
inductive ArS:PT→Prop
 | mk {k:Int} {s:ByteArray} {ts us vs ws:List PT}:(∀t∈ts,Ar t)→(∀t∈us,ArC t)→(∀t∈vs,ArS t)→(∀t∈ws,ArS t)→ArS (sN k s ts us vs ws)
section
variable {B:Int}
theorem K9(t:PT):1≤cT t:=by cases t;rw [cT];omega
theorem a9X:∀ts:List PT,ts.length≤cTs ts
 | []=>Nat.zero_le _
 | t::ts=>by rw [cTs,List.length_cons];have:=K9 t;have:=a9X ts;omega
end
section
variable {H:Hp}
theorem d1Q{e:B4}{t:PT}(he:SH H e t)(hf:formT t=true)(hs:Sm t):ArS t:=by
 induction he with
 | @mk e xs ts ys us zs bs vs ws hsl hb hr hc hcb hcr ha hab hal har hbs hbb hbl hbr iha ihb=>
  rw [formT,Bool.and_eq_true] at hf
  have m:∀t∈us++(ts++(vs++ws)),formT t=true∧Sm t:=fun t ht=>⟨E7 hf.2 ht,hs.num.2 t ht⟩
  refine .mk (fun t ht=>?_) (fun t ht=>?_) (fun t ht=>?_) fun t ht=>?_
  ·obtain ⟨i,hi⟩:=List.getElem?_of_mem ht
   obtain ⟨x,hx⟩:=y7 (l:=xs) (i:=i) (by have:=C3 hi;have:=hr.1;omega)
   have:=m t (by simp [ht])
   exact c6Q (hr.2 i x t hx hi) this.1 this.2
  ·obtain ⟨i,hi⟩:=List.getElem?_of_mem ht
   obtain ⟨x,hx⟩:=y7 (l:=ys) (i:=i) (by have:=C3 hi;have:=hcr.1;omega)
   have:=m t (by simp [ht])
   exact d1N (hcr.2 i x t hx hi) this.1 this.2
  ·obtain ⟨i,hi⟩:=List.getElem?_of_mem ht
   obtain ⟨x,hx⟩:=y7 (l:=zs) (i:=i) (by have:=C3 hi;omega)
   have:=m t (by simp [ht])
   exact iha i x t hx hi this.1 this.2
  ·obtain ⟨i,hi⟩:=List.getElem?_of_mem ht
   obtain ⟨x,hx⟩:=y7 (l:=bs) (i:=i) (by have:=C3 hi;omega)
   have:=m t (by simp [ht])
   exact ihb i x t hx hi this.1 this.2
end
structure St where
 left:Nat
 steps:Int
 script:List Int
 events:List d5
 vars:List (ByteArray×Int)
 arrs:List (ByteArray×List Int)
inductive Rs (α:Type) where
 | ok (a:α) (s:St)
 | stop (st wr:Int) (s:St)
abbrev M(α:Type):=St→Rs α
def Rs.andThen{α β:Type}(r:Rs α)(k:α→M β):Rs β:=
 match r with
 | .ok a s=>k a s
 | .stop a b s=>.stop a b s
def bnd{α β:Type}(m:M α)(k:α→M β):M β:=fun s=>(m s).andThen k
def ret{α:Type}(a:α):M α:=fun s=>.ok a s
def halt{α:Type}(st wr:Int):M α:=fun s=>.stop st wr s
def stepM:M Unit:=fun s=>if s.left=0 then .stop 1 0 s else .ok () { s with left:=s.left-1,steps:=s.steps+1 }
def getM(x:ByteArray):M Int:=fun s=>.ok ((lk x s.vars).getD 0) s
def setM(x:ByteArray)(v:Int):M Unit:=fun s=>.ok () { s with vars:=T7 x v s.vars }
def inM:M Int:=fun s=>
 match s.script with
 | []=>.stop 2 0 s
 | n::r=>if s.left=0 then .stop 1 0 s else .ok n { s with left:=s.left-1,steps:=s.steps+1,script:=r,events:=s.events++[⟨true,n,false⟩] }
def rowOf(x:ByteArray)(s:St):List Int:=(lk x s.arrs).getD []
def boundM(x:ByteArray)(i:Int):M Unit:=fun s=>if i < 0∨(rowOf x s).length≤i then .stop 3 3 s else .ok () s
def cellM(x:ByteArray)(i:Int):M Int:=fun s=>.ok ((rowOf x s).getD i.toNat 0) s
def putM(x:ByteArray)(i v:Int):M Unit:=fun s=>.ok () { s with arrs:=T7 x ((rowOf x s).set i.toNat v) s.arrs }
def itemM(x:ByteArray)(i:Int):M Unit:=bnd stepM fun _=>boundM x i
def loadM(x:ByteArray)(i:Int):M Int:=bnd (itemM x i) fun _=>cellM x i
def storeM(x:ByteArray)(i v:Int):M Unit:=bnd (itemM x i) fun _=>putM x i v
def evtM(h:Bool):M Unit:=fun s=>.ok () { s with events:=s.events++[⟨false,0,h⟩] }
def heldM(h:Bool):M Unit:=bnd stepM fun _=>evtM h
def toldM(r:Int×Int):M Int:=if r.2=0 then ret r.1 else halt 3 r.2
def evN(k:Int)(s:ByteArray)(c:Option Int)(go:M (List Int)):M Int:=
 match c with
 | some v=>ret v
 | none=>if k=2 then getM s else bnd go fun l=>if k=3 then inM else if k=4 then loadM s (l.getD 0 0) else bnd stepM fun _=>toldM (opS (k-2) (l.getD 0 0) (l.getD 1 0))
mutual
def evT:PT→M Int
 | .mk l cs=>
  match l with
  | .expr k _ s _=>evN k s (cst (.mk l cs)) (evTs cs)
  | _=>ret 0
def evTs:List PT→M (List Int)
 | []=>ret []
 | t::ts=>bnd (evT t) fun v=>bnd (evTs ts) fun l=>ret (v::l)
end
def cvN(k op:Int)(xs:List (M Int))(ps:List (M Bool)):M Bool:=
 if k=4 then bnd (ps.getD 0 (ret false)) fun b=>ret !b
 else if k=5 then bnd (ps.getD 0 (ret false)) fun b=>if b=true then ps.getD 1 (ret false) else ret false
 else if k=6 then bnd (ps.getD 0 (ret false)) fun b=>if b=true then ret true else ps.getD 1 (ret false)
 else if k=3 then bnd (xs.getD 0 (ret 0)) fun a=>bnd (xs.getD 1 (ret 0)) fun b=>bnd stepM fun _=>ret (cmpS op a b)
 else bnd stepM fun _=>ret (decide (k=1))
mutual
def cvT:PT→M Bool
 | .mk l cs=>
  match l with
  | .cond k op e _=>cvN k op ((cs.take e).map evT) ((cvTs cs).drop e)
  | _=>ret false
def cvTs:List PT→List (M Bool)
 | []=>[]
 | t::ts=>cvT t::cvTs ts
end
theorem b5t:∀ts:List PT,cvTs ts=ts.map cvT
 | []=>by rw [cvTs];rfl
 | t::ts=>by rw [cvTs,b5t ts];rfl
def seqM:List (M Unit)→M Unit
 | []=>ret ()
 | m::l=>bnd m fun _=>seqM l
def loopM(c:M Bool)(b:M Unit):Nat→M Unit
 | 0=>ret ()
 | n+1=>bnd c fun h=>if h=true then bnd b fun _=>loopM c b n else ret ()
def loopW(c:M Bool)(b:M Unit):M Unit:=fun s=>loopM c b (s.left+1) s
def plainX(t:PT):Bool:=
 match t with
 | .mk (.expr k _ _ _) _=>(cst t).isSome||decide (k=2)
 | _=>false
def giveM(t:PT):M Int:=if plainX t=true then bnd stepM fun _=>evT t else evT t
def stN(k:Int)(s:ByteArray)(xs:List PT)(cs:List (M Bool))(th el:List (M Unit)):M Unit:=
 if k=1 then bnd (giveM (xs.getD 0 (eN 1 0 s []))) (setM s)
 else if k=2 then bnd (evT (xs.getD 0 (eN 1 0 s []))) fun i=>bnd (evT (xs.getD 1 (eN 1 0 s []))) fun v=>storeM s i v
 else if k=3 then bnd (cs.getD 0 (ret false)) fun h=>if h=true then seqM th else seqM el
 else if k=4 then loopW (cs.getD 0 (ret false)) (seqM th)
 else if k=5 then bnd (cs.getD 0 (ret false)) fun h=>bnd (heldM h) fun _=>if h=true then ret () else halt 3 4
 else if k=6 then bnd (cs.getD 0 (ret false)) fun h=>if h=true then ret () else halt 2 0
 else stepM
mutual
def rnT:PT→M Unit
 | .mk l cs=>
  match l with
  | .stmt k s e c t _=>stN k s ((cs.drop c).take e) (cvTs (cs.take c)) (((rnTs cs).drop (c+e)).take t) ((rnTs cs).drop (c+e+t))
  | _=>ret ()
def rnTs:List PT→List (M Unit)
 | []=>[]
 | t::ts=>rnT t::rnTs ts
end
theorem b8T:∀ts:List PT,rnTs ts=ts.map rnT
 | []=>by rw [rnTs];rfl
 | t::ts=>by rw [rnTs,b8T ts];rfl
theorem b6q(k n:Int)(s:ByteArray)(cs:List PT):evT (eN k n s cs)=evN k s (cst (eN k n s cs)) (evTs cs):=by
 unfold eN;rw [evT]
theorem b8U(k op:Int)(xs ps:List PT):cvT (cN k op xs ps)=cvN k op (xs.map evT) (ps.map cvT):=by
 unfold cN
 rw [cvT,b5t,List.map_append,List.take_left,← List.length_map (f:=cvT),List.drop_left]
theorem b8V(k:Int)(s:ByteArray)(ts us vs ws:List PT):rnT (sN k s ts us vs ws)=stN k s ts (us.map cvT) (vs.map rnT) (ws.map rnT):=by
 unfold sN
 rw [rnT,b8T,b5t]
 simp only [List.map_append,List.drop_left,List.take_left]
 have e0:(us.map rnT).length=us.length:=List.length_map ..
 have e1:(ts.map rnT).length=ts.length:=List.length_map ..
 have e2:(vs.map rnT).length=vs.length:=List.length_map ..
 have h1:(us.map rnT++(ts.map rnT++(vs.map rnT++ws.map rnT))).drop (us.length+ts.length)=vs.map rnT++ws.map rnT:=by
  rw [←e0,← e1,← List.append_assoc,← List.length_append,List.drop_left]
 have h2:(us.map rnT++(ts.map rnT++(vs.map rnT++ws.map rnT))).drop (us.length+ts.length+vs.length)=ws.map rnT:=by
  rw [←List.drop_drop,h1,← e2,List.drop_left]
 rw [h1,h2,← e2,List.take_left]
section
variable {α β γ:Type}
theorem b6X(a:α)(k:α→M β):bnd (ret a) k=k a:=rfl
theorem c0N(m:M α):bnd m ret=m:=by
 funext s;unfold bnd;cases m s<;>rfl
theorem a0m(m:M α)(k:α→M β)(k2:β→M γ):bnd (bnd m k) k2=bnd m fun a=>bnd (k a) k2:=by
 funext s;unfold bnd;cases m s<;>rfl
theorem b3S{m:M α}{k:α→M β}{s s':St}{b:β}:bnd m k s=.ok b s'↔∃a s1,m s=.ok a s1∧k a s1=.ok b s':=by
 unfold bnd
 cases h:m s with
 | ok a s1=>exact ⟨fun e=>⟨a,s1,rfl,e⟩,fun ⟨_,_,e,q⟩=>by cases e;exact q⟩
 | stop x y s1=>exact ⟨(fun e=>by cases e),(fun ⟨_,_,e,_⟩=>by cases e)⟩
theorem K3{m:M α}{k:α→M β}{s s1:St}{a:α}(h:m s=.ok a s1):bnd m k s=k a s1:=by unfold bnd;rw [h];rfl
theorem O5{m:M α}{k:α→M β}{s s1:St}{x y:Int}(h:m s=.stop x y s1):bnd m k s=.stop x y s1:=by unfold bnd;rw [h];rfl
end
structure Okst (k0:Int) (ev0:Nat) (ns ars:List ByteArray) (s:St):Prop where
 sum:s.steps+s.left=k0
 pos:0≤s.steps
 ev:s.events.length+s.left≤ev0
 vs:s.vars.map (·.1)=ns
 rs:s.arrs.map (·.1)=ars
 vn:∀p∈s.vars,o8 p.2
 rl:∀p∈s.arrs,p.2.length≤1024∧∀x∈p.2,o8 x
 sc:∀x∈s.script,o8 x
def Dec(ns ars:List ByteArray)(c:M Bool):Prop:=∀k0 ev0 s b s',Okst k0 ev0 ns ars s→c s=.ok b s'→s'.left < s.left
inductive Cm (ns ars:List ByteArray):{α:Type}→(α→Prop)→M α→Prop
 | ret {α:Type} {G:α→Prop} {a:α}:G a→Cm ns ars G (ret a)
 | bnd {α β:Type} {F:α→Prop} {G:β→Prop} {m:M α} {k:α→M β}:Cm ns ars F m→(∀a,F a→Cm ns ars G (k a))→Cm ns ars G (bnd m k)
 | halt {α:Type} {G:α→Prop} (a b:Int):(a=2∧b=0)∨(a=3∧o8 b∧b≠0)→Cm ns ars G (halt a b)
 | step:Cm ns ars (fun _=>True) stepM
 | get {x:ByteArray}:x∈ns→Cm ns ars o8 (getM x)
 | set {x:ByteArray} {v:Int}:x∈ns→o8 v→Cm ns ars (fun _=>True) (setM x v)
 | input:Cm ns ars o8 inM
 | item {x:ByteArray} {i:Int}:x∈ars→o8 i→Cm ns ars (fun _=>True) (boundM x i)
 | cell {x:ByteArray} {i:Int}:x∈ars→o8 i→Cm ns ars o8 (cellM x i)
 | put {x:ByteArray} {i v:Int}:x∈ars→o8 i→o8 v→Cm ns ars (fun _=>True) (putM x i v)
 | held (h:Bool):Cm ns ars (fun _=>True) (heldM h)
 | loop {c:M Bool} {b:M Unit}:Cm ns ars (fun _=>True) c→Cm ns ars (fun _=>True) b→Dec ns ars c→Cm ns ars (fun _=>True) (loopW c b)
theorem b0Q{ν:Type}(k:ByteArray)(v:ν):∀l:List (ByteArray×ν),k∈l.map (·.1)→(T7 k v l).map (·.1)=l.map (·.1)
 | [],h=>by cases h
 | p::r,h=>by
  rw [T7]
  by_cases e:k=p.1
  ·rw [if_pos e,List.map_cons,List.map_cons,e]
  ·rw [if_neg e,List.map_cons,List.map_cons,b0Q k v r]
   rcases List.mem_cons.1 h with h | h
   ·exact (e h).elim
   ·exact h
theorem b5u{ν:Type}{Q:ByteArray×ν→Prop}(k:ByteArray)(v:ν)(hv:Q (k,v)):∀l:List (ByteArray×ν),(∀p∈l,Q p)→∀p∈T7 k v l,Q p
 | [],_,p,hp=>by rw [T7] at hp;rw [List.mem_singleton.1 hp];exact hv
 | q::r,h,p,hp=>by
  rw [T7] at hp
  split at hp
  ·rcases List.mem_cons.1 hp with e | hp
   ·rw [e];exact hv
   ·exact h p (List.mem_cons_of_mem _ hp)
  ·rcases List.mem_cons.1 hp with e | hp
   ·rw [e];exact h q List.mem_cons_self
   ·exact b5u k v hv r (fun p hp=>h p (List.mem_cons_of_mem _ hp)) p hp
theorem b1j{ν:Type}{k:ByteArray}{v:ν}:∀{l:List (ByteArray×ν)},lk k l=some v→(k,v)∈l
 | [],h=>by cases h
 | p::r,h=>by
  rw [lk] at h
  split at h
  ·rename_i e;cases h;rw [e];exact List.mem_cons_self
  ·exact List.mem_cons_of_mem _ (b1j h)
theorem a9Y{ν:Type}{k:ByteArray}:∀{l:List (ByteArray×ν)},k∈l.map (·.1)→∃v,lk k l=some v
 | [],h=>by cases h
 | p::r,h=>by
  rw [lk]
  by_cases e:k=p.1
  ·rw [if_pos e];exact ⟨_,rfl⟩
  ·rw [if_neg e]
   rcases List.mem_cons.1 h with h | h
   ·exact (e h).elim
   ·exact a9Y h
def EndOk(a b:Int)(s:St):Prop:=(a=2∧b=0)∨(a=3∧o8 b∧b≠0)∨(a=1∧b=0∧s.left=0)
section
variable {k0:Int}{ev0:Nat}{ns ars:List ByteArray}{α:Type}{G:α→Prop}{m:M α}
def Post(k0:Int)(ev0:Nat)(ns ars:List ByteArray)(G:α→Prop)(s:St):Rs α→Prop
 | .ok a s'=>G a∧Okst k0 ev0 ns ars s'∧s'.left≤s.left
 | .stop a b s'=>Okst k0 ev0 ns ars s'∧s'.left≤s.left∧EndOk a b s'
theorem Post.bnd{β:Type}{F:α→Prop}{G:β→Prop}{k:α→M β}{s:St}(h1:Post k0 ev0 ns ars F s (m s))(h2:∀a s',F a→Okst k0 ev0 ns ars s'→Post k0 ev0 ns ars G s' (k a s')):Post k0 ev0 ns ars G s (bnd m k s):=by
 unfold Go.Proofs.YthaaobpfbgcfiaaGreatDoor.bnd
 cases hm:m s with
 | ok a s1=>
  rw [hm] at h1
  obtain ⟨a1,a2,a3⟩:=h1
  have h3:=h2 a s1 a1 a2
  show Post k0 ev0 ns ars G s (k a s1)
  cases hk:k a s1 with
  | ok b s2=>rw [hk] at h3;exact ⟨h3.1,h3.2.1,Nat.le_trans h3.2.2 a3⟩
  | stop x y s2=>rw [hk] at h3;exact ⟨h3.1,Nat.le_trans h3.2.1 a3,h3.2.2⟩
 | stop x y s1=>rw [hm] at h1;exact h1
theorem b7z{c:M Bool}{b:M Unit}(hc:∀s,Okst k0 ev0 ns ars s→Post k0 ev0 ns ars (fun _=>True) s (c s))(hb:∀s,Okst k0 ev0 ns ars s→Post k0 ev0 ns ars (fun _=>True) s (b s)):∀(n:Nat)(s:St),Okst k0 ev0 ns ars s→Post k0 ev0 ns ars (fun _=>True) s (loopM c b n s)
 | 0,s,hs=>⟨trivial,hs,Nat.le_refl _⟩
 | n+1,s,hs=>by
  unfold loopM
  refine (hc s hs).bnd fun x s1 _ hs1=>?_
  cases x
  ·exact ⟨trivial,hs1,Nat.le_refl _⟩
  ·rw [if_pos rfl]
   exact (hb s1 hs1).bnd fun _ s2 _ hs2=>b7z hc hb n s2 hs2
theorem b3T(s:St)(hs:Okst k0 ev0 ns ars s):Post k0 ev0 ns ars (fun _=>True) s (stepM s):=by
 unfold stepM
 obtain ⟨h1,h2,h3,h4,h5,h6,h7,h8⟩:=hs
 split
 ·rename_i h0
  exact ⟨⟨h1,h2,h3,h4,h5,h6,h7,h8⟩,Nat.le_refl _,.inr (.inr ⟨rfl,rfl,h0⟩)⟩
 ·exact ⟨trivial,⟨by dsimp only;omega,by dsimp only;omega,by dsimp only;omega,h4,h5,h6,h7,h8⟩,Nat.sub_le _ _⟩
theorem row_in(s:St)(hs:Okst k0 ev0 ns ars s)(x:ByteArray):(rowOf x s).length≤1024∧∀v∈rowOf x s,o8 v:=by
 unfold rowOf
 cases h:lk x s.arrs with
 | none=>exact ⟨Nat.zero_le _,fun v hv=>by cases hv⟩
 | some l=>exact hs.rl _ (b1j h)
theorem Cm.safe(h:Cm ns ars G m):∀s,Okst k0 ev0 ns ars s→Post k0 ev0 ns ars G s (m s):=by
 induction h with
 | ret hg=>exact fun s hs=>⟨hg,hs,Nat.le_refl _⟩
 | bnd _ _ ih1 ih2=>exact fun s hs=>(ih1 s hs).bnd fun a s' ha hs'=>ih2 a ha s' hs'
 | halt a b h=>
  refine fun s hs=>⟨hs,Nat.le_refl _,?_⟩
  rcases h with h | h
  ·exact .inl h
  ·exact .inr (.inl h)
 | step=>exact b3T
 | get hx=>
  refine fun s hs=>⟨?_,hs,Nat.le_refl _⟩
  rw [←hs.vs] at hx
  obtain ⟨v,hv⟩:=a9Y hx
  rw [hv]
  exact hs.vn _ (b1j hv)
 | set hx hv=>
  refine fun s hs=>⟨trivial,?_,Nat.le_refl _⟩
  obtain ⟨h1,h2,h3,h4,h5,h6,h7,h8⟩:=hs
  exact ⟨h1,h2,h3,by rw [←h4] at hx ⊢;exact b0Q _ _ _ hx,h5,b5u _ _ hv _ h6,h7,h8⟩
 | input=>
  intro s hs
  unfold inM
  split
  ·exact ⟨hs,Nat.le_refl _,.inl ⟨rfl,rfl⟩⟩
  ·rename_i n r hsc
   obtain ⟨h1,h2,h3,h4,h5,h6,h7,h8⟩:=hs
   rw [hsc] at h8
   split
   ·rename_i h0
    exact ⟨⟨h1,h2,h3,h4,h5,h6,h7,by rw [hsc];exact h8⟩,Nat.le_refl _,.inr (.inr ⟨rfl,rfl,h0⟩)⟩
   ·exact ⟨h8 n List.mem_cons_self,⟨by dsimp only;omega,by dsimp only;omega,by dsimp only;rw [List.length_append];simp only [List.length_cons,List.length_nil];omega,h4,h5,h6,h7,fun x hx=>h8 x (List.mem_cons_of_mem _ hx)⟩,Nat.sub_le _ _⟩
 | item _ _=>
  intro s hs
  unfold boundM
  split
  ·exact ⟨hs,Nat.le_refl _,.inr (.inl ⟨rfl,by unfold o8;omega,by decide⟩)⟩
  ·exact ⟨trivial,hs,Nat.le_refl _⟩
 | @cell x i _ _=>
  intro s hs
  refine ⟨?_,hs,Nat.le_refl _⟩
  obtain ⟨_,h⟩:=row_in s hs x
  rw [List.getD_eq_getElem?_getD]
  cases hq:(rowOf x s)[i.toNat]? with
  | none=>unfold o8;simp
  | some v=>exact h v (List.mem_of_getElem? hq)
 | @put x i v hx _ hv=>
  intro s hs
  refine ⟨trivial,?_,Nat.le_refl _⟩
  have hr:=row_in s hs x
  obtain ⟨h1,h2,h3,h4,h5,h6,h7,h8⟩:=hs
  refine ⟨h1,h2,h3,h4,by rw [←h5] at hx ⊢;exact b0Q _ _ _ hx,h6,b5u _ _ ⟨by rw [List.length_set];exact hr.1,fun x hx=>?_⟩ _ h7,h8⟩
  rcases List.mem_or_eq_of_mem_set hx with h | h
  ·exact hr.2 x h
  ·rw [h];exact hv
 | held b=>
  intro s hs
  unfold heldM Go.Proofs.YthaaobpfbgcfiaaGreatDoor.bnd
  have h:=b3T s hs
  unfold stepM at h ⊢
  split
  ·rename_i h0
   rw [if_pos h0] at h
   exact h
  ·obtain ⟨h1,h2,h3,h4,h5,h6,h7,h8⟩:=hs
   exact ⟨trivial,⟨by dsimp only;omega,by dsimp only;omega,by dsimp only;rw [List.length_append];simp only [List.length_cons,List.length_nil];omega,h4,h5,h6,h7,h8⟩,Nat.sub_le _ _⟩
 | loop _ _ _ ih1 ih2=>exact fun s hs=>b7z ih1 ih2 _ s hs
theorem b7A{c:M Bool}{b:M Unit}(hc:∀s,Okst k0 ev0 ns ars s→Post k0 ev0 ns ars (fun _=>True) s (c s))(hb:∀s,Okst k0 ev0 ns ars s→Post k0 ev0 ns ars (fun _=>True) s (b s))(hd:Dec ns ars c):∀(n n':Nat)(s:St),Okst k0 ev0 ns ars s→s.left < n→s.left < n'→loopM c b n s=loopM c b n' s
 | 0,_,s,_,h,_=>by omega
 | _+1,0,s,_,_,h=>by omega
 | n+1,n'+1,s,hs,h1,h2=>by
  unfold loopM bnd
  have q:=hc s hs
  cases hm:c s with
  | stop x y s1=>rfl
  | ok x s1=>
   rw [hm] at q
   have e1:=hd _ _ _ _ _ hs hm
   show (if x=true then bnd b fun _=>loopM c b n else ret ()) s1=(if x=true then bnd b fun _=>loopM c b n' else ret ()) s1
   cases x
   ·rfl
   ·rw [if_pos rfl,if_pos rfl]
    unfold bnd
    have q2:=hb s1 q.2.1
    cases hm2:b s1 with
    | stop x y s2=>rfl
    | ok y s2=>
     rw [hm2] at q2
     have e2:=q2.2.2
     exact b7A hc hb hd n n' s2 q2.2.1 (by omega) (by omega)
theorem c5j{c:M Bool}{b:M Unit}(hc:Cm ns ars (fun _=>True) c)(hb:Cm ns ars (fun _=>True) b)(hd:Dec ns ars c){s:St}(hs:Okst k0 ev0 ns ars s):loopW c b s=bnd c (fun h=>if h=true then bnd b fun _=>loopW c b else ret ()) s:=by
 show loopM c b (s.left+1) s=_
 unfold loopM bnd
 have q:=hc.safe s hs
 cases hm:c s with
 | stop x y s1=>rfl
 | ok x s1=>
  rw [hm] at q
  have e1:=hd _ _ _ _ _ hs hm
  show (if x=true then bnd b fun _=>loopM c b s.left else ret ()) s1=(if x=true then bnd b fun _=>loopW c b else ret ()) s1
  cases x
  ·rfl
  ·rw [if_pos rfl,if_pos rfl]
   unfold bnd
   have q2:=hb.safe s1 q.2.1
   cases hm2:b s1 with
   | stop x y s2=>rfl
   | ok y s2=>
    rw [hm2] at q2
    have e2:=q2.2.2
    exact b7A hc.safe hb.safe hd _ _ s2 q2.2.1 (by omega) (by omega)
end
end Go.Proofs.YthaaobpfbgcfiaaGreatDoor
