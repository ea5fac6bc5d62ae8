/- Trees: plain ones, how they lie in the frozen heap; whether two are the same, by the program and by the document. Contracts off the printed formulas. -/
import Derived.Test.YthklmeihgmcljaaGreatDoorzQV1a
import Derived.Test.YthklmeihgmcljaaGreatDoorzQV1b
import Derived.Test.YthklmeihgmcljaaGreatDoorzQV1c
import Derived.Test.YthklmeihgmcljaaGreatDoorzQV1d
namespace Go.Proofs.YthklmeihgmcljaaGreatDoor
open Go.RowKit
set_option maxRecDepth 100000
set_option maxHeartbeats 2000000
inductive Lab where
 | decl (size:Int) (name:ByteArray)
 | stmt (kind:Int) (name:ByteArray) (e c t f:Nat)
 | cond (kind op:Int) (e p:Nat)
 | expr (kind num:Int) (name:ByteArray) (n:Nat)
inductive PT where
 | mk (l:Lab) (cs:List PT)
def PT.lab:PT→Lab | .mk l _=>l
def PT.kids:PT→List PT | .mk _ cs=>cs
abbrev big:Nat:=1099511627776
inductive EH (H:Hp):d6→PT→Prop
 | mk {e:d6} {xs:List d6} {ts:List PT}:SlH H 4 d7 e.B1 xs→xs.length≤big→xs.length=ts.length→(∀(i:Nat) (x:d6) (t:PT),xs[i]? = some x→ts[i]? = some t→EH H x t)→EH H e (.mk (.expr e.d8 e.F0 e.A8 ts.length) ts)
inductive CH (H:Hp):c8→PT→Prop
 | mk {c:c8} {xs:List d6} {ts:List PT} {ys:List c8} {us:List PT}:SlH H 4 d7 c.o0 xs→xs.length≤big→A5 (EH H) xs ts→SlH H 4 f7 c.t7 ys→ys.length≤big→ys.length=us.length→(∀(i:Nat) (x:c8) (t:PT),ys[i]? = some x→us[i]? = some t→CH H x t)→CH H c (.mk (.cond c.d8 c.fOp ts.length us.length) (ts++us))
inductive SH (H:Hp):j9→PT→Prop
 | mk {s:j9} {xs:List d6} {ts:List PT} {ys:List c8} {us:List PT} {zs bs:List j9} {vs ws:List PT}:SlH H 4 d7 s.o0 xs→xs.length≤big→A5 (EH H) xs ts→SlH H 4 f7 s.C3 ys→ys.length≤big→A5 (CH H) ys us→
   SlH H 6 y2 s.R8 zs→zs.length≤big→zs.length=vs.length→(∀(i:Nat) (x:j9) (t:PT),zs[i]? = some x→vs[i]? = some t→SH H x t)→
   SlH H 6 y2 s.Q2 bs→bs.length≤big→bs.length=ws.length→(∀(i:Nat) (x:j9) (t:PT),bs[i]? = some x→ws[i]? = some t→SH H x t)→
   SH H s (.mk (.stmt s.d8 s.A8 ts.length us.length vs.length ws.length) (us++(ts++(vs++ws))))
theorem EH.le {H H':Hp} (l:Hle H H') {e:d6} {t:PT} (h:EH H e t):EH H' e t:=by
 induction h with
 | mk hs hb hl _ ih=>exact .mk (hs.le l) hb hl ih
theorem CH.le {H H':Hp} (l:Hle H H') {e:c8} {t:PT} (h:CH H e t):CH H' e t:=by
 induction h with
 | mk hs hb hr hy hc hl _ ih=>exact .mk (hs.le l) hb (hr.mono fun _ _=>EH.le l) (hy.le l) hc hl ih
theorem SH.le {H H':Hp} (l:Hle H H') {e:j9} {t:PT} (h:SH H e t):SH H' e t:=by
 induction h with
 | mk hs hb hr hy hc hrc ha hab hal _ hbs hbb hbl _ ih1 ih2=>exact .mk (hs.le l) hb (hr.mono fun _ _=>EH.le l) (hy.le l) hc (hrc.mono fun _ _=>CH.le l) (ha.le l) hab hal ih1 (hbs.le l) hbb hbl ih2
structure PP where
 decls:List p5
 body:List PT
structure PH (H:Hp) (p:p6) (q:PP):Prop where
 d:SlH H 2 C1 p.a7c q.decls
 bd:q.decls.length≤big
 b:∃xs,SlH H 6 y2 p.a6h xs∧xs.length≤big∧A5 (SH H) xs q.body
theorem PH.le {H H':Hp} {p:p6} {q:PP} (h:PH H p q) (l:Hle H H'):PH H' p q:=by
 obtain ⟨a,b,xs,c,d,e⟩:=h
 exact ⟨a.le l,b,xs,c.le l,d,e.mono fun _ _=>SH.le l⟩
open Classical in
noncomputable def eqT (a b:PT):Bool:=decide (a=b)
open Classical in
noncomputable def eqTs (a b:List PT):Bool:=decide (a=b)
theorem b4K {a b:PT}:eqT a b=true↔a=b:=by unfold eqT;simp
theorem b5A {a b:List PT}:eqTs a b=true↔a=b:=by unfold eqTs;simp
theorem d2q {a b:PT}:eqT a b=false↔a≠b:=by unfold eqT;simp
theorem c1H {a b:List PT}:eqTs a b=false↔a≠b:=by unfold eqTs;simp
theorem b5B {a b:List PT} (h:a.length≠b.length):eqTs a b=false:=c1H.2 fun e=>h (by rw [e])
theorem b7n {a b:List PT} {i:Nat} {x y:PT} (ha:a[i]? = some x) (hb:b[i]? = some y) (h:eqT x y=false):eqTs a b=false:=c1H.2 fun e=>by
 rw [e,hb] at ha;cases ha;exact d2q.1 h rfl
theorem c5v {a b:List PT} (hl:a.length=b.length) (h:∀(i:Nat) (x y:PT),a[i]? = some x→b[i]? = some y→eqT x y=true):eqTs a b=true:=b5A.2 (c7k hl fun i x y ha hb=>b4K.1 (h i x y ha hb))
theorem c5w {k n:Int} {s:ByteArray} {ts:List PT} {k' n':Int} {s':ByteArray} {ts':List PT}:eqT (.mk (.expr k n s ts.length) ts) (.mk (.expr k' n' s' ts'.length) ts')=(decide (k=k')&&decide (n=n')&&decide (s=s')&&eqTs ts ts'):=by
 rw [Bool.eq_iff_iff,b4K]
 simp only [Bool.and_eq_true,decide_eq_true_eq,b5A,PT.mk.injEq,Lab.expr.injEq]
 constructor
 ·rintro ⟨⟨rfl,rfl,rfl,_⟩,rfl⟩;exact ⟨⟨⟨rfl,rfl⟩,rfl⟩,rfl⟩
 ·rintro ⟨⟨⟨rfl,rfl⟩,rfl⟩,rfl⟩;exact ⟨⟨rfl,rfl,rfl,rfl⟩,rfl⟩
theorem c5x {k n:Int} {ts us:List PT} {k' n':Int} {ts' us':List PT}:eqT (.mk (.cond k n ts.length us.length) (ts++us)) (.mk (.cond k' n' ts'.length us'.length) (ts'++us'))=(decide (k=k')&&decide (n=n')&&eqTs ts ts'&&eqTs us us'):=by
 rw [Bool.eq_iff_iff,b4K]
 simp only [Bool.and_eq_true,decide_eq_true_eq,b5A,PT.mk.injEq,Lab.cond.injEq]
 constructor
 ·rintro ⟨⟨rfl,rfl,h1,h2⟩,h⟩
  obtain ⟨rfl,rfl⟩:=List.append_inj h h1
  exact ⟨⟨⟨rfl,rfl⟩,rfl⟩,rfl⟩
 ·rintro ⟨⟨⟨rfl,rfl⟩,rfl⟩,rfl⟩;exact ⟨⟨rfl,rfl,rfl,rfl⟩,rfl⟩
section
variable {H:Hp}
end
section
variable {H:Hp}
theorem b3X {ts us:List PT} (hl:ts.length=us.length) (hb:ts.length≤big) {Fin:Prop} {body:Int→Hp→(Int→Hp→Prop)→Prop}
  (h:∀(i:Int) (next:Int→Hp→Prop),0≤i→i≤ts.length→(∀(t u:PT),ts[i.toNat]? = some t→us[i.toNat]? = some u→eqT t u=true→next (i+1) H)→(¬i < ts.length→eqTs ts us=true)→body i H next):TL (0:Int) H body:=by
 refine L0 (fun (i:Int) H'=>0≤i∧i≤ts.length∧H'=H∧∀(j:Nat) (t u:PT),(j:Int) < i→ts[j]? = some t→us[j]? = some u→eqT t u=true) (fun i=>(ts.length-i).toNat) ⟨by omega,by omega,rfl,fun j t u hj=>by omega⟩ ?_
 rintro i H1 next ⟨i0,i1,rfl,hi⟩ hn
 refine h i next i0 i1 (fun t u ht hu he=>?_) fun hc=>c5v hl fun j t u ht hu=>hi j t u (by have:=V1 ht;omega) ht hu
 have:=V1 ht
 refine hn _ _ ⟨by omega,by omega,rfl,fun j t' u' hj ht' hu'=>?_⟩ (by omega)
 by_cases ej:j=i.toNat
 ·subst ej
  rw [ht] at ht';cases ht'
  rw [hu] at hu';cases hu'
  exact he
 ·exact hi j t' u' (by omega) ht' hu'
theorem b1A {e e':d6} {t t':PT} (he:EH H e t) (he':EH H e' t') {K:Bool→Hp→Prop} (h:K (eqT t t') H):W0 e e' H K:=by
 induction he generalizing e' t' K with
 | @mk e xs ts hs hb hl _ ih=>
  cases he' with
  | @mk _ xs' ts' hs' hb' hl' hr'=>
   refine a9w _ _ ?_
   unfold a2I
   have n1:=hs.1;have n2:=hs'.1
   rw [c5w] at h
   refine ⟨fun hc=>?_,fun hc=>?_⟩
   ·have:(decide (e.d8=e'.d8)&&decide (e.F0=e'.F0)&&decide (e.A8=e'.A8)&&eqTs ts ts')=false:=by
     by_cases hq:ts.length=ts'.length
     ·have hq':decide ((e.B1.n:Int)=(e'.B1.n:Int))=true:=decide_eq_true (by omega)
      rw [hq'] at hc
      generalize decide (e.d8=e'.d8)=a at hc ⊢
      generalize decide (e.F0=e'.F0)=b at hc ⊢
      generalize decide (e.A8=e'.A8)=c at hc ⊢
      cases a<;>cases b<;>cases c<;>first | rfl | cases hc
     ·rw [b5B hq,Bool.and_false]
    rw [this] at h;exact h
   ·simp only [Bool.or_eq_false_iff,Bool.not_eq_false',decide_eq_true_eq] at hc
    obtain ⟨⟨⟨h1,h2⟩,h3⟩,h4⟩:=hc
    rw [decide_eq_true h1,decide_eq_true h2,decide_eq_true h3,Bool.true_and,Bool.true_and,Bool.true_and] at h
    refine b3X (ts:=ts) (us:=ts') (by omega) (by omega) (Fin:=True) fun i next i0 i1 hn hf=>?_
    unfold Z1
    refine ⟨fun hc=>?_,fun hc=>?_⟩
    ·obtain ⟨x,hx,hE⟩:=hs.get i0 hc
     obtain ⟨y,hy,hF⟩:=hs'.get i0 (show i < (e'.B1.n:Int) by omega)
     obtain ⟨t,ht⟩:=a2z (l:=ts) (i:=i.toNat) (by omega)
     obtain ⟨u,hu⟩:=a2z (l:=ts') (i:=i.toNat) (by omega)
     refine ⟨i0,hc,x,hE,i0,by omega,y,hF,ih _ x t hx ht (hr' _ y u hy hu) ⟨fun hq=>?_,fun hq=>?_⟩⟩
     ·rw [b7n ht hu (by simpa using hq)] at h;exact h
     ·rw [a0d i0 (by simp only [big] at hb;omega)]
      exact hn t u ht hu (by simpa using hq)
    ·rw [hf (by omega)] at h
     unfold Z0;exact h
theorem b3Y {e e':c8} {t t':PT} (he:CH H e t) (he':CH H e' t') {K:Bool→Hp→Prop} (h:K (eqT t t') H):P9 e e' H K:=by
 induction he generalizing e' t' K with
 | @mk e xs ts ys us hs hb hr hc hcb hcl _ ih=>
  cases he' with
  | @mk _ xs' ts' ys' us' hs' hb' hr' hc' hcb' hcl' hcr'=>
   refine a9B _ _ ?_
   unfold a2L
   have n1:=hs.1;have n2:=hs'.1;have n3:=hc.1;have n4:=hc'.1;have r1:=hr.1;have r2:=hr'.1
   rw [c5x] at h
   refine ⟨fun hq0=>?_,fun hq0=>?_⟩
   ·have:(decide (e.d8=e'.d8)&&decide (e.fOp=e'.fOp)&&eqTs ts ts'&&eqTs us us')=false:=by
     by_cases hq:ts.length=ts'.length
     ·by_cases hq2:us.length=us'.length
      ·have hq':decide ((e.o0.n:Int)=(e'.o0.n:Int))=true:=decide_eq_true (by omega)
       have hq2':decide ((e.t7.n:Int)=(e'.t7.n:Int))=true:=decide_eq_true (by omega)
       rw [hq',hq2'] at hq0
       generalize decide (e.d8=e'.d8)=a at hq0 ⊢
       generalize decide (e.fOp=e'.fOp)=b at hq0 ⊢
       cases a<;>cases b<;>first | rfl | cases hq0
      ·rw [b5B hq2,Bool.and_false]
     ·rw [b5B hq,Bool.and_false,Bool.false_and]
    rw [this] at h;exact h
   ·simp only [Bool.or_eq_false_iff,Bool.not_eq_false',decide_eq_true_eq] at hq0
    obtain ⟨⟨⟨h1,h2⟩,h3⟩,h4⟩:=hq0
    rw [decide_eq_true h1,decide_eq_true h2,Bool.true_and,Bool.true_and] at h
    refine b3X (ts:=ts) (us:=ts') (by omega) (by omega) (Fin:=True) fun i next i0 i1 hn hf=>?_
    unfold Z5
    refine ⟨fun hlt=>?_,fun hlt=>?_⟩
    ·obtain ⟨x,hx,hE⟩:=hs.get i0 hlt
     obtain ⟨y,hy,hF⟩:=hs'.get i0 (show i < (e'.o0.n:Int) by omega)
     obtain ⟨t,ht⟩:=a2z (l:=ts) (i:=i.toNat) (by omega)
     obtain ⟨u,hu⟩:=a2z (l:=ts') (i:=i.toNat) (by omega)
     refine ⟨i0,hlt,x,hE,i0,by omega,y,hF,b1A (hr.2 _ x t hx ht) (hr'.2 _ y u hy hu) ⟨fun hq=>?_,fun hq=>?_⟩⟩
     ·rw [b7n ht hu (by simpa using hq),Bool.false_and] at h;exact h
     ·rw [a0d i0 (by simp only [big] at hb;omega)]
      exact hn t u ht hu (by simpa using hq)
    ·rw [hf (by omega),Bool.true_and] at h
     clear hn hf next
     unfold Z4
     refine b3X (ts:=us) (us:=us') (by omega) (by omega) (Fin:=True) fun i next i0 i1 hn hf=>?_
     unfold Z3
     refine ⟨fun hlt=>?_,fun hlt=>?_⟩
     ·obtain ⟨x,hx,hE⟩:=hc.get i0 hlt
      obtain ⟨y,hy,hF⟩:=hc'.get i0 (show i < (e'.t7.n:Int) by omega)
      obtain ⟨t,ht⟩:=a2z (l:=us) (i:=i.toNat) (by omega)
      obtain ⟨u,hu⟩:=a2z (l:=us') (i:=i.toNat) (by omega)
      refine ⟨i0,hlt,x,hE,i0,by omega,y,hF,ih _ x t hx ht (hcr' _ y u hy hu) ⟨fun hq=>?_,fun hq=>?_⟩⟩
      ·rw [b7n ht hu (by simpa using hq)] at h;exact h
      ·rw [a0d i0 (by simp only [big] at hcb;omega)]
       exact hn t u ht hu (by simpa using hq)
     ·rw [hf (by omega)] at h
      unfold Z2;exact h
abbrev W:=m7
def wStep (s:W) (d:Int):W:=if s.fbad=0 then (if s.fn=4096 then ⟨s.fn,s.fdepth,33⟩ else if 64 < d then ⟨s.fn,s.fdepth,32⟩ else ⟨s.fn+1,if d > s.fdepth then d else s.fdepth,0⟩) else s
mutual
def wT:PT→Int→W→W
 | .mk _ cs,d,s=>wTs cs (d+1) (wStep s d)
def wTs:List PT→Int→W→W
 | [],_,s=>s
 | t::ts,d,s=>wTs ts d (wT t d s)
end
def wok (s:W):Prop:=0≤s.fn∧s.fn≤4096
theorem b5C {s:W} {d:Int} (h:wok s):wok (wStep s d):=by
 unfold wStep
 repeat' split
 all_goals first | exact h | (unfold wok at h ⊢;dsimp only;omega)
mutual
theorem d3P:∀(t:PT) (d:Int) (s:W),wok s→wok (wT t d s)
 | .mk _ cs,d,s,h=>by rw [wT];exact b9X cs _ _ (b5C h)
theorem b9X:∀(ts:List PT) (d:Int) (s:W),wok s→wok (wTs ts d s)
 | [],_,s,h=>by rw [wTs];exact h
 | t::ts,d,s,h=>by rw [wTs];exact b9X ts d _ (d3P t d s h)
end
mutual
theorem d2r:∀(t:PT) (d:Int) (s:W),s.fbad≠0→wT t d s=s
 | .mk _ cs,d,s,h=>by
  have:wStep s d=s:=by unfold wStep;rw [if_neg h]
  rw [wT,this];exact a9G cs _ _ h
theorem a9G:∀(ts:List PT) (d:Int) (s:W),s.fbad≠0→wTs ts d s=s
 | [],_,s,h=>by rw [wTs]
 | t::ts,d,s,h=>by rw [wTs,d2r t d s h];exact a9G ts d s h
end
theorem b4L:∀(a b:List PT) (d:Int) (s:W),wTs (a++b) d s=wTs b d (wTs a d s)
 | [],b,d,s=>by rw [List.nil_append,wTs]
 | t::a,b,d,s=>by rw [List.cons_append,wTs,wTs,b4L a b]
theorem d2s {ts:List PT} {i:Nat} {t:PT} (h:ts[i]? = some t) (d:Int) (s:W):wTs (ts.take (i+1)) d s=wT t d (wTs (ts.take i) d s):=by
 rw [a5p h,b4L,wTs,wTs]
theorem c8F {ts:List PT} {i:Nat} {d:Int} {s:W} (h:ts.length≤i∨(wTs (ts.take i) d s).fbad≠0):wTs (ts.take i) d s=wTs ts d s:=by
 rcases h with h | h
 ·rw [List.take_of_length_le h]
 ·have:=b4L (ts.take i) (ts.drop i) d s
  rw [List.take_append_drop,a9G _ _ _ h] at this
  exact this.symm
theorem c1I {s:W} {d:Int} (hs:wok s) {K:Bool→W→Hp→Prop} (h:K (decide ((wStep s d).fbad=0)) (wStep s d) H):a0t s d H K:=by
 refine a9j _ _ ?_
 unfold a2r
 unfold wok at hs
 unfold wStep at h
 refine ⟨fun hb=>?_,fun hb=>⟨fun h4=>?_,fun h4=>⟨fun h5=>?_,fun h5=>?_⟩⟩⟩
 ·rw [if_neg hb,decide_eq_false hb] at h;exact h
 ·rw [if_pos hb,if_pos h4] at h;exact h
 ·rw [if_pos hb,if_neg h4,if_pos h5] at h;exact h
 ·rw [if_pos hb,if_neg h4,if_neg h5] at h
  rw [a0d (by omega) (by omega),hb];exact h
theorem c1J {s:W} {d:Int} (h:(wStep s d).fbad=0):d≤64:=by
 unfold wStep at h
 split at h
 ·split at h
  ·cases h
  ·split at h
   ·cases h
   ·omega
 ·rename_i hb;exact (hb h).elim
theorem wloop {ts:List PT} {d:Int} {s1:W} (ok1:wok s1) {body:Int×W→Hp→(Int×W→Hp→Prop)→Prop}
  (hb:∀(i:Int) (s:W) (next:Int×W→Hp→Prop),0≤i→i≤ts.length→wok s→(∀t,ts[i.toNat]? = some t→next (i+1,wT t d s) H)→((ts.length≤i∨s.fbad≠0)→s=wTs ts d s1)→body (i,s) H next):TL ((0,s1):Int×W) H body:=by
 refine L0 (fun (q:Int×W) H'=>0≤q.1∧q.1≤ts.length∧H'=H∧q.2=wTs (ts.take q.1.toNat) d s1) (fun q=>(ts.length-q.1).toNat) ⟨Int.le_refl _,by simp,rfl,by simp [wTs]⟩ ?_
 rintro ⟨i,s⟩ H1 next ⟨i0,i1,rfl,hs⟩ hn
 dsimp only at i0 i1 hs ⊢
 subst hs
 refine hb i _ next i0 i1 (b9X _ _ _ ok1) (fun t ht=>?_) fun he=>c8F (by omega)
 have:=V1 ht
 refine hn _ _ ⟨by show 0≤i+1;omega,by show i+1≤_;omega,rfl,?_⟩ (by show (ts.length-(i+1)).toNat < (ts.length-i).toNat;omega)
 show wT t d _=wTs (ts.take (i+1).toNat) d s1
 rw [show (i+1).toNat=i.toNat+1 by omega,d2s ht]
theorem b9Y {i n:Int} {b:Int}:(decide (i < n)&&decide (b=0))=decide (i < n∧b=0):=by rw [Bool.eq_iff_iff];simp
theorem b3Z {e:d6} {t:PT} (he:EH H e t) {s:W} {d:Int} (hs:wok s) (d0:0≤d) (d1:d≤65) {K:W→Hp→Prop} (h:K (wT t d s) H):U5 s e d H K:=by
 induction he generalizing s d K with
 | @mk e xs ts hsl hb hl _ ih=>
  refine a9k _ _ _ ?_
  unfold a2t
  rw [wT] at h
  refine c1I hs ⟨fun hq=>?_,fun hq=>?_⟩
  ·rw [a9G _ _ _ (by simpa using hq)] at h;exact h
  have hq':(wStep s d).fbad=0:=by simpa using hq
  have d64:=c1J hq'
  have ok1:=b5C (d:=d) hs
  refine wloop (ts:=ts) (d:=d+1) ok1 fun i s' next i0 i1 hok hn hf=>?_
  unfold Y3
  rw [b9Y]
  refine ⟨fun hc=>?_,fun hc=>?_⟩
  ·have hc':=of_decide_eq_true hc
   dsimp only at hc'
   obtain ⟨x,hx,hE⟩:=hsl.get i0 hc'.1
   obtain ⟨t,ht⟩:=a2z (l:=ts) (i:=i.toNat) (by have:=V1 hx;omega)
   refine ⟨i0,hc'.1,x,hE,?_⟩
   rw [a0d (show 0≤d by omega) (by omega),a0d i0 (by simp only [big] at hb;have:=V1 hx;omega)]
   exact ih _ x t hx ht hok (by omega) (by omega) (hn t ht)
  ·have hc':=of_decide_eq_false hc
   dsimp only at hc'
   have hfin:=hf (by have:=hsl.1;omega)
   rw [hfin];exact h
theorem b9Z {e:c8} {t:PT} (he:CH H e t) {s:W} {d:Int} (hs:wok s) (d0:0≤d) (d1:d≤65) {K:W→Hp→Prop} (h:K (wT t d s) H):a0u s e d H K:=by
 induction he generalizing s d K with
 | @mk e xs ts ys us hsl hb hr hcl hcb hcl' _ ih=>
  refine a9h _ _ _ ?_
  unfold a2p
  rw [wT] at h
  refine c1I hs ⟨fun hq=>?_,fun hq=>?_⟩
  ·rw [a9G _ _ _ (by simpa using hq)] at h;exact h
  have hq':(wStep s d).fbad=0:=by simpa using hq
  have d64:=c1J hq'
  rw [b4L] at h
  have ok1:=b5C (d:=d) hs
  refine wloop (ts:=ts) (d:=d+1) ok1 fun i s' next i0 i1 hok hn hf=>?_
  unfold X8
  rw [b9Y]
  refine ⟨fun hc=>?_,fun hc=>?_⟩
  ·have hc':=of_decide_eq_true hc
   dsimp only at hc'
   obtain ⟨x,hx,hE⟩:=hsl.get i0 hc'.1
   obtain ⟨t,ht⟩:=a2z (l:=ts) (i:=i.toNat) (by have:=V1 hx;have:=hr.1;omega)
   refine ⟨i0,hc'.1,x,hE,?_⟩
   rw [a0d (show 0≤d by omega) (by omega),a0d i0 (by simp only [big] at hb;have:=V1 hx;omega)]
   exact b3Z (hr.2 _ x t hx ht) hok (by omega) (by omega) (hn t ht)
  ·have hc':=of_decide_eq_false hc
   dsimp only at hc'
   have hfin:=hf (by have:=hsl.1;have:=hr.1;omega)
   clear hn hf next
   rw [←hfin] at h
   clear hfin hc'
   unfold X7
   refine wloop (ts:=us) (d:=d+1) hok fun i s' next i0 i1 hok hn hf=>?_
   unfold X6
   rw [b9Y]
   refine ⟨fun hc=>?_,fun hc=>?_⟩
   ·have hc':=of_decide_eq_true hc
    dsimp only at hc'
    obtain ⟨x,hx,hE⟩:=hcl.get i0 hc'.1
    obtain ⟨t,ht⟩:=a2z (l:=us) (i:=i.toNat) (by have:=V1 hx;omega)
    refine ⟨i0,hc'.1,x,hE,?_⟩
    rw [a0d (show 0≤d by omega) (by omega),a0d i0 (by simp only [big] at hcb;have:=V1 hx;omega)]
    exact ih _ x t hx ht hok (by omega) (by omega) (hn t ht)
   ·have hc':=of_decide_eq_false hc
    dsimp only at hc'
    have hfin:=hf (by have:=hcl.1;omega)
    rw [hfin];exact h
def dT (d:p5):PT:=.mk (.decl d.a6T d.A8) []
def PP.nodes (q:PP):List PT:=q.decls.map dT++q.body
def w0S:W:=⟨0,0,0⟩
end
end Go.Proofs.YthklmeihgmcljaaGreatDoor
