/- The document's forms: which trees have theirs, which names are names; what it tells is what the program tells. The law TreeParts. -/
import Derived.Test.YtnhdnncbjddmjaaGreatDooryEQ7
namespace Go.Proofs.YtnhdnncbjddmjaaGreatDoor
open Go.RowKit
set_option maxRecDepth 100000
set_option maxHeartbeats 2000000
def nameOk(l:Lab):Bool:=if (nameL l).2=true then nameS (nameL l).1 else true
mutual
def formT:PT→Bool
 | .mk l cs=>formL l&&formTs cs
def formTs:List PT→Bool
 | []=>true
 | t::ts=>formT t&&formTs ts
end
mutual
def namesT:PT→Bool
 | .mk l cs=>nameOk l&&namesTs cs
def namesTs:List PT→Bool
 | []=>true
 | t::ts=>namesT t&&namesTs ts
end
theorem M9:∀a b:List PT,formTs (a++b)=(formTs a&&formTs b)
 | [],b=>by rw [List.nil_append,formTs,Bool.true_and]
 | t::a,b=>by rw [List.cons_append,formTs,formTs,M9 a b,Bool.and_assoc]
theorem a1S:∀a b:List PT,namesTs (a++b)=(namesTs a&&namesTs b)
 | [],b=>by rw [List.nil_append,namesTs,Bool.true_and]
 | t::a,b=>by rw [List.cons_append,namesTs,namesTs,a1S a b,Bool.and_assoc]
theorem b0h{ts:List PT}{i:Nat}{t:PT}(h:ts[i]? = some t):formTs (ts.take (i+1))=(formTs (ts.take i)&&formT t):=by
 rw [a1I h,M9,formTs,formTs,Bool.and_true]
theorem a9h{ts:List PT}{i:Nat}{t:PT}(h:ts[i]? = some t):namesTs (ts.take (i+1))=(namesTs (ts.take i)&&namesT t):=by
 rw [a1I h,a1S,namesTs,namesTs,Bool.and_true]
theorem b5p{ts:List PT}{i:Nat}(h:formTs (ts.take i)=false):formTs ts=false:=by
 have:=M9 (ts.take i) (ts.drop i)
 rw [List.take_append_drop,h,Bool.false_and] at this
 exact this
abbrev Fm:=a8
def FR(f:Fm)(a b:Bool)(y:Fm):Prop:=y.fok=(f.fok&&a)∧(y.fok=true→y.fnames=(f.fnames&&b))
theorem FR.refl(f:Fm):FR f true true f:=⟨(Bool.and_true _).symm,fun _=>(Bool.and_true _).symm⟩
theorem FR.trans{f g y:Fm}{a b a' b':Bool}(h:FR f a b g)(h':FR g a' b' y):FR f (a&&a') (b&&b') y:=by
 refine ⟨by rw [h'.1,h.1,Bool.and_assoc],fun hy=>?_⟩
 have hg:g.fok=true:=by rw [h'.1] at hy;exact (Bool.and_eq_true_iff.1 hy).1
 rw [h'.2 hy,h.2 hg,Bool.and_assoc]
section
variable {H:Hp}
theorem floop{ts:List PT}{f1:Fm}{body:Int×Fm→Hp→(Int×Fm→Hp→Prop)→Prop}
  (hb:∀(i:Int)(s:Fm)(next:Int×Fm→Hp→Prop),0≤i→i≤ts.length→(∀t,ts[i.toNat]? = some t→s.fok=true→∀y,FR s (formT t) (namesT t) y→next (i+1,y) H)→((ts.length≤i∨s.fok=false)→FR f1 (formTs ts) (namesTs ts) s)→body (i,s) H next):TL ((0,f1):Int×Fm) H body:=by
 refine Q9 (fun(q:Int×Fm) H'=>0≤q.1∧q.1≤ts.length∧H'=H∧FR f1 (formTs (ts.take q.1.toNat)) (namesTs (ts.take q.1.toNat)) q.2) (fun q=>(ts.length-q.1).toNat) ⟨Int.le_refl _,by simp,rfl,by simpa [formTs,namesTs] using FR.refl f1⟩ ?_
 rintro ⟨i,s⟩ H1 next ⟨i0,i1,rfl,hs⟩ hn
 dsimp only at i0 i1 hs ⊢
 refine hb i s next i0 i1 (fun t ht hok y hy=>?_) fun he=>?_
 ·have:=t8 ht
  refine hn _ _ ⟨by show 0≤i+1;omega,by show i+1≤_;omega,rfl,?_⟩ (by show (ts.length-(i+1)).toNat < (ts.length-i).toNat;omega)
  show FR f1 (formTs (ts.take (i+1).toNat)) (namesTs (ts.take (i+1).toNat)) y
  rw [show (i+1).toNat=i.toNat+1 by omega,b0h ht,a9h ht]
  exact hs.trans hy
 ·by_cases hl:ts.length≤i
  ·rwa [List.take_of_length_le (by omega)] at hs
  ·have hf:s.fok=false:=by rcases he with he | he;exact (hl he).elim;exact he
   refine ⟨?_,fun e=>by rw [hf] at e;cases e⟩
   have h1:=hs.1
   rw [hf] at h1
   rw [hf]
   cases hq:f1.fok
   ·rfl
   ·rw [hq,Bool.true_and] at h1
    rw [b5p h1.symm];rfl
theorem a3W{i n:Int}{b:Bool}:(decide (i < n)&&b)=true↔(i < n∧b=true):=by simp
theorem a8O{f:Fm}{s:ByteArray}{b:Bool}{K:Fm→Hp→Prop}(h:K ⟨f.fok&&(b||decide (s=⟨#[]⟩)),f.fnames&&(if b=true then nameS s else true)⟩ H):J8 f s b H K:=by
 refine a4v _ _ _ ?_
 unfold W5
 cases b
 ·refine ⟨fun _=>?_,fun q=>(by cases q)⟩
  rw [if_neg (by decide),Bool.and_true,Bool.false_or] at h;exact h
 ·refine ⟨fun q=>(by cases q),fun _=>a3N (nameS s) (fun _ K' hk=>b3P hk) ?_⟩
  rw [if_pos rfl,Bool.true_or,Bool.and_true] at h
  have e:(f.fnames&&(if f.fnames=true then nameS s else false))=(f.fnames&&nameS s):=by cases f.fnames<;>rfl
  rw [e];exact h
def nokE(k:Int)(s:ByteArray):Bool:=(decide (k=2)||decide (k=4))||decide (s=⟨#[]⟩)
def numE(k n:Int):Bool:=decide (n=0)||(decide (k=1)&&decide (0 < n))
theorem b7F{k n:Int}{s:ByteArray}{a:Int}(hk:k=1∨k=2∨k=3)(g:Bool):(((g&&nokE k s)&&decide (a=0))&&numE k n)=(g&&formE k n s a):=by
 by_cases hs:s=⟨#[]⟩<;>by_cases ha:a=0<;>by_cases hn:n=0<;>by_cases hp:0 < n<;>(first | omega | skip) <;>
  (have hp':(0≤n)=(n=0∨0 < n):=by rw [eq_iff_iff];omega) <;>
  rcases hk with rfl | rfl | rfl<;>cases g<;>simp [formE,nokE,numE,hs,ha,hn,hp,hp']
theorem b7G{k n:Int}{s:ByteArray}{a:Int}(hk:k=4∨k=5)(g:Bool):(((g&&nokE k s)&&decide (a=1))&&numE k n)=(g&&formE k n s a):=by
 by_cases hs:s=⟨#[]⟩<;>by_cases ha:a=1<;>by_cases hn:n=0<;>rcases hk with rfl | rfl<;>cases g<;>simp [formE,nokE,numE,hs,ha,hn]
theorem b7H{k n:Int}{s:ByteArray}{a:Int}(hk:k=6∨k=7∨k=8∨k=9∨k=10)(g:Bool):(((g&&nokE k s)&&decide (a=2))&&numE k n)=(g&&formE k n s a):=by
 by_cases hs:s=⟨#[]⟩<;>by_cases ha:a=2<;>by_cases hn:n=0<;>rcases hk with rfl | rfl | rfl | rfl | rfl<;>cases g<;>simp [formE,nokE,numE,hs,ha,hn]
theorem b7I{k n:Int}{s:ByteArray}{a:Int}(hk:¬(k=1∨k=2∨k=3∨k=4∨k=5∨k=6∨k=7∨k=8∨k=9∨k=10)):formE k n s a=false:=by
 unfold formE
 split
 ·rfl
 ·rw [if_neg (by omega),if_neg (by omega),if_neg (by omega),if_neg (by omega)]
theorem b2n{e:d8}{t:PT}(he:EH H e t){f:Fm}{K:Fm→Hp→Prop}(h:∀y,FR f (formT t) (namesT t) y→K y H):J9 f e H K:=by
 induction he generalizing f K with
 | @mk e xs ts hs hb hl _ ih=>
  refine a4C _ _ ?_
  have hn:(e.r5.n:Int)=(ts.length:Int):=by have:=hs.1;omega
  have j1:∀(args:Int)(f':Fm),f'.fnames=f.fnames→(((f'.fok&&nokE e.b8 e.f4)&&decide ((ts.length:Int)=args))&&numE e.b8 e.a0w)=(f.fok&&formE e.b8 e.a0w e.f4 (ts.length:Int))→u2 args e f' H K:=by
   intro args f' hf heq
   unfold u2
   refine a8O ?_
   refine floop (ts:=ts) fun i s next i0 i1 hk hf'=>?_
   unfold T2
   refine ⟨fun hc=>?_,fun hc=>?_⟩
   ·obtain ⟨hc1,hc2⟩:=a3W.1 hc
    obtain ⟨x,hx,hE⟩:=hs.get i0 hc1
    obtain ⟨t,ht⟩:=A0 (l:=ts) (i:=i.toNat) (by have:=t8 hx;omega)
    refine ⟨i0,hc1,x,hE,ih _ x t hx ht fun y hy=>?_⟩
    rw [u5 i0 (by simp only [big] at hb;have:=t8 hx;omega)]
    exact hk t ht hc2 y hy
   ·have hfin:=hf' (by
     by_cases hlt:i < (e.r5.n:Int)
     ·right
      cases hq:s.fok
      ·rfl
      ·dsimp only at hc;rw [hq,decide_eq_true hlt] at hc;cases hc
     ·left;omega)
    refine h _ (FR.trans (a:=formE e.b8 e.a0w e.f4 (ts.length:Int)) (b:=nameOk (.expr e.b8 e.a0w e.f4 ts.length)) (g:=⟨_,_⟩) ⟨?_,fun _=>?_⟩ hfin)
    ·show ((((f'.fok&&_)&&decide ((e.r5.n:Int)=args))&&_))=_
     rw [hn];exact heq
    ·show (f'.fnames&&_)=_
     rw [hf];rfl
  have j5:∀b:Bool,(b=true↔(e.b8=6∨e.b8=7∨e.b8=8∨e.b8=9∨e.b8=10))→¬(e.b8=1∨e.b8=2∨e.b8=3∨e.b8=4∨e.b8=5)→q7 0 b e f H K:=by
   intro b hq hno
   unfold q7
   refine ⟨fun q=>j1 2 f rfl (b7H (hq.1 q) _),fun q=>j1 0 _ rfl ?_⟩
   rw [b7I (fun e'=>by have:=mt hq.2 (by rw [q];decide);omega),Bool.and_false];rfl
  have j4:∀b:Bool,(b=true↔(e.b8=4∨e.b8=5))→¬(e.b8=1∨e.b8=2∨e.b8=3)→C6 0 e.b8 b e f H K:=by
   intro b hq hno
   unfold C6
   refine ⟨fun q=>j1 1 f rfl (b7G (hq.1 q) _),fun q=>?_⟩
   have hno2:¬(e.b8=4∨e.b8=5):=fun e'=>by rw [hq.2 e'] at q;cases q
   refine ⟨fun e6=>j5 _ ?_ (by omega),fun e6=>⟨fun e7=>j5 _ ?_ (by omega),fun e7=>⟨fun e8=>j5 _ ?_ (by omega),fun e8=>⟨fun e9=>j5 _ ?_ (by omega),fun e9=>j5 _ ?_ (by omega)⟩⟩⟩⟩<;>(rw [decide_eq_true_eq];omega)
  have j3:∀b:Bool,(b=true↔(e.b8=1∨e.b8=2∨e.b8=3))→A4 0 e.b8 b e f H K:=by
   intro b hq
   unfold A4
   refine ⟨fun q=>j1 0 f rfl (b7F (hq.1 q) _),fun q=>?_⟩
   have hno:¬(e.b8=1∨e.b8=2∨e.b8=3):=fun e'=>by rw [hq.2 e'] at q;cases q
   refine ⟨fun e4=>j4 _ ?_ hno,fun e4=>j4 _ ?_ hno⟩<;>(rw [decide_eq_true_eq];omega)
  unfold X2
  refine ⟨fun e1=>j3 _ ?_,fun e1=>⟨fun e2=>j3 _ ?_,fun e2=>j3 _ ?_⟩⟩<;>(rw [decide_eq_true_eq];omega)
def opC(k op:Int):Bool:=if k=3 then decide (1≤op)&&decide (op≤6) else decide (op=0)
theorem a7w{k op e p e' p':Int}(hk:(k=1∨k=2)∧e'=0∧p'=0∨k=3∧e'=2∧p'=0∨k=4∧e'=0∧p'=1∨(k=5∨k=6)∧e'=0∧p'=2)(g:Bool):(((g&&opC k op)&&decide (e=e'))&&decide (p=p'))=(g&&formC k op e p):=by
 rw [Bool.and_assoc,Bool.and_assoc]
 congr 1
 rw [Bool.eq_iff_iff]
 unfold opC formC
 rcases hk with ⟨rfl | rfl,rfl,rfl⟩ | ⟨rfl,rfl,rfl⟩ | ⟨rfl,rfl,rfl⟩ | ⟨rfl | rfl,rfl,rfl⟩<;>by_cases ho:op=0<;>simp [ho]<;>omega
theorem b6d{k op e p:Int}(hk:¬(k=1∨k=2∨k=3∨k=4∨k=5∨k=6)):formC k op e p=false:=by
 unfold formC
 rw [if_neg (by omega)]
 by_cases ho:op=0
 ·rw [if_pos ho,if_neg (by omega),if_neg (by omega),if_neg (by omega)]
 ·rw [if_neg ho]
theorem b6e{e:f9}{t:PT}(he:CH H e t){f:Fm}{K:Fm→Hp→Prop}(h:∀y,FR f (formT t) (namesT t) y→K y H):N9 f e H K:=by
 induction he generalizing f K with
 | @mk e xs ts ys us hs hb hr hc hcb hcl _ ih=>
  refine a4D _ _ ?_
  have r0:=hr.1
  have hn:(e.f0.n:Int)=(ts.length:Int):=by have:=hs.1;omega
  have hm:(e.o0.n:Int)=(us.length:Int):=by have:=hc.1;omega
  have j2:∀(e' p':Int)(b:Bool)(f':Fm),f'.fnames=f.fnames→(((f'.fok&&b)&&decide ((ts.length:Int)=e'))&&decide ((us.length:Int)=p'))=(f.fok&&formC e.b8 e.fOp (ts.length:Int) (us.length:Int))→C7 e' p' b e f' H K:=by
   intro e' p' b f' hf heq
   unfold C7
   refine floop (ts:=ts) fun i s next i0 i1 hk hf'=>?_
   unfold T4
   refine ⟨fun hc1=>?_,fun hc1=>?_⟩
   ·obtain ⟨hc1,hc2⟩:=a3W.1 hc1
    obtain ⟨x,hx,hE⟩:=hs.get i0 hc1
    obtain ⟨t,ht⟩:=A0 (l:=ts) (i:=i.toNat) (by have:=t8 hx;omega)
    refine ⟨i0,hc1,x,hE,b2n (hr.2 _ x t hx ht) fun y hy=>?_⟩
    rw [u5 i0 (by simp only [big] at hb;have:=t8 hx;omega)]
    exact hk t ht hc2 y hy
   ·have hfin:=hf' (by
     by_cases hlt:i < (e.f0.n:Int)
     ·right
      cases hq:s.fok
      ·rfl
      ·dsimp only at hc1;rw [hq,decide_eq_true hlt] at hc1;cases hc1
     ·left;omega)
    clear hk hf' next hc1
    dsimp only
    have hfin0:FR f (formC e.b8 e.fOp (ts.length:Int) (us.length:Int)&&formTs ts) (true&&namesTs ts) s:=by
     refine FR.trans (g:=⟨_,_⟩) ⟨?_,fun _=>?_⟩ hfin
     ·show (((f'.fok&&b)&&decide ((e.f0.n:Int)=e'))&&decide ((e.o0.n:Int)=p'))=_
      rw [hn,hm];exact heq
     ·show f'.fnames=_
      rw [hf,Bool.and_true]
    clear hfin
    unfold M8
    refine floop (ts:=us) fun i2 s2 next i0 i1 hk hf'=>?_
    unfold T3
    refine ⟨fun hc1=>?_,fun hc1=>?_⟩
    ·obtain ⟨hc1,hc2⟩:=a3W.1 hc1
     obtain ⟨x,hx,hE⟩:=hc.get i0 hc1
     obtain ⟨t,ht⟩:=A0 (l:=us) (i:=i2.toNat) (by have:=t8 hx;omega)
     refine ⟨i0,hc1,x,hE,ih _ x t hx ht fun y hy=>?_⟩
     rw [u5 i0 (by simp only [big] at hcb;have:=t8 hx;omega)]
     exact hk t ht hc2 y hy
    ·have hfin:=hf' (by
      by_cases hlt:i2 < (e.o0.n:Int)
      ·right
       cases hq:s2.fok
       ·rfl
       ·dsimp only at hc1;rw [hq,decide_eq_true hlt] at hc1;cases hc1
      ·left;omega)
     have:=hfin0.trans hfin
     refine h _ ?_
     rw [formT,namesT,M9,a1S,← Bool.and_assoc]
     exact this
  have j1:∀(e' p':Int)(f':Fm),f'.fnames=f.fnames→(((f'.fok&&opC e.b8 e.fOp)&&decide ((ts.length:Int)=e'))&&decide ((us.length:Int)=p'))=(f.fok&&formC e.b8 e.fOp (ts.length:Int) (us.length:Int))→q8 e' p' e f' H K:=by
   intro e' p' f' hf heq
   unfold q8
   unfold opC at heq
   exact ⟨fun e3=>j2 _ _ _ _ hf (by rw [if_pos e3] at heq;exact heq),fun e3=>j2 _ _ _ _ hf (by rw [if_neg e3] at heq;exact heq)⟩
  have j7:∀b:Bool,(b=true↔(e.b8=5∨e.b8=6))→¬(e.b8=1∨e.b8=2∨e.b8=3∨e.b8=4)→C8 0 0 b e f H K:=by
   intro b hq hno
   unfold C8
   refine ⟨fun q=>j1 0 2 f rfl (a7w (.inr (.inr (.inr ⟨hq.1 q,rfl,rfl⟩))) _),fun q=>j1 0 0 _ rfl ?_⟩
   rw [b6d (fun e'=>by have:=mt hq.2 (by rw [q];decide);omega),Bool.and_false];rfl
  have j6:∀b:Bool,(b=true↔(e.b8=1∨e.b8=2))→C9 0 0 e.b8 b e f H K:=by
   intro b hq
   unfold C9
   refine ⟨fun q=>j1 0 0 f rfl (a7w (.inl ⟨hq.1 q,rfl,rfl⟩) _),fun q=>?_⟩
   have hno:¬(e.b8=1∨e.b8=2):=fun e'=>by rw [hq.2 e'] at q;cases q
   refine ⟨fun e3=>j1 2 0 f rfl (a7w (.inr (.inl ⟨e3,rfl,rfl⟩)) _),fun e3=>⟨fun e4=>j1 0 1 f rfl (a7w (.inr (.inr (.inl ⟨e4,rfl,rfl⟩))) _),fun e4=>⟨fun e5=>j7 _ ?_ (by omega),fun e5=>j7 _ ?_ (by omega)⟩⟩⟩<;>(rw [decide_eq_true_eq];omega)
  unfold X3
  refine ⟨fun e1=>j6 _ ?_,fun e1=>j6 _ ?_⟩<;>(rw [decide_eq_true_eq];omega)
theorem b6f{f:Fm}{K:Int→Hp→Prop}(h:K (if f.fok=true then (if f.fnames=true then 0 else 31) else 30) H):W2 f H K:=by
 refine a4u _ ?_
 unfold W4
 cases h1:f.fok
 ·rw [h1] at h;exact ⟨fun _=>h,fun q=>(by cases q)⟩
 ·rw [h1] at h
  refine ⟨fun q=>(by cases q),fun _=>?_⟩
  cases h2:f.fnames
  ·rw [h2] at h;exact ⟨fun _=>h,fun q=>(by cases q)⟩
  ·rw [h2] at h;exact ⟨fun q=>(by cases q),fun _=>h⟩
def toldS(ts:List PT):Int:=if (wTs ts 1 w0S).fbad=0 then (if formTs ts=true then (if namesTs ts=true then 0 else 31) else 30) else (wTs ts 1 w0S).fbad
theorem b7J{ts:List PT}{y:Fm}(h:FR ⟨true,true⟩ (formTs ts) (namesTs ts) y)(hb:(wTs ts 1 w0S).fbad=0):(if y.fok=true then (if y.fnames=true then (0:Int) else 31) else 30)=toldS ts:=by
 unfold toldS
 rw [if_pos hb]
 have h1:y.fok=formTs ts:=by rw [h.1];rfl
 have h2:y.fok=true→y.fnames=namesTs ts:=fun e=>by rw [h.2 e];rfl
 cases hq:y.fok
 ·rw [hq] at h1;rw [←h1];rfl
 ·rw [hq] at h1 h2;rw [←h1,h2 rfl]
end
def fmR(v:V)(a b:Bool)(r:Bool×V):Prop:=r.1=true→r.2.f=(v.f || !a)∧r.2.m=(v.m || !b)
theorem b7K(v:V)(l:Lab)(d:Int):fmR v (formL l) (nameOk l) (vMeet v l d):=by
 unfold vMeet fmR nameOk
 intro h
 split at h
 ·cases h
 ·rename_i h1
  rw [if_neg h1]
  split at h
  ·cases h
  ·rename_i h2
   rw [if_neg h2]
   refine ⟨rfl,?_⟩
   dsimp only
   cases (nameL l).2
   ·simp
   ·simp
mutual
theorem c1e:∀(t:PT)(d:Int)(v:V),fmR v (formT t) (namesT t) (vT t d v)
 | .mk l cs,d,v=>by
  have hm:=b7K v l d
  rw [vT,formT,namesT]
  by_cases hq:(vMeet v l d).1=true
  ·rw [if_pos hq]
   intro h
   have h1:=hm hq
   have h2:=b3Q cs (d+1) _ h
   rw [h2.1,h2.2,h1.1,h1.2]
   cases v.f<;>cases v.m<;>cases formL l<;>cases nameOk l<;>cases formTs cs<;>cases namesTs cs<;>exact ⟨rfl,rfl⟩
  ·rw [if_neg hq];exact fun h=>(hq h).elim
theorem b3Q:∀(ts:List PT)(d:Int)(v:V),fmR v (formTs ts) (namesTs ts) (vTs ts d v)
 | [],d,v=>by
  rw [vTs,formTs,namesTs]
  intro _
  dsimp only
  cases v.f<;>cases v.m<;>exact ⟨rfl,rfl⟩
 | t::ts,d,v=>by
  have hm:=c1e t d v
  rw [vTs,formTs,namesTs]
  by_cases hq:(vT t d v).1=true
  ·rw [if_pos hq]
   intro h
   have h1:=hm hq
   have h2:=b3Q ts d _ h
   rw [h2.1,h2.2,h1.1,h1.2]
   cases v.f<;>cases v.m<;>cases formT t<;>cases namesT t<;>cases formTs ts<;>cases namesTs ts<;>exact ⟨rfl,rfl⟩
  ·rw [if_neg hq];exact fun h=>(hq h).elim
end
theorem b2Z(ts:List PT):vEnd (vTs ts 1 v0)=toldS ts:=by
 have hs:=c0C ts
 have hf:=b3Q ts 1 v0
 unfold toldS vEnd
 generalize vTs ts 1 v0=r at hs hf ⊢
 generalize wTs ts 1 w0S=s at hs ⊢
 by_cases hq:r.1=true
 ·obtain ⟨h1,h2,_⟩:=hs.1 hq
  obtain ⟨h3,h4⟩:=hf hq
  rw [if_pos hq,h1,h2,h3,h4,if_pos rfl]
  cases formTs ts<;>cases namesTs ts<;>rfl
 ·obtain ⟨h1,h2⟩:=hs.2 (Bool.eq_false_iff.2 hq)
  rw [if_neg hq,h1,if_neg (by omega)]
section
variable {H:Hp}
end
end Go.Proofs.YtnhdnncbjddmjaaGreatDoor
