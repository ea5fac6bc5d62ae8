/- The document's forms: which trees have theirs, which names are names; what it tells is what the program tells. The law TreeParts. -/
import Derived.Test.YtaokfhdinhimfaaGreatDooryLQ7
namespace Go.Proofs.YtaokfhdinhimfaaGreatDoor
open Go.RowKit
set_option maxRecDepth 100000
set_option maxHeartbeats 2000000
def nameOk(l:Lab):Bool:=if (nameL l).2=true then nameS (nameL l).1 else true
mutual
def formT:PT→Bool
 | .mk l cs=>formL l&&formTs cs
def formTs:List PT→Bool
 | []=>true
 | t::ts=>formT t&&formTs ts
end
mutual
def namesT:PT→Bool
 | .mk l cs=>nameOk l&&namesTs cs
def namesTs:List PT→Bool
 | []=>true
 | t::ts=>namesT t&&namesTs ts
end
theorem U5:∀a b:List PT,formTs (a++b)=(formTs a&&formTs b)
 | [],b=>by rw [List.nil_append,formTs,Bool.true_and]
 | t::a,b=>by rw [List.cons_append,formTs,formTs,U5 a b,Bool.and_assoc]
theorem a6h:∀a b:List PT,namesTs (a++b)=(namesTs a&&namesTs b)
 | [],b=>by rw [List.nil_append,namesTs,Bool.true_and]
 | t::a,b=>by rw [List.cons_append,namesTs,namesTs,a6h a b,Bool.and_assoc]
theorem b8p{ts:List PT}{i:Nat}{t:PT}(h:ts[i]? = some t):formTs (ts.take (i+1))=(formTs (ts.take i)&&formT t):=by
 rw [K9 h,U5,formTs,formTs,Bool.and_true]
theorem b6x{ts:List PT}{i:Nat}{t:PT}(h:ts[i]? = some t):namesTs (ts.take (i+1))=(namesTs (ts.take i)&&namesT t):=by
 rw [K9 h,a6h,namesTs,namesTs,Bool.and_true]
theorem c5b{ts:List PT}{i:Nat}(h:formTs (ts.take i)=false):formTs ts=false:=by
 have:=U5 (ts.take i) (ts.drop i)
 rw [List.take_append_drop,h,Bool.false_and] at this
 exact this
abbrev Fm:=d3
def FR(f:Fm)(a b:Bool)(y:Fm):Prop:=y.fok=(f.fok&&a)∧(y.fok=true→y.fnames=(f.fnames&&b))
theorem FR.refl(f:Fm):FR f true true f:=⟨(Bool.and_true _).symm,fun _=>(Bool.and_true _).symm⟩
theorem FR.trans{f g y:Fm}{a b a' b':Bool}(h:FR f a b g)(h':FR g a' b' y):FR f (a&&a') (b&&b') y:=by
 refine ⟨by rw [h'.1,h.1,Bool.and_assoc],fun hy=>?_⟩
 have hg:g.fok=true:=by rw [h'.1] at hy;exact (Bool.and_eq_true_iff.1 hy).1
 rw [h'.2 hy,h.2 hg,Bool.and_assoc]
section
variable {H:Hp}
theorem floop{ts:List PT}{f1:Fm}{body:Int×Fm→Hp→(Int×Fm→Hp→Prop)→Prop}
  (hb:∀(i:Int)(s:Fm)(next:Int×Fm→Hp→Prop),0≤i→i≤ts.length→(∀t,ts[i.toNat]? = some t→s.fok=true→∀y,FR s (formT t) (namesT t) y→next (i+1,y) H)→((ts.length≤i∨s.fok=false)→FR f1 (formTs ts) (namesTs ts) s)→body (i,s) H next):TL ((0,f1):Int×Fm) H body:=by
 refine Q6 (fun(q:Int×Fm) H'=>0≤q.1∧q.1≤ts.length∧H'=H∧FR f1 (formTs (ts.take q.1.toNat)) (namesTs (ts.take q.1.toNat)) q.2) (fun q=>(ts.length-q.1).toNat) ⟨Int.le_refl _,by simp,rfl,by simpa [formTs,namesTs] using FR.refl f1⟩ ?_
 rintro ⟨i,s⟩ H1 next ⟨i0,i1,rfl,hs⟩ hn
 dsimp only at i0 i1 hs ⊢
 refine hb i s next i0 i1 (fun t ht hok y hy=>?_) fun he=>?_
 ·have:=v1 ht
  refine hn _ _ ⟨by show 0≤i+1;omega,by show i+1≤_;omega,rfl,?_⟩ (by show (ts.length-(i+1)).toNat < (ts.length-i).toNat;omega)
  show FR f1 (formTs (ts.take (i+1).toNat)) (namesTs (ts.take (i+1).toNat)) y
  rw [show (i+1).toNat=i.toNat+1 by omega,b8p ht,b6x ht]
  exact hs.trans hy
 ·by_cases hl:ts.length≤i
  ·rwa [List.take_of_length_le (by omega)] at hs
  ·have hf:s.fok=false:=by rcases he with he | he;exact (hl he).elim;exact he
   refine ⟨?_,fun e=>by rw [hf] at e;cases e⟩
   have h1:=hs.1
   rw [hf] at h1
   rw [hf]
   cases hq:f1.fok
   ·rfl
   ·rw [hq,Bool.true_and] at h1
    rw [c5b h1.symm];rfl
theorem a8F{i n:Int}{b:Bool}:(decide (i < n)&&b)=true↔(i < n∧b=true):=by simp
theorem b5M{f:Fm}{s:ByteArray}{b:Bool}{K:Fm→Hp→Prop}(h:K ⟨f.fok&&(b||decide (s=⟨#[]⟩)),f.fnames&&(if b=true then nameS s else true)⟩ H):T2 f s b H K:=by
 refine a9s _ _ _ ?_
 unfold a2P
 cases b
 ·refine ⟨fun _=>?_,fun q=>(by cases q)⟩
  rw [if_neg (by decide),Bool.and_true,Bool.false_or] at h;exact h
 ·refine ⟨fun q=>(by cases q),fun _=>a8k (nameS s) (fun _ K' hk=>c3i hk) ?_⟩
  rw [if_pos rfl,Bool.true_or,Bool.and_true] at h
  have e:(f.fnames&&(if f.fnames=true then nameS s else false))=(f.fnames&&nameS s):=by cases f.fnames<;>rfl
  rw [e];exact h
def nokE(k:Int)(s:ByteArray):Bool:=(decide (k=2)||decide (k=4))||decide (s=⟨#[]⟩)
def numE(k n:Int):Bool:=decide (n=0)||(decide (k=1)&&decide (0 < n))
theorem c8D{k n:Int}{s:ByteArray}{a:Int}(hk:k=1∨k=2∨k=3)(g:Bool):(((g&&nokE k s)&&decide (a=0))&&numE k n)=(g&&formE k n s a):=by
 by_cases hs:s=⟨#[]⟩<;>by_cases ha:a=0<;>by_cases hn:n=0<;>by_cases hp:0 < n<;>(first | omega | skip) <;>
  (have hp':(0≤n)=(n=0∨0 < n):=by rw [eq_iff_iff];omega) <;>
  rcases hk with rfl | rfl | rfl<;>cases g<;>simp [formE,nokE,numE,hs,ha,hn,hp,hp']
theorem c8E{k n:Int}{s:ByteArray}{a:Int}(hk:k=4∨k=5)(g:Bool):(((g&&nokE k s)&&decide (a=1))&&numE k n)=(g&&formE k n s a):=by
 by_cases hs:s=⟨#[]⟩<;>by_cases ha:a=1<;>by_cases hn:n=0<;>rcases hk with rfl | rfl<;>cases g<;>simp [formE,nokE,numE,hs,ha,hn]
theorem c8F{k n:Int}{s:ByteArray}{a:Int}(hk:k=6∨k=7∨k=8∨k=9∨k=10)(g:Bool):(((g&&nokE k s)&&decide (a=2))&&numE k n)=(g&&formE k n s a):=by
 by_cases hs:s=⟨#[]⟩<;>by_cases ha:a=2<;>by_cases hn:n=0<;>rcases hk with rfl | rfl | rfl | rfl | rfl<;>cases g<;>simp [formE,nokE,numE,hs,ha,hn]
theorem c8G{k n:Int}{s:ByteArray}{a:Int}(hk:¬(k=1∨k=2∨k=3∨k=4∨k=5∨k=6∨k=7∨k=8∨k=9∨k=10)):formE k n s a=false:=by
 unfold formE
 split
 ·rfl
 ·rw [if_neg (by omega),if_neg (by omega),if_neg (by omega),if_neg (by omega)]
theorem c0w{e:f8}{t:PT}(he:EH H e t){f:Fm}{K:Fm→Hp→Prop}(h:∀y,FR f (formT t) (namesT t) y→K y H):T3 f e H K:=by
 induction he generalizing f K with
 | @mk e xs ts hs hb hl _ ih=>
  refine a9t _ _ ?_
  have hn:(e.u1.n:Int)=(ts.length:Int):=by have:=hs.1;omega
  have j1:∀(args:Int)(f':Fm),f'.fnames=f.fnames→(((f'.fok&&nokE e.c8 e.f6)&&decide ((ts.length:Int)=args))&&numE e.c8 e.s7)=(f.fok&&formE e.c8 e.s7 e.f6 (ts.length:Int))→E5 args e f' H K:=by
   intro args f' hf heq
   unfold E5
   refine b5M ?_
   refine floop (ts:=ts) fun i s next i0 i1 hk hf'=>?_
   unfold a1D
   refine ⟨fun hc=>?_,fun hc=>?_⟩
   ·obtain ⟨hc1,hc2⟩:=a8F.1 hc
    obtain ⟨x,hx,hE⟩:=hs.get i0 hc1
    obtain ⟨t,ht⟩:=A8 (l:=ts) (i:=i.toNat) (by have:=v1 hx;omega)
    refine ⟨i0,hc1,x,hE,ih _ x t hx ht fun y hy=>?_⟩
    rw [q6 i0 (by simp only [big] at hb;have:=v1 hx;omega)]
    exact hk t ht hc2 y hy
   ·have hfin:=hf' (by
     by_cases hlt:i < (e.u1.n:Int)
     ·right
      cases hq:s.fok
      ·rfl
      ·dsimp only at hc;rw [hq,decide_eq_true hlt] at hc;cases hc
     ·left;omega)
    refine h _ (FR.trans (a:=formE e.c8 e.s7 e.f6 (ts.length:Int)) (b:=nameOk (.expr e.c8 e.s7 e.f6 ts.length)) (g:=⟨_,_⟩) ⟨?_,fun _=>?_⟩ hfin)
    ·show ((((f'.fok&&_)&&decide ((e.u1.n:Int)=args))&&_))=_
     rw [hn];exact heq
    ·show (f'.fnames&&_)=_
     rw [hf];rfl
  have j5:∀b:Bool,(b=true↔(e.c8=6∨e.c8=7∨e.c8=8∨e.c8=9∨e.c8=10))→¬(e.c8=1∨e.c8=2∨e.c8=3∨e.c8=4∨e.c8=5)→C0 0 b e f H K:=by
   intro b hq hno
   unfold C0
   refine ⟨fun q=>j1 2 f rfl (c8F (hq.1 q) _),fun q=>j1 0 _ rfl ?_⟩
   rw [c8G (fun e'=>by have:=mt hq.2 (by rw [q];decide);omega),Bool.and_false];rfl
  have j4:∀b:Bool,(b=true↔(e.c8=4∨e.c8=5))→¬(e.c8=1∨e.c8=2∨e.c8=3)→M7 0 e.c8 b e f H K:=by
   intro b hq hno
   unfold M7
   refine ⟨fun q=>j1 1 f rfl (c8E (hq.1 q) _),fun q=>?_⟩
   have hno2:¬(e.c8=4∨e.c8=5):=fun e'=>by rw [hq.2 e'] at q;cases q
   refine ⟨fun e6=>j5 _ ?_ (by omega),fun e6=>⟨fun e7=>j5 _ ?_ (by omega),fun e7=>⟨fun e8=>j5 _ ?_ (by omega),fun e8=>⟨fun e9=>j5 _ ?_ (by omega),fun e9=>j5 _ ?_ (by omega)⟩⟩⟩⟩<;>(rw [decide_eq_true_eq];omega)
  have j3:∀b:Bool,(b=true↔(e.c8=1∨e.c8=2∨e.c8=3))→J6 0 e.c8 b e f H K:=by
   intro b hq
   unfold J6
   refine ⟨fun q=>j1 0 f rfl (c8D (hq.1 q) _),fun q=>?_⟩
   have hno:¬(e.c8=1∨e.c8=2∨e.c8=3):=fun e'=>by rw [hq.2 e'] at q;cases q
   refine ⟨fun e4=>j4 _ ?_ hno,fun e4=>j4 _ ?_ hno⟩<;>(rw [decide_eq_true_eq];omega)
  unfold a2Q
  refine ⟨fun e1=>j3 _ ?_,fun e1=>⟨fun e2=>j3 _ ?_,fun e2=>j3 _ ?_⟩⟩<;>(rw [decide_eq_true_eq];omega)
def opC(k op:Int):Bool:=if k=3 then decide (1≤op)&&decide (op≤6) else decide (op=0)
theorem b3V{k op e p e' p':Int}(hk:(k=1∨k=2)∧e'=0∧p'=0∨k=3∧e'=2∧p'=0∨k=4∧e'=0∧p'=1∨(k=5∨k=6)∧e'=0∧p'=2)(g:Bool):(((g&&opC k op)&&decide (e=e'))&&decide (p=p'))=(g&&formC k op e p):=by
 rw [Bool.and_assoc,Bool.and_assoc]
 congr 1
 rw [Bool.eq_iff_iff]
 unfold opC formC
 rcases hk with ⟨rfl | rfl,rfl,rfl⟩ | ⟨rfl,rfl,rfl⟩ | ⟨rfl,rfl,rfl⟩ | ⟨rfl | rfl,rfl,rfl⟩<;>by_cases ho:op=0<;>simp [ho]<;>omega
theorem c6g{k op e p:Int}(hk:¬(k=1∨k=2∨k=3∨k=4∨k=5∨k=6)):formC k op e p=false:=by
 unfold formC
 rw [if_neg (by omega)]
 by_cases ho:op=0
 ·rw [if_pos ho,if_neg (by omega),if_neg (by omega),if_neg (by omega)]
 ·rw [if_neg ho]
theorem c6h{e:j8}{t:PT}(he:CH H e t){f:Fm}{K:Fm→Hp→Prop}(h:∀y,FR f (formT t) (namesT t) y→K y H):a0k f e H K:=by
 induction he generalizing f K with
 | @mk e xs ts ys us hs hb hr hc hcb hcl _ ih=>
  refine a9l _ _ ?_
  have r0:=hr.1
  have hn:(e.l7.n:Int)=(ts.length:Int):=by have:=hs.1;omega
  have hm:(e.r7.n:Int)=(us.length:Int):=by have:=hc.1;omega
  have j2:∀(e' p':Int)(b:Bool)(f':Fm),f'.fnames=f.fnames→(((f'.fok&&b)&&decide ((ts.length:Int)=e'))&&decide ((us.length:Int)=p'))=(f.fok&&formC e.c8 e.fOp (ts.length:Int) (us.length:Int))→M0 e' p' b e f' H K:=by
   intro e' p' b f' hf heq
   unfold M0
   refine floop (ts:=ts) fun i s next i0 i1 hk hf'=>?_
   unfold a1t
   refine ⟨fun hc1=>?_,fun hc1=>?_⟩
   ·obtain ⟨hc1,hc2⟩:=a8F.1 hc1
    obtain ⟨x,hx,hE⟩:=hs.get i0 hc1
    obtain ⟨t,ht⟩:=A8 (l:=ts) (i:=i.toNat) (by have:=v1 hx;omega)
    refine ⟨i0,hc1,x,hE,c0w (hr.2 _ x t hx ht) fun y hy=>?_⟩
    rw [q6 i0 (by simp only [big] at hb;have:=v1 hx;omega)]
    exact hk t ht hc2 y hy
   ·have hfin:=hf' (by
     by_cases hlt:i < (e.l7.n:Int)
     ·right
      cases hq:s.fok
      ·rfl
      ·dsimp only at hc1;rw [hq,decide_eq_true hlt] at hc1;cases hc1
     ·left;omega)
    clear hk hf' next hc1
    dsimp only
    have hfin0:FR f (formC e.c8 e.fOp (ts.length:Int) (us.length:Int)&&formTs ts) (true&&namesTs ts) s:=by
     refine FR.trans (g:=⟨_,_⟩) ⟨?_,fun _=>?_⟩ hfin
     ·show (((f'.fok&&b)&&decide ((e.l7.n:Int)=e'))&&decide ((e.r7.n:Int)=p'))=_
      rw [hn,hm];exact heq
     ·show f'.fnames=_
      rw [hf,Bool.and_true]
    clear hfin
    unfold X1
    refine floop (ts:=us) fun i2 s2 next i0 i1 hk hf'=>?_
    unfold a1s
    refine ⟨fun hc1=>?_,fun hc1=>?_⟩
    ·obtain ⟨hc1,hc2⟩:=a8F.1 hc1
     obtain ⟨x,hx,hE⟩:=hc.get i0 hc1
     obtain ⟨t,ht⟩:=A8 (l:=us) (i:=i2.toNat) (by have:=v1 hx;omega)
     refine ⟨i0,hc1,x,hE,ih _ x t hx ht fun y hy=>?_⟩
     rw [q6 i0 (by simp only [big] at hcb;have:=v1 hx;omega)]
     exact hk t ht hc2 y hy
    ·have hfin:=hf' (by
      by_cases hlt:i2 < (e.r7.n:Int)
      ·right
       cases hq:s2.fok
       ·rfl
       ·dsimp only at hc1;rw [hq,decide_eq_true hlt] at hc1;cases hc1
      ·left;omega)
     have:=hfin0.trans hfin
     refine h _ ?_
     rw [formT,namesT,U5,a6h,← Bool.and_assoc]
     exact this
  have j1:∀(e' p':Int)(f':Fm),f'.fnames=f.fnames→(((f'.fok&&opC e.c8 e.fOp)&&decide ((ts.length:Int)=e'))&&decide ((us.length:Int)=p'))=(f.fok&&formC e.c8 e.fOp (ts.length:Int) (us.length:Int))→B8 e' p' e f' H K:=by
   intro e' p' f' hf heq
   unfold B8
   unfold opC at heq
   exact ⟨fun e3=>j2 _ _ _ _ hf (by rw [if_pos e3] at heq;exact heq),fun e3=>j2 _ _ _ _ hf (by rw [if_neg e3] at heq;exact heq)⟩
  have j7:∀b:Bool,(b=true↔(e.c8=5∨e.c8=6))→¬(e.c8=1∨e.c8=2∨e.c8=3∨e.c8=4)→M1 0 0 b e f H K:=by
   intro b hq hno
   unfold M1
   refine ⟨fun q=>j1 0 2 f rfl (b3V (.inr (.inr (.inr ⟨hq.1 q,rfl,rfl⟩))) _),fun q=>j1 0 0 _ rfl ?_⟩
   rw [c6g (fun e'=>by have:=mt hq.2 (by rw [q];decide);omega),Bool.and_false];rfl
  have j6:∀b:Bool,(b=true↔(e.c8=1∨e.c8=2))→M2 0 0 e.c8 b e f H K:=by
   intro b hq
   unfold M2
   refine ⟨fun q=>j1 0 0 f rfl (b3V (.inl ⟨hq.1 q,rfl,rfl⟩) _),fun q=>?_⟩
   have hno:¬(e.c8=1∨e.c8=2):=fun e'=>by rw [hq.2 e'] at q;cases q
   refine ⟨fun e3=>j1 2 0 f rfl (b3V (.inr (.inl ⟨e3,rfl,rfl⟩)) _),fun e3=>⟨fun e4=>j1 0 1 f rfl (b3V (.inr (.inr (.inl ⟨e4,rfl,rfl⟩))) _),fun e4=>⟨fun e5=>j7 _ ?_ (by omega),fun e5=>j7 _ ?_ (by omega)⟩⟩⟩<;>(rw [decide_eq_true_eq];omega)
  unfold a2G
  refine ⟨fun e1=>j6 _ ?_,fun e1=>j6 _ ?_⟩<;>(rw [decide_eq_true_eq];omega)
theorem c6i{f:Fm}{K:Int→Hp→Prop}(h:K (if f.fok=true then (if f.fnames=true then 0 else 31) else 30) H):a2D f H K:=by
 refine a9k _ ?_
 unfold a2F
 cases h1:f.fok
 ·rw [h1] at h;exact ⟨fun _=>h,fun q=>(by cases q)⟩
 ·rw [h1] at h
  refine ⟨fun q=>(by cases q),fun _=>?_⟩
  cases h2:f.fnames
  ·rw [h2] at h;exact ⟨fun _=>h,fun q=>(by cases q)⟩
  ·rw [h2] at h;exact ⟨fun q=>(by cases q),fun _=>h⟩
def toldS(ts:List PT):Int:=if (wTs ts 1 w0S).fbad=0 then (if formTs ts=true then (if namesTs ts=true then 0 else 31) else 30) else (wTs ts 1 w0S).fbad
theorem c8H{ts:List PT}{y:Fm}(h:FR ⟨true,true⟩ (formTs ts) (namesTs ts) y)(hb:(wTs ts 1 w0S).fbad=0):(if y.fok=true then (if y.fnames=true then (0:Int) else 31) else 30)=toldS ts:=by
 unfold toldS
 rw [if_pos hb]
 have h1:y.fok=formTs ts:=by rw [h.1];rfl
 have h2:y.fok=true→y.fnames=namesTs ts:=fun e=>by rw [h.2 e];rfl
 cases hq:y.fok
 ·rw [hq] at h1;rw [←h1];rfl
 ·rw [hq] at h1 h2;rw [←h1,h2 rfl]
theorem d2L:wok w0S:=⟨by decide,by decide⟩
end
def fmR(v:V)(a b:Bool)(r:Bool×V):Prop:=r.1=true→r.2.f=(v.f || !a)∧r.2.m=(v.m || !b)
theorem c8I(v:V)(l:Lab)(d:Int):fmR v (formL l) (nameOk l) (vMeet v l d):=by
 unfold vMeet fmR nameOk
 intro h
 split at h
 ·cases h
 ·rename_i h1
  rw [if_neg h1]
  split at h
  ·cases h
  ·rename_i h2
   rw [if_neg h2]
   refine ⟨rfl,?_⟩
   dsimp only
   cases (nameL l).2
   ·simp
   ·simp
mutual
theorem d4g:∀(t:PT)(d:Int)(v:V),fmR v (formT t) (namesT t) (vT t d v)
 | .mk l cs,d,v=>by
  have hm:=c8I v l d
  rw [vT,formT,namesT]
  by_cases hq:(vMeet v l d).1=true
  ·rw [if_pos hq]
   intro h
   have h1:=hm hq
   have h2:=c3j cs (d+1) _ h
   rw [h2.1,h2.2,h1.1,h1.2]
   cases v.f<;>cases v.m<;>cases formL l<;>cases nameOk l<;>cases formTs cs<;>cases namesTs cs<;>exact ⟨rfl,rfl⟩
  ·rw [if_neg hq];exact fun h=>(hq h).elim
theorem c3j:∀(ts:List PT)(d:Int)(v:V),fmR v (formTs ts) (namesTs ts) (vTs ts d v)
 | [],d,v=>by
  rw [vTs,formTs,namesTs]
  intro _
  dsimp only
  cases v.f<;>cases v.m<;>exact ⟨rfl,rfl⟩
 | t::ts,d,v=>by
  have hm:=d4g t d v
  rw [vTs,formTs,namesTs]
  by_cases hq:(vT t d v).1=true
  ·rw [if_pos hq]
   intro h
   have h1:=hm hq
   have h2:=c3j ts d _ h
   rw [h2.1,h2.2,h1.1,h1.2]
   cases v.f<;>cases v.m<;>cases formT t<;>cases namesT t<;>cases formTs ts<;>cases namesTs ts<;>exact ⟨rfl,rfl⟩
  ·rw [if_neg hq];exact fun h=>(hq h).elim
end
theorem c8J(ts:List PT):vEnd (vTs ts 1 v0)=toldS ts:=by
 have hs:=c6W ts
 have hf:=c3j ts 1 v0
 unfold toldS vEnd
 generalize vTs ts 1 v0=r at hs hf ⊢
 generalize wTs ts 1 w0S=s at hs ⊢
 by_cases hq:r.1=true
 ·obtain ⟨h1,h2,_⟩:=hs.1 hq
  obtain ⟨h3,h4⟩:=hf hq
  rw [if_pos hq,h1,h2,h3,h4,if_pos rfl]
  cases formTs ts<;>cases namesTs ts<;>rfl
 ·obtain ⟨h1,h2⟩:=hs.2 (Bool.eq_false_iff.2 hq)
  rw [if_neg hq,h1,if_neg (by omega)]
section
variable {H:Hp}
end
end Go.Proofs.YtaokfhdinhimfaaGreatDoor
