/- Lemmas. -/
import Derived.Tactics2
import Derived.Defers
import Derived.Recover
import Derived.Test.YthjlehnccgjpoaaGreatDooryVH5
namespace Go.Proofs.YthjlehnccgjpoaaGreatDoor
open Go.Proofs.Tryz Go.RowKit
set_option maxRecDepth 100000
set_option maxHeartbeats 4000000
section
theorem d4y(n:Int):a0h (IntKind.wrap .i64 n):=by rw [IntKind.wrap_i64];unfold a0h;omega
structure EOk (n na P:Int) (x:Ed):Prop where
 f0:0<=x.D6
 f1:x.D6 < P
 t0:0<=x.fTo
 t1:x.fTo < P
 k:kindS x.d9=true
 r:rightS n na x=true
 m:a0h x.fA.A6/\a0h x.fB.A6
theorem within_iff{i n:Int}:within i n=true↔0<=i/\i < n:=by unfold within;simp
theorem c1p{i n m:Int}(h:within i n=true)(hm:n<=m):within i m=true:=by rw [within_iff] at *;omega
theorem b3F{o:Op}{n m:Int}(h:opndS o n=true)(hm:n<=m):opndS o m=true:=by
 unfold opndS at *
 rcases Bool.or_eq_true_iff.1 h with h | h
 ·rw [h];rfl
 ·rw [Bool.and_eq_true] at h
  rw [c1p h.1 hm,h.2,Bool.true_and,Bool.or_true]
theorem d1y{n m na:Int}{x:Ed}(h:rightS n na x=true)(hm:n<=m):rightS m na x=true:=by
 unfold rightS at *
 simp only [Bool.and_eq_true] at *
 obtain ⟨⟨⟨⟨a,b⟩,c⟩,d⟩,e⟩:=h
 refine ⟨⟨⟨⟨?_,b⟩,c⟩,?_⟩,?_⟩
 ·cases q:(wantsS x.d9).fdst
  ·rw [q] at a;exact a
  ·rw [q] at a;exact c1p a hm
 ·cases q:(wantsS x.d9).fa
  ·rw [q] at d;exact d
  ·rw [q] at d;exact b3F d hm
 ·cases q:(wantsS x.d9).fb
  ·rw [q] at e;exact e
  ·rw [q] at e;exact b3F e hm
theorem EOk.mono{n m na P Q:Int}{x:Ed}(h:EOk n na P x)(hn:n<=m)(hp:P<=Q):EOk m na Q x:=⟨h.f0,by have:=h.f1;omega,h.t0,by have:=h.t1;omega,h.k,d1y h.r hn,h.m⟩
theorem d4z(a b:List Ed)(p:Int):fromS (a++b) p=fromS a p++fromS b p:=List.filter_append ..
theorem c4X{l:List Ed}{p:Int}(h:∀x∈l,x.D6≠p):fromS l p=[]:=by
 unfold fromS
 rw [List.filter_eq_nil_iff]
 intro x hx
 simp [h x hx]
structure Sx (L:En) (na:Int) (S:Int->Prop) (g g':Gr):Prop where
 p:g.p<=g'.p
 t:g.t<=g'.t
 es:∃l,g'.es=g.es++l/\(∀x∈l,S x.D6/\EOk (L.nv+g'.t) na g'.p x)/\∀p,goeS (fromS l p)=true
section
variable {L:En}{na:Int}{S S1 S2:Int->Prop}{a b c g g':Gr}
theorem Sx.same(e:b.es=a.es)(hp:a.p<=b.p)(ht:a.t<=b.t):Sx L na S a b:=⟨hp,ht,[],by rw [e,List.append_nil],(λx hx=>by cases hx),λp=>rfl⟩
theorem Sx.trans(h:Sx L na S1 a b)(k:Sx L na S2 b c)(d:∀p,S1 p->S2 p->False)(s1:∀p,S1 p->S p)(s2:∀p,S2 p->S p):Sx L na S a c:=by
 obtain ⟨hp,ht,l,e,hl,hg⟩:=h
 obtain ⟨kp,kt,m,f,km,kg⟩:=k
 refine ⟨by omega,by omega,l++m,by rw [f,e,List.append_assoc],λx hx=>?_,λp=>?_⟩
 ·rcases List.mem_append.1 hx with hx | hx
  ·exact ⟨s1 _ (hl x hx).1,(hl x hx).2.mono (by omega) (by omega)⟩
  ·exact ⟨s2 _ (km x hx).1,(km x hx).2⟩
 ·rw [d4z]
  by_cases q:S1 p
  ·rw [c4X (l:=m) (λx hx (e:x.D6=p)=>d p q (by rw [←e];exact (km x hx).1)),List.append_nil];exact hg p
  ·rw [c4X (l:=l) (λx hx (e:x.D6=p)=>q (by rw [←e];exact (hl x hx).1)),List.nil_append];exact kg p
theorem Sx.mono(h:Sx L na S1 a b)(s:∀p,S1 p->S p):Sx L na S a b:=by
 obtain ⟨hp,ht,l,e,hl,hg⟩:=h
 exact ⟨hp,ht,l,e,λx hx=>⟨s _ (hl x hx).1,(hl x hx).2⟩,hg⟩
theorem Sx.fresh(k:Sx L na S b c)(e:b.es=a.es)(hp:a.p<=b.p)(ht:a.t<=b.t):Sx L na S a c:=
 Sx.trans (S1:=λ_=>False) (Sx.same e hp ht) k (λ_ q _=>q) (λ_ q=>q.elim) λ_ q=>q
theorem b6s{x:Ed}(h:EOk (L.nv+g.t) na g.p x)(hk:x.d9≠12):Sx L na (λp=>p=x.D6) g (edG x g):=
 ⟨Int.le_refl _,Int.le_refl _,[x],rfl,λy hy=>by rw [List.mem_singleton.1 hy];exact ⟨rfl,h⟩,λp=>by
  unfold fromS
  rw [List.filter_cons]
  split
  ·show (!decide (x.d9=12))=true
   rw [decide_eq_false hk];rfl
  ·rfl⟩
theorem d4A{op:Int}(h0:1<=op)(h1:op<=6):notO op=notG op/\1<=notO op/\notO op<=6:=by
 obtain rfl | rfl | rfl | rfl | rfl | rfl:=(by omega:op=1\/op=2\/op=3\/op=4\/op=5\/op=6)<;>exact ⟨rfl,by decide,by decide⟩
theorem e6R{k op:Int}{x y:Op}{at_ yes no:Int}(h1:EOk (L.nv+g.t) na g.p ⟨at_,yes,12,-1,-1,op,x,y⟩)(h2:EOk (L.nv+g.t) na g.p ⟨at_,no,12,-1,-1,notO op,x,y⟩)(o0:1<=op)(o1:op<=6):
  Sx L na (λp=>p=at_) g (asN L k op x y at_ yes no g):=by
 refine ⟨Int.le_refl _,Int.le_refl _,[⟨at_,yes,12,-1,-1,op,x,y⟩,⟨at_,no,12,-1,-1,notO op,x,y⟩],by unfold asN edG;dsimp only;rw [List.append_assoc];rfl,λz hz=>?_,λp=>?_⟩
 ·rcases List.mem_cons.1 hz with rfl | hz
  ·exact ⟨rfl,h1⟩
  ·rw [List.mem_singleton.1 hz];exact ⟨rfl,h2⟩
 ·unfold fromS
  by_cases q:at_=p
  ·rw [List.filter_cons_of_pos (by simpa using q),List.filter_cons_of_pos (by simpa using q),List.filter_nil,d3Y,(d4A o0 o1).1]
   simp
  ·rw [List.filter_cons_of_neg (by simpa using q),List.filter_cons_of_neg (by simpa using q)];rfl
end
theorem b7A(L:En)(k n:Int)(s:BA)(ts:List PT):loT L (eX k n s ts)=⟨plN L k n s ts,inN L k s (ts.map (loT L)),λ_ _ _ g=>g,λ_ _ g=>g⟩:=c1N L
theorem b9V(L:En)(k op:Int)(ts us:List PT):loT L (cX k op ts us)=⟨none,λ_ _ _ _ g=>g,coN L k op ((ts++us).map (loT L)),λ_ _ g=>g⟩:=c6Z L
theorem b5T(L:En)(k:Int)(s:BA)(ts us vs ws:List PT):loT L (sX k s ts us vs ws)=⟨none,λ_ _ _ _ g=>g,λ_ _ _ g=>g,lsN L k s vs.length ((us++(ts++(vs++ws))).map (loT L))⟩:=c7a L
def Src(a lo hi p:Int):Prop:=p=a\/(lo<=p/\p < hi)
def Sre(a e lo hi p:Int):Prop:=p≠e/\(p=a\/(lo<=p/\p < hi))
structure FsE (L:En) (na:Int) (f:Fs):Prop where
 pl:∀o,f.pl=some o->opndS o L.nv=true/\a0h o.A6
 into:f.pl=none->∀(dst a b d:Int)(g:Gr),0<=a->a < g.p->0<=b->b < g.p->0<=d->0<=g.t->0<=dst->dst < L.nv+g.t->Sx L na (Src a g.p (f.into dst a b d g).p) g (f.into dst a b d g)
section
variable {L:En}{na:Int}{f h:Fs}
structure OpR (L:En) (a:Int) (g g':Gr) (o:Op) (e:Int):Prop where
 e:e=a\/(g.p<=e/\e < g'.p)
 op:opndS o (L.nv+g'.t)=true
 m:a0h o.A6
theorem c5z(hn:0<=L.nv)(hf:FsE L na f){a d:Int}{g:Gr}(a0:0<=a)(a1:a < g.p)(d0:0<=d)(t0:0<=g.t):
  Sx L na (Sre a (opF L f a d g).2.1 g.p (opF L f a d g).2.2.p) g (opF L f a d g).2.2/\OpR L a g (opF L f a d g).2.2 (opF L f a d g).1 (opF L f a d g).2.1:=by
 unfold opF
 cases e:f.pl with
 | some o=>exact ⟨Sx.same rfl (Int.le_refl _) (Int.le_refl _),.inl rfl,b3F (hf.pl o e).1 (by dsimp only;omega),(hf.pl o e).2⟩
 | none=>
  dsimp only
  have ht:g.t<=(teG d (frG g)).t/\d+1<=(teG d (frG g)).t:=by dsimp only;split<;>omega
  have hp:(teG d (frG g)).p=g.p+1:=rfl
  have k:=hf.into e (L.nv+d) a g.p d (teG d (frG g)) a0 (by omega) (by omega) (by omega) d0 (by omega) (by omega) (by omega)
  have kp:=k.p
  have kt:=k.t
  refine ⟨(k.mono λp q=>?_).fresh rfl (by omega) ht.1,.inr ⟨Int.le_refl _,by omega⟩,?_,z64⟩
  ·unfold Src at q;unfold Sre;omega
  ·unfold opndS
   rw [within_iff.2 ⟨by dsimp only;omega,by dsimp only;omega⟩]
   simp
theorem e6S{o:Op}{d:Int}(h:0<=d):0<=dpO L o d:=by unfold dpO;split<;>omega
theorem d1z(hn:0<=L.nv)(hf:FsE L na f)(hh:FsE L na h){a d:Int}{g:Gr}(a0:0<=a)(a1:a < g.p)(d0:0<=d)(t0:0<=g.t):
  Sx L na (Sre a (twF L f h a d g).2.2.1 g.p (twF L f h a d g).2.2.2.p) g (twF L f h a d g).2.2.2/\OpR L a g (twF L f h a d g).2.2.2 (twF L f h a d g).1 (twF L f h a d g).2.2.1/\opndS (twF L f h a d g).2.1 (L.nv+(twF L f h a d g).2.2.2.t)=true/\a0h (twF L f h a d g).2.1.A6:=by
 obtain ⟨s1,e1,o1,m1⟩:=c5z hn hf a0 a1 d0 t0
 unfold twF
 dsimp only
 generalize opF L f a d g=r1 at *
 have p1:=s1.p;have q1:=s1.t
 obtain ⟨s2,e2,o2,m2⟩:=c5z hn hh (a:=r1.2.1) (d:=dpO L r1.1 d) (g:=r1.2.2) (by omega) (by omega) (e6S d0) (by omega)
 generalize opF L h r1.2.1 (dpO L r1.1 d) r1.2.2=r2 at *
 have p2:=s2.p;have q2:=s2.t
 refine ⟨Sx.trans s1 s2 (λp=>?_) (λp=>?_) λp=>?_,⟨by omega,b3F o1 (by omega),m1⟩,o2,m2⟩<;>unfold Sre<;>omega
theorem c3p{a e:Int}{g g':Gr}{x:Ed}(s:Sx L na (Sre a e g.p g'.p) g g')(he:e=a\/(g.p<=e/\e < g'.p))(hx:x.D6=e)(a0:0<=a)(a1:a < g.p)(t0:0<=x.fTo)(t1:x.fTo < g.p)(hk:kindS x.d9=true)(h12:x.d9≠12)(hr:rightS (L.nv+g'.t) na x=true)(hm:a0h x.fA.A6/\a0h x.fB.A6):
  Sx L na (Src a g.p (edG x g').p) g (edG x g'):=by
 have hp:=s.p
 refine Sx.trans s (b6s ⟨by omega,by omega,t0,by omega,hk,hr,hm⟩ h12) (λp=>?_) (λp=>?_) λp=>?_<;>(try unfold Sre)<;>(try unfold Src)<;>(try unfold edG)<;>(try dsimp only)<;>(try rw [hx])<;>omega
theorem c7x{n na:Int}{a b k:Int}(hk:k=1\/k=13\/k=14):rightS n na (bareE a b k)=true:=by
 rcases hk with rfl | rfl | rfl<;>rfl
def NmP(L:En)(na:Int)(l:List Us):Prop:=∀u∈l,(u.d1j=true->within (L.af u.o7) na=true)/\(u.d1j=false->within (L.vf u.o7) L.nv=true)
theorem NmP.mem{cs:List PT}(hc:NmP L na (uTs cs)){t:PT}(ht:t∈cs):NmP L na (uT t):=by
 intro u hu
 refine hc u ?_
 clear hc
 induction cs with
 | nil=>cases ht
 | cons c cs ih=>
  rw [uTs]
  rcases List.mem_cons.1 ht with rfl | ht
  ·exact List.mem_append_left _ hu
  ·exact List.mem_append_right _ (ih ht)
theorem NmP.own{l:Lab}{cs:List PT}(hc:NmP L na (uT (.mk l cs))):NmP L na (useL l)/\NmP L na (uTs cs):=by
 rw [uT] at hc
 exact ⟨λu hu=>hc u (List.mem_append_left _ hu),λu hu=>hc u (List.mem_append_right _ hu)⟩
theorem d4B{l:Lab}{s:BA}(hc:NmP L na (useL l))(e:useL l=[⟨s,false⟩]):within (L.vf s) L.nv=true:=(hc ⟨s,false⟩ (by rw [e];exact List.mem_singleton.2 rfl)).2 rfl
theorem d4C{l:Lab}{s:BA}(hc:NmP L na (useL l))(e:useL l=[⟨s,true⟩]):within (L.af s) na=true:=(hc ⟨s,true⟩ (by rw [e];exact List.mem_singleton.2 rfl)).1 rfl
theorem e5t{k n:Int}{s:BA}{cs:List PT}(h1:k≠1)(h2:k≠2)(h5:k≠5):plN L k n s cs=none:=by
 unfold plN
 split
 ·rw [if_neg h1,if_neg (λq=>h5 q.1),if_neg h2]
 ·rw [if_neg h1,if_neg h2]
theorem c7y(hn:0<=L.nv){t:PT}(ht:XE t):NmP L na (uT t)->FsE L na (loT L t):=by
 induction ht with
 | num n h0 h1=>
  intro _
  rw [b7A]
  exact ⟨λo e=>(by cases e;exact ⟨rfl,by show a0h n;unfold a0h;omega⟩),λe=>by cases e⟩
 | var s=>
  intro hu
  rw [b7A]
  refine ⟨λo e=>?_,λe=>by cases e⟩
  have e:some (⟨L.vf s,0⟩:Op)=some o:=e
  cases e
  have:=d4B (s:=s) hu.own.1 rfl
  refine ⟨?_,z64⟩
  unfold opndS
  rw [show (⟨L.vf s,0⟩:Op).K3=L.vf s from rfl,this]
  simp
 | inp=>
  intro _
  rw [b7A]
  refine ⟨λo e=>(by cases e),λ_ dst a b d g a0 a1 b0 b1 d0 t0 e0 e1=>?_⟩
  refine (b6s (g:=g) (x:=⟨a,b,9,dst,-1,0,nO,nO⟩) ⟨a0,a1,b0,b1,rfl,?_,z64,z64⟩ (show (9:Int)≠12 by decide)).mono λp q=>.inl q
  show ((within dst (L.nv+g.t)&&true)&&true&&true&&true)=true
  rw [within_iff.2 ⟨e0,e1⟩];rfl
 | item s e he ih=>
  intro hu
  have hf:=ih (hu.own.2.mem (by simp))
  have hs:=d4C (s:=s) hu.own.1 rfl
  rw [b7A]
  refine ⟨λo e=>?_,λ_ dst a b d g a0 a1 b0 b1 d0 t0 e0 e1=>?_⟩
  ·rw [show plN L 4 0 s _=none from e5t (by decide) (by decide) (by decide)] at e;cases e
  ·obtain ⟨s1,r1,r2,r3⟩:=c5z hn hf a0 a1 d0 t0
   have q:=s1.t
   refine c3p (x:=⟨(opF L (loT L e) a d g).2.1,b,10,dst,L.af s,0,(opF L (loT L e) a d g).1,nO⟩) s1 r1 rfl a0 a1 b0 b1 rfl (show (10:Int)≠12 by decide) ?_ ⟨r3,z64⟩
   show ((((within dst _&&within (L.af s) na)&&true)&&opndS _ _)&&true)=true
   rw [within_iff.2 ⟨e0,by omega⟩,hs,r2];rfl
 | neg e he ih=>
  intro hu
  have hf:=ih (hu.own.2.mem (by simp))
  rw [b7A]
  refine ⟨λo q=>?_,λ_ dst a b d g a0 a1 b0 b1 d0 t0 e0 e1=>?_⟩
  ·unfold plN at q
   split at q
   ·rw [if_neg (by decide)] at q
    split at q
    ·cases q;exact ⟨rfl,d4y _⟩
    ·rw [if_neg (by decide)] at q;cases q
   ·rw [if_neg (by decide),if_neg (by decide)] at q;cases q
  ·obtain ⟨s1,r1,r2,r3⟩:=c5z hn hf a0 a1 d0 t0
   have q:=s1.t
   refine c3p (x:=⟨(opF L (loT L e) a d g).2.1,b,3,dst,-1,0,(opF L (loT L e) a d g).1,nO⟩) s1 r1 rfl a0 a1 b0 b1 rfl (show (3:Int)≠12 by decide) ?_ ⟨r3,z64⟩
   show ((((within dst _&&true)&&true)&&opndS _ _)&&true)=true
   rw [within_iff.2 ⟨e0,by omega⟩,r2];rfl
 | bin k x y hk hx hy ih1 ih2=>
  intro hu
  have hf:=ih1 (hu.own.2.mem (by simp))
  have hg:=ih2 (hu.own.2.mem (by simp))
  rw [b7A]
  refine ⟨λo e=>?_,λ_ dst a b d g a0 a1 b0 b1 d0 t0 e0 e1=>?_⟩
  ·rw [show plN L k 0 _ _=none from e5t (by omega) (by omega) (by omega)] at e;cases e
  ·obtain ⟨s1,⟨r0,r1,m1⟩,r2,m2⟩:=d1z hn hf hg a0 a1 d0 t0
   have q:=s1.t
   have hk4:(if k=4 then L.af (⟨#[]⟩:BA) else -1) = -1:=if_neg (by omega)
   show Sx L na _ g (inN L k ⟨#[]⟩ [loT L x,loT L y] dst a b d g)
   unfold inN
   rw [hk4]
   refine c3p (x:=⟨(twF L (loT L x) (loT L y) a d g).2.2.1,b,kO k,dst,-1,0,(twF L (loT L x) (loT L y) a d g).1,(twF L (loT L x) (loT L y) a d g).2.1⟩) s1 r0 rfl a0 a1 b0 b1 ?_ ?_ ?_ ⟨m1,m2⟩
   ·rcases hk with rfl | rfl | rfl | rfl | rfl<;>rfl
   ·show kO k≠12
    rcases hk with rfl | rfl | rfl | rfl | rfl<;>decide
   ·have e:∀(i:Int)(o1 o2:Op)(n:Int),rightS n na ⟨i,b,kO k,dst,-1,0,o1,o2⟩=((((within dst n&&true)&&true)&&opndS o1 n)&&opndS o2 n):=by
     intro i o1 o2 n
     rcases hk with rfl | rfl | rfl | rfl | rfl<;>rfl
    rw [e,within_iff.2 ⟨e0,by omega⟩,r1,r2];rfl
end
structure FsC (L:En) (na:Int) (f:Fs):Prop where
 co:∀(a y n:Int)(g:Gr),0<=a->a < g.p->0<=y->y < g.p->0<=n->n < g.p->0<=g.t->Sx L na (Src a g.p (f.co a y n g).p) g (f.co a y n g)
structure FsS (L:En) (na:Int) (f:Fs):Prop where
 st:∀(a b:Int)(g:Gr),0<=a->a < g.p->0<=b->b < g.p->0<=L.ex->L.ex < g.p->0<=g.t->Sx L na (Src a g.p (f.st a b g).p) g (f.st a b g)
section
variable {L:En}{na:Int}{f h:Fs}
theorem d1A(hn:0<=L.nv){t:PT}(ht:XC t):NmP L na (uT t)->FsC L na (loT L t):=by
 induction ht with
 | tru=>intro _;rw [b9V];exact ⟨λa y n g a0 a1 y0 y1 n0 n1 t0=>(b6s (x:=bareE a y 1) ⟨a0,a1,y0,y1,rfl,c7x (.inl rfl),z64,z64⟩ (show (1:Int)≠12 by decide)).mono λp q=>.inl q⟩
 | fls=>intro _;rw [b9V];exact ⟨λa y n g a0 a1 y0 y1 n0 n1 t0=>(b6s (x:=bareE a n 1) ⟨a0,a1,n0,n1,rfl,c7x (.inl rfl),z64,z64⟩ (show (1:Int)≠12 by decide)).mono λp q=>.inl q⟩
 | cmp op x y o0 o1 hx hy=>
  intro hu
  have hf:=c7y hn hx (hu.own.2.mem (by simp))
  have hg:=c7y hn hy (hu.own.2.mem (by simp))
  rw [b9V]
  refine ⟨λa yes no g a0 a1 y0 y1 n0 n1 t0=>?_⟩
  obtain ⟨s1,⟨r0,r1,m1⟩,r2,m2⟩:=d1z hn hf hg a0 a1 (Int.le_refl 0) t0
  have hp:=s1.p
  have e:∀(i j op:Int)(o1 o2:Op)(n:Int),rightS n na ⟨i,j,12,-1,-1,op,o1,o2⟩=((true&&(decide (1<=op)&&decide (op<=6))&&opndS o1 n)&&opndS o2 n):=λ_ _ _ _ _ _=>rfl
  have e2:=d4A o0 o1
  show Sx L na _ g (asN L 3 op (twF L (loT L x) (loT L y) a 0 g).1 (twF L (loT L x) (loT L y) a 0 g).2.1 (twF L (loT L x) (loT L y) a 0 g).2.2.1 yes no (twF L (loT L x) (loT L y) a 0 g).2.2.2)
  refine Sx.trans s1 (e6R ⟨by dsimp only;omega,by dsimp only;omega,y0,by dsimp only;omega,rfl,?_,m1,m2⟩ ⟨by dsimp only;omega,by dsimp only;omega,n0,by dsimp only;omega,rfl,?_,m1,m2⟩ o0 o1) (λp=>?_) (λp=>?_) λp=>?_
  ·rw [e,r1,r2,decide_eq_true o0,decide_eq_true o1];rfl
  ·rw [e,r1,r2,decide_eq_true e2.2.1,decide_eq_true e2.2.2];rfl
  all_goals ((try unfold Sre);(try unfold Src);(try (show _->p=a\/(g.p<=p/\p < (asN L 3 op (twF L (loT L x) (loT L y) a 0 g).1 (twF L (loT L x) (loT L y) a 0 g).2.1 (twF L (loT L x) (loT L y) a 0 g).2.2.1 yes no (twF L (loT L x) (loT L y) a 0 g).2.2.2).p);unfold asN edG));(try dsimp only);omega)
 | not c hc ih=>
  intro hu
  have hf:=ih (hu.own.2.mem (by simp))
  rw [b9V]
  exact ⟨λa y n g a0 a1 y0 y1 n0 n1 t0=>hf.co a n y g a0 a1 n0 n1 y0 y1 t0⟩
 | bin k x y hk hx hy ih1 ih2=>
  intro hu
  have hf:=ih1 (hu.own.2.mem (by simp))
  have hg:=ih2 (hu.own.2.mem (by simp))
  rw [b9V]
  refine ⟨λa yes no g a0 a1 y0 y1 n0 n1 t0=>?_⟩
  have two:∀(u v:Int),0<=u->u < g.p+1->0<=v->v < g.p+1->Sx L na (Src a g.p ((loT L y).co g.p yes no ((loT L x).co a u v (frG g))).p) g ((loT L y).co g.p yes no ((loT L x).co a u v (frG g))):=by
   intro u v u0 u1 v0 v1
   have h1:=hf.co a u v (frG g) a0 (by dsimp only;omega) u0 u1 v0 v1 t0
   have p1:=h1.p;have q1:=h1.t
   have p1:g.p+1<=_:=p1
   have q1:g.t<=_:=q1
   have h2:=hg.co g.p yes no _ (by omega) (by omega) y0 (by omega) n0 (by omega) (Int.le_trans t0 q1)
   have p2:=h2.p
   refine (Sx.trans h1 h2 (λp=>?_) (λp=>?_) λp=>?_).fresh rfl (by dsimp only;omega) (Int.le_refl _)<;>(try unfold Src)<;>(try dsimp only)<;>omega
  rcases hk with rfl | rfl
  ·exact two g.p no (by omega) (by omega) n0 (by omega)
  ·exact two yes g.p y0 (by omega) (by omega) (by omega)
theorem d8k:∀{fs:List Fs},(∀f∈fs,FsS L na f)->∀(a nx tg:Int)(g:Gr),0<=a->a < nx->nx+((fs.length-1:Nat):Int)<=g.p->0<=tg->tg < g.p->0<=L.ex->L.ex < g.p->0<=g.t->
  Sx L na (λp=>p=a\/(nx<=p/\p < nx+((fs.length-1:Nat):Int))\/(g.p<=p/\p < (blG fs a nx tg g).p)) g (blG fs a nx tg g)
 | [],_,a,nx,tg,g,_,_,_,_,_,_,_,_=>Sx.same rfl (Int.le_refl _) (Int.le_refl _)
 | [f],hf,a,nx,tg,g,a0,a1,hl,t0,t1,x0,x1,g0=>by
  have h:=(hf f (by simp)).st a tg g a0 (by simp at hl;omega) t0 t1 x0 x1 g0
  rw [blG]
  exact h.mono λp q=>by unfold Src at q;omega
 | f::h::r,hf,a,nx,tg,g,a0,a1,hl,t0,t1,x0,x1,g0=>by
  have hl:nx+((r.length+1:Nat):Int)<=g.p:=by simpa using hl
  have h1:=(hf f (by simp)).st a nx g a0 (by omega) (by omega) (by omega) x0 x1 g0
  have p1:=h1.p;have q1:=h1.t
  have h2:=d8k (fs:=h::r) (λx hx=>hf x (List.mem_cons_of_mem _ hx)) nx (nx+1) tg (f.st a nx g) (by omega) (by omega) (by show nx+1+((r.length:Nat):Int)<=_;omega) t0 (by omega) x0 (by omega) (by omega)
  have p2:=h2.p
  rw [blG]
  have e1:((h::r).length-1:Nat)=r.length:=rfl
  have e2:((f::h::r).length-1:Nat)=r.length+1:=rfl
  rw [e1] at h2
  rw [e2]
  refine Sx.trans h1 h2 (λp=>?_) (λp=>?_) λp=>?_<;>(try unfold Src)<;>omega
theorem c3q{fs:List Fs}(hf:∀f∈fs,FsS L na f)(a tg:Int)(g:Gr)(a0:0<=a)(a1:a < g.p)(t0:0<=tg)(t1:tg < g.p)(x0:0<=L.ex)(x1:L.ex < g.p)(g0:0<=g.t):Sx L na (λp=>fs≠[]/\Src a g.p (blkG fs a tg g).p p) g (blkG fs a tg g):=by
 unfold blkG
 by_cases e:fs=[]
 ·subst e;exact Sx.same rfl (by rw [blG];show g.p<=g.p+((0:Nat):Int);omega) (Int.le_refl _)
 ·have h:=d8k hf a g.p tg ⟨g.p+(fs.length-1:Nat),g.t,g.es⟩ a0 a1 (Int.le_refl _) t0 (by dsimp only;omega) x0 (by dsimp only;omega) g0
  have hp:=h.p
  have h2:Sx L na (λp=>fs≠[]/\Src a g.p (blG fs a g.p tg ⟨g.p+(fs.length-1:Nat),g.t,g.es⟩).p p) _ _:=h.mono λp q=>⟨e,by unfold Src;dsimp only at q hp ⊢;omega⟩
  exact h2.fresh rfl (by dsimp only;omega) (Int.le_refl _)
theorem b9W(fs:List Fs)(tg:Int)(g:Gr):(fs=[]/\begG fs tg g=(tg,g))\/(fs≠[]/\begG fs tg g=(g.p,frG g)):=by
 cases fs with
 | nil=>exact .inl ⟨rfl,rfl⟩
 | cons f r=>exact .inr ⟨by simp,rfl⟩
theorem e5u(L:En)(c:PT)(th el:List PT)(a b:Int)(g:Gr):(loT L (sX 3 ⟨#[]⟩ [] [c] th el)).st a b g =
  blkG (el.map (loT L)) (begG (el.map (loT L)) b (begG (th.map (loT L)) b g).2).1 b (blkG (th.map (loT L)) (begG (th.map (loT L)) b g).1 b ((loT L c).co a (begG (th.map (loT L)) b g).1 (begG (el.map (loT L)) b (begG (th.map (loT L)) b g).2).1 (begG (el.map (loT L)) b (begG (th.map (loT L)) b g).2).2)):=by
 have e1:((th++el).map (loT L)).take th.length=th.map (loT L):=by rw [List.map_append,List.take_left' (List.length_map _)]
 have e2:((th++el).map (loT L)).drop th.length=el.map (loT L):=by rw [List.map_append,List.drop_left' (List.length_map _)]
 rw [b5T,← e1,← e2]
 rfl
theorem d6p(L:En)(c:PT)(th:List PT)(a b:Int)(g:Gr):(loT L (sX 4 ⟨#[]⟩ [] [c] th [])).st a b g=blkG (th.map (loT L)) (begG (th.map (loT L)) a g).1 a ((loT L c).co a (begG (th.map (loT L)) a g).1 b (begG (th.map (loT L)) a g).2):=by
 have e1:(([c]++([]++(th++[]))).map (loT L))=loT L c::th.map (loT L):=by rw [List.append_nil];rfl
 rw [b5T,e1]
 rfl
theorem e9D(hn:0<=L.nv){t:PT}(ht:XS t):NmP L na (uT t)->FsS L na (loT L t):=by
 induction ht with
 | asg s e he=>
  intro hu
  have hf:=c7y hn he (hu.own.2.mem (by simp []))
  have hs:=within_iff.1 (d4B (s:=s) hu.own.1 rfl)
  refine ⟨λa b g a0 a1 b0 b1 x0 x1 g0=>?_⟩
  show Sx L na (Src a g.p ((loT L (sX 1 s [e] [] [] [])).st a b g).p) g _
  have e0:(loT L (sX 1 s [e] [] [] [])).st a b g=match (loT L e).pl with | some o=>edG ⟨a,b,2,L.vf s,-1,0,o,nO⟩ g | none=>(loT L e).into (L.vf s) a b 0 g:=by
   rw [b5T];rfl
  rw [e0]
  cases q:(loT L e).pl with
  | some o=>
   refine (b6s (x:=⟨a,b,2,L.vf s,-1,0,o,nO⟩) ⟨a0,a1,b0,b1,rfl,?_,(hf.pl o q).2,z64⟩ (show (2:Int)≠12 by decide)).mono λp q=>.inl q
   show ((((within (L.vf s) _&&true)&&true)&&opndS o _)&&true)=true
   rw [within_iff.2 ⟨hs.1,by omega⟩,b3F (hf.pl o q).1 (by omega)];rfl
  | none=>exact hf.into q (L.vf s) a b 0 g a0 a1 b0 b1 (Int.le_refl 0) g0 hs.1 (by omega)
 | sto s i e hi he=>
  intro hu
  have hf:=c7y hn hi (hu.own.2.mem (by simp []))
  have hg:=c7y hn he (hu.own.2.mem (by simp []))
  have hs:=d4C (s:=s) hu.own.1 rfl
  refine ⟨λa b g a0 a1 b0 b1 x0 x1 g0=>?_⟩
  obtain ⟨s1,⟨r0,r1,m1⟩,r2,m2⟩:=d1z hn hf hg a0 a1 (Int.le_refl 0) g0
  have e0:(loT L (sX 2 s [i,e] [] [] [])).st a b g=edG ⟨(twF L (loT L i) (loT L e) a 0 g).2.2.1,b,11,-1,L.af s,0,(twF L (loT L i) (loT L e) a 0 g).1,(twF L (loT L i) (loT L e) a 0 g).2.1⟩ (twF L (loT L i) (loT L e) a 0 g).2.2.2:=by
   rw [b5T];rfl
  rw [e0]
  refine c3p s1 r0 rfl a0 a1 b0 b1 rfl (show (11:Int)≠12 by decide) ?_ ⟨m1,m2⟩
  show ((((true&&within (L.af s) na)&&true)&&opndS _ _)&&opndS _ _)=true
  rw [hs,r1,r2];rfl
 | iff c th el hc hth hel ih1 ih2=>
  intro hu
  have hf:=d1A hn hc (hu.own.2.mem (by simp []))
  have h1:∀f∈th.map (loT L),FsS L na f:=λf hf=>by
   obtain ⟨t,ht,rfl⟩:=List.mem_map.1 hf
   exact ih1 t ht (hu.own.2.mem (by simp [ht]))
  have h2:∀f∈el.map (loT L),FsS L na f:=λf hf=>by
   obtain ⟨t,ht,rfl⟩:=List.mem_map.1 hf
   exact ih2 t ht (hu.own.2.mem (by simp [ht]))
  refine ⟨λa b g a0 a1 b0 b1 x0 x1 g0=>?_⟩
  rw [e5u]
  generalize th.map (loT L)=F1 at *
  generalize el.map (loT L)=F2 at *
  have k1:=b9W F1 b g
  have k2:=b9W F2 b (begG F1 b g).2
  generalize begG F1 b g=B1 at *
  generalize begG F2 b B1.2=B2 at *
  have c1:(g.p<=B1.2.p/\0<=B1.1/\B1.1 < B1.2.p)/\B1.2.t=g.t/\B1.2.es=g.es/\(F1≠[]->B1.1=g.p/\B1.2.p=g.p+1):=by
   rcases k1 with ⟨q,rfl⟩ | ⟨q,rfl⟩
   ·exact ⟨⟨Int.le_refl _,b0,b1⟩,rfl,rfl,λn=>(n q).elim⟩
   ·exact ⟨by dsimp only;omega,rfl,rfl,λ_=>⟨rfl,rfl⟩⟩
  have c2:(B1.2.p<=B2.2.p/\0<=B2.1/\B2.1 < B2.2.p)/\B2.2.t=B1.2.t/\B2.2.es=B1.2.es/\(F2≠[]->B2.1=B1.2.p/\B2.2.p=B1.2.p+1):=by
   rcases k2 with ⟨q,rfl⟩ | ⟨q,rfl⟩
   ·exact ⟨⟨Int.le_refl _,b0,by dsimp only;omega⟩,rfl,rfl,λn=>(n q).elim⟩
   ·exact ⟨by dsimp only;omega,rfl,rfl,λ_=>⟨rfl,rfl⟩⟩
  clear k1 k2
  obtain ⟨b11,b12,b13,b14⟩:=c1
  obtain ⟨b21,b22,b23,b24⟩:=c2
  have s1:=hf.co a B1.1 B2.1 B2.2 a0 (by omega) (by omega) (by omega) (by omega) (by omega) (by omega)
  have p1:=s1.p;have q1:=s1.t
  generalize (loT L c).co a B1.1 B2.1 B2.2=G1 at *
  have s2:=c3q h1 B1.1 b G1 (by omega) (by omega) b0 (by omega) x0 (by omega) (by omega)
  have p2:=s2.p;have q2:=s2.t
  generalize blkG F1 B1.1 b G1=G2 at *
  have s3:=c3q h2 B2.1 b G2 (by omega) (by omega) b0 (by omega) x0 (by omega) (by omega)
  have p3:=s3.p
  generalize blkG F2 B2.1 b G2=G3 at *
  refine (Sx.trans (S1:=λp=>Src a B2.2.p G1.p p\/(F1≠[]/\Src B1.1 G1.p G2.p p)) (Sx.trans s1 s2 (λp q r=>?_) (λp q=>.inl q) λp q=>.inr q) s3 (λp q r=>?_) (λp q=>?_) λp q=>?_).fresh (by rw [b23,b13]) (by omega) (by omega)
  ·have:=b14 r.1;have r:=r.2;unfold Src at q r;omega
  ·have:=b24 r.1;have r:=r.2
   rcases q with q | ⟨n,q⟩
   ·unfold Src at q r;omega
   ·have:=b14 n;unfold Src at q r;omega
  ·rcases q with q | ⟨n,q⟩
   ·unfold Src at q ⊢;omega
   ·have:=b14 n;unfold Src at q ⊢;omega
  ·have:=b24 q.1;have q:=q.2;unfold Src at q ⊢;omega
 | whl c th hc hth ih=>
  intro hu
  have hf:=d1A hn hc (hu.own.2.mem (by simp []))
  have h1:∀f∈th.map (loT L),FsS L na f:=λf hf=>by
   obtain ⟨t,ht,rfl⟩:=List.mem_map.1 hf
   exact ih t ht (hu.own.2.mem (by simp [ht]))
  refine ⟨λa b g a0 a1 b0 b1 x0 x1 g0=>?_⟩
  rw [d6p]
  generalize th.map (loT L)=F1 at *
  have k1:=b9W F1 a g
  generalize begG F1 a g=B1 at *
  have c1:(g.p<=B1.2.p/\0<=B1.1/\B1.1 < B1.2.p)/\B1.2.t=g.t/\B1.2.es=g.es/\(F1≠[]->B1.1=g.p/\B1.2.p=g.p+1):=by
   rcases k1 with ⟨q,rfl⟩ | ⟨q,rfl⟩
   ·exact ⟨⟨Int.le_refl _,a0,a1⟩,rfl,rfl,λn=>(n q).elim⟩
   ·exact ⟨by dsimp only;omega,rfl,rfl,λ_=>⟨rfl,rfl⟩⟩
  clear k1
  obtain ⟨b11,b12,b13,b14⟩:=c1
  have s1:=hf.co a B1.1 b B1.2 a0 (by omega) (by omega) (by omega) b0 (by omega) (by omega)
  have p1:=s1.p;have q1:=s1.t
  generalize (loT L c).co a B1.1 b B1.2=G1 at *
  have s2:=c3q h1 B1.1 a G1 (by omega) (by omega) a0 (by omega) x0 (by omega) (by omega)
  have p2:=s2.p
  generalize blkG F1 B1.1 a G1=G2 at *
  refine (Sx.trans s1 s2 (λp q r=>?_) (λp q=>?_) λp q=>?_).fresh b13 (by omega) (by omega)
  ·have:=b14 r.1;have r:=r.2;unfold Src at q r;omega
  ·unfold Src at q ⊢;omega
  ·have:=b14 q.1;have q:=q.2;unfold Src at q ⊢;omega
 | asr c hc=>
  intro hu
  have hf:=d1A hn hc (hu.own.2.mem (by simp []))
  refine ⟨λa b g a0 a1 b0 b1 x0 x1 g0=>?_⟩
  have e0:(loT L (sX 5 ⟨#[]⟩ [] [c] [] [])).st a b g=edG (bareE (g.p+1) b 14) (edG (bareE g.p b 13) ((loT L c).co a g.p (g.p+1) (frG (frG g)))):=by
   rw [b5T];rfl
  rw [e0]
  have hp:(frG (frG g)).p=g.p+2:=by dsimp only;omega
  have s1:=hf.co a g.p (g.p+1) (frG (frG g)) a0 (by omega) (by omega) (by omega) (by omega) (by omega) g0
  have p1:=s1.p
  rw [hp] at s1 p1
  generalize (loT L c).co a g.p (g.p+1) (frG (frG g))=G1 at *
  have s2:=b6s (L:=L) (na:=na) (g:=G1) (x:=bareE g.p b 13) ⟨by dsimp only;omega,by dsimp only;omega,b0,by dsimp only;omega,rfl,c7x (.inr (.inl rfl)),z64,z64⟩ (show (13:Int)≠12 by decide)
  have s3:=b6s (L:=L) (na:=na) (g:=edG (bareE g.p b 13) G1) (x:=bareE (g.p+1) b 14) ⟨by dsimp only;omega,by unfold edG;dsimp only;omega,b0,by unfold edG;dsimp only;omega,rfl,c7x (.inr (.inr rfl)),z64,z64⟩ (show (14:Int)≠12 by decide)
  refine (Sx.trans (S1:=λp=>Src a (g.p+2) G1.p p\/p=g.p) (Sx.trans s1 s2 (λp q r=>?_) (λp q=>.inl q) λp q=>.inr q) s3 (λp q r=>?_) (λp q=>?_) λp q=>?_).fresh rfl (by omega) (Int.le_refl _)<;>(try unfold Src at *)<;>(try unfold edG at *)<;>(try dsimp only at *)<;>omega
 | asm c hc=>
  intro hu
  have hf:=d1A hn hc (hu.own.2.mem (by simp []))
  refine ⟨λa b g a0 a1 b0 b1 x0 x1 g0=>?_⟩
  have e0:(loT L (sX 6 ⟨#[]⟩ [] [c] [] [])).st a b g=(loT L c).co a b L.ex g:=by
   rw [b5T];rfl
  rw [e0]
  exact hf.co a b L.ex g a0 a1 b0 b1 x0 x1 g0
 | skp=>
  intro _
  refine ⟨λa b g a0 a1 b0 b1 x0 x1 g0=>?_⟩
  have e0:(loT L (sX 7 ⟨#[]⟩ [] [] [] [])).st a b g=edG (bareE a b 1) g:=by
   rw [b5T];rfl
  rw [e0]
  exact (b6s (x:=bareE a b 1) ⟨a0,a1,b0,b1,rfl,c7x (.inl rfl),z64,z64⟩ (show (1:Int)≠12 by decide)).mono λp q=>.inl q
end
theorem c7z{xs:List BA}(hn:xs.Nodup){j:Nat}{s:BA}(hj:xs[j]? = some s):∀i,i<=xs.length->j < i->lk s (mapU xs i)=some (j:Int)
 | 0,_,h=>absurd h (Nat.not_lt_zero _)
 | i+1,hi,h=>by
  rw [b9U,b6O]
  by_cases e:j=i
  ·subst e
   rw [if_pos (by rw [List.getD_eq_getElem?_getD,hj];rfl)]
  ·rw [if_neg,c7z hn hj i (by omega) (by omega)]
   intro q
   obtain ⟨x,hx⟩:∃x,xs[i]? = some x:=⟨xs[i],List.getElem?_eq_getElem (by omega)⟩
   rw [List.getD_eq_getElem?_getD,hx] at q
   have q':s=x:=q
   subst q'
   exact e ((List.getElem?_inj (List.getElem?_eq_some_iff.1 hj).1 hn).1 (hj.trans hx.symm))
theorem e5v{xs:List BA}(hn:xs.Nodup){s:BA}(h:s∈xs):0<=idx xs s/\idx xs s < (xs.length:Nat):=by
 obtain ⟨j,hj⟩:=List.mem_iff_getElem?.1 h
 have:=(List.getElem?_eq_some_iff.1 hj).1
 have e:idx xs s=(j:Int):=by unfold idx;rw [c7z hn hj _ (Nat.le_refl _) this];rfl
 omega
theorem d4D{k:Int}(hk:k≠0){s:BA}:∀{l:List j9},kOf l s=k->∃d∈l,d.o7=s/\kindD d=k
 | [],h=>(hk h.symm).elim
 | d::r,h=>by
  rw [kOf] at h
  by_cases e:d.o7=s
  ·rw [if_pos e] at h;exact ⟨d,List.mem_cons_self,e,h⟩
  ·rw [if_neg e] at h
   obtain ⟨d',h1,h2⟩:=d4D hk h
   exact ⟨d',List.mem_cons_of_mem _ h1,h2⟩
section
variable {q:PP}
theorem e9E(d:j9):decide (kindD d=2)=decide (0 < d.D2):=by unfold kindD;by_cases c:0 < d.D2<;>simp [c]
theorem e9F(h:(wellS q).2=0):ofS q 2=q.decls.filter λd=>decide (0 < d.D2):=by unfold ofS kF;rw [if_pos h];simp only [e9E]
theorem e5w(h:(wellS q).2=0):NmP (enS q) ((ofS q 2).length:Nat) (uTs q.body):=by
 obtain ⟨_,⟨hn,_⟩,hu⟩:=(b5Q q).1 h
 have key:∀k:Int,k≠0->∀u∈uTs q.body,asU u=k->0<=idx ((ofS q k).map (·.o7)) u.o7/\idx ((ofS q k).map (·.o7)) u.o7 < ((ofS q k).length:Nat):=by
  intro k hk u hm e
  have e2:ofS q k=kF k q.decls:=by unfold ofS;rw [if_pos h]
  obtain ⟨d,h1,h2,h3⟩:=d4D hk ((hu u hm).trans e)
  have:=e5v (xs:=(ofS q k).map (·.o7)) (s:=u.o7) (by rw [e2];exact hn.sublist (List.filter_sublist.map _)) (by rw [e2,← h2];exact List.mem_map.2 ⟨d,List.mem_filter.2 ⟨h1,by simpa using h3⟩,rfl⟩)
  rwa [List.length_map] at this
 intro u hm
 exact ⟨λe=>within_iff.2 (key 2 (by decide) u hm (by unfold asU;rw [if_pos e])),λe=>within_iff.2 (by
  have:=key 1 (by decide) u hm (by unfold asU;rw [if_neg (by rw [e];decide)])
  refine ⟨this.1,?_⟩
  show _ < (((ofS q 1).map (·.o7)).length:Int)
  rw [List.length_map]
  exact this.2)⟩
theorem d1B(q:PP):(q.body=[]/\exS q=0)\/(q.body≠[]/\exS q=1):=by
 unfold exS
 by_cases c:q.body=[]
 ·rw [if_pos c];exact .inl ⟨c,rfl⟩
 ·rw [if_neg c];exact .inr ⟨c,rfl⟩
theorem c5A(h:(wellS q).2=0)(hx:∀t∈q.body,XS t):Sx (enS q) ((ofS q 2).length:Nat) (λp=>q.body.map (loT (enS q))≠[]/\Src 0 (1+exS q) (loS q).p p) ⟨1+exS q,0,[]⟩ (loS q):=by
 have he:0<=exS q:=by have:=d1B q;omega
 refine c3q (L:=enS q) (λf hf=>?_) 0 (exS q) ⟨1+exS q,0,[]⟩ (Int.le_refl 0) (by dsimp only;omega) he (by dsimp only;omega) he (by show exS q < 1+exS q;omega) (Int.le_refl 0)
 obtain ⟨t,ht,rfl⟩:=List.mem_map.1 hf
 exact e9D (by show (0:Int)<=((vN q).length:Nat);omega) (hx t ht) ((e5w h).mem ht)
theorem e6T(h:(wellS q).2=0)(hx:∀t∈q.body,XS t):∀x∈(loS q).es,x.D6≠exS q:=by
 obtain ⟨_,_,l,e,hl,_⟩:=c5A h hx
 have e:(loS q).es=l:=e
 intro x hx2 hf
 rw [e] at hx2
 obtain ⟨⟨s1,s2⟩,_⟩:=hl x hx2
 have:=d1B q
 unfold Src at s2
 rcases this with ⟨b,e0⟩ | ⟨b,e1⟩
 ·exact s1 (by rw [b];rfl)
 ·omega
theorem e5x(h:(wellS q).2=0)(hx:∀t∈q.body,XS t):∀p,goeS (fromS (loS q).es p)=true:=by
 obtain ⟨_,_,l,e,_,hg⟩:=c5A h hx
 have e:(loS q).es=l:=e
 rw [e];exact hg
theorem c5B(h:loE q=0):(wellS q).2=0/\(enS q).nv+(loS q).t<=64/\(loS q).p<=4096/\((loS q).es.length:Int)<=8192:=by
 unfold loE at h
 split at h
 ·rename_i c;exact (c h).elim
 ·rename_i c
  split at h
  ·cases h
  ·split at h
   ·cases h
   ·exact ⟨Classical.not_not.1 c,by omega,by omega,by omega⟩
section
variable {H H':Hp}{c:s6}
theorem d1C(h:loE q=0)(hx:∀t∈q.body,XS t)(hc:CfH H H' q c):GH H' c (vN q) (ofS q 2) (loS q).es:=by
 obtain ⟨h1,h2,h3,h4⟩:=c5B h
 obtain ⟨F,hr,hF,_⟩:=hc.e
 have ht:=(c5A h1 hx).t
 have ht:0<=(loS q).t:=ht
 have hn:(0:Int)<=(enS q).nv:=(by show (0:Int)<=((vN q).length:Nat);omega)
 have e1:(enS q).nv=((vN q).length:Nat):=rfl
 have e2:=((b5Q q).1 h1).2.1.2.2.2
 have e3:(ofS q 2).length<=16:=by unfold ofS;rw [if_pos h1];exact e2
 exact ⟨hc.v,hc.a,hr.frozen (by decide) hF,by omega,by omega,by omega,by rw [hc.t];unfold a0h;omega⟩
theorem d6q(h:loE q=0)(hx:∀t∈q.body,XS t)(hc:CfH H H' q c):checkS c (vN q) (ofS q 2) (loS q).es=0:=by
 obtain ⟨h1,h2,h3,h4⟩:=c5B h
 have G:=d1C h hx hc
 have hs:=c5A h1 hx
 have ht:0<=(loS q).t:=hs.t
 have hp:1+exS q<=(loS q).p:=hs.p
 have he:=d1B q
 have hn:(0:Int)<=(enS q).nv:=(by show (0:Int)<=((vN q).length:Nat);omega)
 have e1:(enS q).nv=((vN q).length:Nat):=rfl
 obtain ⟨_,hd2,_,hd4⟩:=((b5Q q).1 h1).2.1
 have e3:(ofS q 2).length<=16:=by unfold ofS;rw [if_pos h1];exact hd4
 have ha:allS c=((vN q).length:Int)+c.D7:=e0S G (by rw [hc.t];exact ht) (by rw [hc.t];omega)
 have hv:varsS c (vN q)=true:=by
  unfold varsS
  rw [decide_eq_true (by rw [hc.t];exact ht),decide_eq_true (by rw [hc.t];omega),decide_eq_true (by rw [hc.t];omega)];rfl
 have hq:pointsS c (loS q).es=true:=by
  unfold pointsS
  rw [decide_eq_true (by rw [hc.p];omega),decide_eq_true (by rw [hc.p];omega),decide_eq_true h4];rfl
 have hz:sizesS (ofS q 2)=true:=by
  unfold sizesS
  rw [List.all_eq_true]
  intro d hd
  rw [e9F h1] at hd
  have hm:=List.mem_filter.1 hd
  have:=hd2 d hm.1
  have h0:0 < d.D2:=of_decide_eq_true hm.2
  rw [decide_eq_true (by omega),decide_eq_true this];rfl
 have hall:(loS q).es.all (edgeS c)=true:=by
  rw [List.all_eq_true]
  obtain ⟨_,_,l,e,hl,_⟩:=hs
  have e:(loS q).es=l:=e
  intro x hx2
  have hne:=e6T h1 hx x hx2
  rw [e] at hx2
  obtain ⟨_,k⟩:=hl x hx2
  have hna:(c.C1.n:Int)=((ofS q 2).length:Nat):=by rw [hc.a.1]
  unfold edgeS
  rw [ha,hna,hc.p,hc.x,hc.t,within_iff.2 ⟨k.f0,k.f1⟩,within_iff.2 ⟨k.t0,k.t1⟩,decide_eq_false hne,k.k,show rightS (((vN q).length:Int)+(loS q).t) ((ofS q 2).length:Nat) x=true from k.r];rfl
 have hg:gformS c (ofS q 2) (loS q).es=true:=by
  unfold gformS forksS
  rw [decide_eq_true (by omega),hz,within_iff.2 ⟨by rw [hc.x];omega,by rw [hc.x,hc.p];omega⟩,hall,Bool.true_and]
  exact List.all_eq_true.2 λp _=>e5x h1 hx p
 unfold checkS
 rw [hv,hq,hg];rfl
end
end
def Rd(H:Hp)(x:c8)(r:List Tok):Prop:=∃(ts:List Tok)(n:Nat),SlH H 5 m8 x.fl ts/\ts.length<=big/\x.fn=(n:Int)/\ts.drop n=r/\WfT r
def fltV(c:Int)(p:f8):Value:=.iface 122 (.agg #[vi p.Q3,vi p.Z6,vi c])
def Res [PanQ] {α β:Type} (H:Hp) (x:c8) (R:Hp->α->β->Prop) (o:Except Flt (β×List Tok)) (K:α->c8->Hp->Prop):Prop:=match o with
 | .ok (b,r')=>∀(H':Hp)(v:α)(x':c8),Hle H H'->R H' v b->Rd H' x' r'->x'.fl=x.fl->K v x' H'
 | .error (c,p)=>PanQ.q (fltV c p)
theorem Rd.le{H H':Hp}(l:Hle H H'){x:c8}{r:List Tok}(h:Rd H x r):Rd H' x r:=by
 obtain ⟨ts,n,a,b,c,d,e⟩:=h
 exact ⟨ts,n,a.le l,b,c,d,e⟩
theorem WfT.ne{r:List Tok}(h:WfT r):r≠[]:=by rintro rfl;exact h
theorem WfT.tail{r:List Tok}(h:WfT r)(hk:(hd r).d9≠5):WfT r.tail:=by
 cases r with
 | nil=>exact h.elim
 | cons t r=>
  cases r with
  | nil=>exact absurd h hk
  | cons u r=>exact h.2
theorem drop_at{ts:List Tok}{n:Nat}{r:List Tok}(h:ts.drop n=r)(hr:r≠[]):ts[n]? = some (hd r):=by
 cases r with
 | nil=>exact absurd rfl hr
 | cons t r=>
  have:(ts.drop n)[0]? = some t:=by rw [h];rfl
  rw [List.getElem?_drop] at this
  exact this
theorem d4E{ts:List Tok}{n:Nat}{r:List Tok}(h:ts.drop n=r):ts.drop (n+1)=r.tail:=by rw [←List.tail_drop,h]
theorem c2a{s:BA}{ss:List BA}{k:Int}{ks:List Int}{r:List Tok}:whG (s::ss) (k::ks) r=if isT s r then k else whG ss ks r:=rfl
section
variable {H:Hp}{x:c8}{r:List Tok}
theorem Rd.len(h:Rd H x r):((x.fl.n:Int)-x.fn).toNat=r.length:=by
 obtain ⟨ts,n,a,_,c,d,_⟩:=h
 have:=a.1
 rw [←d,c,List.length_drop]
 omega
theorem Rd.wf(h:Rd H x r):WfT r:=by obtain ⟨_,_,_,_,_,_,e⟩:=h;exact e
theorem Rd.up(h:Rd H x r)(hk:(hd r).d9≠5):Rd H (c8.mk x.fl (IntKind.wrap .i64 (x.fn+1))) r.tail:=by
 obtain ⟨ts,n,a,b,c,d,e⟩:=h
 have hn:n < ts.length:=O1 (drop_at d e.ne)
 refine ⟨ts,n+1,a,b,?_,d4E d,e.tail hk⟩
 simp only [big] at b
 show IntKind.wrap .i64 (x.fn+1)=_
 rw [c,S3 ⟨by omega,by omega⟩]
 omega
theorem a8y(h:Rd H x r){K:KT d6}(k:K (hd r) H):G5 x H K:=by
 obtain ⟨ts,n,a,b,c,d,e⟩:=h
 refine b3K _ ?_
 unfold a8c
 have ha:=drop_at d e.ne
 have hn:=O1 ha
 have:=a.1
 rw [c]
 obtain ⟨y,hy,hE⟩:=a.get (i:=(n:Int)) (by omega) (by omega)
 rw [Int.toNat_natCast,ha] at hy
 cases hy
 exact ⟨by omega,by omega,_,hE,k⟩
theorem c5C(h:Rd H x r){s:BA}{K:KT Bool}(k:K (isT s r) H):B0 x s H K:=b5N _ _ (a8y h k)
theorem a5A(h:Rd H x r){s:BA}{K:Bool->c8->Hp->Prop}(h1:isT s r=true->∀x',Rd H x' r.tail->x'.fl=x.fl->K true x' H)(h0:isT s r=false->K false x H):B6 x s H K:=by
 refine b4E _ _ (c5C h ⟨λc=>h0 (by simpa using c),λc=>?_⟩)
 have c':isT s r=true:=by simpa using c
 exact h1 c' _ (h.up (b1O c')) rfl
variable  [PanQ]
theorem b0c(h:Rd H x r){K:Hp->Prop}(k:PanQ.q (fltV 40 (hd r).fAt)):M2 x H K:=b4c _ (a8y h k)
theorem c0J(h:Rd H x r){K:d6->c8->Hp->Prop}(h0:(hd r).d9=5->PanQ.q (fltV 40 (hd r).fAt))(h1:(hd r).d9≠5->∀x',Rd H x' r.tail->x'.fl=x.fl->K (hd r) x' H):V8 x H K:=
 b3Q _ (a8y h ⟨λc=>b0c h (h0 c),λc=>h1 c _ (h.up c) rfl⟩)
theorem e1c(h:Rd H x r){s:BA}{K:KT c8}(k:Res H x (λ_ (_:Unit) (_:Unit)=>True) (mustP s r) (λ_ x' H'=>K x' H')):K5 x s H K:=by
 refine b4e _ _ (a5A h (λc x' hx e=>⟨λq=>(by cases q),λ_=>?_⟩) λc=>⟨λ_=>b0c h ?_,λq=>(by cases q)⟩)
 ·unfold mustP at k;rw [if_pos c] at k;exact k H () x' (Hle.refl _) trivial hx e
 ·unfold mustP at k;rw [if_neg (by rw [c];decide)] at k;exact k
theorem e1d(h:Rd H x r){c:Int}(hc:c≠5){K:d6->c8->Hp->Prop}(h0:(hd r).d9≠c->PanQ.q (fltV 40 (hd r).fAt))(h1:(hd r).d9=c->∀x',Rd H x' r.tail->x'.fl=x.fl->K (hd r) x' H):a4r x c H K:=by
 refine b4g _ _ (a8y h ⟨λq=>b0c h (h0 q),λq=>?_⟩)
 exact c0J h (λq'=>absurd (q.symm.trans q') hc) λ_=>h1 q
omit [PanQ] in
theorem b0d(h:Rd H x r){p:Prop} [Decidable p] {s:BA} {K:KT Bool} (k:K (decide p&&isT s r) H):TG p (B0 x s H) false H K:=by
 refine ⟨λc=>c5C h ?_,λc=>?_⟩
 ·rw [decide_eq_true c] at k;exact k
 ·rw [decide_eq_false c] at k;exact k
omit [PanQ] in
theorem c5D{a b:Bool}:(a||(decide (a=false)&&b))=(a||b):=by cases a<;>simp
omit [PanQ] in
theorem b8M(h:Rd H x r){K:KT Bool}(k:K (factB r) H):N1 x H K:=by
 refine b0J _ (a8y h ?_)
 refine b0d h (b0d h (b0d h ?_))
 simp only [c5D]
 exact k
omit [PanQ] in
theorem c4s(h:Rd H x r){K:KT Bool}(k:K (litB r) H):V2 x H K:=by
 refine b1b _ (b8M h ?_)
 refine b0d h (b0d h (b0d h (b0d h ?_)))
 simp only [c5D]
 exact k
omit [PanQ] in
theorem d6r(h:Rd H x r){K:KT Bool}(k:K (stmtB r) H):U2 x H K:=by
 refine b0P _ (a8y h ?_)
 refine b0d h (b0d h (b0d h (b0d h (b0d h ?_))))
 simp only [c5D]
 exact k
theorem b5U(h:Rd H x r){d:Int}{can:Bool}{K:Hp->Prop}(h0:can=false->PanQ.q (fltV 40 (hd r).fAt))(h1:can=true->40 < d->PanQ.q (fltV 41 (hd r).fAt))(h2:can=true->¬40 < d->K H):L1 x d can H K:=by
 refine b3u _ _ _ ⟨λc=>b0c h (h0 (by simpa using c)),λc=>?_⟩
 have c':can=true:=by simpa using c
 exact ⟨λq=>a8y h (h1 c' q),λq=>h2 c' q⟩
omit [PanQ] in
theorem d6s(h:Rd H x r){sg:a3S}{ss:List BA}{ks:List Int}(hs:SlH H 1 v7 sg.fsigns ss)(hk:SlH H 1 K4 sg.fkinds ks)(hl:ss.length=ks.length)(hb:ss.length<=100)(h9:∀k∈ks,k≠0){K:Int->c8->Hp->Prop}
  (k1:whG ss ks r≠0->∀x',Rd H x' r.tail->x'.fl=x.fl->K (whG ss ks r) x' H) (k0:whG ss ks r=0->K 0 x H):a3Z x sg H K:=by
 refine b3l _ _ ?_
 have n1:=hs.1
 have n2:=hk.1
 refine P7 (λ(z:Int×c8) H'=>H'=H/\∃i:Nat,z=((i:Int),x)/\i<=ss.length/\whG (ss.drop i) (ks.drop i) r=whG ss ks r) (λz=>(ss.length-z.1).toNat) ⟨rfl,0,rfl,by omega,rfl⟩ ?_
 rintro z H1 next ⟨rfl,i,rfl,hi,he⟩ hn
 refine ⟨λc=>?_,λc=>?_⟩
 ·obtain ⟨s,hsi,hE⟩:=hs.get (i:=(i:Int)) (by omega) (by omega)
  obtain ⟨k,hki,hF⟩:=hk.get (i:=(i:Int)) (by omega) (by omega)
  rw [Int.toNat_natCast] at hsi hki
  have d1:ss.drop i=s::ss.drop (i+1):=by obtain ⟨hz,e1⟩:=List.getElem?_eq_some_iff.1 hsi;rw [List.drop_eq_getElem_cons hz,e1]
  have d2:ks.drop i=k::ks.drop (i+1):=by obtain ⟨hz,e1⟩:=List.getElem?_eq_some_iff.1 hki;rw [List.drop_eq_getElem_cons hz,e1]
  rw [d1,d2,c2a] at he
  refine ⟨by omega,by omega,s,hE,a5A h (λq x' hx e=>⟨λ_=>?_,λq'=>(by cases q')⟩) λq=>⟨λq'=>(by cases q'),λ_=>?_⟩⟩
  ·rw [if_pos q] at he
   have hk0:k≠0:=h9 k (List.mem_of_getElem? hki)
   refine ⟨by omega,by omega,k,hF,?_⟩
   rw [he]
   exact k1 (by rw [←he];exact hk0) x' hx e
  ·rw [if_neg (by rw [q];decide)] at he
   rw [S3 (a:=(i:Int)+1) ⟨by omega,by omega⟩]
   exact hn _ _ ⟨rfl,i+1,by rw [Int.natCast_add];rfl,by omega,he⟩ (by dsimp only;omega)
 ·have d1:ss.drop i=[]:=List.drop_eq_nil_of_le (by omega)
  rw [d1] at he
  exact k0 he.symm
end
open Go.Proofs.Tryz Go.RowKit
abbrev rQ(g:Nat):Value:=.pointer (some ⟨g,0,none⟩)
theorem b8N{P:Program}{E:Pan}{w:World}{K:Value->World->Prop}{f:FuncId}{a:Value}{args:List Value}(he:∀args w,(callFunc f args).run P w=.ok (.enter f args) w)(h:Cv P f (a::args).toArray w K E):opK P E (xCall (.func (.func f) #[a] #[]) args) w K:=by
 refine a4p (f:=f) (args:=(a::args).toArray) ?_ h
 simp only [xCall,Deferred.ofValue,invoke,Sem.run_bind,Sem.run_pure,Result.andThen_ok,he]
 congr 2
 simp
theorem EH2{H:Hp}{s:Sl}{e e':l9}{a b:PT}(hs:SlH H 4 g9 s [e,e'])(ha:EH H e a)(hb:EH H e' b)(k n:Int)(nm:BA):EH H (l9.mk k n nm s) (eX k n nm [a,b]):=
 EH.mk (e:=⟨k,n,nm,s⟩) hs (by simp [big]) rfl ((C4.one ha).app (C4.one hb)).2
theorem EH1{H:Hp}{s:Sl}{e:l9}{a:PT}(hs:SlH H 4 g9 s [e])(ha:EH H e a)(k n:Int)(nm:BA):EH H (l9.mk k n nm s) (eX k n nm [a]):=
 EH.mk (e:=⟨k,n,nm,s⟩) hs (by simp [big]) rfl (C4.one ha).2
theorem EH0{H:Hp}(k n:Int)(nm:BA):EH H (l9.mk k n nm (Sl.mk none 0 0)) (eX k n nm []):=
 EH.mk (e:=⟨k,n,nm,Sl.mk none 0 0⟩) (SlH.nil H _ _) (by simp [big]) rfl (λi x t h=>by simp at h)
theorem CH2{H:Hp}{s:Sl}{e e':p5}{a b:PT}(hs:SlH H 4 l7 s [e,e'])(ha:CH H e a)(hb:CH H e' b)(k n:Int):CH H (p5.mk k n (Sl.mk none 0 0) s) (cX k n [] [a,b]):=
 CH.mk (c:=⟨k,n,Sl.mk none 0 0,s⟩) (ts:=[]) (SlH.nil H _ _) (by simp [big]) C4.nil hs (by simp [big]) rfl ((C4.one ha).app (C4.one hb)).2
variable  [PanQ]
def CallV{α:Type}(cs:α->List Value)(g:Nat)(pv:Value)(d:Int)(x:c8)(H:Hp)(K:α->c8->Hp->Prop):Prop:=
 ∀(E:Pan)(w0 w:World)(ps:Nat->Prop)(H0:Hp)(Fr:List Frag)(Kw:Value->World->Prop),Inv w0 ps H0 H (bx g 125 (f9 x)::Fr) w->(∀c H' Fo w',Inv w0 ps H0 H' Fo w'->panQE c H' Fo->E c w')->
  (∀e x' H' w',Inv w0 ps H0 H' (bx g 125 (f9 x')::Fr) w'->Hle H H'->K e x' H'->Kw (.agg (cs e).toArray) w')->opK Tryz.prog E (xCall pv [vi d]) w Kw
theorem Res.use{α β:Type}{H:Hp}{x:c8}{R:Hp->α->β->Prop}{p:PM β}{r:List Tok}{o:Except Flt (β×List Tok)}(ho:p r=o)(hq:∀c pl,o=.error (c,pl)->PanQ.q (fltV c pl)):Res H x R (p r) (λv x' H'=>∃b r',o=.ok (b,r')/\R H' v b/\Rd H' x' r'/\x'.fl=x.fl/\Hle H H'):=by
 rw [ho]
 cases o with
 | error y=>exact hq _ _ rfl
 | ok y=>exact λH' v x' l ra rd e=>⟨_,_,rfl,ra,rd,e,l⟩
theorem Res.next{α β γ:Type}{H H':Hp}{x x':c8}{R:Hp->α->β->Prop}{o:Except Flt (β×List Tok)}{K:α->c8->Hp->Prop}(l:Hle H H')(e:x'.fl=x.fl)(h:Res H x R o K):Res H' x' R o K:=by
 cases o with
 | error y=>exact h
 | ok y=>exact λH2 v x2 l2 ra rd e2=>h H2 v x2 (l.trans l2) ra rd (e2.trans e)
omit [PanQ] in
theorem X1{α β:Type}{p:PM α}{f:α->PM β}{r:List Tok}{y:Flt}(h:p r=.error y):bindP p f r=.error y:=by unfold bindP;rw [h]
omit [PanQ] in
theorem a5i{α β:Type}{p:PM α}{f:α->PM β}{r r':List Tok}{a:α}(h:p r=.ok (a,r')):bindP p f r=f a r':=by unfold bindP;rw [h]
theorem c7A{g:Nat}{d:Int}{sg:a3S}{ss:List BA}{ks:List Int}{part:PM PT}{H:Hp}{x:c8}{r:List Tok}{K:l9->c8->Hp->Prop}
  (hp:∀{H:Hp}{x:c8}{r:List Tok}{K:l9->c8->Hp->Prop},Rd H x r->Res H x EH (part r) K->CallV g9 g sg.fpart d x H K) (hsh:SShr part)
  (hs:SlH H 1 v7 sg.fsigns ss) (hk:SlH H 1 K4 sg.fkinds ks) (hl:ss.length=ks.length) (hb:ss.length<=100) (h9:∀k∈ks,k≠0) (h:Rd H x r) (k:Res H x EH (chainP (whG ss ks) part r) K):
  Ct Tryz.prog 136 [rQ g,vi d,.agg (a0y sg).toArray] H [bx g 125 (f9 x)] (λv H' Fo=>∃(e:l9)(x':c8),v=.agg (g9 e).toArray/\Fo=[bx g 125 (f9 x')]/\K e x' H') panQE:=by
 refine Ct.ofE λw0 w ps0 H0 R E I hR hE=>d9m ?_
 unfold e3X
 refine D3 I (cs:=a0y sg) rfl λgs w1 I1 _=>r8 I1 zeroValue112 (cs:=[vi 0,vi 0,.string ⟨#[]⟩,.slice none 0 0]) rfl λgr w2 I2 _=>c7 c1f (d7 (l1 isAgg176 (I2.bring 1) rfl) ?_)
 generalize ho:chainP (whG ss ks) part r=o at k
 unfold chainP at ho
 have hq:∀c pl,part r=.error (c,pl)->PanQ.q (fltV c pl):=λc pl e=>by
  rw [X1 e] at ho;subst ho;exact k
 refine hp h (Res.use rfl hq) E w0 w2 ps0 H0 _ _ (I2.bring 2) hE λe x1 H1 w3 I3 lA q=>?_
 obtain ⟨a,r1,ea,ra,rd,el,_⟩:=q
 rw [a5i ea] at ho
 refine r8 I3 zeroValue112 (cs:=[vi 0,vi 0,.string ⟨#[]⟩,.slice none 0 0]) rfl λgb w4 I4 _=>H9 I4 sizeOf112 (vs:=g9 e) (cs':=g9 e) rfl rfl (nb rfl) rfl rfl λw5 I5 _=>?_
 have hj1:∀(H:Hp)(w:World)(e z:l9)(x':c8),Inv w0 ps0 H0 H [bx gb 112 (g9 e),bx g 125 (f9 x'),bx gr 112 (g9 z),bx gs 228 (a0y sg)] w->K e x' H->c3R (rQ gr) (rQ gb) w R E:=by
  intro H w e z x' I h
  unfold c3R
  intro _
  refine d7 (lW isAgg112 sizeOf112 rfl I) (H9 (I.bring 2) sizeOf112 (vs:=g9 e) (cs':=g9 e) rfl rfl (nb rfl) rfl rfl λ_ v _=>?_)
  exact a3g isAgg112 sizeOf112 rfl (v.at1 (o:=0) (vs:=g9 e) (nb rfl) rfl) (hR _ H _ _ (v.drop.drop.bring 1).drop ⟨e,x',rfl,rfl,h⟩)
 refine u7 λj1 hx1=>d7 (lW isAgg228 sizeOf228 rfl (I5.bring 3)) ?_
 have hw:∀{H':Hp}{x':c8}{r':List Tok},Hle H H'->Rd H' x' r'->a3Z x' sg H' (λv x2 H2=>H2=H'/\v=whG ss ks r'/\∃r2,Rd H' x2 r2/\x2.fl=x'.fl/\r2=(if v=0 then r' else r'.tail)):=λ{H' x' r'} l rd=>
  d6s rd (hs.le l) (hk.le l) hl hb h9 (λn x2 r2 e2=>⟨rfl,rfl,_,r2,e2,by rw [if_neg n]⟩) λz=>⟨rfl,z.symm,_,rd,rfl,by rw [if_pos rfl]⟩
 refine f7 call169 (hw lA rd g) (I5.bring 1) ?_
 rintro _ H2 _ w6 I6 _ _ ⟨k8,x2,rfl,rfl,rfl,rfl,r2,rd2,el2,er2⟩
 have st:if whG ss ks r1=0 then o=.ok (a,r2) else ∃n,r2.length<=n/\bindP part (λb=>chainF (whG ss ks) part n (eX (whG ss ks r1) 0 ⟨#[]⟩ [a,b])) r2=o:=by
  by_cases c:whG ss ks r1=0
  ·rw [if_pos c]
   rw [if_pos c] at er2
   rw [er2,← ho]
   cases r1 with
   | nil=>rfl
   | cons t r1=>show (chainF _ _ (r1.length+1) _ _)=_;unfold chainF;rw [if_pos c]
  ·rw [if_neg c]
   rw [if_neg c] at er2
   cases r1 with
   | nil=>exact absurd rd.wf id
   | cons t r1=>
    refine ⟨r1.length,by rw [er2];exact Nat.le_refl _,?_⟩
    rw [←ho,er2]
    show _=(chainF _ _ (r1.length+1) _ _)
    conv=>rhs;unfold chainF
    rw [if_neg c]
 refine G6 (J:=λm l w=>∃(k8:Int)(e z:l9)(x':c8)(H':Hp)(a:PT)(r':List Tok),m=r'.length/\l=[vi k8]/\Inv w0 ps0 H0 H' [bx gb 112 (g9 e),bx g 125 (f9 x'),bx gr 112 (g9 z),bx gs 228 (a0y sg)] w/\Hle H H'/\EH H' e a/\Rd H' x' r'/\x'.fl=x.fl/\
  (if k8=0 then o=.ok (a,r') else ∃n,r'.length<=n/\bindP part (λb=>chainF (whG ss ks) part n (eX k8 0 ⟨#[]⟩ [a,b])) r'=o)) ⟨_,_,e,⟨0,0,⟨#[]⟩,Sl.mk none 0 0⟩,x2,H2,a,r2,rfl,rfl,I6.bring 1,lA,ra,rd2,el2.trans el,st⟩ ?_
 rintro m τ w next ⟨k8,e,z,x',H',a,r',rfl,hl8,I,l,ra,rd,el',st⟩ hn
 simp only [List.map_cons,List.map_nil,List.cons.injEq,and_true] at hl8
 simp only [hl8]
 unfold c9o
 refine c7 (O4 _ _ _ _ _ _) (b0R (λc=>?_) (λc=>?_))
 ·rw [if_neg c] at st
  obtain ⟨n,hn1,st⟩:=st
  refine L6 I λw7 I7=>g8 c1f (s7 (lW isAgg112 sizeOf112 rfl I7) ?_)
  refine s7 (l1 isAgg176 (I7.bring 3) rfl) ?_
  have hq:∀c pl,part r'=.error (c,pl)->PanQ.q (fltV c pl):=λc pl e=>by
   rw [X1 e] at st;subst st;exact k
  refine hp rd (Res.use rfl hq) E w0 w7 ps0 H0 _ _ (I7.bring 1) hE λe2 x3 H3 w8 I8 l3 q=>?_
  obtain ⟨b,r3,eb,rb,rd3,el3,_⟩:=q
  rw [a5i eb] at st
  have hlt:=hsh _ _ _ eb
  refine ⟨(I8.bring 1).hp1.trans I7.hp1.symm,?_⟩
  refine O0 (e:=112) (c:=g9) (xs:=[e,e2]) I8 (c8R _ _ _ _ _ _ _ _ _ _ _ _) rfl rfl a0j a0k (nb rfl) λs F w9 hr I9 _=>?_
  obtain ⟨H4,I10,l4,hs4,hc4⟩:=Inv.freezeC I9 hr (by decide)
  refine g8 (b6W _ _ _ _) (H9 (I10.bring 1) sizeOf112 (vs:=[vi k8,vi 0,.string ⟨#[]⟩,vs s]) (cs':=[vi k8,vi 0,.string ⟨#[]⟩,vs s]) rfl rfl (nb rfl) rfl rfl λw11 I11 _=>?_)
  refine d7 (lW isAgg228 sizeOf228 rfl (I11.bring 3)) ?_
  have l5:Hle H H4:=(l.trans l3).trans l4
  refine f7 call169 (hw l5 (rd3.le l4) g) (I11.bring 1) ?_
  rintro _ H5 _ w12 I12 _ _ ⟨k9,x4,rfl,rfl,rfl,rfl,r4,rd4,el4,er4⟩
  have hr4:r4.length<=r3.length:=by rw [er4];split<;>simp
  refine hn _ _ _ (show r4.length < r'.length by omega) ⟨_,⟨k8,0,⟨#[]⟩,s⟩,z,x4,H5,eX k8 0 ⟨#[]⟩ [a,b],r4,rfl,rfl,I12.bring 1,l5,EH2 hs4 (ra.le (l3.trans l4)) (rb.le l4) _ _ _,rd4,(el4.trans el3).trans el',?_⟩
  obtain ⟨n,rfl⟩:∃m,n=m+1:=⟨n-1,by omega⟩
  unfold chainF at st
  by_cases c9:whG ss ks r3=0
  ·rw [if_pos c9] at st er4
   rw [if_pos c9,er4,← st]
  ·rw [if_neg c9] at st er4
   rw [if_neg c9]
   refine ⟨n,?_,by rw [er4];exact st⟩
   rw [er4,List.length_tail]
   omega
 ·have c':k8=0:=c
  rw [if_pos c'] at st
  subst st
  exact hx1 _ _ (hj1 H' _ e z x' I (k H' e x' l ra rd el'))
end
section
theorem e1e(aa:Int)(Y2:Int)(a0_2a:Option Addr)(a0_2n a0_2c:Nat)(a0_3a:Option Addr)(a0_3n a0_3c:Nat)(ab:Int)(ad:Int)(a1_2a:Option Addr)(a1_2n a1_2c:Nat)(a1_3a:Option Addr)(a1_3n a1_3c:Nat)(w:World):(Instr.buildSlice 53 2 #[(0,(Value.agg #[(Value.int .i64 aa),(Value.int .i64 Y2),(Value.slice a0_2a a0_2n a0_2c),(Value.slice a0_3a a0_3n a0_3c)])),(1,(Value.agg #[(Value.int .i64 ab),(Value.int .i64 ad),(Value.slice a1_2a a1_2n a1_2c),(Value.slice a1_3a a1_3n a1_3c)]))]).run Tryz.prog w=.ok (.slice (some ⟨w.heap.size,0,none⟩) 2 2) (w.alloc (.cells [(Value.int .i64 aa),(Value.int .i64 Y2),(Value.slice a0_2a a0_2n a0_2c),(Value.slice a0_3a a0_3n a0_3c),(Value.int .i64 ab),(Value.int .i64 ad),(Value.slice a1_2a a1_2n a1_2c),(Value.slice a1_3a a1_3n a1_3c)].toArray 115)):=by kernel_rfl
variable  [PanQ]
theorem d4F{g:Nat}{d:Int}{x:c8}{H:Hp}{K:l9->c8->Hp->Prop}(h:W0 x d H K):CallV g9 g (.func (.func 170) #[rQ g] #[]) d x H K:=by
 intro E w0 w ps H0 Fr Kw I hE hq
 refine b8N (args:=[vi d]) (λargs w=>call170 args w) (a1y (Fi:=[bx g 125 (f9 x)]) (Fr:=Fr) I (h g) (λv H' Fo w' I' l k q=>?_) (panE hE))
 obtain ⟨e,y,rfl,rfl,hK⟩:=q
 exact hq _ _ _ _ I' l hK
theorem e1f{d:Int}{f:PM PT}(hf:∀{H:Hp}{x:c8}{r:List Tok}{K:l9->c8->Hp->Prop},Rd H x r->Res H x EH (f r) K->W0 x d H K)(hsh:SShr f){H:Hp}{x:c8}{r:List Tok}{K:l9->c8->Hp->Prop}(h:Rd H x r)(k:Res H x EH (chainP (whG sMul kMul) f r) K):a4u x d H K:=by
 intro g
 refine Ct.ofE λw0 w ps0 H0 R E I hR hE=>d9n (r8 I zeroValue112 rfl λgr w1 I1 _=>?_)
 refine O0 (e:=9) (c:=v7) (xs:=sMul) I1 (c0i _ _ _) rfl rfl N6 N7 (nb rfl) λs1 F1 w2 hr1 I2 _=>?_
 obtain ⟨H1,I3,lA,hs1,_⟩:=Inv.freezeC I2 hr1 (by decide)
 refine O0 (e:=3) (c:=K4) (xs:=kMul) I3 (d8C _ _ _) rfl rfl a3k a3l (nb rfl) λs2 F2 w4 hr2 I4 _=>?_
 obtain ⟨H2,I5,lB,hs2,_⟩:=Inv.freezeC I4 hr2 (by decide)
 refine c7 (Q7 _ _ _) (c7 (v:=.agg (a0y ⟨s1,s2,.func (.func 170) #[rQ g] #[]⟩).toArray) (Pu.ok λw=>by kernel_rfl) ?_)
 have l:=lA.trans lB
 refine D8 hE call136 (c7A (sg:=⟨s1,s2,.func (.func 170) #[rQ g] #[]⟩) (part:=f) (r:=r) (K:=K) (λrd q=>d4F (hf rd q)) hsh (hs1.le lB) hs2 rfl (by decide) (by decide) (h.le l) (Res.next (γ:=Unit) l rfl k)) (I5.bring 1) ?_
 rintro _ H3 _ w6 I6 _ _ ⟨e,x',rfl,rfl,hK⟩
 exact H9 (I6.bring 1) sizeOf112 (vs:=g9 e) (cs':=g9 e) rfl rfl (nb rfl) rfl rfl λw7 I7 _=>a3g isAgg112 sizeOf112 rfl (I7.at1 (o:=0) (vs:=g9 e) (nb rfl) rfl) (hR _ H3 _ _ I7.drop ⟨e,x',rfl,rfl,hK⟩)
theorem d4G{g:Nat}{d:Int}{x:c8}{H:Hp}{K:l9->c8->Hp->Prop}(h:a4u x d H K):CallV g9 g (.func (.func 137) #[rQ g] #[]) d x H K:=by
 intro E w0 w ps H0 Fr Kw I hE hq
 refine b8N (args:=[vi d]) (λargs w=>call137 args w) (a1y (Fi:=[bx g 125 (f9 x)]) (Fr:=Fr) I (h g) (λv H' Fo w' I' l k q=>?_) (panE hE))
 obtain ⟨e,y,rfl,rfl,hK⟩:=q
 exact hq _ _ _ _ I' l hK
theorem e1g{d:Int}{f:PM PT}(hf:∀{H:Hp}{x:c8}{r:List Tok}{K:l9->c8->Hp->Prop},Rd H x r->Res H x EH (f r) K->a4u x d H K)(hsh:SShr f){H:Hp}{x:c8}{r:List Tok}{K:l9->c8->Hp->Prop}(h:Rd H x r)(k:Res H x EH (chainP (whG sAdd kAdd) f r) K):V7 x d H K:=by
 intro g
 refine Ct.ofE λw0 w ps0 H0 R E I hR hE=>e3O (r8 I zeroValue112 rfl λgr w1 I1 _=>?_)
 refine O0 (e:=9) (c:=v7) (xs:=sAdd) I1 (b6S _ _) rfl rfl N6 N7 (nb rfl) λs1 F1 w2 hr1 I2 _=>?_
 obtain ⟨H1,I3,lA,hs1,_⟩:=Inv.freezeC I2 hr1 (by decide)
 refine O0 (e:=3) (c:=K4) (xs:=kAdd) I3 (d8x _ _) rfl rfl a3k a3l (nb rfl) λs2 F2 w4 hr2 I4 _=>?_
 obtain ⟨H2,I5,lB,hs2,_⟩:=Inv.freezeC I4 hr2 (by decide)
 refine c7 (Q7 _ _ _) (c7 (v:=.agg (a0y ⟨s1,s2,.func (.func 137) #[rQ g] #[]⟩).toArray) (Pu.ok λw=>by kernel_rfl) ?_)
 have l:=lA.trans lB
 refine D8 hE call136 (c7A (sg:=⟨s1,s2,.func (.func 137) #[rQ g] #[]⟩) (part:=f) (r:=r) (K:=K) (λrd q=>d4G (hf rd q)) hsh (hs1.le lB) hs2 rfl (by decide) (by decide) (h.le l) (Res.next (γ:=Unit) l rfl k)) (I5.bring 1) ?_
 rintro _ H3 _ w6 I6 _ _ ⟨e,x',rfl,rfl,hK⟩
 exact H9 (I6.bring 1) sizeOf112 (vs:=g9 e) (cs':=g9 e) rfl rfl (nb rfl) rfl rfl λw7 I7 _=>a3g isAgg112 sizeOf112 rfl (I7.at1 (o:=0) (vs:=g9 e) (nb rfl) rfl) (hR _ H3 _ _ I7.drop ⟨e,x',rfl,rfl,hK⟩)
theorem d6t{g:Nat}{d:Int}{x:c8}{H:Hp}{K:p5->c8->Hp->Prop}(h:a0G x d H K):CallV l7 g (.func (.func 140) #[rQ g] #[]) d x H K:=by
 intro E w0 w ps H0 Fr Kw I hE hq
 refine b8N (args:=[vi d]) (λargs w=>call140 args w) (a1y (Fi:=[bx g 125 (f9 x)]) (Fr:=Fr) I (h g) (λv H' Fo w' I' l k q=>?_) (panE hE))
 obtain ⟨e,y,rfl,rfl,hK⟩:=q
 exact hq _ _ _ _ I' l hK
theorem c7B{g:Nat}{d k:Int}{sg:BA}{pv:Value}{part:PM PT}{H:Hp}{x:c8}{r:List Tok}{K:p5->c8->Hp->Prop}
  (hp:∀{H':Hp}{x:c8}{r:List Tok}{K:p5->c8->Hp->Prop},Hle H H'->Rd H' x r->Res H' x CH (part r) K->CallV l7 g pv d x H' K) (hsh:SShr part) (h:Rd H x r) (kk:Res H x CH (joinsP sg k part r) K):
  Ct Tryz.prog 139 [rQ g,vi d,.string sg,vi k,pv] H [bx g 125 (f9 x)] (λv H' Fo=>∃(e:p5)(x':c8),v=.agg (l7 e).toArray/\Fo=[bx g 125 (f9 x')]/\K e x' H') panQE:=by
 refine Ct.ofE λw0 w ps0 H0 R E I hR hE=>d9p ?_
 unfold e4a
 refine r8 I zeroValue115 (cs:=[vi 0,vi 0,.slice none 0 0,.slice none 0 0]) rfl λgr w2 I2 _=>?_
 generalize ho:joinsP sg k part r=o at kk
 unfold joinsP at ho
 have hq:∀c pl,part r=.error (c,pl)->PanQ.q (fltV c pl):=λc pl e=>by
  rw [X1 e] at ho;subst ho;exact kk
 refine hp (Hle.refl _) h (Res.use rfl hq) E w0 w2 ps0 H0 _ _ (I2.bring 1) hE λe x1 H1 w3 I3 lA q=>?_
 obtain ⟨a,r1,ea,ra,rd,el,_⟩:=q
 rw [a5i ea] at ho
 refine r8 I3 zeroValue115 (cs:=[vi 0,vi 0,.slice none 0 0,.slice none 0 0]) rfl λgb w4 I4 _=>H9 I4 sizeOf115 (vs:=l7 e) (cs':=l7 e) rfl rfl (nb rfl) rfl rfl λw5 I5 _=>?_
 have hj1:∀(H:Hp)(w:World)(e z:p5)(x':c8),Inv w0 ps0 H0 H [bx gb 115 (l7 e),bx g 125 (f9 x'),bx gr 115 (l7 z)] w->K e x' H->c3S (rQ gr) (rQ gb) w R E:=by
  intro H w e z x' I h
  unfold c3S
  intro _
  refine d7 (lW isAgg115 sizeOf115 rfl I) (H9 (I.bring 2) sizeOf115 (vs:=l7 e) (cs':=l7 e) rfl rfl (nb rfl) rfl rfl λ_ v _=>?_)
  exact a3g isAgg115 sizeOf115 rfl (v.at1 (o:=0) (vs:=l7 e) (nb rfl) rfl) (hR _ H _ _ v.drop.drop ⟨e,x',rfl,rfl,h⟩)
 refine u7 λj1 hx1=>?_
 refine G6 (J:=λm l w=>∃(e z:p5)(x':c8)(H':Hp)(a:PT)(r':List Tok),m=r'.length/\l=[]/\Inv w0 ps0 H0 H' [bx gb 115 (l7 e),bx g 125 (f9 x'),bx gr 115 (l7 z)] w/\Hle H H'/\CH H' e a/\Rd H' x' r'/\x'.fl=x.fl/\
  ∃n,r'.length<=n/\joinsF sg k part n a r'=o) ⟨_,e,⟨0,0,Sl.mk none 0 0,Sl.mk none 0 0⟩,x1,H1,a,r1,rfl,rfl,I5,lA,ra,rd,el,_,Nat.le_refl _,ho⟩ ?_
 rintro m τ w next ⟨e,z,x',H',a,r',rfl,_,I,l,ra,rd,el',n,hn1,st⟩ hn
 unfold c9p
 have hm:B6 x' sg H' (λv x2 H2=>H2=H'/\v=isT sg r'/\∃r2,Rd H' x2 r2/\x2.fl=x'.fl/\r2=(if v then r'.tail else r')):=
  a5A rd (λc x2 r2 e2=>⟨rfl,c.symm,_,r2,e2,rfl⟩) λc=>⟨rfl,c.symm,_,rd,rfl,rfl⟩
 refine f7 call96 (hm g) (I.bring 1) ?_
 rintro _ H2 _ w6 I6 _ _ ⟨b,x2,rfl,rfl,rfl,rfl,r2,rd2,el2,er2⟩
 refine Z5 (λc=>?_) (λc=>?_)
 ·rw [if_pos c] at er2
  have hlt:=a7c (b1O c)
  rw [←er2] at hlt
  obtain ⟨n,rfl⟩:∃m,n=m+1:=⟨n-1,by omega⟩
  unfold joinsF at st
  rw [if_pos c,← er2] at st
  refine L6 I6 λw7 I7=>s7 (lW isAgg115 sizeOf115 rfl (I7.bring 1)) ?_
  have hq:∀c pl,part r2=.error (c,pl)->PanQ.q (fltV c pl):=λc pl e=>by
   rw [X1 e] at st;subst st;exact kk
  refine hp l rd2 (Res.use rfl hq) E w0 w7 ps0 H0 _ _ I7 hE λe2 x3 H3 w8 I8 l3 q=>?_
  obtain ⟨b,r3,eb,rb,rd3,el3,_⟩:=q
  rw [a5i eb] at st
  have hlt2:=hsh _ _ _ eb
  refine ⟨(I8.bring 1).hp1.trans (I7.bring 1).hp1.symm,?_⟩
  refine O0 (e:=115) (c:=l7) (xs:=[e,e2]) I8 (e1e _ _ _ _ _ _ _ _ _ _ _ _ _ _ _ _) rfl rfl a1B a1C (nb rfl) λs F w9 hr I9 _=>?_
  obtain ⟨H4,I10,l4,hs4,hc4⟩:=Inv.freezeC I9 hr (by decide)
  refine g8 (b6V _ _ _ _) (H9 (I10.bring 1) sizeOf115 (vs:=[vi k,vi 0,.slice none 0 0,vs s]) (cs':=[vi k,vi 0,.slice none 0 0,vs s]) rfl rfl (nb rfl) rfl rfl λw11 I11 _=>?_)
  exact hn _ _ _ (show r3.length < r'.length by omega) ⟨⟨k,0,Sl.mk none 0 0,s⟩,z,x3,H4,cX k 0 [] [a,b],r3,rfl,rfl,I11,(l.trans l3).trans l4,CH2 hs4 (ra.le (l3.trans l4)) (rb.le l4) _ _,rd3.le l4,(el3.trans el2).trans el',n,by omega,st⟩
 ·rw [if_neg (by rw [c];decide)] at er2
  have st':o=.ok (a,r'):=by
   cases n with
   | zero=>exact st.symm
   | succ n=>unfold joinsF at st;rw [if_neg (by rw [c];decide)] at st;exact st.symm
  subst st'
  rw [er2] at rd2
  exact hx1 _ _ (hj1 _ _ e z x2 (I6.bring 1) (kk _ e x2 l ra rd2 (el2.trans el')))
theorem e1h{d:Int}{f:PM PT}(hf:∀{H:Hp}{x:c8}{r:List Tok}{K:p5->c8->Hp->Prop},Rd H x r->Res H x CH (f r) K->a0G x d H K)(hsh:SShr f){H:Hp}{x:c8}{r:List Tok}{K:p5->c8->Hp->Prop}(h:Rd H x r)(k:Res H x CH (condOf f r) K):S4 x d H K:=by
 intro g
 refine Ct.ofE λw0 w ps0 H0 R E I hR hE=>e3P (D3 I rfl λga w1 I1 _=>?_)
 refine r8 I1 zeroValue115 rfl λgr w2 I2 _=>c7 (Q7 _ _ _) (d7 (ld1 (v:=rQ g) isAgg91 ((I2.bring 1).at1 (o:=0) (vs:=[rQ g]) (nb rfl) rfl)) ?_)
 obtain ⟨J1,J2,J3⟩:=(I2.bring 1).freeze
 have lA:Hle H (addF H (bx ga 91 [rQ g])):=J2
 have hga:=J3 _ (List.mem_singleton.2 rfl)
 generalize addF H (bx ga 91 [rQ g])=H1 at J1 J2 J3 lA hga
 have hconj:∀{H':Hp}{x:c8}{r:List Tok}{K:p5->c8->Hp->Prop},Hle H1 H'->Rd H' x r->Res H' x CH (conjOf f r) K->CallV l7 g (.func (.func 138) #[] #[rQ ga]) d x H' K:=by
  intro H' x r K l rd q E w0 w ps H0 Fr Kw I hE hq
  have hcell:∀{w:World}{Fs:List Frag},Inv w0 ps H0 H' Fs w->AtW w ga 0 [rQ g]:=λI=>⟨_,_,_,I.sub _ _ (l _ _ hga),by simp,rfl⟩
  refine a1O (cap:=[rQ ga]) (λargs w=>call138 args w) (d9o ?_)
  refine r8 I zeroValue115 rfl λgc w3 I3 _=>d7 (ld1 (v:=rQ g) isAgg91 (hcell I3)) (d7 (ld1 (v:=rQ g) isAgg91 (hcell I3)) ?_)
  refine c7 (Q7 _ _ _) (D8 hE call139 (c7B (part:=f) (r:=r) (K:=K) (λ_ rd q=>d6t (hf rd q)) hsh rd q) (I3.bring 1) ?_)
  rintro _ H3 _ w6 I6 l6 _ ⟨e,x',rfl,rfl,hK⟩
  exact H9 (I6.bring 1) sizeOf115 (vs:=l7 e) (cs':=l7 e) rfl rfl (nb rfl) rfl rfl λw7 I7 _=>a3g isAgg115 sizeOf115 rfl (I7.at1 (o:=0) (vs:=l7 e) (nb rfl) rfl) (hq _ _ _ _ I7.drop l6 hK)
 refine D8 hE call139 (c7B (part:=conjOf f) (r:=r) (K:=K) hconj (b0b hsh) (h.le lA) (Res.next (γ:=Unit) lA rfl k)) (J1.bring 1) ?_
 rintro _ H3 _ w6 I6 _ _ ⟨e,x',rfl,rfl,hK⟩
 exact H9 (I6.bring 1) sizeOf115 (vs:=l7 e) (cs':=l7 e) rfl rfl (nb rfl) rfl rfl λw7 I7 _=>a3g isAgg115 sizeOf115 rfl (I7.at1 (o:=0) (vs:=l7 e) (nb rfl) rfl) (hR _ H3 _ _ I7.drop ⟨e,x',rfl,rfl,hK⟩)
end
section
theorem CH1{H:Hp}{s:Sl}{e:p5}{a:PT}(hs:SlH H 4 l7 s [e])(ha:CH H e a)(k n:Int):CH H (p5.mk k n (Sl.mk none 0 0) s) (cX k n [] [a]):=
 CH.mk (c:=⟨k,n,Sl.mk none 0 0,s⟩) (ts:=[]) (SlH.nil H _ _) (by simp [big]) C4.nil hs (by simp [big]) rfl (C4.one ha).2
theorem CH0{H:Hp}(k n:Int):CH H (p5.mk k n (Sl.mk none 0 0) (Sl.mk none 0 0)) (cX k n [] []):=
 CH.mk (c:=⟨k,n,Sl.mk none 0 0,Sl.mk none 0 0⟩) (ts:=[]) (us:=[]) (SlH.nil H _ _) (by simp [big]) C4.nil (SlH.nil H _ _) (by simp [big]) rfl (λi x t h=>by simp at h)
theorem CHE{H:Hp}{s:Sl}{e e':l9}{a b:PT}(hs:SlH H 4 g9 s [e,e'])(ha:EH H e a)(hb:EH H e' b)(k n:Int):CH H (p5.mk k n s (Sl.mk none 0 0)) (cX k n [a,b] []):=
 CH.mk (c:=⟨k,n,s,Sl.mk none 0 0⟩) (us:=[]) hs (by simp [big]) ((C4.one ha).app (C4.one hb)) (SlH.nil H _ _) (by simp [big]) rfl (λi x t h=>by simp at h)
theorem SHX{H:Hp}{s1 s2 s3 s4:Sl}{es:List l9}{cs:List p5}{ts fs:List i6}{a b c d:List PT}(h1:SlH H 4 g9 s1 es)(b1:es.length<=big)(r1:C4 (EH H) es a)(h2:SlH H 4 l7 s2 cs)(b2:cs.length<=big)(r2:C4 (CH H) cs b)
  (h3:SlH H 6 q9 s3 ts) (b3:ts.length<=big) (r3:C4 (SH H) ts c) (h4:SlH H 6 q9 s4 fs) (b4:fs.length<=big) (r4:C4 (SH H) fs d) (k:Int) (nm:BA):SH H (i6.mk k nm s1 s2 s3 s4) (sX k nm a b c d):=
 SH.mk (s:=⟨k,nm,s1,s2,s3,s4⟩) h1 b1 r1 h2 b2 r2 h3 b3 r3.1 r3.2 h4 b4 r4.1 r4.2
theorem c7C{g:Nat}{r:List Tok}(h:factB r=false):factP g r=.error (40,(hd r).fAt):=by
 cases g with
 | zero=>unfold factP deadE;rw [h];rfl
 | succ g=>unfold factP factS;rw [if_pos h];rfl
theorem d6u{g:Nat}{r:List Tok}(h:factB r=false):exprP g r=.error (40,(hd r).fAt):=X1 (X1 (c7C h))
theorem d1D{r:List Tok}(h:factB r=true):exprP 0 r=.error (41,(hd r).fAt):=X1 (X1 (show deadE factB r=_ by unfold deadE;rw [h];rfl))
theorem d0a{g:Nat}{r:List Tok}(h:litB r=false):litP g r=.error (40,(hd r).fAt):=by
 cases g with
 | zero=>unfold litP deadE;rw [h];rfl
 | succ g=>unfold litP litS;rw [if_pos h];rfl
theorem c4Y{r:List Tok}(h:litB r=true):litP 0 r=.error (41,(hd r).fAt):=by unfold litP deadE;rw [h];rfl
theorem d6v{g:Nat}{r:List Tok}(h:litB r=false):condP g r=.error (40,(hd r).fAt):=X1 (X1 (d0a h))
theorem d1E{r:List Tok}(h:litB r=true):condP 0 r=.error (41,(hd r).fAt):=X1 (X1 (c4Y h))
theorem d6w{g:Nat}{r:List Tok}(h:stmtB r=false):stmtP g r=.error (40,(hd r).fAt):=by
 cases g with
 | zero=>unfold stmtP deadE;rw [h];rfl
 | succ g=>unfold stmtP stmtS;rw [if_pos h];rfl
theorem d1F{r:List Tok}(h:stmtB r=true):stmtP 0 r=.error (41,(hd r).fAt):=by unfold stmtP deadE;rw [h];rfl
theorem d6x{r:List Tok}(h:factB r=true):(hd r).d9≠5:=λe=>by
 unfold factB isT at h;rw [e] at h;cases h
theorem d6y{r:List Tok}(h:stmtB r=true):(hd r).d9≠5:=λe=>by
 unfold stmtB isT at h;rw [e] at h;cases h
theorem Rd.big{H:Hp}{x:c8}{r:List Tok}(h:Rd H x r):r.length<=1099511627776:=by
 obtain ⟨ts,n,_,b,_,d,_⟩:=h
 rw [←d,List.length_drop]
 simp only [Go.Proofs.YthjlehnccgjpoaaGreatDoor.big] at b
 omega
theorem c0K{d:Int}(h0:0<=d)(h1:d<=40):IntKind.wrap .i64 (d+1)=d+1:=S3 ⟨by omega,by omega⟩
variable  [PanQ]
theorem Res.bind{α β γ δ:Type}{H:Hp}{x:c8}{R:Hp->α->β->Prop}{R2:Hp->γ->δ->Prop}{p:PM β}{f:β->PM δ}{r:List Tok}{K:γ->c8->Hp->Prop}{K1:α->c8->Hp->Prop}(k:Res H x R2 (bindP p f r) K)
  (h:∀b r' H' v x',p r=.ok (b,r')->Hle H H'->R H' v b->Rd H' x' r'->x'.fl=x.fl->Res H' x' R2 (f b r') K->K1 v x' H'):Res H x R (p r) K1:=by
 cases hp:p r with
 | error y=>rw [X1 hp] at k;exact k
 | ok y=>
  obtain ⟨b,r'⟩:=y
  rw [a5i hp] at k
  exact λH' v x' l ra rd e=>h b r' H' v x' hp l ra rd e (Res.next (γ:=Unit) l e k)
theorem a6g{γ δ:Type}{H:Hp}{x:c8}{R2:Hp->γ->δ->Prop}{s:BA}{f:Unit->PM δ}{r:List Tok}{K:γ->c8->Hp->Prop}{K1:c8->Hp->Prop}(h:Rd H x r)(k:Res H x R2 (bindP (mustP s) f r) K)
  (h1:∀r' H' x',Hle H H'->Rd H' x' r'->x'.fl=x.fl->Res H' x' R2 (f () r') K->K1 x' H'):K5 x s H K1:=
 e1c h (Res.bind k λ_ r' H' _ x' _ l _ rd e kk=>h1 r' H' x' l rd e kk)
def FactOK(g:Nat)(d:Int):Prop:=∀⦃H:Hp⦄ ⦃x:c8⦄ ⦃r:List Tok⦄ ⦃K:l9->c8->Hp->Prop⦄,Rd H x r->Res H x EH (factP g r) K->W0 x d H K
def ExprOK(g:Nat)(d:Int):Prop:=∀⦃H:Hp⦄ ⦃x:c8⦄ ⦃r:List Tok⦄ ⦃K:l9->c8->Hp->Prop⦄,Rd H x r->Res H x EH (exprP g r) K->V7 x d H K
def LitOK(g:Nat)(d:Int):Prop:=∀⦃H:Hp⦄ ⦃x:c8⦄ ⦃r:List Tok⦄ ⦃K:p5->c8->Hp->Prop⦄,Rd H x r->Res H x CH (litP g r) K->a0G x d H K
def CondOK(g:Nat)(d:Int):Prop:=∀⦃H:Hp⦄ ⦃x:c8⦄ ⦃r:List Tok⦄ ⦃K:p5->c8->Hp->Prop⦄,Rd H x r->Res H x CH (condP g r) K->S4 x d H K
def StmtOK(g:Nat)(d:Int):Prop:=∀⦃H:Hp⦄ ⦃x:c8⦄ ⦃r:List Tok⦄ ⦃K:i6->c8->Hp->Prop⦄,Rd H x r->stmtB r=true->Res H x SH (stmtP g r) K->a0l x d H K
theorem FactOK.expr{g:Nat}{d:Int}(h:FactOK g d):ExprOK g d:=λ_ _ _ _ rd k=>e1g (λrd k=>e1f (λrd k=>h rd k) (b0Y g) rd k) (b0a (b0Y g)) rd k
theorem LitOK.cond{g:Nat}{d:Int}(h:LitOK g d):CondOK g d:=λ_ _ _ _ rd k=>e1h (λrd k=>h rd k) (b5R g) rd k
section
variable {g:Nat}{d:Int}{H:Hp}{x:c8}{r:List Tok}
theorem d6z(hg:d+g=40)(ih:∀g',g=g'+1->FactOK (g'+1) (d+1))(h:Rd H x r){K:l9->c8->Hp->Prop}(k:Res H x EH (factP g r) K):N1 x H (λa b=>L1 x (d+1) a b (λc=>W0 x (d+1) c K)):=by
 refine b8M h (b5U h (λc=>?_) (λc c2=>?_) λc c2=>?_)
 ·rw [c7C c] at k;exact k
 ·obtain rfl:g=0:=by omega
  unfold factP deadE at k
  rw [if_pos c] at k;exact k
 ·obtain ⟨g',rfl⟩:∃g',g=g'+1:=⟨g-1,by omega⟩
  exact ih g' rfl h k
theorem c2b(hg:d+g=40)(h0:0<=d)(ih:∀g',g=g'+1->FactOK (g'+1) (d+1))(h:Rd H x r){s:BA}{γ δ:Type}{R2:Hp->γ->δ->Prop}{f:PT->PM δ}{K:γ->c8->Hp->Prop}{K1:l9->c8->Hp->Prop}
  (k:Res H x R2 (bindP (exprP g) (λe=>bindP (mustP s) λ_=>f e) r) K) (h1:∀b r' H' v x',Hle H H'->EH H' v b->Rd H' x' r'->x'.fl=x.fl->Res H' x' R2 (f b r') K->K1 v x' H'):Z2 x d s H K1:=by
 refine b3v _ _ _ ?_
 unfold a7l
 rw [c0K h0 (by omega)]
 refine b8M h (b5U h (λc=>?_) (λc c2=>?_) λc c2=>?_)
 ·rw [X1 (d6u c)] at k;exact k
 ·obtain rfl:g=0:=by omega
  rw [X1 (d1D c)] at k;exact k
 ·obtain ⟨g',rfl⟩:∃g',g=g'+1:=⟨g-1,by omega⟩
  refine (ih g' rfl).expr h (Res.bind k λb r' H' v x' _ l ra rd e kk=>?_)
  exact a6g rd kk λr2 H2 x2 l2 rd2 e2 k2=>h1 b r2 H2 v x2 (l.trans l2) (ra.le l2) rd2 (e2.trans e) k2
theorem c4Z(hg:d+g=40)(h0:0<=d)(ih:∀g',g=g'+1->FactOK (g'+1) (d+1)):FactOK (g+1) d:=by
 intro H x r K h k
 refine b3N _ _ ?_
 unfold a8e
 rw [c0K h0 (by omega)]
 replace k:Res H x EH (factS (factP g) r) K:=k
 unfold factS at k
 refine b8M h ⟨λc=>?_,λc=>?_⟩
 ·rw [if_pos (by simpa using c)] at k;exact b0c h k
 have c':factB r=true:=by simpa using c
 rw [if_neg (by rw [c'];decide)] at k
 refine a5A h (λc1 x1 h1 e1=>⟨λ_=>?_,λq=>(by cases q)⟩) λc1=>⟨λq=>(by cases q),λ_=>?_⟩
 ·rw [if_pos c1] at k
  refine d6z hg ih h1 (Res.bind (Res.next (γ:=Unit) (Hle.refl _) e1 k) λb r' H' v x' _ l ra rd e kk=>?_)
  intro s H2 l2 hs _
  exact kk H2 _ x' l2 (EH1 hs (ra.le l2) _ _ _) (rd.le l2) rfl
 rw [if_neg (by rw [c1];decide)] at k
 refine a5A h (λc1 x1 h1 e1=>⟨λ_=>?_,λq=>(by cases q)⟩) λc1=>⟨λq=>(by cases q),λ_=>?_⟩
 ·rw [if_pos c1] at k
  exact c2b hg h0 ih h1 (Res.next (γ:=Unit) (Hle.refl _) e1 k) λb r' H' v x' l ra rd e kk=>kk H' v x' (Hle.refl _) ra rd rfl
 rw [if_neg (by rw [c1];decide)] at k
 refine a5A h (λc1 x1 h1 e1=>⟨λ_=>?_,λq=>(by cases q)⟩) λc1=>⟨λq=>(by cases q),λ_=>?_⟩
 ·rw [if_pos c1] at k
  exact k H _ x1 (Hle.refl _) (EH0 _ _ _) h1 e1
 rw [if_neg (by rw [c1];decide)] at k
 unfold a0O
 refine c0J h (λq=>absurd q (d6x c')) λ_ x1 h1 e1=>⟨λc2=>?_,λc2=>?_⟩
 ·rw [if_pos c2] at k
  exact k H _ x1 (Hle.refl _) (EH0 _ _ _) h1 e1
 rw [if_neg c2] at k
 refine a5A h1 (λc3 x2 h2 e2=>⟨λq=>(by cases q),λ_=>?_⟩) λc3=>⟨λ_=>?_,λq=>(by cases q)⟩
 ·rw [if_pos c3] at k
  refine c2b hg h0 ih h2 (Res.next (γ:=Unit) (Hle.refl _) (e2.trans e1) k) λb r' H' v x' l ra rd e kk=>?_
  intro s H3 l3 hs _
  exact kk H3 _ x' l3 (EH1 hs (ra.le l3) _ _ _) (rd.le l3) rfl
 ·rw [if_neg (by rw [c3];decide)] at k
  exact k H _ x1 (Hle.refl _) (EH0 _ _ _) h1 e1
end
theorem factOK:∀(g:Nat){d:Int},d+g=40->0<=d->FactOK (g+1) d
 | 0,d,hg,h0=>c4Z hg h0 λg' e=>by omega
 | g+1,d,hg,h0=>c4Z hg h0 λg' e=>by
  obtain rfl:g=g':=by omega
  exact factOK g (by omega) (by omega)
section
variable {g:Nat}{d:Int}{H:Hp}{x:c8}{r:List Tok}
theorem e5y(h:Rd H x r){K:Int->c8->Hp->Prop}(k:Res H x (λ_ v b=>v=b) (relP r) K):a2o x H K:=by
 refine b1x _ ?_
 unfold a6b
 unfold relP at k
 have hit:∀i:Int,i≠0->relR r=i->∀x',Rd H x' r.tail->x'.fl=x.fl->K i x' H:=λi hi e x' h' e'=>by
  rw [e,if_neg hi] at k;exact k H i x' (Hle.refl _) rfl h' e'
 refine P7 (λ(z:Int×c8) H'=>H'=H/\∃i:Nat,z=((i:Int),x)/\i<=7/\whG ([⟨#[60]⟩,⟨#[60,61]⟩,⟨#[61,61]⟩,⟨#[33,61]⟩,⟨#[62]⟩,⟨#[62,61]⟩].drop (i-1)) ([1,2,3,4,5,6].drop (i-1)) r=relR r) (λz=>(7-z.1).toNat) ⟨rfl,0,rfl,by omega,rfl⟩ ?_
 rintro z H1 next ⟨rfl,i,rfl,hi,he⟩ hn
 unfold a5a
 refine ⟨λc=>⟨by omega,c,?_⟩,λc=>?_⟩
 ·rw [S3 (a:=(i:Int)+1) ⟨by omega,by omega⟩]
  have go:whG ([⟨#[60]⟩,⟨#[60,61]⟩,⟨#[61,61]⟩,⟨#[33,61]⟩,⟨#[62]⟩,⟨#[62,61]⟩].drop i) ([1,2,3,4,5,6].drop i) r=relR r->next ((i:Int)+1,x) H1:=λe=>hn _ _ ⟨rfl,i+1,by rw [Int.natCast_add];rfl,by omega,e⟩ (by dsimp only;omega)
  by_cases h0:i=0
  ·subst h0
   exact ⟨λq=>(by simp at q),λ_=>⟨λq=>(by simp at q),λ_=>go he⟩⟩
  ·have hp:decide ((0:Int) < (i:Int))=true:=decide_eq_true (by omega)
   refine ⟨λ_=>?_,λq=>absurd hp q⟩
   rw [Int.toNat_natCast,hp]
   obtain ⟨s,n,e1,e2,e3⟩:∃(s:BA)(n:Int),n=(i:Int)/\([⟨#[]⟩,⟨#[60]⟩,⟨#[60,61]⟩,⟨#[61,61]⟩,⟨#[33,61]⟩,⟨#[62]⟩,⟨#[62,61]⟩]:List BA).getD i ⟨#[]⟩=s/\relR r=if isT s r then n else whG ([⟨#[60]⟩,⟨#[60,61]⟩,⟨#[61,61]⟩,⟨#[33,61]⟩,⟨#[62]⟩,⟨#[62,61]⟩].drop i) ([1,2,3,4,5,6].drop i) r:=by
    rw [←he]
    rcases (by omega:i=1\/i=2\/i=3\/i=4\/i=5\/i=6) with rfl | rfl | rfl | rfl | rfl | rfl<;>exact ⟨_,_,rfl,rfl,rfl⟩
   rw [e2]
   refine a5A h (λc1 x' h' e'=>⟨λ_=>?_,λq=>(by simp at q)⟩) λc1=>⟨λq=>(by simp at q),λ_=>?_⟩
   ·rw [if_pos c1,e1] at e3
    exact hit _ (by omega) e3 x' h' e'
   ·rw [if_neg (by rw [c1];decide)] at e3
    exact go e3.symm
 ·obtain rfl:i=7:=by omega
  have:relR r=0:=he.symm
  rw [if_pos this] at k
  exact b0c h k
theorem c7D(hg:d+g=40)(h0:0<=d)(hx:ExprOK (g+1) d)(ih:∀g',g=g'+1->LitOK (g'+1) (d+1)):LitOK (g+1) d:=by
 intro H x r K h k
 refine b4G _ _ ?_
 unfold a8E
 rw [c0K h0 (by omega)]
 replace k:Res H x CH (litS (litP g) (exprP (g+1)) r) K:=k
 unfold litS at k
 refine c4s h ⟨λc=>?_,λc=>?_⟩
 ·rw [if_pos (by simpa using c)] at k;exact b0c h k
 have c':litB r=true:=by simpa using c
 rw [if_neg (by rw [c'];decide)] at k
 refine a5A h (λc1 x1 h1 e1=>⟨λ_=>?_,λq=>(by cases q)⟩) λc1=>⟨λq=>(by cases q),λ_=>?_⟩
 ·rw [if_pos c1] at k
  exact k H _ x1 (Hle.refl _) (CH0 _ _) h1 e1
 rw [if_neg (by rw [c1];decide)] at k
 refine a5A h (λc1 x1 h1 e1=>⟨λ_=>?_,λq=>(by cases q)⟩) λc1=>⟨λq=>(by cases q),λ_=>?_⟩
 ·rw [if_pos c1] at k
  exact k H _ x1 (Hle.refl _) (CH0 _ _) h1 e1
 rw [if_neg (by rw [c1];decide)] at k
 refine a5A h (λc1 x1 h1 e1=>⟨λ_=>?_,λq=>(by cases q)⟩) λc1=>⟨λq=>(by cases q),λ_=>?_⟩
 ·rw [if_pos c1] at k
  replace k:=Res.next (γ:=Unit) (Hle.refl _) e1 k
  refine c4s h1 (b5U h1 (λc2=>?_) (λc2 c3=>?_) λc2 c3=>?_)
  ·rw [X1 (d0a c2)] at k;exact k
  ·obtain rfl:g=0:=by omega
   rw [X1 (c4Y c2)] at k;exact k
  ·obtain ⟨g',rfl⟩:∃g',g=g'+1:=⟨g-1,by omega⟩
   refine ih g' rfl h1 (Res.bind k λb r' H' v x' _ l ra rd e kk=>?_)
   intro s H2 l2 hs _
   exact kk H2 _ x' l2 (CH1 hs (ra.le l2) _ _) (rd.le l2) rfl
 rw [if_neg (by rw [c1];decide)] at k
 refine a5A h (λc1 x1 h1 e1=>⟨λ_=>?_,λq=>(by cases q)⟩) λc1=>⟨λq=>(by cases q),λ_=>?_⟩
 ·rw [if_pos c1] at k
  replace k:Res H x1 CH (bindP (condP g) (λc=>bindP (mustP ⟨#[93]⟩) λ_=>pureP c) r.tail) K:=Res.next (γ:=Unit) (Hle.refl _) e1 k
  refine c4s h1 (b5U h1 (λc2=>?_) (λc2 c3=>?_) λc2 c3=>?_)
  ·rw [X1 (d6v c2)] at k;exact k
  ·obtain rfl:g=0:=by omega
   rw [X1 (d1E c2)] at k;exact k
  ·obtain ⟨g',rfl⟩:∃g',g=g'+1:=⟨g-1,by omega⟩
   refine (ih g' rfl).cond h1 (Res.bind k λb r' H' v x' _ l ra rd e kk=>?_)
   exact a6g rd kk λr2 H2 x2 l2 rd2 e2 k2=>k2 H2 v x2 (Hle.refl _) (ra.le l2) rd2 rfl
 rw [if_neg (by rw [c1];decide)] at k
 unfold a1f
 refine hx h (Res.bind k λa r1 H1 v1 x1 _ l1' ra rd1 e1 k1=>?_)
 refine e5y rd1 (Res.bind k1 λop r2 H2 v2 x2 _ l2 q2 rd2 e2 k2=>?_)
 subst q2
 refine hx rd2 (Res.bind k2 λb r3 H3 v3 x3 _ l3 rb rd3 e3 k3=>?_)
 intro s H4 l4 hs _
 exact k3 H4 _ x3 l4 (CHE hs (ra.le ((l2.trans l3).trans l4)) (rb.le l4) _ _) (rd3.le l4) rfl
end
theorem litOK:∀(g:Nat){d:Int},d+g=40->0<=d->LitOK (g+1) d
 | 0,d,hg,h0=>c7D hg h0 (factOK 0 hg h0).expr λg' e=>by omega
 | g+1,d,hg,h0=>c7D hg h0 (factOK (g+1) hg h0).expr λg' e=>by
  obtain rfl:g=g':=by omega
  exact litOK g (by omega) (by omega)
end
section
theorem C4.snoc{α β:Type}{R:α->β->Prop}{xs:List α}{ys:List β}{x:α}{y:β}(h:C4 R xs ys)(r:R x y):C4 R (xs++[x]) (ys++[y]):=h.app (C4.one r)
theorem b1P{α β γ:Type}{p:PM α}{f:α->PM β}{h:β->PM γ}{r:List Tok}:bindP (bindP p f) h r=bindP p (λa=>bindP (f a) h) r:=by
 unfold bindP
 cases p r<;>rfl
theorem b9X{α β:Type}{p q:PM α}{f:α->PM β}{r r':List Tok}(h:p r=q r'):bindP p f r=bindP q f r':=by
 unfold bindP;rw [h]
variable  [PanQ]
omit [PanQ] in
theorem c3r{st:PM PT}{stop:List Tok->Bool}{n:Nat}{l:List PT}{r:List Tok}(h:stop r=false):stmtsF stop st (n+1) l r=bindP st (λs=>stmtsF stop st n (l++[s])) r:=by
 conv=>lhs;unfold stmtsF
 rw [if_neg (by rw [h];decide)]
section
variable {g:Nat}{d:Int}{H:Hp}{x:c8}{r:List Tok}
theorem c7E(hg:d+g=40)(ih:∀g',g=g'+1->StmtOK (g'+1) (d+1))(h:Rd H x r){K:i6->c8->Hp->Prop}(k:Res H x SH (stmtP g r) K):U2 x H (λa b=>L1 x (d+1) a b (λc=>a0l x (d+1) c K)):=by
 refine d6r h (b5U h (λc=>?_) (λc c2=>?_) λc c2=>?_)
 ·rw [d6w c] at k;exact k
 ·obtain rfl:g=0:=by omega
  rw [d1F c] at k;exact k
 ·obtain ⟨g',rfl⟩:∃g',g=g'+1:=⟨g-1,by omega⟩
  exact ih g' rfl h c k
theorem c2c(hg:d+g=40)(h0:0<=d)(ih:∀g',g=g'+1->StmtOK (g'+1) (d+1))(h:Rd H x r){γ δ:Type}{R2:Hp->γ->δ->Prop}{f:List PT->PM δ}{K:γ->c8->Hp->Prop}{K1:Sl->c8->Hp->Prop}
  (k:Res H x R2 (bindP (blockOf (stmtP g)) f r) K) (h1:∀b r' H' s ss x',Hle H H'->SlH H' 6 q9 s ss->ss.length<=big->C4 (SH H') ss b->Rd H' x' r'->x'.fl=x.fl->Res H' x' R2 (f b r') K->K1 s x' H'):Z3 x d H K1:=by
 refine b3w _ _ ?_
 unfold a7m
 have e0:bindP (blockOf (stmtP g)) f r=bindP (mustP ⟨#[123]⟩) (λ_=>bindP (λr=>stmtsF (isT ⟨#[125]⟩) (stmtP g) r.length [] r) λl r=>f l r.tail) r:=by
  unfold blockOf
  rw [b1P]
  cases hm:mustP ⟨#[123]⟩ r with
  | error y=>rw [X1 hm,X1 hm]
  | ok y=>
   rw [a5i hm,a5i hm,b1P]
   rfl
 rw [e0] at k
 refine a6g h k λr1 H1 x1 l1' rd1 e1 k1=>?_
 generalize ho:bindP (λr=>stmtsF (isT ⟨#[125]⟩) (stmtP g) r.length [] r) (λl r=>f l r.tail) r1=o at k1
 have hb1:=rd1.big
 refine P7 (λ(z:List i6×c8) H'=>∃(l:List PT)(r':List Tok)(n:Nat),Hle H1 H'/\C4 (SH H') z.1 l/\Rd H' z.2 r'/\z.2.fl=x1.fl/\l.length+r'.length<=r1.length/\r'.length<=n/\bindP (stmtsF (isT ⟨#[125]⟩) (stmtP g) n l) (λl r=>f l r.tail) r'=o) (λz=>((z.2.fl.n:Int)-z.2.fn).toNat) ⟨[],r1,r1.length,Hle.refl _,C4.nil,rd1,rfl,by simp,Nat.le_refl _,ho⟩ ?_
 rintro ⟨zs,x2⟩ H2 next ⟨l,r2,n,l2,rel,rd2,e2,hlen,hn,ho2⟩ hk
 dsimp only at rel rd2 e2
 unfold a2r
 dsimp only
 rw [c0K h0 (by omega)]
 have hz:=rel.1
 refine a5A rd2 (λc x3 rd3 e3=>⟨λq=>(by cases q),λ_=>?_⟩) λc=>⟨λ_=>?_,λq=>(by cases q)⟩
 ·unfold a2q
  intro s H3 l3 hs _
  have:stmtsF (isT ⟨#[125]⟩) (stmtP g) n l r2=.ok (l,r2):=by
   cases n with
   | zero=>rfl
   | succ n=>unfold stmtsF;rw [if_pos c]
  rw [a5i this] at ho2
  subst ho2
  exact h1 l _ H3 s zs x3 ((l1'.trans l2).trans l3) hs (by simp only [big];omega) (rel.mono λ_ _ q=>q.le l3) (rd3.le l3) ((e3.trans e2).trans e1) (Res.next (γ:=Unit) (l2.trans l3) (e3.trans e2) k1)
 ·have hr2:r2.length≠0:=λe=>rd2.wf.ne (List.length_eq_zero_iff.1 e)
  obtain ⟨n,rfl⟩:∃m,n=m+1:=⟨n-1,by omega⟩
  have e4:bindP (stmtsF (isT ⟨#[125]⟩) (stmtP g) (n+1) l) (λl r=>f l r.tail) r2=bindP (stmtP g) (λs=>bindP (stmtsF (isT ⟨#[125]⟩) (stmtP g) n (l++[s])) (λl r=>f l r.tail)) r2:=by
   exact (b9X (c3r c)).trans b1P
  rw [e4] at ho2
  rw [←ho2] at k1
  refine c7E hg ih rd2 (Res.bind (Res.next (γ:=Unit) l2 e2 k1) λb r3 H3 v x3 hb l3 rb rd3 e3 k3=>?_)
  have hlt:=b9O g _ _ _ hb
  have m2:=rd2.len
  have m3:=rd3.len
  refine ⟨by simp;omega,hk _ _ ⟨l++[b],r3,n,l2.trans l3,(rel.mono λ_ _ q=>q.le l3).snoc rb,rd3,e3.trans e2,by simp;omega,by omega,?_⟩ (by dsimp only;omega)⟩
  rw [←ho2,a5i hb]
theorem c0L(h:Rd H x r){kk:Int}{nm:BA}{xs:List l9}{ys:List p5}{es cs:List PT}{p:d6}{q:i6}(hx:C4 (EH H) xs es)(hy:C4 (CH H) ys cs)(lx:xs.length<=100)(ly:ys.length<=100){K:i6->c8->Hp->Prop}(k:Res H x SH (endS (sX kk nm es cs [] []) r) K):Q1 kk nm xs ys (Sl.mk none 0 0) (Sl.mk none 0 0) x p q H K:=by
 refine a6g h k λr1 H1 x1 l1' rd1 e1 k1=>?_
 intro s1 H2 l2 hs1 _ s2 H3 l3 hs2 _
 have l:=(l1'.trans l2).trans l3
 exact k1 H3 _ x1 (l2.trans l3) (SHX (hs1.le l3) (by simp only [big];omega) (hx.mono λ_ _ q=>q.le l) hs2 (by simp only [big];omega) (hy.mono λ_ _ q=>q.le l) (SlH.nil _ _ _) (by simp [big]) C4.nil (SlH.nil _ _ _) (by simp [big]) C4.nil _ _) (rd1.le (l2.trans l3)) rfl
theorem d0b(hx:ExprOK (g+1) d)(h:Rd H x r){kk:Int}{nm:BA}{xs:List l9}{es:List PT}{p:d6}{q:i6}(he:C4 (EH H) xs es)(lx:xs.length<=99){K:i6->c8->Hp->Prop}(k:Res H x SH (setS kk nm es (exprP (g+1)) r) K):X5 d kk nm xs [] (Sl.mk none 0 0) (Sl.mk none 0 0) x p q H K:=by
 refine a6g h k λr1 H1 x1 l1' rd1 e1 k1=>hx rd1 (Res.bind k1 λb r2 H2 v x2 _ l2 rb rd2 e2 k2=>?_)
 exact ⟨by simp;omega,c0L rd2 ((he.mono λ_ _ q=>q.le (l1'.trans l2)).snoc rb) C4.nil (by simp;omega) (by simp) k2⟩
theorem c5a(hg:d+g=40)(h0:0<=d)(hx:ExprOK (g+1) d)(hc:CondOK (g+1) d)(ihx:∀g',g=g'+1->FactOK (g'+1) (d+1))(ih:∀g',g=g'+1->StmtOK (g'+1) (d+1)):StmtOK (g+1) d:=by
 intro H x r K h hB k
 refine b3R _ _ ?_
 unfold a8g
 replace k:Res H x SH (stmtS (stmtP g) (exprP g) (exprP (g+1)) (condP (g+1)) r) K:=k
 unfold stmtS at k
 rw [if_neg (by rw [hB];decide)] at k
 refine c0J h (λq=>absurd q (d6y hB)) λ_ x1 h1 e1=>⟨λc1=>?_,λc1=>?_⟩
 ·rw [if_pos c1] at k
  refine a5A h1 (λc2 x2 h2 e2=>⟨λ_=>?_,λq=>(by cases q)⟩) λc2=>⟨λq=>(by cases q),λ_=>?_⟩
  ·rw [if_pos c2] at k
   exact c2b hg h0 ihx h2 (Res.next (γ:=Unit) (Hle.refl _) (e2.trans e1) k) λb r' H' v x' l ra rd e kk=>⟨by simp,d0b hx rd (C4.one ra) (by simp) kk⟩
  ·rw [if_neg (by rw [c2];decide)] at k
   exact d0b hx h1 C4.nil (by simp) (Res.next (γ:=Unit) (Hle.refl _) e1 k)
 rw [if_neg c1] at k
 have kx:∀{o},Res H x SH o K->Res H x1 SH o K:=λk=>Res.next (γ:=Unit) (Hle.refl _) e1 k
 have nl:∀{H:Hp},SlH H 4 g9 (Sl.mk none 0 0) []:=SlH.nil _ _ _
 have ns:∀{H:Hp},SlH H 6 q9 (Sl.mk none 0 0) []:=SlH.nil _ _ _
 refine ⟨λc2=>?_,λc2=>⟨λc3=>?_,λc3=>⟨λc4=>?_,λc4=>⟨λc5=>?_,λc5=>?_⟩⟩⟩⟩
 ·rw [if_pos c2] at k
  refine hc h1 (Res.bind (kx k) λc r2 H2 v2 x2 _ l2 rc rd2 e2 k2=>?_)
  refine c2c hg h0 ih rd2 k2 λth r3 H3 s3 ss3 x3 l3 hs3 hb3 rel3 rd3 e3 k3=>a5A rd3 (λc6 x4 rd4 e4=>⟨λ_=>?_,λq=>(by cases q)⟩) λc6=>⟨λq=>(by cases q),λ_=>?_⟩
  ·rw [if_pos c6] at k3
   refine c2c hg h0 ih rd4 (Res.next (γ:=Unit) (Hle.refl _) e4 k3) λel r5 H5 s5 ss5 x5 l5 hs5 hb5 rel5 rd5 e5 k5=>?_
   unfold X4
   intro s H6 l6 hs _
   exact k5 H6 _ x5 l6 (SHX nl (by simp [big]) C4.nil hs (by simp [big]) (C4.one (rc.le ((l3.trans l5).trans l6))) (hs3.le (l5.trans l6)) hb3 (rel3.mono λ_ _ q=>q.le (l5.trans l6)) (hs5.le l6) hb5 (rel5.mono λ_ _ q=>q.le l6) _ _) (rd5.le l6) rfl
  ·rw [if_neg (by rw [c6];decide)] at k3
   unfold X4
   intro s H6 l6 hs _
   exact k3 H6 _ x3 l6 (SHX nl (by simp [big]) C4.nil hs (by simp [big]) (C4.one (rc.le (l3.trans l6))) (hs3.le l6) hb3 (rel3.mono λ_ _ q=>q.le l6) ns (by simp [big]) C4.nil _ _) (rd3.le l6) rfl
 ·rw [if_neg c2,if_pos c3] at k
  refine hc h1 (Res.bind (kx k) λc r2 H2 v2 x2 _ l2 rc rd2 e2 k2=>?_)
  refine c2c hg h0 ih rd2 k2 λth r3 H3 s3 ss3 x3 l3 hs3 hb3 rel3 rd3 e3 k3=>?_
  intro s H6 l6 hs _
  exact k3 H6 _ x3 l6 (SHX nl (by simp [big]) C4.nil hs (by simp [big]) (C4.one (rc.le (l3.trans l6))) (hs3.le l6) hb3 (rel3.mono λ_ _ q=>q.le l6) ns (by simp [big]) C4.nil _ _) (rd3.le l6) rfl
 ·rw [if_neg c2,if_neg c3,if_pos c4] at k
  refine hc h1 (Res.bind (kx k) λc r2 H2 v2 x2 _ l2 rc rd2 e2 k2=>?_)
  exact c0L rd2 C4.nil (C4.one rc) (by simp) (by simp) k2
 ·rw [if_neg c2,if_neg c3,if_neg c4,if_pos c5] at k
  refine hc h1 (Res.bind (kx k) λc r2 H2 v2 x2 _ l2 rc rd2 e2 k2=>?_)
  exact c0L rd2 C4.nil (C4.one rc) (by simp) (by simp) k2
 ·rw [if_neg c2,if_neg c3,if_neg c4,if_neg c5] at k
  exact c0L h1 C4.nil C4.nil (by simp) (by simp) (kx k)
end
theorem stmtOK:∀(g:Nat){d:Int},d+g=40->0<=d->StmtOK (g+1) d
 | 0,d,hg,h0=>c5a hg h0 (factOK 0 hg h0).expr (litOK 0 hg h0).cond (λg' e=>by omega) λg' e=>by omega
 | g+1,d,hg,h0=>c5a hg h0 (factOK (g+1) hg h0).expr (litOK (g+1) hg h0).cond
   (λg' e=>by
    obtain rfl:g=g':=by omega
    exact factOK g (by omega) (by omega)) λg' e=>by
  obtain rfl:g=g':=by omega
  exact stmtOK g (by omega) (by omega)
section
variable {H:Hp}{x:c8}{r:List Tok}
theorem e1i(h:Rd H x r)(hk:(hd r).d9≠5){K:j9->c8->Hp->Prop}(k:Res H x (λ_ v b=>v=b) (declP (isT tArr r) r.tail) K):a4s x H K:=by
 refine b3X _ (c5C h ?_)
 unfold declP at k
 have h1:=h.up hk
 generalize hx1:c8.mk x.fl (IntKind.wrap .i64 (x.fn+1))=x1 at h1 ⊢
 have e1:x1.fl=x.fl:=by rw [←hx1]
 refine e1d h1 (by decide) (λc=>?_) λc x2 h2 e2=>?_
 ·rw [if_pos c] at k;exact k
 rw [if_neg (by intro q;exact q c)] at k
 refine ⟨λc3=>?_,λc3=>?_⟩
 ·rw [if_pos c3] at k
  refine a6g h2 (Res.next (γ:=Unit) (Hle.refl _) (e2.trans e1) k) λr3 H3 x3 l3 rd3 e3 k3=>a8y rd3 ⟨λc4=>?_,λc4=>?_⟩
  ·rw [if_pos c4] at k3;exact b0c rd3 k3
  ·rw [if_neg (by rw [c4];decide)] at k3
   unfold a0P
   have hne:(hd r3).d9≠5:=λe=>by rw [e] at c4;simp at c4
   refine c0J rd3 (λq=>absurd q hne) λ_ x4 h4 e4=>a6g h4 (Res.next (γ:=Unit) (Hle.refl _) e4 k3) λr5 H5 x5 l5 rd5 e5 k5=>?_
   unfold X6
   exact a6g rd5 k5 λr6 H6 x6 l6 rd6 e6 k6=>k6 H6 _ x6 (Hle.refl _) rfl rd6 rfl
 ·rw [if_neg (by rw [c3];decide)] at k
  unfold X6
  exact a6g h2 (Res.next (γ:=Unit) (Hle.refl _) (e2.trans e1) k) λr6 H6 x6 l6 rd6 e6 k6=>k6 H6 _ x6 (Hle.refl _) rfl rd6 rfl
theorem e1j(h:Rd H x r){K:o8->c8->Hp->Prop}(k:Res H x PH (progP r) K):a4t x H K:=by
 refine b3S _ ?_
 generalize ho:progP r=o at k
 have hb:=h.big
 have ho:bindP (declsF r.length []) (λds=>bindP (λr=>stmtsF endB (stmtP 40) r.length [] r) λb=>pureP (PP.mk ds b)) r=o:=ho
 refine P7 (λ(z:List j9×List i6×o8×c8) H'=>z.2.1=[]/\∃(r':List Tok)(n:Nat),Hle H H'/\Rd H' z.2.2.2 r'/\z.2.2.2.fl=x.fl/\z.1.length+r'.length<=r.length/\r'.length<=n/\bindP (declsF n z.1) (λds=>bindP (λr=>stmtsF endB (stmtP 40) r.length [] r) λb=>pureP (PP.mk ds b)) r'=o) (λz=>((z.2.2.2.fl.n:Int)-z.2.2.2.fn).toNat) ⟨rfl,r,r.length,Hle.refl _,h,rfl,by simp,Nat.le_refl _,ho⟩ ?_
 rintro ⟨ds,ss,p,x2⟩ H2 next ⟨e0,r2,n,l2,rd2,e2,hlen,hn,ho2⟩ hk
 dsimp only at e0 rd2 e2 hlen ho2
 subst e0
 dsimp only
 refine c5C rd2 (b0d rd2 ?_)
 rw [c5D]
 have hr2:r2.length≠0:=λe=>rd2.wf.ne (List.length_eq_zero_iff.1 e)
 obtain ⟨n,rfl⟩:∃m,n=m+1:=⟨n-1,by omega⟩
 refine ⟨λc=>?_,λc=>?_⟩
 ·have hne:(hd r2).d9≠5:=by
   rcases Bool.or_eq_true_iff.1 c with q | q<;>exact b1O q
  have ht:=a7c hne
  have e4:bindP (declsF (n+1) ds) (λds=>bindP (λr=>stmtsF endB (stmtP 40) r.length [] r) λb=>pureP (PP.mk ds b)) r2=bindP (declP (isT tArr r2)) (λd=>bindP (declsF n (ds++[d])) (λds=>bindP (λr=>stmtsF endB (stmtP 40) r.length [] r) λb=>pureP (PP.mk ds b))) r2.tail:=by
   have:declsF (n+1) ds r2=bindP (declP (isT tArr r2)) (λd=>declsF n (ds++[d])) r2.tail:=by
    conv=>lhs;unfold declsF
    rw [if_pos c]
   exact (b9X this).trans b1P
  rw [e4] at ho2
  rw [←ho2] at k
  refine e1i rd2 hne (Res.bind (Res.next (γ:=Unit) l2 e2 k) λb r3 H3 v x3 hb3 l3 rb rd3 e3 k3=>?_)
  subst rb
  have hlt:=d4i _ _ _ _ hb3
  have m2:=rd2.len
  have m3:=rd3.len
  refine ⟨by simp;omega,hk _ _ ⟨rfl,r3,n,l2.trans l3,rd3,e3.trans e2,by simp;omega,by omega,?_⟩ (by dsimp only;omega)⟩
  rw [←ho2,a5i hb3]
 ·have:declsF (n+1) ds r2=.ok (ds,r2):=by
   conv=>lhs;unfold declsF
   rw [if_neg (by rw [c];decide)]
  rw [a5i this] at ho2
  have ho2:bindP (stmtsF endB (stmtP 40) r2.length []) (λb=>pureP (PP.mk ds b)) r2=o:=ho2
  refine P7 (λ(z:c8×List i6×o8) H'=>∃(l:List PT)(r':List Tok)(n:Nat),Hle H2 H'/\C4 (SH H') z.2.1 l/\Rd H' z.1 r'/\z.1.fl=x2.fl/\l.length+r'.length<=r2.length/\r'.length<=n/\bindP (stmtsF endB (stmtP 40) n l) (λb=>pureP (PP.mk ds b)) r'=o) (λz=>((z.1.fl.n:Int)-z.1.fn).toNat) ⟨[],r2,r2.length,Hle.refl _,C4.nil,rd2,rfl,by simp,Nat.le_refl _,ho2⟩ ?_
  rintro ⟨x3,zs,p3⟩ H3 next3 ⟨l,r3,n3,l3,rel,rd3,e3,hlen3,hn3,ho3⟩ hk3
  dsimp only at rel rd3 e3
  dsimp only
  have hz:=rel.1
  have hr3:r3.length≠0:=λe=>rd3.wf.ne (List.length_eq_zero_iff.1 e)
  obtain ⟨n3,rfl⟩:∃m,n3=m+1:=⟨n3-1,by omega⟩
  refine a8y rd3 ⟨λc5=>?_,λc5=>?_⟩
  ·have cs:endB r3=false:=decide_eq_false c5
   have e4:bindP (stmtsF endB (stmtP 40) (n3+1) l) (λb=>pureP (PP.mk ds b)) r3=bindP (stmtP 40) (λs=>bindP (stmtsF endB (stmtP 40) n3 (l++[s])) (λb=>pureP (PP.mk ds b))) r3:=by
    exact (b9X (c3r cs)).trans b1P
   rw [e4] at ho3
   rw [←ho3] at k
   refine c7E (g:=40) (d:=0) (by omega) (λg' e=>by have e9:g'=39:=(by omega);subst e9;exact stmtOK 39 (by omega) (by omega)) rd3 (Res.bind (Res.next (γ:=Unit) (l2.trans l3) (e3.trans e2) k) λb r4 H4 v x4 hb4 l4 rb rd4 e4' k4=>?_)
   have hlt:=b9O 40 _ _ _ hb4
   have m3:=rd3.len
   have m4:=rd4.len
   refine ⟨by simp;omega,hk3 _ _ ⟨l++[b],r4,n3,l3.trans l4,(rel.mono λ_ _ q=>q.le l4).snoc rb,rd4,e4'.trans e3,by simp;omega,by omega,?_⟩ (by dsimp only;omega)⟩
   rw [←ho3,a5i hb4]
  ·have cs:endB r3=true:=decide_eq_true c5
   have:stmtsF endB (stmtP 40) (n3+1) l r3=.ok (l,r3):=by unfold stmtsF;rw [if_pos cs]
   rw [a5i this] at ho3
   subst ho3
   intro s1 H4 l4 hs1 _ s2 H5 l5 hs2 _
   have l45:=l4.trans l5
   exact k H5 _ x3 ((l2.trans l3).trans l45) ⟨hs1.le l5,by simp only [big];omega,zs,hs2,by simp only [big];omega,rel.mono λ_ _ q=>q.le l45⟩ (rd3.le l45) (e3.trans e2)
end
end
section
variable {P:Program}{ops:Array Oper}{i:Nat}{rest:List Nat}{a:Act}{w:World}{o:Oper}{s:Sem Next}
theorem wk{Q:Exit->Act->World->Prop}(ho:ops[i]? = some o)(h:opK P (λc w'=>Q (.panic c) a w') s w λv w'=>wpOps P ops Q rest (a.put o.dst v) w')(hg:o.guard=none:=by rfl)(hs:execOp a.eval o=s:=by kernel_rfl):wpOps P ops Q (i::rest) a w:=by
 unfold wpOps
 rw [ho]
 have:Region.wanted o (yielded ops a.tmps)=true:=by unfold Region.wanted;rw [hg]
 simp only [this,if_true]
 exact .inl (c5L hs h (λ_ _ h=>h) λ_ _ h=>h)
theorem d6A{Q:Exit->Act->World->Prop}{d:Deferred}(ho:ops[i]? = some o)(hg:o.guard=none)(hr:(execOp a.eval o).run P w=.ok (.defer d) w)
  (h:wpOps P ops Q rest (({ a with defers:=d::a.defers }:Act).put o.dst undef) w):wpOps P ops Q (i::rest) a w:=by
 unfold wpOps
 rw [ho]
 have:Region.wanted o (yielded ops a.tmps)=true:=by unfold Region.wanted;rw [hg]
 simp only [this,if_true]
 refine .inl ?_
 unfold Oper.wp
 rw [hr]
 exact h
theorem a1p(v:Value):Pu P (pure (.value v)) v:=λ_=>rfl
theorem d0c{c:Code}{h:Hint}{l:List Value}{rs:List ResultVar}{R:Value->World->Prop}{Q':Exit->Act->World->Prop}{X:Prop}(hd:a.defers=[])(ht:a.tmps=l.toArray)(hok:dokL l.length (dsts c)=true)(hl:lexOk c h=true)(hm:P.follows .mixedOrders=true)
  (e:X=WPx P noPan c h (b6g l) w (bodyX P rs R)) (hx:X) (hq:∀e' a' σ' w',Rep l.length a' σ'->bodyX P rs R e' σ' w'->Q' e' a' w'):c.wp P Q' a w:=
 c4E hm c h _ a w _ _ (e ▸ hx) hok hl ⟨hd,by rw [ht];simp,λi=>by rw [c4F,ht];simp [List.getD_eq_getElem?_getD]⟩ (λ_ _ _ _ q=>q.elim) (λe' σ' a' w' hr _ hh=>hq e' a' σ' w' hr hh)
theorem d6B{fn:Func}{tmps:Array Value}{t:TypeId}{a b c v:Value}(hres:fn.results.toList=[.cell 6 t,.cell 7 47,.cell 8 32])(h6:tmps.getD 6 undef=a)(h7:tmps.getD 7 undef=b)(h8:tmps.getD 8 undef=c)
  (hx:xcell P t a w λx=>xcell P 47 b w λy=>xcell P 32 c w λz=>v=.tuple #[x,y,z]):(results fn tmps).run P w=.ok v w:=by
 subst h6;subst h7;subst h8
 obtain ⟨_,v',h1,h2⟩:=b4r (P:=P) (N:=tmps.size) (fn:=fn) (R:=λu _=>v=u) (E:=noPan) (e:=.ret) (σ:=λi=>tmps.getD i undef) (a:={ tmps:=tmps,defers:=[] }) (w:=w) ⟨rfl,rfl,λ_=>rfl⟩ (by rw [hres];exact hx)
 rw [h1]
 show _=Result.ok v w
 rw [show v=v' from h2]
theorem Inv.dropF{w0:World}{ps:Nat->Prop}{H0 H:Hp}{Fr:List Frag}:∀{Fo:List Frag},Inv w0 ps H0 H (Fo++Fr) w->Inv w0 ps H0 H Fr w
 | [],I=>I
 | _::_,I=>Inv.dropF (Inv.drop I)
end
theorem c8y{g o:Nat}:Pu Tryz.prog (xV (Instr.fieldAt 122 (.pointer (some ⟨g,o,none⟩)) 0)) (.pointer (some ⟨g,o+0,none⟩)):=Pu.ok λw=>by kernel_rfl
theorem c8z{g o:Nat}:Pu Tryz.prog (xV (Instr.fieldAt 122 (.pointer (some ⟨g,o,none⟩)) 1)) (.pointer (some ⟨g,o+2,none⟩)):=Pu.ok λw=>by kernel_rfl
def readsR{β:Type}(p:PM β)(chk:β->Int)(r:List Tok):Except Flt β:=match p r with
 | .error y=>.error y
 | .ok (b,r')=>if (hd r').d9≠5 then .error (40,(hd r').fAt) else if chk b=32 then .error (41,(hd r').fAt) else if chk b=33 then .error (42,(hd r').fAt) else .ok b
abbrev panR{β:Type}(o:Except Flt β):PanQ:=⟨λv=>∃c pl,v=fltV c pl/\o=.error (c,pl)⟩
def d8l(_x0 _x1 _x2 _x3 _x4 _x5 x6 x7 x8:Value)(w:World)(R:Value->World->Prop)(E:Pan):Prop:=
 dX w λa=>
 qL Tryz.prog a (blk x6) (xV (Instr.loadAt 25 x6)) λe=>
 qL Tryz.prog a (blk x7) (xV (Instr.loadAt 47 x7)) λf=>
 qL Tryz.prog a (blk x8) (xV (Instr.loadAt 32 x8)) λg=>
 opK Tryz.prog E (xU (Instr.storeAt 25 x6 e)) a λ_ c=>
 keepX [(blk x8),(blk x7)] a c (opK Tryz.prog E (xU (Instr.storeAt 47 x7 f)) c λ_ d=>
 keepX [(blk x8)] c d (opK Tryz.prog E (xU (Instr.storeAt 32 x8 g)) d λ_ b=>
 keepX [] d b (xcell Tryz.prog 25 x6 b λi=>
 xcell Tryz.prog 47 x7 b λj=>
 xcell Tryz.prog 32 x8 b λk=>
 R (Value.tuple #[i,j,k]) b)))
def e6U:Hint:=(.reg [(0,524288,64),(0,1048576,128),(0,2097152,256),(1,0,524352),(11,0,1048704),(31,0,2097408)] [6,5,3,6,4,0] (.load 0 (.load 1 (.load 2 (.step 3 (.step 4 (.step 5 .done)))))))
def d8m(x0 x1 x2 _x3 x4 _x5 x6:Value)(w:World)(R:Value->World->Prop)(E:Pan):Prop:=
 dX w λa=>
 qP Tryz.prog (xV (Instr.fieldAt 122 x4 0)) λc=>
 qP Tryz.prog (xV (Instr.fieldAt 122 x4 1)) λb=>
 qL Tryz.prog a (blk x6) (xV (Instr.loadAt 25 x6)) λg=>
 qL Tryz.prog a (blk c) (xV (Instr.loadAt 47 c)) λi=>
 qL Tryz.prog a (blk b) (xV (Instr.loadAt 32 b)) λj=>
 opK Tryz.prog E (xU (Instr.storeAt 25 x0 g)) a λ_ d=>
 keepX [(blk b),(blk c)] a d (opK Tryz.prog E (xU (Instr.storeAt 47 x1 i)) d λ_ e=>
 keepX [(blk b)] d e (opK Tryz.prog E (xU (Instr.storeAt 32 x2 j)) e λ_ f=>
 keepX [] e f (R (Value.tuple #[]) f)))
def e6V:Hint:=(.reg [(0,262144,64),(0,524288,16),(2,1048576,524288),(0,2097152,16),(8,4194304,2097152),(1,0,262145),(39,0,1048578),(127,0,4194308)] [20,21,17,21,5,20,16,0] (.early 1 (.early 3 (.load 0 (.load 2 (.load 4 (.step 5 (.step 6 (.step 7 .done)))))))))
section
variable {H:Hp}
theorem c4t(gO gA gE:Nat)(w:World):CallsD Tryz.prog 54 #[rQ gO,rQ gA,rQ gE] .returning w λe u' w'=>e=.returned (.tuple #[])/\u'=.returning/\w'=w:=by
 refine callsD_of_wpS func54 rfl λc₀ cs hu=>?_
 apply wpS_seq
 apply wpS_region
 simp [wpOpsS,go_sem,recoverD,hu,Exit.thenS]
 refine wpS_of_wp ?_
 apply wp_seq
 apply wp_region
 refine wk (s:=pure (.value .nilIface)) rfl (c7 (a1p _) ?_)
 refine wk (s:=xBin .neq 20 (.tmp 8) (.const .nilIface) .nilIface .nilIface) rfl (c7 (v:=.bool false) (λw=>by kernel_rfl) ?_)
 refine wp_cond (t:=false) (by kernel_rfl) (wp_skip ?_)
 refine ⟨rfl,.returning,?_,_,results_none rfl _ _ _,rfl,rfl,rfl⟩
 rw [←hu]
theorem c4u(gO gA gE:Nat){c:Int}{pl:f8}{cO cA cE:List Value}(hO:cO.length=([.slice none 0 0,.slice none 0 0]:List Value).length)(hA:cA.length=2)(hE:cE.length=1)(w w0:World)(ps:Nat->Prop)(H0:Hp)(Fs:List Frag)(I:Inv w0 ps H0 H (bx gO 25 cO::bx gA 47 cA::bx gE 32 cE::Fs) w):
  CallsD Tryz.prog 54 #[rQ gO,rQ gA,rQ gE] (.panicking [{ v:=fltV c pl,recovered:=false }]) w λe u' w'=>e=.returned (.tuple #[])/\u'=.panicking [{ v:=fltV c pl,recovered:=true }]/\Inv w0 ps H0 H (bx gO 25 [.slice none 0 0,.slice none 0 0]::bx gA 47 (p9 pl)::bx gE 32 [vi c]::Fs) w':=by
 refine callsD_of_wpS func54 rfl λc₀ cs hu=>?_
 apply wpS_seq
 apply wpS_region
 simp [wpOpsS,go_sem,recoverD,hu,Exit.thenS]
 refine wpS_of_wp ?_
 apply wp_seq
 apply wp_region
 refine wk (s:=pure (.value (fltV c pl))) rfl (c7 (a1p _) ?_)
 refine wk (s:=xBin .neq 20 (.tmp 8) (.const .nilIface) (fltV c pl) .nilIface) rfl (c7 (v:=.bool true) (λw=>by kernel_rfl) ?_)
 refine wp_cond (t:=true) (by kernel_rfl) ?_
 apply wp_seq
 apply wp_region
 refine wk (s:=pure (.value (fltV c pl))) rfl (c7 (a1p _) ?_)
 refine wk (s:=xV (Instr.typeAssert (fltV c pl) 20 122 true)) rfl (c7 (v:=.tuple #[.agg #[vi pl.Q3,vi pl.Z6,vi c],.bool true]) (Pu.ok λw=>by kernel_rfl) ?_)
 refine wk (s:=pure (.value (.tuple #[.agg #[vi pl.Q3,vi pl.Z6,vi c],.bool true]))) rfl (c7 (a1p _) ?_)
 refine wk (s:=xV (Instr.extract (.tuple #[.agg #[vi pl.Q3,vi pl.Z6,vi c],.bool true]) 0)) rfl (c7 (m7 _ 0 _ rfl) ?_)
 refine wk (s:=xV (Instr.extract (.tuple #[.agg #[vi pl.Q3,vi pl.Z6,vi c],.bool true]) 1)) rfl (c7 (m7 _ 1 _ rfl) ?_)
 refine wk (s:=xV (Instr.alloc 122 true (.tuple #[]))) rfl (r8 I zeroValue122 rfl λg1 w1 I1 _=>?_)
 refine wk (s:=xU (Instr.storeAt 122 (rQ g1) (.agg #[vi pl.Q3,vi pl.Z6,vi c]))) rfl (H9 I1 sizeOf122 (vs:=[vi pl.Q3,vi pl.Z6,vi c]) (cs':=[vi pl.Q3,vi pl.Z6,vi c]) rfl rfl (nb rfl) rfl rfl λw2 I2 _=>?_)
 refine wk (s:=pure (.value (.bool true))) rfl (c7 (a1p _) ?_)
 apply wp_seq
 apply wp_seq
 apply wp_region
 refine wk (s:=pure (.value (.bool true))) rfl (c7 (a1p _) ?_)
 refine wk (s:=xV (Op.unary .not (.bool true))) rfl (c7 (R5 _) ?_)
 refine wp_cond (t:=false) (by kernel_rfl) (wp_skip ?_)
 apply wp_seq
 apply wp_region
 refine wk (s:=xV (Instr.alloc 25 true (.tuple #[]))) rfl (r8 I2 zeroValue25 rfl λg2 w3 I3 _=>?_)
 refine d0c (l:=[rQ gO,rQ gA,rQ gE,fltV c pl,rQ g1,.bool true,rQ g2,fltV c pl,fltV c pl,.bool true,.tuple #[.agg #[vi pl.Q3,vi pl.Z6,vi c],.bool true],fltV c pl,.tuple #[.agg #[vi pl.Q3,vi pl.Z6,vi c],.bool true],.agg #[vi pl.Q3,vi pl.Z6,vi c],.bool true,.bool true,.bool false,undef,undef,undef,undef,undef,undef]) (h:=e6V) (rs:=[]) (R:=λ_ w'=>Inv w0 ps H0 H (bx gO 25 [.slice none 0 0,.slice none 0 0]::bx gA 47 (p9 pl)::bx gE 32 [vi c]::Fs) w') (X:=d8m (rQ gO) (rQ gA) (rQ gE) (fltV c pl) (rQ g1) (.bool true) (rQ g2) w3 (λ_ w'=>Inv w0 ps H0 H (bx gO 25 [.slice none 0 0,.slice none 0 0]::bx gA 47 (p9 pl)::bx gE 32 [vi c]::Fs) w') noPan) (by kernel_rfl) (by kernel_rfl) (by kernel_rfl) (by kernel_rfl) (by kernel_rfl) (by kernel_rfl) ?_ ?_
 ·unfold d8m
  refine L6 I3 λw4 I4=>g8 c8y (g8 c8z ?_)
  refine s7 (ldA (vs:=[.slice none 0 0,.slice none 0 0]) isAgg25 sizeOf25 rfl (I4.at1 (o:=0) (vs:=[.slice none 0 0,.slice none 0 0]) (nb rfl) rfl)) (s7 (ldA (vs:=p9 pl) isAgg47 sizeOf47 rfl ((I4.bring 1).at1 (o:=0) (vs:=p9 pl) (nb rfl) rfl)) ?_)
  refine s7 (ld1 (v:=vi c) isAgg32 ((I4.bring 1).at1 (o:=2) (vs:=[vi c]) (nb rfl) rfl)) ?_
  refine H9 (I4.bring 2) sizeOf25 (vs:=[.slice none 0 0,.slice none 0 0]) (cs':=[.slice none 0 0,.slice none 0 0]) rfl rfl (by rw [hO];exact nb rfl) rfl (by rw [List.drop_eq_nil_of_le (by rw [hO];exact nb rfl)];rfl) λw5 I5 _=>?_
  refine ⟨(I5.bring 2).hp1.trans (I4.bring 1).hp1.symm,(I5.bring 2).hp1.trans (I4.bring 1).hp1.symm,?_⟩
  refine H9 (I5.bring 3) sizeOf47 (vs:=p9 pl) (cs':=p9 pl) rfl rfl (by rw [hA];exact nb rfl) rfl (by rw [List.drop_eq_nil_of_le (by rw [hA];exact nb rfl)];rfl) λw6 I6 _=>?_
  refine ⟨(I6.bring 3).hp1.trans (I5.bring 2).hp1.symm,?_⟩
  refine H9 (I6.bring 4) sizeOf32 (vs:=[vi c]) (cs':=[vi c]) rfl rfl (by rw [hE];exact nb rfl) rfl (by rw [List.drop_eq_nil_of_le (by rw [hE];exact nb rfl)];rfl) λw7 I7 _=>?_
  exact ((((I7.bring 3).drop.bring 3).drop).bring 1).bring 2
 ·intro e' a' σ' w' hr hb
  have hI:(e'=.normal\/e'=.ret)/\Inv w0 ps H0 H (bx gO 25 [.slice none 0 0,.slice none 0 0]::bx gA 47 (p9 pl)::bx gE 32 [vi c]::Fs) w':=by
   cases e'<;>first | exact ⟨.inl rfl,hb⟩ | exact ⟨.inr rfl,hb⟩ | exact hb.elim
  obtain ⟨rfl | rfl,hI⟩:=hI<;>exact ⟨hr.1,_,rfl,_,results_none rfl _ _ _,rfl,rfl,hI⟩
variable {s:BA}{toks:List Tok}{pl:f8}{er:Int}{β:Type}{RR:Hp->o8->β->Prop}{p:PM β}{chk:β->Int}{K:o8->f8->Int->Hp->Prop}
theorem d1G(htok:b1V s H (λl pl' e H1=>Hle H H1/\SlH H1 5 m8 l toks/\pl'=pl/\e=er))(hw:er=0->WfT toks/\toks.length<=big)
  (hread:∀[PanQ] {H:Hp} {x:c8} {r:List Tok} {K:o8->c8->Hp->Prop},Rd H x r->Res H x RR (p r) K->a4t x H K)
  (hchk:∀{H':Hp}{v:o8}{b:β}{r':List Tok},er=0->Hle H H'->p toks=.ok (b,r')->RR H' v b->a3f v H' (λe H''=>Hle H' H''/\e=chk b)) (hle:∀{H H':Hp}{v:o8}{b:β},Hle H H'->RR H v b->RR H' v b)
  (k1:er≠0->∀H',Hle H H'->K (o8.mk (Sl.mk none 0 0) (Sl.mk none 0 0)) pl er H') (k2:er=0->∀c q,readsR p chk toks=.error (c,q)->∀H',Hle H H'->K (o8.mk (Sl.mk none 0 0) (Sl.mk none 0 0)) q c H')
  (k3:er=0->∀b,readsR p chk toks=.ok b->∀H' v,Hle H H'->RR H' v b->K v ⟨0,0⟩ 0 H'):N4 s H K:=by
 intro w I
 refine calls_of_wp_defers func27 rfl ?_
 apply wp_seq
 apply wp_region
 refine wk (s:=xV (Instr.alloc 25 true (.tuple #[]))) rfl (r8 I zeroValue25 rfl λgO w1 I1 _=>?_)
 refine wk (s:=xV (Instr.alloc 47 true (.tuple #[]))) rfl (r8 I1 zeroValue47 rfl λgA w2 I2 _=>?_)
 refine wk (s:=xV (Instr.alloc 32 true (.tuple #[]))) rfl (r8 I2 zeroValue32 rfl λgE w3 I3 _=>?_)
 apply wp_seq
 apply wp_region
 refine wk (s:=pure (.value (.string s))) rfl (c7 (a1p _) ?_)
 refine wk (s:=xCall (.func (.func 53) #[] #[]) [.string s]) rfl (f7 call53 htok I3 ?_)
 rintro _ H1 _ w4 I4 _ _ ⟨l,pl',e,rfl,rfl,hl1,hsl,rfl,rfl⟩
 refine wk (s:=pure (.value (.tuple #[vs l,.agg (p9 pl').toArray,vi e]))) rfl (c7 (a1p _) ?_)
 refine wk (s:=xV (Instr.extract (.tuple #[vs l,.agg (p9 pl').toArray,vi e]) 0)) rfl (c7 (m7 _ 0 _ rfl) ?_)
 refine wk (s:=xV (Instr.extract (.tuple #[vs l,.agg (p9 pl').toArray,vi e]) 1)) rfl (c7 (m7 _ 1 _ rfl) ?_)
 refine wk (s:=xV (Instr.extract (.tuple #[vs l,.agg (p9 pl').toArray,vi e]) 2)) rfl (c7 (m7 _ 2 _ rfl) ?_)
 refine wk (s:=pure (.value (vs l))) rfl (c7 (a1p _) ?_)
 refine wk (s:=xU (Instr.storeAt 47 (rQ gA) (.agg (p9 pl').toArray))) rfl (H9 (I4.bring 1) sizeOf47 (vs:=p9 pl') (cs':=p9 pl') rfl rfl (nb rfl) rfl rfl λw5 I5 _=>?_)
 refine wk (s:=xU (Instr.storeAt 32 (rQ gE) (vi e))) rfl (H9 (I5.bring 1) sizeOf32 (vs:=[vi e]) (cs':=[vi e]) rfl rfl (nb rfl) rfl rfl λw6 I6 _=>?_)
 have fin:∀{tmps:Array Value}{w':World}{H':Hp}{r0:o8}{r1:f8}{r2:Int},tmps.getD 6 undef=rQ gO->tmps.getD 7 undef=rQ gA->tmps.getD 8 undef=rQ gE->Inv w (inF []) H H' [bx gO 25 (q7 r0),bx gA 47 (p9 r1),bx gE 32 [vi r2]] w'->K r0 r1 r2 H'->
   ∃v,(results Tryz.f27 tmps).run Tryz.prog w'=.ok v w'/\∃H' Fo,Inv w (inF []) H H' Fo w'/\∃(r0:o8)(r1:f8)(r2:Int),v=(Value.tuple #[(Value.agg (q7 r0).toArray),(Value.agg (p9 r1).toArray),(vi r2)])/\Fo=[]/\K r0 r1 r2 H':=λ{tmps w' H' r0 r1 r2} h6 h7 h8 J hK=>
  ⟨_,d6B rfl h6 h7 h8 (a3g (vs:=q7 r0) isAgg25 sizeOf25 rfl (J.at1 (o:=0) (vs:=q7 r0) (nb rfl) rfl) (a3g (vs:=p9 r1) isAgg47 sizeOf47 rfl ((J.bring 1).at1 (o:=0) (vs:=p9 r1) (nb rfl) rfl) (c8H isAgg32 ((J.bring 2).at1 (o:=0) (vs:=[vi r2]) (nb rfl) rfl) rfl))),_,_,J.drop.drop.drop,r0,r1,r2,rfl,rfl,hK⟩
 apply wp_seq
 apply wp_seq
 apply wp_region
 refine wk (s:=xV (Instr.loadAt 32 (rQ gE))) rfl (d7 (ld1 (v:=vi e) isAgg32 (I6.at1 (o:=0) (vs:=[vi e]) (nb rfl) rfl)) ?_)
 by_cases he:e=0
 rotate_left
 ·refine wk (s:=xBin .neq 32 (.tmp 17) (.const (vi 0)) (vi e) (vi 0)) rfl (c7 (v:=.bool true) (by have:=O4 (P:=Tryz.prog) 32 (.tmp 17) (.const (vi 0)) .i64 e 0;rw [decide_eq_false he] at this;exact this) ?_)
  refine wp_cond (t:=true) (by kernel_rfl) ?_
  apply wp_seq
  have J6:=(I6.bring 1).bring 2
  refine d0c (l:=[.string s,.func (.func 28) #[] #[],.func (.func 21) #[] #[],undef,undef,undef,rQ gO,rQ gA,rQ gE,vs l,undef,.tuple #[vs l,.agg (p9 pl').toArray,vi e],.string s,.tuple #[vs l,.agg (p9 pl').toArray,vi e],vs l,.agg (p9 pl').toArray,vi e,vi e,.bool true]++List.replicate 35 undef) (h:=e6U) (rs:=Tryz.f27.results.toList) (R:=λv w'=>v=.tuple #[.agg (q7 (o8.mk (Sl.mk none 0 0) (Sl.mk none 0 0))).toArray,.agg (p9 pl').toArray,vi e]/\Inv w (inF []) H H1 [bx gO 25 (q7 (o8.mk (Sl.mk none 0 0) (Sl.mk none 0 0))),bx gA 47 (p9 pl'),bx gE 32 [vi e]] w') (X:=d8l undef undef undef undef undef undef (rQ gO) (rQ gA) (rQ gE) w6 (λv w'=>v=.tuple #[.agg (q7 (o8.mk (Sl.mk none 0 0) (Sl.mk none 0 0))).toArray,.agg (p9 pl').toArray,vi e]/\Inv w (inF []) H H1 [bx gO 25 (q7 (o8.mk (Sl.mk none 0 0) (Sl.mk none 0 0))),bx gA 47 (p9 pl'),bx gE 32 [vi e]] w') noPan) (by kernel_rfl) (by kernel_rfl) (by kernel_rfl) (by kernel_rfl) (by kernel_rfl) (by kernel_rfl) ?_ ?_
  ·unfold d8l
   refine L6 J6 λw7 J7=>s7 (lW isAgg25 sizeOf25 rfl J7) (s7 (lW isAgg47 sizeOf47 rfl (J7.bring 1)) ?_)
   refine s7 (ld1 (v:=vi e) isAgg32 ((J7.bring 2).at1 (o:=0) (vs:=[vi e]) (nb rfl) rfl)) (H9 J7 sizeOf25 (vs:=q7 (o8.mk (Sl.mk none 0 0) (Sl.mk none 0 0))) (cs':=q7 (o8.mk (Sl.mk none 0 0) (Sl.mk none 0 0))) rfl rfl (nb rfl) rfl rfl λw8 J8 _=>?_)
   refine ⟨(J8.bring 2).hp1.trans (J7.bring 2).hp1.symm,(J8.bring 1).hp1.trans (J7.bring 1).hp1.symm,?_⟩
   refine H9 (J8.bring 1) sizeOf47 (vs:=p9 pl') (cs':=p9 pl') rfl rfl (nb rfl) rfl rfl λw9 J9 _=>⟨(J9.bring 2).hp1.trans (J8.bring 2).hp1.symm,?_⟩
   refine H9 (J9.bring 2) sizeOf32 (vs:=[vi e]) (cs':=[vi e]) rfl rfl (nb rfl) rfl rfl λw10 J10 _=>?_
   have J11:=(J10.bring 1).bring 2
   refine a3g isAgg25 sizeOf25 rfl (J11.at1 (o:=0) (vs:=q7 (o8.mk (Sl.mk none 0 0) (Sl.mk none 0 0))) (nb rfl) rfl) (a3g isAgg47 sizeOf47 rfl ((J11.bring 1).at1 (o:=0) (vs:=p9 pl') (nb rfl) rfl) ?_)
   exact c8H isAgg32 ((J11.bring 2).at1 (o:=0) (vs:=[vi e]) (nb rfl) rfl) ⟨rfl,J11⟩
  ·intro e' a' σ' w' hr hb
   have hp:=b4r (fn:=Tryz.f27) (E:=noPan) hr hb
   cases e' with
   | normal=>
    obtain ⟨hd,v,hres,rfl,J⟩:=hp
    refine wp_ret ?_
    show Leaves _ _ _ _ a'.defers _ _
    rw [hd]
    exact ⟨_,hres,_,_,J.drop.drop.drop,_,_,_,rfl,rfl,k1 he H1 hl1⟩
   | ret=>
    obtain ⟨hd,v,hres,rfl,J⟩:=hp
    show Leaves _ _ _ _ a'.defers _ _
    rw [hd]
    exact ⟨_,hres,_,_,J.drop.drop.drop,_,_,_,rfl,rfl,k1 he H1 hl1⟩
   | exit i=>exact hb.elim
   | goto l=>exact hb.elim
   | panic ch=>exact hb.elim
   | outgrown=>exact hb.elim
 subst he
 obtain ⟨hwf,hbg⟩:=hw rfl
 refine wk (s:=xBin .neq 32 (.tmp 17) (.const (vi 0)) (vi 0) (vi 0)) rfl (c7 (v:=.bool false) (by have:=O4 (P:=Tryz.prog) 32 (.tmp 17) (.const (vi 0)) .i64 0 0;exact this) ?_)
 refine wp_cond (t:=false) (by kernel_rfl) (wp_skip ?_)
 apply wp_seq
 apply wp_region
 refine wk (s:=xV (Instr.makeFunc (.func 54) #[] #[rQ gO,rQ gA,rQ gE])) rfl (c7 (Q7 _ _ _) ?_)
 refine d6A (d:={ target:=.fn (.func 54) #[rQ gO,rQ gA,rQ gE],args:=#[] }) rfl rfl (by kernel_rfl) ?_
 have hpan:∀{tmps:Array Value}{c:Int}{q:f8}{H':Hp}{w':World}{cO cA cE:List Value},tmps.getD 6 undef=rQ gO->tmps.getD 7 undef=rQ gA->tmps.getD 8 undef=rQ gE->cO.length=([.slice none 0 0,.slice none 0 0]:List Value).length->cA.length=2->cE.length=1->readsR p chk toks=.error (c,q)->Inv w (inF []) H H' [bx gE 32 cE,bx gA 47 cA,bx gO 25 cO] w'->
   Leaves Tryz.prog Tryz.f27 tmps (endK (λv w'=>∃H' Fo,Inv w (inF []) H H' Fo w'/\∃(r0:o8)(r1:f8)(r2:Int),v=(Value.tuple #[(Value.agg (q7 r0).toArray),(Value.agg (p9 r1).toArray),(vi r2)])/\Fo=[]/\K r0 r1 r2 H') (λc w'=>∃H' Fo,Inv w (inF []) H H' Fo w'/\noQE c H' Fo)) [{ target:=.fn (.func 54) #[rQ gO,rQ gA,rQ gE],args:=#[] }] (.panicking [{ v:=fltV c q,recovered:=false }]) w':=by
  intro tmps c q H' w' cO cA cE h6 h7 h8 lO lA lE her J
  refine leaves_cons (f:=54) (args:=#[rQ gO,rQ gA,rQ gE]) (λh=>by cases h) (call54 _ w') ((c4u gO gA gE (c:=c) (pl:=q) lO lA lE w' _ _ _ _ ((J.bring 1).bring 2)).mono λe1 u' w4 q4=>?_)
  obtain ⟨rfl,rfl,J4⟩:=q4
  exact fin (r0:=(o8.mk (Sl.mk none 0 0) (Sl.mk none 0 0))) h6 h7 h8 J4 (k2 rfl c q her H' J.le)
 apply wp_seq
 apply wp_region
 refine wk (s:=pure (.value (vs l))) rfl (c7 (a1p _) ?_)
 refine wk (s:=xV (Instr.build 125 #[(0,vs l)])) rfl (c7 (v:=.agg (f9 ⟨l,0⟩).toArray) (Pu.ok λw=>by kernel_rfl) ?_)
 refine wk (s:=xV (Instr.box 125 (.agg (f9 ⟨l,0⟩).toArray))) rfl (D3 I6 rfl λgr w7 I7 _=>?_)
 refine wk (s:=pure (.value (rQ gr))) rfl (c7 (a1p _) ?_)
 have rd0:Rd H1 ⟨l,0⟩ toks:=⟨toks,0,hsl,hbg,rfl,rfl,hwf⟩
 let pq:PanQ:=panR (readsR p chk toks)
 apply wp_seq
 apply wp_region
 refine wk (s:=pure (.value (.func (.func 28) #[] #[]))) rfl (c7 (a1p _) ?_)
 refine wk (s:=pure (.value (rQ gr))) rfl (c7 (a1p _) ?_)
 refine wk (s:=xCall (.func (.func 28) #[] #[]) [rQ gr]) rfl ?_
 refine a1O (cap:=[]) (λargs w=>call28 args w) (a1y (Fi:=[bx gr 125 (f9 ⟨l,0⟩)]) (Fr:=[bx gE 32 [vi 0],bx gA 47 (p9 pl'),bx gO 25 [.slice none 0 0,.slice none 0 0]]) I7 (hread rd0 (Res.use rfl λc q eo=>⟨c,q,rfl,by unfold readsR;rw [eo]⟩) gr) (λv H2 Fo w8 I8 l2 _ q=>?_) (λc H2 Fo w8 I8 q=>?_))
 rotate_left
 ·obtain ⟨_,rfl,c,q,rfl,her⟩:=q
  exact hpan (by kernel_rfl) (by kernel_rfl) (by kernel_rfl) rfl rfl rfl her I8.dropF
 obtain ⟨v,y,rfl,rfl,b,r',eo,ra,rd,_,_⟩:=q
 have hR:readsR p chk toks=if (hd r').d9≠5 then .error (40,(hd r').fAt) else if chk b=32 then .error (41,(hd r').fAt) else if chk b=33 then .error (42,(hd r').fAt) else .ok b:=by unfold readsR;rw [eo]
 refine wk (s:=xU (Instr.storeAt 25 (rQ gO) (.agg (q7 v).toArray))) rfl (H9 (I8.bring 3) sizeOf25 (vs:=q7 v) (cs':=q7 v) rfl rfl (nb rfl) rfl rfl λw9 I9 _=>?_)
 apply wp_seq
 apply wp_seq
 apply wp_region
 refine wk (s:=pure (.value (rQ gr))) rfl (c7 (a1p _) ?_)
 have nx:∀{H':Hp},Hle H2 H'->G5 y H' (λt H''=>H''=H'/\t=hd r'):=λl=>a8y (rd.le l) ⟨rfl,rfl⟩
 refine wk (s:=xCall (.func (.func 55) #[] #[]) [rQ gr]) rfl (f7 call55 (nx (Hle.refl _) gr) (I9.bring 1) ?_)
 rintro _ H3 _ w10 I10 _ _ ⟨t,rfl,rfl,rfl,rfl⟩
 refine wk (s:=xV (Instr.field 127 (.agg (m8 (hd r')).toArray) 0)) rfl (c7 (v:=vi (hd r').d9) (Pu.ok λw=>by kernel_rfl) ?_)
 by_cases c1:(hd r').d9=5
 rotate_left
 ·refine wk (s:=xBin .neq 3 (.tmp 31) (.const (vi 5)) (vi (hd r').d9) (vi 5)) rfl (c7 (v:=.bool true) (by have:=O4 (P:=Tryz.prog) 3 (.tmp 31) (.const (vi 5)) .i64 (hd r').d9 5;rw [decide_eq_false c1] at this;exact this) ?_)
  refine wp_cond (t:=true) (by kernel_rfl) ?_
  apply wp_region
  refine wk (s:=pure (.value (rQ gr))) rfl (c7 (a1p _) ?_)
  refine wk (s:=xCall (.func (.func 56) #[] #[]) [rQ gr]) rfl ?_
  have kw:PanQ.q (fltV 40 (hd r').fAt):=⟨_,_,rfl,by rw [hR,if_pos c1]⟩
  refine a1O (cap:=[]) (λargs w=>call56 args w) (a1y (Fi:=[bx gr 125 (f9 y)]) (Fr:=[bx gO 25 (q7 v),bx gE 32 [vi 0],bx gA 47 (p9 pl')]) I10 (b0c rd (K:=λ_=>False) kw gr) (λv H2 Fo w8 I8 l2 _ q=>?_) (λc H2 Fo w8 I8 q=>?_))
  ·obtain ⟨_,_,q⟩:=q
   exact q.elim
  ·obtain ⟨_,rfl,c,q,rfl,her⟩:=q
   exact hpan (cO:=q7 v) (cA:=p9 pl') (cE:=[vi 0]) (by kernel_rfl) (by kernel_rfl) (by kernel_rfl) rfl rfl rfl her (((I8.dropF.bring 1).bring 2).bring 1)
 rw [if_neg (λn=>n c1)] at hR
 refine wk (s:=xBin .neq 3 (.tmp 31) (.const (vi 5)) (vi (hd r').d9) (vi 5)) rfl (c7 (v:=.bool false) (by have:=O4 (P:=Tryz.prog) 3 (.tmp 31) (.const (vi 5)) .i64 (hd r').d9 5;rw [decide_eq_true c1] at this;exact this) ?_)
 refine wp_cond (t:=false) (by kernel_rfl) (wp_skip ?_)
 apply wp_seq
 apply wp_seq
 apply wp_region
 refine wk (s:=pure (.value (.func (.func 21) #[] #[]))) rfl (c7 (a1p _) ?_)
 refine wk (s:=xV (Instr.loadAt 25 (rQ gO))) rfl (d7 (lW isAgg25 sizeOf25 rfl (I10.bring 1)) ?_)
 refine wk (s:=xCall (.func (.func 21) #[] #[]) [.agg (q7 v).toArray]) rfl (f7 call21 (hchk rfl I10.le eo ra) I10 ?_)
 rintro _ H4 _ w11 I11 _ _ ⟨ec,rfl,rfl,l4,rfl⟩
 apply wp_block
 apply wp_seq
 apply wp_region
 by_cases c2:chk b=32
 ·refine wk (s:=xBin .eql 32 (.tmp 37) (.const (vi 32)) (vi (chk b)) (vi 32)) rfl (c7 (v:=.bool true) (by have:=o9 (P:=Tryz.prog) 32 (.tmp 37) (.const (vi 32)) .i64 (chk b) 32;rw [decide_eq_true c2] at this;exact this) ?_)
  refine wk (s:=pure (.value (.bool true))) rfl (c7 (a1p _) ?_)
  refine wp_cond (t:=true) (by kernel_rfl) ?_
  apply wp_region
  refine wk (s:=pure (.value (rQ gr))) rfl (c7 (a1p _) ?_)
  refine wk (s:=xCall (.func (.func 55) #[] #[]) [rQ gr]) rfl (f7 call55 (nx l4 gr) I11 ?_)
  rintro _ H5 _ w12 I12 _ _ ⟨t,rfl,rfl,rfl,rfl⟩
  refine wk (s:=xV (Instr.field 127 (.agg (m8 (hd r')).toArray) 3)) rfl (c7 (v:=.agg (p9 (hd r').fAt).toArray) (Pu.ok λw=>by kernel_rfl) ?_)
  refine wk (s:=xV (Instr.build 122 #[(0,.agg (p9 (hd r').fAt).toArray),(1,vi 41)])) rfl (c7 (v:=.agg #[vi (hd r').fAt.Q3,vi (hd r').fAt.Z6,vi 41]) (Pu.ok λw=>by kernel_rfl) ?_)
  refine wk (s:=xV (Instr.makeInterface 122 (.agg #[vi (hd r').fAt.Q3,vi (hd r').fAt.Z6,vi 41]))) rfl (c7 (v:=fltV 41 (hd r').fAt) (Pu.ok λw=>by kernel_rfl) ?_)
  refine wk (s:=xV (Instr.panic (fltV 41 (hd r').fAt))) rfl (b6i ?_)
  exact hpan (cO:=q7 v) (cA:=p9 pl') (cE:=[vi 0]) (by kernel_rfl) (by kernel_rfl) (by kernel_rfl) rfl rfl rfl (by rw [hR,if_pos c2]) (((I12.drop.bring 1).bring 2).bring 1)
 rw [if_neg c2] at hR
 refine wk (s:=xBin .eql 32 (.tmp 37) (.const (vi 32)) (vi (chk b)) (vi 32)) rfl (c7 (v:=.bool false) (by have:=o9 (P:=Tryz.prog) 32 (.tmp 37) (.const (vi 32)) .i64 (chk b) 32;rw [decide_eq_false c2] at this;exact this) ?_)
 refine wk (s:=pure (.value (.bool false))) rfl (c7 (a1p _) ?_)
 refine wp_cond (t:=false) (by kernel_rfl) ?_
 apply wp_seq
 apply wp_region
 by_cases c3:chk b=33
 ·refine wk (s:=xBin .eql 32 (.tmp 37) (.const (vi 33)) (vi (chk b)) (vi 33)) rfl (c7 (v:=.bool true) (by have:=o9 (P:=Tryz.prog) 32 (.tmp 37) (.const (vi 33)) .i64 (chk b) 33;rw [decide_eq_true c3] at this;exact this) ?_)
  refine wk (s:=pure (.value (.bool true))) rfl (c7 (a1p _) ?_)
  refine wp_cond (t:=true) (by kernel_rfl) ?_
  apply wp_region
  refine wk (s:=pure (.value (rQ gr))) rfl (c7 (a1p _) ?_)
  refine wk (s:=xCall (.func (.func 55) #[] #[]) [rQ gr]) rfl (f7 call55 (nx l4 gr) I11 ?_)
  rintro _ H5 _ w12 I12 _ _ ⟨t,rfl,rfl,rfl,rfl⟩
  refine wk (s:=xV (Instr.field 127 (.agg (m8 (hd r')).toArray) 3)) rfl (c7 (v:=.agg (p9 (hd r').fAt).toArray) (Pu.ok λw=>by kernel_rfl) ?_)
  refine wk (s:=xV (Instr.build 122 #[(0,.agg (p9 (hd r').fAt).toArray),(1,vi 42)])) rfl (c7 (v:=.agg #[vi (hd r').fAt.Q3,vi (hd r').fAt.Z6,vi 42]) (Pu.ok λw=>by kernel_rfl) ?_)
  refine wk (s:=xV (Instr.makeInterface 122 (.agg #[vi (hd r').fAt.Q3,vi (hd r').fAt.Z6,vi 42]))) rfl (c7 (v:=fltV 42 (hd r').fAt) (Pu.ok λw=>by kernel_rfl) ?_)
  refine wk (s:=xV (Instr.panic (fltV 42 (hd r').fAt))) rfl (b6i ?_)
  exact hpan (cO:=q7 v) (cA:=p9 pl') (cE:=[vi 0]) (by kernel_rfl) (by kernel_rfl) (by kernel_rfl) rfl rfl rfl (by rw [hR,if_pos c3]) (((I12.drop.bring 1).bring 2).bring 1)
 rw [if_neg c3] at hR
 refine wk (s:=xBin .eql 32 (.tmp 37) (.const (vi 33)) (vi (chk b)) (vi 33)) rfl (c7 (v:=.bool false) (by have:=o9 (P:=Tryz.prog) 32 (.tmp 37) (.const (vi 33)) .i64 (chk b) 33;rw [decide_eq_false c3] at this;exact this) ?_)
 refine wk (s:=pure (.value (.bool false))) rfl (c7 (a1p _) ?_)
 refine wp_cond (t:=false) (by kernel_rfl) (wp_skip ?_)
 apply wp_seq
 apply wp_region
 refine wk (s:=xV (Instr.loadAt 25 (rQ gO))) rfl (d7 (lW isAgg25 sizeOf25 rfl (I11.bring 1)) ?_)
 refine wk (s:=xV (Instr.build 47 #[])) rfl (c7 (v:=.agg (p9 ⟨0,0⟩).toArray) (Pu.ok λw=>by kernel_rfl) ?_)
 refine wk (s:=xU (Instr.storeAt 25 (rQ gO) (.agg (q7 v).toArray))) rfl (H9 (I11.bring 1) sizeOf25 (vs:=q7 v) (cs':=q7 v) rfl rfl (nb rfl) rfl rfl λw12 I12 _=>?_)
 refine wk (s:=xU (Instr.storeAt 47 (rQ gA) (.agg (p9 ⟨0,0⟩).toArray))) rfl (H9 (I12.bring 3) sizeOf47 (vs:=p9 ⟨0,0⟩) (cs':=p9 ⟨0,0⟩) rfl rfl (nb rfl) rfl rfl λw13 I13 _=>?_)
 refine wk (s:=xU (Instr.storeAt 32 (rQ gE) (vi 0))) rfl (H9 (I13.bring 3) sizeOf32 (vs:=[vi 0]) (cs':=[vi 0]) rfl rfl (nb rfl) rfl rfl λw14 I14 _=>?_)
 refine wp_ret (leaves_cons (f:=54) (args:=#[rQ gO,rQ gA,rQ gE]) (λh=>by cases h) (call54 _ w14) ?_)
 refine (c4t gO gA gE w14).mono λe1 u' w15 q5=>?_
 obtain ⟨rfl,rfl,rfl⟩:=q5
 exact fin (r0:=v) (r1:=⟨0,0⟩) (r2:=0) (by kernel_rfl) (by kernel_rfl) (by kernel_rfl) (((I14.bring 3).drop.bring 1).bring 2) (k3 rfl b hR _ v (I14.le) (hle l4 ra))
end
def TkOK(t:Tok):Prop:=t.N9.size<=65536/\a0h t.A6
def TkL(r:List Tok):Prop:=∀t∈r,TkOK t
theorem d0d:∀{l:List Tok}{e:Tok},(∀t∈l,t.d9≠5)->e.d9=5->WfT (l++[e])
 | [],e,_,he=>he
 | [t],e,h,he=>⟨h t (by simp),he⟩
 | t::u::l,e,h,he=>⟨h t (by simp),d0d (l:=u::l) (λx hx=>h x (List.mem_cons_of_mem _ hx)) he⟩
section
variable {s:BA}
theorem d1H(p q:Nat):(s.extract p q).size<=s.size:=by simp only [ByteArray.size_extract];omega
theorem e1k(hs:s.size<=65536){p:Nat}(h:(oneO s p).err=0):(oneO s p).kind≠5/\(oneO s p).text.size<=65536/\a0h (oneO s p).num:=by
 have hx:∀p q,(s.extract p q).size<=65536:=λp q=>Nat.le_trans (d1H p q) hs
 unfold oneO at h ⊢
 split at h
 ·rename_i c
  rw [if_pos c]
  unfold wordO at h ⊢
  split at h
  ·rename_i c2;rw [if_pos c2];exact ⟨by show (3:Int)≠5;decide,hx _ _,by show a0h 0;decide⟩
  rename_i c2
  rw [if_neg c2]
  split at h
  ·cases h
  ·rename_i c3;rw [if_neg c3];exact ⟨by show (1:Int)≠5;decide,hx _ _,by show a0h 0;decide⟩
 rename_i c
 rw [if_neg c]
 split at h
 ·rename_i c2
  rw [if_pos c2]
  unfold numO at h ⊢
  split at h
  ·cases h
  ·rename_i c3
   rw [if_neg c3]
   refine ⟨by show (2:Int)≠5;decide,hx _ _,?_⟩
   show a0h ((dg s p 0).2:Int)
   unfold a0h
   omega
 rename_i c2
 rw [if_neg c2]
 split at h
 ·rename_i c3
  rw [if_pos c3]
  unfold signO at h ⊢
  split at h
  ·rename_i c4;rw [if_pos c4];exact ⟨by show (4:Int)≠5;decide,hx _ _,by show a0h 0;decide⟩
  rename_i c4
  rw [if_neg c4]
  split at h
  ·cases h
  ·rename_i c5;rw [if_neg c5];exact ⟨by show (4:Int)≠5;decide,hx _ _,by show a0h 0;decide⟩
 ·cases h
theorem d4H(hs:s.size<=65536):∀(f p:Nat)(a:Int×Int)(out:List Tk),s.size+1-p<=f->p<=s.size->out.length<=32768->(∀t∈out,t.kind≠5/\t.text.size<=65536/\a0h t.num)->(tkF s f p a out).2.2=0->
  ∃init last,(tkF s f p a out).1=init++[last]/\(∀t∈init,t.kind≠5/\t.text.size<=65536/\a0h t.num)/\last.kind=5/\last.text.size<=65536/\a0h last.num/\init.length<=32768
 | 0,p,a,out,hf,hp,_,_,_=>by omega
 | f+1,p,a,out,hf,hp,hl,ho,he=>by
  have hk:=c2V hp
  rw [tkF] at he ⊢
  split at he
  ·rename_i c
   rw [if_pos c]
   exact ⟨out,_,rfl,ho,rfl,by show (0:Nat)<=65536;decide,by show a0h 0;decide,hl⟩
  rename_i c
  rw [if_neg c]
  split at he
  ·cases he
  rename_i c2
  rw [if_neg c2]
  split at he
  ·rename_i c3;exact absurd he c3
  rename_i c3
  rw [if_neg c3]
  have c3':(oneO s (sk s p)).err=0:=Classical.byContradiction c3
  have hst:=b8C (s:=s) (p:=sk s p) (by omega) c3'
  refine d4H hs f _ _ _ (by omega) hst.2 (by simp;omega) ?_ he
  intro t ht
  rcases List.mem_append.1 ht with q | q
  ·exact ho t q
  ·rw [List.mem_singleton.1 q]
   exact e1k hs c3'
theorem c7F(h:(tkS s).2.2=0):WfT ((tkS s).1.map tkv)/\((tkS s).1.map tkv).length<=big/\TkL ((tkS s).1.map tkv):=by
 unfold tkS at h ⊢
 split at h
 ·cases h
 rename_i c
 rw [if_neg c]
 split at h
 ·cases h
 rename_i hc
 obtain ⟨init,last,e,h1,h2,h3,h4,h5⟩:=d4H (s:=s) (by omega) _ _ _ [] (by omega) (by omega) (by simp) (by simp) h
 rw [e,List.map_append,List.map_singleton]
 refine ⟨d0d (λt ht=>?_) h2,by simp [big];omega,λt ht=>?_⟩
 ·obtain ⟨u,hu,rfl⟩:=List.mem_map.1 ht
  exact (h1 u hu).1
 ·rcases List.mem_append.1 ht with q | q
  ·obtain ⟨u,hu,rfl⟩:=List.mem_map.1 q
   exact (h1 u hu).2
  ·rw [List.mem_singleton.1 q]
   exact ⟨h3,h4⟩
end
def SmP{α:Type}(G:α->Prop)(p:PM α):Prop:=∀r a r',TkL r->p r=.ok (a,r')->G a/\TkL r'
theorem TkL.tail{r:List Tok}(h:TkL r):TkL r.tail:=λt ht=>h t (List.mem_of_mem_tail ht)
theorem TkL.hd{r:List Tok}(h:TkL r):TkOK (hd r):=by
 cases r with
 | nil=>exact ⟨by show (0:Nat)<=65536;decide,by show a0h 0;decide⟩
 | cons t r=>exact h t (by simp)
theorem SmP.bind{α β:Type}{G:α->Prop}{G2:β->Prop}{p:PM α}{f:α->PM β}(hp:SmP G p)(hf:∀a,G a->SmP G2 (f a)):SmP G2 (bindP p f):=λr b r' ht h=>by
 obtain ⟨a,r1,h1,h2⟩:=bind_ok h
 obtain ⟨ga,t1⟩:=hp _ _ _ ht h1
 exact hf a ga _ _ _ t1 h2
theorem a5U{α:Type}{G:α->Prop}{a:α}(h:G a):SmP G (pureP a):=λr b r' ht e=>by cases e;exact ⟨h,ht⟩
theorem a7d(s:BA):SmP (λ_=>True) (mustP s):=λr b r' ht h=>by
 unfold mustP at h
 split at h
 ·cases h;exact ⟨trivial,ht.tail⟩
 ·cases h
theorem c4v{α:Type}{G:α->Prop}(b:List Tok->Bool):SmP G (deadE (α:=α) b):=λr a r' _ h=>by
 unfold deadE at h
 split at h<;>cases h
theorem c0M{k n:Int}{s:BA}{ts:List PT}(hs:s.size<=65536)(hn:a0h n)(h:∀t∈ts,Sm t):Sm (eX k n s ts):=.mk ⟨by show s.size<=sml;simp only [sml];omega,hn⟩ h
theorem c3s{k n:Int}{es cs:List PT}(he:∀t∈es,Sm t)(hc:∀t∈cs,Sm t):Sm (cX k n es cs):=.mk ⟨by show (0:Nat)<=sml;simp only [sml];omega,by show a0h 0;decide⟩ λt ht=>by
 rcases List.mem_append.1 ht with q | q
 ·exact he t q
 ·exact hc t q
theorem b8O{k:Int}{s:BA}{es cs vs ws:List PT}(hs:s.size<=65536)(he:∀t∈es,Sm t)(hc:∀t∈cs,Sm t)(hv:∀t∈vs,Sm t)(hw:∀t∈ws,Sm t):Sm (sX k s es cs vs ws):=.mk ⟨by show s.size<=sml;simp only [sml];omega,by show a0h 0;decide⟩ λt ht=>by
 simp only [List.mem_append] at ht
 rcases ht with q | q | q | q
 ·exact hc t q
 ·exact he t q
 ·exact hv t q
 ·exact hw t q
theorem b1Q{t:PT}(h:Sm t):∀u∈[t],Sm u:=λu hu=>by rw [List.mem_singleton.1 hu];exact h
theorem c7G{t t':PT}(h:Sm t)(h':Sm t'):∀u∈[t,t'],Sm u:=λu hu=>by
 simp only [List.mem_cons,List.not_mem_nil,or_false] at hu
 rcases hu with rfl | rfl
 ·exact h
 ·exact h'
theorem T8:∀u∈([]:List PT),Sm u:=λu hu=>by cases hu
theorem e0:(⟨#[]⟩:BA).size<=65536:=by show (0:Nat)<=65536;decide
theorem c5b{w:List Tok->Int}{part:PM PT}(hp:SmP Sm part):∀(n:Nat)(e:PT),Sm e->SmP Sm (chainF w part n e)
 | 0,e,he=>λr b r' ht h=>by cases h;exact ⟨he,ht⟩
 | n+1,e,he=>λr b r' ht h=>by
  unfold chainF at h
  split at h
  ·cases h;exact ⟨he,ht⟩
  ·exact SmP.bind hp (λa ha=>c5b hp n _ (c0M e0 (by decide) (c7G he ha))) _ _ _ ht.tail h
theorem c5c{s:BA}{k:Int}{part:PM PT}(hp:SmP Sm part):∀(n:Nat)(e:PT),Sm e->SmP Sm (joinsF s k part n e)
 | 0,e,he=>λr b r' ht h=>by cases h;exact ⟨he,ht⟩
 | n+1,e,he=>λr b r' ht h=>by
  unfold joinsF at h
  split at h
  ·exact SmP.bind hp (λa ha=>c5c hp n _ (c3s T8 (c7G he ha))) _ _ _ ht.tail h
  ·cases h;exact ⟨he,ht⟩
theorem b6t{w:List Tok->Int}{part:PM PT}(hp:SmP Sm part):SmP Sm (chainP w part):=hp.bind λe he r _ _ ht h=>c5b hp r.length e he _ _ _ ht h
theorem b6u{s:BA}{k:Int}{part:PM PT}(hp:SmP Sm part):SmP Sm (joinsP s k part):=hp.bind λe he r _ _ ht h=>c5c hp r.length e he _ _ _ ht h
theorem d6C{f:PM PT}(hf:SmP Sm f):SmP Sm (factS f):=λr a r' ht h=>by
 have he:SmP Sm (exprOf f):=b6t (b6t hf)
 have t1:=ht.hd
 unfold factS at h
 split at h
 ·cases h
 split at h
 ·exact (hf.bind λe h=>a5U (c0M e0 (by decide) (b1Q h))) _ _ _ ht.tail h
 split at h
 ·exact (he.bind λe h=>(a7d _).bind λ_ _=>a5U h) _ _ _ ht.tail h
 split at h
 ·cases h;exact ⟨c0M e0 (by decide) T8,ht.tail⟩
 split at h
 ·cases h;exact ⟨c0M e0 t1.2 T8,ht.tail⟩
 split at h
 ·exact (he.bind λe h=>(a7d _).bind λ_ _=>a5U (c0M t1.1 (by decide) (b1Q h))) _ _ _ ht.tail.tail h
 ·cases h;exact ⟨c0M t1.1 (by decide) T8,ht.tail⟩
theorem c7H:∀g,SmP Sm (factP g)
 | 0=>c4v _
 | g+1=>d6C (c7H g)
theorem c2d(g:Nat):SmP Sm (exprP g):=b6t (b6t (c7H g))
theorem e1l:SmP (λ_=>True) relP:=λr a r' ht h=>by
 unfold relP at h
 split at h
 ·cases h
 ·cases h;exact ⟨trivial,ht.tail⟩
theorem e1m{l ex:PM PT}(hl:SmP Sm l)(hx:SmP Sm ex):SmP Sm (litS l ex):=λr a r' ht h=>by
 have hc:SmP Sm (condOf l):=b6u (b6u hl)
 unfold litS at h
 split at h
 ·cases h
 split at h
 ·cases h;exact ⟨c3s T8 T8,ht.tail⟩
 split at h
 ·cases h;exact ⟨c3s T8 T8,ht.tail⟩
 split at h
 ·exact (hl.bind λe h=>a5U (c3s T8 (b1Q h))) _ _ _ ht.tail h
 split at h
 ·exact (hc.bind λe h=>(a7d _).bind λ_ _=>a5U h) _ _ _ ht.tail h
 ·exact (hx.bind λa ha=>e1l.bind λ_ _=>hx.bind λb hb=>a5U (c3s (c7G ha hb) T8)) _ _ _ ht h
theorem d0e:∀g,SmP Sm (litP g)
 | 0=>c4v _
 | g+1=>e1m (d0e g) (c2d _)
theorem d6D(g:Nat):SmP Sm (condP g):=b6u (b6u (d0e g))
def SmL(l:List PT):Prop:=∀t∈l,Sm t
theorem b9Y{stop:List Tok->Bool}{st:PM PT}(hs:SmP Sm st):∀(n:Nat)(l:List PT),SmL l->SmP SmL (stmtsF stop st n l)
 | 0,l,hl=>λr b r' ht h=>by cases h;exact ⟨hl,ht⟩
 | n+1,l,hl=>λr b r' ht h=>by
  unfold stmtsF at h
  split at h
  ·cases h;exact ⟨hl,ht⟩
  ·exact SmP.bind hs (λa ha=>b9Y hs n _ λt ht=>by
    rcases List.mem_append.1 ht with q | q
    ·exact hl t q
    ·rw [List.mem_singleton.1 q];exact ha) _ _ _ ht h
theorem d1I{st:PM PT}(hs:SmP Sm st):SmP SmL (blockOf st):=(a7d _).bind λ_ _=>SmP.bind (G:=SmL) (λr _ _ ht h=>b9Y hs r.length [] T8 _ _ _ ht h) λl hl r _ r' ht h=>by
 cases h;exact ⟨hl,ht.tail⟩
theorem c0N{s:PT}(h:Sm s):SmP Sm (endS s):=(a7d _).bind λ_ _=>a5U h
theorem d0f{k:Int}{s:BA}{es:List PT}{ex:PM PT}(hs:s.size<=65536)(he:SmL es)(hx:SmP Sm ex):SmP Sm (setS k s es ex):=(a7d _).bind λ_ _=>hx.bind λe h=>c0N (b8O hs (λt ht=>by
 rcases List.mem_append.1 ht with q | q
 ·exact he t q
 ·rw [List.mem_singleton.1 q];exact h) T8 T8 T8)
theorem d6E{st sub ex co:PM PT}(hs:SmP Sm st)(hb:SmP Sm sub)(hx:SmP Sm ex)(hc:SmP Sm co):SmP Sm (stmtS st sub ex co):=λr a r' ht h=>by
 have t1:=ht.hd
 have hbl:=d1I hs
 unfold stmtS at h
 split at h
 ·cases h
 split at h
 ·split at h
  ·exact (hb.bind λe h=>(a7d _).bind λ_ _=>d0f t1.1 (b1Q h) hx) _ _ _ ht.tail.tail h
  ·exact d0f t1.1 T8 hx _ _ _ ht.tail h
 split at h
 ·refine (hc.bind λc hc'=>hbl.bind λth hth r1 a1 r2 ht1 h1=>?_) _ _ _ ht.tail h
  split at h1
  ·exact (hbl.bind λel hel=>a5U (b8O e0 T8 (b1Q hc') hth hel)) _ _ _ ht1.tail h1
  ·cases h1;exact ⟨b8O e0 T8 (b1Q hc') hth T8,ht1⟩
 split at h
 ·exact (hc.bind λc hc'=>hbl.bind λth hth=>a5U (b8O e0 T8 (b1Q hc') hth T8)) _ _ _ ht.tail h
 split at h
 ·exact (hc.bind λc hc'=>c0N (b8O e0 T8 (b1Q hc') T8 T8)) _ _ _ ht.tail h
 split at h
 ·exact (hc.bind λc hc'=>c0N (b8O e0 T8 (b1Q hc') T8 T8)) _ _ _ ht.tail h
 ·exact c0N (b8O e0 T8 T8 T8 T8) _ _ _ ht.tail h
theorem c7I:∀g,SmP Sm (stmtP g)
 | 0=>c4v _
 | g+1=>d6E (c7I g) (c2d _) (c2d _) (d6D _)
abbrev toks(s:BA):List Tok:=(tkS s).1.map tkv
def ansR{β:Type}(p:PM β)(chk:β->Int)(s:BA):Except Flt β:=if (tkS s).2.2=0 then readsR p chk (toks s) else .error ((tkS s).2.2,plv (tkS s).2.1)
def Ans{α β:Type}(H:Hp)(z:α)(RR:Hp->α->β->Prop)(o:Except Flt β)(K:α->f8->Int->Hp->Prop):Prop:=match o with
 | .error (c,q)=>∀H',Hle H H'->K z q c H'
 | .ok b=>∀H' v,Hle H H'->RR H' v b->K v ⟨0,0⟩ 0 H'
section
variable {H:Hp}{s:BA}
theorem Ans.rd{α β:Type}{z:α}{RR:Hp->α->β->Prop}{p:PM β}{chk:β->Int}{K:α->f8->Int->Hp->Prop}(h:Ans H z RR (ansR p chk s) K)(he:(tkS s).2.2=0):Ans H z RR (readsR p chk (toks s)) K:=by
 unfold ansR at h
 rw [if_pos he] at h
 exact h
end
set_option maxHeartbeats 2000000
abbrev zP:o8:=o8.mk (Sl.mk none 0 0) (Sl.mk none 0 0)
abbrev chkP(q:PP):Int:=toldS q.nodes
abbrev gD(d:j9):Prop:=d.o7.size<=65536
theorem d6F(arr:Bool):SmP gD (declP arr):=λr a r' ht h=>by
 have t1:=ht.hd
 unfold declP at h
 split at h
 ·cases h
 split at h
 ·refine (SmP.bind (G2:=gD) (a7d _) λ_ _ r1 a1 r2 ht1 h1=>?_) _ _ _ ht.tail h
  split at h1
  ·cases h1
  ·exact ((a7d _).bind λ_ _=>(a7d _).bind λ_ _=>a5U (G:=gD) t1.1) _ _ _ ht1.tail h1
 ·exact ((a7d _).bind λ_ _=>a5U (G:=gD) t1.1) _ _ _ ht.tail h
theorem c5d:∀(n:Nat)(l:List j9),(∀d∈l,d.o7.size<=65536)->SmP (λl:List j9=>∀d∈l,d.o7.size<=65536) (declsF n l)
 | 0,l,hl=>λr b r' ht h=>by cases h;exact ⟨hl,ht⟩
 | n+1,l,hl=>λr b r' ht h=>by
  unfold declsF at h
  split at h
  ·exact SmP.bind (d6F _) (λa ha=>c5d n _ λt ht=>by
    rcases List.mem_append.1 ht with q | q
    ·exact hl t q
    ·rw [List.mem_singleton.1 q];exact ha) _ _ _ ht.tail h
  ·cases h;exact ⟨hl,ht⟩
theorem d6G:SmP PP.Sm progP:=SmP.bind (G:=λl:List j9=>∀d∈l,d.o7.size<=65536) (λr _ _ ht h=>c5d r.length [] (λ_ q=>(by cases q)) _ _ _ ht h) λds hd=>SmP.bind (G:=SmL) (λr _ _ ht h=>b9Y (c7I 40) r.length [] T8 _ _ _ ht h) λb hb=>a5U λt ht=>by
 rcases List.mem_append.1 ht with q | q
 ·obtain ⟨u,hu,rfl⟩:=List.mem_map.1 q
  exact .mk ⟨by show u.o7.size<=sml;have:=hd u hu;simp only [sml];omega,by show a0h 0;decide⟩ T8
 ·exact hb t q
section
variable {H:Hp}{s:BA}
theorem c7J(hT:TabsH H)(hE:ErrH H)(hs4:s.size<=4194304){K:o8->f8->Int->Hp->Prop}(h:Ans H zP PH (ansR progP chkP s) K):a7z s H K:=by
 refine b8m _ (d1G (p:=progP) (chk:=chkP) (RR:=PH) (toks:=toks s) (pl:=plv (tkS s).2.1) (er:=(tkS s).2.2) (d3L hT hE hs4 λe H' l hs=>⟨l,hs,rfl,rfl⟩) (λhe=>⟨(c7F he).1,(c7F he).2.1⟩) (λrd k=>e1j rd k) (λ{H' v b r'} he l eo ra=>?_) (λl ra=>ra.le l) (λhe H' l=>?_) (λhe c q eo H' l=>?_) λhe b eo H' v l ra=>?_)
 ·exact c1J (hT.le l) ra (d6G _ _ _ (c7F he).2.2 eo).1 λH'' l2=>⟨l2,c4e _⟩
 ·unfold ansR at h;rw [if_neg he] at h;exact h H' l
 ·have h:=h.rd he;rw [eo] at h;exact h H' l
 ·have h:=h.rd he;rw [eo] at h;exact h H' v l ra
end
def Dr(s:BA)(p:Nat)(l:List UInt8):Prop:=s.data.toList.drop p=l
section
variable {s:BA}
theorem Dr.cons{p:Nat}{c:UInt8}{l:List UInt8}(h:Dr s p (c::l)):p < s.size/\s.get! p=c/\Dr s (p+1) l:=by
 unfold Dr at h ⊢
 have hp:p < s.size:=by
  rcases Nat.lt_or_ge p s.size with q | q
  ·exact q
  ·rw [List.drop_eq_nil_of_le (by rw [Array.length_toList];exact q)] at h;cases h
 rw [b2B hp] at h
 injection h with h1 h2
 exact ⟨hp,h1,h2⟩
theorem Dr.app:∀(l r:List UInt8){p:Nat},Dr s p (l++r)->Dr s (p+l.length) r
 | [],_,_,h=>h
 | c::l,r,p,h=>by
  have:=Dr.app l r h.cons.2.2
  rw [List.length_cons,show p+(l.length+1)=p+1+l.length by omega]
  exact this
theorem Dr.nil{p:Nat}(h:Dr s p []):s.size<=p:=by
 have:=congrArg List.length h
 rw [List.length_drop,Array.length_toList,List.length_nil] at this
 have e:s.data.size=s.size:=rfl
 omega
theorem Dr.le{p:Nat}{l:List UInt8}(h:Dr s p l)(hp:p<=s.size):p+l.length=s.size:=by
 have:=congrArg List.length h
 rw [List.length_drop,Array.length_toList] at this
 have e:s.data.size=s.size:=rfl
 omega
theorem Dr.asc{p:Nat}{c:UInt8}{l:List UInt8}(h:Dr s p (c::l))(hc:c.toNat < 128):rn s p=(c.toNat:Int)/\wd s p=1:=by
 have h1:=h.cons.2.1
 have:=b0D (s:=s) (p:=p) (by unfold by8;rw [h1];exact hc)
 unfold by8 at this
 rw [h1] at this
 exact this
theorem Dr.by8{p:Nat}{c:UInt8}{l:List UInt8}(h:Dr s p (c::l)):by8 s p=c.toNat:=by
 show (s.get! p).toNat=_
 rw [h.cons.2.1]
theorem chkN{p:Nat}(hp:p < s.size)(h:rn s p≠65533):chkAt s p=chkAt s (p+wd s p):=by
 rw [a9U s p hp,if_neg (λx=>h (by show ((Utf8.decode s p).1:Int)=65533;rw [x.1];rfl))]
theorem Dr.cut(w:List UInt8){r:List UInt8}{p:Nat}(h:Dr s p (w++r)):s.extract p (p+w.length)=⟨w.toArray⟩:=by
 apply ByteArray.ext
 apply Array.toList_inj.1
 rw [a7P,show p+w.length-p=w.length by omega]
 have:s.data.toList.drop p=w++r:=h
 rw [this,List.take_left']
 rfl
def lineL(w:List UInt8):Bool:=w.all λc=>decide (c.toNat < 128) && !decide (c.toNat=10)
theorem d0g:∀(w:List UInt8){r:List UInt8}{p:Nat}{a:Int×Int},lineL w=true->Dr s p (w++r)->Go2 s p a (p+w.length) (a.1,a.2+w.length)/\chkAt s p=chkAt s (p+w.length)
 | [],r,p,a,_,h=>by
  refine ⟨?_,rfl⟩
  rw [show (a.1,a.2+(([]:List UInt8).length:Int))=a from Prod.ext rfl (by simp)]
  exact .refl
 | c::w,r,p,a,hw,h=>by
  unfold lineL at hw
  rw [List.all_cons,Bool.and_eq_true,Bool.and_eq_true,decide_eq_true_eq,Bool.not_eq_true',decide_eq_false_iff_not] at hw
  obtain ⟨⟨w1,w2⟩,w3⟩:=hw
  obtain ⟨p0,_,h1⟩:=h.cons
  obtain ⟨r0,w0⟩:=h.asc w1
  have g0:=Go2.one (s:=s) (a:=a) p0
  rw [w0,r0] at g0
  have e:stepP a (c.toNat:Int)=(a.1,a.2+1):=by unfold stepP;rw [if_neg (by omega)]
  rw [e] at g0
  obtain ⟨i1,i2⟩:=d0g w (a:=(a.1,a.2+1)) w3 h1
  rw [show p+(c::w).length=p+1+w.length by rw [List.length_cons];omega]
  refine ⟨?_,?_⟩
  ·have:=g0.trans i1
   rw [show ((a.1,a.2+1):Int×Int).2+(w.length:Int)=a.2+((c::w).length:Int) by rw [List.length_cons];show a.2+1+(w.length:Int)=_;omega] at this
   exact this
  ·rw [chkN p0 (by rw [r0];omega),w0];exact i2
end
theorem d6H(l:List UInt8):(⟨l.toArray⟩:BA).size=l.length:=by show l.toArray.size=_;simp
inductive Pc where
 | sg (c:UInt8)
 | dg (c:UInt8)
 | wd (w:List UInt8) (k:Int)
 | sp
def Pc.by_:Pc->List UInt8
 | .sg c=>[c]
 | .dg c=>[c]
 | .wd w _=>w
 | .sp=>[32]
def Pc.tk(p:Nat):Pc->List Tk
 | .sg c=>[⟨4,⟨#[c]⟩,0,(1,(p:Int)+1)⟩]
 | .dg c=>[⟨2,⟨#[c]⟩,(c.toNat:Int)-48,(1,(p:Int)+1)⟩]
 | .wd w k=>[⟨k,⟨w.toArray⟩,0,(1,(p:Int)+1)⟩]
 | .sp=>[]
def offB(d:Option UInt8):Bool:=match d with
 | none=>true
 | some c=>decide (c.toNat < 128) && !goesS c.toNat
def Pc.ok(d:Option UInt8):Pc->Bool
 | .sg c=>(decide (c.toNat < 128)&&decide (classS c.toNat=5))&&((!decide (c.toNat=38) && !decide (c.toNat=124)) && !decide (d=some 61))
 | .dg c=>(decide (48<=c.toNat)&&decide (c.toNat<=57))&&offB d
 | .wd w k=>((lineL w&&w.all λc=>goesS c.toNat)&&(decide (w.length<=32)&&decide (classS (w.headD 0).toNat=3)))&&(decide (k=if wordS ⟨w.toArray⟩ then 3 else 1)&&offB d)
 | .sp=>true
section
variable {s:BA}
theorem c7K{p:Nat}{r:List UInt8}(h:Dr s p r)(ho:offB r.head? = true)(hp:p<=s.size):¬(p < s.size/\goesS (rn s p)=true)/\¬(p < s.size/\48<=by8 s p/\by8 s p<=57)/\¬(p < s.size/\classS (rn s p)=3):=by
 cases r with
 | nil=>
  have:=h.nil
  exact ⟨λx=>by omega,λx=>by omega,λx=>by omega⟩
 | cons c r=>
  have ho:(decide (c.toNat < 128) && !goesS c.toNat)=true:=ho
  rw [Bool.and_eq_true,decide_eq_true_eq,Bool.not_eq_true'] at ho
  obtain ⟨o1,o2⟩:=ho
  have r0:=(h.asc o1).1
  have hb:=h.by8
  have o3:=o2
  unfold goesS at o3
  rw [Bool.or_eq_false_iff,decide_eq_false_iff_not,decide_eq_false_iff_not] at o3
  refine ⟨λx=>?_,λx=>?_,λx=>?_⟩
  ·rw [r0,o2] at x;exact absurd x.2 (by decide)
  ·have x2:=x.2
   rw [hb] at x2
   refine o3.2 ?_
   have hall:∀n:Nat,n < 58->48<=n->classS (n:Int)=4:=by decide
   exact hall _ (by omega) x2.1
  ·rw [r0] at x;exact o3.1 x.2
end
def TkG(t:Tok):Prop:=(t.d9=1->nameS t.N9=true)/\0<=t.A6
def GdK(r:List Tok):Prop:=∀t∈r,TkG t
theorem GdK.tail{r:List Tok}(h:GdK r):GdK r.tail:=λt ht=>h t (List.mem_of_mem_tail ht)
theorem GdK.hd{r:List Tok}(h:GdK r):TkG (hd r):=by
 cases r with
 | nil=>exact ⟨λe=>absurd e (by decide),by decide⟩
 | cons t r=>exact h t (by simp)
section
variable {s:BA}
end
def Gd(t:PT):Prop:=formT t=true/\namesT t=true
def GdL(ts:List PT):Prop:=formTs ts=true/\namesTs ts=true
def FmP{α:Type}(G:α->Prop)(p:PM α):Prop:=∀r a r',GdK r->p r=.ok (a,r')->G a/\GdK r'
theorem FmP.bind{α β:Type}{G:α->Prop}{G2:β->Prop}{p:PM α}{f:α->PM β}(hp:FmP G p)(hf:∀a,G a->FmP G2 (f a)):FmP G2 (bindP p f):=λr b r' ht h=>by
 obtain ⟨a,r1,h1,h2⟩:=bind_ok h
 obtain ⟨ga,t1⟩:=hp _ _ _ ht h1
 exact hf a ga _ _ _ t1 h2
theorem GdL.nil:GdL []:=⟨rfl,rfl⟩
theorem GdL.one{t:PT}(h:Gd t):GdL [t]:=⟨by rw [formTs,formTs,h.1];rfl,by rw [namesTs,namesTs,h.2];rfl⟩
theorem GdL.app{a b:List PT}(h:GdL a)(k:GdL b):GdL (a++b):=⟨by rw [a2u,h.1,k.1];rfl,by rw [c1j,h.2,k.2];rfl⟩
theorem GdL.two{t u:PT}(h:Gd t)(k:Gd u):GdL [t,u]:=GdL.app (GdL.one h) (GdL.one k)
theorem Gd.mk{l:Lab}{cs:List PT}(h:formL l=true)(hn:nameOk l=true)(hc:GdL cs):Gd (.mk l cs):=⟨by rw [formT,h,hc.1];rfl,by rw [namesT,hn,hc.2];rfl⟩
structure Sh3 (s t:BA):Prop where
 sz:t.size=s.size+3
 get:∀p,t.get! (p+3)=s.get! p
 cut:∀p q,t.extract (p+3) (q+3)=s.extract p q
section
variable {s t:BA}(S:Sh3 s t)
include S
theorem Sh3.dec(p:Nat):Utf8.decode t (p+3)=Utf8.decode s p:=by
 rw [Lib.decode_at,Lib.decode_at,S.get p,show p+3+1=p+1+3 by omega,S.get (p+1),show p+3+2=p+2+3 by omega,S.get (p+2),show p+3+3=p+3+3 by omega,S.get (p+3),S.sz,show s.size+3-(p+3)=s.size-p by omega]
theorem Sh3.rn(p:Nat):rn t (p+3)=rn s p:=by show ((Utf8.decode t (p+3)).1:Int)=_;rw [S.dec]
theorem Sh3.wd(p:Nat):wd t (p+3)=wd s p:=by show (Utf8.decode t (p+3)).2=_;rw [S.dec]
theorem Sh3.by8(p:Nat):by8 t (p+3)=by8 s p:=by show (t.get! (p+3)).toNat=_;rw [S.get]
theorem Sh3.whl(is:Int->Bool):∀(f p:Nat)(a:Int×Int),(whl t is f (p+3) a).1=(whl s is f p a).1+3
 | 0,p,a=>rfl
 | f+1,p,a=>by
  rw [Go.Proofs.YthjlehnccgjpoaaGreatDoor.whl,Go.Proofs.YthjlehnccgjpoaaGreatDoor.whl,S.rn,S.wd,S.sz]
  by_cases c:p < s.size/\is (Go.Proofs.YthjlehnccgjpoaaGreatDoor.rn s p)=true
  ·rw [if_pos c,if_pos ⟨by omega,c.2⟩,show p+3+Go.Proofs.YthjlehnccgjpoaaGreatDoor.wd s p=p+Go.Proofs.YthjlehnccgjpoaaGreatDoor.wd s p+3 by omega]
   exact Sh3.whl is f _ _
  ·rw [if_neg c,if_neg (λx=>c ⟨by omega,x.2⟩)]
theorem Sh3.wr(is:Int->Bool)(p:Nat)(a:Int×Int):(Wr t is (p+3) a).1=(Wr s is p a).1+3:=by
 unfold Wr
 rw [S.sz,show s.size+3-(p+3)=s.size-p by omega]
 exact S.whl is _ _ _
theorem Sh3.cntF(is:Int->Bool):∀(f p n:Nat),cntF t is f (p+3) n=cntF s is f p n
 | 0,p,n=>rfl
 | f+1,p,n=>by
  rw [Go.Proofs.YthjlehnccgjpoaaGreatDoor.cntF,Go.Proofs.YthjlehnccgjpoaaGreatDoor.cntF,S.rn,S.wd,S.sz]
  by_cases c:p < s.size/\is (Go.Proofs.YthjlehnccgjpoaaGreatDoor.rn s p)=true
  ·rw [if_pos c,if_pos ⟨by omega,c.2⟩,show p+3+Go.Proofs.YthjlehnccgjpoaaGreatDoor.wd s p=p+Go.Proofs.YthjlehnccgjpoaaGreatDoor.wd s p+3 by omega]
   exact Sh3.cntF is f _ _
  ·rw [if_neg c,if_neg (λx=>c ⟨by omega,x.2⟩)]
theorem Sh3.cnt(is:Int->Bool)(p n:Nat):cnt t is (p+3) n=cnt s is p n:=by
 unfold Go.Proofs.YthjlehnccgjpoaaGreatDoor.cnt
 rw [S.sz,show s.size+3-(p+3)=s.size-p by omega]
 exact S.cntF is _ _ _
theorem Sh3.dgF:∀(f p v:Nat),dgF t f (p+3) v=((dgF s f p v).1+3,(dgF s f p v).2)
 | 0,p,v=>rfl
 | f+1,p,v=>by
  rw [Go.Proofs.YthjlehnccgjpoaaGreatDoor.dgF,Go.Proofs.YthjlehnccgjpoaaGreatDoor.dgF,S.by8,S.sz]
  by_cases c:p < s.size/\48<=Go.Proofs.YthjlehnccgjpoaaGreatDoor.by8 s p/\Go.Proofs.YthjlehnccgjpoaaGreatDoor.by8 s p<=57
  ·rw [if_pos c,if_pos ⟨by omega,c.2⟩,show p+3+1=p+1+3 by omega]
   exact Sh3.dgF f _ _
  ·rw [if_neg c,if_neg (λx=>c ⟨by omega,x.2⟩)]
theorem Sh3.dg(p v:Nat):dg t (p+3) v=((dg s p v).1+3,(dg s p v).2):=by
 unfold Go.Proofs.YthjlehnccgjpoaaGreatDoor.dg
 rw [S.sz,show s.size+3-(p+3)=s.size-p by omega]
 exact S.dgF _ _ _
theorem Sh3.nlF:∀(f p:Nat),nlF t f (p+3)=nlF s f p+3
 | 0,p=>rfl
 | f+1,p=>by
  rw [Go.Proofs.YthjlehnccgjpoaaGreatDoor.nlF,Go.Proofs.YthjlehnccgjpoaaGreatDoor.nlF,S.by8,S.sz]
  by_cases c:p < s.size/\Go.Proofs.YthjlehnccgjpoaaGreatDoor.by8 s p≠10
  ·rw [if_pos c,if_pos ⟨by omega,c.2⟩,show p+3+1=p+1+3 by omega]
   exact Sh3.nlF f _
  ·rw [if_neg c,if_neg (λx=>c ⟨by omega,x.2⟩)]
theorem Sh3.nl(p:Nat):nl t (p+3)=nl s p+3:=by
 unfold Go.Proofs.YthjlehnccgjpoaaGreatDoor.nl
 rw [S.sz,show s.size+3-(p+3)=s.size-p by omega]
 exact S.nlF _ _
theorem Sh3.skF:∀(f p:Nat),skF t f (p+3)=skF s f p+3
 | 0,p=>rfl
 | f+1,p=>by
  rw [Go.Proofs.YthjlehnccgjpoaaGreatDoor.skF,Go.Proofs.YthjlehnccgjpoaaGreatDoor.skF,S.by8,S.sz,S.nl,S.rn,S.wd]
  by_cases c:p < s.size
  ·rw [if_pos c,if_pos (by omega)]
   by_cases c2:Go.Proofs.YthjlehnccgjpoaaGreatDoor.by8 s p=35
   ·rw [if_pos c2,if_pos c2];exact Sh3.skF f _
   ·rw [if_neg c2,if_neg c2]
    by_cases c3:blankS (Go.Proofs.YthjlehnccgjpoaaGreatDoor.rn s p)=true
    ·rw [if_pos c3,if_pos c3,show p+3+Go.Proofs.YthjlehnccgjpoaaGreatDoor.wd s p=p+Go.Proofs.YthjlehnccgjpoaaGreatDoor.wd s p+3 by omega]
     exact Sh3.skF f _
    ·rw [if_neg c3,if_neg c3]
  ·rw [if_neg c,if_neg (by omega)]
theorem Sh3.sk(p:Nat):sk t (p+3)=sk s p+3:=by
 unfold Go.Proofs.YthjlehnccgjpoaaGreatDoor.sk
 rw [S.sz,show s.size+3-(p+3)=s.size-p by omega]
 exact S.skF _ _
theorem Sh3.two(p:Nat):two t (p+3)↔two s p:=by
 unfold Go.Proofs.YthjlehnccgjpoaaGreatDoor.two
 rw [S.sz,S.by8,show p+3+1=p+1+3 by omega,S.by8]
 constructor<;>rintro ⟨h1,h2⟩<;>exact ⟨by omega,h2⟩
theorem Sh3.one(p:Nat):(oneO t (p+3)).err=(oneO s p).err/\(oneO t (p+3)).kind=(oneO s p).kind/\(oneO t (p+3)).text=(oneO s p).text/\(oneO t (p+3)).num=(oneO s p).num/\((oneO s p).err=0->(oneO t (p+3)).stop=(oneO s p).stop+3):=by
 have e0:∀c:Int,c≠0->((On.bad c).err=0->(On.bad c).stop=(On.bad c).stop+3):=λc hc h=>absurd h hc
 unfold oneO
 rw [S.rn]
 by_cases c3:classS (Go.Proofs.YthjlehnccgjpoaaGreatDoor.rn s p)=3
 ·rw [if_pos c3,if_pos c3]
  unfold wordO
  rw [S.wr,S.cut,S.cnt]
  by_cases d:wordS (s.extract p (Wr s goesS p (0,0)).1)=true
  ·rw [if_pos d,if_pos d];exact ⟨rfl,rfl,rfl,rfl,λ_=>rfl⟩
  rw [if_neg d,if_neg d]
  by_cases d2:32 < Go.Proofs.YthjlehnccgjpoaaGreatDoor.cnt s goesS p 0
  ·rw [if_pos d2,if_pos d2];exact ⟨rfl,rfl,rfl,rfl,e0 22 (by decide)⟩
  ·rw [if_neg d2,if_neg d2];exact ⟨rfl,rfl,rfl,rfl,λ_=>rfl⟩
 rw [if_neg c3,if_neg c3]
 by_cases c4:classS (Go.Proofs.YthjlehnccgjpoaaGreatDoor.rn s p)=4
 ·rw [if_pos c4,if_pos c4]
  unfold numO
  rw [S.dg]
  rw [S.by8,S.cut,S.rn,S.sz,Nat.add_sub_add_right]
  simp only [Nat.add_lt_add_iff_right]
  by_cases d:9223372036854775808<=(Go.Proofs.YthjlehnccgjpoaaGreatDoor.dg s p 0).2\/(Go.Proofs.YthjlehnccgjpoaaGreatDoor.by8 s p=48/\1 < (Go.Proofs.YthjlehnccgjpoaaGreatDoor.dg s p 0).1-p)\/((Go.Proofs.YthjlehnccgjpoaaGreatDoor.dg s p 0).1 < s.size/\classS (Go.Proofs.YthjlehnccgjpoaaGreatDoor.rn s (Go.Proofs.YthjlehnccgjpoaaGreatDoor.dg s p 0).1)=3)
  ·rw [if_pos d,if_pos d];exact ⟨rfl,rfl,rfl,rfl,e0 21 (by decide)⟩
  ·rw [if_neg d,if_neg d];exact ⟨rfl,rfl,rfl,rfl,λ_=>rfl⟩
 rw [if_neg c4,if_neg c4]
 by_cases c5:classS (Go.Proofs.YthjlehnccgjpoaaGreatDoor.rn s p)=5
 ·rw [if_pos c5,if_pos c5]
  unfold signO
  rw [S.by8,show p+3+2=p+2+3 by omega,S.cut,show p+3+1=p+1+3 by omega,S.cut]
  by_cases d:Go.Proofs.YthjlehnccgjpoaaGreatDoor.two s p
  ·rw [if_pos d,if_pos ((S.two p).2 d)];exact ⟨rfl,rfl,rfl,rfl,λ_=>rfl⟩
  rw [if_neg d,if_neg (λx=>d ((S.two p).1 x))]
  by_cases d2:Go.Proofs.YthjlehnccgjpoaaGreatDoor.by8 s p=38\/Go.Proofs.YthjlehnccgjpoaaGreatDoor.by8 s p=124
  ·rw [if_pos d2,if_pos d2];exact ⟨rfl,rfl,rfl,rfl,e0 20 (by decide)⟩
  ·rw [if_neg d2,if_neg d2];exact ⟨rfl,rfl,rfl,rfl,λ_=>rfl⟩
 ·rw [if_neg c5,if_neg c5];exact ⟨rfl,rfl,rfl,rfl,e0 20 (by decide)⟩
theorem Sh3.chk:∀(n p:Nat),s.size-p<=n->chkAt t (p+3)=(chkAt s p).map (· + 3):=by
 intro n
 induction n with
 | zero=>
  intro p h
  rw [a7o s _ (by omega),a7o t _ (by rw [S.sz];omega)]
  rfl
 | succ n ih=>
  intro p h
  by_cases hp:p < s.size
  ·have hw:=W6 s p
   rw [a9U s p hp,a9U t _ (by rw [S.sz];omega),S.dec]
   have hb:bad t (p+3)↔bad s p:=by unfold bad;rw [S.dec]
   by_cases c:bad s p
   ·rw [if_pos c,if_pos (hb.2 c)];rfl
   ·rw [if_neg c,if_neg (λx=>c (hb.1 x)),show p+3+(Utf8.decode s p).2=p+(Utf8.decode s p).2+3 by omega]
    exact ih _ (by show s.size-(p+Go.Proofs.YthjlehnccgjpoaaGreatDoor.wd s p)<=n;omega)
  ·rw [a7o s _ (by omega),a7o t _ (by rw [S.sz];omega)]
   rfl
def ktn(k:Tk):Int×BA×Int:=(k.kind,k.text,k.num)
theorem Sh3.tkF:∀(f g p x:Nat)(a b:Int×Int)(out out':List Tk),s.size+1-p<=f->s.size+1-p<=g->p<=s.size->Go.Proofs.YthjlehnccgjpoaaGreatDoor.sk t x=Go.Proofs.YthjlehnccgjpoaaGreatDoor.sk s p+3->out'.map ktn=out.map ktn->
  (tkF t g x b out').1.map ktn=(tkF s f p a out).1.map ktn/\(tkF t g x b out').2.2=(tkF s f p a out).2.2:=by
 intro f
 induction f with
 | zero=>intro g p x a b out out' h _ hp;omega
 | succ f ih=>
  intro g p x a b out out' hf hg hp hx ho
  have hg1:1<=g:=by clear hx;omega
  obtain ⟨g,rfl⟩:∃h,g=h+1:=⟨g-1,(Nat.sub_add_cancel hg1).symm⟩
  have hk:=c2V hp
  have hlen:out'.length=out.length:=by
   have:=congrArg List.length ho
   rw [List.length_map,List.length_map] at this
   exact this
  rw [Go.Proofs.YthjlehnccgjpoaaGreatDoor.tkF,Go.Proofs.YthjlehnccgjpoaaGreatDoor.tkF,hx,S.sz,hlen]
  clear hx
  generalize Go.Proofs.YthjlehnccgjpoaaGreatDoor.sk s p=y at hk ⊢
  obtain ⟨o1,o2,o3,o4,o5⟩:=S.one (y)
  by_cases c:¬y < s.size
  ·rw [if_pos c,if_pos (by omega)]
   exact ⟨by simp only [List.map_append,List.map_cons,List.map_nil,ktn,ho],rfl⟩
  rw [if_neg c,if_neg (by omega)]
  by_cases c2:out.length=32768
  ·rw [if_pos c2,if_pos c2];exact ⟨rfl,rfl⟩
  rw [if_neg c2,if_neg c2]
  by_cases c3:(oneO s (y)).err≠0
  ·rw [if_pos c3,if_pos (by rw [o1];exact c3)];exact ⟨rfl,o1⟩
  rw [if_neg c3,if_neg (by rw [o1];exact c3)]
  have c3':(oneO s (y)).err=0:=Classical.byContradiction c3
  have hst:=b8C (s:=s) (p:=y) (by omega) c3'
  rw [o5 c3']
  refine ih g _ _ _ _ _ _ (by omega) (by omega) hst.2 (S.sk _) ?_
  simp only [List.map_append,List.map_cons,List.map_nil,ktn,ho,o2,o3,o4]
end
theorem c7L{n n' b0 b1 b2 b3 c1 c2 c3:Nat}(h1:1 < (Lib.decodeN n b0 b1 b2 b3).2->c1=b1/\1 < n')(h2:2 < (Lib.decodeN n b0 b1 b2 b3).2->c2=b2/\2 < n')(h3:3 < (Lib.decodeN n b0 b1 b2 b3).2->c3=b3/\3 < n')
  (hb:¬((Lib.decodeN n b0 b1 b2 b3).1=65533/\(Lib.decodeN n b0 b1 b2 b3).2=1)):Lib.decodeN n' b0 c1 c2 c3=Lib.decodeN n b0 b1 b2 b3:=by
 unfold Lib.decodeN at h1 h2 h3 hb ⊢
 by_cases a0:b0 < 128
 ·rw [if_pos a0,if_pos a0]
 rw [if_neg a0] at h1 h2 h3 hb ⊢
 rw [if_neg a0]
 by_cases a1:b0 / 32=6/\(1 < n/\b1 / 64=2)
 ·rw [if_pos a1] at h1 h2 h3 hb ⊢
  split at h1
  ·rename_i q
   obtain ⟨rfl,k1⟩:=h1 (by show 1 < 2;decide)
   rw [if_pos ⟨a1.1,k1,a1.2.2⟩,if_pos q]
  ·rename_i q
   rw [if_neg q] at hb
   exact absurd ⟨rfl,rfl⟩ hb
 rw [if_neg a1] at h1 h2 h3 hb ⊢
 by_cases a2:b0 / 16=14/\(1 < n/\b1 / 64=2)/\(2 < n/\b2 / 64=2)
 ·rw [if_pos a2] at h1 h2 h3 hb ⊢
  split at h1
  ·rename_i q
   rw [if_pos q] at h2
   obtain ⟨rfl,k1⟩:=h1 (by show 1 < 3;decide)
   obtain ⟨rfl,k2⟩:=h2 (by show 2 < 3;decide)
   rw [if_neg (by omega),if_pos ⟨a2.1,⟨k1,a2.2.1.2⟩,k2,a2.2.2.2⟩,if_pos q]
  ·rename_i q
   rw [if_neg q] at hb
   exact absurd ⟨rfl,rfl⟩ hb
 rw [if_neg a2] at h1 h2 h3 hb ⊢
 by_cases a3:b0 / 8=30/\(1 < n/\b1 / 64=2)/\(2 < n/\b2 / 64=2)/\(3 < n/\b3 / 64=2)
 ·rw [if_pos a3] at h1 h2 h3 hb ⊢
  split at h1
  ·rename_i q
   rw [if_pos q] at h2 h3
   obtain ⟨rfl,k1⟩:=h1 (by show 1 < 4;decide)
   obtain ⟨rfl,k2⟩:=h2 (by show 2 < 4;decide)
   obtain ⟨rfl,k3⟩:=h3 (by show 3 < 4;decide)
   rw [if_neg (by omega),if_neg (by omega),if_pos ⟨a3.1,⟨k1,a3.2.1.2⟩,⟨k2,a3.2.2.1.2⟩,k3,a3.2.2.2.2⟩,if_pos q]
  ·rename_i q
   rw [if_neg q] at hb
   exact absurd ⟨rfl,rfl⟩ hb
 rw [if_neg a3] at hb
 exact absurd ⟨rfl,rfl⟩ hb
structure Ag (s t:BA) (q:Nat):Prop where
 ht:q+s.size<=t.size
 eq:∀j,j < s.size->t.get! (q+j)=s.get! j
section
variable {s t:BA}{q:Nat}
theorem Ag.of{r:List UInt8}(h:Dr t q (s.data.toList++r))(hq:q<=t.size):Ag s t q:=by
 have hl:s.data.toList.length=s.size:=Array.length_toList
 have hz:=h.le hq
 rw [List.length_append,hl] at hz
 refine ⟨by omega,λj hj=>?_⟩
 have h':t.data.toList.drop q=s.data.toList++r:=h
 have a:=b7s (s:=t) (p:=q+j) (by omega)
 have b:=b7s (s:=s) hj
 rw [←List.getElem?_drop,h',List.getElem?_append_left (by omega),b] at a
 exact (Option.some.inj a).symm
theorem Ag.dec(h:Ag s t q){i:Nat}(hi:i < s.size)(hb:¬bad s i):Utf8.decode t (q+i)=Utf8.decode s i:=by
 have hw:=b0E hi
 unfold bad at hb
 have ht:=h.ht
 have hw:i+(Utf8.decode s i).2<=s.size:=hw
 rw [Lib.decode_at s i] at hw hb ⊢
 rw [Lib.decode_at t (q+i),h.eq i hi]
 refine c7L (λx=>⟨?_,by omega⟩) (λx=>⟨?_,by omega⟩) (λx=>⟨?_,by omega⟩) hb
 ·rw [show q+i+1=q+(i+1) by omega,h.eq (i+1) (by omega)]
 ·rw [show q+i+2=q+(i+2) by omega,h.eq (i+2) (by omega)]
 ·rw [show q+i+3=q+(i+3) by omega,h.eq (i+3) (by omega)]
theorem b5V{i:Nat}(h:goesS (rn s i)=true):¬bad s i:=λx=>by
 have x1:rn s i=65533:=by show ((Utf8.decode s i).1:Int)=65533;rw [x.1];rfl
 rw [x1] at h
 exact absurd h (by decide)
theorem Ag.name(h:Ag s t q)(hx:¬(q+s.size < t.size/\goesS (rn t (q+s.size))=true)):∀(n i:Nat),s.size-i<=n->i<=s.size->nameAt s (s.size-i) i=true->∀(a:Int×Int)(m:Nat),(Wr t goesS (q+i) a).1=q+s.size/\cnt t goesS (q+i) m=m+(runes s (s.size-i) i).length/\chkAt t (q+i)=chkAt t (q+s.size):=by
 intro n
 induction n with
 | zero=>
  intro i h' hi _ a m
  obtain rfl:i=s.size:=by omega
  rw [a1k hx,b8B hx,b9F (by omega)]
  exact ⟨rfl,rfl,rfl⟩
 | succ n ih=>
  intro i h' hi hn a m
  by_cases c:i < s.size
  ·have hw:=W6 s i
   have hl:=b0E c
   have hz:=h.ht
   rw [b6J c] at hn
   split at hn
   ·rename_i g
    have g1:goesS (rn s i)=true:=g.1
    have hd:=h.dec c (b5V g1)
    have er:rn t (q+i)=rn s i:=by unfold rn;rw [hd]
    have ew:wd t (q+i)=wd s i:=by unfold wd;rw [hd]
    have hlt:q+i < t.size:=by omega
    have gt:goesS (rn t (q+i))=true:=by rw [er];exact g1
    obtain ⟨j1,j2,j3⟩:=ih (i+wd s i) (by omega) hl hn (stepP a (rn t (q+i))) (m+1)
    rw [a5T hlt gt,c6L hlt gt,ew,Nat.add_assoc,c2P c,a9U t _ hlt,if_neg (b5V gt),show (Utf8.decode t (q+i)).2=wd s i from ew,Nat.add_assoc]
    refine ⟨j1,?_,j3⟩
    rw [j2,List.length_cons]
    show m+1+(runes s (s.size-(i+wd s i)) (i+wd s i)).length=m+((runes s (s.size-(i+wd s i)) (i+wd s i)).length+1)
    omega
   ·cases hn
  ·obtain rfl:i=s.size:=by omega
   rw [a1k hx,b8B hx,b9F c]
   exact ⟨rfl,rfl,rfl⟩
end
end Go.Proofs.YthjlehnccgjpoaaGreatDoor
