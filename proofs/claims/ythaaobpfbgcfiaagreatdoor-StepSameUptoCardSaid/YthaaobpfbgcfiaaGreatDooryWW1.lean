/- Lowered programs: every edge is right, and from each point one goes, or two that part. Plain. -/
import Derived.Test.YthaaobpfbgcfiaaGreatDooryWW0
namespace Go.Proofs.YthaaobpfbgcfiaaGreatDoor
open Go.RowKit
set_option maxRecDepth 100000
set_option maxHeartbeats 2000000
structure EOk (n na P:Int) (x:Ed):Prop where
 f0:0≤x.B3
 f1:x.B3 < P
 t0:0≤x.fTo
 t1:x.fTo < P
 k:kindS x.b8=true
 r:rightS n na x=true
 m:o8 x.fA.s8∧o8 x.fB.s8
theorem within_iff{i n:Int}:within i n=true↔0≤i∧i < n:=by unfold within;simp
theorem b4S{i n m:Int}(h:within i n=true)(hm:n≤m):within i m=true:=by rw [within_iff] at *;omega
theorem a8U{o:Op}{n m:Int}(h:opndS o n=true)(hm:n≤m):opndS o m=true:=by
 unfold opndS at *
 rcases Bool.or_eq_true_iff.1 h with h | h
 ·rw [h];rfl
 ·rw [Bool.and_eq_true] at h
  rw [b4S h.1 hm,h.2,Bool.true_and,Bool.or_true]
theorem c2d{n m na:Int}{x:Ed}(h:rightS n na x=true)(hm:n≤m):rightS m na x=true:=by
 unfold rightS at *
 simp only [Bool.and_eq_true] at *
 obtain ⟨⟨⟨⟨a,b⟩,c⟩,d⟩,e⟩:=h
 refine ⟨⟨⟨⟨?_,b⟩,c⟩,?_⟩,?_⟩
 ·cases q:(wantsS x.b8).fdst
  ·rw [q] at a;exact a
  ·rw [q] at a;exact b4S a hm
 ·cases q:(wantsS x.b8).fa
  ·rw [q] at d;exact d
  ·rw [q] at d;exact a8U d hm
 ·cases q:(wantsS x.b8).fb
  ·rw [q] at e;exact e
  ·rw [q] at e;exact a8U e hm
theorem EOk.mono{n m na P Q:Int}{x:Ed}(h:EOk n na P x)(hn:n≤m)(hp:P≤Q):EOk m na Q x:=⟨h.f0,by have:=h.f1;omega,h.t0,by have:=h.t1;omega,h.k,c2d h.r hn,h.m⟩
theorem c4h(a b:List Ed)(p:Int):fromS (a++b) p=fromS a p++fromS b p:=List.filter_append ..
theorem b4b{l:List Ed}{p:Int}(h:∀x∈l,x.B3≠p):fromS l p=[]:=by
 unfold fromS
 rw [List.filter_eq_nil_iff]
 intro x hx
 simp [h x hx]
structure Sx (L:En) (na:Int) (S:Int→Prop) (g g':Gr):Prop where
 p:g.p≤g'.p
 t:g.t≤g'.t
 es:∃l,g'.es=g.es++l∧(∀x∈l,S x.B3∧EOk (L.nv+g'.t) na g'.p x)∧∀p,goeS (fromS l p)=true
section
variable {L:En}{na:Int}{S S1 S2:Int→Prop}{a b c g g':Gr}
theorem Sx.same(e:b.es=a.es)(hp:a.p≤b.p)(ht:a.t≤b.t):Sx L na S a b:=⟨hp,ht,[],by rw [e,List.append_nil],(fun x hx=>by cases hx),fun p=>rfl⟩
theorem Sx.trans(h:Sx L na S1 a b)(k:Sx L na S2 b c)(d:∀p,S1 p→S2 p→False)(s1:∀p,S1 p→S p)(s2:∀p,S2 p→S p):Sx L na S a c:=by
 obtain ⟨hp,ht,l,e,hl,hg⟩:=h
 obtain ⟨kp,kt,m,f,km,kg⟩:=k
 refine ⟨by omega,by omega,l++m,by rw [f,e,List.append_assoc],fun x hx=>?_,fun p=>?_⟩
 ·rcases List.mem_append.1 hx with hx | hx
  ·exact ⟨s1 _ (hl x hx).1,(hl x hx).2.mono (by omega) (by omega)⟩
  ·exact ⟨s2 _ (km x hx).1,(km x hx).2⟩
 ·rw [c4h]
  by_cases q:S1 p
  ·rw [b4b (l:=m) (fun x hx (e:x.B3=p)=>d p q (by rw [←e];exact (km x hx).1)),List.append_nil];exact hg p
  ·rw [b4b (l:=l) (fun x hx (e:x.B3=p)=>q (by rw [←e];exact (hl x hx).1)),List.nil_append];exact kg p
theorem Sx.mono(h:Sx L na S1 a b)(s:∀p,S1 p→S p):Sx L na S a b:=by
 obtain ⟨hp,ht,l,e,hl,hg⟩:=h
 exact ⟨hp,ht,l,e,fun x hx=>⟨s _ (hl x hx).1,(hl x hx).2⟩,hg⟩
theorem Sx.fresh(k:Sx L na S b c)(e:b.es=a.es)(hp:a.p≤b.p)(ht:a.t≤b.t):Sx L na S a c:=
 Sx.trans (S1:=fun _=>False) (Sx.same e hp ht) k (fun _ q _=>q) (fun _ q=>q.elim) fun _ q=>q
theorem b1k{x:Ed}(h:EOk (L.nv+g.t) na g.p x)(hk:x.b8≠12):Sx L na (fun p=>p=x.B3) g (edG x g):=
 ⟨Int.le_refl _,Int.le_refl _,[x],rfl,fun y hy=>by rw [List.mem_singleton.1 hy];exact ⟨rfl,h⟩,fun p=>by
  unfold fromS
  rw [List.filter_cons]
  split
  ·show (!decide (x.b8=12))=true
   rw [decide_eq_false hk];rfl
  ·rfl⟩
theorem c4i{op:Int}(h0:1≤op)(h1:op≤6):notO op=notG op∧1≤notO op∧notO op≤6:=by
 obtain rfl | rfl | rfl | rfl | rfl | rfl:=(by omega:op=1∨op=2∨op=3∨op=4∨op=5∨op=6)<;>exact ⟨rfl,by decide,by decide⟩
theorem d3q{k op:Int}{x y:Op}{at_ yes no:Int}(h1:EOk (L.nv+g.t) na g.p ⟨at_,yes,12,-1,-1,op,x,y⟩)(h2:EOk (L.nv+g.t) na g.p ⟨at_,no,12,-1,-1,notO op,x,y⟩)(o0:1≤op)(o1:op≤6):
  Sx L na (fun p=>p=at_) g (asN L k op x y at_ yes no g):=by
 refine ⟨Int.le_refl _,Int.le_refl _,[⟨at_,yes,12,-1,-1,op,x,y⟩,⟨at_,no,12,-1,-1,notO op,x,y⟩],by unfold asN edG;dsimp only;rw [List.append_assoc];rfl,fun z hz=>?_,fun p=>?_⟩
 ·rcases List.mem_cons.1 hz with rfl | hz
  ·exact ⟨rfl,h1⟩
  ·rw [List.mem_singleton.1 hz];exact ⟨rfl,h2⟩
 ·unfold fromS
  by_cases q:at_=p
  ·rw [List.filter_cons_of_pos (by simpa using q),List.filter_cons_of_pos (by simpa using q),List.filter_nil,b6s,(c4i o0 o1).1]
   simp
  ·rw [List.filter_cons_of_neg (by simpa using q),List.filter_cons_of_neg (by simpa using q)];rfl
end
theorem U5(L:En)(k n:Int)(s:ByteArray)(ts:List PT):loT L (eX k n s ts)=⟨plN L k n s ts,inN L k s (ts.map (loT L)),fun _ _ _ g=>g,fun _ _ g=>g⟩:=b5v L
theorem a6J(L:En)(k op:Int)(ts us:List PT):loT L (cX k op ts us)=⟨none,fun _ _ _ _ g=>g,coN L k op ((ts++us).map (loT L)),fun _ _ g=>g⟩:=b9f L
theorem a4B(L:En)(k:Int)(s:ByteArray)(ts us vs ws:List PT):loT L (sX k s ts us vs ws)=⟨none,fun _ _ _ _ g=>g,fun _ _ _ g=>g,lsN L k s vs.length ((us++(ts++(vs++ws))).map (loT L))⟩:=b9g L
def Src(a lo hi p:Int):Prop:=p=a∨(lo≤p∧p < hi)
def Sre(a e lo hi p:Int):Prop:=p≠e∧(p=a∨(lo≤p∧p < hi))
structure FsE (L:En) (na:Int) (f:Fs):Prop where
 pl:∀o,f.pl=some o→opndS o L.nv=true∧o8 o.s8
 into:f.pl=none→∀(dst a b d:Int)(g:Gr),0≤a→a < g.p→0≤b→b < g.p→0≤d→0≤g.t→0≤dst→dst < L.nv+g.t→Sx L na (Src a g.p (f.into dst a b d g).p) g (f.into dst a b d g)
section
variable {L:En}{na:Int}{f h:Fs}
structure OpR (L:En) (a:Int) (g g':Gr) (o:Op) (e:Int):Prop where
 e:e=a∨(g.p≤e∧e < g'.p)
 op:opndS o (L.nv+g'.t)=true
 m:o8 o.s8
theorem b7T(hn:0≤L.nv)(hf:FsE L na f){a d:Int}{g:Gr}(a0:0≤a)(a1:a < g.p)(d0:0≤d)(t0:0≤g.t):
  Sx L na (Sre a (opF L f a d g).2.1 g.p (opF L f a d g).2.2.p) g (opF L f a d g).2.2∧OpR L a g (opF L f a d g).2.2 (opF L f a d g).1 (opF L f a d g).2.1:=by
 unfold opF
 cases e:f.pl with
 | some o=>exact ⟨Sx.same rfl (Int.le_refl _) (Int.le_refl _),.inl rfl,a8U (hf.pl o e).1 (by dsimp only;omega),(hf.pl o e).2⟩
 | none=>
  dsimp only
  have ht:g.t≤(teG d (frG g)).t∧d+1≤(teG d (frG g)).t:=by dsimp only;split<;>omega
  have hp:(teG d (frG g)).p=g.p+1:=rfl
  have k:=hf.into e (L.nv+d) a g.p d (teG d (frG g)) a0 (by omega) (by omega) (by omega) d0 (by omega) (by omega) (by omega)
  have kp:=k.p
  have kt:=k.t
  refine ⟨(k.mono fun p q=>?_).fresh rfl (by omega) ht.1,.inr ⟨Int.le_refl _,by omega⟩,?_,z64⟩
  ·unfold Src at q;unfold Sre;omega
  ·unfold opndS
   rw [within_iff.2 ⟨by dsimp only;omega,by dsimp only;omega⟩]
   simp
theorem c6V{o:Op}{d:Int}(h:0≤d):0≤dpO L o d:=by unfold dpO;split<;>omega
theorem c2e(hn:0≤L.nv)(hf:FsE L na f)(hh:FsE L na h){a d:Int}{g:Gr}(a0:0≤a)(a1:a < g.p)(d0:0≤d)(t0:0≤g.t):
  Sx L na (Sre a (twF L f h a d g).2.2.1 g.p (twF L f h a d g).2.2.2.p) g (twF L f h a d g).2.2.2∧OpR L a g (twF L f h a d g).2.2.2 (twF L f h a d g).1 (twF L f h a d g).2.2.1∧opndS (twF L f h a d g).2.1 (L.nv+(twF L f h a d g).2.2.2.t)=true∧o8 (twF L f h a d g).2.1.s8:=by
 obtain ⟨s1,e1,o1,m1⟩:=b7T hn hf a0 a1 d0 t0
 unfold twF
 dsimp only
 generalize opF L f a d g=r1 at *
 have p1:=s1.p;have q1:=s1.t
 obtain ⟨s2,e2,o2,m2⟩:=b7T hn hh (a:=r1.2.1) (d:=dpO L r1.1 d) (g:=r1.2.2) (by omega) (by omega) (c6V d0) (by omega)
 generalize opF L h r1.2.1 (dpO L r1.1 d) r1.2.2=r2 at *
 have p2:=s2.p;have q2:=s2.t
 refine ⟨Sx.trans s1 s2 (fun p=>?_) (fun p=>?_) fun p=>?_,⟨by omega,a8U o1 (by omega),m1⟩,o2,m2⟩<;>unfold Sre<;>omega
theorem b6w{a e:Int}{g g':Gr}{x:Ed}(s:Sx L na (Sre a e g.p g'.p) g g')(he:e=a∨(g.p≤e∧e < g'.p))(hx:x.B3=e)(a0:0≤a)(a1:a < g.p)(t0:0≤x.fTo)(t1:x.fTo < g.p)(hk:kindS x.b8=true)(h12:x.b8≠12)(hr:rightS (L.nv+g'.t) na x=true)(hm:o8 x.fA.s8∧o8 x.fB.s8):
  Sx L na (Src a g.p (edG x g').p) g (edG x g'):=by
 have hp:=s.p
 refine Sx.trans s (b1k ⟨by omega,by omega,t0,by omega,hk,hr,hm⟩ h12) (fun p=>?_) (fun p=>?_) fun p=>?_<;>(try unfold Sre)<;>(try unfold Src)<;>(try unfold edG)<;>(try dsimp only)<;>(try rw [hx])<;>omega
theorem b9o{n na:Int}{a b k:Int}(hk:k=1∨k=13∨k=14):rightS n na (bareE a b k)=true:=by
 rcases hk with rfl | rfl | rfl<;>rfl
def NmP(L:En)(na:Int)(l:List Us):Prop:=∀u∈l,(u.b6o=true→within (L.af u.f8) na=true)∧(u.b6o=false→within (L.vf u.f8) L.nv=true)
theorem NmP.mem{cs:List PT}(hc:NmP L na (uTs cs)){t:PT}(ht:t∈cs):NmP L na (uT t):=by
 intro u hu
 refine hc u ?_
 clear hc
 induction cs with
 | nil=>cases ht
 | cons c cs ih=>
  rw [uTs]
  rcases List.mem_cons.1 ht with rfl | ht
  ·exact List.mem_append_left _ hu
  ·exact List.mem_append_right _ (ih ht)
theorem NmP.own{l:Lab}{cs:List PT}(hc:NmP L na (uT (.mk l cs))):NmP L na (useL l)∧NmP L na (uTs cs):=by
 rw [uT] at hc
 exact ⟨fun u hu=>hc u (List.mem_append_left _ hu),fun u hu=>hc u (List.mem_append_right _ hu)⟩
theorem c4j{l:Lab}{s:ByteArray}(hc:NmP L na (useL l))(e:useL l=[⟨s,false⟩]):within (L.vf s) L.nv=true:=(hc ⟨s,false⟩ (by rw [e];exact List.mem_singleton.2 rfl)).2 rfl
theorem c4k{l:Lab}{s:ByteArray}(hc:NmP L na (useL l))(e:useL l=[⟨s,true⟩]):within (L.af s) na=true:=(hc ⟨s,true⟩ (by rw [e];exact List.mem_singleton.2 rfl)).1 rfl
theorem c2f{k n:Int}{s:ByteArray}{cs:List PT}(h1:k≠1)(h2:k≠2)(h5:k≠5):plN L k n s cs=none:=by
 unfold plN
 split
 ·rw [if_neg h1,if_neg (fun q=>h5 q.1),if_neg h2]
 ·rw [if_neg h1,if_neg h2]
theorem b9p(hn:0≤L.nv){t:PT}(ht:XE t):NmP L na (uT t)→FsE L na (loT L t):=by
 induction ht with
 | num n h0 h1=>
  intro _
  rw [U5]
  exact ⟨fun o e=>(by cases e;exact ⟨rfl,by show o8 n;unfold o8;omega⟩),fun e=>by cases e⟩
 | var s=>
  intro hu
  rw [U5]
  refine ⟨fun o e=>?_,fun e=>by cases e⟩
  have e:some (⟨L.vf s,0⟩:Op)=some o:=e
  cases e
  have:=c4j (s:=s) hu.own.1 rfl
  refine ⟨?_,z64⟩
  unfold opndS
  rw [show (⟨L.vf s,0⟩:Op).A8=L.vf s from rfl,this]
  simp
 | inp=>
  intro _
  rw [U5]
  refine ⟨fun o e=>(by cases e),fun _ dst a b d g a0 a1 b0 b1 d0 t0 e0 e1=>?_⟩
  refine (b1k (g:=g) (x:=⟨a,b,9,dst,-1,0,nO,nO⟩) ⟨a0,a1,b0,b1,rfl,?_,z64,z64⟩ (show (9:Int)≠12 by decide)).mono fun p q=>.inl q
  show ((within dst (L.nv+g.t)&&true)&&true&&true&&true)=true
  rw [within_iff.2 ⟨e0,e1⟩];rfl
 | item s e he ih=>
  intro hu
  have hf:=ih (hu.own.2.mem (by simp))
  have hs:=c4k (s:=s) hu.own.1 rfl
  rw [U5]
  refine ⟨fun o e=>?_,fun _ dst a b d g a0 a1 b0 b1 d0 t0 e0 e1=>?_⟩
  ·rw [show plN L 4 0 s _=none from c2f (by decide) (by decide) (by decide)] at e;cases e
  ·obtain ⟨s1,r1,r2,r3⟩:=b7T hn hf a0 a1 d0 t0
   have q:=s1.t
   refine b6w (x:=⟨(opF L (loT L e) a d g).2.1,b,10,dst,L.af s,0,(opF L (loT L e) a d g).1,nO⟩) s1 r1 rfl a0 a1 b0 b1 rfl (show (10:Int)≠12 by decide) ?_ ⟨r3,z64⟩
   show ((((within dst _&&within (L.af s) na)&&true)&&opndS _ _)&&true)=true
   rw [within_iff.2 ⟨e0,by omega⟩,hs,r2];rfl
 | neg e he ih=>
  intro hu
  have hf:=ih (hu.own.2.mem (by simp))
  rw [U5]
  refine ⟨fun o q=>?_,fun _ dst a b d g a0 a1 b0 b1 d0 t0 e0 e1=>?_⟩
  ·unfold plN at q
   split at q
   ·rw [if_neg (by decide)] at q
    split at q
    ·cases q;exact ⟨rfl,b7w _⟩
    ·rw [if_neg (by decide)] at q;cases q
   ·rw [if_neg (by decide),if_neg (by decide)] at q;cases q
  ·obtain ⟨s1,r1,r2,r3⟩:=b7T hn hf a0 a1 d0 t0
   have q:=s1.t
   refine b6w (x:=⟨(opF L (loT L e) a d g).2.1,b,3,dst,-1,0,(opF L (loT L e) a d g).1,nO⟩) s1 r1 rfl a0 a1 b0 b1 rfl (show (3:Int)≠12 by decide) ?_ ⟨r3,z64⟩
   show ((((within dst _&&true)&&true)&&opndS _ _)&&true)=true
   rw [within_iff.2 ⟨e0,by omega⟩,r2];rfl
 | bin k x y hk hx hy ih1 ih2=>
  intro hu
  have hf:=ih1 (hu.own.2.mem (by simp))
  have hg:=ih2 (hu.own.2.mem (by simp))
  rw [U5]
  refine ⟨fun o e=>?_,fun _ dst a b d g a0 a1 b0 b1 d0 t0 e0 e1=>?_⟩
  ·rw [show plN L k 0 _ _=none from c2f (by omega) (by omega) (by omega)] at e;cases e
  ·obtain ⟨s1,⟨r0,r1,m1⟩,r2,m2⟩:=c2e hn hf hg a0 a1 d0 t0
   have q:=s1.t
   have hk4:(if k=4 then L.af (⟨#[]⟩:ByteArray) else -1) = -1:=if_neg (by omega)
   show Sx L na _ g (inN L k ⟨#[]⟩ [loT L x,loT L y] dst a b d g)
   unfold inN
   dsimp only
   rw [hk4]
   refine b6w (x:=⟨(twF L (loT L x) (loT L y) a d g).2.2.1,b,kO k,dst,-1,0,(twF L (loT L x) (loT L y) a d g).1,(twF L (loT L x) (loT L y) a d g).2.1⟩) s1 r0 rfl a0 a1 b0 b1 ?_ ?_ ?_ ⟨m1,m2⟩
   ·rcases hk with rfl | rfl | rfl | rfl | rfl<;>rfl
   ·show kO k≠12
    rcases hk with rfl | rfl | rfl | rfl | rfl<;>decide
   ·have e:∀(i:Int)(o1 o2:Op)(n:Int),rightS n na ⟨i,b,kO k,dst,-1,0,o1,o2⟩=((((within dst n&&true)&&true)&&opndS o1 n)&&opndS o2 n):=by
     intro i o1 o2 n
     rcases hk with rfl | rfl | rfl | rfl | rfl<;>rfl
    rw [e,within_iff.2 ⟨e0,by omega⟩,r1,r2];rfl
end
structure FsC (L:En) (na:Int) (f:Fs):Prop where
 co:∀(a y n:Int)(g:Gr),0≤a→a < g.p→0≤y→y < g.p→0≤n→n < g.p→0≤g.t→Sx L na (Src a g.p (f.co a y n g).p) g (f.co a y n g)
structure FsS (L:En) (na:Int) (f:Fs):Prop where
 st:∀(a b:Int)(g:Gr),0≤a→a < g.p→0≤b→b < g.p→0≤L.ex→L.ex < g.p→0≤g.t→Sx L na (Src a g.p (f.st a b g).p) g (f.st a b g)
section
variable {L:En}{na:Int}{f h:Fs}
theorem c2g(hn:0≤L.nv){t:PT}(ht:XC t):NmP L na (uT t)→FsC L na (loT L t):=by
 induction ht with
 | tru=>intro _;rw [a6J];exact ⟨fun a y n g a0 a1 y0 y1 n0 n1 t0=>(b1k (x:=bareE a y 1) ⟨a0,a1,y0,y1,rfl,b9o (.inl rfl),z64,z64⟩ (show (1:Int)≠12 by decide)).mono fun p q=>.inl q⟩
 | fls=>intro _;rw [a6J];exact ⟨fun a y n g a0 a1 y0 y1 n0 n1 t0=>(b1k (x:=bareE a n 1) ⟨a0,a1,n0,n1,rfl,b9o (.inl rfl),z64,z64⟩ (show (1:Int)≠12 by decide)).mono fun p q=>.inl q⟩
 | cmp op x y o0 o1 hx hy=>
  intro hu
  have hf:=b9p hn hx (hu.own.2.mem (by simp))
  have hg:=b9p hn hy (hu.own.2.mem (by simp))
  rw [a6J]
  refine ⟨fun a yes no g a0 a1 y0 y1 n0 n1 t0=>?_⟩
  obtain ⟨s1,⟨r0,r1,m1⟩,r2,m2⟩:=c2e hn hf hg a0 a1 (Int.le_refl 0) t0
  have hp:=s1.p
  have e:∀(i j op:Int)(o1 o2:Op)(n:Int),rightS n na ⟨i,j,12,-1,-1,op,o1,o2⟩=((true&&(decide (1≤op)&&decide (op≤6))&&opndS o1 n)&&opndS o2 n):=fun _ _ _ _ _ _=>rfl
  have e2:=c4i o0 o1
  show Sx L na _ g (asN L 3 op (twF L (loT L x) (loT L y) a 0 g).1 (twF L (loT L x) (loT L y) a 0 g).2.1 (twF L (loT L x) (loT L y) a 0 g).2.2.1 yes no (twF L (loT L x) (loT L y) a 0 g).2.2.2)
  refine Sx.trans s1 (d3q ⟨by dsimp only;omega,by dsimp only;omega,y0,by dsimp only;omega,rfl,?_,m1,m2⟩ ⟨by dsimp only;omega,by dsimp only;omega,n0,by dsimp only;omega,rfl,?_,m1,m2⟩ o0 o1) (fun p=>?_) (fun p=>?_) fun p=>?_
  ·rw [e,r1,r2,decide_eq_true o0,decide_eq_true o1];rfl
  ·rw [e,r1,r2,decide_eq_true e2.2.1,decide_eq_true e2.2.2];rfl
  all_goals ((try unfold Sre);(try unfold Src);(try (show _→p=a∨(g.p≤p∧p < (asN L 3 op (twF L (loT L x) (loT L y) a 0 g).1 (twF L (loT L x) (loT L y) a 0 g).2.1 (twF L (loT L x) (loT L y) a 0 g).2.2.1 yes no (twF L (loT L x) (loT L y) a 0 g).2.2.2).p);unfold asN edG));(try dsimp only);omega)
 | not c hc ih=>
  intro hu
  have hf:=ih (hu.own.2.mem (by simp))
  rw [a6J]
  exact ⟨fun a y n g a0 a1 y0 y1 n0 n1 t0=>hf.co a n y g a0 a1 n0 n1 y0 y1 t0⟩
 | bin k x y hk hx hy ih1 ih2=>
  intro hu
  have hf:=ih1 (hu.own.2.mem (by simp))
  have hg:=ih2 (hu.own.2.mem (by simp))
  rw [a6J]
  refine ⟨fun a yes no g a0 a1 y0 y1 n0 n1 t0=>?_⟩
  have two:∀(u v:Int),0≤u→u < g.p+1→0≤v→v < g.p+1→Sx L na (Src a g.p ((loT L y).co g.p yes no ((loT L x).co a u v (frG g))).p) g ((loT L y).co g.p yes no ((loT L x).co a u v (frG g))):=by
   intro u v u0 u1 v0 v1
   have h1:=hf.co a u v (frG g) a0 (by dsimp only;omega) u0 u1 v0 v1 t0
   have p1:=h1.p;have q1:=h1.t
   have p1:g.p+1≤_:=p1
   have q1:g.t≤_:=q1
   have h2:=hg.co g.p yes no _ (by omega) (by omega) y0 (by omega) n0 (by omega) (Int.le_trans t0 q1)
   have p2:=h2.p
   refine (Sx.trans h1 h2 (fun p=>?_) (fun p=>?_) fun p=>?_).fresh rfl (by dsimp only;omega) (Int.le_refl _)<;>(try unfold Src)<;>(try dsimp only)<;>omega
  rcases hk with rfl | rfl
  ·exact two g.p no (by omega) (by omega) n0 (by omega)
  ·exact two yes g.p y0 (by omega) (by omega) (by omega)
theorem c6W:∀{fs:List Fs},(∀f∈fs,FsS L na f)→∀(a nx tg:Int)(g:Gr),0≤a→a < nx→nx+((fs.length-1:Nat):Int)≤g.p→0≤tg→tg < g.p→0≤L.ex→L.ex < g.p→0≤g.t→
  Sx L na (fun p=>p=a∨(nx≤p∧p < nx+((fs.length-1:Nat):Int))∨(g.p≤p∧p < (blG fs a nx tg g).p)) g (blG fs a nx tg g)
 | [],_,a,nx,tg,g,_,_,_,_,_,_,_,_=>Sx.same rfl (Int.le_refl _) (Int.le_refl _)
 | [f],hf,a,nx,tg,g,a0,a1,hl,t0,t1,x0,x1,g0=>by
  have h:=(hf f (by simp)).st a tg g a0 (by simp at hl;omega) t0 t1 x0 x1 g0
  rw [blG]
  exact h.mono fun p q=>by unfold Src at q;omega
 | f::h::r,hf,a,nx,tg,g,a0,a1,hl,t0,t1,x0,x1,g0=>by
  have hl:nx+((r.length+1:Nat):Int)≤g.p:=by simpa using hl
  have h1:=(hf f (by simp)).st a nx g a0 (by omega) (by omega) (by omega) x0 x1 g0
  have p1:=h1.p;have q1:=h1.t
  have h2:=c6W (fs:=h::r) (fun x hx=>hf x (List.mem_cons_of_mem _ hx)) nx (nx+1) tg (f.st a nx g) (by omega) (by omega) (by show nx+1+((r.length:Nat):Int)≤_;omega) t0 (by omega) x0 (by omega) (by omega)
  have p2:=h2.p
  rw [blG]
  have e1:((h::r).length-1:Nat)=r.length:=rfl
  have e2:((f::h::r).length-1:Nat)=r.length+1:=rfl
  rw [e1] at h2
  rw [e2]
  refine Sx.trans h1 h2 (fun p=>?_) (fun p=>?_) fun p=>?_<;>(try unfold Src)<;>omega
theorem b6x{fs:List Fs}(hf:∀f∈fs,FsS L na f)(a tg:Int)(g:Gr)(a0:0≤a)(a1:a < g.p)(t0:0≤tg)(t1:tg < g.p)(x0:0≤L.ex)(x1:L.ex < g.p)(g0:0≤g.t):Sx L na (fun p=>fs≠[]∧Src a g.p (blkG fs a tg g).p p) g (blkG fs a tg g):=by
 unfold blkG
 by_cases e:fs=[]
 ·subst e;exact Sx.same rfl (by rw [blG];show g.p≤g.p+((0:Nat):Int);omega) (Int.le_refl _)
 ·have h:=c6W hf a g.p tg ⟨g.p+(fs.length-1:Nat),g.t,g.es⟩ a0 a1 (Int.le_refl _) t0 (by dsimp only;omega) x0 (by dsimp only;omega) g0
  have hp:=h.p
  have h2:Sx L na (fun p=>fs≠[]∧Src a g.p (blG fs a g.p tg ⟨g.p+(fs.length-1:Nat),g.t,g.es⟩).p p) _ _:=h.mono fun p q=>⟨e,by unfold Src;dsimp only at q hp ⊢;omega⟩
  exact h2.fresh rfl (by dsimp only;omega) (Int.le_refl _)
theorem a7g(fs:List Fs)(tg:Int)(g:Gr):(fs=[]∧begG fs tg g=(tg,g))∨(fs≠[]∧begG fs tg g=(g.p,frG g)):=by
 cases fs with
 | nil=>exact .inl ⟨rfl,rfl⟩
 | cons f r=>exact .inr ⟨by simp,rfl⟩
theorem c4l(L:En)(c:PT)(th el:List PT)(a b:Int)(g:Gr):(loT L (sX 3 ⟨#[]⟩ [] [c] th el)).st a b g =
  blkG (el.map (loT L)) (begG (el.map (loT L)) b (begG (th.map (loT L)) b g).2).1 b (blkG (th.map (loT L)) (begG (th.map (loT L)) b g).1 b ((loT L c).co a (begG (th.map (loT L)) b g).1 (begG (el.map (loT L)) b (begG (th.map (loT L)) b g).2).1 (begG (el.map (loT L)) b (begG (th.map (loT L)) b g).2).2)):=by
 have e1:((th++el).map (loT L)).take th.length=th.map (loT L):=by rw [List.map_append,List.take_left' (List.length_map _)]
 have e2:((th++el).map (loT L)).drop th.length=el.map (loT L):=by rw [List.map_append,List.drop_left' (List.length_map _)]
 rw [a4B,← e1,← e2]
 rfl
theorem b9q(L:En)(c:PT)(th:List PT)(a b:Int)(g:Gr):(loT L (sX 4 ⟨#[]⟩ [] [c] th [])).st a b g=blkG (th.map (loT L)) (begG (th.map (loT L)) a g).1 a ((loT L c).co a (begG (th.map (loT L)) a g).1 b (begG (th.map (loT L)) a g).2):=by
 have e1:(([c]++([]++(th++[]))).map (loT L))=loT L c::th.map (loT L):=by rw [List.append_nil];rfl
 rw [a4B,e1]
 rfl
theorem d4Z(hn:0≤L.nv){t:PT}(ht:XS t):NmP L na (uT t)→FsS L na (loT L t):=by
 induction ht with
 | asg s e he=>
  intro hu
  have hf:=b9p hn he (hu.own.2.mem (by simp []))
  have hs:=within_iff.1 (c4j (s:=s) hu.own.1 rfl)
  refine ⟨fun a b g a0 a1 b0 b1 x0 x1 g0=>?_⟩
  show Sx L na (Src a g.p ((loT L (sX 1 s [e] [] [] [])).st a b g).p) g _
  have e0:(loT L (sX 1 s [e] [] [] [])).st a b g=match (loT L e).pl with | some o=>edG ⟨a,b,2,L.vf s,-1,0,o,nO⟩ g | none=>(loT L e).into (L.vf s) a b 0 g:=by
   rw [a4B];rfl
  rw [e0]
  cases q:(loT L e).pl with
  | some o=>
   refine (b1k (x:=⟨a,b,2,L.vf s,-1,0,o,nO⟩) ⟨a0,a1,b0,b1,rfl,?_,(hf.pl o q).2,z64⟩ (show (2:Int)≠12 by decide)).mono fun p q=>.inl q
   show ((((within (L.vf s) _&&true)&&true)&&opndS o _)&&true)=true
   rw [within_iff.2 ⟨hs.1,by omega⟩,a8U (hf.pl o q).1 (by omega)];rfl
  | none=>exact hf.into q (L.vf s) a b 0 g a0 a1 b0 b1 (Int.le_refl 0) g0 hs.1 (by omega)
 | sto s i e hi he=>
  intro hu
  have hf:=b9p hn hi (hu.own.2.mem (by simp []))
  have hg:=b9p hn he (hu.own.2.mem (by simp []))
  have hs:=c4k (s:=s) hu.own.1 rfl
  refine ⟨fun a b g a0 a1 b0 b1 x0 x1 g0=>?_⟩
  obtain ⟨s1,⟨r0,r1,m1⟩,r2,m2⟩:=c2e hn hf hg a0 a1 (Int.le_refl 0) g0
  have e0:(loT L (sX 2 s [i,e] [] [] [])).st a b g=edG ⟨(twF L (loT L i) (loT L e) a 0 g).2.2.1,b,11,-1,L.af s,0,(twF L (loT L i) (loT L e) a 0 g).1,(twF L (loT L i) (loT L e) a 0 g).2.1⟩ (twF L (loT L i) (loT L e) a 0 g).2.2.2:=by
   rw [a4B];rfl
  rw [e0]
  refine b6w s1 r0 rfl a0 a1 b0 b1 rfl (show (11:Int)≠12 by decide) ?_ ⟨m1,m2⟩
  show ((((true&&within (L.af s) na)&&true)&&opndS _ _)&&opndS _ _)=true
  rw [hs,r1,r2];rfl
 | iff c th el hc hth hel ih1 ih2=>
  intro hu
  have hf:=c2g hn hc (hu.own.2.mem (by simp []))
  have h1:∀f∈th.map (loT L),FsS L na f:=fun f hf=>by
   obtain ⟨t,ht,rfl⟩:=List.mem_map.1 hf
   exact ih1 t ht (hu.own.2.mem (by simp [ht]))
  have h2:∀f∈el.map (loT L),FsS L na f:=fun f hf=>by
   obtain ⟨t,ht,rfl⟩:=List.mem_map.1 hf
   exact ih2 t ht (hu.own.2.mem (by simp [ht]))
  refine ⟨fun a b g a0 a1 b0 b1 x0 x1 g0=>?_⟩
  rw [c4l]
  generalize th.map (loT L)=F1 at *
  generalize el.map (loT L)=F2 at *
  have k1:=a7g F1 b g
  have k2:=a7g F2 b (begG F1 b g).2
  generalize begG F1 b g=B1 at *
  generalize begG F2 b B1.2=B2 at *
  have c1:(g.p≤B1.2.p∧0≤B1.1∧B1.1 < B1.2.p)∧B1.2.t=g.t∧B1.2.es=g.es∧(F1≠[]→B1.1=g.p∧B1.2.p=g.p+1):=by
   rcases k1 with ⟨q,rfl⟩ | ⟨q,rfl⟩
   ·exact ⟨⟨Int.le_refl _,b0,b1⟩,rfl,rfl,fun n=>(n q).elim⟩
   ·exact ⟨by dsimp only;omega,rfl,rfl,fun _=>⟨rfl,rfl⟩⟩
  have c2:(B1.2.p≤B2.2.p∧0≤B2.1∧B2.1 < B2.2.p)∧B2.2.t=B1.2.t∧B2.2.es=B1.2.es∧(F2≠[]→B2.1=B1.2.p∧B2.2.p=B1.2.p+1):=by
   rcases k2 with ⟨q,rfl⟩ | ⟨q,rfl⟩
   ·exact ⟨⟨Int.le_refl _,b0,by dsimp only;omega⟩,rfl,rfl,fun n=>(n q).elim⟩
   ·exact ⟨by dsimp only;omega,rfl,rfl,fun _=>⟨rfl,rfl⟩⟩
  clear k1 k2
  obtain ⟨b11,b12,b13,b14⟩:=c1
  obtain ⟨b21,b22,b23,b24⟩:=c2
  have s1:=hf.co a B1.1 B2.1 B2.2 a0 (by omega) (by omega) (by omega) (by omega) (by omega) (by omega)
  have p1:=s1.p;have q1:=s1.t
  generalize (loT L c).co a B1.1 B2.1 B2.2=G1 at *
  have s2:=b6x h1 B1.1 b G1 (by omega) (by omega) b0 (by omega) x0 (by omega) (by omega)
  have p2:=s2.p;have q2:=s2.t
  generalize blkG F1 B1.1 b G1=G2 at *
  have s3:=b6x h2 B2.1 b G2 (by omega) (by omega) b0 (by omega) x0 (by omega) (by omega)
  have p3:=s3.p
  generalize blkG F2 B2.1 b G2=G3 at *
  refine (Sx.trans (S1:=fun p=>Src a B2.2.p G1.p p∨(F1≠[]∧Src B1.1 G1.p G2.p p)) (Sx.trans s1 s2 (fun p q r=>?_) (fun p q=>.inl q) fun p q=>.inr q) s3 (fun p q r=>?_) (fun p q=>?_) fun p q=>?_).fresh (by rw [b23,b13]) (by omega) (by omega)
  ·have:=b14 r.1;have r:=r.2;unfold Src at q r;omega
  ·have:=b24 r.1;have r:=r.2
   rcases q with q | ⟨n,q⟩
   ·unfold Src at q r;omega
   ·have:=b14 n;unfold Src at q r;omega
  ·rcases q with q | ⟨n,q⟩
   ·unfold Src at q ⊢;omega
   ·have:=b14 n;unfold Src at q ⊢;omega
  ·have:=b24 q.1;have q:=q.2;unfold Src at q ⊢;omega
 | whl c th hc hth ih=>
  intro hu
  have hf:=c2g hn hc (hu.own.2.mem (by simp []))
  have h1:∀f∈th.map (loT L),FsS L na f:=fun f hf=>by
   obtain ⟨t,ht,rfl⟩:=List.mem_map.1 hf
   exact ih t ht (hu.own.2.mem (by simp [ht]))
  refine ⟨fun a b g a0 a1 b0 b1 x0 x1 g0=>?_⟩
  rw [b9q]
  generalize th.map (loT L)=F1 at *
  have k1:=a7g F1 a g
  generalize begG F1 a g=B1 at *
  have c1:(g.p≤B1.2.p∧0≤B1.1∧B1.1 < B1.2.p)∧B1.2.t=g.t∧B1.2.es=g.es∧(F1≠[]→B1.1=g.p∧B1.2.p=g.p+1):=by
   rcases k1 with ⟨q,rfl⟩ | ⟨q,rfl⟩
   ·exact ⟨⟨Int.le_refl _,a0,a1⟩,rfl,rfl,fun n=>(n q).elim⟩
   ·exact ⟨by dsimp only;omega,rfl,rfl,fun _=>⟨rfl,rfl⟩⟩
  clear k1
  obtain ⟨b11,b12,b13,b14⟩:=c1
  have s1:=hf.co a B1.1 b B1.2 a0 (by omega) (by omega) (by omega) b0 (by omega) (by omega)
  have p1:=s1.p;have q1:=s1.t
  generalize (loT L c).co a B1.1 b B1.2=G1 at *
  have s2:=b6x h1 B1.1 a G1 (by omega) (by omega) a0 (by omega) x0 (by omega) (by omega)
  have p2:=s2.p
  generalize blkG F1 B1.1 a G1=G2 at *
  refine (Sx.trans s1 s2 (fun p q r=>?_) (fun p q=>?_) fun p q=>?_).fresh b13 (by omega) (by omega)
  ·have:=b14 r.1;have r:=r.2;unfold Src at q r;omega
  ·unfold Src at q ⊢;omega
  ·have:=b14 q.1;have q:=q.2;unfold Src at q ⊢;omega
 | asr c hc=>
  intro hu
  have hf:=c2g hn hc (hu.own.2.mem (by simp []))
  refine ⟨fun a b g a0 a1 b0 b1 x0 x1 g0=>?_⟩
  have e0:(loT L (sX 5 ⟨#[]⟩ [] [c] [] [])).st a b g=edG (bareE (g.p+1) b 14) (edG (bareE g.p b 13) ((loT L c).co a g.p (g.p+1) (frG (frG g)))):=by
   rw [a4B];rfl
  rw [e0]
  have hp:(frG (frG g)).p=g.p+2:=by dsimp only;omega
  have s1:=hf.co a g.p (g.p+1) (frG (frG g)) a0 (by omega) (by omega) (by omega) (by omega) (by omega) g0
  have p1:=s1.p
  rw [hp] at s1 p1
  generalize (loT L c).co a g.p (g.p+1) (frG (frG g))=G1 at *
  have s2:=b1k (L:=L) (na:=na) (g:=G1) (x:=bareE g.p b 13) ⟨by dsimp only;omega,by dsimp only;omega,b0,by dsimp only;omega,rfl,b9o (.inr (.inl rfl)),z64,z64⟩ (show (13:Int)≠12 by decide)
  have s3:=b1k (L:=L) (na:=na) (g:=edG (bareE g.p b 13) G1) (x:=bareE (g.p+1) b 14) ⟨by dsimp only;omega,by unfold edG;dsimp only;omega,b0,by unfold edG;dsimp only;omega,rfl,b9o (.inr (.inr rfl)),z64,z64⟩ (show (14:Int)≠12 by decide)
  refine (Sx.trans (S1:=fun p=>Src a (g.p+2) G1.p p∨p=g.p) (Sx.trans s1 s2 (fun p q r=>?_) (fun p q=>.inl q) fun p q=>.inr q) s3 (fun p q r=>?_) (fun p q=>?_) fun p q=>?_).fresh rfl (by omega) (Int.le_refl _)<;>(try unfold Src at *)<;>(try unfold edG at *)<;>(try dsimp only at *)<;>omega
 | asm c hc=>
  intro hu
  have hf:=c2g hn hc (hu.own.2.mem (by simp []))
  refine ⟨fun a b g a0 a1 b0 b1 x0 x1 g0=>?_⟩
  have e0:(loT L (sX 6 ⟨#[]⟩ [] [c] [] [])).st a b g=(loT L c).co a b L.ex g:=by
   rw [a4B];rfl
  rw [e0]
  exact hf.co a b L.ex g a0 a1 b0 b1 x0 x1 g0
 | skp=>
  intro _
  refine ⟨fun a b g a0 a1 b0 b1 x0 x1 g0=>?_⟩
  have e0:(loT L (sX 7 ⟨#[]⟩ [] [] [] [])).st a b g=edG (bareE a b 1) g:=by
   rw [a4B];rfl
  rw [e0]
  exact (b1k (x:=bareE a b 1) ⟨a0,a1,b0,b1,rfl,b9o (.inl rfl),z64,z64⟩ (show (1:Int)≠12 by decide)).mono fun p q=>.inl q
end
end Go.Proofs.YthaaobpfbgcfiaaGreatDoor
