/- The program's graph of expressions and conditions: it is the plain one. Contracts off the printed formulas. -/
import Derived.Test.YthaaobpfbgcfiaaGreatDooryWH1
namespace Go.Proofs.YthaaobpfbgcfiaaGreatDoor
open Go.RowKit
set_option maxRecDepth 100000
set_option maxHeartbeats 2000000
theorem fmE{k n:Int}{s:ByteArray}{a:Int}(h:formE k n s a=true):(k=1∨k=2∨k=3)∧a=0∨(k=4∨k=5)∧a=1∨(k=6∨k=7∨k=8∨k=9∨k=10)∧a=2:=by
 unfold formE at h
 split at h
 ·cases h
 split at h
 ·simp only [Bool.and_eq_true,decide_eq_true_eq] at h;omega
 split at h
 ·simp only [decide_eq_true_eq] at h;omega
 split at h
 ·simp only [decide_eq_true_eq] at h;omega
 split at h
 ·simp only [decide_eq_true_eq] at h;omega
 ·cases h
theorem fmC{k op e p:Int}(h:formC k op e p=true):(k=1∨k=2)∧e=0∧p=0∨k=3∧e=2∧p=0∧1≤op∧op≤6∨k=4∧e=0∧p=1∨(k=5∨k=6)∧e=0∧p=2:=by
 unfold formC at h
 split at h
 ·simp only [Bool.and_eq_true,decide_eq_true_eq] at h;omega
 split at h
 ·split at h
  ·simp only [decide_eq_true_eq] at h;omega
  split at h
  ·simp only [decide_eq_true_eq] at h;omega
  split at h
  ·simp only [decide_eq_true_eq] at h;omega
  ·cases h
 ·cases h
theorem fmS{k:Int}{s:ByteArray}{e c t f:Int}(h0:0≤t)(h1:0≤f)(h:formS k s e c t f=true):k=1∧e=1∧c=0∧t=0∧f=0∨k=2∧e=2∧c=0∧t=0∧f=0∨k=3∧e=0∧c=1∨k=4∧e=0∧c=1∧f=0∨(k=5∨k=6)∧e=0∧c=1∧t=0∧f=0∨k=7∧e=0∧c=0∧t=0∧f=0:=by
 unfold formS at h
 split at h
 ·simp only [Bool.and_eq_true,Bool.not_eq_true',decide_eq_true_eq,decide_eq_false_iff_not] at h;omega
 split at h
 ·simp only [Bool.and_eq_true,Bool.not_eq_true',decide_eq_true_eq,decide_eq_false_iff_not] at h;omega
 split at h
 ·simp only [Bool.and_eq_true,decide_eq_true_eq] at h;omega
 split at h
 ·simp only [Bool.and_eq_true,decide_eq_true_eq] at h;omega
 split at h
 ·simp only [Bool.and_eq_true,Bool.not_eq_true',decide_eq_true_eq,decide_eq_false_iff_not] at h;omega
 split at h
 ·simp only [Bool.and_eq_true,Bool.not_eq_true',decide_eq_true_eq,decide_eq_false_iff_not] at h;omega
 ·cases h
structure Bd (n:Nat) (g:Gr):Prop where
 p0:0≤g.p
 p1:g.p+n≤1099511627776
 e1:g.es.length+n≤1099511627776
theorem Bd.mono{n m:Nat}{g:Gr}(h:Bd n g)(k:m≤n):Bd m g:=⟨h.p0,by have:=h.p1;omega,by have:=h.e1;omega⟩
theorem Bd.go{n m k:Nat}{g g':Gr}(h:Bd k g)(l:Gl n g g')(hk:n+m≤k):Bd m g':=by
 obtain ⟨a,b,c⟩:=h
 obtain ⟨p0,p1,_,w,e,hw⟩:=l
 refine ⟨by omega,by omega,?_⟩
 rw [e,List.length_append];omega
abbrev Lw:=f6
def lw(z:Lw)(g:Gr):Lw:=⟨⟨z.fc.o9,g.t,z.fc.m8,g.p,z.fc.B6,⟨none,0,0⟩⟩,z.fvars,z.farrays⟩
structure LwH (H:Hp) (L:En) (z:Lw):Prop where
 nv:L.nv=z.fc.o9.n
 nb:z.fc.o9.n≤1099511627776
 v:∃l,MapH H (fun s:ByteArray=>Value.string s) (fun n:Int=>Value.int .i64 n) z.fvars l∧∀s,(lk s l).getD 0=L.vf s
 a:∃l,MapH H (fun s:ByteArray=>Value.string s) (fun n:Int=>Value.int .i64 n) z.farrays l∧∀s,(lk s l).getD 0=L.af s
 ex:L.ex=z.fc.B6
section
variable {H:Hp}{L:En}{z:Lw}
theorem a5F(z:Lw)(g:Gr)(h0:0≤g.p)(h1:g.p+1≤1099511627776){K:Int→Lw→List Ed→Hp→Prop}(h:K g.p (lw z (frG g)) g.es H):D4 (lw z g) g.es H K:=by
 refine a9d _ _ ?_
 unfold a4u
 have e:IntKind.wrap .i64 ((lw z g).fc.o7+1)=g.p+1:=D6 (i:=g.p) h0 (by omega)
 have e2:IntKind.wrap .i64 (g.p+1-1)=g.p:=by rw [Y2 ⟨by omega,by omega⟩];omega
 rw [e,e2];exact h
theorem a3I(z:Lw)(g:Gr)(x:Ed)(hb:Bd 1 g){K:Lw→List Ed→Hp→Prop}(h:K (lw z (edG x g)) (edG x g).es H):C4 (lw z g) g.es x H K:=by
 refine a9L _ _ _ ?_
 unfold a4V
 have:=hb.e1
 exact ⟨by simp only [List.length_cons,List.length_nil];omega,h⟩
theorem c8G(z:Lw)(g:Gr)(d:Int)(h0:0≤d)(h1:d+1≤1099511627776)(hn:z.fc.o9.n≤1099511627776){K:Int→Lw→List Ed→Hp→Prop}(h:K (z.fc.o9.n+d) (lw z (teG d g)) g.es H):a1O (lw z g) g.es d H K:=by
 refine a9M _ _ _ ?_
 unfold a4W
 have e:IntKind.wrap .i64 (((lw z g).fc.o9.n:Int)+d)=(z.fc.o9.n:Int)+d:=by rw [show (lw z g).fc.o9.n=z.fc.o9.n from rfl];exact Y2 ⟨by omega,by omega⟩
 rw [e,D6 h0 (by omega)];exact h
theorem a6a{K:Op→Hp→Prop}(h:K nO H):Q7 H K:=b2U h
theorem a6b{a b k:Int}{K:Ed→Hp→Prop}(h:K (bareE a b k) H):M0 a b k H K:=b4I _ _ _ (a6a (a6a h))
theorem c4a(hz:LwH H L z)(g:Gr){o:Op}{d:Int}(h0:0≤d)(h1:d+1≤1099511627776){K:Int→Hp→Prop}(h:K (dpO L o d) H):a1l (lw z g) g.es o d H K:=by
 refine a8B _ _ _ _ ?_
 unfold a3K
 unfold dpO at h
 rw [hz.nv] at h
 refine ⟨fun q=>?_,fun q=>?_⟩
 ·rw [D6 h0 (by omega)]
  rw [if_pos (show (z.fc.o9.n:Int)≤o.A8 from q)] at h;exact h
 ·rw [if_neg (show ¬(z.fc.o9.n:Int)≤o.A8 from q)] at h;exact h
theorem b9i(hz:LwH H L z)(g:Gr){e:q8}{t:PT}(he:EH H e t)(hf:formT t=true){K:Op→Bool→Hp→Prop}(h1:∀o,(loT L t).pl=some o→K o true H)(h2:(loT L t).pl=none→∀o,K o false H):W9 (lw z g) g.es e H K:=by
 cases he with
 | @mk e xs ts hs hb hl hr=>
 rw [b5v] at h1 h2
 dsimp only at h1 h2
 rw [formT,Bool.and_eq_true] at hf
 have hk:=fmE hf.1
 have hn:=hs.1
 refine a9a _ _ _ ?_
 unfold a4s
 refine ⟨fun k1=>h1 _ ?_,fun k1=>?_⟩
 ·unfold plN;split<;>rw [if_pos k1]
 by_cases k5:e.b8=5
 ·match ts,xs,hl,hr,h1,h2,hk,hn,hs with
  | [t1],[x1],hl,hr,h1,h2,hk,hn,hs=>
   have hE:EltH H e.D9 0 4 (j9 x1):=hs.2 0 x1 rfl
   have hx:=hr 0 x1 t1 rfl rfl
   cases hx with
   | @mk x1 ys us hs' hb' hl' hr'=>
    have hlt:(0:Int) < e.D9.n:=by simp only [List.length_cons,List.length_nil] at hn;omega
    refine ⟨x1,fun _=>⟨by omega,hlt,hE⟩,fun q=>⟨by omega,hlt,x1,hE,h1 _ ?_⟩,fun q=>⟨fun k2=>by omega,fun _=>a6a (h2 ?_ _)⟩⟩
    ·simp only [Bool.and_eq_true,decide_eq_true_eq] at q
     unfold plN;dsimp only;rw [if_neg k1,if_pos q]
    ·simp only [Bool.and_eq_false_iff,decide_eq_false_iff_not] at q
     unfold plN;dsimp only;rw [if_neg k1,if_neg (by omega),if_neg (by omega)]
  | [],_,hl,hr,h1,h2,hk,hn,hs=>simp only [List.length_nil] at hk;omega
  | _::_::_,_,hl,hr,h1,h2,hk,hn,hs=>simp only [List.length_cons] at hk;omega
  | [_],[],hl,hr,h1,h2,hk,hn,hs=>simp at hl
  | [_],_::_::_,hl,hr,h1,h2,hk,hn,hs=>simp at hl
 ·refine ⟨e,fun q=>absurd (of_decide_eq_true q) k5,fun q=>?_,fun q=>⟨fun k2=>?_,fun k2=>a6a (h2 ?_ _)⟩⟩
  ·simp only [Bool.and_eq_true,decide_eq_true_eq] at q;omega
  ·obtain ⟨l,hM,hv⟩:=hz.v
   refine ⟨l,hM,?_⟩
   rw [hv]
   refine h1 _ ?_
   unfold plN;split
   ·rw [if_neg k1,if_neg (by omega),if_pos k2]
   ·rw [if_neg k1,if_pos k2]
  ·unfold plN;split
   ·rw [if_neg k1,if_neg (by omega),if_neg k2]
   ·rw [if_neg k1,if_neg k2]
def IntoC(H:Hp)(L:En)(z:Lw)(e:q8)(t:PT):Prop:=∀(g:Gr)(dst a b d:Int)(K:Lw→List Ed→Hp→Prop),Bd (4*cT t-1) g→0≤d→d+cT t≤1099511627776→K (lw z ((loT L t).into dst a b d g)) ((loT L t).into dst a b d g).es H→Z9 (lw z g) g.es e dst a b d H K
theorem b3d(hz:LwH H L z){e:q8}{t:PT}(he:EH H e t)(hf:formT t=true)(hI:IntoC H L z e t)(g:Gr)(a d:Int)(hb:Bd (4*cT t) g)(h0:0≤d)(h1:d+cT t≤1099511627776){K:Op→Int→Lw→List Ed→Hp→Prop}(h:K (opF L (loT L t) a d g).1 (opF L (loT L t) a d g).2.1 (lw z (opF L (loT L t) a d g).2.2) (opF L (loT L t) a d g).2.2.es H):P3 (lw z g) g.es e a d H K:=by
 refine a8k _ _ _ _ _ ?_
 unfold a3H
 have hc:=K9 t
 refine b9i hz g he hf (fun o ho=>⟨fun _=>?_,(fun q=>nomatch q)⟩) (fun ho o=>⟨(fun q=>nomatch q),fun _=>?_⟩)
 ·unfold opF at h;rw [ho] at h;exact h
 ·unfold opF at h;rw [ho] at h
  dsimp only at h
  rw [hz.nv] at h
  have b1:=hb.p1
  refine a5F z g hb.p0 (by omega) (c8G z (frG g) d h0 (by omega) hz.nb (hI (teG d (frG g)) _ _ _ _ _ ?_ h0 h1 h))
  exact hb.go ((a5Y g).trans (c6T d _)) (by omega)
theorem b9j(hz:LwH H L z){s:Sl}{x1 x2:q8}{t1 t2:PT}(hs:SlH H 4 j9 s [x1,x2])(e1:EH H x1 t1)(e2:EH H x2 t2)(f1:formT t1=true)(f2:formT t2=true)(i1:IntoC H L z x1 t1)(i2:IntoC H L z x2 t2)(g:Gr)(a d:Int)(hb:Bd (4*(cT t1+cT t2)) g)(h0:0≤d)(h1:d+(cT t1+cT t2+1:Nat)≤1099511627776){K:Op→Op→Int→Lw→List Ed→Hp→Prop}
  (h:K (twF L (loT L t1) (loT L t2) a d g).1 (twF L (loT L t1) (loT L t2) a d g).2.1 (twF L (loT L t1) (loT L t2) a d g).2.2.1 (lw z (twF L (loT L t1) (loT L t2) a d g).2.2.2) (twF L (loT L t1) (loT L t2) a d g).2.2.2.es H):T9 (lw z g) g.es s a d H K:=by
 refine b0B _ _ _ _ _ ?_
 unfold a5w
 have hn:s.n=2:=hs.1
 unfold twF at h
 dsimp only at h
 have hc:=K9 t1
 refine ⟨by omega,by omega,x1,hs.2 0 x1 rfl,b3d hz e1 f1 i1 g a d (hb.mono (by omega)) h0 (by omega) ⟨by omega,by omega,x2,hs.2 1 x2 rfl,c4a hz (opF L (loT L t1) a d g).2.2 h0 (by omega) (b3d hz e2 f2 i2 (opF L (loT L t1) a d g).2.2 _ _ ?_ ?_ ?_ h)⟩⟩
 ·exact hb.go (b4u (a4n L t1) a d g) (by omega)
 ·unfold dpO;split<;>omega
 ·unfold dpO;split<;>omega
theorem c4b{k:Int}(h0:0≤k)(h1:k < 11){K:Int→Hp→Prop}(h:K (kO k) H):a4I k H K:=b3q _ ⟨h0,h1,h⟩
theorem d1X{op:Int}(h0:1≤op)(h1:op≤6){K:Int→Hp→Prop}(h:K (notO op) H):a2i op H K:=by
 refine b0p _ ⟨fun q=>?_,fun q=>⟨by omega,by omega,h⟩⟩
 simp only [Bool.or_eq_true,decide_eq_true_eq] at q;omega
theorem b7a(hz:LwH H L z){e:q8}(g:Gr){fr tg k dst:Int}{o1 o2:Op}(hb:Bd 1 g){K:Lw→List Ed→Hp→Prop}(h:K (lw z (edG ⟨fr,tg,k,dst,if e.b8=4 then L.af e.f8 else -1,0,o1,o2⟩ g)) (edG ⟨fr,tg,k,dst,if e.b8=4 then L.af e.f8 else -1,0,o1,o2⟩ g).es H):
  M8 ⟨fr,tg,k,dst,-1,0,o1,o2⟩ z.fc.o9 g.t z.fc.m8 g.p z.fc.B6 g.es z.fvars z.farrays e H K:=by
 unfold M8 V2
 refine ⟨fun q=>?_,fun q=>?_⟩
 ·rw [if_pos q] at h
  obtain ⟨l,hM,hv⟩:=hz.a
  refine ⟨l,hM,?_⟩
  rw [hv]
  exact a3I z g _ hb h
 ·rw [if_neg q] at h
  exact a3I z g _ hb h
theorem b1W(hz:LwH H L z){e:q8}{t:PT}(he:EH H e t):formT t=true→IntoC H L z e t:=by
 induction he with
 | @mk e xs ts hs hxb hl hr ih=>
 intro hf g dst a b d K hb h0 h1 h
 rw [b5v] at h
 dsimp only at h
 rw [formT,Bool.and_eq_true] at hf
 have hk:=fmE hf.1
 have hn:=hs.1
 rw [cT] at hb h1
 refine a9N _ _ _ _ _ _ _ ?_
 unfold a4X
 refine c4b (by omega) (by omega) (a6b ?_)
 match ts,xs,hl,hr,ih,hk,hn,hs,h,hb,h1,hf with
 | [],[],hl,hr,ih,hk,hn,hs,h,hb,h1,hf=>
  simp only [List.length_nil] at hn
  refine ⟨fun q=>by omega,fun _=>⟨fun q=>by omega,fun _=>?_⟩⟩
  exact b7a hz g (hb.mono (by rw [cTs];omega)) h
 | [t1],[x1],hl,hr,ih,hk,hn,hs,h,hb,h1,hf=>
  simp only [List.length_cons,List.length_nil] at hn
  rw [formTs,formTs,Bool.and_true] at hf
  rw [cTs,cTs] at hb h1
  have hx:=hr 0 x1 t1 rfl rfl
  have hc:=K9 t1
  refine ⟨fun _=>⟨by omega,by omega,x1,hs.2 0 x1 rfl,b3d hz hx hf.2 (ih 0 x1 t1 rfl rfl hf.2) g a d (hb.mono (by omega)) h0 (by omega) ?_⟩,fun q=>by omega⟩
  exact b7a hz (opF L (loT L t1) a d g).2.2 (hb.go (b4u (a4n L t1) a d g) (by omega)) h
 | [t1,t2],[x1,x2],hl,hr,ih,hk,hn,hs,h,hb,h1,hf=>
  simp only [List.length_cons,List.length_nil] at hn
  rw [formTs,formTs,formTs,Bool.and_true,Bool.and_eq_true] at hf
  rw [cTs,cTs,cTs] at hb h1
  have hc:=K9 t1
  have hc2:=K9 t2
  refine ⟨fun q=>by omega,fun _=>⟨fun _=>b9j hz hs (hr 0 x1 t1 rfl rfl) (hr 1 x2 t2 rfl rfl) hf.2.1 hf.2.2 (ih 0 x1 t1 rfl rfl hf.2.1) (ih 1 x2 t2 rfl rfl hf.2.2) g a d (hb.mono (by omega)) h0 (by omega) ?_,fun q=>by omega⟩⟩
  exact b7a hz (twF L (loT L t1) (loT L t2) a d g).2.2.2 (hb.go (b4v (a4n L t1) (a4n L t2) a d g) (by omega)) h
 | _::_::_::_,_,hl,hr,ih,hk,hn,hs,h,hb,h1,hf=>simp only [List.length_cons] at hk;omega
 | [],_::_,hl,hr,ih,hk,hn,hs,h,hb,h1,hf=>simp at hl
 | [_],[],hl,hr,ih,hk,hn,hs,h,hb,h1,hf=>simp at hl
 | [_],_::_::_,hl,hr,ih,hk,hn,hs,h,hb,h1,hf=>simp at hl
 | [_,_],[],hl,hr,ih,hk,hn,hs,h,hb,h1,hf=>simp at hl
 | [_,_],[_],hl,hr,ih,hk,hn,hs,h,hb,h1,hf=>simp at hl
 | [_,_],_::_::_::_,hl,hr,ih,hk,hn,hs,h,hb,h1,hf=>simp at hl
end
end Go.Proofs.YthaaobpfbgcfiaaGreatDoor
