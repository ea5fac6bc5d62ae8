/- A program's graph, plain: points, edges, temporaries; how much of each a tree may add. No program in sight but its types. -/
import Derived.Test.YthaaobpfbgcfiaaGreatDooryWQv
namespace Go.Proofs.YthaaobpfbgcfiaaGreatDoor
open Go.RowKit
set_option maxRecDepth 100000
set_option maxHeartbeats 2000000
abbrev Op:=o3
abbrev Ed:=b7
structure Gr where
 p:Int
 t:Int
 es:List Ed
structure En where
 nv:Int
 vf:ByteArray→Int
 af:ByteArray→Int
 ex:Int
abbrev nO:Op:=⟨-1,0⟩
abbrev bareE(f t k:Int):Ed:=⟨f,t,k,-1,-1,0,nO,nO⟩
def edG(x:Ed)(g:Gr):Gr:=⟨g.p,g.t,g.es++[x]⟩
abbrev frG(g:Gr):Gr:=⟨g.p+1,g.t,g.es⟩
abbrev teG(d:Int)(g:Gr):Gr:=⟨g.p,if d+1 > g.t then d+1 else g.t,g.es⟩
abbrev kOs:List Int:=[0,0,0,9,10,3,4,5,6,7,8]
def kO(k:Int):Int:=kOs.getD k.toNat 0
def notO(op:Int):Int:=([0,6,5,4,3,2,1]:List Int).getD op.toNat 0
def plN(L:En)(k n:Int)(s:ByteArray):List PT→Option Op
 | .mk (.expr k' n' _ _) _::_=>if k=1 then some ⟨-1,n⟩ else if k=5∧k'=1 then some ⟨-1,IntKind.wrap .i64 (0-n')⟩ else if k=2 then some ⟨L.vf s,0⟩ else none
 | _=>if k=1 then some ⟨-1,n⟩ else if k=2 then some ⟨L.vf s,0⟩ else none
structure Fs where
 pl:Option Op
 into:Int→Int→Int→Int→Gr→Gr
 co:Int→Int→Int→Gr→Gr
 st:Int→Int→Gr→Gr
def opF(L:En)(f:Fs)(from_ d:Int)(g:Gr):Op×Int×Gr:=
 match f.pl with
 | some o=>(o,from_,g)
 | none=>(⟨L.nv+d,0⟩,g.p,f.into (L.nv+d) from_ g.p d (teG d (frG g)))
def dpO(L:En)(o:Op)(d:Int):Int:=if L.nv≤o.A8 then d+1 else d
def twF(L:En)(f h:Fs)(from_ d:Int)(g:Gr):Op×Op×Int×Gr:=
 ((opF L f from_ d g).1,(opF L h (opF L f from_ d g).2.1 (dpO L (opF L f from_ d g).1 d) (opF L f from_ d g).2.2).1,(opF L h (opF L f from_ d g).2.1 (dpO L (opF L f from_ d g).1 d) (opF L f from_ d g).2.2).2.1,(opF L h (opF L f from_ d g).2.1 (dpO L (opF L f from_ d g).1 d) (opF L f from_ d g).2.2).2.2)
def inN(L:En)(k:Int)(s:ByteArray)(fs:List Fs)(dst from_ tg d:Int)(g:Gr):Gr:=
 match fs with
 | []=>edG ⟨from_,tg,kO k,dst,if k=4 then L.af s else -1,0,nO,nO⟩ g
 | [f]=>edG ⟨(opF L f from_ d g).2.1,tg,kO k,dst,if k=4 then L.af s else -1,0,(opF L f from_ d g).1,nO⟩ (opF L f from_ d g).2.2
 | [f,h]=>edG ⟨(twF L f h from_ d g).2.2.1,tg,kO k,dst,if k=4 then L.af s else -1,0,(twF L f h from_ d g).1,(twF L f h from_ d g).2.1⟩ (twF L f h from_ d g).2.2.2
 | _=>g
def asN(L:En)(k op:Int)(a b:Op)(at_ yes no:Int)(g:Gr):Gr:=edG ⟨at_,no,12,-1,-1,notO op,a,b⟩ (edG ⟨at_,yes,12,-1,-1,op,a,b⟩ g)
def coN(L:En)(k op:Int)(fs:List Fs)(from_ yes no:Int)(g:Gr):Gr:=
 if k=1 then edG (bareE from_ yes 1) g
 else if k=2 then edG (bareE from_ no 1) g
 else match fs with
  | [f]=>if k=4 then f.co from_ no yes g else g
  | [f,h]=>if k=5 then h.co g.p yes no (f.co from_ g.p no (frG g)) else if k=6 then h.co g.p yes no (f.co from_ yes g.p (frG g))
    else asN L k op (twF L f h from_ 0 g).1 (twF L f h from_ 0 g).2.1 (twF L f h from_ 0 g).2.2.1 yes no (twF L f h from_ 0 g).2.2.2
  | _=>g
def begG(fs:List Fs)(tg:Int)(g:Gr):Int×Gr:=match fs with | []=>(tg,g) | _=>(g.p,frG g)
def blG:List Fs→Int→Int→Int→Gr→Gr
 | [],_,_,_,g=>g
 | [f],from_,_,tg,g=>f.st from_ tg g
 | f::h::r,from_,nx,tg,g=>blG (h::r) nx (nx+1) tg (f.st from_ nx g)
def blkG(fs:List Fs)(from_ tg:Int)(g:Gr):Gr:=blG fs from_ g.p tg ⟨g.p+(fs.length-1:Nat),g.t,g.es⟩
def lsN(L:En)(k:Int)(s:ByteArray)(t:Nat)(fs:List Fs)(from_ tg:Int)(g:Gr):Gr:=
 match fs with
 | []=>edG (bareE from_ tg 1) g
 | f::r=>
  if k=1 then (match f.pl with
   | some o=>edG ⟨from_,tg,2,L.vf s,-1,0,o,nO⟩ g
   | none=>f.into (L.vf s) from_ tg 0 g)
  else if k=2 then (match r with
   | [h]=>edG ⟨(twF L f h from_ 0 g).2.2.1,tg,11,-1,L.af s,0,(twF L f h from_ 0 g).1,(twF L f h from_ 0 g).2.1⟩ (twF L f h from_ 0 g).2.2.2
   | _=>g)
  else if k=3 then
   blkG (r.drop t) (begG (r.drop t) tg (begG (r.take t) tg g).2).1 tg (blkG (r.take t) (begG (r.take t) tg g).1 tg (f.co from_ (begG (r.take t) tg g).1 (begG (r.drop t) tg (begG (r.take t) tg g).2).1 (begG (r.drop t) tg (begG (r.take t) tg g).2).2))
  else if k=4 then blkG r (begG r from_ g).1 from_ (f.co from_ (begG r from_ g).1 tg (begG r from_ g).2)
  else if k=5 then edG (bareE (g.p+1) tg 14) (edG (bareE g.p tg 13) (f.co from_ g.p (g.p+1) (frG (frG g))))
  else if k=6 then f.co from_ tg L.ex g
  else edG (bareE from_ tg 1) g
def loN(L:En)(l:Lab)(cs:List PT)(fs:List Fs):Fs:=
 match l with
 | .expr k n s _=>⟨plN L k n s cs,inN L k s fs,fun _ _ _ g=>g,fun _ _ g=>g⟩
 | .cond k op _ _=>⟨none,fun _ _ _ _ g=>g,coN L k op fs,fun _ _ g=>g⟩
 | .stmt k s _ _ t _=>⟨none,fun _ _ _ _ g=>g,fun _ _ _ g=>g,lsN L k s t fs⟩
 | .decl _ _=>⟨none,fun _ _ _ _ g=>g,fun _ _ _ g=>g,fun _ _ g=>g⟩
mutual
def loT(L:En):PT→Fs
 | .mk l cs=>loN L l cs (loTs L cs)
def loTs(L:En):List PT→List Fs
 | []=>[]
 | t::ts=>loT L t::loTs L ts
end
theorem a8l(L:En):∀ts:List PT,loTs L ts=ts.map (loT L)
 | []=>by rw [loTs];rfl
 | t::ts=>by rw [loTs,a8l L ts];rfl
theorem b5v(L:En){k n:Int}{s:ByteArray}{a:Nat}{ts:List PT}:loT L (.mk (.expr k n s a) ts)=⟨plN L k n s ts,inN L k s (ts.map (loT L)),fun _ _ _ g=>g,fun _ _ g=>g⟩:=by rw [loT,a8l];rfl
theorem b9f(L:En){k op:Int}{a b:Nat}{ts:List PT}:loT L (.mk (.cond k op a b) ts)=⟨none,fun _ _ _ _ g=>g,coN L k op (ts.map (loT L)),fun _ _ g=>g⟩:=by rw [loT,a8l];rfl
theorem b9g(L:En){k:Int}{s:ByteArray}{a b t c:Nat}{ts:List PT}:loT L (.mk (.stmt k s a b t c) ts)=⟨none,fun _ _ _ _ g=>g,fun _ _ _ g=>g,lsN L k s t (ts.map (loT L))⟩:=by rw [loT,a8l];rfl
structure Gl (n:Nat) (g g':Gr):Prop where
 p0:g.p≤g'.p
 p1:g'.p≤g.p+n
 t:g.t≤g'.t
 es:∃l,g'.es=g.es++l∧l.length≤n
theorem Gl.refl(g:Gr):Gl 0 g g:=⟨Int.le_refl _,by omega,Int.le_refl _,[],by simp,Nat.le_refl _⟩
theorem Gl.trans{n m:Nat}{a b c:Gr}(h:Gl n a b)(k:Gl m b c):Gl (n+m) a c:=by
 obtain ⟨p0,p1,t0,l,e,hl⟩:=h
 obtain ⟨q0,q1,t1,l',e',hl'⟩:=k
 refine ⟨by omega,by omega,by omega,l++l',by rw [e',e,List.append_assoc],by rw [List.length_append];omega⟩
theorem Gl.mono{n m:Nat}{a b:Gr}(h:Gl n a b)(k:n≤m):Gl m a b:=by
 obtain ⟨p0,p1,t0,l,e,hl⟩:=h
 exact ⟨p0,by omega,t0,l,e,by omega⟩
theorem a4m(x:Ed)(g:Gr):Gl 1 g (edG x g):=⟨Int.le_refl _,by unfold edG;dsimp only;omega,Int.le_refl _,[x],rfl,Nat.le_refl _⟩
theorem a5Y(g:Gr):Gl 1 g (frG g):=⟨by dsimp only;omega,by dsimp only;omega,Int.le_refl _,[],by simp,by simp⟩
theorem c6T(d:Int)(g:Gr):Gl 0 g (teG d g):=⟨Int.le_refl _,by dsimp only;omega,by dsimp only;split<;>omega,[],by simp,Nat.le_refl _⟩
structure Fo (n:Nat) (f:Fs):Prop where
 into:∀dst a b d g,Gl n g (f.into dst a b d g)
 co:∀a b c g,Gl n g (f.co a b c g)
 st:∀a b g,Gl n g (f.st a b g)
theorem b4u{L:En}{n:Nat}{f:Fs}(h:Fo n f)(a d:Int)(g:Gr):Gl (n+1) g (opF L f a d g).2.2:=by
 unfold opF
 split
 ·exact (Gl.refl g).mono (by omega)
 ·exact (((a5Y g).trans (c6T d _)).trans (h.into ..)).mono (by omega)
theorem b4v{L:En}{n m:Nat}{f h:Fs}(hf:Fo n f)(hh:Fo m h)(a d:Int)(g:Gr):Gl (n+1+(m+1)) g (twF L f h a d g).2.2.2:=(b4u hf a d g).trans (b4u hh ..)
theorem b1U(fs:List Fs)(tg:Int)(g:Gr):Gl 1 g (begG fs tg g).2:=by
 unfold begG
 split
 ·exact (Gl.refl g).mono (by omega)
 ·exact a5Y g
def sz:List Nat→Nat:=List.sum
inductive Fos:List PT→List Fs→Prop
 | nil:Fos [] []
 | cons {t:PT} {ts:List PT} {f:Fs} {fs:List Fs}:Fo (4*cT t-1) f→Fos ts fs→Fos (t::ts) (f::fs)
theorem c1W:∀{ts:List PT}{fs:List Fs},Fos ts fs→∀(a nx tg:Int)(g:Gr),Gl (4*cTs ts-ts.length) g (blG fs a nx tg g)
 | _,_,.nil,a,nx,tg,g=>by rw [blG];exact (Gl.refl g).mono (by omega)
 | _,_,.cons (t:=t) h .nil,a,nx,tg,g=>by rw [blG,cTs,cTs];exact (h.st ..).mono (by simp)
 | _,_,.cons (t:=t) (f:=f) h (.cons (t:=u) (ts:=r) h' k),a,nx,tg,g=>by
  rw [blG]
  have ih:=c1W (Fos.cons h' k) nx (nx+1) tg (f.st a nx g)
  refine ((h.st ..).trans ih).mono ?_
  simp only [cTs,List.length_cons]
  have:=K9 t;have:=K9 u
  have:=a9X r
  omega
theorem Fos.len{ts:List PT}{fs:List Fs}(h:Fos ts fs):fs.length=ts.length:=by
 induction h with
 | nil=>rfl
 | cons _ _ ih=>rw [List.length_cons,List.length_cons,ih]
theorem a8S{ts:List PT}{fs:List Fs}(h:Fos ts fs)(a tg:Int)(g:Gr):Gl (4*cTs ts) g (blkG fs a tg g):=by
 unfold blkG
 have h1:Gl (fs.length-1) g ⟨g.p+(fs.length-1:Nat),g.t,g.es⟩:=⟨by dsimp only;omega,by dsimp only;omega,Int.le_refl _,[],by simp,by simp⟩
 refine (h1.trans (c1W h ..)).mono ?_
 have:=h.len;have:=a9X ts;omega
theorem Fos.take{ts:List PT}{fs:List Fs}(h:Fos ts fs):∀n,Fos (ts.take n) (fs.take n):=by
 induction h with
 | nil=>intro n;simp;exact .nil
 | cons h _ ih=>intro n;cases n with
  | zero=>exact .nil
  | succ n=>exact .cons h (ih n)
theorem Fos.drop{ts:List PT}{fs:List Fs}(h:Fos ts fs):∀n,Fos (ts.drop n) (fs.drop n):=by
 induction h with
 | nil=>intro n;simp;exact .nil
 | cons h k ih=>intro n;cases n with
  | zero=>exact .cons h k
  | succ n=>exact ih n
theorem b6Z(ts:List PT)(n:Nat):cTs (ts.take n)+cTs (ts.drop n)=cTs ts:=by rw [←a9W,List.take_append_drop]
theorem c8D(L:En){k n:Int}{s:ByteArray}{cs:List PT}{fs:List Fs}(h:Fos cs fs)(dst a b d:Int)(g:Gr):Gl (4*cTs cs+1) g (inN L k s fs dst a b d g):=by
 cases h with
 | nil=>unfold inN;exact (a4m ..).mono (by omega)
 | @cons t ts f fs h1 h2=>cases h2 with
  | nil=>
   unfold inN
   refine ((b4u (L:=L) h1 a d g).trans (a4m ..)).mono ?_
   have:=K9 t;rw [cTs,cTs];omega
  | @cons u us f' fs' h3 h4=>cases h4 with
   | nil=>
    unfold inN
    refine ((b4v (L:=L) h1 h3 a d g).trans (a4m ..)).mono ?_
    have:=K9 t;have:=K9 u;rw [cTs,cTs,cTs];omega
   | cons _ _=>unfold inN;exact (Gl.refl g).mono (by omega)
theorem c8E(L:En){k op:Int}{cs:List PT}{fs:List Fs}(h:Fos cs fs)(a b c:Int)(g:Gr):Gl (4*cTs cs+2) g (coN L k op fs a b c g):=by
 unfold coN
 split
 ·exact (a4m ..).mono (by omega)
 split
 ·exact (a4m ..).mono (by omega)
 cases h with
 | nil=>exact (Gl.refl g).mono (by omega)
 | @cons t ts f fs h1 h2=>cases h2 with
  | nil=>
   dsimp only
   split
   ·refine (h1.co ..).mono ?_;rw [cTs,cTs];omega
   ·exact (Gl.refl g).mono (by omega)
  | @cons u us f' fs' h3 h4=>cases h4 with
   | nil=>
    have:=K9 t;have:=K9 u
    dsimp only
    split
    ·refine (((a5Y g).trans (h1.co ..)).trans (h3.co ..)).mono ?_;rw [cTs,cTs,cTs];omega
    split
    ·refine (((a5Y g).trans (h1.co ..)).trans (h3.co ..)).mono ?_;rw [cTs,cTs,cTs];omega
    ·unfold asN
     refine (((b4v (L:=L) h1 h3 a 0 g).trans (a4m ..)).trans (a4m ..)).mono ?_;rw [cTs,cTs,cTs];omega
   | cons _ _=>exact (Gl.refl g).mono (by omega)
theorem c8F(L:En){k:Int}{s:ByteArray}{n:Nat}{cs:List PT}{fs:List Fs}(h:Fos cs fs)(a b:Int)(g:Gr):Gl (4*cTs cs+3) g (lsN L k s n fs a b g):=by
 unfold lsN
 cases h with
 | nil=>exact (a4m ..).mono (by omega)
 | @cons t ts f r h1 h2=>
  have ht:=K9 t
  dsimp only
  rw [cTs]
  split
  ·cases f.pl with
   | some o=>exact (a4m ..).mono (by omega)
   | none=>exact (h1.into ..).mono (by omega)
  split
  ·cases h2 with
   | nil=>exact (Gl.refl g).mono (by omega)
   | @cons u us f' fs' h3 h4=>cases h4 with
    | nil=>
     refine ((b4v (L:=L) h1 h3 a 0 g).trans (a4m ..)).mono ?_
     have:=K9 u;rw [cTs,cTs];omega
    | cons _ _=>exact (Gl.refl g).mono (by omega)
  split
  ·refine (((((b1U ..).trans (b1U ..)).trans (h1.co ..)).trans (a8S (h2.take n) ..)).trans (a8S (h2.drop n) ..)).mono ?_
   have:=b6Z ts n;omega
  split
  ·refine (((b1U ..).trans (h1.co ..)).trans (a8S h2 ..)).mono ?_;omega
  split
  ·refine (((((a5Y g).trans (a5Y _)).trans (h1.co ..)).trans (a4m ..)).trans (a4m ..)).mono ?_;omega
  split
  ·exact (h1.co ..).mono (by omega)
  ·exact (a4m ..).mono (by omega)
mutual
theorem a4n(L:En):∀t:PT,Fo (4*cT t-1) (loT L t)
 | .mk l cs=>by
  have hs:=c1X L cs
  rw [loT,cT]
  have z:∀(m:Nat)(g:Gr),Gl m g g:=fun m g=>(Gl.refl g).mono (Nat.zero_le _)
  cases l with
  | expr k n s a=>exact ⟨fun dst a b d g=>(c8D L (n:=n) hs ..).mono (by omega),fun _ _ _ g=>z _ g,fun _ _ g=>z _ g⟩
  | cond k op a b=>exact ⟨fun _ _ _ _ g=>z _ g,fun _ _ _ g=>(c8E L hs ..).mono (by omega),fun _ _ g=>z _ g⟩
  | stmt k s a b t f=>exact ⟨fun _ _ _ _ g=>z _ g,fun _ _ _ g=>z _ g,fun _ _ g=>(c8F L hs ..).mono (by omega)⟩
  | decl a b=>exact ⟨fun _ _ _ _ g=>z _ g,fun _ _ _ g=>z _ g,fun _ _ g=>z _ g⟩
theorem c1X(L:En):∀ts:List PT,Fos ts (loTs L ts)
 | []=>by rw [loTs];exact .nil
 | t::ts=>by rw [loTs];exact .cons (a4n L t) (c1X L ts)
end
theorem b1V(L:En)(ts:List PT):Fos ts (ts.map (loT L)):=by rw [←a8l];exact c1X L ts
def Tl(m:Int)(g g':Gr):Prop:=g'.t≤g.t∨g'.t≤m
theorem Tl.trans{m:Int}{a b c:Gr}(h:Tl m a b)(k:Tl m b c):Tl m a c:=by unfold Tl at *;omega
theorem Tl.mono{m n:Int}{a b:Gr}(h:Tl m a b)(k:m≤n):Tl n a b:=by unfold Tl at *;omega
theorem Tl.same{m:Int}{a b:Gr}(h:b.t=a.t):Tl m a b:=.inl (by omega)
structure To (n:Nat) (f:Fs):Prop where
 into:∀dst a b d g,0≤d→Tl (d+n) g (f.into dst a b d g)
 co:∀a b c g,Tl n g (f.co a b c g)
 st:∀a b g,Tl n g (f.st a b g)
theorem c1Y{L:En}{n:Nat}{f:Fs}(h:To n f)(hn:1≤n)(a d:Int)(g:Gr)(h0:0≤d):Tl (d+n) g (opF L f a d g).2.2:=by
 unfold opF
 split
 ·exact Tl.same rfl
 ·refine Tl.trans (b:=teG d (frG g)) ?_ (h.into _ _ _ _ _ h0)
  unfold Tl;dsimp only;split<;>omega
theorem c1Z{L:En}{n m:Nat}{f h:Fs}(hf:To n f)(hn:1≤n)(hh:To m h)(hm:1≤m)(a d:Int)(g:Gr)(h0:0≤d):Tl (d+(n+m:Nat)) g (twF L f h a d g).2.2.2:=by
 have hd:d≤dpO L (opF L f a d g).1 d∧dpO L (opF L f a d g).1 d≤d+1:=by unfold dpO;split<;>omega
 refine ((c1Y hf hn a d g h0).mono (by omega)).trans ((c1Y hh hm _ _ _ (by omega)).mono (by omega))
theorem a5Z{m:Int}(x:Ed)(g:Gr):Tl m g (edG x g):=Tl.same rfl
theorem b9h{m:Int}(fs:List Fs)(tg:Int)(g:Gr):Tl m g (begG fs tg g).2:=by
 unfold begG
 split<;>exact Tl.same rfl
inductive Tos:List PT→List Fs→Prop
 | nil:Tos [] []
 | cons {t:PT} {ts:List PT} {f:Fs} {fs:List Fs}:To (cT t) f→Tos ts fs→Tos (t::ts) (f::fs)
theorem c6U:∀{ts:List PT}{fs:List Fs},Tos ts fs→∀(a nx tg:Int)(g:Gr),Tl (cTs ts) g (blG fs a nx tg g)
 | _,_,.nil,a,nx,tg,g=>by rw [blG];exact Tl.same rfl
 | _,_,.cons (t:=t) h .nil,a,nx,tg,g=>by rw [blG,cTs,cTs];exact (h.st ..).mono (by omega)
 | _,_,.cons (t:=t) (f:=f) h (.cons (t:=u) (ts:=r) h' k),a,nx,tg,g=>by
  rw [blG]
  have ih:=c6U (Tos.cons h' k) nx (nx+1) tg (f.st a nx g)
  rw [cTs]
  exact ((h.st ..).mono (by omega)).trans (ih.mono (by omega))
theorem b6r{ts:List PT}{fs:List Fs}(h:Tos ts fs)(a tg:Int)(g:Gr):Tl (cTs ts) g (blkG fs a tg g):=by
 unfold blkG
 exact Tl.trans (b:=⟨g.p+(fs.length-1:Nat),g.t,g.es⟩) (Tl.same rfl) (c6U h ..)
theorem Tos.take{ts:List PT}{fs:List Fs}(h:Tos ts fs):∀n,Tos (ts.take n) (fs.take n):=by
 induction h with
 | nil=>intro n;simp;exact .nil
 | cons h _ ih=>intro n;cases n with
  | zero=>exact .nil
  | succ n=>exact .cons h (ih n)
theorem Tos.drop{ts:List PT}{fs:List Fs}(h:Tos ts fs):∀n,Tos (ts.drop n) (fs.drop n):=by
 induction h with
 | nil=>intro n;simp;exact .nil
 | cons h k ih=>intro n;cases n with
  | zero=>exact .cons h k
  | succ n=>exact ih n
mutual
theorem d4Y(L:En):∀t:PT,To (cT t) (loT L t)
 | .mk l cs=>by
  have hs:=c2a L cs
  rw [loT,cT]
  have z:∀(m:Int)(g:Gr),Tl m g g:=fun m g=>Tl.same rfl
  cases l with
  | expr k n s a=>
   refine ⟨fun dst a b d g h0=>?_,fun _ _ _ g=>z _ g,fun _ _ g=>z _ g⟩
   dsimp only [loN]
   generalize loTs L cs=fs at hs
   unfold inN
   cases hs with
   | nil=>exact a5Z ..
   | @cons t ts f r h1 h2=>cases h2 with
    | nil=>rw [cTs,cTs];exact ((c1Y h1 (K9 t) a d g h0).mono (by omega)).trans (a5Z ..)
    | @cons u us f' r' h3 h4=>cases h4 with
     | nil=>rw [cTs,cTs,cTs];exact ((c1Z h1 (K9 t) h3 (K9 u) a d g h0).mono (by omega)).trans (a5Z ..)
     | cons _ _=>exact z _ _
  | cond k op a b=>
   refine ⟨fun _ _ _ _ g _=>z _ g,fun a b c g=>?_,fun _ _ g=>z _ g⟩
   dsimp only [loN]
   generalize loTs L cs=fs at hs
   unfold coN
   split
   ·exact a5Z ..
   split
   ·exact a5Z ..
   cases hs with
   | nil=>exact z _ _
   | @cons t ts f r h1 h2=>cases h2 with
    | nil=>
     dsimp only
     split
     ·exact (h1.co ..).mono (by rw [cTs,cTs];omega)
     ·exact z _ _
    | @cons u us f' r' h3 h4=>cases h4 with
     | nil=>
      dsimp only
      rw [cTs,cTs,cTs]
      split
      ·exact (Tl.trans (b:=frG g) (Tl.same rfl) ((h1.co ..).mono (by omega))).trans ((h3.co ..).mono (by omega))
      split
      ·exact (Tl.trans (b:=frG g) (Tl.same rfl) ((h1.co ..).mono (by omega))).trans ((h3.co ..).mono (by omega))
      ·unfold asN
       exact (((c1Z h1 (K9 t) h3 (K9 u) a 0 g (by omega)).mono (by omega)).trans (a5Z ..)).trans (a5Z ..)
     | cons _ _=>exact z _ _
  | stmt k s a b t f=>
   refine ⟨fun _ _ _ _ g _=>z _ g,fun _ _ _ g=>z _ g,fun a b g=>?_⟩
   dsimp only [loN]
   generalize loTs L cs=fs at hs
   unfold lsN
   cases hs with
   | nil=>exact a5Z ..
   | @cons u us f r h1 h2=>
    dsimp only
    rw [cTs]
    split
    ·cases f.pl with
     | some o=>exact a5Z ..
     | none=>exact (h1.into _ _ _ _ _ (by omega)).mono (by omega)
    split
    ·cases h2 with
     | nil=>exact z _ _
     | @cons v vs f' r' h3 h4=>cases h4 with
      | nil=>rw [cTs,cTs];exact ((c1Z h1 (K9 u) h3 (K9 v) a 0 g (by omega)).mono (by omega)).trans (a5Z ..)
      | cons _ _=>exact z _ _
    split
    ·have hc:=b6Z us t
     exact ((((b9h ..).trans (b9h ..)).trans ((h1.co ..).mono (by omega))).trans ((b6r (h2.take t) ..).mono (by omega))).trans ((b6r (h2.drop t) ..).mono (by omega))
    split
    ·exact ((b9h ..).trans ((h1.co ..).mono (by omega))).trans ((b6r h2 ..).mono (by omega))
    split
    ·exact ((Tl.trans (b:=frG (frG g)) (Tl.same rfl) ((h1.co ..).mono (by omega))).trans (a5Z ..)).trans (a5Z ..)
    split
    ·exact (h1.co ..).mono (by omega)
    ·exact a5Z ..
  | decl a b=>exact ⟨fun _ _ _ _ g _=>z _ g,fun _ _ _ g=>z _ g,fun _ _ g=>z _ g⟩
theorem c2a(L:En):∀ts:List PT,Tos ts (loTs L ts)
 | []=>by rw [loTs];exact .nil
 | t::ts=>by rw [loTs];exact .cons (d4Y L t) (c2a L ts)
end
theorem d1W(L:En)(ts:List PT):Tos ts (ts.map (loT L)):=by rw [←a8l];exact c2a L ts
end Go.Proofs.YthaaobpfbgcfiaaGreatDoor
