/- Graphs: which are ones, the edges from each point; the program and the document say the same. Contracts off the printed formulas. -/
import Derived.Test.YthaaobpfbgcfiaaGreatDooryWH2
namespace Go.Proofs.YthaaobpfbgcfiaaGreatDoor
open Go.RowKit
set_option maxRecDepth 100000
set_option maxHeartbeats 2000000
theorem getElem?_set_ne'{α:Type}{l:List α}{i j:Nat}{x:α}(h:i≠j):(l.set i x)[j]? = l[j]?:=List.getElem?_set_ne h
section
variable {H:Hp}{op a b:Int}
def notG(op:Int):Int:=if op=1 then 6 else if op=2 then 5 else if op=3 then 4 else if op=4 then 3 else if op=5 then 2 else if op=6 then 1 else 0
theorem c8I{K:Int→Hp→Prop}(h:K (notG op) H):a2i op H K:=by
 refine b0p _ ?_
 unfold b0o
 unfold notG at h
 refine ⟨fun h1=>?_,fun h1=>⟨?_,?_,?_⟩⟩
 ·simp at h1
  rw [if_neg (by omega),if_neg (by omega),if_neg (by omega),if_neg (by omega),if_neg (by omega),if_neg (by omega)] at h
  exact h
 ·simp at h1;omega
 ·simp at h1;omega
 ·simp at h1
  obtain rfl | rfl | rfl | rfl | rfl | rfl:=(by omega:op=1∨op=2∨op=3∨op=4∨op=5∨op=6)<;>exact h
end
section
variable {H:Hp}
theorem b4a{a b c:Bool}{K:Bool→Hp→Prop}(h:K (bif a then b else c) H):Y3 a b c H K:=by
 refine b5h _ _ _ ?_
 unfold b0r
 cases a
 ·exact ⟨fun hc=>by (cases hc),fun _=>h⟩
 ·exact ⟨fun _=>h,fun hc=>by (cases hc)⟩
def allS(c:l9):Int:=IntKind.wrap .i64 ((c.o9.n:Int)+c.t8)
def within(i n:Int):Bool:=decide (0≤i)&&decide (i < n)
theorem b5w{g:l7}{p:Int}{K:Bool→Hp→Prop}(h:K (within p g.y8.o7) H):T8 g p H K:=b0q _ _ (by unfold a5t;exact h)
theorem b4R{g:l7}{p:Int}{K:Bool→Hp→Prop}(h:K (within p (allS g.y8)) H):V8 g p H K:=a8E _ _ (by unfold a3M;exact h)
theorem c5t{g:l7}{p:Int}{K:Bool→Hp→Prop}(h:K (within p (g.y8.m8.n:Int)) H):a2j g p H K:=b0M _ _ (by unfold a5A;exact h)
def opndS(o:o3)(n:Int):Bool:=decide (o.A8 = -1)||(within o.A8 n&&decide (o.s8=0))
def bareS(o:o3):Bool:=decide (o.A8 = -1∧o.s8=0)
theorem b9k{g:l7}{o:o3}{K:Bool→Hp→Prop}(h:K (opndS o (allS g.y8)) H):W8 g o H K:=by
 refine a9f _ _ ?_
 unfold a4w
 refine a0F (within o.A8 (allS g.y8)) (fun _ K' hk=>b4R hk) ?_
 unfold opndS at h
 by_cases hv:o.A8 = -1<;>simpa [hv] using h
def wantsS(k:Int):m5:=
 if k=2∨k=3 then ⟨true,false,false,true,false⟩ else if 4≤k∧k≤8 then ⟨true,false,false,true,true⟩ else if k=9 then ⟨true,false,false,false,false⟩
 else if k=10 then ⟨true,true,false,true,false⟩ else if k=11 then ⟨false,true,false,true,true⟩ else if k=12 then ⟨false,false,true,true,true⟩ else ⟨false,false,false,false,false⟩
theorem c2b{k:Int}{K:m5→Hp→Prop}(h:K (wantsS k) H):a3X k H K:=by
 refine b2B _ ?_
 unfold wantsS at h
 have j3:∀{b:Bool}{c d:m5},c=⟨false,false,false,true,false⟩→(b=true↔4≤k∧k≤8)→¬(k=2∨k=3)→L9 k b c d H K:=by
  intro b c d hc hb h23
  subst hc
  unfold L9 L8
  rw [if_neg h23] at h
  refine ⟨fun e=>?_,fun e=>?_⟩
  ·rw [if_pos (hb.1 e)] at h;exact h
  ·rw [if_neg (fun hn=>by rw [hb.2 hn] at e;cases e)] at h
   refine ⟨fun h1=>?_,fun h1=>⟨fun h2=>?_,fun h2=>⟨fun h3=>?_,fun h3=>⟨fun h4=>?_,fun h4=>?_⟩⟩⟩⟩<;>simpa [*] using h
 have j2:∀{b:Bool}{c d:m5},c=⟨false,false,false,true,false⟩→(b=true↔(k=2∨k=3))→V5 k b c d H K:=by
  intro b c d hc hb
  unfold V5
  refine ⟨fun e=>?_,fun e=>?_⟩
  ·unfold L8
   rw [if_pos (hb.1 e)] at h
   rw [hc];exact h
  ·have h23:¬(k=2∨k=3):=fun hn=>by rw [hb.2 hn] at e;cases e
   refine ⟨fun h1=>j3 hc ?_ h23,fun h1=>⟨fun h2=>j3 hc ?_ h23,fun h2=>⟨fun h3=>j3 hc ?_ h23,fun h3=>⟨fun h4=>j3 hc ?_ h23,fun h4=>j3 hc ?_ h23⟩⟩⟩⟩<;>(rw [decide_eq_true_eq];omega)
 unfold a7z
 refine ⟨fun h1=>j2 rfl ?_,fun h1=>j2 rfl ?_⟩<;>(rw [decide_eq_true_eq];omega)
def rightS(n na:Int)(e:b7):Bool:=
 (bif (wantsS e.b8).fdst then within e.D8 n else decide (e.D8 = -1))&&(bif (wantsS e.b8).farr then within e.P9 na else decide (e.P9 = -1)) &&
 (bif (wantsS e.b8).fop then decide (1≤e.fOp)&&decide (e.fOp≤6) else decide (e.fOp=0))&&(bif (wantsS e.b8).fa then opndS e.fA n else bareS e.fA)&&(bif (wantsS e.b8).fb then opndS e.fB n else bareS e.fB)
def kindS(k:Int):Bool:=decide (1≤k)&&decide (k≤14)
def edgeS(c:l9)(e:b7):Bool:=within e.B3 c.o7&&within e.fTo c.o7 && !decide (e.B3=c.B6)&&kindS e.b8&&rightS (allS c) (c.m8.n:Int) e
theorem c8J(b c:Bool):(if b=true then c else false)=(b&&c):=by cases b<;>rfl
theorem c5u{g:l7}{e:b7}{K:Bool→Hp→Prop}(h:K (edgeS g.y8 e) H):a2k g e H K:=by
 refine b0s _ _ ?_
 unfold a5u
 refine b5w ?_
 refine a0F (within e.fTo g.y8.o7) (fun _ K' hk=>b5w hk) ?_
 have he:edgeS g.y8 e=(!((((((!within e.B3 g.y8.o7)||(!(if (!within e.B3 g.y8.o7)=false then within e.fTo g.y8.o7 else false)))||(decide (e.B3=g.y8.B6)))||(decide (e.b8 < 1)))||(decide (14 < e.b8))))&&rightS (allS g.y8) (g.y8.m8.n:Int) e):=by
  unfold edgeS kindS
  have k1:decide (e.b8 < 1) = !decide (1≤e.b8):=by by_cases hk:1≤e.b8<;>simp [hk]<;>omega
  have k2:decide (14 < e.b8) = !decide (e.b8≤14):=by by_cases hk:e.b8≤14<;>simp [hk]<;>omega
  rw [k1,k2]
  cases within e.B3 g.y8.o7<;>cases within e.fTo g.y8.o7<;>cases decide (e.B3=g.y8.B6)<;>cases decide (1≤e.b8)<;>cases decide (e.b8≤14)<;>rfl
 rw [he] at h
 refine ⟨fun hc=>?_,fun hc=>?_⟩
 ·rw [hc] at h;exact h
 ·rw [hc] at h
  refine c2b (b4R (b4a ?_))
  unfold rightS at h
  refine a0F (within e.P9 (g.y8.m8.n:Int)) (fun _ K' hk=>c5t hk) ?_
  refine a0F (bif (wantsS e.b8).farr then within e.P9 (g.y8.m8.n:Int) else decide (e.P9 = -1)) (fun hq K' hk=>b4a (by rw [if_pos hq];exact hk)) ?_
  refine a0F (bif (wantsS e.b8).fop then decide (1≤e.fOp)&&decide (e.fOp≤6) else decide (e.fOp=0)) (fun hq K' hk=>b4a hk) ?_
  refine a0F (opndS e.fA (allS g.y8)) (fun _ K' hk=>b9k hk) ?_
  refine a0F (o3.mk (-1) 0) (fun _ K' hk=>a6a hk) ?_
  refine a0F (bif (wantsS e.b8).fa then opndS e.fA (allS g.y8) else bareS e.fA) (fun hq K' hk=>b4a (by rw [if_pos hq,if_pos hq];exact hk)) ?_
  refine a0F (opndS e.fB (allS g.y8)) (fun _ K' hk=>b9k hk) ?_
  refine a0F (o3.mk (-1) 0) (fun _ K' hk=>a6a hk) ?_
  refine a0F (bif (wantsS e.b8).fb then opndS e.fB (allS g.y8) else bareS e.fB) (fun hq K' hk=>b4a (by rw [if_pos hq,if_pos hq];exact hk)) ?_
  simp only [c8J]
  generalize (bif (wantsS e.b8).fdst then within e.D8 (allS g.y8) else decide (e.D8 = -1))=b1 at *
  generalize (bif (wantsS e.b8).farr then within e.P9 (g.y8.m8.n:Int) else decide (e.P9 = -1))=b2 at *
  generalize (bif (wantsS e.b8).fop then decide (1≤e.fOp)&&decide (e.fOp≤6) else decide (e.fOp=0))=b3 at *
  generalize (bif (wantsS e.b8).fa then opndS e.fA (allS g.y8) else bareS e.fA)=b4 at *
  generalize (bif (wantsS e.b8).fb then opndS e.fB (allS g.y8) else bareS e.fB)=b5 at *
  cases b1<;>cases b2<;>cases b3<;>cases b4<;>cases b5<;>exact h
end
structure GH (H:Hp) (c:l9) (vs:List ByteArray) (ds:List j7) (es:List b7):Prop where
 v:SlH H 1 C8 c.o9 vs
 a:SlH H 2 m3 c.m8 ds
 e:SlH H 10 d7 c.B5 es
 bv:vs.length≤1099511627776
 ba:ds.length≤1099511627776
 be:es.length≤1099511627776
 bt:o8 c.t8
theorem GH.le{H H':Hp}{c:l9}{vs:List ByteArray}{ds:List j7}{es:List b7}(G:GH H c vs ds es)(l:Hle H H'):GH H' c vs ds es:=⟨G.v.le l,G.a.le l,G.e.le l,G.bv,G.ba,G.be,G.bt⟩
def sizesS(ds:List j7):Bool:=ds.all fun d=>decide (1≤d.C1)&&decide (d.C1≤1024)
def goeS:List b7→Bool
 | []=>true
 | [a]=>!decide (a.b8=12)
 | [a,b]=>decide (a.b8=12)&&decide (b.b8=12)&&decide (a.fA.A8=b.fA.A8∧a.fA.s8=b.fA.s8)&&decide (a.fB.A8=b.fB.A8∧a.fB.s8=b.fB.s8)&&decide (b.fOp=notG a.fOp)
 | _=>false
theorem b6s(a b:b7):goeS [a,b]=(decide (a.b8=12)&&decide (b.b8=12)&&decide (a.fA.A8=b.fA.A8∧a.fA.s8=b.fA.s8)&&decide (a.fB.A8=b.fB.A8∧a.fB.s8=b.fB.s8)&&decide (b.fOp=notG a.fOp)):=rfl
theorem d2c:∀{l:List b7},l.length≠0→l.length≠1→l.length≠2→goeS l=false
 | [],h,_,_=>(h rfl).elim
 | [_],_,h,_=>(h rfl).elim
 | [_,_],_,_,h=>(h rfl).elim
 | _::_::_::_,_,_,_=>rfl
def fromS(es:List b7)(p:Int):List b7:=es.filter fun e=>decide (e.B3=p)
def varsS(c:l9)(vs:List ByteArray):Bool:=decide (0≤c.t8)&&decide (c.t8≤64)&&decide ((vs.length:Int)+c.t8≤64)
def pointsS(c:l9)(es:List b7):Bool:=decide (1≤c.o7)&&decide (c.o7≤4096)&&decide ((es.length:Int)≤8192)
def forksS(c:l9)(es:List b7):Bool:=(List.range c.o7.toNat).all fun p=>goeS (fromS es (p:Int))
def gformS(c:l9)(ds:List j7)(es:List b7):Bool:=decide ((ds.length:Int)≤16)&&sizesS ds&&within c.B6 c.o7&&es.all (edgeS c)&&forksS c es
def checkS(c:l9)(vs:List ByteArray)(ds:List j7)(es:List b7):Int:=bif !varsS c vs then 90 else bif !pointsS c es then 91 else bif !gformS c ds es then 92 else 0
theorem c2c{c:l9}{vs:List ByteArray}{ds:List j7}{es:List b7}(h1:varsS c vs=true)(h2:pointsS c es=true)(h3:gformS c ds es=false):checkS c vs ds es=92:=by
 unfold checkS
 rw [h1,h2,h3];rfl
def idxS(p:Int):Int→List b7→List Int
 | _,[]=>[]
 | k,e::l=>if e.B3=p then k::idxS p (k+1) l else idxS p (k+1) l
theorem b9l(p:Int)(e:b7):∀(k:Int)(l:List b7),idxS p k (l++[e])=idxS p k l++(if e.B3=p then [k+l.length] else [])
 | k,[]=>by simp [idxS]
 | k,a::l=>by
  rw [List.cons_append,idxS,idxS,b9l p e (k+1) l]
  have:k+1+(l.length:Int)=k+((a::l).length:Int):=by rw [List.length_cons];omega
  rw [this]
  split<;>simp
theorem c4g(p:Int)(e:b7)(l:List b7):fromS (l++[e]) p=fromS l p++(if e.B3=p then [e] else []):=by
 unfold fromS
 rw [List.filter_append]
 by_cases h:e.B3=p<;>simp [h]
theorem a6V(p:Int):∀(k:Int)(l:List b7)(j:Nat)(i:Int),(idxS p k l)[j]? = some i→k≤i∧i < k+l.length∧∃e,l[(i-k).toNat]? = some e∧(fromS l p)[j]? = some e
 | k,[],j,i,h=>by simp [idxS] at h
 | k,a::l,j,i,h=>by
  unfold idxS at h
  by_cases hp:a.B3=p
  ·rw [if_pos hp] at h
   have hf:fromS (a::l) p=a::fromS l p:=by unfold fromS;simp [hp]
   rw [hf]
   cases j with
   | zero=>
    simp only [List.getElem?_cons_zero,Option.some.injEq] at h
    subst h
    refine ⟨Int.le_refl _,by rw [List.length_cons];omega,a,?_,rfl⟩
    rw [Int.sub_self];rfl
   | succ j=>
    obtain ⟨h1,h2,e,h3,h4⟩:=a6V p (k+1) l j i (by simpa using h)
    refine ⟨by omega,by rw [List.length_cons];omega,e,?_,by simpa using h4⟩
    rw [show (i-k).toNat=(i-(k+1)).toNat+1 by omega]
    simpa using h3
  ·rw [if_neg hp] at h
   have hf:fromS (a::l) p=fromS l p:=by unfold fromS;simp [hp]
   rw [hf]
   obtain ⟨h1,h2,e,h3,h4⟩:=a6V p (k+1) l j i h
   refine ⟨by omega,by rw [List.length_cons];omega,e,?_,h4⟩
   rw [show (i-k).toNat=(i-(k+1)).toNat+1 by omega]
   simpa using h3
theorem a6W(p:Int):∀(k:Int)(l:List b7),(idxS p k l).length=(fromS l p).length
 | k,[]=>rfl
 | k,a::l=>by
  unfold idxS fromS
  have ih:=a6W p (k+1) l
  unfold fromS at ih
  by_cases hp:a.B3=p<;>simp [hp,ih]
theorem b9m(es:List b7)(p:Int):(fromS es p).length≤es.length:=List.length_filter_le _ _
theorem c0V{α:Type}:∀{l:List α},l.length=2→∃a b,l=[a,b]
 | [],h=>by cases h
 | [_],h=>by cases h
 | [a,b],_=>⟨a,b,rfl⟩
 | _::_::_::_,h=>by simp at h
section
variable {H:Hp}{c:l9}{vs:List ByteArray}{ds:List j7}{es:List b7}
theorem d2d{l:List b7}{s:Sl}(hs:SlH H 10 d7 s l){K:Bool→Hp→Prop}(h:K (goeS l) H):a6v s H K:=by
 refine b4E _ ?_
 unfold a9r
 have hn:=hs.1
 refine ⟨fun h0=>?_,fun h0=>⟨fun h1=>?_,fun h1=>⟨fun h2=>?_,fun h2=>?_⟩⟩⟩
 ·have:l=[]:=List.length_eq_zero_iff.1 (by omega)
  subst this;exact h
 ·obtain ⟨x,hx,hE⟩:=hs.get (i:=0) (by omega) (by omega)
  obtain ⟨a,rfl⟩:=List.length_eq_one_iff.1 (show l.length=1 by omega)
  simp at hx;subst hx
  exact ⟨by omega,by omega,a,hE,h⟩
 ·obtain ⟨x,hx,hE⟩:=hs.get (i:=0) (by omega) (by omega)
  obtain ⟨y,hy,hF⟩:=hs.get (i:=1) (by omega) (by omega)
  obtain ⟨a,b,rfl⟩:=c0V (show l.length=2 by omega)
  simp at hx hy;subst hx;subst hy
  refine ⟨by omega,by omega,a,hE,by omega,by omega,b,hF,?_⟩
  unfold a4d
  refine a0F (notG a.fOp) (fun _ K' hk=>c8I hk) ?_
  rw [b6s] at h
  generalize hq:(decide (a.b8=12)&&decide (b.b8=12)&&decide (a.fA.A8=b.fA.A8∧a.fA.s8=b.fA.s8)&&decide (a.fB.A8=b.fB.A8∧a.fB.s8=b.fB.s8))=q at h ⊢
  cases q
  ·exact h
  ·rw [if_pos rfl];exact h
 ·have:goeS l=false:=d2c (by omega) (by omega) (by omega)
  rw [this] at h;exact h
theorem b1X(G:GH H c vs ds es)(h0:0≤c.t8)(h1:c.t8≤64):allS c=(vs.length:Int)+c.t8:=by
 unfold allS
 have:=G.v.1;have:=G.bv
 rw [Y2 ⟨by omega,by omega⟩]
 omega
theorem b7b{α:Type}{f:α→Bool}{l:List α}{i:Nat}{x:α}(h:l[i]? = some x)(hf:f x=false):l.all f=false:=by
 rw [List.all_eq_false]
 exact ⟨x,List.mem_of_getElem? h,by rw [hf];decide⟩
theorem all_good{α:Type}{f:α→Bool}{l:List α}(h:∀(i:Nat)(x:α),l[i]? = some x→f x=true):l.all f=true:=by
 rw [List.all_eq_true]
 intro x hx
 obtain ⟨i,hi,rfl⟩:=List.mem_iff_getElem.1 hx
 exact h i _ (List.getElem?_eq_getElem hi)
def RowsAt{β:Type}(P:Int)(f:Int→List β)(xss:List (List β)):Prop:=(xss.length:Int)=P∧∀p:Nat,(p:Int) < P→xss[p]? = some (f p)
theorem RowsAt.start{β:Type}{P:Int}(h0:0≤P){f:Int→List β}(hf:∀p,f p=[]):RowsAt P f (List.replicate P.toNat ([]:List β)):=by
 refine ⟨by rw [List.length_replicate];omega,fun p hp=>?_⟩
 rw [List.getElem?_replicate,if_pos (by omega),hf]
theorem RowsAt.put{β:Type}{P:Int}{f g:Int→List β}{xss:List (List β)}(h:RowsAt P f xss){q:Int}(h0:0≤q)(hq:q < P){x:β}(hg:∀p,g p=f p++(if q=p then [x] else [])):
  ∃xs,xss[q.toNat]? = some xs∧xs=f q∧RowsAt P g (xss.set q.toNat (xs++[x])):=by
 refine ⟨f q,by rw [h.2 q.toNat (by omega),Int.toNat_of_nonneg h0],rfl,by rw [List.length_set];exact h.1,fun p hp=>?_⟩
 rw [hg]
 by_cases e:q.toNat=p
 ·subst e
  rw [List.getElem?_set_self (by have:=h.1;omega),if_pos (by omega),Int.toNat_of_nonneg h0]
 ·rw [getElem?_set_ne' e,h.2 p hp,if_neg (by omega),List.append_nil]
theorem b6t{e:b7}(h:edgeS c e=true):0≤e.B3∧e.B3 < c.o7:=by
 unfold edgeS within at h
 simp at h
 omega
theorem b9n(G:GH H c vs ds es){K:Int→Hp→Prop}(h:∀H',Hle H H'→K (checkS c vs ds es) H'):a5j c H K:=by
 refine b3N _ ?_
 unfold a8N
 have nv:=G.v.1;have na:=G.a.1;have ne:=G.e.1
 have bv:=G.bv;have ba:=G.ba;have be:=G.be;have bt:=G.bt
 have hv:(((decide (c.t8 < 0))||(decide (64 < c.t8)))||(decide (64 < (IntKind.wrap .i64 ((c.o9.n:Int)+c.t8))))) = !varsS c vs:=by
  unfold varsS
  by_cases h0:0≤c.t8
  ·by_cases h1:c.t8≤64
   ·rw [Y2 ⟨by omega,by omega⟩]
    by_cases h2:(vs.length:Int)+c.t8≤64<;>simp [h0,h1,h2]<;>omega
   ·simp [h0,h1];omega
  ·simp [h0];omega
 have hp:(((decide (c.o7 < 1))||(decide (4096 < c.o7)))||(decide (8192 < (c.B5.n:Int)))) = !pointsS c es:=by
  unfold pointsS
  rw [ne]
  by_cases h0:1≤c.o7<;>by_cases h1:c.o7≤4096<;>by_cases h2:(es.length:Int)≤8192<;>simp [h0,h1,h2]<;>omega
 rw [hv,hp]
 refine ⟨fun q1=>?_,fun q1=>⟨fun q2=>?_,fun q2=>?_⟩⟩
 ·have:=h H (Hle.refl _)
  unfold checkS at this
  rw [q1] at this;exact this
 ·have:=h H (Hle.refl _)
  unfold checkS at this
  rw [q1,q2] at this;exact this
 simp at q1 q2
 have bad:gformS c ds es=false→∀H',Hle H H'→K 92 H':=fun hf H' hl=>by
  have:=h H' hl
  rwa [c2c q1 q2 hf] at this
 have pp:1≤c.o7∧c.o7≤4096∧(es.length:Int)≤8192:=by unfold pointsS at q2;simp at q2;omega
 refine ⟨fun q3=>bad ?_ H (Hle.refl _),fun q3=>?_⟩
 ·unfold gformS
  rw [show decide ((ds.length:Int)≤16)=false by simp;omega];rfl
 have a16:(ds.length:Int)≤16:=by omega
 refine Z2 (fun(i:Int) H'=>0≤i∧i≤ds.length∧Hle H H'∧∀(j:Nat) d,(j:Int) < i→ds[j]? = some d→(decide (1≤d.C1)&&decide (d.C1≤1024))=true) (fun i=>(ds.length-i).toNat) ⟨by omega,by omega,Hle.refl _,fun j d hj=>by omega⟩ ?_
 rintro i H1 next ⟨i0,i1,l1,hi⟩ hn
 unfold a7f
 have G1:=G.le l1
 refine ⟨fun hc=>?_,fun hc=>?_⟩
 ·obtain ⟨d,hd,hE⟩:=G1.a.get i0 hc
  refine ⟨i0,hc,d,hE,fun hb=>bad ?_ H1 l1,fun hb=>?_⟩
  ·have:sizesS ds=false:=b7b hd (by
    by_cases z1:1≤d.C1<;>by_cases z2:d.C1≤1024<;>simp [z1,z2] at hb ⊢ <;> omega)
   unfold gformS
   rw [this];simp
  ·rw [D6 i0 (by omega)]
   refine hn _ _ ⟨by omega,by omega,l1,fun j d' hj hd'=>?_⟩ (by omega)
   by_cases e:j=i.toNat
   ·subst e
    rw [hd] at hd';cases hd'
    by_cases z1:1≤d.C1<;>by_cases z2:d.C1≤1024<;>simp [z1,z2] at hb ⊢ <;> omega
   ·exact hi j d' (by omega) hd'
 have hsz:sizesS ds=true:=all_good fun j d hd=>hi j d (by have:=(List.getElem?_eq_some_iff.1 hd).1;omega) hd
 clear hi hn next
 unfold a3E
 refine b5w ⟨fun hb=>bad ?_ H1 l1,fun hb=>?_⟩
 ·have:within c.B6 c.o7=false:=by simpa using hb
  unfold gformS
  rw [this];simp
 have hex:within c.B6 c.o7=true:=by simpa using hb
 refine ⟨by omega,by omega,?_⟩
 refine Z2 (fun(s:List (List b7)×Int) H'=>0≤s.2∧s.2≤es.length∧Hle H H'∧RowsAt c.o7 (fun p=>fromS (es.take s.2.toNat) p) s.1∧∀(j:Nat) e,(j:Int) < s.2→es[j]? = some e→edgeS c e=true) (fun s=>(es.length-s.2).toNat)
  ⟨by simp,by simp,l1,RowsAt.start (by omega) fun p=>rfl,fun j d hj=>by simp at hj;omega⟩ ?_
 rintro ⟨xss,i⟩ H2 next ⟨i0,i1,l2,hr,hi⟩ hn
 dsimp only at i0 i1 hr hi ⊢
 unfold a3D
 have G2:=G.le l2
 refine ⟨fun hc=>?_,fun hc=>?_⟩
 ·obtain ⟨e,he,hE⟩:=G2.e.get i0 (show i < (c.B5.n:Int) by omega)
  refine ⟨i0,by omega,e,hE,c5u ⟨fun hb=>bad ?_ H2 l2,fun hb=>?_⟩⟩
  ·have:es.all (edgeS c)=false:=b7b he (by simpa using hb)
   unfold gformS
   rw [this];simp
  ·have hg:edgeS c e=true:=by simpa using hb
   obtain ⟨f0,f1⟩:=b6t hg
   have tk:es.take (i+1).toNat=es.take i.toNat++[e]:=by
    rw [show (i+1).toNat=i.toNat+1 by omega];exact L0 he
   obtain ⟨xs,hx,hxe,hr2⟩:=hr.put (g:=fun p=>fromS (es.take (i+1).toNat) p) f0 f1 (x:=e) (fun p=>by rw [tk,c4g])
   have hxl:xs.length≤8192:=by
    rw [hxe]
    have:=b9m (es.take i.toNat) e.B3
    rw [List.length_take] at this
    omega
   refine ⟨f0,xs,hx,by simp;omega,?_⟩
   rw [D6 i0 (by omega)]
   refine hn _ _ ⟨by omega,by omega,l2,hr2,fun j d' hj hd'=>?_⟩ (by omega)
   by_cases ej:j=i.toNat
   ·subst ej
    rw [he] at hd';cases hd'
    exact hg
   ·exact hi j d' (by omega) hd'
 have hall:es.all (edgeS c)=true:=all_good fun j d hd=>hi j d (by have:=(List.getElem?_eq_some_iff.1 hd).1;omega) hd
 have htk:es.take i.toNat=es:=List.take_of_length_le (by omega)
 rw [htk] at hr
 clear hi hn next
 unfold a3C
 intro s H3 l3 hs _
 obtain ⟨sn,ss,hss,hin⟩:=hs
 refine Z2 (fun(i:Int) H'=>0≤i∧i≤c.o7∧Hle H3 H'∧∀(p:Nat),(p:Int) < i→goeS (fromS es (p:Int))=true) (fun i=>(c.o7-i).toNat) ⟨by omega,by omega,Hle.refl _,fun j hj=>by omega⟩ ?_
 rintro i H4 next ⟨i0,i1,l4,hi⟩ hn
 unfold a7e
 refine ⟨fun hc=>?_,fun hc=>?_⟩
 ·have hl:=hr.1
  obtain ⟨x,hx,hE⟩:=(hss.le l4).get i0 (show i < (s.n:Int) by omega)
  obtain ⟨hxs,_⟩:=hin i.toNat x _ hx (hr.2 i.toNat (by omega))
  rw [Int.toNat_of_nonneg i0] at hxs
  refine ⟨i0,by omega,x,hE,d2d (hxs.le l4) ⟨fun hb=>bad ?_ H4 (l2.trans (l3.trans l4)),fun hb=>?_⟩⟩
  ·have:forksS c es=false:=by
    unfold forksS
    refine b7b (i:=i.toNat) (x:=i.toNat) (by rw [List.getElem?_range (by omega)]) ?_
    rw [Int.toNat_of_nonneg i0];simpa using hb
   unfold gformS
   rw [this];simp
  ·rw [D6 i0 (by omega)]
   refine hn _ _ ⟨by omega,by omega,l4,fun p hp=>?_⟩ (by omega)
   by_cases e:(p:Int)=i
   ·rw [e];simpa using hb
   ·exact hi p (by omega)
 ·unfold a3B
  have hf:forksS c es=true:=by
   unfold forksS
   refine all_good fun j p hp=>?_
   have:p < c.o7.toNat:=List.mem_range.1 (List.mem_of_getElem? hp)
   exact hi p (by omega)
  have:=h H4 (l2.trans (l3.trans l4))
  have hff:gformS c ds es=true:=by unfold gformS;rw [hsz,hex,hall,hf];simp;omega
  unfold checkS at this
  rw [q1,q2,hff] at this;exact this
end
section
variable {H:Hp}{c:l9}{vs:List ByteArray}{ds:List j7}{es:List b7}
structure FromH (H:Hp) (P:Int) (es:List b7) (s:Sl):Prop where
 n:(s.n:Int)=P
 row:∀p:Int,0≤p→p < P→∃si:Sl,EltH H s p 1 [Value.slice si.a si.n si.c]∧SlH H 1 a1j si (idxS p 0 es)
theorem FromH.le{H':Hp}{P:Int}{s:Sl}(F:FromH H P es s)(l:Hle H H'):FromH H' P es s:=⟨F.n,fun p h0 h1=>by
 obtain ⟨si,a,b⟩:=F.row p h0 h1
 exact ⟨si,a.le l,b.le l⟩⟩
theorem FromH.of{P:Int}{s:Sl}{xss:List (List Int)}(hr:RowsAt P (fun p=>idxS p 0 es) xss)(hs:SlHH H 1 a1j s xss):FromH H P es s:=by
 obtain ⟨sn,ss,hss,hin⟩:=hs
 refine ⟨by have:=hr.1;omega,fun p h0 h1=>?_⟩
 obtain ⟨x,hx,hE⟩:=hss.get h0 (show p < (s.n:Int) by have:=hr.1;omega)
 have:=(hin p.toNat x _ hx (hr.2 p.toNat (by omega))).1
 rw [Int.toNat_of_nonneg h0] at this
 exact ⟨x,hE,this⟩
end
end Go.Proofs.YthaaobpfbgcfiaaGreatDoor
