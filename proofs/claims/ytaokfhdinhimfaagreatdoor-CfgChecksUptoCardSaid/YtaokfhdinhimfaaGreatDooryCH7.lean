/- Graphs: which are ones, the edges from each point; the program and the document say the same. Contracts off the printed formulas. -/
import Derived.Test.YtaokfhdinhimfaaGreatDooryCH2
namespace Go.Proofs.YtaokfhdinhimfaaGreatDoor
open Go.RowKit
set_option maxRecDepth 100000
set_option maxHeartbeats 2000000
theorem getElem?_set_ne'{α:Type}{l:List α}{i j:Nat}{x:α}(h:i≠j):(l.set i x)[j]? = l[j]?:=List.getElem?_set_ne h
section
variable {H:Hp}{op a b:Int}
def notG(op:Int):Int:=if op=1 then 6 else if op=2 then 5 else if op=3 then 4 else if op=4 then 3 else if op=5 then 2 else if op=6 then 1 else 0
theorem c6H{K:Int→Hp→Prop}(h:K (notG op) H):a3O op H K:=by
 refine b0t _ ?_
 unfold a3X
 unfold notG at h
 refine ⟨fun h1=>?_,fun h1=>⟨fun h2=>?_,fun h2=>⟨fun h3=>?_,fun h3=>⟨fun h4=>?_,fun h4=>⟨fun h5=>?_,fun h5=>⟨fun h6=>?_,fun h6=>?_⟩⟩⟩⟩⟩⟩<;>simpa [*] using h
theorem c6I{K:Int→Hp→Prop}(h:K (notG op) H):a3m op H K:=by
 refine a9Y _ ?_
 unfold a7a
 unfold notG at h
 refine ⟨fun h1=>?_,fun h1=>⟨?_,?_,?_⟩⟩
 ·simp at h1
  rw [if_neg (by omega),if_neg (by omega),if_neg (by omega),if_neg (by omega),if_neg (by omega),if_neg (by omega)] at h
  exact h
 ·simp at h1;omega
 ·simp at h1;omega
 ·simp at h1
  obtain rfl | rfl | rfl | rfl | rfl | rfl:=(by omega:op=1∨op=2∨op=3∨op=4∨op=5∨op=6)<;>exact h
end
section
variable {H:Hp}
theorem b3a{a b c:Bool}{K:Bool→Hp→Prop}(h:K (bif a then b else c) H):Y1 a b c H K:=by
 refine b4w _ _ _ ?_
 unfold a7d
 cases a
 ·exact ⟨fun hc=>by (cases hc),fun _=>h⟩
 ·exact ⟨fun _=>h,fun hc=>by (cases hc)⟩
theorem c6J{K:i6→Hp→Prop}(h:K ⟨-1,0⟩ H):a3l H K:=a9V (by unfold a3E;exact h)
def allS(c:d4):Int:=IntKind.wrap .i64 ((c.p5.n:Int)+c.m3)
theorem c2W{c:d4}{K:Int→Hp→Prop}(h:K (allS c) H):a0u c H K:=b0o _ (by unfold a3S;exact h)
def within(i n:Int):Bool:=decide (0≤i)&&decide (i < n)
theorem b4y{g:g8}{p:Int}{K:Bool→Hp→Prop}(h:K (within p g.s8.c6) H):S1 g p H K:=a9Z _ _ (by unfold a3F;exact h)
theorem b4e{g:g8}{p:Int}{K:Bool→Hp→Prop}(h:K (within p (allS g.s8)) H):W0 g p H K:=a8E _ _ (by unfold a1w;exact h)
theorem c4l{g:g8}{p:Int}{K:Bool→Hp→Prop}(h:K (within p (g.s8.m2.n:Int)) H):a3o g p H K:=a9Q _ _ (by unfold a3z;exact h)
def opndS(o:i6)(n:Int):Bool:=decide (o.r9 = -1)||(within o.r9 n&&decide (o.p6=0))
def bareS(o:i6):Bool:=decide (o.r9 = -1∧o.p6=0)
theorem b9o{g:g8}{o:i6}{K:Bool→Hp→Prop}(h:K (opndS o (allS g.s8)) H):X4 g o H K:=by
 refine a8T _ _ ?_
 unfold a2p
 refine a0h (within o.r9 (allS g.s8)) (fun _ K' hk=>b4e hk) ?_
 unfold opndS at h
 by_cases hv:o.r9 = -1<;>simpa [hv] using h
theorem b2v{w:Bool}{o:i6}{n:Int}{K:Bool→Hp→Prop}(h:K (bif w then opndS o n else bareS o) H):V9 o w n H K:=by
 refine a8D _ _ _ ?_
 unfold a1v
 cases w
 ·exact ⟨fun _=>c6J h,fun hc=>by (cases hc)⟩
 ·exact ⟨fun hc=>by (cases hc),fun _=>h⟩
def wantsS(k:Int):i4:=
 if k=2∨k=3 then ⟨true,false,false,true,false⟩ else if 4≤k∧k≤8 then ⟨true,false,false,true,true⟩ else if k=9 then ⟨true,false,false,false,false⟩
 else if k=10 then ⟨true,true,false,true,false⟩ else if k=11 then ⟨false,true,false,true,true⟩ else if k=12 then ⟨false,false,true,true,true⟩ else ⟨false,false,false,false,false⟩
theorem c1q{k:Int}{K:i4→Hp→Prop}(h:K (wantsS k) H):a4W k H K:=by
 refine b1R _ ?_
 unfold wantsS at h
 have j3:∀{b:Bool}{c d:i4},c=⟨false,false,false,true,false⟩→(b=true↔4≤k∧k≤8)→¬(k=2∨k=3)→E3 k b c d H K:=by
  intro b c d hc hb h23
  subst hc
  unfold E3 E2
  rw [if_neg h23] at h
  refine ⟨fun e=>?_,fun e=>?_⟩
  ·rw [if_pos (hb.1 e)] at h;exact h
  ·rw [if_neg (fun hn=>by rw [hb.2 hn] at e;cases e)] at h
   refine ⟨fun h1=>?_,fun h1=>⟨fun h2=>?_,fun h2=>⟨fun h3=>?_,fun h3=>⟨fun h4=>?_,fun h4=>?_⟩⟩⟩⟩<;>simpa [*] using h
 have j2:∀{b:Bool}{c d:i4},c=⟨false,false,false,true,false⟩→(b=true↔(k=2∨k=3))→O4 k b c d H K:=by
  intro b c d hc hb
  unfold O4
  refine ⟨fun e=>?_,fun e=>?_⟩
  ·unfold E2
   rw [if_pos (hb.1 e)] at h
   rw [hc];exact h
  ·have h23:¬(k=2∨k=3):=fun hn=>by rw [hb.2 hn] at e;cases e
   refine ⟨fun h1=>j3 hc ?_ h23,fun h1=>⟨fun h2=>j3 hc ?_ h23,fun h2=>⟨fun h3=>j3 hc ?_ h23,fun h3=>⟨fun h4=>j3 hc ?_ h23,fun h4=>j3 hc ?_ h23⟩⟩⟩⟩<;>(rw [decide_eq_true_eq];omega)
 unfold a5j
 refine ⟨fun h1=>j2 rfl ?_,fun h1=>j2 rfl ?_⟩<;>(rw [decide_eq_true_eq];omega)
def rightS(n na:Int)(e:c8):Bool:=
 (bif (wantsS e.d3).fdst then within e.O0 n else decide (e.O0 = -1))&&(bif (wantsS e.d3).farr then within e.K0 na else decide (e.K0 = -1)) &&
 (bif (wantsS e.d3).fop then decide (1≤e.fOp)&&decide (e.fOp≤6) else decide (e.fOp=0))&&(bif (wantsS e.d3).fa then opndS e.fA n else bareS e.fA)&&(bif (wantsS e.d3).fb then opndS e.fB n else bareS e.fB)
def kindS(k:Int):Bool:=decide (1≤k)&&decide (k≤14)
def edgeS(c:d4)(e:c8):Bool:=within e.o4 c.c6&&within e.fTo c.c6 && !decide (e.o4=c.p9)&&kindS e.d3&&rightS (allS c) (c.m2.n:Int) e
theorem c0p(b c:Bool):(if b=true then c else false)=(b&&c):=by cases b<;>rfl
theorem c4m{g:g8}{e:c8}{K:Bool→Hp→Prop}(h:K (edgeS g.s8 e) H):a3p g e H K:=by
 refine a9R _ _ ?_
 unfold a3A
 refine b4y ?_
 refine a0h (within e.fTo g.s8.c6) (fun _ K' hk=>b4y hk) ?_
 have he:edgeS g.s8 e=(!((((((!within e.o4 g.s8.c6)||(!(if (!within e.o4 g.s8.c6)=false then within e.fTo g.s8.c6 else false)))||(decide (e.o4=g.s8.p9)))||(decide (e.d3 < 1)))||(decide (14 < e.d3))))&&rightS (allS g.s8) (g.s8.m2.n:Int) e):=by
  unfold edgeS kindS
  have k1:decide (e.d3 < 1) = !decide (1≤e.d3):=by by_cases hk:1≤e.d3<;>simp [hk]<;>omega
  have k2:decide (14 < e.d3) = !decide (e.d3≤14):=by by_cases hk:e.d3≤14<;>simp [hk]<;>omega
  rw [k1,k2]
  cases within e.o4 g.s8.c6<;>cases within e.fTo g.s8.c6<;>cases decide (e.o4=g.s8.p9)<;>cases decide (1≤e.d3)<;>cases decide (e.d3≤14)<;>rfl
 rw [he] at h
 refine ⟨fun hc=>?_,fun hc=>?_⟩
 ·rw [hc] at h;exact h
 ·rw [hc] at h
  refine c1q (b4e (b3a ?_))
  unfold rightS at h
  refine a0h (within e.K0 (g.s8.m2.n:Int)) (fun _ K' hk=>c4l hk) ?_
  refine a0h (bif (wantsS e.d3).farr then within e.K0 (g.s8.m2.n:Int) else decide (e.K0 = -1)) (fun hq K' hk=>b3a (by rw [if_pos hq];exact hk)) ?_
  refine a0h (bif (wantsS e.d3).fop then decide (1≤e.fOp)&&decide (e.fOp≤6) else decide (e.fOp=0)) (fun hq K' hk=>b3a hk) ?_
  refine a0h (opndS e.fA (allS g.s8)) (fun _ K' hk=>b9o hk) ?_
  refine a0h (i6.mk (-1) 0) (fun _ K' hk=>a6y hk) ?_
  refine a0h (bif (wantsS e.d3).fa then opndS e.fA (allS g.s8) else bareS e.fA) (fun hq K' hk=>b3a (by rw [if_pos hq,if_pos hq];exact hk)) ?_
  refine a0h (opndS e.fB (allS g.s8)) (fun _ K' hk=>b9o hk) ?_
  refine a0h (i6.mk (-1) 0) (fun _ K' hk=>a6y hk) ?_
  refine a0h (bif (wantsS e.d3).fb then opndS e.fB (allS g.s8) else bareS e.fB) (fun hq K' hk=>b3a (by rw [if_pos hq,if_pos hq];exact hk)) ?_
  simp only [c0p]
  generalize (bif (wantsS e.d3).fdst then within e.O0 (allS g.s8) else decide (e.O0 = -1))=b1 at *
  generalize (bif (wantsS e.d3).farr then within e.K0 (g.s8.m2.n:Int) else decide (e.K0 = -1))=b2 at *
  generalize (bif (wantsS e.d3).fop then decide (1≤e.fOp)&&decide (e.fOp≤6) else decide (e.fOp=0))=b3 at *
  generalize (bif (wantsS e.d3).fa then opndS e.fA (allS g.s8) else bareS e.fA)=b4 at *
  generalize (bif (wantsS e.d3).fb then opndS e.fB (allS g.s8) else bareS e.fB)=b5 at *
  cases b1<;>cases b2<;>cases b3<;>cases b4<;>cases b5<;>exact h
theorem b9K{e:c8}{n na:Int}{K:Bool→Hp→Prop}(h:K (kindS e.d3&&rightS n na e) H):a2x e n na H K:=by
 refine a9g _ _ _ ?_
 have j1:∀{d a b:Bool},(kindS e.d3=true)→(wantsS e.d3).fdst=d→(wantsS e.d3).fa=a→(wantsS e.d3).fb=b→y7 n na d a b e H K:=by
  intro d a b hk hd ha hb
  have warr:(wantsS e.d3).farr=(decide (e.d3=10)||decide (e.d3=11)):=by
   unfold wantsS;repeat' split
   all_goals first | (symm;simp;done) | (symm;simp;omega)
  have wop:(wantsS e.d3).fop=decide (e.d3=12):=by
   unfold wantsS;repeat' split
   all_goals first | (symm;simp;done) | (symm;simp;omega)
  unfold y7
  unfold rightS at h
  rw [hk,hd,ha,hb,warr,wop,Bool.true_and] at h
  have e1:((d&&((decide (e.O0 < 0))||(decide (n≤e.O0))))||((!d)&&(!decide (e.O0=(-1))))) = !(bif d then within e.O0 n else decide (e.O0 = -1)):=by
   unfold within
   cases d
   ·simp
   ·by_cases h1:0≤e.O0<;>by_cases h2:e.O0 < n<;>simp [h1,h2]<;>omega
  have e2:((((decide (e.d3=10))||(decide (e.d3=11)))&&((decide (e.K0 < 0))||(decide (na≤e.K0))))||((!((decide (e.d3=10))||(decide (e.d3=11))))&&(!decide (e.K0=(-1))))) = !(bif (decide (e.d3=10)||decide (e.d3=11)) then within e.K0 na else decide (e.K0 = -1)):=by
   unfold within
   cases (decide (e.d3=10)||decide (e.d3=11))
   ·simp
   ·by_cases h1:0≤e.K0<;>by_cases h2:e.K0 < na<;>simp [h1,h2]<;>omega
  have e3:(((decide (e.d3=12))&&((decide (e.fOp < 1))||(decide (6 < e.fOp))))||((!decide (e.d3=12))&&(!decide (e.fOp=0)))) = !(bif decide (e.d3=12) then decide (1≤e.fOp)&&decide (e.fOp≤6) else decide (e.fOp=0)):=by
   cases decide (e.d3=12)
   ·simp
   ·by_cases h1:1≤e.fOp<;>by_cases h2:e.fOp≤6<;>simp [h1,h2]<;>omega
  rw [e1,e2,e3]
  generalize (bif d then within e.O0 n else decide (e.O0 = -1))=b1 at *
  generalize (bif (decide (e.d3=10)||decide (e.d3=11)) then within e.K0 na else decide (e.K0 = -1))=b2 at *
  generalize (bif decide (e.d3=12) then decide (1≤e.fOp)&&decide (e.fOp≤6) else decide (e.fOp=0))=b3 at *
  refine ⟨fun h1=>?_,fun h1=>⟨fun h2=>?_,fun h2=>⟨fun h3=>?_,fun h3=>?_⟩⟩⟩
  ·simp at h1;subst h1;exact h
  ·simp at h1 h2;subst h1;subst h2;exact h
  ·simp at h1 h2 h3;subst h1;subst h2;subst h3;exact h
  ·simp at h1 h2 h3;subst h1;subst h2;subst h3
   refine b2v ?_
   refine a0h (bif b then opndS e.fB n else bareS e.fB) (fun _ K' hk=>b2v hk) ?_
   rw [c0p]
   generalize (bif a then opndS e.fA n else bareS e.fA)=b4 at *
   generalize (bif b then opndS e.fB n else bareS e.fB)=b5 at *
   cases b4<;>cases b5<;>exact h
 have wd:∀d a b:Bool,(∀w,wantsS e.d3=w→w.fdst=d∧w.fa=a∧w.fb=b)→(kindS e.d3=true)→y7 n na d a b e H K:=fun d a b hw hk=>j1 hk (hw _ rfl).1 (hw _ rfl).2.1 (hw _ rfl).2.2
 have kin:1≤e.d3→e.d3≤14→kindS e.d3=true:=fun h1 h2=>by unfold kindS;simp [h1,h2]
 have j5:∀{b:Bool}{d:Bool},d=false→(b=true↔(e.d3=11∨e.d3=12))→¬(e.d3=1∨e.d3=13∨e.d3=14∨(2≤e.d3∧e.d3≤10))→K4 n na d b e H K:=by
  intro b d hd hb hn
  subst hd
  unfold K4
  refine ⟨fun e1=>wd _ _ _ ?_ (kin (by have:=hb.1 e1;omega) (by have:=hb.1 e1;omega)),fun e1=>?_⟩
  ·rintro w rfl
   have:=hb.1 e1
   unfold wantsS
   rw [if_neg (by omega),if_neg (by omega),if_neg (by omega),if_neg (by omega)]
   by_cases h11:e.d3=11
   ·rw [if_pos h11];exact ⟨rfl,rfl,rfl⟩
   ·rw [if_neg h11,if_pos (by omega)];exact ⟨rfl,rfl,rfl⟩
  ·have hk:kindS e.d3=false:=by
    have h1:¬(e.d3=11∨e.d3=12):=fun hx=>by rw [hb.2 hx] at e1;cases e1
    unfold kindS
    by_cases h2:1≤e.d3<;>by_cases h3:e.d3≤14<;>simp [h2,h3]<;>omega
   rw [hk] at h;exact h
 have j4:∀{b:Bool}{d a c:Bool}{k:Int},k=e.d3→d=false→a=false→c=false→(b=true↔(4≤e.d3∧e.d3≤8))→¬(e.d3=1∨e.d3=13∨e.d3=14∨e.d3=2∨e.d3=3)→C3 n na d a c k b e H K:=by
  intro b d a c k hk hd ha hc hb hn
  subst hk hd ha hc
  unfold C3
  refine ⟨fun e1=>wd _ _ _ ?_ (kin (by have:=hb.1 e1;omega) (by have:=hb.1 e1;omega)),fun e1=>?_⟩
  ·rintro w rfl
   have:=hb.1 e1
   unfold wantsS
   rw [if_neg (by omega),if_pos (by omega)];exact ⟨rfl,rfl,rfl⟩
  ·have h48:¬(4≤e.d3∧e.d3≤8):=fun hx=>by rw [hb.2 hx] at e1;cases e1
   refine ⟨fun h1=>wd _ _ _ ?_ (kin (by omega) (by omega)),fun h1=>⟨fun h2=>wd _ _ _ ?_ (kin (by omega) (by omega)),fun h2=>⟨fun h3=>j5 rfl ?_ (by omega),fun h3=>j5 rfl ?_ (by omega)⟩⟩⟩
   ·rintro w rfl
    unfold wantsS
    rw [if_neg (by omega),if_neg (by omega),if_pos h1];exact ⟨rfl,rfl,rfl⟩
   ·rintro w rfl
    unfold wantsS
    rw [if_neg (by omega),if_neg (by omega),if_neg (by omega),if_pos h2];exact ⟨rfl,rfl,rfl⟩
   ·rw [decide_eq_true_eq];omega
   ·rw [decide_eq_true_eq];omega
 have j3:∀{b:Bool}{d a c:Bool}{k:Int},k=e.d3→d=false→a=false→c=false→(b=true↔(e.d3=2∨e.d3=3))→¬(e.d3=1∨e.d3=13∨e.d3=14)→K5 n na d a c k b e H K:=by
  intro b d a c k hk hd ha hc hb hn
  subst hk hd ha hc
  unfold K5
  refine ⟨fun e1=>wd _ _ _ ?_ (kin (by have:=hb.1 e1;omega) (by have:=hb.1 e1;omega)),fun e1=>?_⟩
  ·rintro w rfl
   unfold wantsS
   rw [if_pos (hb.1 e1)];exact ⟨rfl,rfl,rfl⟩
  ·have h23:¬(e.d3=2∨e.d3=3):=fun hx=>by rw [hb.2 hx] at e1;cases e1
   refine ⟨fun h1=>j4 rfl rfl rfl rfl ?_ (by omega),fun h1=>⟨fun h2=>j4 rfl rfl rfl rfl ?_ (by omega),fun h2=>⟨fun h3=>j4 rfl rfl rfl rfl ?_ (by omega),fun h3=>⟨fun h4=>j4 rfl rfl rfl rfl ?_ (by omega),fun h4=>j4 rfl rfl rfl rfl ?_ (by omega)⟩⟩⟩⟩<;>(rw [decide_eq_true_eq];omega)
 have j2:∀{b:Bool}{d a c:Bool}{k:Int},k=e.d3→d=false→a=false→c=false→(b=true↔(e.d3=1∨e.d3=13∨e.d3=14))→E7 n na d a c k b e H K:=by
  intro b d a c k hk hd ha hc hb
  subst hk hd ha hc
  unfold E7
  refine ⟨fun e1=>wd _ _ _ ?_ (kin (by have:=hb.1 e1;omega) (by have:=hb.1 e1;omega)),fun e1=>?_⟩
  ·rintro w rfl
   have:=hb.1 e1
   unfold wantsS
   rw [if_neg (by omega),if_neg (by omega),if_neg (by omega),if_neg (by omega),if_neg (by omega),if_neg (by omega)];exact ⟨rfl,rfl,rfl⟩
  ·have h3:¬(e.d3=1∨e.d3=13∨e.d3=14):=fun hx=>by rw [hb.2 hx] at e1;cases e1
   refine ⟨fun h1=>j3 rfl rfl rfl rfl ?_ (by omega),fun h1=>j3 rfl rfl rfl rfl ?_ (by omega)⟩<;>(rw [decide_eq_true_eq];omega)
 unfold a2F
 refine ⟨fun h1=>j2 rfl rfl rfl rfl ?_,fun h1=>⟨fun h2=>j2 rfl rfl rfl rfl ?_,fun h2=>j2 rfl rfl rfl rfl ?_⟩⟩<;>(rw [decide_eq_true_eq];omega)
end
structure GH (H:Hp) (c:d4) (vs:List ByteArray) (ds:List j8) (es:List c8):Prop where
 v:SlH H 1 y9 c.p5 vs
 a:SlH H 2 i5 c.m2 ds
 e:SlH H 10 f7 c.m4 es
 bv:vs.length≤1099511627776
 ba:ds.length≤1099511627776
 be:es.length≤1099511627776
 bt:a7l c.m3
theorem GH.le{H H':Hp}{c:d4}{vs:List ByteArray}{ds:List j8}{es:List c8}(G:GH H c vs ds es)(l:Hle H H'):GH H' c vs ds es:=⟨G.v.le l,G.a.le l,G.e.le l,G.bv,G.ba,G.be,G.bt⟩
def sizesS(ds:List j8):Bool:=ds.all fun d=>decide (1≤d.E1)&&decide (d.E1≤1024)
def goeS:List c8→Bool
 | []=>true
 | [a]=>!decide (a.d3=12)
 | [a,b]=>decide (a.d3=12)&&decide (b.d3=12)&&decide (a.fA.r9=b.fA.r9∧a.fA.p6=b.fA.p6)&&decide (a.fB.r9=b.fB.r9∧a.fB.p6=b.fB.p6)&&decide (b.fOp=notG a.fOp)
 | _=>false
theorem c2X(a b:c8):goeS [a,b]=(decide (a.d3=12)&&decide (b.d3=12)&&decide (a.fA.r9=b.fA.r9∧a.fA.p6=b.fA.p6)&&decide (a.fB.r9=b.fB.r9∧a.fB.p6=b.fB.p6)&&decide (b.fOp=notG a.fOp)):=rfl
theorem c2Y:∀{l:List c8},l.length≠0→l.length≠1→l.length≠2→goeS l=false
 | [],h,_,_=>(h rfl).elim
 | [_],_,h,_=>(h rfl).elim
 | [_,_],_,_,h=>(h rfl).elim
 | _::_::_::_,_,_,_=>rfl
def fromS(es:List c8)(p:Int):List c8:=es.filter fun e=>decide (e.o4=p)
def varsS(c:d4)(vs:List ByteArray):Bool:=decide (0≤c.m3)&&decide (c.m3≤64)&&decide ((vs.length:Int)+c.m3≤64)
def pointsS(c:d4)(es:List c8):Bool:=decide (1≤c.c6)&&decide (c.c6≤4096)&&decide ((es.length:Int)≤8192)
def forksS(c:d4)(es:List c8):Bool:=(List.range c.c6.toNat).all fun p=>goeS (fromS es (p:Int))
def gformS(c:d4)(ds:List j8)(es:List c8):Bool:=decide ((ds.length:Int)≤16)&&sizesS ds&&within c.p9 c.c6&&es.all (edgeS c)&&forksS c es
def checkS(c:d4)(vs:List ByteArray)(ds:List j8)(es:List c8):Int:=bif !varsS c vs then 90 else bif !pointsS c es then 91 else bif !gformS c ds es then 92 else 0
theorem b5q{c:d4}{vs:List ByteArray}{ds:List j8}{es:List c8}(h1:varsS c vs=true)(h2:pointsS c es=true)(h3:gformS c ds es=false):checkS c vs ds es=92:=by
 unfold checkS
 rw [h1,h2,h3];rfl
def idxS(p:Int):Int→List c8→List Int
 | _,[]=>[]
 | k,e::l=>if e.o4=p then k::idxS p (k+1) l else idxS p (k+1) l
theorem b0m(p:Int)(e:c8):∀(k:Int)(l:List c8),idxS p k (l++[e])=idxS p k l++(if e.o4=p then [k+l.length] else [])
 | k,[]=>by simp [idxS]
 | k,a::l=>by
  rw [List.cons_append,idxS,idxS,b0m p e (k+1) l]
  have:k+1+(l.length:Int)=k+((a::l).length:Int):=by rw [List.length_cons];omega
  rw [this]
  split<;>simp
theorem c2Z(p:Int)(e:c8)(l:List c8):fromS (l++[e]) p=fromS l p++(if e.o4=p then [e] else []):=by
 unfold fromS
 rw [List.filter_append]
 by_cases h:e.o4=p<;>simp [h]
theorem a8e(p:Int):∀(k:Int)(l:List c8)(j:Nat)(i:Int),(idxS p k l)[j]? = some i→k≤i∧i < k+l.length∧∃e,l[(i-k).toNat]? = some e∧(fromS l p)[j]? = some e
 | k,[],j,i,h=>by simp [idxS] at h
 | k,a::l,j,i,h=>by
  unfold idxS at h
  by_cases hp:a.o4=p
  ·rw [if_pos hp] at h
   have hf:fromS (a::l) p=a::fromS l p:=by unfold fromS;simp [hp]
   rw [hf]
   cases j with
   | zero=>
    simp only [List.getElem?_cons_zero,Option.some.injEq] at h
    subst h
    refine ⟨Int.le_refl _,by rw [List.length_cons];omega,a,?_,rfl⟩
    rw [Int.sub_self];rfl
   | succ j=>
    obtain ⟨h1,h2,e,h3,h4⟩:=a8e p (k+1) l j i (by simpa using h)
    refine ⟨by omega,by rw [List.length_cons];omega,e,?_,by simpa using h4⟩
    rw [show (i-k).toNat=(i-(k+1)).toNat+1 by omega]
    simpa using h3
  ·rw [if_neg hp] at h
   have hf:fromS (a::l) p=fromS l p:=by unfold fromS;simp [hp]
   rw [hf]
   obtain ⟨h1,h2,e,h3,h4⟩:=a8e p (k+1) l j i h
   refine ⟨by omega,by rw [List.length_cons];omega,e,?_,h4⟩
   rw [show (i-k).toNat=(i-(k+1)).toNat+1 by omega]
   simpa using h3
theorem a4q(p:Int):∀(k:Int)(l:List c8),(idxS p k l).length=(fromS l p).length
 | k,[]=>rfl
 | k,a::l=>by
  unfold idxS fromS
  have ih:=a4q p (k+1) l
  unfold fromS at ih
  by_cases hp:a.o4=p<;>simp [hp,ih]
theorem a5s(es:List c8)(p:Int):(fromS es p).length≤es.length:=List.length_filter_le _ _
theorem b3O{α:Type}:∀{l:List α},l.length=2→∃a b,l=[a,b]
 | [],h=>by cases h
 | [_],h=>by cases h
 | [a,b],_=>⟨a,b,rfl⟩
 | _::_::_::_,h=>by simp at h
section
variable {H:Hp}{c:d4}{vs:List ByteArray}{ds:List j8}{es:List c8}
theorem c9w{l:List c8}{s:Sl}(hs:SlH H 10 f7 s l){K:Bool→Hp→Prop}(h:K (goeS l) H):a6C s H K:=by
 refine b3S _ ?_
 unfold a6H
 have hn:=hs.1
 refine ⟨fun h0=>?_,fun h0=>⟨fun h1=>?_,fun h1=>⟨fun h2=>?_,fun h2=>?_⟩⟩⟩
 ·have:l=[]:=List.length_eq_zero_iff.1 (by omega)
  subst this;exact h
 ·obtain ⟨x,hx,hE⟩:=hs.get (i:=0) (by omega) (by omega)
  obtain ⟨a,rfl⟩:=List.length_eq_one_iff.1 (show l.length=1 by omega)
  simp at hx;subst hx
  exact ⟨by omega,by omega,a,hE,h⟩
 ·obtain ⟨x,hx,hE⟩:=hs.get (i:=0) (by omega) (by omega)
  obtain ⟨y,hy,hF⟩:=hs.get (i:=1) (by omega) (by omega)
  obtain ⟨a,b,rfl⟩:=b3O (show l.length=2 by omega)
  simp at hx hy;subst hx;subst hy
  refine ⟨by omega,by omega,a,hE,by omega,by omega,b,hF,?_⟩
  unfold a2I
  refine a0h (notG a.fOp) (fun _ K' hk=>c6I hk) ?_
  rw [c2X] at h
  generalize hq:(decide (a.d3=12)&&decide (b.d3=12)&&decide (a.fA.r9=b.fA.r9∧a.fA.p6=b.fA.p6)&&decide (a.fB.r9=b.fB.r9∧a.fB.p6=b.fB.p6))=q at h ⊢
  cases q
  ·exact h
  ·rw [if_pos rfl];exact h
 ·have:goeS l=false:=c2Y (by omega) (by omega) (by omega)
  rw [this] at h;exact h
theorem c6K(G:GH H c vs ds es){p:Int}{s:Sl}(hs:SlH H 1 o3 s (idxS p 0 es)){K:Bool→Hp→Prop}(h:K (goeS (fromS es p)) H):a3k c s H K:=by
 refine a9K _ _ ?_
 unfold a3t
 have hn:=hs.1
 have hl:=a4q p 0 es
 have ne:=G.e.1
 have get:∀{i:Int},0≤i→i < s.n→∃k:Int,EltH H s i 1 (o3 k)∧0≤k∧k < (c.m4.n:Int)∧∃e,EltH H c.m4 k 10 (f7 e)∧(fromS es p)[i.toNat]? = some e:=by
  intro i h0 h1
  obtain ⟨k,hk,hE⟩:=hs.get h0 h1
  obtain ⟨k0,k1,e,he,hf⟩:=a8e p 0 es _ _ hk
  obtain ⟨e',he',hF⟩:=G.e.get k0 (show k < (c.m4.n:Int) by omega)
  rw [Int.sub_zero] at he
  rw [he] at he';cases he'
  exact ⟨k,hE,k0,by omega,e,hF,hf⟩
 refine ⟨fun h0=>?_,fun h0=>?_⟩
 ·have:fromS es p=[]:=List.length_eq_zero_iff.1 (by omega)
  rw [this] at h;exact h
 ·obtain ⟨k,hE,k0,k1,a,hA,ha⟩:=get (i:=0) (by omega) (by omega)
  refine ⟨by omega,by omega,k,hE,k0,k1,a,hA,fun h1=>?_,fun h1=>?_⟩
  ·obtain ⟨x,hx⟩:=List.length_eq_one_iff.1 (show (fromS es p).length=1 by omega)
   rw [hx] at ha h
   simp at ha;subst ha
   exact h
  ·obtain ⟨k',hE',k0',k1',b,hB,hb⟩:=get (i:=1) (by omega) (by omega)
   refine ⟨by omega,by omega,k',hE',k0',k1',b,hB,?_⟩
   refine a0h (notG a.fOp) (fun _ K' hk=>c6H hk) ?_
   by_cases h2:(s.n:Int)=2
   ·obtain ⟨x,y,hxy⟩:=b3O (show (fromS es p).length=2 by omega)
    rw [hxy] at ha hb h
    simp at ha hb;subst ha;subst hb
    rw [c2X] at h
    rw [show decide ((s.n:Int)=2)=true by simpa using h2,Bool.true_and]
    generalize hq:(decide (x.d3=12)&&decide (y.d3=12)&&decide (x.fA.r9=y.fA.r9∧x.fA.p6=y.fA.p6)&&decide (x.fB.r9=y.fB.r9∧x.fB.p6=y.fB.p6))=q at h ⊢
    cases q
    ·exact h
    ·rw [if_pos rfl];exact h
   ·have:goeS (fromS es p)=false:=c2Y (by omega) (by omega) (by omega)
    rw [this] at h
    rw [show decide ((s.n:Int)=2)=false by simpa using h2]
    exact h
theorem c6L(G:GH H c vs ds es)(h0:0≤c.m3)(h1:c.m3≤64):allS c=(vs.length:Int)+c.m3:=by
 unfold allS
 have:=G.v.1;have:=G.bv
 rw [V6 ⟨by omega,by omega⟩]
 omega
theorem a9A{α:Type}{f:α→Bool}{l:List α}{i:Nat}{x:α}(h:l[i]? = some x)(hf:f x=false):l.all f=false:=by
 rw [List.all_eq_false]
 exact ⟨x,List.mem_of_getElem? h,by rw [hf];decide⟩
theorem all_good{α:Type}{f:α→Bool}{l:List α}(h:∀(i:Nat)(x:α),l[i]? = some x→f x=true):l.all f=true:=by
 rw [List.all_eq_true]
 intro x hx
 obtain ⟨i,hi,rfl⟩:=List.mem_iff_getElem.1 hx
 exact h i _ (List.getElem?_eq_getElem hi)
def RowsAt{β:Type}(P:Int)(f:Int→List β)(xss:List (List β)):Prop:=(xss.length:Int)=P∧∀p:Nat,(p:Int) < P→xss[p]? = some (f p)
theorem RowsAt.start{β:Type}{P:Int}(h0:0≤P){f:Int→List β}(hf:∀p,f p=[]):RowsAt P f (List.replicate P.toNat ([]:List β)):=by
 refine ⟨by rw [List.length_replicate];omega,fun p hp=>?_⟩
 rw [List.getElem?_replicate,if_pos (by omega),hf]
theorem RowsAt.put{β:Type}{P:Int}{f g:Int→List β}{xss:List (List β)}(h:RowsAt P f xss){q:Int}(h0:0≤q)(hq:q < P){x:β}(hg:∀p,g p=f p++(if q=p then [x] else [])):
  ∃xs,xss[q.toNat]? = some xs∧xs=f q∧RowsAt P g (xss.set q.toNat (xs++[x])):=by
 refine ⟨f q,by rw [h.2 q.toNat (by omega),Int.toNat_of_nonneg h0],rfl,by rw [List.length_set];exact h.1,fun p hp=>?_⟩
 rw [hg]
 by_cases e:q.toNat=p
 ·subst e
  rw [List.getElem?_set_self (by have:=h.1;omega),if_pos (by omega),Int.toNat_of_nonneg h0]
 ·rw [getElem?_set_ne' e,h.2 p hp,if_neg (by omega),List.append_nil]
theorem a6A{e:c8}(h:edgeS c e=true):0≤e.o4∧e.o4 < c.c6:=by
 unfold edgeS within at h
 simp at h
 omega
theorem a4P(G:GH H c vs ds es){K:Int→Hp→Prop}(h:∀H',Hle H H'→K (checkS c vs ds es) H'):O1 c H K:=by
 refine b2Q _ ?_
 unfold a6c
 have nv:=G.v.1;have na:=G.a.1;have ne:=G.e.1
 have bv:=G.bv;have ba:=G.ba;have be:=G.be;have bt:=G.bt
 have hv:(((decide (c.m3 < 0))||(decide (64 < c.m3)))||(decide (64 < (IntKind.wrap .i64 ((c.p5.n:Int)+c.m3))))) = !varsS c vs:=by
  unfold varsS
  by_cases h0:0≤c.m3
  ·by_cases h1:c.m3≤64
   ·rw [V6 ⟨by omega,by omega⟩]
    by_cases h2:(vs.length:Int)+c.m3≤64<;>simp [h0,h1,h2]<;>omega
   ·simp [h0,h1];omega
  ·simp [h0];omega
 have hp:(((decide (c.c6 < 1))||(decide (4096 < c.c6)))||(decide (8192 < (c.m4.n:Int)))) = !pointsS c es:=by
  unfold pointsS
  rw [ne]
  by_cases h0:1≤c.c6<;>by_cases h1:c.c6≤4096<;>by_cases h2:(es.length:Int)≤8192<;>simp [h0,h1,h2]<;>omega
 rw [hv,hp]
 refine ⟨fun q1=>?_,fun q1=>⟨fun q2=>?_,fun q2=>?_⟩⟩
 ·have:=h H (Hle.refl _)
  unfold checkS at this
  rw [q1] at this;exact this
 ·have:=h H (Hle.refl _)
  unfold checkS at this
  rw [q1,q2] at this;exact this
 simp at q1 q2
 have bad:gformS c ds es=false→∀H',Hle H H'→K 92 H':=fun hf H' hl=>by
  have:=h H' hl
  rwa [b5q q1 q2 hf] at this
 have pp:1≤c.c6∧c.c6≤4096∧(es.length:Int)≤8192:=by unfold pointsS at q2;simp at q2;omega
 refine ⟨fun q3=>bad ?_ H (Hle.refl _),fun q3=>?_⟩
 ·unfold gformS
  rw [show decide ((ds.length:Int)≤16)=false by simp;omega];rfl
 have a16:(ds.length:Int)≤16:=by omega
 refine G9 (fun(i:Int) H'=>0≤i∧i≤ds.length∧Hle H H'∧∀(j:Nat) d,(j:Int) < i→ds[j]? = some d→(decide (1≤d.E1)&&decide (d.E1≤1024))=true) (fun i=>(ds.length-i).toNat) ⟨by omega,by omega,Hle.refl _,fun j d hj=>by omega⟩ ?_
 rintro i H1 next ⟨i0,i1,l1,hi⟩ hn
 unfold a4K
 have G1:=G.le l1
 refine ⟨fun hc=>?_,fun hc=>?_⟩
 ·obtain ⟨d,hd,hE⟩:=G1.a.get i0 hc
  refine ⟨i0,hc,d,hE,fun hb=>bad ?_ H1 l1,fun hb=>?_⟩
  ·have:sizesS ds=false:=a9A hd (by
    by_cases z1:1≤d.E1<;>by_cases z2:d.E1≤1024<;>simp [z1,z2] at hb ⊢ <;> omega)
   unfold gformS
   rw [this];simp
  ·rw [v6 i0 (by omega)]
   refine hn _ _ ⟨by omega,by omega,l1,fun j d' hj hd'=>?_⟩ (by omega)
   by_cases e:j=i.toNat
   ·subst e
    rw [hd] at hd';cases hd'
    by_cases z1:1≤d.E1<;>by_cases z2:d.E1≤1024<;>simp [z1,z2] at hb ⊢ <;> omega
   ·exact hi j d' (by omega) hd'
 have hsz:sizesS ds=true:=all_good fun j d hd=>hi j d (by have:=(List.getElem?_eq_some_iff.1 hd).1;omega) hd
 clear hi hn next
 unfold a1O
 refine b4y ⟨fun hb=>bad ?_ H1 l1,fun hb=>?_⟩
 ·have:within c.p9 c.c6=false:=by simpa using hb
  unfold gformS
  rw [this];simp
 have hex:within c.p9 c.c6=true:=by simpa using hb
 refine ⟨by omega,by omega,?_⟩
 refine G9 (fun(s:List (List c8)×Int) H'=>0≤s.2∧s.2≤es.length∧Hle H H'∧RowsAt c.c6 (fun p=>fromS (es.take s.2.toNat) p) s.1∧∀(j:Nat) e,(j:Int) < s.2→es[j]? = some e→edgeS c e=true) (fun s=>(es.length-s.2).toNat)
  ⟨by simp,by simp,l1,RowsAt.start (by omega) fun p=>rfl,fun j d hj=>by simp at hj;omega⟩ ?_
 rintro ⟨xss,i⟩ H2 next ⟨i0,i1,l2,hr,hi⟩ hn
 dsimp only at i0 i1 hr hi ⊢
 unfold a1N
 have G2:=G.le l2
 refine ⟨fun hc=>?_,fun hc=>?_⟩
 ·obtain ⟨e,he,hE⟩:=G2.e.get i0 (show i < (c.m4.n:Int) by omega)
  refine ⟨i0,by omega,e,hE,c4m ⟨fun hb=>bad ?_ H2 l2,fun hb=>?_⟩⟩
  ·have:es.all (edgeS c)=false:=a9A he (by simpa using hb)
   unfold gformS
   rw [this];simp
  ·have hg:edgeS c e=true:=by simpa using hb
   obtain ⟨f0,f1⟩:=a6A hg
   have tk:es.take (i+1).toNat=es.take i.toNat++[e]:=by
    rw [show (i+1).toNat=i.toNat+1 by omega];exact J0 he
   obtain ⟨xs,hx,hxe,hr2⟩:=hr.put (g:=fun p=>fromS (es.take (i+1).toNat) p) f0 f1 (x:=e) (fun p=>by rw [tk,c2Z])
   have hxl:xs.length≤8192:=by
    rw [hxe]
    have:=a5s (es.take i.toNat) e.o4
    rw [List.length_take] at this
    omega
   refine ⟨f0,xs,hx,by simp;omega,?_⟩
   rw [v6 i0 (by omega)]
   refine hn _ _ ⟨by omega,by omega,l2,hr2,fun j d' hj hd'=>?_⟩ (by omega)
   by_cases ej:j=i.toNat
   ·subst ej
    rw [he] at hd';cases hd'
    exact hg
   ·exact hi j d' (by omega) hd'
 have hall:es.all (edgeS c)=true:=all_good fun j d hd=>hi j d (by have:=(List.getElem?_eq_some_iff.1 hd).1;omega) hd
 have htk:es.take i.toNat=es:=List.take_of_length_le (by omega)
 rw [htk] at hr
 clear hi hn next
 unfold a1M
 intro s H3 l3 hs _
 obtain ⟨sn,ss,hss,hin⟩:=hs
 refine G9 (fun(i:Int) H'=>0≤i∧i≤c.c6∧Hle H3 H'∧∀(p:Nat),(p:Int) < i→goeS (fromS es (p:Int))=true) (fun i=>(c.c6-i).toNat) ⟨by omega,by omega,Hle.refl _,fun j hj=>by omega⟩ ?_
 rintro i H4 next ⟨i0,i1,l4,hi⟩ hn
 unfold a4J
 refine ⟨fun hc=>?_,fun hc=>?_⟩
 ·have hl:=hr.1
  obtain ⟨x,hx,hE⟩:=(hss.le l4).get i0 (show i < (s.n:Int) by omega)
  obtain ⟨hxs,_⟩:=hin i.toNat x _ hx (hr.2 i.toNat (by omega))
  rw [Int.toNat_of_nonneg i0] at hxs
  refine ⟨i0,by omega,x,hE,c9w (hxs.le l4) ⟨fun hb=>bad ?_ H4 (l2.trans (l3.trans l4)),fun hb=>?_⟩⟩
  ·have:forksS c es=false:=by
    unfold forksS
    refine a9A (i:=i.toNat) (x:=i.toNat) (by rw [List.getElem?_range (by omega)]) ?_
    rw [Int.toNat_of_nonneg i0];simpa using hb
   unfold gformS
   rw [this];simp
  ·rw [v6 i0 (by omega)]
   refine hn _ _ ⟨by omega,by omega,l4,fun p hp=>?_⟩ (by omega)
   by_cases e:(p:Int)=i
   ·rw [e];simpa using hb
   ·exact hi p (by omega)
 ·unfold a1L
  have hf:forksS c es=true:=by
   unfold forksS
   refine all_good fun j p hp=>?_
   have:p < c.c6.toNat:=List.mem_range.1 (List.mem_of_getElem? hp)
   exact hi p (by omega)
  have:=h H4 (l2.trans (l3.trans l4))
  have hff:gformS c ds es=true:=by unfold gformS;rw [hsz,hex,hall,hf];simp;omega
  unfold checkS at this
  rw [q1,q2,hff] at this;exact this
theorem b9p(G:GH H c vs ds es){K:Int→Hp→Prop}(h:∀H',Hle H H'→K (checkS c vs ds es) H'):a2y c H K:=by
 refine a9n _ ?_
 unfold a2Q
 have nv:=G.v.1;have na:=G.a.1;have ne:=G.e.1
 have bv:=G.bv;have ba:=G.ba;have be:=G.be;have bt:=G.bt
 refine a0h (allS c) (fun _ K' hk=>c2W hk) ?_
 have hv:((((decide (c.m3 < 0))||(decide (64 < c.m3)))||(decide (64 < (c.p5.n:Int))))||(decide (64 < (if (((decide (c.m3 < 0))||(decide (64 < c.m3)))||(decide (64 < (c.p5.n:Int))))=false then allS c else 0)))) = !varsS c vs:=by
  unfold varsS
  by_cases h0:0≤c.m3
  ·by_cases h1:c.m3≤64
   ·rw [c6L G h0 h1]
    by_cases h3:(c.p5.n:Int)≤64
    ·by_cases h2:(vs.length:Int)+c.m3≤64
     ·have e1:¬c.m3 < 0:=by omega
      have e2:¬64 < c.m3:=by omega
      have e3:¬(64:Int) < (c.p5.n:Int):=by omega
      have e4:¬(64:Int) < (vs.length:Int)+c.m3:=by omega
      simp only [e1,e2,e3,decide_false,Bool.or_false,if_true,e4,h0,h1,h2,decide_true,Bool.and_true,Bool.not_true]
     ·have e1:¬c.m3 < 0:=by omega
      have e2:¬64 < c.m3:=by omega
      have e3:¬(64:Int) < (c.p5.n:Int):=by omega
      have e4:(64:Int) < (vs.length:Int)+c.m3:=by omega
      simp only [e1,e2,e3,decide_false,Bool.or_false,if_true,e4,h0,h1,h2,decide_true,Bool.and_true,Bool.and_false,Bool.or_true,Bool.not_false]
    ·have e3:(64:Int) < (c.p5.n:Int):=by omega
     have h2:¬((vs.length:Int)+c.m3≤64):=by omega
     simp [e3,h2]
   ·have e2:64 < c.m3:=by omega
    simp [e2,h1]
  ·have e1:c.m3 < 0:=by omega
   simp [e1,h0]
 have hp:(((decide (c.c6 < 1))||(decide (4096 < c.c6)))||(decide (8192 < (c.m4.n:Int)))) = !pointsS c es:=by
  unfold pointsS
  rw [ne]
  by_cases h0:1≤c.c6<;>by_cases h1:c.c6≤4096<;>by_cases h2:(es.length:Int)≤8192<;>simp [h0,h1,h2]<;>omega
 rw [hv,hp]
 refine ⟨fun q1=>?_,fun q1=>⟨fun q2=>?_,fun q2=>?_⟩⟩
 ·have:=h H (Hle.refl _)
  unfold checkS at this
  rw [q1] at this;exact this
 ·have:=h H (Hle.refl _)
  unfold checkS at this
  rw [q1,q2] at this;exact this
 simp at q1 q2
 have bad:gformS c ds es=false→∀H',Hle H H'→K 92 H':=fun hf H' hl=>by
  have:=h H' hl
  rwa [b5q q1 q2 hf] at this
 have pp:1≤c.c6∧c.c6≤4096∧(es.length:Int)≤8192:=by unfold pointsS at q2;simp at q2;omega
 have q3e:(((decide (16 < (c.m2.n:Int)))||(decide (c.p9 < 0)))||(decide (c.c6≤c.p9))) = !(decide ((ds.length:Int)≤16)&&within c.p9 c.c6):=by
  unfold within
  by_cases h0:(ds.length:Int)≤16<;>by_cases h1:0≤c.p9<;>by_cases h2:c.p9 < c.c6<;>simp [h0,h1,h2]<;>omega
 rw [q3e]
 refine ⟨fun q3=>bad ?_ H (Hle.refl _),fun q3=>?_⟩
 ·simp at q3
  unfold gformS
  rcases q3 with q | q
  ·rw [show decide ((ds.length:Int)≤16)=false by simp;omega];rfl
  ·rw [q];simp
 have a16:(ds.length:Int)≤16∧within c.p9 c.c6=true:=by simpa using q3
 have hex:=a16.2
 refine G9 (fun(i:Int) H'=>0≤i∧i≤ds.length∧Hle H H'∧∀(j:Nat) d,(j:Int) < i→ds[j]? = some d→(decide (1≤d.E1)&&decide (d.E1≤1024))=true) (fun i=>(ds.length-i).toNat) ⟨by omega,by omega,Hle.refl _,fun j d hj=>by omega⟩ ?_
 rintro i H1 next ⟨i0,i1,l1,hi⟩ hn
 unfold a0L
 have G1:=G.le l1
 refine ⟨fun hc=>?_,fun hc=>?_⟩
 ·obtain ⟨d,hd,hE⟩:=G1.a.get i0 hc
  refine ⟨i0,hc,d,hE,fun hb=>bad ?_ H1 l1,fun hb=>?_⟩
  ·have:sizesS ds=false:=a9A hd (by
    by_cases z1:1≤d.E1<;>by_cases z2:d.E1≤1024<;>simp [z1,z2] at hb ⊢ <;> omega)
   unfold gformS
   rw [this];simp
  ·rw [v6 i0 (by omega)]
   refine hn _ _ ⟨by omega,by omega,l1,fun j d' hj hd'=>?_⟩ (by omega)
   by_cases e:j=i.toNat
   ·subst e
    rw [hd] at hd';cases hd'
    by_cases z1:1≤d.E1<;>by_cases z2:d.E1≤1024<;>simp [z1,z2] at hb ⊢ <;> omega
   ·exact hi j d' (by omega) hd'
 have hsz:sizesS ds=true:=all_good fun j d hd=>hi j d (by have:=(List.getElem?_eq_some_iff.1 hd).1;omega) hd
 clear hi hn next
 unfold U5
 refine ⟨by omega,by omega,?_⟩
 refine G9 (fun(s:List (List Int)×Int) H'=>0≤s.2∧s.2≤es.length∧Hle H H'∧RowsAt c.c6 (fun p=>idxS p 0 (es.take s.2.toNat)) s.1∧∀(j:Nat) e,(j:Int) < s.2→es[j]? = some e→edgeS c e=true) (fun s=>(es.length-s.2).toNat)
  ⟨by simp,by simp,l1,RowsAt.start (by omega) fun p=>rfl,fun j d hj=>by simp at hj;omega⟩ ?_
 rintro ⟨xss,i⟩ H2 next ⟨i0,i1,l2,hr,hi⟩ hn
 dsimp only at i0 i1 hr hi ⊢
 unfold U4
 have G2:=G.le l2
 refine ⟨fun hc=>?_,fun hc=>?_⟩
 ·obtain ⟨e,he,hE⟩:=G2.e.get i0 (show i < (c.m4.n:Int) by omega)
  refine ⟨i0,by omega,e,hE,?_⟩
  refine a0h (allS c) (fun _ K' hk=>c2W hk) ?_
  refine a0h (kindS e.d3&&rightS (allS c) (c.m2.n:Int) e) (fun hq K' hk=>b9K (by rw [if_pos hq];exact hk)) ?_
  have hee:(((((decide (e.o4 < 0))||(decide (c.c6≤e.o4)))||(decide (e.fTo < 0)))||(decide (c.c6≤e.fTo)))||(decide (e.o4=c.p9))) = !(within e.o4 c.c6&&within e.fTo c.c6 && !decide (e.o4=c.p9)):=by
   unfold within
   by_cases z0:0≤e.o4<;>by_cases z1:e.o4 < c.c6<;>by_cases z2:0≤e.fTo<;>by_cases z3:e.fTo < c.c6<;>by_cases z4:e.o4=c.p9<;>simp [z0,z1,z2,z3,z4]<;>omega
  have hfull:((((((decide (e.o4 < 0))||(decide (c.c6≤e.o4)))||(decide (e.fTo < 0)))||(decide (c.c6≤e.fTo)))||(decide (e.o4=c.p9)))||(!(if (((((decide (e.o4 < 0))||(decide (c.c6≤e.o4)))||(decide (e.fTo < 0)))||(decide (c.c6≤e.fTo)))||(decide (e.o4=c.p9)))=false then (kindS e.d3&&rightS (allS c) (c.m2.n:Int) e) else false))) = !edgeS c e:=by
   rw [hee]
   unfold edgeS
   cases within e.o4 c.c6<;>cases within e.fTo c.c6<;>cases decide (e.o4=c.p9)<;>cases kindS e.d3<;>cases rightS (allS c) (c.m2.n:Int) e<;>rfl
  rw [hfull]
  refine ⟨fun hb=>bad ?_ H2 l2,fun hb=>?_⟩
  ·have:es.all (edgeS c)=false:=a9A he (by simpa using hb)
   unfold gformS
   rw [this];simp
  ·have hg:edgeS c e=true:=by simpa using hb
   obtain ⟨f0,f1⟩:=a6A hg
   have tk:es.take (i+1).toNat=es.take i.toNat++[e]:=by
    rw [show (i+1).toNat=i.toNat+1 by omega];exact J0 he
   have hlt:((es.take i.toNat).length:Int)=i:=by rw [List.length_take];omega
   obtain ⟨xs,hx,hxe,hr2⟩:=hr.put (g:=fun p=>idxS p 0 (es.take (i+1).toNat)) f0 f1 (x:=i) (fun p=>by rw [tk,b0m,hlt,Int.zero_add])
   have hxl:xs.length≤8192:=by
    rw [hxe,a4q]
    have:=a5s (es.take i.toNat) e.o4
    rw [List.length_take] at this
    omega
   refine ⟨f0,xs,hx,by simp;omega,?_⟩
   rw [v6 i0 (by omega)]
   refine hn _ _ ⟨by omega,by omega,l2,hr2,fun j d' hj hd'=>?_⟩ (by omega)
   by_cases ej:j=i.toNat
   ·subst ej
    rw [he] at hd';cases hd'
    exact hg
   ·exact hi j d' (by omega) hd'
 have hall:es.all (edgeS c)=true:=all_good fun j d hd=>hi j d (by have:=(List.getElem?_eq_some_iff.1 hd).1;omega) hd
 have htk:es.take i.toNat=es:=List.take_of_length_le (by omega)
 rw [htk] at hr
 clear hi hn next
 unfold U3
 intro s H3 l3 hs _
 obtain ⟨sn,ss,hss,hin⟩:=hs
 refine G9 (fun(i:Int) H'=>0≤i∧i≤c.c6∧Hle H3 H'∧∀(p:Nat),(p:Int) < i→goeS (fromS es (p:Int))=true) (fun i=>(c.c6-i).toNat) ⟨by omega,by omega,Hle.refl _,fun j hj=>by omega⟩ ?_
 rintro i H4 next ⟨i0,i1,l4,hi⟩ hn
 unfold a0K
 refine ⟨fun hc=>?_,fun hc=>?_⟩
 ·have hl:=hr.1
  obtain ⟨x,hx,hE⟩:=(hss.le l4).get i0 (show i < (s.n:Int) by omega)
  obtain ⟨hxs,_⟩:=hin i.toNat x _ hx (hr.2 i.toNat (by omega))
  rw [Int.toNat_of_nonneg i0] at hxs
  refine ⟨i0,by omega,x,hE,c6K (G.le (l2.trans (l3.trans l4))) (hxs.le l4) ⟨fun hb=>bad ?_ H4 (l2.trans (l3.trans l4)),fun hb=>?_⟩⟩
  ·have:forksS c es=false:=by
    unfold forksS
    refine a9A (i:=i.toNat) (x:=i.toNat) (by rw [List.getElem?_range (by omega)]) ?_
    rw [Int.toNat_of_nonneg i0];simpa using hb
   unfold gformS
   rw [this];simp
  ·rw [v6 i0 (by omega)]
   refine hn _ _ ⟨by omega,by omega,l4,fun p hp=>?_⟩ (by omega)
   by_cases e:(p:Int)=i
   ·rw [e];simpa using hb
   ·exact hi p (by omega)
 ·unfold U2
  have hf:forksS c es=true:=by
   unfold forksS
   refine all_good fun j p hp=>?_
   have:p < c.c6.toNat:=List.mem_range.1 (List.mem_of_getElem? hp)
   exact hi p (by omega)
  have:=h H4 (l2.trans (l3.trans l4))
  have hff:gformS c ds es=true:=by unfold gformS;rw [hsz,hex,hall,hf];simp;omega
  unfold checkS at this
  rw [q1,q2,hff] at this;exact this
end
section
variable {H:Hp}{c:d4}{vs:List ByteArray}{ds:List j8}{es:List c8}
structure FromH (H:Hp) (P:Int) (es:List c8) (s:Sl):Prop where
 n:(s.n:Int)=P
 row:∀p:Int,0≤p→p < P→∃si:Sl,EltH H s p 1 [Value.slice si.a si.n si.c]∧SlH H 1 o3 si (idxS p 0 es)
theorem FromH.le{H':Hp}{P:Int}{s:Sl}(F:FromH H P es s)(l:Hle H H'):FromH H' P es s:=⟨F.n,fun p h0 h1=>by
 obtain ⟨si,a,b⟩:=F.row p h0 h1
 exact ⟨si,a.le l,b.le l⟩⟩
theorem FromH.of{P:Int}{s:Sl}{xss:List (List Int)}(hr:RowsAt P (fun p=>idxS p 0 es) xss)(hs:SlHH H 1 o3 s xss):FromH H P es s:=by
 obtain ⟨sn,ss,hss,hin⟩:=hs
 refine ⟨by have:=hr.1;omega,fun p h0 h1=>?_⟩
 obtain ⟨x,hx,hE⟩:=hss.get h0 (show p < (s.n:Int) by have:=hr.1;omega)
 have:=(hin p.toNat x _ hx (hr.2 p.toNat (by omega))).1
 rw [Int.toNat_of_nonneg h0] at this
 exact ⟨x,hE,this⟩
theorem b6r(G:GH H c vs ds es)(hp:0≤c.c6∧c.c6≤4096)(hb:(es.length:Int)≤8192)(ha:es.all (edgeS c)=true){K:Sl→Hp→Prop}(h:∀s H',Hle H H'→FromH H' c.c6 es s→K s H'):a2t c H K:=by
 refine b3T _ ?_
 unfold a6I
 have ne:=G.e.1
 refine ⟨by omega,by omega,?_⟩
 refine G9 (fun(s:List (List Int)×Int) H'=>0≤s.2∧s.2≤es.length∧Hle H H'∧RowsAt c.c6 (fun p=>idxS p 0 (es.take s.2.toNat)) s.1) (fun s=>(es.length-s.2).toNat)
  ⟨by simp,by simp,Hle.refl _,RowsAt.start (by omega) fun p=>rfl⟩ ?_
 rintro ⟨xss,i⟩ H2 next ⟨i0,i1,l2,hr⟩ hn
 dsimp only at i0 i1 hr ⊢
 unfold a2K
 refine ⟨fun hc=>?_,fun hc=>?_⟩
 ·obtain ⟨e,he,hE⟩:=(G.le l2).e.get i0 (show i < (c.m4.n:Int) by omega)
  obtain ⟨f0,f1⟩:=a6A (List.all_eq_true.1 ha e (List.mem_of_getElem? he))
  have tk:es.take (i+1).toNat=es.take i.toNat++[e]:=by
   rw [show (i+1).toNat=i.toNat+1 by omega];exact J0 he
  have hlt:((es.take i.toNat).length:Int)=i:=by rw [List.length_take];omega
  obtain ⟨xs,hx,hxe,hr2⟩:=hr.put (g:=fun p=>idxS p 0 (es.take (i+1).toNat)) f0 f1 (x:=i) (fun p=>by rw [tk,b0m,hlt,Int.zero_add])
  have hxl:xs.length≤8192:=by
   rw [hxe,a4q]
   have:=a5s (es.take i.toNat) e.o4
   rw [List.length_take] at this
   omega
  refine ⟨i0,by omega,e,hE,f0,xs,hx,by simp;omega,?_⟩
  rw [v6 i0 (by omega)]
  exact hn _ _ ⟨by omega,by omega,l2,hr2⟩ (by omega)
 ·have htk:es.take i.toNat=es:=List.take_of_length_le (by omega)
  rw [htk] at hr
  unfold a2J
  intro s H3 l3 hs _
  exact h s H3 (l2.trans l3) (FromH.of hr hs)
end
end Go.Proofs.YtaokfhdinhimfaaGreatDoor
