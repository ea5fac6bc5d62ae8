/- Both runs of a graph answer what the plain run does. Contracts off the printed formulas. -/
import Derived.Test.YthaaobpfbgcfiaaGreatDooryWW4
namespace Go.Proofs.YthaaobpfbgcfiaaGreatDoor
open Go.RowKit
set_option maxRecDepth 100000
set_option maxHeartbeats 2000000
section
variable {H:Hp}{x:b9}{vars:List Int}{arrs:List (List Int)}{evs:List d5}{e:b7}{K:Int→b9→List Int→List (List Int)→List d5→Hp→Prop}
theorem c4B(E:EdgeOk e vars arrs)(hk:kindS e.b8=true)(hb:evs.length≤1000000){i:Int}{l:List Int}(hs:SlH H 1 i6 x.fscript l)(hcap:x.fscript.n≤x.fscript.c)(h9:e.b8=9→∃l',l=i::l')
  (h:∀sc:Sl,SlH H 1 i6 sc (if e.b8=9 then l.tail else l)→sc.n≤sc.c→K (doesS e i vars arrs).1 (nst x sc) (doesS e i vars arrs).2.1 (doesS e i vars arrs).2.2 (evS e i evs) H):
  ¬((e.b8:Int)=0)∧((e.b8:Int)=1→N0 x vars arrs evs e H K)∧((e.b8:Int)=2→W5 x vars arrs evs e H K)∧((e.b8:Int)=3→V6 x vars arrs evs e H K)∧((e.b8:Int)=4→a0i x vars arrs evs e H K)∧((e.b8:Int)=5→T5 x vars arrs evs e H K)∧((e.b8:Int)=6→T1 x vars arrs evs e H K)∧((e.b8:Int)=7→V7 x vars arrs evs e H K)∧((e.b8:Int)=8→Z3 x vars arrs evs e H K)∧((e.b8:Int)=9→Z4 x vars arrs evs e H K)∧((e.b8:Int)=10→Z5 x vars arrs evs e H K)∧((e.b8:Int)=11→W6 x vars arrs evs e H K)∧((e.b8:Int)=12→N0 x vars arrs evs e H K)∧((e.b8:Int)=13→W7 x vars arrs evs e H K)∧((e.b8:Int)=14→Z6 x vars arrs evs e H K):=by
 have k14:1≤e.b8∧e.b8≤14:=by unfold kindS at hk;simpa using hk
 have g:¬e.b8=9→K (doesS e i vars arrs).1 (nst x x.fscript) (doesS e i vars arrs).2.1 (doesS e i vars arrs).2.2 (evS e i evs) H:=fun h9=>h _ (by rw [if_neg h9];exact hs) hcap
 refine ⟨by omega,fun h1=>b7D (.inl h1) (g (by omega)),fun h1=>c5A h1 E (g (by omega)),fun h1=>c4n h1 E (g (by omega)),fun h1=>d2e h1 E (g (by omega)),fun h1=>d2f h1 E (g (by omega)),fun h1=>d2g h1 E (g (by omega)),fun h1=>d2h h1 E (g (by omega)),fun h1=>c8K h1 E (g (by omega)),fun h1=>?_,fun h1=>c8M h1 E (g (by omega)),fun h1=>c5B h1 E (g (by omega)),fun h1=>b7D (.inr h1) (g (by omega)),fun h1=>c5C h1 hb (g (by omega)),fun h1=>c8N h1 hb (g (by omega))⟩
 obtain ⟨l',rfl⟩:=h9 h1
 refine c8L h1 E hs hcap hb fun sc a b=>h sc ?_ b
 rw [if_pos h1];exact a
end
section
variable {H:Hp}{c:l9}{vs:List ByteArray}{ds:List j7}{es:List b7}{scr:List Int}{k:Int}
theorem b9J{e:b7}{n:Nat}(h:e.b8=9)(hn:¬(e.b8=9∧scr.length≤n)):∃l,scr.drop n=inpS e scr n::l∧l=scr.drop (n+1):=by
 have hlt:n < scr.length:=by omega
 refine ⟨_,?_,rfl⟩
 rw [List.drop_eq_getElem_cons hlt]
 unfold inpS
 rw [if_pos h,List.getD_eq_getElem?_getD,List.getElem?_eq_getElem hlt];rfl
theorem step_end(G:GH H c vs ds es){K:f7→Int→Int→Hp→Prop}{r:Int×Int×RS}{o o':f7}{c':l9}{fr sc:Sl}{pt:Int}{vars:List Int}{arrs:List (List Int)}{evs:List d5}
  (hv:(vs.length:Int)≤vars.length) (hr:r=(o.P0,o.a0f,⟨pt,vars,arrs,r.2.2.inp,evs,o.J8⟩))
  (h:∀s1 s2 s3 H',Hle H H'→SlH H' 3 m6 s1 r.2.2.evs→SlH H' 1 i6 s2 (r.2.2.vars.take vs.length)→SlHH H' 1 i6 s3 r.2.2.arrs→K ⟨r.1,r.2.1,r.2.2.steps,s1,s2,s3⟩ r.2.2.pt 0 H'):
  Q8 o c' fr pt vars arrs sc evs o' c H K:=by
 unfold Q8
 intro s2 H1 l1 hs2 b2
 have hn:=G.v.1
 have hn2:=hs2.1
 refine ⟨by omega,by omega,by omega,fun s1 H2 l2 hs1 b1 s3 H3 l3 hs3 b3=>?_⟩
 have:=h s1 (s2.cut 0 ((c.o9.n:Int):Int).toNat ((c.o9.n:Int):Int).toNat 1) s3 H3 (l1.trans (l2.trans l3))
 rw [hr] at this
 refine this (hs1.le l3) ?_ hs3
 have hc:=(hs2.le (l2.trans l3)).cut (l:=0) (h:=((c.o9.n:Int):Int).toNat) (m:=((c.o9.n:Int):Int).toNat) (by omega) (by omega) (Nat.le_refl _)
 rw [List.drop_zero,show ((c.o9.n:Int):Int).toNat=vs.length by omega] at hc
 rw [show ((c.o9.n:Int):Int).toNat=vs.length by omega]
 exact hc
theorem step_loop(G:GH H c vs ds es)(F:FineG c vs ds es)(hn:Nums es){fr:Sl}(hf:FromH H c.o7 es fr){s0:Sl}(hs:SlH H 1 i6 s0 scr)(hcap:s0.n≤s0.c)(hsc:∀x∈scr,o8 x)(k0:0≤k)(k1:k≤65536){o':f7}{K:f7→Int→Int→Hp→Prop}
  (h:∀s1 s2 s3 H',Hle H H'→SlH H' 3 m6 s1 (wholeS c ds es scr k).2.2.evs→SlH H' 1 i6 s2 ((wholeS c ds es scr k).2.2.vars.take vs.length)→SlHH H' 1 i6 s3 (wholeS c ds es scr k).2.2.arrs→K ⟨(wholeS c ds es scr k).1,(wholeS c ds es scr k).2.1,(wholeS c ds es scr k).2.2.steps,s1,s2,s3⟩ (wholeS c ds es scr k).2.2.pt 0 H'):
  a1Q k c fr 0 (List.replicate (allS c).toNat 0) (ds.map fun d=>List.replicate d.C1.toNat 0) s0 [] o' c H K:=by
 unfold a1Q
 refine b3k ?_
 unfold a7T
 have ne:=G.e.1
 have hvar:∀{s:RS},StOk c ds scr k s→(vs.length:Int)≤s.vars.length:=fun S=>by
  have:=S.nv;rw [b1X G F.t.1 F.t.2.1] at this;have:=F.t.1;omega
 have fin:∀{H2:Hp}(_:Hle H H2){r:Int×Int×RS}(_:r=wholeS c ds es scr k),∀s1 s2 s3 H',Hle H2 H'→SlH H' 3 m6 s1 r.2.2.evs→SlH H' 1 i6 s2 (r.2.2.vars.take vs.length)→SlHH H' 1 i6 s3 r.2.2.arrs→K ⟨r.1,r.2.1,r.2.2.steps,s1,s2,s3⟩ r.2.2.pt 0 H':=by
  intro H2 l2 r hr s1 s2 s3 H' l a b d
  subst hr
  exact h s1 s2 s3 H' (l2.trans l) a b d
 refine Z2 (fun(s:f7×l9×Sl×Int×List Int×List (List Int)×Sl×List d5×f7) H'=>Hle H H'∧s.1.P0=1∧s.1.a0f=0∧s.2.1=c∧s.2.2.1=fr∧SlH H' 1 i6 s.2.2.2.2.2.2.1 (scr.drop (scr.length-s.2.2.2.2.2.2.1.n))∧s.2.2.2.2.2.2.1.n≤s.2.2.2.2.2.2.1.c∧s.2.2.2.2.2.2.1.n≤scr.length∧
   StOk c ds scr k ⟨s.2.2.2.1,s.2.2.2.2.1,s.2.2.2.2.2.1,scr.length-s.2.2.2.2.2.2.1.n,s.2.2.2.2.2.2.2.1,s.1.J8⟩∧
   runS es scr k ((k-s.1.J8).toNat+1) ⟨s.2.2.2.1,s.2.2.2.2.1,s.2.2.2.2.2.1,scr.length-s.2.2.2.2.2.2.1.n,s.2.2.2.2.2.2.2.1,s.1.J8⟩=wholeS c ds es scr k) (fun s=>(k-s.1.J8).toNat) ?_ ?_
 ·have hln:=hs.1
  have h0:scr.length-s0.n=0:=by omega
  refine ⟨Hle.refl _,rfl,rfl,rfl,rfl,?_,hcap,by show s0.n≤_;omega,?_,?_⟩
  ·show SlH H 1 i6 s0 (scr.drop (scr.length-s0.n))
   rw [h0];exact hs
  ·show StOk c ds scr k ⟨0,_,_,scr.length-s0.n,[],0⟩
   rw [h0];exact c5G G F k0
  ·show runS es scr k ((k-0).toNat+1) ⟨0,_,_,scr.length-s0.n,[],0⟩=_
   rw [h0,Int.sub_zero];rfl
 rintro ⟨o,c',fr',pt,vars,arrs,sc,evs,o''⟩ H2 next ⟨l2,hst,hwr,q1,q2,hsl,hcp,hle,S,hrun⟩ hnx
 dsimp only at hst hwr q1 q2 hsl hcp hle S hrun ⊢
 subst q1;subst q2
 unfold a4a
 refine ⟨fun _=>?_,fun hc=>(hc hst).elim⟩
 have G2:=G.le l2
 have hall:=F.all
 have hops:=S.ops G hn hall
 have hv:=hvar S
 generalize hin:scr.length-sc.n=inp at S hrun hsl
 refine c8P (x:=⟨c',fr',pt,⟨none,0,0⟩,⟨none,0,0⟩,sc,⟨none,0,0⟩⟩) G2 (hf.le l2) S.p0 S.p1 hall (F.forks _ S.p0 S.p1) hops F.op ?_
 dsimp only
 by_cases hi:takeS es vars (idxS pt 0 es) < 0
 ·rw [b7E (b9Z hi)] at hrun
  refine ⟨⟨0,0,0,0,0,0,⟨0,0⟩,⟨0,0⟩⟩,fun hc=>?_,fun hc=>?_,fun hc=>?_⟩
  ·simp at hc;omega
  ·exact step_end G2 hv (by simp only [hwr]) (fin l2 hrun)
  ·simp at hc;omega
 obtain ⟨e,hg,hat⟩:=c4o hi
 obtain ⟨e',he',hE⟩:=G2.e.get (i:=takeS es vars (idxS pt 0 es)) (by omega) (by have:=(List.getElem?_eq_some_iff.1 hg).1;omega)
 rw [hg] at he';cases he'
 have hlt:=(List.getElem?_eq_some_iff.1 hg).1
 have hem:=List.mem_of_getElem? hg
 rw [a8V hat] at hrun
 have t0:0≤takeS es vars (idxS pt 0 es):=by omega
 have t1:takeS es vars (idxS pt 0 es) < (c'.B5.n:Int):=by have:=G2.e.1;omega
 have hb:((!decide (0≤takeS es vars (idxS pt 0 es)))||((decide (e.b8=9))&&(decide ((sc.n:Int)=0))))=decide (e.b8=9∧scr.length≤inp):=by
  rw [show decide (0≤takeS es vars (idxS pt 0 es))=true by simpa using hi]
  rw [Bool.eq_iff_iff]
  by_cases h9:e.b8=9<;>simp [h9]
  omega
 refine ⟨e,fun _=>⟨t0,t1,hE⟩,?_⟩
 rw [hb]
 refine ⟨fun hc=>?_,fun hc=>⟨fun hs=>?_,fun hs=>?_⟩⟩
 ·rw [if_pos (of_decide_eq_true hc)] at hrun
  exact step_end G2 hv (by simp only [hwr]) (fin l2 hrun)
 ·rw [if_neg (of_decide_eq_false hc),if_pos hs] at hrun
  refine step_end G2 hv ?_ (fin l2 hrun)
  rw [hst,hwr]
 ·have hc':=of_decide_eq_false hc
  rw [if_neg hc',if_neg hs] at hrun
  have E:=S.edge G hn hem hall
  have hkd:=F.kind hem
  have k14:1≤e.b8∧e.b8≤14:=by unfold kindS at hkd;simpa using hkd
  have S':=S.next G hn hsc hem hall hs hc'
  have s0:=S.s0;have s1:=S.s1;have sne:=S.ne
  dsimp only at s0 s1 sne
  have hlv:=(b7G e (inpS e scr inp) vars arrs).1
  refine ⟨t0,t1,e,hE,by omega,by omega,fun r0 y0 y3 y4 y6 H3=>H3=H2∧r0=wrongS e scr ⟨pt,vars,arrs,inp,evs,o.J8⟩∧y3=(doesS e (inpS e scr inp) vars arrs).2.1∧y4=(doesS e (inpS e scr inp) vars arrs).2.2∧y6=evS e (inpS e scr inp) evs∧∃sc',y0=⟨c',fr',pt,⟨none,0,0⟩,⟨none,0,0⟩,sc',⟨none,0,0⟩⟩∧SlH H2 1 i6 sc' (scr.drop (if e.b8=9 then inp+1 else inp))∧sc'.n≤sc'.c,?_,?_⟩
  ·rintro r0 y0 y3 y4 y6 H3 ⟨rfl,rfl,rfl,rfl,rfl,sc',rfl,hsl',hcp'⟩
   rw [D6 s0 (by omega)]
   refine ⟨fun hw=>?_,fun hw=>?_⟩
   ·rw [if_neg hw] at hrun
    refine step_end G2 ?_ rfl (fin l2 hrun)
    rw [hlv];exact hv
   ·rw [if_pos hw] at hrun
    have hn':=hsl'.1
    rw [List.length_drop] at hn'
    have hsni:=S.ni
    dsimp only at hsni
    have hfl:(k-o.J8).toNat=(k-(o.J8+1)).toNat+1:=by omega
    rw [hfl] at hrun
    have hnp:(if e.b8=9 then inp+1 else inp)≤scr.length:=by split<;>omega
    have hin':scr.length-sc'.n=(if e.b8=9 then inp+1 else inp):=by omega
    refine hnx _ _ ⟨l2,hst,hw,rfl,rfl,?_,hcp',?_,?_,?_⟩ ?_
    ·show SlH H3 1 i6 sc' (scr.drop (scr.length-sc'.n))
     rw [hin'];exact hsl'
    ·show sc'.n≤scr.length
     omega
    ·show StOk c' ds scr k ⟨e.fTo,_,_,scr.length-sc'.n,_,o.J8+1⟩
     rw [hin'];exact S'
    ·show runS es scr k ((k-(o.J8+1)).toNat+1) ⟨e.fTo,_,_,scr.length-sc'.n,_,o.J8+1⟩=_
     rw [hin'];exact hrun
    ·show (k-(o.J8+1)).toNat < (k-o.J8).toNat
     omega
  ·refine c4B (x:=⟨c',fr',pt,⟨none,0,0⟩,⟨none,0,0⟩,sc,⟨none,0,0⟩⟩) (i:=inpS e scr inp) (l:=scr.drop inp) E hkd (by omega) hsl hcp (fun h9=>?_) fun sc' hsc' hcp'=>⟨rfl,rfl,rfl,rfl,rfl,sc',rfl,?_,hcp'⟩
   ·obtain ⟨l,hl,_⟩:=b9J h9 hc'
    exact ⟨l,hl⟩
   ·by_cases h9:e.b8=9
    ·obtain ⟨l,hl,hl2⟩:=b9J h9 hc'
     rw [if_pos h9] at hsc' ⊢
     rw [hl] at hsc'
     rw [←hl2];exact hsc'
    ·rw [if_neg h9] at hsc' ⊢
     exact hsc'
end
section
variable {H:Hp}{c:l9}{vs:List ByteArray}{ds:List j7}{es:List b7}{scr:List Int}{k:Int}
def rowsS(ds:List j7):List (List Int):=ds.map fun d=>List.replicate d.C1.toNat 0
theorem c2o{i:Int}{d:j7}(h0:0≤i)(h:ds[i.toNat]? = some d):rowsS (ds.take (i+1).toNat)=rowsS (ds.take i.toNat)++[List.replicate d.C1.toNat 0]:=by
 rw [show (i+1).toNat=i.toNat+1 by omega,L0 h]
 unfold rowsS
 rw [List.map_append];rfl
theorem c4C(i:Int):(rowsS (ds.take i.toNat)).length≤ds.length:=by
 unfold rowsS
 rw [List.length_map,List.length_take];omega
theorem d2B{n:Int}(hn:n=(scr.length:Int)):(((decide (k < 0))||(decide (65536 < k)))||(decide (65536 < n)))=decide (k < 0∨65536 < k∨65536 < (scr.length:Int)):=by
 subst hn
 rw [Bool.eq_iff_iff];simp
 omega
theorem c6a(G:GH H c vs ds es)(F:FineG c vs ds es):0≤allS c∧allS c*9≤140737488355328:=by
 rw [b1X G F.t.1 F.t.2.1]
 have:=F.t
 omega
theorem c9a(F:FineG c vs ds es){d:j7}(hd:d∈ds):0≤d.C1∧d.C1*9≤140737488355328:=by
 have:=F.sz d hd
 omega
theorem c9b(G:GH H c vs ds es)(F:FineG c vs ds es)(hn:Nums es){fr:Sl}(hf:FromH H c.o7 es fr){s0:Sl}(hs:SlH H 1 i6 s0 scr)(hcap:s0.n≤s0.c)(hsc:∀x∈scr,o8 x)(hc:checkS c vs ds es=0)(hm:¬(k < 0∨65536 < k∨65536 < (scr.length:Int))){o':f7}{K:f7→Int→Int→Hp→Prop}
  (h:∀o p e H',Hle H H'→RunR H' c vs ds es scr k o p e→K o p e H'):
  U9 k c fr 0 (List.replicate (allS c).toNat 0) [] s0 [] o' c H K:=by
 unfold U9
 have na:=G.a.1
 have bd:=F.bd
 refine Z2 (fun(s:Int×l9×Sl×Int×List (List Int)×Sl×f7) H'=>0≤s.1∧s.1≤ds.length∧Hle H H'∧s.2.1=c∧s.2.2.1=fr∧s.2.2.2.1=0∧s.2.2.2.2.1=rowsS (ds.take s.1.toNat)∧s.2.2.2.2.2.1=s0) (fun s=>(ds.length-s.1).toNat) ⟨Int.le_refl _,by simp,Hle.refl _,rfl,rfl,rfl,rfl,rfl⟩ ?_
 rintro ⟨i,c',fr',pt,arrs,sc,oo⟩ H1 next ⟨i0,i1,l1,q1,q2,q3,q4,q5⟩ hnx
 dsimp only at i0 i1 q1 q2 q3 q4 q5 ⊢
 subst q1;subst q2;subst q3;subst q4;subst q5
 unfold a4b
 refine ⟨fun hlt=>?_,fun hlt=>?_⟩
 ·obtain ⟨d,hd,hE⟩:=(G.le l1).a.get i0 hlt
  have hz:=c9a F (List.mem_of_getElem? hd)
  have hl:=c4C (ds:=ds) i
  refine ⟨i0,hlt,d,hE,hz.1,hz.2,by simp only [List.length_cons,List.length_nil];omega,?_⟩
  rw [D6 i0 (by omega)]
  refine hnx _ _ ⟨by show 0≤i+1;omega,by show i+1≤_;omega,l1,rfl,rfl,rfl,(c2o i0 hd).symm,rfl⟩ ?_
  show (ds.length-(i+1)).toNat < (ds.length-i).toNat
  omega
 ·rw [List.take_of_length_le (by omega)]
  exact step_loop (G.le l1) F hn (hf.le l1) (hs.le l1) hcap hsc (by omega) (by omega) fun s1 s2 s3 H' l2 a1 a2 a3=>h _ _ _ H' (l1.trans l2) (.ran hc hm a1 a2 a3)
theorem b4T(G:GH H c vs ds es)(hn:Nums es){s0:Sl}(hs:SlH H 1 i6 s0 scr)(hcap:s0.n≤s0.c)(hsc:∀x∈scr,o8 x){K:f7→Int→Int→Hp→Prop}
  (h:∀o p e H',Hle H H'→RunR H' c vs ds es scr k o p e→K o p e H'):a1H c s0 k H K:=by
 refine b4B _ _ _ ?_
 unfold a9o
 refine b9n G fun H1 l1=>⟨fun hc=>h _ _ _ H1 l1 (.bad hc),fun hc=>?_⟩
 rw [d2B (scr:=scr) (by have:=hs.1;omega)]
 refine ⟨fun hm=>h _ _ _ H1 l1 (.many hc (of_decide_eq_true hm)),fun hm=>?_⟩
 have hm':=of_decide_eq_false hm
 have F:=FineG.of hc
 have hp:=F.p
 have hz:=c6a G F
 have go:∀{fr:Sl}{H2:Hp},Hle H1 H2→FromH H2 c.o7 es fr→U9 k c fr 0 (List.replicate (allS c).toNat 0) [] s0 [] ⟨0,0,0,⟨none,0,0⟩,⟨none,0,0⟩,⟨none,0,0⟩⟩ c H2 K:=
  fun l2 hf=>c9b (G.le (l1.trans l2)) F hn hf (hs.le (l1.trans l2)) hcap hsc hc hm' fun o p e H' l3 hr=>h o p e H' (l1.trans (l2.trans l3)) hr
 exact ⟨b9t (G.le l1) ⟨by omega,by omega⟩ F.be F.all fun s H2 l2 hf=>⟨hz.1,hz.2,go l2 hf⟩,hz.1,hz.2,b9t (G.le l1) ⟨by omega,by omega⟩ F.be F.all fun s H2 l2 hf=>go l2 hf⟩
end
section
variable {H:Hp}
end
structure Like (a b:l9):Prop where
 v:a.o9.n=b.o9.n
 t:a.t8=b.t8
 ar:a.m8.n=b.m8.n
 p:a.o7=b.o7
 x:a.B6=b.B6
section
variable {a b:l9}{vs:List ByteArray}{ds:List j7}{es:List b7}{scr:List Int}{k:Int}{H:Hp}
theorem Like.of(ha:GH H a vs ds es){H':Hp}(hb:GH H' b vs ds es)(ht:a.t8=b.t8)(hp:a.o7=b.o7)(he:a.B6=b.B6):Like a b:=
 ⟨by rw [ha.v.1,hb.v.1],ht,by rw [ha.a.1,hb.a.1],hp,he⟩
theorem Like.alls(L:Like a b):allS a=allS b:=by unfold allS;rw [L.v,L.t]
theorem Like.edge(L:Like a b):edgeS a=edgeS b:=by
 funext e
 unfold edgeS
 rw [L.alls,L.p,L.x,L.ar]
theorem Like.check(L:Like a b):checkS a vs ds es=checkS b vs ds es:=by
 have h1:varsS a vs=varsS b vs:=by unfold varsS;rw [L.t]
 have h2:pointsS a es=pointsS b es:=by unfold pointsS;rw [L.p]
 have h3:gformS a ds es=gformS b ds es:=by
  unfold gformS forksS
  rw [L.edge,L.p,L.x]
 unfold checkS
 rw [h1,h2,h3]
theorem Like.start(L:Like a b):startS a ds=startS b ds:=by unfold startS;rw [L.alls]
theorem Like.run(L:Like a b){o:f7}{p e:Int}(h:RunR H a vs ds es scr k o p e):RunR H b vs ds es scr k o p e:=by
 have hw:wholeS a ds es scr k=wholeS b ds es scr k:=by unfold wholeS;rw [L.start]
 cases h with
 | bad h=>rw [L.check] at h ⊢;exact .bad h
 | many h m=>rw [L.check] at h;exact .many h m
 | ran h m a1 a2 a3=>rw [L.check] at h;rw [hw] at a1 a2 a3 ⊢;exact .ran h m a1 a2 a3
end
section
variable {H:Hp}
def knownE:List b7:=[⟨0,1,2,0,-1,0,⟨-1,4⟩,⟨-1,0⟩⟩]
def knownC:l9:=⟨⟨none,1,1⟩,0,⟨none,0,0⟩,2,1,⟨none,1,1⟩⟩
theorem c2p{K:Bool→Hp→Prop}(h:∀H',Hle H H'→K true H'):a1v H K:=by
 refine a9g ?_
 unfold a4x
 intro s1 H1 l1 h1 _ s2 H2 l2 h2 _
 have G:GH H2 ⟨s1,0,⟨none,0,0⟩,2,1,s2⟩ [⟨#[120]⟩] [] knownE:=⟨h1.le l2,SlH.nil _ _ _,h2,by decide,by decide,by decide,by show o8 0;decide⟩
 have hn:Nums knownE:=by
  intro e he
  simp only [knownE,List.mem_cons,List.not_mem_nil,or_false] at he
  subst he;decide
 refine b4T G hn (SlH.nil _ _ _) (Nat.le_refl _) (scr:=[]) (fun x hx=>by cases hx) fun o p e H3 l3 hr=>?_
 have L:Like ⟨s1,0,⟨none,0,0⟩,2,1,s2⟩ knownC:=⟨h1.1,rfl,rfl,rfl,rfl⟩
 have hr':=L.run hr
 have hc:checkS knownC [⟨#[120]⟩] [] knownE=0:=by kernel_rfl
 cases hr' with
 | bad h=>exact (h hc).elim
 | many _ m=>simp at m
 | @ran s1 s2 s3 _ _ a1 a2 a3=>
  have w1:(wholeS knownC [] knownE [] 5).1=2:=by kernel_rfl
  have w2:(wholeS knownC [] knownE [] 5).2.2.steps=1:=by kernel_rfl
  have w3:(wholeS knownC [] knownE [] 5).2.2.pt=1:=by kernel_rfl
  have w4:(wholeS knownC [] knownE [] 5).2.2.vars=[4]:=by kernel_rfl
  rw [w4] at a2
  have hn2:s2.n=1:=a2.1
  rw [w1,w2,w3]
  obtain ⟨x,hx,hE⟩:=a2.get (i:=0) (by omega) (by omega)
  simp at hx;subst hx
  refine ⟨4,fun _=>⟨by omega,by show (0:Int) < (s2.n:Int);omega,hE⟩,?_⟩
  have hq:decide ((s2.n:Int)=1)=true:=decide_eq_true (by omega)
  dsimp only
  rw [hq]
  exact h H3 (l1.trans (l2.trans l3))
end
structure AH (H:Hp) (s:Sl) (arrs:List (List Int)):Prop where
 h:SlHH H 1 i6 s arrs
 b:arrs.length≤1099511627776
 br:∀r∈arrs,r.length≤1099511627776
 i:∀r∈arrs,∀x∈r,o8 x
theorem AH.le{H H':Hp}{s:Sl}{arrs:List (List Int)}(A:AH H s arrs)(l:Hle H H'):AH H' s arrs:=⟨A.h.le l,A.b,A.br,A.i⟩
structure VH (H:Hp) (s:Sl) (vars:List Int):Prop where
 h:SlH H 1 i6 s vars
 b:vars.length≤1099511627776
 i:∀x∈vars,o8 x
theorem VH.le{H H':Hp}{s:Sl}{vars:List Int}(A:VH H s vars)(l:Hle H H'):VH H' s vars:=⟨A.h.le l,A.b,A.i⟩
def c0:Oc:=⟨0,0,0,[],[],[]⟩
def cR(q:PP)(scr:List Int)(k:Int):Oc:=if errR q scr k=0 then runQ q scr k.toNat else c0
section
variable {H:Hp}
theorem c6b{q:PP}{scr:List Int}{k:Int}(hp:∃p,PH H p q)(hsm:q.Sm)(hs:∀x∈scr,o8 x):
  (cR q scr k).events.length≤big∧(cR q scr k).vars.length≤big∧(cR q scr k).arrs.length≤big∧∀l∈(cR q scr k).arrs,l.length≤big:=by
 obtain ⟨p,hp⟩:=hp
 unfold cR
 by_cases c:errR q scr k=0
 ·rw [if_pos c]
  obtain ⟨hw,h1,h2,_⟩:=d2y c
  exact c5X hp.bd (by simp only [big];omega) hw (PH.ars hp hsm ((a5E q).1 hw).1).1 hs
 ·rw [if_neg c]
  exact ⟨Nat.zero_le _,Nat.zero_le _,Nat.zero_le _,fun l h=>by cases h⟩
theorem d3x{p:z8}{q:PP}(hp:PH H p q)(hsm:q.Sm)(h:(wellS q).2=0):∀t∈q.body,XS t:=by
 obtain ⟨_,_,xs,_,_,hbr⟩:=hp
 intro t ht
 obtain ⟨i,hi⟩:=List.mem_iff_getElem?.1 ht
 obtain ⟨v,hv⟩:=y7 (l:=xs) (i:=i) (by have:=C3 hi;have:=hbr.1;omega)
 exact shS (hbr.2 i v t hv hi) (E7 (c0U h).1 ht) (hsm t (List.mem_append_right _ ht))
theorem c7d:OutH H oz c0:=⟨rfl,rfl,rfl,SlH.nil _ _ _,SlH.nil _ _ _,rfl,[],SlH.nil _ _ _,fun i si xs h=>by simp at h⟩
theorem c0d(hT:TabsH H){p:z8}{q:PP}(hp:PH H p q)(hsm:q.Sm){sc:Sl}{scr:List Int}(hsc:SlH H 1 ci sc scr)(hcap:sc.n≤sc.c)(hin:∀x∈scr,o8 x){k:Int}(_:o8 k){K:Bool→Hp→Prop}(h:∀H',Hle H H'→K true H'):a0u p sc k H K:=by
 refine a7Q _ _ _ ?_
 unfold a2W
 refine c2p fun H1 l1=>⟨(fun c=>by cases c),fun _=>?_⟩
 refine b0t _ _ ?_
 unfold a5v
 refine ⟨fun _=>h H1 l1,fun _=>?_⟩
 have main:∀o H2,Hle H1 H2→OutH H2 o (cR q scr k)→a5l p H2 (fun m f g=>(¬(f=0)→K true g)∧(f=0→a1H m sc k g (fun n _ i j=>TG ((decide (errR q scr k=i))=true) (Q1 o n j) false j (fun(o:Bool)(p:Hp)=>K ((decide (errR q scr k=i))&&o) p)))):=by
  intro o H2 l2 ho
  have l12:=l1.trans l2
  refine c5s (hT.le l12) (hp.le l12) hsm (fun c H3 l3=>⟨fun _=>h H3 (l12.trans l3),fun e=>(c e).elim⟩) fun c m H3 l3 hc=>⟨fun e=>(e rfl).elim,fun _=>?_⟩
  have hw:=(b6A c).1
  have hx:=d3x hp hsm hw
  refine b4T (c2n c hx hc) (c8Z hw hx) (hsc.le (l12.trans l3)) hcap hin fun o' pt e' H4 l4 hr=>?_
  have l14:=l12.trans (l3.trans l4)
  have fin:e'=errR q scr k→OutH H4 o' (cR q scr k)→TG ((decide (errR q scr k=e'))=true) (Q1 o o' H4) false H4 (fun(o:Bool)(p:Hp)=>K ((decide (errR q scr k=e'))&&o) p):=by
   intro e ho'
   subst e
   rw [decide_eq_true rfl]
   exact ⟨fun _=>c2k (ho.le (l3.trans l4)) ho' (c6b ⟨p,hp⟩ hsm hin) (h H4 l14),fun e=>(e rfl).elim⟩
  cases hr with
  | bad e=>exact (e (c5Y c hx hc)).elim
  | many _ e=>
   have ee:errR q scr k=80:=by unfold errR;rw [if_neg (fun z=>z hw),if_pos e]
   refine fin ee.symm ?_
   unfold cR
   rw [ee,if_neg (by decide)]
   exact c7d
  | ran _ e a1 a2 a3=>
   have ee:errR q scr k=0:=by unfold errR;rw [if_neg (fun z=>z hw),if_neg e]
   refine fin ee.symm ?_
   unfold cR
   rw [ee,if_pos rfl]
   obtain ⟨r1,r2,r3,r4,r5,r6⟩:=c5Z c hx hc (scr:=scr) (k:=k) (by omega)
   rw [r4] at a1;rw [r5] at a2;rw [r6] at a3
   exact ⟨r1,r2,r3,a1,a2,a3⟩
 refine d2x (hT.le l1) (hp.le l1) hsm (hsc.le l1) hcap hin (fun c H2 l2=>?_) fun c o H2 l2 ho=>?_
 ·refine main oz H2 l2 ?_
  unfold cR
  rw [if_neg c]
  exact c7d
 ·have m:=main o H2 l2 (by unfold cR;rw [if_pos c];exact ho)
  rw [c] at m
  exact m
end
end Go.Proofs.YthaaobpfbgcfiaaGreatDoor
