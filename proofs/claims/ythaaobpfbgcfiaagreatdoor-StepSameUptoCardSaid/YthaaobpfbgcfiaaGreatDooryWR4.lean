/- A program's run, plain; the runs of the programs of chapter 8's families. -/
import Derived.Test.YthaaobpfbgcfiaaGreatDooryWNo
import Derived.Test.YthaaobpfbgcfiaaGreatDooryWH7
namespace Go.Proofs.YthaaobpfbgcfiaaGreatDoor
open Go.RowKit
set_option maxRecDepth 100000
set_option maxHeartbeats 2000000
structure Oc where
 st:Int
 wr:Int
 steps:Int
 events:List d5
 vars:List Int
 arrs:List (List Int)
def vD(ds:List j7):List (ByteArray×Int):=(ds.filter fun d=>!decide (0 < d.C1)).map fun d=>(d.f8,0)
def aD(ds:List j7):List (ByteArray×List Int):=(ds.filter fun d=>decide (0 < d.C1)).map fun d=>(d.f8,List.replicate d.C1.toNat 0)
def s0(ds:List j7)(sc:List Int)(k:Nat):St:=⟨k,0,sc,[],vD ds,aD ds⟩
def endS:Rs Unit→Int×Int×St
 | .ok _ s=>(2,0,s)
 | .stop a b s=>(a,b,s)
def ocS(r:Int×Int×St):Oc:=⟨r.1,r.2.1,r.2.2.steps,r.2.2.events,r.2.2.vars.map (·.2),r.2.2.arrs.map (·.2)⟩
def runQ(q:PP)(sc:List Int)(k:Nat):Oc:=ocS (endS (seqM (q.body.map rnT) (s0 q.decls sc k)))
theorem c5y{t:PT}{v:Int}(h:cst t=some v):∃k n s a cs,t=.mk (.expr k n s a) cs:=by
 unfold cst at h
 split at h
 ·exact ⟨_,_,_,_,_,rfl⟩
 ·cases h
theorem c0W{t:PT}{v:Int}(h:cst t=some v):evT t=ret v:=by
 obtain ⟨k,n,s,a,cs,rfl⟩:=c5y h
 rw [evT];unfold evN;rw [h]
def Nn(v:Int):Prop:=o8 v∧v≠-9223372036854775808
theorem c4m{k n:Int}{s:ByteArray}{cs:List PT}(h1:k≠1)(h5:k≠5):cst (eN k n s cs)=none:=by
 unfold eN
 rw [cst,if_neg h1,if_neg h5]
theorem n0:Nn 0:=⟨by unfold o8;omega,by decide⟩
theorem n1:Nn 1:=⟨by unfold o8;omega,by decide⟩
theorem n2:Nn 2:=⟨by unfold o8;omega,by decide⟩
def valS(vars:List Int)(o:o3):Int:=if o.A8 < 0 then o.s8 else vars.getD o.A8.toNat 0
def rowS(arrs:List (List Int))(e:b7):List Int:=arrs.getD e.P9.toNat []
def doesS(e:b7)(input:Int)(vars:List Int)(arrs:List (List Int)):Int×List Int×List (List Int):=
 if e.b8=2 then (0,vars.set e.D8.toNat (valS vars e.fA),arrs)
 else if e.b8=9 then (0,vars.set e.D8.toNat input,arrs)
 else if 3≤e.b8∧e.b8≤8 then
  (if (opS e.b8 (valS vars e.fA) (valS vars e.fB)).2=0 then (0,vars.set e.D8.toNat (opS e.b8 (valS vars e.fA) (valS vars e.fB)).1,arrs) else ((opS e.b8 (valS vars e.fA) (valS vars e.fB)).2,vars,arrs))
 else if e.b8=10 then
  (if 0≤valS vars e.fA∧valS vars e.fA < (rowS arrs e).length then (0,vars.set e.D8.toNat ((rowS arrs e).getD (valS vars e.fA).toNat 0),arrs) else (3,vars,arrs))
 else if e.b8=11 then
  (if 0≤valS vars e.fA∧valS vars e.fA < (rowS arrs e).length then (0,vars,arrs.set e.P9.toNat ((rowS arrs e).set (valS vars e.fA).toNat (valS vars e.fB))) else (3,vars,arrs))
 else if e.b8=14 then (4,vars,arrs) else (0,vars,arrs)
def evS(e:b7)(input:Int)(evs:List d5):List d5:=
 if e.b8=9 then evs++[⟨true,input,false⟩] else if e.b8=13 then evs++[⟨false,0,true⟩] else if e.b8=14 then evs++[⟨false,0,false⟩] else evs
structure EdgeOk (e:b7) (vars:List Int) (arrs:List (List Int)):Prop where
 a:¬e.fA.A8 < 0→e.fA.A8 < vars.length
 b:¬e.fB.A8 < 0→e.fB.A8 < vars.length
 dst:2≤e.b8→e.b8≤10→0≤e.D8∧e.D8 < vars.length
 arr:e.b8=10∨e.b8=11→0≤e.P9∧e.P9 < arrs.length
 va:o8 (valS vars e.fA)
 vb:o8 (valS vars e.fB)
theorem b9r{o:o3}{n:Int}{w:Bool}(h:(bif w then opndS o n else bareS o)=true):o.A8 = -1∨(0≤o.A8∧o.A8 < n):=by
 cases w
 ·simp [bareS] at h;exact .inl h.1
 ·simp [opndS,within] at h;omega
theorem c0X{vars:List Int}{o:o3}(hn:o8 o.s8)(hv:∀x∈vars,o8 x):o8 (valS vars o):=by
 unfold valS
 split
 ·exact hn
 ·by_cases h:o.A8.toNat < vars.length
  ·rw [List.getD_eq_getElem?_getD,List.getElem?_eq_getElem h]
   exact hv _ (List.getElem_mem h)
  ·rw [List.getD_eq_getElem?_getD,List.getElem?_eq_none (by omega)]
   decide
theorem c5z{c:l9}{e:b7}{vars:List Int}{arrs:List (List Int)}(h:edgeS c e=true)(hn:(vars.length:Int)=allS c)(ha:(arrs.length:Int)=c.m8.n)(hi:∀x∈vars,o8 x)(h1:o8 e.fA.s8)(h2:o8 e.fB.s8):EdgeOk e vars arrs:=by
 unfold edgeS at h
 rw [Bool.and_eq_true] at h
 have h:=h.2
 unfold rightS at h
 simp only [Bool.and_eq_true] at h
 obtain ⟨⟨⟨⟨hd,har⟩,hop⟩,hA⟩,hB⟩:=h
 have oa:=b9r hA
 have ob:=b9r hB
 refine ⟨fun _=>by omega,fun _=>by omega,fun k1 k2=>?_,fun k=>?_,c0X h1 hi,c0X h2 hi⟩
 ·have:(wantsS e.b8).fdst=true:=by
   unfold wantsS;repeat' split
   all_goals first | rfl | omega
  rw [this] at hd
  simp [within] at hd
  omega
 ·have:(wantsS e.b8).farr=true:=by
   unfold wantsS;repeat' split
   all_goals first | rfl | omega
  rw [this] at har
  simp [within] at har
  omega
def nst(x:b9)(sc:Sl):b9:=⟨x.fc,x.ffrom,x.fpoint,⟨none,0,0⟩,⟨none,0,0⟩,sc,⟨none,0,0⟩⟩
section
variable {H:Hp}{x:b9}{vars:List Int}{arrs:List (List Int)}{evs:List d5}{e:b7}
theorem S7{o:o3}(ho:¬o.A8 < 0→o.A8 < vars.length){K:Int→Hp→Prop}(h:K (valS vars o) H):r9 x vars arrs evs o H K:=by
 refine a9P _ _ _ _ _ ?_
 unfold a4Z
 unfold valS at h
 refine ⟨fun hc=>by rwa [if_pos hc] at h,fun hc=>⟨by omega,vars.getD o.A8.toNat 0,a1q (by have:=ho hc;omega),by rwa [if_neg hc] at h⟩⟩
variable {K:Int→b9→List Int→List (List Int)→List d5→Hp→Prop}
theorem b7D(hk:e.b8=1∨e.b8=12){i:Int}(h:K (doesS e i vars arrs).1 (nst x x.fscript) (doesS e i vars arrs).2.1 (doesS e i vars arrs).2.2 (evS e i evs) H):N0 x vars arrs evs e H K:=by
 refine a8x _ _ _ _ _ ?_
 unfold a3J
 have hd:doesS e i vars arrs=(0,vars,arrs):=by unfold doesS;rcases hk with hk | hk<;>simp [hk]
 have he:evS e i evs=evs:=by unfold evS;rcases hk with hk | hk<;>simp [hk]
 rw [hd,he] at h;exact h
theorem c5A(hk:e.b8=2)(E:EdgeOk e vars arrs){i:Int}(h:K (doesS e i vars arrs).1 (nst x x.fscript) (doesS e i vars arrs).2.1 (doesS e i vars arrs).2.2 (evS e i evs) H):W5 x vars arrs evs e H K:=by
 refine a9h _ _ _ _ _ ?_
 unfold a4y
 have hd:doesS e i vars arrs=(0,vars.set e.D8.toNat (valS vars e.fA),arrs):=by unfold doesS;simp [hk]
 have he:evS e i evs=evs:=by unfold evS;simp [hk]
 rw [hd,he] at h
 have:=E.dst (by omega) (by omega)
 exact S7 E.a ⟨this.1,_,a1q (d:=0) (by omega),h⟩
theorem a8m{i:Int}(hk:3≤e.b8∧e.b8≤8){Q:Int×List Int×List (List Int)→Prop}(h:Q (doesS e i vars arrs)):
  ((opS e.b8 (valS vars e.fA) (valS vars e.fB)).2=0→Q ((opS e.b8 (valS vars e.fA) (valS vars e.fB)).2,vars.set e.D8.toNat (opS e.b8 (valS vars e.fA) (valS vars e.fB)).1,arrs))∧(¬(opS e.b8 (valS vars e.fA) (valS vars e.fB)).2=0→Q ((opS e.b8 (valS vars e.fA) (valS vars e.fB)).2,vars,arrs)):=by
 have hd:doesS e i vars arrs=if (opS e.b8 (valS vars e.fA) (valS vars e.fB)).2=0 then (0,vars.set e.D8.toNat (opS e.b8 (valS vars e.fA) (valS vars e.fB)).1,arrs) else ((opS e.b8 (valS vars e.fA) (valS vars e.fB)).2,vars,arrs):=by
  unfold doesS
  rw [if_neg (by omega),if_neg (by omega),if_pos hk]
 rw [hd] at h
 refine ⟨fun hr=>?_,fun hr=>by rwa [if_neg hr] at h⟩
 rw [if_pos hr] at h
 rw [hr];exact h
theorem b1Y{i:Int}(hk:3≤e.b8∧e.b8≤8):evS e i evs=evs:=by
 unfold evS
 rw [if_neg (by omega),if_neg (by omega),if_neg (by omega)]
theorem c4n(hk:e.b8=3)(E:EdgeOk e vars arrs){i:Int}(h:K (doesS e i vars arrs).1 (nst x x.fscript) (doesS e i vars arrs).2.1 (doesS e i vars arrs).2.2 (evS e i evs) H):V6 x vars arrs evs e H K:=by
 refine a8D _ _ _ _ _ ?_
 unfold a3L
 refine a0N _ _ _ _ _ ?_
 unfold P4
 refine S7 E.a (S7 E.b (a7O _ _ ?_))
 unfold a2U
 refine b6g E.va ?_
 rw [b1Y (by omega)] at h
 have ho:opS e.b8 (valS vars e.fA) (valS vars e.fB)=fit (-valS vars e.fA):=by unfold opS;simp [hk]
 rw [←ho]
 have hD:=E.dst (by omega) (by omega)
 have hc:=a8m (i:=i) (Q:=fun z=>K z.1 (nst x x.fscript) z.2.1 z.2.2 evs H) (by omega) h
 exact ⟨fun hr=>⟨hD.1,_,a1q (d:=0) (by omega),hc.1 hr⟩,hc.2⟩
theorem d2e(hk:e.b8=4)(E:EdgeOk e vars arrs){i:Int}(h:K (doesS e i vars arrs).1 (nst x x.fscript) (doesS e i vars arrs).2.1 (doesS e i vars arrs).2.2 (evS e i evs) H):a0i x vars arrs evs e H K:=by
 refine b0F _ _ _ _ _ ?_
 unfold a5y
 refine a2X _ _ _ _ _ ?_
 unfold X6
 refine S7 E.a (S7 E.b (b6f E.va E.vb ?_))
 rw [b1Y (by omega)] at h
 have ho:opS e.b8 (valS vars e.fA) (valS vars e.fB)=fit (valS vars e.fA+valS vars e.fB):=by unfold opS;simp [hk]
 rw [←ho]
 have hD:=E.dst (by omega) (by omega)
 have hc:=a8m (i:=i) (Q:=fun z=>K z.1 (nst x x.fscript) z.2.1 z.2.2 evs H) (by omega) h
 exact ⟨fun hr=>⟨hD.1,_,a1q (d:=0) (by omega),hc.1 hr⟩,hc.2⟩
theorem d2f(hk:e.b8=5)(E:EdgeOk e vars arrs){i:Int}(h:K (doesS e i vars arrs).1 (nst x x.fscript) (doesS e i vars arrs).2.1 (doesS e i vars arrs).2.2 (evS e i evs) H):T5 x vars arrs evs e H K:=by
 refine a7P _ _ _ _ _ ?_
 unfold a2V
 refine a3d _ _ _ _ _ ?_
 unfold Y0
 refine S7 E.a (S7 E.b (b3b E.va E.vb ?_))
 rw [b1Y (by omega)] at h
 have ho:opS e.b8 (valS vars e.fA) (valS vars e.fB)=fit (valS vars e.fA-valS vars e.fB):=by unfold opS;simp [hk]
 rw [←ho]
 have hD:=E.dst (by omega) (by omega)
 have hc:=a8m (i:=i) (Q:=fun z=>K z.1 (nst x x.fscript) z.2.1 z.2.2 evs H) (by omega) h
 exact ⟨fun hr=>⟨hD.1,_,a1q (d:=0) (by omega),hc.1 hr⟩,hc.2⟩
theorem d2g(hk:e.b8=6)(E:EdgeOk e vars arrs){i:Int}(h:K (doesS e i vars arrs).1 (nst x x.fscript) (doesS e i vars arrs).2.1 (doesS e i vars arrs).2.2 (evS e i evs) H):T1 x vars arrs evs e H K:=by
 refine a7y _ _ _ _ _ ?_
 unfold a2K
 refine a3b _ _ _ _ _ ?_
 unfold X9
 refine S7 E.a (S7 E.b (b6h E.va E.vb ?_))
 rw [b1Y (by omega)] at h
 have ho:opS e.b8 (valS vars e.fA) (valS vars e.fB)=fit (valS vars e.fA*valS vars e.fB):=by unfold opS;simp [hk]
 rw [←ho]
 have hD:=E.dst (by omega) (by omega)
 have hc:=a8m (i:=i) (Q:=fun z=>K z.1 (nst x x.fscript) z.2.1 z.2.2 evs H) (by omega) h
 exact ⟨fun hr=>⟨hD.1,_,a1q (d:=0) (by omega),hc.1 hr⟩,hc.2⟩
theorem d2h(hk:e.b8=7)(E:EdgeOk e vars arrs){i:Int}(h:K (doesS e i vars arrs).1 (nst x x.fscript) (doesS e i vars arrs).2.1 (doesS e i vars arrs).2.2 (evS e i evs) H):V7 x vars arrs evs e H K:=by
 refine a8M _ _ _ _ _ ?_
 unfold a3O
 refine a2Z _ _ _ _ _ ?_
 unfold X8
 refine S7 E.a (S7 E.b (b6j E.va ?_))
 rw [b1Y (by omega)] at h
 have ho:opS e.b8 (valS vars e.fA) (valS vars e.fB)=divS (valS vars e.fA) (valS vars e.fB):=by unfold opS;simp [hk]
 rw [←ho]
 have hD:=E.dst (by omega) (by omega)
 have hc:=a8m (i:=i) (Q:=fun z=>K z.1 (nst x x.fscript) z.2.1 z.2.2 evs H) (by omega) h
 exact ⟨fun hr=>⟨hD.1,_,a1q (d:=0) (by omega),hc.1 hr⟩,hc.2⟩
theorem c8K(hk:e.b8=8)(E:EdgeOk e vars arrs){i:Int}(h:K (doesS e i vars arrs).1 (nst x x.fscript) (doesS e i vars arrs).2.1 (doesS e i vars arrs).2.2 (evS e i evs) H):Z3 x vars arrs evs e H K:=by
 refine a9F _ _ _ _ _ ?_
 unfold a4O
 refine a2Y _ _ _ _ _ ?_
 unfold X7
 refine S7 E.a (S7 E.b (b6k ?_))
 rw [b1Y (by omega)] at h
 have ho:opS e.b8 (valS vars e.fA) (valS vars e.fB)=remS (valS vars e.fA) (valS vars e.fB):=by unfold opS;simp [hk]
 rw [←ho]
 have hD:=E.dst (by omega) (by omega)
 have hc:=a8m (i:=i) (Q:=fun z=>K z.1 (nst x x.fscript) z.2.1 z.2.2 evs H) (by omega) h
 exact ⟨fun hr=>⟨hD.1,_,a1q (d:=0) (by omega),hc.1 hr⟩,hc.2⟩
theorem c8L(hk:e.b8=9)(E:EdgeOk e vars arrs){i:Int}{l:List Int}(hs:SlH H 1 i6 x.fscript (i::l))(hcap:x.fscript.n≤x.fscript.c)(hb:evs.length≤1000000)(h:∀sc:Sl,SlH H 1 i6 sc l→sc.n≤sc.c→K (doesS e i vars arrs).1 (nst x sc) (doesS e i vars arrs).2.1 (doesS e i vars arrs).2.2 (evS e i evs) H):Z4 x vars arrs evs e H K:=by
 refine a9E _ _ _ _ _ ?_
 unfold a4N
 have hd:doesS e i vars arrs=(0,vars.set e.D8.toNat i,arrs):=by unfold doesS;simp [hk]
 have he:evS e i evs=evs++[⟨true,i,false⟩]:=by unfold evS;simp [hk]
 rw [hd,he] at h
 have hn:=hs.1
 rw [List.length_cons] at hn
 obtain ⟨j,hj,hE⟩:=hs.get (i:=0) (by omega) (by omega)
 simp at hj;subst hj
 have:=E.dst (by omega) (by omega)
 refine ⟨by omega,by omega,i,hE,by omega,by omega,this.1,_,a1q (d:=0) (by omega),by simp;omega,h _ ?_ ?_⟩
 ·have hcut:=hs.cut (l:=1) (h:=x.fscript.n) (m:=x.fscript.c) (by omega) (Nat.le_refl _) hcap
  rw [List.take_of_length_le (by rw [List.length_cons];omega)] at hcut
  exact hcut
 ·show x.fscript.n-1≤x.fscript.c-1
  omega
theorem c8M(hk:e.b8=10)(E:EdgeOk e vars arrs){i:Int}(h:K (doesS e i vars arrs).1 (nst x x.fscript) (doesS e i vars arrs).2.1 (doesS e i vars arrs).2.2 (evS e i evs) H):Z5 x vars arrs evs e H K:=by
 refine a9I _ _ _ _ _ ?_
 unfold a4R
 have hd:doesS e i vars arrs=if 0≤valS vars e.fA∧valS vars e.fA < (rowS arrs e).length then (0,vars.set e.D8.toNat ((rowS arrs e).getD (valS vars e.fA).toNat 0),arrs) else (3,vars,arrs):=by unfold doesS;simp [hk]
 have he:evS e i evs=evs:=by unfold evS;simp [hk]
 rw [hd,he] at h
 have hA:=E.arr (.inl hk)
 have hD:=E.dst (by omega) (by omega)
 refine ⟨hA.1,rowS arrs e,a1q (by omega),S7 E.a ⟨fun hc=>?_,fun hc=>?_⟩⟩
 ·rw [if_neg (by simp at hc;omega)] at h;exact h
 ·simp at hc
  rw [if_pos (by omega)] at h
  exact ⟨by omega,_,a1q (d:=0) (by omega),hD.1,_,a1q (d:=0) (by omega),h⟩
theorem c5B(hk:e.b8=11)(E:EdgeOk e vars arrs){i:Int}(h:K (doesS e i vars arrs).1 (nst x x.fscript) (doesS e i vars arrs).2.1 (doesS e i vars arrs).2.2 (evS e i evs) H):W6 x vars arrs evs e H K:=by
 refine a9i _ _ _ _ _ ?_
 unfold a4z
 have hd:doesS e i vars arrs=if 0≤valS vars e.fA∧valS vars e.fA < (rowS arrs e).length then (0,vars,arrs.set e.P9.toNat ((rowS arrs e).set (valS vars e.fA).toNat (valS vars e.fB))) else (3,vars,arrs):=by unfold doesS;simp [hk]
 have he:evS e i evs=evs:=by unfold evS;simp [hk]
 rw [hd,he] at h
 have hA:=E.arr (.inr hk)
 refine ⟨hA.1,rowS arrs e,a1q (by omega),S7 E.a ⟨fun hc=>?_,fun hc=>?_⟩⟩
 ·rw [if_neg (by simp at hc;omega)] at h;exact h
 ·simp at hc
  rw [if_pos (by omega)] at h
  exact ⟨by omega,_,a1q (d:=0) (by omega),S7 E.b h⟩
theorem c5C(hk:e.b8=13)(hb:evs.length≤1000000){i:Int}(h:K (doesS e i vars arrs).1 (nst x x.fscript) (doesS e i vars arrs).2.1 (doesS e i vars arrs).2.2 (evS e i evs) H):W7 x vars arrs evs e H K:=by
 refine a8Z _ _ _ _ _ ?_
 unfold a4r
 have hd:doesS e i vars arrs=(0,vars,arrs):=by unfold doesS;simp [hk]
 have he:evS e i evs=evs++[⟨false,0,true⟩]:=by unfold evS;simp [hk]
 rw [hd,he] at h
 exact ⟨by simp;omega,h⟩
theorem c8N(hk:e.b8=14)(hb:evs.length≤1000000){i:Int}(h:K (doesS e i vars arrs).1 (nst x x.fscript) (doesS e i vars arrs).2.1 (doesS e i vars arrs).2.2 (evS e i evs) H):Z6 x vars arrs evs e H K:=by
 refine a9Q _ _ _ _ _ ?_
 unfold a5b
 have hd:doesS e i vars arrs=(4,vars,arrs):=by unfold doesS;simp [hk]
 have he:evS e i evs=evs++[⟨false,0,false⟩]:=by unfold evS;simp [hk]
 rw [hd,he] at h
 exact ⟨by simp;omega,h⟩
end
end Go.Proofs.YthaaobpfbgcfiaaGreatDoor
