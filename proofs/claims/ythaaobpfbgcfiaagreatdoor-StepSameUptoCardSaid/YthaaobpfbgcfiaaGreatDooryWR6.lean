/- Which edge is taken, what the document's edge does; the edges from each point. Contracts off the printed formulas. -/
import Derived.Test.YthaaobpfbgcfiaaGreatDooryWR4
namespace Go.Proofs.YthaaobpfbgcfiaaGreatDoor
open Go.RowKit
set_option maxRecDepth 100000
set_option maxHeartbeats 2000000
def goS(vars:List Int)(e:b7):Bool:=!decide (e.b8=12)||cmpS e.fOp (valS vars e.fA) (valS vars e.fB)
def takeS(es:List b7)(vars:List Int):List Int→Int
 | []=>-1
 | i::l=>match es[i.toNat]? with
  | some e=>bif goS vars e then i else takeS es vars l
  | none=>takeS es vars l
section
variable {H:Hp}{c:l9}{vs:List ByteArray}{ds:List j7}{es:List b7}{vars:List Int}{arrs:List (List Int)}{evs:List d5}{e:b7}
def OpsOk(es:List b7)(vars:List Int):Prop:=∀e∈es,(¬e.fA.A8 < 0→e.fA.A8 < vars.length)∧(¬e.fB.A8 < 0→e.fB.A8 < vars.length)
theorem b9s{op a b:Int}(h0:1≤op)(h1:op≤6):cmpS (notG op) a b = !cmpS op a b:=by
 obtain rfl | rfl | rfl | rfl | rfl | rfl:=(by omega:op=1∨op=2∨op=3∨op=4∨op=5∨op=6)
 all_goals simp [notG,cmpS]
 all_goals (rw [Bool.eq_iff_iff];simp)
theorem c8O(ha:es.all (edgeS c)=true):idxS c.B6 0 es=[]:=by
 refine List.length_eq_zero_iff.1 ?_
 rw [a6W]
 refine List.length_eq_zero_iff.2 ?_
 unfold fromS
 rw [List.filter_eq_nil_iff]
 intro e he
 have:=List.all_eq_true.1 ha e he
 unfold edgeS at this
 simp at this ⊢
 exact this.1.1.2
theorem c8P{x:b9}(G:GH H x.fc vs ds es)(F:FromH H x.fc.o7 es x.ffrom)(p0:0≤x.fpoint)(p1:x.fpoint < x.fc.o7)(ha:es.all (edgeS x.fc)=true)(hg:goeS (fromS es x.fpoint)=true)(ho:OpsOk es vars)(hop:∀e∈es,e.b8=12→1≤e.fOp∧e.fOp≤6)
  {K:Int→Bool→Hp→Prop} (h:K (takeS es vars (idxS x.fpoint 0 es)) (decide (0≤takeS es vars (idxS x.fpoint 0 es))) H):a2h x vars arrs evs H K:=by
 refine b0L _ _ _ _ ?_
 unfold a5z
 obtain ⟨si,hE,hs⟩:=F.row _ p0 p1
 have hn:=hs.1
 have hl:=a6W x.fpoint 0 es
 have ne:=G.e.1
 have fn:=F.n
 have get:∀{i:Int},0≤i→i < si.n→∃k:Int,(idxS x.fpoint 0 es)[i.toNat]? = some k∧EltH H si i 1 (a1j k)∧0≤k∧k < (x.fc.B5.n:Int)∧∃e,es[k.toNat]? = some e∧EltH H x.fc.B5 k 10 (d7 e)∧(fromS es x.fpoint)[i.toNat]? = some e:=by
  intro i h0 h1
  obtain ⟨k,hk,hE⟩:=hs.get h0 h1
  obtain ⟨k0,k1,e,he,hf⟩:=a6V x.fpoint 0 es _ _ hk
  obtain ⟨e',he',hF⟩:=G.e.get k0 (show k < (x.fc.B5.n:Int) by omega)
  rw [Int.sub_zero] at he
  rw [he] at he';cases he'
  exact ⟨k,hk,hE,k0,by omega,e,he,hF,hf⟩
 refine ⟨p0,by omega,si,hE,fun hb=>?_,fun hb=>?_⟩
 ·have:idxS x.fpoint 0 es=[]:=by
   simp at hb
   rcases hb with hb | hb
   ·rw [hb];exact c8O ha
   ·exact List.length_eq_zero_iff.1 (by omega)
  rw [this] at h;exact h
 ·simp at hb
  obtain ⟨k,hk,hK,k0,k1,e,he,hF,hf⟩:=get (i:=0) (by omega) (by omega)
  refine ⟨by omega,by omega,k,hK,k0,k1,e,hF,?_⟩
  have oe:=ho e (List.mem_of_getElem? he)
  refine a0F (valS vars e.fA) (fun _ K' hk=>S7 oe.1 hk) ?_
  refine a0F (valS vars e.fB) (fun _ K' hk=>S7 oe.2 hk) ?_
  refine a0F (cmpS e.fOp (valS vars e.fA) (valS vars e.fB)) (fun hq K' hk=>b6m (by rw [if_pos hq,if_pos hq];exact hk)) ?_
  have hgo:((decide (e.b8=12))&&(!(if (decide (e.b8=12))=true then cmpS e.fOp (valS vars e.fA) (valS vars e.fB) else false))) = !goS vars e:=by
   unfold goS
   cases decide (e.b8=12)<;>simp
  rw [hgo]
  have hhd:∃l,idxS x.fpoint 0 es=k::l:=by
   cases hi:idxS x.fpoint 0 es with
   | nil=>rw [hi] at hk;simp at hk
   | cons a l=>rw [hi] at hk;simp at hk;exact ⟨l,by rw [hk]⟩
  obtain ⟨l,hil⟩:=hhd
  have ht:takeS es vars (idxS x.fpoint 0 es)=bif goS vars e then k else takeS es vars l:=by
   rw [hil]
   show (match es[k.toNat]? with | some e=>_ | none=>_)=_
   rw [he]
  refine ⟨fun hc=>?_,fun hc=>?_⟩
  ·have hg0:goS vars e=false:=by simpa using hc
   have hk12:e.b8=12:=by
    unfold goS at hg0
    simp at hg0
    exact hg0.1
   have h2:(fromS es x.fpoint).length=2:=by
    cases hm:fromS es x.fpoint with
    | nil=>rw [hm] at hf;simp at hf
    | cons a t=>
     rw [hm] at hf hg
     simp at hf;subst hf
     match t,hg with
     | [],hg=>simp [goeS,hk12] at hg
     | [b],_=>rfl
     | _::_::_,hg=>simp [goeS] at hg
   obtain ⟨k',hk',hK',k0',k1',f,hfe,hF',hff⟩:=get (i:=1) (by omega) (by omega)
   obtain ⟨a,b,hab⟩:=c0V h2
   rw [hab] at hf hff hg
   simp at hf hff;subst hf;subst hff
   rw [b6s] at hg
   simp at hg
   obtain ⟨⟨⟨⟨_,hb12⟩,hAA⟩,hBB⟩,hopp⟩:=hg
   have hgo2:goS vars b=true:=by
    have hA:valS vars b.fA=valS vars a.fA:=by unfold valS;rw [←hAA.1,← hAA.2]
    have hB:valS vars b.fB=valS vars a.fB:=by unfold valS;rw [←hBB.1,← hBB.2]
    have ha6:=hop a (List.mem_of_getElem? he) hk12
    unfold goS at hg0 ⊢
    rw [hA,hB,hopp,b9s ha6.1 ha6.2]
    simp at hg0 ⊢
    exact .inr hg0.2
   have hl2:takeS es vars l=k':=by
    have:l=[k']:=by
     have hlen:(idxS x.fpoint 0 es).length=2:=by omega
     rw [hil] at hlen hk'
     match l,hlen,hk' with
     | [z],_,hk'=>simp at hk';rw [hk']
    rw [this]
    show (match es[k'.toNat]? with | some e=>_ | none=>_)=_
    rw [hfe]
    show (bif goS vars b then k' else _)=_
    rw [hgo2];rfl
   rw [ht,hg0,cond_false,hl2] at h
   refine ⟨by omega,by omega,k',hK',?_⟩
   rw [show decide (0≤k')=true by simpa using k0'] at h
   exact h
  ·have hg1:goS vars e=true:=by simpa using hc
   rw [ht,hg1,cond_true] at h
   rw [show decide (0≤k)=true by simpa using k0] at h
   exact h
theorem b9t(G:GH H c vs ds es)(hp:0≤c.o7∧c.o7≤4096)(hb:(es.length:Int)≤8192)(ha:es.all (edgeS c)=true){K:Sl→Hp→Prop}(h:∀s H',Hle H H'→FromH H' c.o7 es s→K s H'):a2J c H K:=by
 refine b3M _ ?_
 unfold a8F
 have ne:=G.e.1
 refine ⟨by omega,by omega,?_⟩
 refine Z2 (fun(s:List (List Int)×Int) H'=>0≤s.2∧s.2≤es.length∧Hle H H'∧RowsAt c.o7 (fun p=>idxS p 0 (es.take s.2.toNat)) s.1) (fun s=>(es.length-s.2).toNat)
  ⟨by simp,by simp,Hle.refl _,RowsAt.start (by omega) fun p=>rfl⟩ ?_
 rintro ⟨xss,i⟩ H2 next ⟨i0,i1,l2,hr⟩ hn
 dsimp only at i0 i1 hr ⊢
 unfold a3z
 refine ⟨fun hc=>?_,fun hc=>?_⟩
 ·obtain ⟨e,he,hE⟩:=(G.le l2).e.get i0 (show i < (c.B5.n:Int) by omega)
  obtain ⟨f0,f1⟩:=b6t (List.all_eq_true.1 ha e (List.mem_of_getElem? he))
  have tk:es.take (i+1).toNat=es.take i.toNat++[e]:=by
   rw [show (i+1).toNat=i.toNat+1 by omega];exact L0 he
  have hlt:((es.take i.toNat).length:Int)=i:=by rw [List.length_take];omega
  obtain ⟨xs,hx,hxe,hr2⟩:=hr.put (g:=fun p=>idxS p 0 (es.take (i+1).toNat)) f0 f1 (x:=i) (fun p=>by rw [tk,b9l,hlt,Int.zero_add])
  have hxl:xs.length≤8192:=by
   rw [hxe,a6W]
   have:=b9m (es.take i.toNat) e.B3
   rw [List.length_take] at this
   omega
  refine ⟨i0,by omega,e,hE,f0,xs,hx,by simp;omega,?_⟩
  rw [D6 i0 (by omega)]
  exact hn _ _ ⟨by omega,by omega,l2,hr2⟩ (by omega)
 ·have htk:es.take i.toNat=es:=List.take_of_length_le (by omega)
  rw [htk] at hr
  unfold a3y
  intro s H3 l3 hs _
  exact h s H3 (l2.trans l3) (FromH.of hr hs)
end
structure RS where
 pt:Int
 vars:List Int
 arrs:List (List Int)
 inp:Nat
 evs:List d5
 steps:Int
def edgeAt(es:List b7)(i:Int):Option b7:=if i < 0 then none else es[i.toNat]?
def inpS(e:b7)(scr:List Int)(n:Nat):Int:=if e.b8=9 then scr.getD n 0 else 0
def nextS(e:b7)(scr:List Int)(s:RS):RS:=
 ⟨s.pt,(doesS e (inpS e scr s.inp) s.vars s.arrs).2.1,(doesS e (inpS e scr s.inp) s.vars s.arrs).2.2,if e.b8=9 then s.inp+1 else s.inp,evS e (inpS e scr s.inp) s.evs,s.steps+1⟩
def toS(s:RS)(p:Int):RS:=⟨p,s.vars,s.arrs,s.inp,s.evs,s.steps⟩
def wrongS(e:b7)(scr:List Int)(s:RS):Int:=(doesS e (inpS e scr s.inp) s.vars s.arrs).1
def runS(es:List b7)(scr:List Int)(k:Int):Nat→RS→Int×Int×RS
 | 0,s=>(1,0,s)
 | f+1,s=>match edgeAt es (takeS es s.vars (idxS s.pt 0 es)) with
  | none=>(2,0,s)
  | some e=>if e.b8=9∧scr.length≤s.inp then (2,0,s) else if s.steps=k then (1,0,s)
   else if wrongS e scr s=0 then runS es scr k f (toS (nextS e scr s) e.fTo) else (3,wrongS e scr s,nextS e scr s)
section
variable {es:List b7}{scr:List Int}{k:Int}{f:Nat}{s:RS}{e:b7}{R:Int×Int×RS}
theorem b7E(h:edgeAt es (takeS es s.vars (idxS s.pt 0 es))=none):runS es scr k (f+1) s=(2,0,s):=by
 rw [runS,h]
theorem a8V(h:edgeAt es (takeS es s.vars (idxS s.pt 0 es))=some e):runS es scr k (f+1) s=if e.b8=9∧scr.length≤s.inp then (2,0,s) else if s.steps=k then (1,0,s)
   else if wrongS e scr s=0 then runS es scr k f (toS (nextS e scr s) e.fTo) else (3,wrongS e scr s,nextS e scr s):=by
 rw [runS,h]
end
theorem b4c{es:List b7}{vars:List Int}:∀{l:List Int},(∀i∈l,0≤i)→0≤takeS es vars l→∃e,es[(takeS es vars l).toNat]? = some e
 | [],_,h=>by simp [takeS] at h
 | i::l,hl,h=>by
  unfold takeS at h ⊢
  cases he:es[i.toNat]? with
  | none=>rw [he] at h;exact b4c (fun j hj=>hl j (List.mem_cons_of_mem _ hj)) h
  | some e=>
   rw [he] at h
   dsimp only at h ⊢
   cases hg:goS vars e
   ·rw [hg] at h;exact b4c (fun j hj=>hl j (List.mem_cons_of_mem _ hj)) h
   ·exact ⟨e,he⟩
theorem c5D{p:Int}{es:List b7}:∀i∈idxS p 0 es,0≤i:=by
 intro i hi
 obtain ⟨j,hj,rfl⟩:=List.mem_iff_getElem.1 hi
 exact (a6V p 0 es j _ (List.getElem?_eq_getElem hj)).1
theorem c4o{es:List b7}{vars:List Int}{p:Int}(h:¬takeS es vars (idxS p 0 es) < 0):∃e,es[(takeS es vars (idxS p 0 es)).toNat]? = some e∧edgeAt es (takeS es vars (idxS p 0 es))=some e:=by
 obtain ⟨e,he⟩:=b4c (es:=es) (vars:=vars) (c5D (p:=p) (es:=es)) (by omega)
 exact ⟨e,he,by unfold edgeAt;rw [if_neg h];exact he⟩
theorem b9Z{es:List b7}{i:Int}(h:i < 0):edgeAt es i=none:=if_pos h
theorem c5E{x:Int}(h:x.natAbs≤9223372036854775807):o8 x:=by unfold o8;omega
theorem c8Q{k a b:Int}(ha:o8 a)(hb:o8 b):o8 (opS k a b).1:=by
 have hf:∀x,o8 (fit x).1:=fun x=>by
  unfold fit
  split
  ·assumption
  ·decide
 unfold opS
 repeat' split
 ·exact hf _
 ·exact hf _
 ·exact hf _
 ·exact hf _
 ·unfold divS
  split
  ·decide
  ·exact hf _
 ·unfold remS
  repeat' split
  ·decide
  ·decide
  ·rename_i hb0 _
   refine c5E ?_
   rw [Int.natAbs_tmod]
   have:a.natAbs % b.natAbs < b.natAbs:=Nat.mod_lt _ (by omega)
   unfold o8 at hb
   omega
theorem b7F{l:List Int}(h:∀x∈l,o8 x)(i:Nat):o8 (l.getD i 0):=by
 rw [List.getD_eq_getElem?_getD]
 by_cases hi:i < l.length
 ·rw [List.getElem?_eq_getElem hi];exact h _ (List.getElem_mem hi)
 ·rw [List.getElem?_eq_none (by omega)];decide
theorem b9u{l:List Int}(h:∀x∈l,o8 x){i:Nat}{y:Int}(hy:o8 y):∀x∈l.set i y,o8 x:=by
 intro x hx
 rcases List.mem_or_eq_of_mem_set hx with hx | rfl
 ·exact h x hx
 ·exact hy
structure In64 (vars:List Int) (arrs:List (List Int)):Prop where
 v:∀x∈vars,o8 x
 a:∀r∈arrs,∀x∈r,o8 x
theorem In64.row{vars:List Int}{arrs:List (List Int)}(I:In64 vars arrs)(e:b7):∀x∈rowS arrs e,o8 x:=by
 unfold rowS
 rw [List.getD_eq_getElem?_getD]
 by_cases hi:e.P9.toNat < arrs.length
 ·rw [List.getElem?_eq_getElem hi];exact I.a _ (List.getElem_mem hi)
 ·rw [List.getElem?_eq_none (by omega)];intro x hx;cases hx
theorem b7G(e:b7)(i:Int)(vars:List Int)(arrs:List (List Int)):(doesS e i vars arrs).2.1.length=vars.length∧(doesS e i vars arrs).2.2.length=arrs.length:=by
 unfold doesS
 repeat' split
 all_goals simp
theorem c5F{e:b7}{i:Int}{vars:List Int}{arrs:List (List Int)}(I:In64 vars arrs)(hi:o8 i)(ha:o8 (valS vars e.fA))(hb:o8 (valS vars e.fB)):In64 (doesS e i vars arrs).2.1 (doesS e i vars arrs).2.2:=by
 have hset:∀{j:Nat}{y:Int},o8 y→In64 (vars.set j y) arrs:=fun hy=>⟨b9u I.v hy,I.a⟩
 unfold doesS
 repeat' split
 ·exact hset ha
 ·exact hset hi
 ·exact hset (c8Q ha hb)
 ·exact I
 ·exact hset (b7F (I.row e) _)
 ·exact I
 ·refine ⟨I.v,fun r hr=>?_⟩
  rcases List.mem_or_eq_of_mem_set hr with hr | rfl
  ·exact I.a r hr
  ·exact b9u (I.row e) hb
 ·exact I
 ·exact I
 ·exact I
theorem c8R(e:b7)(i:Int)(evs:List d5):(evS e i evs).length≤evs.length+1:=by
 unfold evS
 repeat' split
 all_goals simp
structure StOk (c:l9) (ds:List j7) (scr:List Int) (k:Int) (s:RS):Prop where
 p0:0≤s.pt
 p1:s.pt < c.o7
 nv:(s.vars.length:Int)=allS c
 na:s.arrs.length=ds.length
 i:In64 s.vars s.arrs
 s0:0≤s.steps
 s1:s.steps≤k
 ne:(s.evs.length:Int)≤s.steps
 ni:s.inp≤scr.length
def Nums(es:List b7):Prop:=∀e∈es,o8 e.fA.s8∧o8 e.fB.s8
section
variable {H:Hp}{c:l9}{vs:List ByteArray}{ds:List j7}{es:List b7}{scr:List Int}{k:Int}{s:RS}{e:b7}
theorem StOk.edge(S:StOk c ds scr k s)(G:GH H c vs ds es)(hn:Nums es)(he:e∈es)(ha:es.all (edgeS c)=true):EdgeOk e s.vars s.arrs:=
 c5z (List.all_eq_true.1 ha e he) S.nv (by rw [S.na];have:=G.a.1;omega) S.i.v (hn e he).1 (hn e he).2
theorem StOk.ops(S:StOk c ds scr k s)(G:GH H c vs ds es)(hn:Nums es)(ha:es.all (edgeS c)=true):OpsOk es s.vars:=fun e he=>
 ⟨(S.edge G hn he ha).a,(S.edge G hn he ha).b⟩
theorem c8S(hs:∀x∈scr,o8 x)(e:b7)(n:Nat):o8 (inpS e scr n):=by
 unfold inpS
 split
 ·exact b7F hs n
 ·decide
theorem StOk.next(S:StOk c ds scr k s)(G:GH H c vs ds es)(hn:Nums es)(hs:∀x∈scr,o8 x)(he:e∈es)(ha:es.all (edgeS c)=true)(hk:¬s.steps=k)(hi:¬(e.b8=9∧scr.length≤s.inp)):StOk c ds scr k (toS (nextS e scr s) e.fTo):=by
 have E:=S.edge G hn he ha
 have hl:=b7G e (inpS e scr s.inp) s.vars s.arrs
 have hev:=c8R e (inpS e scr s.inp) s.evs
 have hq:=List.all_eq_true.1 ha e he
 have s0:=S.s0;have s1:=S.s1;have ne:=S.ne;have ni:=S.ni
 have hto:0≤e.fTo∧e.fTo < c.o7:=by unfold edgeS within at hq;simp at hq;omega
 refine ⟨hto.1,hto.2,?_,?_,c5F S.i (c8S hs e s.inp) E.va E.vb,?_,?_,?_,?_⟩
 ·show ((doesS e (inpS e scr s.inp) s.vars s.arrs).2.1.length:Int)=_
  rw [hl.1];exact S.nv
 ·show (doesS e (inpS e scr s.inp) s.vars s.arrs).2.2.length=_
  rw [hl.2];exact S.na
 ·show 0≤s.steps+1
  omega
 ·show s.steps+1≤k
  omega
 ·show ((evS e (inpS e scr s.inp) s.evs).length:Int)≤s.steps+1
  omega
 ·show (if e.b8=9 then s.inp+1 else s.inp)≤scr.length
  split<;>omega
structure FineG (c:l9) (vs:List ByteArray) (ds:List j7) (es:List b7):Prop where
 t:0≤c.t8∧c.t8≤64∧(vs.length:Int)+c.t8≤64
 p:1≤c.o7∧c.o7≤4096
 be:(es.length:Int)≤8192
 bd:(ds.length:Int)≤16
 sz:∀d∈ds,1≤d.C1∧d.C1≤1024
 all:es.all (edgeS c)=true
 forks:∀p:Int,0≤p→p < c.o7→goeS (fromS es p)=true
theorem FineG.of(h:checkS c vs ds es=0):FineG c vs ds es:=by
 unfold checkS at h
 cases hv:varsS c vs
 ·rw [hv] at h;cases h
 cases hp:pointsS c es
 ·rw [hv,hp] at h;cases h
 cases hf:gformS c ds es
 ·rw [hv,hp,hf] at h;cases h
 unfold varsS at hv
 unfold pointsS at hp
 unfold gformS at hf
 simp only [Bool.and_eq_true,decide_eq_true_eq] at hv hp hf
 obtain ⟨⟨⟨⟨f1,f2⟩,f3⟩,f4⟩,f5⟩:=hf
 refine ⟨by omega,by omega,by omega,f1,fun d hd=>?_,f4,fun p h0 h1=>?_⟩
 ·have:=List.all_eq_true.1 f2 d hd
  simpa using this
 ·unfold forksS at f5
  have:=List.all_eq_true.1 f5 p.toNat (List.mem_range.2 (by omega))
  rwa [Int.toNat_of_nonneg h0] at this
theorem FineG.kind(F:FineG c vs ds es)(he:e∈es):kindS e.b8=true:=by
 have:=List.all_eq_true.1 F.all e he
 unfold edgeS at this
 simp at this
 exact this.1.2
theorem FineG.op(F:FineG c vs ds es):∀e∈es,e.b8=12→1≤e.fOp∧e.fOp≤6:=by
 intro e he hk
 have:=List.all_eq_true.1 F.all e he
 unfold edgeS rightS at this
 simp only [Bool.and_eq_true] at this
 have hw:(wantsS e.b8).fop=true:=by rw [hk];rfl
 have h:=this.2.1.1.2
 rw [hw] at h
 simpa using h
end
def startS(c:l9)(ds:List j7):RS:=⟨0,List.replicate (allS c).toNat 0,ds.map fun d=>List.replicate d.C1.toNat 0,0,[],0⟩
theorem c5G{H:Hp}{c:l9}{vs:List ByteArray}{ds:List j7}{es:List b7}{scr:List Int}{k:Int}(G:GH H c vs ds es)(F:FineG c vs ds es)(hk:0≤k):StOk c ds scr k (startS c ds):=by
 have ha:=b1X G F.t.1 F.t.2.1
 have hp:=F.p
 have ht:=F.t.1
 refine ⟨Int.le_refl _,by show (0:Int) < _;omega,?_,by simp [startS],⟨fun x hx=>?_,fun r hr x hx=>?_⟩,Int.le_refl _,hk,by simp [startS],Nat.zero_le _⟩
 ·simp only [startS,List.length_replicate];omega
 ·rw [List.eq_of_mem_replicate hx];decide
 ·obtain ⟨d,_,rfl⟩:=List.mem_map.1 hr
  rw [List.eq_of_mem_replicate hx];decide
def wholeS(c:l9)(ds:List j7)(es:List b7)(scr:List Int)(k:Int):Int×Int×RS:=runS es scr k (k.toNat+1) (startS c ds)
inductive RunR (H:Hp) (c:l9) (vs:List ByteArray) (ds:List j7) (es:List b7) (scr:List Int) (k:Int):f7→Int→Int→Prop
 | bad:checkS c vs ds es≠0→RunR H c vs ds es scr k ⟨0,0,0,⟨none,0,0⟩,⟨none,0,0⟩,⟨none,0,0⟩⟩ 0 (checkS c vs ds es)
 | many:checkS c vs ds es=0→(k < 0∨65536 < k∨65536 < (scr.length:Int))→RunR H c vs ds es scr k ⟨0,0,0,⟨none,0,0⟩,⟨none,0,0⟩,⟨none,0,0⟩⟩ 0 80
 | ran {s1 s2 s3:Sl}:checkS c vs ds es=0→¬(k < 0∨65536 < k∨65536 < (scr.length:Int))→
   SlH H 3 m6 s1 (wholeS c ds es scr k).2.2.evs→SlH H 1 i6 s2 ((wholeS c ds es scr k).2.2.vars.take vs.length)→SlHH H 1 i6 s3 (wholeS c ds es scr k).2.2.arrs→
   RunR H c vs ds es scr k ⟨(wholeS c ds es scr k).1,(wholeS c ds es scr k).2.1,(wholeS c ds es scr k).2.2.steps,s1,s2,s3⟩ (wholeS c ds es scr k).2.2.pt 0
end Go.Proofs.YthaaobpfbgcfiaaGreatDoor
