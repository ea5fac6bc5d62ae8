/- The program's graph of conditions and statements: it is the plain one. Contracts off the printed formulas. -/
import Derived.Test.YtaokfhdinhimfaaGreatDooryLH2
namespace Go.Proofs.YtaokfhdinhimfaaGreatDoor
open Go.RowKit
set_option maxRecDepth 100000
set_option maxHeartbeats 2000000
theorem V4{α:Type}{l:List α}(h:l.length=1):∃a,l=[a]:=List.length_eq_one_iff.1 h
theorem a3I{α:Type}{l:List α}(h:l.length=2):∃a b,l=[a,b]:=by
 match l,h with
 | [a,b],_=>exact ⟨a,b,rfl⟩
section
variable {H:Hp}{L:En}{z:Lw}
def CondC(H:Hp)(L:En)(z:Lw)(c:j8)(t:PT):Prop:=∀(g:Gr)(a yes no:Int)(K:Lw→List Ed→Hp→Prop),Bd (4*cT t-1) g→cT t≤1099511627776→K (lw z ((loT L t).co a yes no g)) ((loT L t).co a yes no g).es H→D2 (lw z g) g.es c a yes no H K
theorem b5l(hz:LwH H L z){c:j8}{t:PT}(he:CH H c t):formT t=true→CondC H L z c t:=by
 induction he with
 | @mk c xs ts ys us hs hxb hr hy hyb hl hrc ih=>
 intro hf g a yes no K hb h1 h
 rw [b5O] at h
 dsimp only at h
 rw [formT,Bool.and_eq_true] at hf
 have hk:=fmC hf.1
 have hn:=hs.1
 have hm:=hy.1
 have hr1:=hr.1
 rw [cT] at hb h1
 refine b0Q _ _ _ _ _ _ ?_
 unfold a4J
 unfold coN at h
 refine ⟨fun q=>?_,fun n1=>⟨fun q=>?_,fun n2=>⟨fun q=>?_,fun n4=>⟨fun q=>?_,fun n5=>⟨fun q=>?_,fun n6=>?_⟩⟩⟩⟩⟩
 ·rw [if_pos q] at h
  exact a7R (a6r z g _ (hb.mono (by omega)) h)
 ·rw [if_neg n1,if_pos q] at h
  exact a7R (a6r z g _ (hb.mono (by omega)) h)
 ·rw [if_neg n1,if_neg n2] at h
  obtain rfl:ts=[]:=List.length_eq_zero_iff.1 (by omega)
  obtain ⟨u,rfl⟩:=V4 (l:=us) (by omega)
  obtain ⟨y,rfl⟩:=V4 (l:=ys) (by simpa using hl)
  simp only [List.nil_append,formTs,Bool.and_true,cTs,List.length_cons,List.length_nil] at hf hb h1 hm
  simp only [List.nil_append,List.map_cons,List.map_nil,if_pos q] at h
  exact ⟨by omega,by omega,y,hy.2 0 y rfl,ih 0 y u rfl rfl hf.2 g _ _ _ _ (hb.mono (by omega)) (by omega) h⟩
 ·rw [if_neg n1,if_neg n2] at h
  obtain rfl:ts=[]:=List.length_eq_zero_iff.1 (by omega)
  obtain ⟨u,v,rfl⟩:=a3I (l:=us) (by omega)
  obtain ⟨y,w,rfl⟩:=a3I (l:=ys) (by simpa using hl)
  simp only [List.nil_append,formTs,Bool.and_true,Bool.and_eq_true,cTs,List.length_cons,List.length_nil] at hf hb h1 hm
  simp only [List.nil_append,List.map_cons,List.map_nil,if_pos q] at h
  have c1:=G6 u;have c2:=G6 v
  have b1:=hb.p1
  have g1:=(a2B L u).co a g.p no (frG g)
  refine a7A z g hb.p0 (by omega) ⟨by omega,by omega,y,hy.2 0 y rfl,ih 0 y u rfl rfl hf.2.1 (frG g) _ _ _ _ ?_ (by omega) ⟨by omega,by omega,w,hy.2 1 w rfl,ih 1 w v rfl rfl hf.2.2 _ _ _ _ _ ?_ (by omega) h⟩⟩
  ·exact hb.go (a6M g) (by omega)
  ·exact hb.go ((a6M g).trans g1) (by omega)
 ·rw [if_neg n1,if_neg n2] at h
  obtain rfl:ts=[]:=List.length_eq_zero_iff.1 (by omega)
  obtain ⟨u,v,rfl⟩:=a3I (l:=us) (by omega)
  obtain ⟨y,w,rfl⟩:=a3I (l:=ys) (by simpa using hl)
  simp only [List.nil_append,formTs,Bool.and_true,Bool.and_eq_true,cTs,List.length_cons,List.length_nil] at hf hb h1 hm
  simp only [List.nil_append,List.map_cons,List.map_nil,if_neg n5,if_pos q] at h
  have c1:=G6 u;have c2:=G6 v
  have b1:=hb.p1
  have g1:=(a2B L u).co a yes g.p (frG g)
  refine a7A z g hb.p0 (by omega) ⟨by omega,by omega,y,hy.2 0 y rfl,ih 0 y u rfl rfl hf.2.1 (frG g) _ _ _ _ ?_ (by omega) ⟨by omega,by omega,w,hy.2 1 w rfl,ih 1 w v rfl rfl hf.2.2 _ _ _ _ _ ?_ (by omega) h⟩⟩
  ·exact hb.go (a6M g) (by omega)
  ·exact hb.go ((a6M g).trans g1) (by omega)
 ·rw [if_neg n1,if_neg n2] at h
  obtain rfl:us=[]:=List.length_eq_zero_iff.1 (by omega)
  obtain ⟨u,v,rfl⟩:=a3I (l:=ts) (by omega)
  obtain ⟨y,w,rfl⟩:=a3I (l:=xs) (by omega)
  simp only [List.append_nil,formTs,Bool.and_true,Bool.and_eq_true,cTs] at hf hb h1
  simp only [List.append_nil,List.map_cons,List.map_nil,if_neg n5,if_neg n6] at h
  unfold asN at h
  have e1:=hr.2 0 y u rfl rfl
  have e2:=hr.2 1 w v rfl rfl
  have l1:=b5k (L:=L) (a2B L u) (a2B L v) a 0 g
  have c1:=G6 u;have c2:=G6 v
  refine c0J hz hs e1 e2 hf.2.1 hf.2.2 (b3b hz e1 hf.2.1) (b3b hz e2 hf.2.2) g a 0 (hb.mono (by omega)) (by omega) (by omega) (a7R (a6r z _ _ ?_ (d1M (by omega) (by omega) (a6r z _ _ ?_ h))))
  ·exact hb.go l1 (by omega)
  ·exact hb.go (l1.trans (a5Y ..)) (by omega)
theorem b4E(z:Lw)(g:Gr){s:Sl}{fs:List Fs}(hs:s.n=fs.length)(tg:Int)(h0:0≤g.p)(h1:g.p+1≤1099511627776){K:Int→Lw→List Ed→Hp→Prop}(h:K (begG fs tg g).1 (lw z (begG fs tg g).2) (begG fs tg g).2.es H):W3 (lw z g) g.es s tg H K:=by
 refine b0e _ _ _ _ ?_
 unfold a3D
 cases fs with
 | nil=>exact ⟨fun _=>h,fun q=>by simp only [List.length_nil] at hs;omega⟩
 | cons f fs=>
  simp only [List.length_cons] at hs
  exact ⟨fun q=>by omega,fun _=>a7A z g h0 h1 h⟩
def StmC(H:Hp)(L:En)(z:Lw)(x:i8)(t:PT):Prop:=∀(g:Gr)(a tg:Int)(K:Lw→List Ed→Hp→Prop),Bd (4*cT t-1) g→cT t≤1099511627776→K (lw z ((loT L t).st a tg g)) ((loT L t).st a tg g).es H→a4x (lw z g) g.es x a tg H K
theorem b5Q(a tg:Int)(g:Gr):blkG [] a tg g=g:=by
 unfold blkG
 rw [blG]
 cases g
 simp
def atP(a tg p:Int)(n k:Nat):Int:=if k=0 then a else if k=n then tg else p+((k-1:Nat):Int)
theorem c0K(a tg p:Int)(n k:Nat)(hn:1≤n)(hk:k≤n):((a::(List.range (n-1)).map fun(j:Nat)=>p+(j:Int))++[tg])[k]? = some (atP a tg p n k):=by
 unfold atP
 cases k with
 | zero=>simp
 | succ k=>
  rw [if_neg (by omega)]
  by_cases e:k+1=n
  ·rw [if_pos e,List.getElem?_append_right (by simp;omega)]
   simp only [List.length_cons,List.length_map,List.length_range]
   rw [show k+1-(n-1+1)=0 by omega];rfl
  ·rw [if_neg e,List.getElem?_append_left (by simp;omega)]
   simp only [List.getElem?_cons_succ,List.getElem?_map]
   rw [List.getElem?_range (by omega)];simp
theorem c5n{fs:List Fs}{k:Nat}{f:Fs}(hf:fs[k]? = some f)(a tg p:Int)(g:Gr):blG (fs.drop k) (atP a tg p fs.length k) (p+k) tg g=blG (fs.drop (k+1)) (atP a tg p fs.length (k+1)) (p+(k+1:Nat)) tg (f.st (atP a tg p fs.length k) (atP a tg p fs.length (k+1)) g):=by
 obtain ⟨hk,he⟩:=List.getElem?_eq_some_iff.1 hf
 rw [List.drop_eq_getElem_cons hk,he]
 cases hd:fs.drop (k+1) with
 | nil=>
  have:fs.length≤k+1:=by simpa using hd
  rw [blG,blG]
  congr 1
  unfold atP
  rw [if_neg (by omega),if_pos (by omega)]
 | cons u r=>
  have hl:k+1 < fs.length:=by
   have:=congrArg List.length hd
   simp only [List.length_drop,List.length_cons] at this;omega
  have e:atP a tg p fs.length (k+1)=p+k:=by
   unfold atP
   rw [if_neg (by omega),if_neg (by omega)];simp
  rw [blG,e]
  congr 1
  omega
theorem b2c{ts:List PT}{k:Nat}{t:PT}(h:ts[k]? = some t):cTs (ts.drop k)=cT t+cTs (ts.drop (k+1)):=by
 obtain ⟨hk,he⟩:=List.getElem?_eq_some_iff.1 h
 rw [List.drop_eq_getElem_cons hk,he,cTs]
theorem b4a{s:Sl}{xs:List i8}{vs:List PT}(hs:SlH H 6 g7 s xs)(hl:xs.length=vs.length)(hc:∀(i:Nat)(x:i8)(t:PT),xs[i]? = some x→vs[i]? = some t→StmC H L z x t)(g:Gr)(a tg:Int)(hb:Bd (4*cTs vs) g)(h1:cTs vs≤1099511627776){K:Lw→List Ed→Hp→Prop}
  (h:K (lw z (blkG (vs.map (loT L)) a tg g)) (blkG (vs.map (loT L)) a tg g).es H):R6 (lw z g) g.es s a tg H K:=by
 refine b0z _ _ _ _ _ ?_
 unfold a4k
 have hn:=hs.1
 have hlen:=a7P vs
 refine ⟨fun q=>?_,fun q=>?_⟩
 ·obtain rfl:vs=[]:=List.length_eq_zero_iff.1 (by omega)
  rw [List.map_nil,b5Q] at h
  exact h
 have en:IntKind.wrap .i64 ((s.n:Int)-1)=((vs.length-1:Nat):Int):=by rw [N7 ⟨by omega,by omega⟩];omega
 rw [en]
 refine Q6 (fun st H'=>H'=H∧∃i:Nat,i≤vs.length-1∧st=(a::(List.range i).map (fun(j:Nat)=>g.p+(j:Int)),(i:Int),z.fc.p7,g.t,z.fc.o9,g.p+i,z.fc.u5,g.es,z.fvars,z.farrays)) (fun st=>(vs.length-1)-st.2.1.toNat) ⟨rfl,0,by omega,by simp [lw]⟩ ?_
 rintro st H1 next ⟨rfl,i,hi,rfl⟩ hnx
 dsimp only
 unfold a0A
 refine ⟨fun q2=>?_,fun q2=>?_⟩
 ·have b1:=hb.p1
  refine a7A z ⟨g.p+i,g.t,g.es⟩ (by have:=hb.p0;dsimp only;omega) (by dsimp only;omega) ⟨?_,hnx _ _ ⟨rfl,i+1,by omega,?_⟩ ?_⟩
  ·simp only [List.length_cons,List.length_map,List.length_range,List.length_nil];omega
  ·rw [List.range_succ,List.map_append,q6 (by omega) (by omega)]
   simp only [lw,List.map_cons,List.map_nil,List.cons_append,Prod.mk.injEq,and_true,true_and]
   omega
  ·dsimp only
   rw [q6 (by omega) (by omega)];omega
 obtain rfl:i=vs.length-1:=by omega
 unfold a0z
 refine ⟨by simp only [List.length_cons,List.length_map,List.length_range,List.length_nil];omega,?_⟩
 unfold blkG at h
 have hfl:(vs.map (loT L)).length=vs.length:=List.length_map ..
 rw [hfl] at h
 refine Q6 (fun st H'=>H'=H1∧∃(i:Nat)(g':Gr),i≤vs.length∧st=((i:Int),z.fc.p7,g'.t,z.fc.o9,g'.p,z.fc.u5,g'.es,z.fvars,z.farrays)∧Bd (4*cTs (vs.drop i)-(vs.length-i)) g'∧
  blG ((vs.map (loT L)).drop i) (atP a tg g.p vs.length i) (g.p+i) tg g'=blG (vs.map (loT L)) a g.p tg ⟨g.p+(vs.length-1:Nat),g.t,g.es⟩) (fun st=>vs.length-st.1.toNat) ⟨rfl,0,⟨g.p+(vs.length-1:Nat),g.t,g.es⟩,by omega,rfl,?_,by simp [atP]⟩ ?_
 ·rw [List.drop_zero]
  have b0:=hb.p0;have b1:=hb.p1;have b2:=hb.e1
  refine ⟨by dsimp only;omega,by dsimp only;omega,by dsimp only;omega⟩
 rintro st H2 next ⟨rfl,i,g',hi,rfl,hbg,hg⟩ hnx2
 dsimp only
 unfold a0y
 refine ⟨fun q3=>?_,fun q3=>?_⟩
 ·have hiv:i < vs.length:=by omega
  obtain ⟨x,hx⟩:=A8 (l:=xs) (i:=i) (by omega)
  obtain ⟨t,ht⟩:=A8 (l:=vs) (i:=i) hiv
  have hst:=hc i x t hx ht
  have hft:(vs.map (loT L))[i]? = some (loT L t):=by rw [List.getElem?_map,ht];rfl
  rw [←hfl,c5n hft,hfl] at hg
  have ew:IntKind.wrap .i64 ((i:Int)+1)=((i+1:Nat):Int):=by rw [q6 (by omega) (by omega)];omega
  rw [ew]
  have hd:=b2c ht
  have hct:cT t≤cTs vs:=by
   have:=a9S vs i;omega
  have hlr:=a7P (vs.drop (i+1))
  rw [List.length_drop] at hlr
  refine ⟨by omega,by omega,x,hs.2 i x hx,by omega,_,c0K a tg g.p vs.length i (by omega) (by omega),by omega,_,c0K a tg g.p vs.length (i+1) (by omega) (by omega),hst g' _ _ _ (hbg.mono (by omega)) (by omega) ?_⟩
  refine hnx2 _ _ ⟨rfl,i+1,_,by omega,rfl,?_,hg⟩ (by dsimp only;omega)
  exact hbg.go ((a2B L t).st _ _ _) (by have:=G6 t;omega)
 ·obtain rfl:i=vs.length:=by omega
  rw [List.drop_of_length_le (by omega),blG] at hg
  rw [←hg] at h
  exact h
end
end Go.Proofs.YtaokfhdinhimfaaGreatDoor
