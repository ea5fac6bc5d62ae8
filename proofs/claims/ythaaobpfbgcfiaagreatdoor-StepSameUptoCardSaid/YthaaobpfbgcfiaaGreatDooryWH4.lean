/- The program's graph of conditions and statements: it is the plain one. Contracts off the printed formulas. -/
import Derived.Test.YthaaobpfbgcfiaaGreatDooryWH2
namespace Go.Proofs.YthaaobpfbgcfiaaGreatDoor
open Go.RowKit
set_option maxRecDepth 100000
set_option maxHeartbeats 2000000
theorem a9k{α:Type}{l:List α}(h:l.length=1):∃a,l=[a]:=List.length_eq_one_iff.1 h
theorem b3W{α:Type}{l:List α}(h:l.length=2):∃a b,l=[a,b]:=by
 match l,h with
 | [a,b],_=>exact ⟨a,b,rfl⟩
section
variable {H:Hp}{L:En}{z:Lw}
def CondC(H:Hp)(L:En)(z:Lw)(c:y9)(t:PT):Prop:=∀(g:Gr)(a yes no:Int)(K:Lw→List Ed→Hp→Prop),Bd (4*cT t-1) g→cT t≤1099511627776→K (lw z ((loT L t).co a yes no g)) ((loT L t).co a yes no g).es H→C9 (lw z g) g.es c a yes no H K
theorem b4w(hz:LwH H L z){c:y9}{t:PT}(he:CH H c t):formT t=true→CondC H L z c t:=by
 induction he with
 | @mk c xs ts ys us hs hxb hr hy hyb hl hrc ih=>
 intro hf g a yes no K hb h1 h
 rw [b9f] at h
 dsimp only at h
 rw [formT,Bool.and_eq_true] at hf
 have hk:=fmC hf.1
 have hn:=hs.1
 have hm:=hy.1
 have hr1:=hr.1
 rw [cT] at hb h1
 refine a9R _ _ _ _ _ _ ?_
 unfold a5e
 unfold coN at h
 refine ⟨fun q=>?_,fun n1=>⟨fun q=>?_,fun n2=>⟨fun q=>?_,fun n4=>⟨fun q=>?_,fun n5=>⟨fun q=>?_,fun n6=>?_⟩⟩⟩⟩⟩
 ·rw [if_pos q] at h
  exact a6b (a3I z g _ (hb.mono (by omega)) h)
 ·rw [if_neg n1,if_pos q] at h
  exact a6b (a3I z g _ (hb.mono (by omega)) h)
 ·rw [if_neg n1,if_neg n2] at h
  obtain rfl:ts=[]:=List.length_eq_zero_iff.1 (by omega)
  obtain ⟨u,rfl⟩:=a9k (l:=us) (by omega)
  obtain ⟨y,rfl⟩:=a9k (l:=ys) (by simpa using hl)
  simp only [List.nil_append,formTs,Bool.and_true,cTs,List.length_cons,List.length_nil] at hf hb h1 hm
  simp only [List.nil_append,List.map_cons,List.map_nil,if_pos q] at h
  exact ⟨by omega,by omega,y,hy.2 0 y rfl,ih 0 y u rfl rfl hf.2 g _ _ _ _ (hb.mono (by omega)) (by omega) h⟩
 ·rw [if_neg n1,if_neg n2] at h
  obtain rfl:ts=[]:=List.length_eq_zero_iff.1 (by omega)
  obtain ⟨u,v,rfl⟩:=b3W (l:=us) (by omega)
  obtain ⟨y,w,rfl⟩:=b3W (l:=ys) (by simpa using hl)
  simp only [List.nil_append,formTs,Bool.and_true,Bool.and_eq_true,cTs,List.length_cons,List.length_nil] at hf hb h1 hm
  simp only [List.nil_append,List.map_cons,List.map_nil,if_pos q] at h
  have c1:=K9 u;have c2:=K9 v
  have b1:=hb.p1
  have g1:=(a4n L u).co a g.p no (frG g)
  refine a5F z g hb.p0 (by omega) ⟨by omega,by omega,y,hy.2 0 y rfl,ih 0 y u rfl rfl hf.2.1 (frG g) _ _ _ _ ?_ (by omega) ⟨by omega,by omega,w,hy.2 1 w rfl,ih 1 w v rfl rfl hf.2.2 _ _ _ _ _ ?_ (by omega) h⟩⟩
  ·exact hb.go (a5Y g) (by omega)
  ·exact hb.go ((a5Y g).trans g1) (by omega)
 ·rw [if_neg n1,if_neg n2] at h
  obtain rfl:ts=[]:=List.length_eq_zero_iff.1 (by omega)
  obtain ⟨u,v,rfl⟩:=b3W (l:=us) (by omega)
  obtain ⟨y,w,rfl⟩:=b3W (l:=ys) (by simpa using hl)
  simp only [List.nil_append,formTs,Bool.and_true,Bool.and_eq_true,cTs,List.length_cons,List.length_nil] at hf hb h1 hm
  simp only [List.nil_append,List.map_cons,List.map_nil,if_neg n5,if_pos q] at h
  have c1:=K9 u;have c2:=K9 v
  have b1:=hb.p1
  have g1:=(a4n L u).co a yes g.p (frG g)
  refine a5F z g hb.p0 (by omega) ⟨by omega,by omega,y,hy.2 0 y rfl,ih 0 y u rfl rfl hf.2.1 (frG g) _ _ _ _ ?_ (by omega) ⟨by omega,by omega,w,hy.2 1 w rfl,ih 1 w v rfl rfl hf.2.2 _ _ _ _ _ ?_ (by omega) h⟩⟩
  ·exact hb.go (a5Y g) (by omega)
  ·exact hb.go ((a5Y g).trans g1) (by omega)
 ·rw [if_neg n1,if_neg n2] at h
  obtain rfl:us=[]:=List.length_eq_zero_iff.1 (by omega)
  obtain ⟨u,v,rfl⟩:=b3W (l:=ts) (by omega)
  obtain ⟨y,w,rfl⟩:=b3W (l:=xs) (by omega)
  simp only [List.append_nil,formTs,Bool.and_true,Bool.and_eq_true,cTs] at hf hb h1
  simp only [List.append_nil,List.map_cons,List.map_nil,if_neg n5,if_neg n6] at h
  unfold asN at h
  have e1:=hr.2 0 y u rfl rfl
  have e2:=hr.2 1 w v rfl rfl
  have l1:=b4v (L:=L) (a4n L u) (a4n L v) a 0 g
  have c1:=K9 u;have c2:=K9 v
  refine b9j hz hs e1 e2 hf.2.1 hf.2.2 (b1W hz e1 hf.2.1) (b1W hz e2 hf.2.2) g a 0 (hb.mono (by omega)) (by omega) (by omega) (a6b (a3I z _ _ ?_ (d1X (by omega) (by omega) (a3I z _ _ ?_ h))))
  ·exact hb.go l1 (by omega)
  ·exact hb.go (l1.trans (a4m ..)) (by omega)
theorem b3X(z:Lw)(g:Gr){s:Sl}{fs:List Fs}(hs:s.n=fs.length)(tg:Int)(h0:0≤g.p)(h1:g.p+1≤1099511627776){K:Int→Lw→List Ed→Hp→Prop}(h:K (begG fs tg g).1 (lw z (begG fs tg g).2) (begG fs tg g).2.es H):Q3 (lw z g) g.es s tg H K:=by
 refine a8Q _ _ _ _ ?_
 unfold a3Q
 cases fs with
 | nil=>exact ⟨fun _=>h,fun q=>by simp only [List.length_nil] at hs;omega⟩
 | cons f fs=>
  simp only [List.length_cons] at hs
  exact ⟨fun q=>by omega,fun _=>a5F z g h0 h1 h⟩
def StmC(H:Hp)(L:En)(z:Lw)(x:B4)(t:PT):Prop:=∀(g:Gr)(a tg:Int)(K:Lw→List Ed→Hp→Prop),Bd (4*cT t-1) g→cT t≤1099511627776→K (lw z ((loT L t).st a tg g)) ((loT L t).st a tg g).es H→a1P (lw z g) g.es x a tg H K
theorem c5q(a tg:Int)(g:Gr):blkG [] a tg g=g:=by
 unfold blkG
 rw [blG]
 cases g
 simp
def atP(a tg p:Int)(n k:Nat):Int:=if k=0 then a else if k=n then tg else p+((k-1:Nat):Int)
theorem c4c(a tg p:Int)(n k:Nat)(hn:1≤n)(hk:k≤n):((a::(List.range (n-1)).map fun(j:Nat)=>p+(j:Int))++[tg])[k]? = some (atP a tg p n k):=by
 unfold atP
 cases k with
 | zero=>simp
 | succ k=>
  rw [if_neg (by omega)]
  by_cases e:k+1=n
  ·rw [if_pos e,List.getElem?_append_right (by simp;omega)]
   simp only [List.length_cons,List.length_map,List.length_range]
   rw [show k+1-(n-1+1)=0 by omega];rfl
  ·rw [if_neg e,List.getElem?_append_left (by simp;omega)]
   simp only [List.getElem?_cons_succ,List.getElem?_map]
   rw [List.getElem?_range (by omega)];simp
theorem d1Y{fs:List Fs}{k:Nat}{f:Fs}(hf:fs[k]? = some f)(a tg p:Int)(g:Gr):blG (fs.drop k) (atP a tg p fs.length k) (p+k) tg g=blG (fs.drop (k+1)) (atP a tg p fs.length (k+1)) (p+(k+1:Nat)) tg (f.st (atP a tg p fs.length k) (atP a tg p fs.length (k+1)) g):=by
 obtain ⟨hk,he⟩:=List.getElem?_eq_some_iff.1 hf
 rw [List.drop_eq_getElem_cons hk,he]
 cases hd:fs.drop (k+1) with
 | nil=>
  have:fs.length≤k+1:=by simpa using hd
  rw [blG,blG]
  congr 1
  unfold atP
  rw [if_neg (by omega),if_pos (by omega)]
 | cons u r=>
  have hl:k+1 < fs.length:=by
   have:=congrArg List.length hd
   simp only [List.length_drop,List.length_cons] at this;omega
  have e:atP a tg p fs.length (k+1)=p+k:=by
   unfold atP
   rw [if_neg (by omega),if_neg (by omega)];simp
  rw [blG,e]
  congr 1
  omega
theorem c5r{ts:List PT}{k:Nat}{t:PT}(h:ts[k]? = some t):cTs (ts.drop k)=cT t+cTs (ts.drop (k+1)):=by
 obtain ⟨hk,he⟩:=List.getElem?_eq_some_iff.1 h
 rw [List.drop_eq_getElem_cons hk,he,cTs]
theorem b3e{s:Sl}{xs:List B4}{vs:List PT}(hs:SlH H 6 p8 s xs)(hl:xs.length=vs.length)(hc:∀(i:Nat)(x:B4)(t:PT),xs[i]? = some x→vs[i]? = some t→StmC H L z x t)(g:Gr)(a tg:Int)(hb:Bd (4*cTs vs) g)(h1:cTs vs≤1099511627776){K:Lw→List Ed→Hp→Prop}
  (h:K (lw z (blkG (vs.map (loT L)) a tg g)) (blkG (vs.map (loT L)) a tg g).es H):O0 (lw z g) g.es s a tg H K:=by
 refine a9e _ _ _ _ _ ?_
 unfold a4v
 have hn:=hs.1
 have hlen:=a9X vs
 refine ⟨fun q=>?_,fun q=>?_⟩
 ·obtain rfl:vs=[]:=List.length_eq_zero_iff.1 (by omega)
  rw [List.map_nil,c5q] at h
  exact h
 have en:IntKind.wrap .i64 ((s.n:Int)-1)=((vs.length-1:Nat):Int):=by rw [Y2 ⟨by omega,by omega⟩];omega
 rw [en]
 refine Z2 (fun st H'=>H'=H∧∃i:Nat,i≤vs.length-1∧st=(a::(List.range i).map (fun(j:Nat)=>g.p+(j:Int)),(i:Int),z.fc.o9,g.t,z.fc.m8,g.p+i,z.fc.B6,g.es,z.fvars,z.farrays)) (fun st=>(vs.length-1)-st.2.1.toNat) ⟨rfl,0,by omega,by simp [lw]⟩ ?_
 rintro st H1 next ⟨rfl,i,hi,rfl⟩ hnx
 dsimp only
 unfold a0D
 refine ⟨fun q2=>?_,fun q2=>?_⟩
 ·have b1:=hb.p1
  refine a5F z ⟨g.p+i,g.t,g.es⟩ (by have:=hb.p0;dsimp only;omega) (by dsimp only;omega) ⟨?_,hnx _ _ ⟨rfl,i+1,by omega,?_⟩ ?_⟩
  ·simp only [List.length_cons,List.length_map,List.length_range,List.length_nil];omega
  ·rw [List.range_succ,List.map_append,D6 (by omega) (by omega)]
   simp only [lw,List.map_cons,List.map_nil,List.cons_append,Prod.mk.injEq,and_true,true_and]
   omega
  ·dsimp only
   rw [D6 (by omega) (by omega)];omega
 obtain rfl:i=vs.length-1:=by omega
 unfold a0C
 refine ⟨by simp only [List.length_cons,List.length_map,List.length_range,List.length_nil];omega,?_⟩
 unfold blkG at h
 have hfl:(vs.map (loT L)).length=vs.length:=List.length_map ..
 rw [hfl] at h
 refine Z2 (fun st H'=>H'=H1∧∃(i:Nat)(g':Gr),i≤vs.length∧st=((i:Int),z.fc.o9,g'.t,z.fc.m8,g'.p,z.fc.B6,g'.es,z.fvars,z.farrays)∧Bd (4*cTs (vs.drop i)-(vs.length-i)) g'∧
  blG ((vs.map (loT L)).drop i) (atP a tg g.p vs.length i) (g.p+i) tg g'=blG (vs.map (loT L)) a g.p tg ⟨g.p+(vs.length-1:Nat),g.t,g.es⟩) (fun st=>vs.length-st.1.toNat) ⟨rfl,0,⟨g.p+(vs.length-1:Nat),g.t,g.es⟩,by omega,rfl,?_,by simp [atP]⟩ ?_
 ·rw [List.drop_zero]
  have b0:=hb.p0;have b1:=hb.p1;have b2:=hb.e1
  refine ⟨by dsimp only;omega,by dsimp only;omega,by dsimp only;omega⟩
 rintro st H2 next ⟨rfl,i,g',hi,rfl,hbg,hg⟩ hnx2
 dsimp only
 unfold a0B
 refine ⟨fun q3=>?_,fun q3=>?_⟩
 ·have hiv:i < vs.length:=by omega
  obtain ⟨x,hx⟩:=y7 (l:=xs) (i:=i) (by omega)
  obtain ⟨t,ht⟩:=y7 (l:=vs) (i:=i) hiv
  have hst:=hc i x t hx ht
  have hft:(vs.map (loT L))[i]? = some (loT L t):=by rw [List.getElem?_map,ht];rfl
  rw [←hfl,d1Y hft,hfl] at hg
  have ew:IntKind.wrap .i64 ((i:Int)+1)=((i+1:Nat):Int):=by rw [D6 (by omega) (by omega)];omega
  rw [ew]
  have hd:=c5r ht
  have hct:cT t≤cTs vs:=by
   have:=b6Z vs i;omega
  have hlr:=a9X (vs.drop (i+1))
  rw [List.length_drop] at hlr
  refine ⟨by omega,by omega,x,hs.2 i x hx,by omega,_,c4c a tg g.p vs.length i (by omega) (by omega),by omega,_,c4c a tg g.p vs.length (i+1) (by omega) (by omega),hst g' _ _ _ (hbg.mono (by omega)) (by omega) ?_⟩
  refine hnx2 _ _ ⟨rfl,i+1,_,by omega,rfl,?_,hg⟩ (by dsimp only;omega)
  exact hbg.go ((a4n L t).st _ _ _) (by have:=K9 t;omega)
 ·obtain rfl:i=vs.length:=by omega
  rw [List.drop_of_length_le (by omega),blG] at hg
  rw [←hg] at h
  exact h
end
theorem b3Y:∀{ts:List PT}{i:Nat}{t:PT},formTs ts=true→ts[i]? = some t→formT t=true
 | [],_,_,_,h=>by simp at h
 | u::r,0,t,hf,h=>by
  rw [formTs,Bool.and_eq_true] at hf
  simp only [List.getElem?_cons_zero,Option.some.injEq] at h
  subst h;exact hf.1
 | u::r,i+1,t,hf,h=>by
  rw [formTs,Bool.and_eq_true] at hf
  exact b3Y hf.2 (by simpa using h)
section
variable {H:Hp}{L:En}{z:Lw}
theorem c4d(hz:LwH H L z){e:q8}{t:PT}(he:EH H e t)(hf:formT t=true)(g:Gr)(dst a tg:Int)(hb:Bd (4*cT t) g)(h1:cT t≤1099511627776){K:Lw→List Ed→Hp→Prop}
  (h2:∀o,(loT L t).pl=some o→K (lw z (edG ⟨a,tg,2,dst,-1,0,o,nO⟩ g)) (edG ⟨a,tg,2,dst,-1,0,o,nO⟩ g).es H) (h3:(loT L t).pl=none→K (lw z ((loT L t).into dst a tg 0 g)) ((loT L t).into dst a tg 0 g).es H):a1m (lw z g) g.es dst e a tg H K:=by
 refine a8P _ _ _ _ _ _ ?_
 unfold a3P
 have hc:=K9 t
 refine b9i hz g he hf (fun o ho=>⟨(fun q=>nomatch q),fun _=>?_⟩) (fun ho o=>⟨fun _=>?_,(fun q=>nomatch q)⟩)
 ·exact a6b (a3I z g _ (hb.mono (by omega)) (h2 o ho))
 ·exact b1W hz he hf g _ _ _ _ _ (hb.mono (by omega)) (by omega) (by omega) (h3 ho)
theorem c8H(hz:LwH H L z){x:B4}{t:PT}(he:SH H x t):formT t=true→StmC H L z x t:=by
 induction he with
 | @mk s xs ts ys us zs bs vs ws hs hxb hr hy hyb hry hz1 hzb hzl hzr hw1 hwb hwl hwr ih1 ih2=>
 intro hf g a tg K hb h1 h
 rw [b9g] at h
 dsimp only at h
 rw [formT,Bool.and_eq_true] at hf
 have hk:=fmS (by omega) (by omega) hf.1
 have hn:=hs.1;have hm:=hy.1;have hrl:=hr.1;have hyl:=hry.1;have hv1:=hz1.1;have hw1':=hw1.1
 rw [cT] at hb h1
 have b1:=hb.p1;have b0:=hb.p0
 refine a9O _ _ _ _ _ ?_
 unfold a4Y
 refine ⟨fun q=>?_,fun n1=>⟨fun q=>?_,fun n2=>⟨fun q=>?_,fun n3=>⟨fun q=>?_,fun n4=>⟨fun q=>?_,fun n5=>⟨fun q=>?_,fun n6=>?_⟩⟩⟩⟩⟩⟩
 ·obtain rfl:us=[]:=List.length_eq_zero_iff.1 (by omega)
  obtain rfl:vs=[]:=List.length_eq_zero_iff.1 (by omega)
  obtain rfl:ws=[]:=List.length_eq_zero_iff.1 (by omega)
  obtain ⟨u,rfl⟩:=a9k (l:=ts) (by omega)
  obtain ⟨y,rfl⟩:=a9k (l:=xs) (by omega)
  simp only [List.nil_append,List.append_nil,formTs,Bool.and_true,cTs,List.length_cons,List.length_nil] at hf hb h1 hn
  simp only [List.nil_append,List.append_nil,List.map_cons,List.map_nil] at h
  unfold lsN at h
  dsimp only at h
  rw [if_pos q] at h
  obtain ⟨l,hM,hv⟩:=hz.v
  refine ⟨l,hM,by omega,by omega,y,hs.2 0 y rfl,?_⟩
  rw [hv]
  refine c4d hz (hr.2 0 y u rfl rfl) hf.2 g _ _ _ (hb.mono (by omega)) (by omega) (fun o ho=>?_) fun ho=>?_
  ·rw [ho] at h;exact h
  ·rw [ho] at h;exact h
 ·obtain rfl:us=[]:=List.length_eq_zero_iff.1 (by omega)
  obtain rfl:vs=[]:=List.length_eq_zero_iff.1 (by omega)
  obtain rfl:ws=[]:=List.length_eq_zero_iff.1 (by omega)
  obtain ⟨u,v,rfl⟩:=b3W (l:=ts) (by omega)
  obtain ⟨y,y2,rfl⟩:=b3W (l:=xs) (by omega)
  simp only [List.nil_append,List.append_nil,formTs,Bool.and_true,Bool.and_eq_true,cTs] at hf hb h1
  simp only [List.nil_append,List.append_nil,List.map_cons,List.map_nil] at h
  unfold lsN at h
  dsimp only at h
  rw [if_neg n1,if_pos q] at h
  obtain ⟨l,hM,hv⟩:=hz.a
  have e1:=hr.2 0 y u rfl rfl
  have e2:=hr.2 1 y2 v rfl rfl
  have c1:=K9 u;have c2:=K9 v
  refine a6b ⟨l,hM,?_⟩
  rw [hv]
  refine b9j hz hs e1 e2 hf.2.1 hf.2.2 (b1W hz e1 hf.2.1) (b1W hz e2 hf.2.2) g a 0 (hb.mono (by omega)) (by omega) (by omega) (a3I z _ _ ?_ h)
  exact hb.go (b4v (a4n L u) (a4n L v) a 0 g) (by omega)
 ·obtain rfl:ts=[]:=List.length_eq_zero_iff.1 (by omega)
  obtain ⟨u,rfl⟩:=a9k (l:=us) (by omega)
  obtain ⟨y,rfl⟩:=a9k (l:=ys) (by omega)
  have e1:=hry.2 0 y u rfl rfl
  simp only [List.nil_append,List.cons_append,formTs,Bool.and_eq_true,cTs,a9W,a4l,List.length_cons,List.length_nil] at hf hb h1 hm
  simp only [List.nil_append,List.cons_append,List.map_cons] at h
  unfold lsN at h
  dsimp only at h
  have et:((vs++ws).map (loT L)).take vs.length=vs.map (loT L):=by rw [List.map_append,← List.length_map (f:=loT L),List.take_left'];rfl
  have ed:((vs++ws).map (loT L)).drop vs.length=ws.map (loT L):=by rw [List.map_append,← List.length_map (f:=loT L),List.drop_left'];rfl
  rw [if_neg n1,if_neg n2,if_pos q,et,ed] at h
  have c1:=K9 u
  have l1:=b1U (vs.map (loT L)) tg g
  generalize hy1:begG (vs.map (loT L)) tg g=r1 at h l1
  have l2:=b1U (ws.map (loT L)) tg r1.2
  generalize hy2:begG (ws.map (loT L)) tg r1.2=r2 at h l2
  have l3:=(a4n L u).co a r1.1 r2.1 r2.2
  have l4:=a8S (b1V L vs) r1.1 tg ((loT L u).co a r1.1 r2.1 r2.2)
  have ba:Bd (4*cT u-1) r2.2:=hb.go (l1.trans l2) (by omega)
  have bb:Bd (4*cTs vs) ((loT L u).co a r1.1 r2.1 r2.2):=hb.go ((l1.trans l2).trans l3) (by omega)
  have bc:Bd (4*cTs ws) (blkG (vs.map (loT L)) r1.1 tg ((loT L u).co a r1.1 r2.1 r2.2)):=hb.go (((l1.trans l2).trans l3).trans l4) (by omega)
  have bd:Bd 1 r1.2:=hb.go l1 (by omega)
  refine b3X z g (fs:=vs.map (loT L)) (by rw [List.length_map];omega) tg b0 (by omega) ?_
  rw [hy1]
  refine b3X z r1.2 (fs:=ws.map (loT L)) (by rw [List.length_map];omega) tg bd.p0 bd.p1 ?_
  rw [hy2]
  refine ⟨by omega,by omega,y,hy.2 0 y rfl,b4w hz e1 hf.2.1 r2.2 _ _ _ _ ba (by omega) ?_⟩
  refine b3e hz1 hzl (fun i x t hx ht=>ih1 i x t hx ht (b3Y hf.2.2.1 ht)) _ _ _ bb (by omega) ?_
  exact b3e hw1 hwl (fun i x t hx ht=>ih2 i x t hx ht (b3Y hf.2.2.2 ht)) _ _ _ bc (by omega) h
 ·obtain rfl:ts=[]:=List.length_eq_zero_iff.1 (by omega)
  obtain rfl:ws=[]:=List.length_eq_zero_iff.1 (by omega)
  obtain ⟨u,rfl⟩:=a9k (l:=us) (by omega)
  obtain ⟨y,rfl⟩:=a9k (l:=ys) (by omega)
  have e1:=hry.2 0 y u rfl rfl
  simp only [List.nil_append,List.append_nil,List.cons_append,formTs,Bool.and_eq_true,cTs,List.length_cons,List.length_nil] at hf hb h1 hm
  simp only [List.nil_append,List.append_nil,List.cons_append,List.map_cons] at h
  unfold lsN at h
  dsimp only at h
  rw [if_neg n1,if_neg n2,if_neg n3,if_pos q] at h
  have c1:=K9 u
  have l1:=b1U (vs.map (loT L)) a g
  generalize hy1:begG (vs.map (loT L)) a g=r1 at h l1
  have l3:=(a4n L u).co a r1.1 tg r1.2
  have ba:Bd (4*cT u-1) r1.2:=hb.go l1 (by omega)
  have bb:Bd (4*cTs vs) ((loT L u).co a r1.1 tg r1.2):=hb.go (l1.trans l3) (by omega)
  refine b3X z g (fs:=vs.map (loT L)) (by rw [List.length_map];omega) a b0 (by omega) ?_
  rw [hy1]
  refine ⟨by omega,by omega,y,hy.2 0 y rfl,b4w hz e1 hf.2.1 r1.2 _ _ _ _ ba (by omega) ?_⟩
  exact b3e hz1 hzl (fun i x t hx ht=>ih1 i x t hx ht (b3Y hf.2.2 ht)) _ _ _ bb (by omega) h
 ·obtain rfl:ts=[]:=List.length_eq_zero_iff.1 (by omega)
  obtain rfl:vs=[]:=List.length_eq_zero_iff.1 (by omega)
  obtain rfl:ws=[]:=List.length_eq_zero_iff.1 (by omega)
  obtain ⟨u,rfl⟩:=a9k (l:=us) (by omega)
  obtain ⟨y,rfl⟩:=a9k (l:=ys) (by omega)
  have e1:=hry.2 0 y u rfl rfl
  simp only [List.append_nil,formTs,Bool.and_true,cTs,List.length_cons,List.length_nil] at hf hb h1 hm
  simp only [List.append_nil,List.map_cons,List.map_nil] at h
  unfold lsN at h
  dsimp only at h
  rw [if_neg n1,if_neg n2,if_neg n3,if_neg n4,if_pos q] at h
  have c1:=K9 u
  have l1:=(a5Y g).trans (a5Y (frG g))
  have l2:=l1.trans ((a4n L u).co a g.p (g.p+1) (frG (frG g)))
  refine a5F z g b0 (by omega) (a5F z (frG g) (by dsimp only;omega) (by dsimp only;omega) ⟨by omega,by omega,y,hy.2 0 y rfl,b4w hz e1 hf.2 (frG (frG g)) _ _ _ _ ?_ (by omega) (a6b (a3I z _ _ ?_ (a6b (a3I z _ _ ?_ h))))⟩)
  ·exact hb.go l1 (by omega)
  ·exact hb.go l2 (by omega)
  ·exact hb.go (l2.trans (a4m ..)) (by omega)
 ·obtain rfl:ts=[]:=List.length_eq_zero_iff.1 (by omega)
  obtain rfl:vs=[]:=List.length_eq_zero_iff.1 (by omega)
  obtain rfl:ws=[]:=List.length_eq_zero_iff.1 (by omega)
  obtain ⟨u,rfl⟩:=a9k (l:=us) (by omega)
  obtain ⟨y,rfl⟩:=a9k (l:=ys) (by omega)
  have e1:=hry.2 0 y u rfl rfl
  simp only [List.append_nil,formTs,Bool.and_true,cTs,List.length_cons,List.length_nil] at hf hb h1 hm
  simp only [List.append_nil,List.map_cons,List.map_nil] at h
  unfold lsN at h
  dsimp only at h
  rw [if_neg n1,if_neg n2,if_neg n3,if_neg n4,if_neg n5,if_pos q,hz.ex] at h
  exact ⟨by omega,by omega,y,hy.2 0 y rfl,b4w hz e1 hf.2 g _ _ _ _ (hb.mono (by omega)) (by omega) h⟩
 ·obtain rfl:us=[]:=List.length_eq_zero_iff.1 (by omega)
  obtain rfl:ts=[]:=List.length_eq_zero_iff.1 (by omega)
  obtain rfl:vs=[]:=List.length_eq_zero_iff.1 (by omega)
  obtain rfl:ws=[]:=List.length_eq_zero_iff.1 (by omega)
  exact a6b (a3I z g _ (hb.mono (by omega)) h)
end
end Go.Proofs.YthaaobpfbgcfiaaGreatDoor
