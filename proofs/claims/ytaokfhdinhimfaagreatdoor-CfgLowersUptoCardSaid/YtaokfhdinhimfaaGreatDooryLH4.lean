/- The program's graph of a statement: it is the plain one. Contracts off the printed formulas. -/
import Derived.Test.YtaokfhdinhimfaaGreatDooryLH3
namespace Go.Proofs.YtaokfhdinhimfaaGreatDoor
open Go.RowKit
set_option maxRecDepth 100000
set_option maxHeartbeats 2000000
theorem a5Z:∀{ts:List PT}{i:Nat}{t:PT},formTs ts=true→ts[i]? = some t→formT t=true
 | [],_,_,_,h=>by simp at h
 | u::r,0,t,hf,h=>by
  rw [formTs,Bool.and_eq_true] at hf
  simp only [List.getElem?_cons_zero,Option.some.injEq] at h
  subst h;exact hf.1
 | u::r,i+1,t,hf,h=>by
  rw [formTs,Bool.and_eq_true] at hf
  exact a5Z hf.2 (by simpa using h)
section
variable {H:Hp}{L:En}{z:Lw}
theorem c5o(hz:LwH H L z){e:f8}{t:PT}(he:EH H e t)(hf:formT t=true)(g:Gr)(dst a tg:Int)(hb:Bd (4*cT t) g)(h1:cT t≤1099511627776){K:Lw→List Ed→Hp→Prop}
  (h2:∀o,(loT L t).pl=some o→K (lw z (edG ⟨a,tg,2,dst,-1,0,o,nO⟩ g)) (edG ⟨a,tg,2,dst,-1,0,o,nO⟩ g).es H) (h3:(loT L t).pl=none→K (lw z ((loT L t).into dst a tg 0 g)) ((loT L t).into dst a tg 0 g).es H):a3z (lw z g) g.es dst e a tg H K:=by
 refine b0n _ _ _ _ _ _ ?_
 unfold a3H
 have hc:=G6 t
 refine c0I hz g he hf (fun o ho=>⟨(fun q=>nomatch q),fun _=>?_⟩) (fun ho o=>⟨fun _=>?_,(fun q=>nomatch q)⟩)
 ·exact a7R (a6r z g _ (hb.mono (by omega)) (h2 o ho))
 ·exact b3b hz he hf g _ _ _ _ _ (hb.mono (by omega)) (by omega) (by omega) (h3 ho)
theorem c8V(hz:LwH H L z){x:i8}{t:PT}(he:SH H x t):formT t=true→StmC H L z x t:=by
 induction he with
 | @mk s xs ts ys us zs bs vs ws hs hxb hr hy hyb hry hz1 hzb hzl hzr hw1 hwb hwl hwr ih1 ih2=>
 intro hf g a tg K hb h1 h
 rw [b5P] at h
 dsimp only at h
 rw [formT,Bool.and_eq_true] at hf
 have hk:=fmS (by omega) (by omega) hf.1
 have hn:=hs.1;have hm:=hy.1;have hrl:=hr.1;have hyl:=hry.1;have hv1:=hz1.1;have hw1':=hw1.1
 rw [cT] at hb h1
 have b1:=hb.p1;have b0:=hb.p0
 refine b0Y _ _ _ _ _ ?_
 unfold a4R
 refine ⟨fun q=>?_,fun n1=>⟨fun q=>?_,fun n2=>⟨fun q=>?_,fun n3=>⟨fun q=>?_,fun n4=>⟨fun q=>?_,fun n5=>⟨fun q=>?_,fun n6=>?_⟩⟩⟩⟩⟩⟩
 ·obtain rfl:us=[]:=List.length_eq_zero_iff.1 (by omega)
  obtain rfl:vs=[]:=List.length_eq_zero_iff.1 (by omega)
  obtain rfl:ws=[]:=List.length_eq_zero_iff.1 (by omega)
  obtain ⟨u,rfl⟩:=V4 (l:=ts) (by omega)
  obtain ⟨y,rfl⟩:=V4 (l:=xs) (by omega)
  simp only [List.nil_append,List.append_nil,formTs,Bool.and_true,cTs,List.length_cons,List.length_nil] at hf hb h1 hn
  simp only [List.nil_append,List.append_nil,List.map_cons,List.map_nil] at h
  unfold stN at h
  dsimp only at h
  rw [if_pos q] at h
  obtain ⟨l,hM,hv⟩:=hz.v
  refine ⟨l,hM,by omega,by omega,y,hs.2 0 y rfl,?_⟩
  rw [hv]
  refine c5o hz (hr.2 0 y u rfl rfl) hf.2 g _ _ _ (hb.mono (by omega)) (by omega) (fun o ho=>?_) fun ho=>?_
  ·rw [ho] at h;exact h
  ·rw [ho] at h;exact h
 ·obtain rfl:us=[]:=List.length_eq_zero_iff.1 (by omega)
  obtain rfl:vs=[]:=List.length_eq_zero_iff.1 (by omega)
  obtain rfl:ws=[]:=List.length_eq_zero_iff.1 (by omega)
  obtain ⟨u,v,rfl⟩:=a3I (l:=ts) (by omega)
  obtain ⟨y,y2,rfl⟩:=a3I (l:=xs) (by omega)
  simp only [List.nil_append,List.append_nil,formTs,Bool.and_true,Bool.and_eq_true,cTs] at hf hb h1
  simp only [List.nil_append,List.append_nil,List.map_cons,List.map_nil] at h
  unfold stN at h
  dsimp only at h
  rw [if_neg n1,if_pos q] at h
  obtain ⟨l,hM,hv⟩:=hz.a
  have e1:=hr.2 0 y u rfl rfl
  have e2:=hr.2 1 y2 v rfl rfl
  have c1:=G6 u;have c2:=G6 v
  refine a7R ⟨l,hM,?_⟩
  rw [hv]
  refine c0J hz hs e1 e2 hf.2.1 hf.2.2 (b3b hz e1 hf.2.1) (b3b hz e2 hf.2.2) g a 0 (hb.mono (by omega)) (by omega) (by omega) (a6r z _ _ ?_ h)
  exact hb.go (b5k (a2B L u) (a2B L v) a 0 g) (by omega)
 ·obtain rfl:ts=[]:=List.length_eq_zero_iff.1 (by omega)
  obtain ⟨u,rfl⟩:=V4 (l:=us) (by omega)
  obtain ⟨y,rfl⟩:=V4 (l:=ys) (by omega)
  have e1:=hry.2 0 y u rfl rfl
  simp only [List.nil_append,List.cons_append,formTs,Bool.and_eq_true,cTs,a6q,U5,List.length_cons,List.length_nil] at hf hb h1 hm
  simp only [List.nil_append,List.cons_append,List.map_cons] at h
  unfold stN at h
  dsimp only at h
  have et:((vs++ws).map (loT L)).take vs.length=vs.map (loT L):=by rw [List.map_append,← List.length_map (f:=loT L),List.take_left'];rfl
  have ed:((vs++ws).map (loT L)).drop vs.length=ws.map (loT L):=by rw [List.map_append,← List.length_map (f:=loT L),List.drop_left'];rfl
  rw [if_neg n1,if_neg n2,if_pos q,et,ed] at h
  have c1:=G6 u
  have l1:=a9j (vs.map (loT L)) tg g
  generalize hy1:begG (vs.map (loT L)) tg g=r1 at h l1
  have l2:=a9j (ws.map (loT L)) tg r1.2
  generalize hy2:begG (ws.map (loT L)) tg r1.2=r2 at h l2
  have l3:=(a2B L u).co a r1.1 r2.1 r2.2
  have l4:=b2b (b4C L vs) r1.1 tg ((loT L u).co a r1.1 r2.1 r2.2)
  have ba:Bd (4*cT u-1) r2.2:=hb.go (l1.trans l2) (by omega)
  have bb:Bd (4*cTs vs) ((loT L u).co a r1.1 r2.1 r2.2):=hb.go ((l1.trans l2).trans l3) (by omega)
  have bc:Bd (4*cTs ws) (blkG (vs.map (loT L)) r1.1 tg ((loT L u).co a r1.1 r2.1 r2.2)):=hb.go (((l1.trans l2).trans l3).trans l4) (by omega)
  have bd:Bd 1 r1.2:=hb.go l1 (by omega)
  refine b4E z g (fs:=vs.map (loT L)) (by rw [List.length_map];omega) tg b0 (by omega) ?_
  rw [hy1]
  refine b4E z r1.2 (fs:=ws.map (loT L)) (by rw [List.length_map];omega) tg bd.p0 bd.p1 ?_
  rw [hy2]
  refine ⟨by omega,by omega,y,hy.2 0 y rfl,b5l hz e1 hf.2.1 r2.2 _ _ _ _ ba (by omega) ?_⟩
  refine b4a hz1 hzl (fun i x t hx ht=>ih1 i x t hx ht (a5Z hf.2.2.1 ht)) _ _ _ bb (by omega) ?_
  exact b4a hw1 hwl (fun i x t hx ht=>ih2 i x t hx ht (a5Z hf.2.2.2 ht)) _ _ _ bc (by omega) h
 ·obtain rfl:ts=[]:=List.length_eq_zero_iff.1 (by omega)
  obtain rfl:ws=[]:=List.length_eq_zero_iff.1 (by omega)
  obtain ⟨u,rfl⟩:=V4 (l:=us) (by omega)
  obtain ⟨y,rfl⟩:=V4 (l:=ys) (by omega)
  have e1:=hry.2 0 y u rfl rfl
  simp only [List.nil_append,List.append_nil,List.cons_append,formTs,Bool.and_eq_true,cTs,List.length_cons,List.length_nil] at hf hb h1 hm
  simp only [List.nil_append,List.append_nil,List.cons_append,List.map_cons] at h
  unfold stN at h
  dsimp only at h
  rw [if_neg n1,if_neg n2,if_neg n3,if_pos q] at h
  have c1:=G6 u
  have l1:=a9j (vs.map (loT L)) a g
  generalize hy1:begG (vs.map (loT L)) a g=r1 at h l1
  have l3:=(a2B L u).co a r1.1 tg r1.2
  have ba:Bd (4*cT u-1) r1.2:=hb.go l1 (by omega)
  have bb:Bd (4*cTs vs) ((loT L u).co a r1.1 tg r1.2):=hb.go (l1.trans l3) (by omega)
  refine b4E z g (fs:=vs.map (loT L)) (by rw [List.length_map];omega) a b0 (by omega) ?_
  rw [hy1]
  refine ⟨by omega,by omega,y,hy.2 0 y rfl,b5l hz e1 hf.2.1 r1.2 _ _ _ _ ba (by omega) ?_⟩
  exact b4a hz1 hzl (fun i x t hx ht=>ih1 i x t hx ht (a5Z hf.2.2 ht)) _ _ _ bb (by omega) h
 ·obtain rfl:ts=[]:=List.length_eq_zero_iff.1 (by omega)
  obtain rfl:vs=[]:=List.length_eq_zero_iff.1 (by omega)
  obtain rfl:ws=[]:=List.length_eq_zero_iff.1 (by omega)
  obtain ⟨u,rfl⟩:=V4 (l:=us) (by omega)
  obtain ⟨y,rfl⟩:=V4 (l:=ys) (by omega)
  have e1:=hry.2 0 y u rfl rfl
  simp only [List.append_nil,formTs,Bool.and_true,cTs,List.length_cons,List.length_nil] at hf hb h1 hm
  simp only [List.append_nil,List.map_cons,List.map_nil] at h
  unfold stN at h
  dsimp only at h
  rw [if_neg n1,if_neg n2,if_neg n3,if_neg n4,if_pos q] at h
  have c1:=G6 u
  have l1:=(a6M g).trans (a6M (frG g))
  have l2:=l1.trans ((a2B L u).co a g.p (g.p+1) (frG (frG g)))
  refine a7A z g b0 (by omega) (a7A z (frG g) (by dsimp only;omega) (by dsimp only;omega) ⟨by omega,by omega,y,hy.2 0 y rfl,b5l hz e1 hf.2 (frG (frG g)) _ _ _ _ ?_ (by omega) (a7R (a6r z _ _ ?_ (a7R (a6r z _ _ ?_ h))))⟩)
  ·exact hb.go l1 (by omega)
  ·exact hb.go l2 (by omega)
  ·exact hb.go (l2.trans (a5Y ..)) (by omega)
 ·obtain rfl:ts=[]:=List.length_eq_zero_iff.1 (by omega)
  obtain rfl:vs=[]:=List.length_eq_zero_iff.1 (by omega)
  obtain rfl:ws=[]:=List.length_eq_zero_iff.1 (by omega)
  obtain ⟨u,rfl⟩:=V4 (l:=us) (by omega)
  obtain ⟨y,rfl⟩:=V4 (l:=ys) (by omega)
  have e1:=hry.2 0 y u rfl rfl
  simp only [List.append_nil,formTs,Bool.and_true,cTs,List.length_cons,List.length_nil] at hf hb h1 hm
  simp only [List.append_nil,List.map_cons,List.map_nil] at h
  unfold stN at h
  dsimp only at h
  rw [if_neg n1,if_neg n2,if_neg n3,if_neg n4,if_neg n5,if_pos q,hz.ex] at h
  exact ⟨by omega,by omega,y,hy.2 0 y rfl,b5l hz e1 hf.2 g _ _ _ _ (hb.mono (by omega)) (by omega) h⟩
 ·obtain rfl:us=[]:=List.length_eq_zero_iff.1 (by omega)
  obtain rfl:ts=[]:=List.length_eq_zero_iff.1 (by omega)
  obtain rfl:vs=[]:=List.length_eq_zero_iff.1 (by omega)
  obtain rfl:ws=[]:=List.length_eq_zero_iff.1 (by omega)
  exact a7R (a6r z g _ (hb.mono (by omega)) h)
end
end Go.Proofs.YtaokfhdinhimfaaGreatDoor
