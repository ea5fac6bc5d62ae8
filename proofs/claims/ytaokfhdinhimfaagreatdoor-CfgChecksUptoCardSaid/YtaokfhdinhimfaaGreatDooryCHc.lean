/- The document's walks over graphs, and what holds graphs and rows against each other. Contracts off the printed formulas. -/
import Derived.Test.YtaokfhdinhimfaaGreatDooryCH9
namespace Go.Proofs.YtaokfhdinhimfaaGreatDoor
open Go.RowKit
set_option maxRecDepth 100000
set_option maxHeartbeats 2000000
section
variable {H:Hp}{c:d4}{vs:List ByteArray}{ds:List j8}{es:List c8}{sf:Sl}
theorem c4p(G:GH H c vs ds es)(F:FromH H c.c6 es sf)(hp:c.c6≤4096)(hes:es.length≤8192)(ha:es.all (edgeS c)=true):∀(f:Nat)(p:Int)(s:Dv)(K:m9→List Bool→List Int→Hp→Prop),(s.b.length:Int)=c.c6→0≤p→s.b[p.toNat]? = some false→cF s.b≤f→s.d.length+cF s.b≤8192→
  K ⟨c,sf,nSl,nSl⟩ (vis es f p s).b (vis es f p s).d H→T1 ⟨c,sf,nSl,nSl⟩ s.b s.d p H K:=by
 intro f
 induction f with
 | zero=>intro p s K hn h0 hb hc hd h;have:=a8L hb;omega
 | succ f ih=>
  intro p s K hn h0 hb hc hd h
  refine a7Y _ _ _ _ ?_
  unfold a0N
  have hlt:=M3 hb
  obtain ⟨si,hE,hS⟩:=F.row p h0 (by omega)
  have hsn:=hS.1
  have hne:=G.e.1
  have hcs:=a8L hb
  have hil:(idxS p 0 es).length≤8192:=by rw [a4q];exact Nat.le_trans (a5s es p) hes
  refine ⟨h0,false,hb,?_⟩
  rw [vis] at h
  generalize hs1:(⟨s.b.set p.toNat true,s.d⟩:Dv)=s1 at h
  have e1:s.b.set p.toNat true=s1.b:=by rw [←hs1]
  have e2:s.d=s1.d:=by rw [←hs1]
  have hn1:s1.b.length=s.b.length:=by rw [←e1,List.length_set]
  have hc1:cF s1.b+1=cF s.b:=by rw [←e1];exact hcs
  rw [e1,e2]
  rw [e2] at hd
  refine G9 (fun st H'=>H'=H∧∃(j:Nat)(s':Dv),j≤(idxS p 0 es).length∧st=((j:Int),c,sf,s'.b,s'.d)∧Kp s1 s'∧visL (vis es f) es ((idxS p 0 es).drop j) s'=visL (vis es f) es (idxS p 0 es) s1) (fun st=>(idxS p 0 es).length-st.1.toNat)
   ⟨rfl,0,s1,Nat.zero_le _,rfl,Kp.refl _,by rw [List.drop_zero]⟩ ?_
  rintro st H1 next ⟨rfl,j,s',hj,rfl,hk,hv⟩ hnx
  dsimp only
  unfold Q0
  obtain ⟨kn,kc,kd⟩:=hk
  refine ⟨h0,by have:=F.n;omega,si,hE,fun q=>?_,fun q=>?_⟩
  ·obtain ⟨i,hi⟩:=A6 (l:=idxS p 0 es) (i:=j) (by omega)
   obtain ⟨i0,i1,e,he,_⟩:=a8e p 0 es j i hi
   rw [Int.sub_zero] at he
   obtain ⟨t1,t2,t3⟩:=b5s ha he
   have hEe:=G.e.2 i.toNat e he
   rw [Int.toNat_of_nonneg i0] at hEe
   have hdrop:(idxS p 0 es).drop j=i::(idxS p 0 es).drop (j+1):=by
    obtain ⟨hlt,heq⟩:=List.getElem?_eq_some_iff.1 hi
    rw [List.drop_eq_getElem_cons hlt,heq]
   rw [hdrop,visL,t1] at hv
   have ej:IntKind.wrap .i64 ((j:Int)+1)=((j+1:Nat):Int):=by rw [v6 (by omega) (by omega)];omega
   obtain ⟨x,hx⟩:=A6 (l:=s'.b) (i:=e.fTo.toNat) (by omega)
   have hxd:s'.b.getD e.fTo.toNat true=x:=by rw [List.getD_eq_getElem?_getD,hx];rfl
   refine ⟨by omega,by omega,i,hS.2 j i hi,i0,by omega,e,hEe,t2,x,hx,fun hq=>?_,fun hq=>?_⟩
   ·obtain rfl:x=false:=by simpa using hq
    rw [if_neg (by rw [hxd];decide)] at hv
    have kv:=b3b es f e.fTo s' hx
    refine ih e.fTo s' _ (by omega) t2 hx (by omega) (by omega) ?_
    unfold G4
    rw [ej]
    exact hnx _ _ ⟨rfl,j+1,vis es f e.fTo s',by omega,rfl,Kp.trans ⟨kn,kc,kd⟩ kv,hv⟩ (by dsimp only;omega)
   ·obtain rfl:x=true:=by simpa using hq
    rw [if_pos hxd] at hv
    unfold G4
    rw [ej]
    exact hnx _ _ ⟨rfl,j+1,s',by omega,rfl,⟨kn,kc,kd⟩,hv⟩ (by dsimp only;omega)
  ·obtain rfl:j=(idxS p 0 es).length:=by omega
   rw [List.drop_length,visL] at hv
   rw [←hv] at h
   unfold P9
   exact ⟨by simp only [List.length_cons,List.length_nil];omega,h⟩
theorem b9s(G:GH H c vs ds es)(p1:1≤c.c6)(p2:c.c6≤4096)(pe:es.length≤8192)(ha:es.all (edgeS c)=true){K:m9→Hp→Prop}(h:∀so sb sd H',Hle H H'→SlH H' 1 E5 sb (wkS c.c6 es).b→SlH H' 1 o3 sd (wkS c.c6 es).d→K ⟨c,so,sb,sd⟩ H'):a0k c H K:=by
 have hk:=b5t (es:=es) p1
 obtain ⟨kn,kc,kd⟩:=hk
 simp only [List.length_replicate,List.length_nil,a7E] at kn kc kd
 have j1:L1 c (List.replicate c.c6.toNat ([]:List Int)) (List.replicate c.c6.toNat false) [] c H K:=by
  unfold L1
  have ne:=G.e.1
  refine G9 (fun(s:Int×d4×List (List Int)) H'=>0≤s.1∧s.1≤es.length∧H'=H∧s.2.1=c∧RowsAt c.c6 (fun p=>idxS p 0 (es.take s.1.toNat)) s.2.2) (fun s=>(es.length-s.1).toNat)
   ⟨by simp,by simp,rfl,rfl,RowsAt.start (by omega) fun p=>rfl⟩ ?_
  rintro ⟨i,cc,xss⟩ H2 next ⟨i0,i1,rfl,hcc,hr⟩ hn
  dsimp only at i0 i1 hr hcc ⊢
  subst hcc
  unfold W2
  refine ⟨fun hc=>?_,fun hc=>?_⟩
  ·obtain ⟨e,he,hE⟩:=G.e.get i0 (show i < (cc.m4.n:Int) by omega)
   obtain ⟨f0,f1⟩:=a6A (List.all_eq_true.1 ha e (List.mem_of_getElem? he))
   have tk:es.take (i+1).toNat=es.take i.toNat++[e]:=by
    rw [show (i+1).toNat=i.toNat+1 by omega];exact J0 he
   have hlt:((es.take i.toNat).length:Int)=i:=by rw [List.length_take];omega
   obtain ⟨xs,hx,hxe,hr2⟩:=hr.put (g:=fun p=>idxS p 0 (es.take (i+1).toNat)) f0 f1 (x:=i) (fun p=>by rw [tk,b0m,hlt,Int.zero_add])
   have hxl:xs.length≤8192:=by
    rw [hxe,a4q]
    have:=a5s (es.take i.toNat) e.o4
    rw [List.length_take] at this
    omega
   refine ⟨i0,by omega,e,hE,f0,xs,hx,by simp;omega,?_⟩
   rw [v6 i0 (by omega)]
   exact hn _ _ ⟨by dsimp only;omega,by dsimp only;omega,rfl,rfl,hr2⟩ (by dsimp only;omega)
  ·have htk:es.take i.toNat=es:=List.take_of_length_le (by omega)
   rw [htk] at hr
   unfold W1
   intro sf H3 l3 hs _
   have F:=FromH.of hr hs
   refine c4p (G.le l3) F p2 pe ha cc.c6.toNat 0 ⟨List.replicate cc.c6.toNat false,[]⟩ _ (by simp only [List.length_replicate];omega) (by omega) (by
    simp only [show (0:Int).toNat=0 from rfl]
    rw [List.getElem?_replicate,if_pos (by omega)]) (by simp only [a7E];omega) (by simp only [a7E,List.length_nil];omega) ?_
   intro sb H4 l4 hb _ sd H5 l5 hd _
   exact h sf sb sd H5 (l3.trans (l4.trans l5)) (hb.le l5) hd
 refine a9I _ ?_
 unfold a3r
 exact ⟨⟨by omega,by omega,by omega,by omega,j1⟩,by omega,by omega,by omega,by omega,j1⟩
theorem b9M(G:GH H c vs ds es)(p1:1≤c.c6)(p2:c.c6≤4096)(pe:es.length≤8192)(ha:es.all (edgeS c)=true){K:Sl→Hp→Prop}(h:∀s H',Hle H H'→SlH H' 1 E5 s (wkS c.c6 es).b→K s H'):a1f c H K:=by
 refine a8v _ ?_
 unfold a1p
 exact b9s G p1 p2 pe ha fun so sb sd H' l hb _=>h sb H' l hb
theorem b6O(G:GH H c vs ds es)(p1:1≤c.c6)(p2:c.c6≤4096)(pe:es.length≤8192)(ha:es.all (edgeS c)=true){K:Sl→Hp→Prop}(h:∀s H',Hle H H'→SlH H' 1 o3 s (ordS c.c6 es)→K s H'):Z5 c H K:=by
 refine a9s _ ?_
 unfold a2V
 have hk:=b5t (es:=es) p1
 obtain ⟨kn,kc,kd⟩:=hk
 simp only [List.length_replicate,List.length_nil,a7E] at kn kc kd
 refine b9s G p1 p2 pe ha fun so sb sd H1 l1 hb hd=>?_
 have hdn:=hd.1
 have hbn:=hb.1
 have hlast:K=K:=rfl
 rw [show IntKind.wrap .i64 ((sd.n:Int)-1)=((wkS c.c6 es).d.length:Int)-1 by rw [V6 ⟨by omega,by omega⟩];omega]
 refine G9 (fun st H'=>H'=H1∧∃i:Nat,i≤(wkS c.c6 es).d.length∧st=(((wkS c.c6 es).d.drop i).reverse,(i:Int)-1)) (fun st=>(st.2+1).toNat) ⟨rfl,(wkS c.c6 es).d.length,Nat.le_refl _,by rw [List.drop_length];rfl⟩ ?_
 rintro st H2 next ⟨rfl,i,hi,rfl⟩ hnx
 dsimp only
 unfold V1
 refine ⟨fun q=>?_,fun q=>?_⟩
 ·obtain ⟨i,rfl⟩:∃k,i=k+1:=⟨i-1,by omega⟩
  obtain ⟨x,hx⟩:=A6 (l:=(wkS c.c6 es).d) (i:=i) (by omega)
  have hdrop:(wkS c.c6 es).d.drop i=x::(wkS c.c6 es).d.drop (i+1):=by
   obtain ⟨hlt,heq⟩:=List.getElem?_eq_some_iff.1 hx
   rw [List.drop_eq_getElem_cons hlt,heq]
  have ei:((i+1:Nat):Int)-1=(i:Int):=by omega
  rw [ei]
  refine ⟨by omega,by dsimp only;omega,x,hd.2 i x hx,by simp only [List.length_reverse,List.length_drop,List.length_cons,List.length_nil];omega,?_⟩
  rw [V6 ⟨by omega,by omega⟩]
  refine hnx _ _ ⟨rfl,i,by omega,?_⟩ (by dsimp only;omega)
  rw [hdrop,List.reverse_cons]
 obtain rfl:i=0:=by omega
 unfold V0
 rw [List.drop_zero]
 refine G9 (fun st H'=>H'=H2∧∃i:Nat,i≤c.c6.toNat∧st=((wkS c.c6 es).d.reverse++newS (wkS c.c6 es).b i,(i:Int))) (fun st=>c.c6.toNat-st.2.toNat) ⟨rfl,0,by omega,by simp [newS]⟩ ?_
 rintro st H3 next2 ⟨rfl,i,hi,rfl⟩ hnx2
 dsimp only
 unfold U9
 refine ⟨fun q=>?_,fun q=>?_⟩
 ·obtain ⟨x,hx⟩:=A6 (l:=(wkS c.c6 es).b) (i:=i) (by omega)
  have hxd:(wkS c.c6 es).b.getD i true=x:=by rw [List.getD_eq_getElem?_getD,hx];rfl
  have hnl:=b4z (wkS c.c6 es).b i
  have hs:=b6M (wkS c.c6 es).b i
  have ei:IntKind.wrap .i64 ((i:Int)+1)=((i+1:Nat):Int):=by rw [v6 (by omega) (by omega)];omega
  refine ⟨by omega,by dsimp only;omega,x,hb.2 i x hx,fun hq=>⟨?_,?_⟩,fun hq=>?_⟩
  ·simp only [List.length_append,List.length_reverse,List.length_cons,List.length_nil];omega
  ·obtain rfl:x=false:=by simpa using hq
   rw [if_neg (by rw [hxd];decide)] at hs
   unfold K9
   rw [ei,List.append_assoc,← hs]
   exact hnx2 _ _ ⟨rfl,i+1,by omega,rfl⟩ (by dsimp only;omega)
  ·obtain rfl:x=true:=by simpa using hq
   rw [if_pos hxd,List.append_nil] at hs
   unfold K9
   rw [ei,← hs]
   exact hnx2 _ _ ⟨rfl,i+1,by omega,rfl⟩ (by dsimp only;omega)
 ·obtain rfl:i=c.c6.toNat:=by omega
  unfold U8
  intro s H4 l4 hs _
  exact h s H4 (l1.trans l4) hs
theorem c3e(G:GH H c vs ds es)(p1:1≤c.c6)(p2:c.c6≤4096)(pe:es.length≤8192)(ha:es.all (edgeS c)=true){K:Sl→Hp→Prop}(h:∀s H',Hle H H'→SlH H' 1 o3 s (headsS c.c6 es)→K s H'):a2v c H K:=by
 refine a9i _ ?_
 unfold a2H
 have hin:=c3c ha p1
 have hol:=b6s (es:=es) p1 p2
 refine ⟨by omega,by omega,b6O G p1 p2 pe ha fun so H2 l2 hso=>⟨by omega,by omega,?_⟩⟩
 have hon:=hso.1
 have G2:=G.le l2
 have hne:=G2.e.1
 refine G9 (fun st H'=>H'=H2∧∃i:Nat,i≤(ordS c.c6 es).length∧st=(rkU (ordS c.c6 es) c.c6.toNat i,(i:Int))) (fun st=>(ordS c.c6 es).length-st.2.toNat) ⟨rfl,0,Nat.zero_le _,rfl⟩ ?_
 rintro st H3 next ⟨rfl,i,hi,rfl⟩ hnx
 dsimp only
 unfold T8
 refine ⟨fun q=>?_,fun q=>?_⟩
 ·obtain ⟨x,hx⟩:=A6 (l:=ordS c.c6 es) (i:=i) (by omega)
  obtain ⟨x0,x1⟩:=hin x (List.mem_of_getElem? hx)
  obtain ⟨y,hy⟩:=A6 (l:=rkU (ordS c.c6 es) c.c6.toNat i) (i:=x.toNat) (by rw [b1s];omega)
  refine ⟨by omega,by omega,x,hso.2 i x hx,x0,y,hy,?_⟩
  rw [show IntKind.wrap .i64 ((i:Int)+1)=((i+1:Nat):Int) by rw [v6 (by omega) (by omega)];omega]
  refine hnx _ _ ⟨rfl,i+1,by omega,?_⟩ (by dsimp only;omega)
  rw [b4B,Z2 hx]
 obtain rfl:i=(ordS c.c6 es).length:=by omega
 unfold T7
 have hrk:rkU (ordS c.c6 es) c.c6.toNat (ordS c.c6 es).length=rankS c.c6 es:=rfl
 rw [hrk]
 have hrl:(rankS c.c6 es).length=c.c6.toNat:=b1s ..
 refine G9 (fun st H'=>H'=H3∧∃i:Nat,i≤es.length∧st=(hdU es (rankS c.c6 es) c.c6.toNat i,(i:Int))) (fun st=>es.length-st.2.toNat) ⟨rfl,0,Nat.zero_le _,rfl⟩ ?_
 rintro st H4 next2 ⟨rfl,i,hi2,rfl⟩ hnx2
 dsimp only
 unfold T6
 refine ⟨fun q2=>?_,fun q2=>?_⟩
 ·obtain ⟨ed,hed⟩:=A6 (l:=es) (i:=i) (by omega)
  have hal:=List.all_eq_true.1 ha ed (List.mem_of_getElem? hed)
  have hf:=a6A hal
  have ht:0≤ed.fTo∧ed.fTo < c.c6:=by
   unfold edgeS within at hal
   simp only [Bool.and_eq_true,decide_eq_true_eq] at hal
   exact hal.1.1.1.2
  obtain ⟨b,hb⟩:=A6 (l:=hdU es (rankS c.c6 es) c.c6.toNat i) (i:=ed.fTo.toNat) (by rw [b3P];omega)
  obtain ⟨x,hx⟩:=A6 (l:=rankS c.c6 es) (i:=ed.o4.toNat) (by omega)
  obtain ⟨y,hy⟩:=A6 (l:=rankS c.c6 es) (i:=ed.fTo.toNat) (by omega)
  have ei:IntKind.wrap .i64 ((i:Int)+1)=((i+1:Nat):Int):=by rw [v6 (by omega) (by omega)];omega
  have hs:=b9q (rk:=rankS c.c6 es) (P:=c.c6.toNat) hed
  rw [Z2 hb,Z2 hx,Z2 hy] at hs
  refine ⟨by omega,by omega,ed,G2.e.2 i ed hed,hf.1,x,hx,ht.1,y,hy,fun hq=>⟨ht.1,b,hb,?_⟩,fun hq=>?_⟩
  ·rw [decide_eq_true hq,Bool.or_true] at hs
   unfold K6
   rw [ei,← hs]
   exact hnx2 _ _ ⟨rfl,i+1,by omega,rfl⟩ (by dsimp only;omega)
  ·rw [decide_eq_false hq,Bool.or_false,b7z hb] at hs
   unfold K6
   rw [ei,← hs]
   exact hnx2 _ _ ⟨rfl,i+1,by omega,rfl⟩ (by dsimp only;omega)
 obtain rfl:i=es.length:=by omega
 unfold T5
 have hhd:hdU es (rankS c.c6 es) c.c6.toNat es.length=headS c.c6 es:=rfl
 rw [hhd]
 have hhl:(headS c.c6 es).length=c.c6.toNat:=b3P ..
 refine G9 (fun st H'=>H'=H4∧∃i:Nat,i≤c.c6.toNat∧st=(yesS (headS c.c6 es) i,(i:Int))) (fun st=>c.c6.toNat-st.2.toNat) ⟨rfl,0,Nat.zero_le _,rfl⟩ ?_
 rintro st H5 next3 ⟨rfl,i,hi3,rfl⟩ hnx3
 dsimp only
 unfold T4
 refine ⟨fun q3=>?_,fun q3=>?_⟩
 ·obtain ⟨b,hb⟩:=A6 (l:=headS c.c6 es) (i:=i) (by omega)
  have hs:=b6N (headS c.c6 es) i
  have hyl:=b4C (headS c.c6 es) i
  rw [Z2 hb] at hs
  have ei:IntKind.wrap .i64 ((i:Int)+1)=((i+1:Nat):Int):=by rw [v6 (by omega) (by omega)];omega
  refine ⟨by omega,b,hb,fun hq=>⟨by simp only [List.length_cons,List.length_nil];omega,?_⟩,fun hq=>?_⟩
  ·rw [if_pos hq] at hs
   unfold K7
   rw [ei,← hs]
   exact hnx3 _ _ ⟨rfl,i+1,by omega,rfl⟩ (by dsimp only;omega)
  ·rw [if_neg (by rw [hq];decide),List.append_nil] at hs
   unfold K7
   rw [ei,← hs]
   exact hnx3 _ _ ⟨rfl,i+1,by omega,rfl⟩ (by dsimp only;omega)
 obtain rfl:i=c.c6.toNat:=by omega
 unfold T3
 intro s H6 l6 hs _
 exact h s H6 (l2.trans l6) hs
theorem c6N(G:GH H c vs ds es)(pe:es.length≤8192){p:Int}{K:Sl→Hp→Prop}(h:∀s H',Hle H H'→SlH H' 1 o3 s (idxS p 0 es)→K s H'):a0w c p H K:=by
 refine b0q _ _ ?_
 unfold a3U
 have hne:=G.e.1
 refine G9 (fun st H'=>H'=H∧∃i:Nat,i≤es.length∧st=(idxS p 0 (es.take i),(i:Int))) (fun st=>es.length-st.2.toNat) ⟨rfl,0,Nat.zero_le _,rfl⟩ ?_
 rintro st H1 next ⟨rfl,i,hi,rfl⟩ hnx
 dsimp only
 unfold X7
 refine ⟨fun q=>?_,fun q=>?_⟩
 ·obtain ⟨e,he⟩:=A6 (l:=es) (i:=i) (by omega)
  have hs:=b0m p e 0 (es.take i)
  rw [←J0 he,List.length_take,Nat.min_eq_left (by omega),Int.zero_add] at hs
  have hl:(idxS p 0 (es.take i)).length≤8192:=by
   rw [a4q]
   have:=a5s (es.take i) p
   rw [List.length_take] at this
   omega
  have ei:IntKind.wrap .i64 ((i:Int)+1)=((i+1:Nat):Int):=by rw [v6 (by omega) (by omega)];omega
  refine ⟨by omega,by omega,e,G.e.2 i e he,fun hq=>⟨by simp only [List.length_cons,List.length_nil];omega,?_⟩,fun hq=>?_⟩
  ·rw [if_pos hq] at hs
   unfold L6
   rw [ei,← hs]
   exact hnx _ _ ⟨rfl,i+1,by omega,rfl⟩ (by dsimp only;omega)
  ·rw [if_neg hq,List.append_nil] at hs
   unfold L6
   rw [ei,← hs]
   exact hnx _ _ ⟨rfl,i+1,by omega,rfl⟩ (by dsimp only;omega)
 ·obtain rfl:i=es.length:=by omega
  unfold X6
  rw [List.take_length]
  intro s H2 l2 hs _
  exact h s H2 l2 hs
theorem c1s(G:GH H c vs ds es){K:d4→Hp→Prop}(h:∀c' H',Hle H H'→GH H' c' vs ds es→c'.m3=c.m3→c'.c6=c.c6→c'.p9=c.p9→K c' H'):a1g c H K:=by
 refine a8A _ ?_
 unfold a1t
 have bv:=G.bv;have ba:=G.ba;have be:=G.be
 refine ⟨vs,G.v,by simp only [List.length_nil];omega,ds,G.a,by simp only [List.length_nil];omega,es,G.e,by simp only [List.length_nil];omega,?_⟩
 intro s1 H1 l1 h1 _ s2 H2 l2 h2 _ s3 H3 l3 h3 _
 exact h _ H3 (l1.trans (l2.trans l3)) ⟨h1.le (l2.trans l3),h2.le l3,h3,bv,ba,be,G.bt⟩ rfl rfl rfl
theorem b6t{s s':Sl}{xs:List Int}(h1:SlH H 1 o3 s xs)(h2:SlH H 1 o3 s' xs)(hb:xs.length≤1099511627776){K:Bool→Hp→Prop}(h:K true H):N6 s s' H K:=by
 refine a9J _ _ ?_
 unfold a3s
 have n1:=h1.1;have n2:=h2.1
 refine ⟨fun e=>(e (by omega)).elim,fun _=>?_⟩
 refine G9 (fun st H'=>H'=H∧∃i:Nat,i≤xs.length∧st=(i:Int)) (fun st=>xs.length-st.toNat) ⟨rfl,0,Nat.zero_le _,rfl⟩ ?_
 rintro st H1 next ⟨rfl,i,hi,rfl⟩ hnx
 unfold a1m
 refine ⟨fun q=>?_,fun q=>?_⟩
 ·obtain ⟨x,hx⟩:=A6 (l:=xs) (i:=i) (by omega)
  refine ⟨by omega,by omega,x,h1.2 i x hx,by omega,by omega,x,h2.2 i x hx,fun e=>(e rfl).elim,fun _=>?_⟩
  rw [v6 (by omega) (by omega)]
  exact hnx _ _ ⟨rfl,i+1,by omega,rfl⟩ (by omega)
 ·exact h
theorem b5v{c c':d4}(G:GH H c vs ds es)(G':GH H c' vs ds es)(e1:c.m3=c'.m3)(e2:c.c6=c'.c6)(e3:c.p9=c'.p9){K:Bool→Hp→Prop}(h:K true H):a0v c c' H K:=by
 refine b0p _ _ ?_
 unfold a3T
 have bv:=G.bv;have ba:=G.ba;have be:=G.be
 have n1:=G.e.1;have n2:=G'.e.1
 refine c4b G.v G'.v (by simp only [big];omega) ⟨fun _=>c4i G.a G'.a (by simp only [big];omega) ?_,fun e=>?_⟩
 ·refine ⟨fun q=>?_,fun _=>?_⟩
  ·exfalso
   simp [e1,e2,e3] at q;omega
  refine G9 (fun st H'=>H'=H∧∃i:Nat,i≤es.length∧st=(i:Int)) (fun st=>es.length-st.toNat) ⟨rfl,0,Nat.zero_le _,rfl⟩ ?_
  rintro st H1 next ⟨rfl,i,hi,rfl⟩ hnx
  unfold a1Z
  refine ⟨fun q=>?_,fun q=>?_⟩
  ·obtain ⟨x,hx⟩:=A6 (l:=es) (i:=i) (by omega)
   refine ⟨by omega,by omega,x,G.e.2 i x hx,by omega,by omega,x,G'.e.2 i x hx,fun e=>(e ⟨rfl,rfl,rfl,rfl,rfl,rfl,rfl,rfl,rfl,rfl⟩).elim,fun _=>?_⟩
   rw [v6 (by omega) (by omega)]
   exact hnx _ _ ⟨rfl,i+1,by omega,rfl⟩ (by omega)
  ·exact h
 ·exfalso
  simp [e1] at e
theorem c3f{c c':d4}(G:GH H c vs ds es){H':Hp}(G':GH H' c' vs ds es)(e1:c'.m3=c.m3)(e2:c'.c6=c.c6)(e3:c'.p9=c.p9):checkS c' vs ds es=checkS c vs ds es:=by
 have hv:c'.p5.n=c.p5.n:=by rw [G.v.1,G'.v.1]
 have hd:c'.m2.n=c.m2.n:=by rw [G.a.1,G'.a.1]
 have hall:allS c'=allS c:=by unfold allS;rw [hv,e1]
 have hed:edgeS c'=edgeS c:=by funext e;unfold edgeS;rw [hall,e2,e3,hd]
 unfold checkS varsS pointsS gformS forksS
 rw [hed,e1,e2,e3]
end
end Go.Proofs.YtaokfhdinhimfaaGreatDoor
