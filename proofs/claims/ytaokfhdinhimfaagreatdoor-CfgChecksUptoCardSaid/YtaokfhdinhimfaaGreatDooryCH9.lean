/- What of a graph is reached, its heads: the program's answers are the plain ones. Contracts off the printed formulas. -/
import Derived.Test.YtaokfhdinhimfaaGreatDooryCH8
namespace Go.Proofs.YtaokfhdinhimfaaGreatDoor
open Go.RowKit
set_option maxRecDepth 100000
set_option maxHeartbeats 2000000
theorem c6M{c:d4}{es:List c8}(ha:es.all (edgeS c)=true)(h1:1≤c.c6)(i:Int):0≤toS es i∧toS es i < c.c6:=by
 cases h:es[i.toNat]? with
 | none=>unfold toS;rw [h];exact ⟨Int.le_refl _,by show (0:Int) < _;omega⟩
 | some e=>have:=b5s ha h;rw [this.1];exact this.2
theorem c4o{P:Int}{v:Int→Dv→Dv}{es:List c8}(ht:∀i,0≤toS es i∧toS es i < P)(hv:∀q s,0≤q→q < P→(∀x∈s.d,0≤x∧x < P)→∀x∈(v q s).d,0≤x∧x < P):∀(l:List Int)(s:Dv),(∀x∈s.d,0≤x∧x < P)→∀x∈(visL v es l s).d,0≤x∧x < P
 | [],s,h=>by rw [visL];exact h
 | i::l,s,h=>by
  rw [visL]
  split
  ·exact c4o ht hv l s h
  ·exact c4o ht hv l _ (hv _ _ (ht i).1 (ht i).2 h)
theorem c3b{P:Int}{es:List c8}(ht:∀i,0≤toS es i∧toS es i < P):∀(f:Nat)(p:Int)(s:Dv),0≤p→p < P→(∀x∈s.d,0≤x∧x < P)→∀x∈(vis es f p s).d,0≤x∧x < P
 | 0,p,s,_,_,h=>by rw [vis];exact h
 | f+1,p,s,h0,h1,h=>by
  rw [vis]
  intro x hx
  rcases List.mem_append.1 hx with hx | hx
  ·exact c4o ht (c3b ht f) _ ⟨s.b.set p.toNat true,s.d⟩ h x hx
  ·rw [List.mem_singleton] at hx;subst hx;exact ⟨h0,h1⟩
theorem c3c{c:d4}{es:List c8}(ha:es.all (edgeS c)=true)(h1:1≤c.c6):∀x∈ordS c.c6 es,0≤x∧x < c.c6:=by
 intro x hx
 unfold ordS at hx
 rcases List.mem_append.1 hx with hx | hx
 ·exact c3b (c6M ha h1) _ _ _ (by omega) (by omega) (fun y hy=>by cases hy) x (List.mem_reverse.1 hx)
 ·unfold newS at hx
  obtain ⟨n,hn,rfl⟩:=List.mem_map.1 hx
  have:=List.mem_range.1 (List.mem_filter.1 hn).1
  exact ⟨by show (0:Int)≤(n:Int);omega,by show (n:Int) < _;omega⟩
theorem b6s{c:d4}{es:List c8}(h1:1≤c.c6)(h2:c.c6≤4096):(ordS c.c6 es).length≤8192:=by
 unfold ordS
 have hk:=b5t (es:=es) h1
 have hd:=hk.d
 simp only [List.length_replicate,List.length_nil,a7E] at hd
 have:=b4z (wkS c.c6 es).b c.c6.toNat
 rw [List.length_append,List.length_reverse]
 omega
def rkU(l:List Int)(P:Nat)(i:Nat):List Int:=(List.range i).foldl (fun r j=>r.set (l.getD j 0).toNat (j:Int)) (List.replicate P 0)
theorem b4B(l:List Int)(P i:Nat):rkU l P (i+1)=(rkU l P i).set (l.getD i 0).toNat (i:Int):=by
 unfold rkU;rw [List.range_succ,List.foldl_append];rfl
theorem b1s(l:List Int)(P:Nat):∀i,(rkU l P i).length=P
 | 0=>by simp [rkU]
 | i+1=>by rw [b4B,List.length_set,b1s l P i]
def hdU(es:List c8)(rk:List Int)(P:Nat)(i:Nat):List Bool:=
 (es.take i).foldl (fun b e=>b.set e.fTo.toNat (b.getD e.fTo.toNat false||decide (rk.getD e.fTo.toNat 0≤rk.getD e.o4.toNat 0))) (List.replicate P false)
theorem b9q{es:List c8}{rk:List Int}{P i:Nat}{e:c8}(h:es[i]? = some e):hdU es rk P (i+1)=(hdU es rk P i).set e.fTo.toNat ((hdU es rk P i).getD e.fTo.toNat false||decide (rk.getD e.fTo.toNat 0≤rk.getD e.o4.toNat 0)):=by
 unfold hdU;rw [J0 h,List.foldl_append];rfl
theorem b3P(es:List c8)(rk:List Int)(P i:Nat):(hdU es rk P i).length=P:=by
 unfold hdU
 have:∀(l:List c8)(b:List Bool),(l.foldl (fun b e=>b.set e.fTo.toNat (b.getD e.fTo.toNat false||decide (rk.getD e.fTo.toNat 0≤rk.getD e.o4.toNat 0))) b).length=b.length:=by
  intro l
  induction l with
  | nil=>intro b;rfl
  | cons e l ih=>intro b;rw [List.foldl_cons,ih,List.length_set]
 rw [this,List.length_replicate]
def yesS(b:List Bool)(n:Nat):List Int:=((List.range n).filter fun p=>b.getD p false).map Int.ofNat
theorem b6N(b:List Bool)(n:Nat):yesS b (n+1)=yesS b n++(if b.getD n false=true then [(n:Int)] else []):=by
 unfold yesS
 rw [List.range_succ,List.filter_append,List.map_append]
 congr 1
 by_cases h:b.getD n false=true<;>simp [List.filter_cons]
 ·simp only [List.getD_eq_getElem?_getD] at h;simp [h]
 ·simp only [List.getD_eq_getElem?_getD] at h;simp [h]
theorem b4C(b:List Bool)(n:Nat):(yesS b n).length≤n:=by
 unfold yesS
 rw [List.length_map]
 exact Nat.le_trans (List.length_filter_le _ _) (by rw [List.length_range];exact Nat.le_refl _)
def rankS(P:Int)(es:List c8):List Int:=rkU (ordS P es) P.toNat (ordS P es).length
def headS(P:Int)(es:List c8):List Bool:=hdU es (rankS P es) P.toNat es.length
def headsS(P:Int)(es:List c8):List Int:=yesS (headS P es) P.toNat
theorem Z2{α:Type}{l:List α}{i:Nat}{x d:α}(h:l[i]? = some x):l.getD i d=x:=by rw [List.getD_eq_getElem?_getD,h];rfl
section
variable {H:Hp}{c:d4}{vs:List ByteArray}{ds:List j8}{es:List c8}{sf:Sl}
theorem c3d(G:GH H c vs ds es){p:Int}{K:Sl→Int→Hp→Prop}(h1:checkS c vs ds es≠0→∀H',Hle H H'→K nSl (checkS c vs ds es) H')(h2:checkS c vs ds es=0→p < 0∨c.c6≤p→∀H',Hle H H'→K nSl 92 H')(h3:checkS c vs ds es=0→0≤p→p < c.c6→∀s H',Hle H H'→SlH H' 1 o3 s (idxS p 0 es)→K s 0 H'):a6V c p H K:=by
 refine b4q _ _ ?_
 unfold a6Y
 refine a4P G fun H1 l1=>⟨fun e=>h1 e H1 l1,fun e=>⟨fun q=>?_,fun q=>?_⟩⟩
 ·simp only [Bool.or_eq_true,decide_eq_true_eq] at q
  exact h2 e q H1 l1
 ·simp only [Bool.or_eq_false_iff,decide_eq_false_iff_not] at q
  obtain ⟨p1,p2,pe,ha,_⟩:=a8f G e
  refine b6r (G.le l1) ⟨by omega,p2⟩ (by omega) ha fun sf H2 l2 F=>?_
  obtain ⟨si,hE,hS⟩:=F.row p (by omega) (by omega)
  exact ⟨by omega,by have:=F.n;omega,si,hE,h3 e (by omega) (by omega) si H2 (l1.trans l2) hS⟩
theorem b9L(G:GH H c vs ds es)(F:FromH H c.c6 es sf)(hp:c.c6≤4096)(hes:es.length≤8192)(ha:es.all (edgeS c)=true):∀(f:Nat)(p:Int)(s:Dv)(K:Sl→List Bool→Hp→Prop),(s.b.length:Int)=c.c6→0≤p→p < c.c6→cF s.b≤f→
  K nSl (if s.b.getD p.toNat true=true then s.b else (vis es f p s).b) H→a0V p nSl s.b sf c H K:=by
 intro f
 induction f with
 | zero=>
  intro p s K hn h0 hpp hc h
  refine a6R _ _ _ _ _ ?_
  unfold a0W
  obtain ⟨x,hx⟩:=A6 (l:=s.b) (i:=p.toNat) (by omega)
  refine ⟨h0,x,hx,fun q=>?_,fun q=>?_⟩
  ·rw [if_pos (by rw [Z2 hx];exact q)] at h;exact h
  ·subst q;have:=a8L hx;omega
 | succ f ih=>
  intro p s K hn h0 hpp hc h
  refine a6R _ _ _ _ _ ?_
  unfold a0W
  obtain ⟨x,hx⟩:=A6 (l:=s.b) (i:=p.toNat) (by omega)
  refine ⟨h0,x,hx,fun q=>?_,fun q=>?_⟩
  ·rw [if_pos (by rw [Z2 hx];exact q)] at h;exact h
  subst q
  rw [if_neg (by rw [Z2 hx];decide)] at h
  obtain ⟨si,hE,hS⟩:=F.row p h0 (by omega)
  have hsn:=hS.1
  have hne:=G.e.1
  have hcs:=a8L hx
  have hil:(idxS p 0 es).length≤8192:=by rw [a4q];exact Nat.le_trans (a5s es p) hes
  refine ⟨h0,false,hx,h0,by have:=F.n;omega,si,hE,?_⟩
  rw [vis] at h
  generalize hs1:(⟨s.b.set p.toNat true,s.d⟩:Dv)=s1 at h
  have e1:s.b.set p.toNat true=s1.b:=by rw [←hs1]
  have hn1:s1.b.length=s.b.length:=by rw [←e1,List.length_set]
  have hc1:cF s1.b+1=cF s.b:=by rw [←e1];exact hcs
  rw [e1]
  refine G9 (fun st H'=>H'=H∧∃(j:Nat)(s':Dv),j≤(idxS p 0 es).length∧st=((j:Int),s'.b)∧Kp s1 s'∧visL (vis es f) es ((idxS p 0 es).drop j) s'=visL (vis es f) es (idxS p 0 es) s1) (fun st=>(idxS p 0 es).length-st.1.toNat)
   ⟨rfl,0,s1,Nat.zero_le _,rfl,Kp.refl _,by rw [List.drop_zero]⟩ ?_
  rintro st H1 next ⟨rfl,j,s',hj,rfl,hk,hv⟩ hnx
  dsimp only
  unfold Z8
  obtain ⟨kn,kc,kd⟩:=hk
  refine ⟨fun q=>?_,fun q=>?_⟩
  ·obtain ⟨i,hi⟩:=A6 (l:=idxS p 0 es) (i:=j) (by omega)
   obtain ⟨i0,i1,e,he,_⟩:=a8e p 0 es j i hi
   rw [Int.sub_zero] at he
   obtain ⟨t1,t2,t3⟩:=b5s ha he
   have hEe:=G.e.2 i.toNat e he
   rw [Int.toNat_of_nonneg i0] at hEe
   have hdrop:(idxS p 0 es).drop j=i::(idxS p 0 es).drop (j+1):=by
    obtain ⟨hlt,heq⟩:=List.getElem?_eq_some_iff.1 hi
    rw [List.drop_eq_getElem_cons hlt,heq]
   rw [hdrop,visL,t1] at hv
   have ej:IntKind.wrap .i64 ((j:Int)+1)=((j+1:Nat):Int):=by rw [v6 (by omega) (by omega)];omega
   refine ⟨by omega,by omega,i,hS.2 j i hi,i0,by omega,e,hEe,ih e.fTo s' _ (by omega) t2 t3 (by omega) ?_⟩
   rw [ej]
   by_cases hq:s'.b.getD e.fTo.toNat true=true
   ·rw [if_pos hq] at hv ⊢
    exact hnx _ _ ⟨rfl,j+1,s',by omega,rfl,⟨kn,kc,kd⟩,hv⟩ (by dsimp only;omega)
   ·rw [if_neg hq] at hv ⊢
    exact hnx _ _ ⟨rfl,j+1,vis es f e.fTo s',by omega,rfl,Kp.trans ⟨kn,kc,kd⟩ (b3b es f e.fTo s' (b5r hq)),hv⟩ (by dsimp only;omega)
  ·obtain rfl:j=(idxS p 0 es).length:=by omega
   rw [List.drop_length,visL] at hv
   rw [←hv] at h
   exact h
theorem b5u(G:GH H c vs ds es){K:Sl→Int→Hp→Prop}(h1:checkS c vs ds es≠0→∀H',Hle H H'→K nSl (checkS c vs ds es) H')(h2:checkS c vs ds es=0→∀s H',Hle H H'→SlH H' 1 E5 s (wkS c.c6 es).b→K s 0 H'):a2z c H K:=by
 refine b1H _ ?_
 unfold a4Z
 refine a4P G fun H1 l1=>⟨fun e=>h1 e H1 l1,fun e=>?_⟩
 obtain ⟨p1,p2,pe,ha,_⟩:=a8f G e
 refine b6r (G.le l1) ⟨by omega,p2⟩ (by omega) ha fun sf H2 l2 F=>?_
 have l12:=l1.trans l2
 refine ⟨by omega,by omega,b9L (G.le l12) F p2 pe ha c.c6.toNat 0 ⟨List.replicate c.c6.toNat false,[]⟩ _ (by simp only [List.length_replicate];omega) (by omega) (by omega) (by simp only [a7E];omega) ?_⟩
 rw [if_neg (by
  simp only [show (0:Int).toNat=0 from rfl]
  rw [List.getD_eq_getElem?_getD,List.getElem?_replicate,if_pos (by omega)];decide)]
 intro s H3 l3 hs _
 exact h2 e s H3 (l12.trans l3) hs
theorem b9r(G:GH H c vs ds es){K:Sl→Int→Hp→Prop}(h1:checkS c vs ds es≠0→∀H',Hle H H'→K nSl (checkS c vs ds es) H')(h2:checkS c vs ds es=0→∀s H',Hle H H'→SlH H' 1 o3 s (headsS c.c6 es)→K s 0 H'):a4h c H K:=by
 refine b2M _ ?_
 unfold a5Z
 refine a4P G fun H1 l1=>⟨fun e=>h1 e H1 l1,fun e=>?_⟩
 obtain ⟨p1,p2,pe,ha,_⟩:=a8f G e
 have hin:=c3c ha p1
 have hol:=b6s (es:=es) p1 p2
 refine b4A (G.le l1) (fun e2=>(e2 e).elim) fun _ so H2 l2 hso=>?_
 have l12:=l1.trans l2
 have hon:=hso.1
 have G2:=G.le l12
 have hne:=G2.e.1
 refine ⟨by omega,by omega,?_⟩
 refine G9 (fun st H'=>H'=H2∧∃i:Nat,i≤(ordS c.c6 es).length∧st=(rkU (ordS c.c6 es) c.c6.toNat i,(i:Int))) (fun st=>(ordS c.c6 es).length-st.2.toNat) ⟨rfl,0,Nat.zero_le _,rfl⟩ ?_
 rintro st H3 next ⟨rfl,i,hi,rfl⟩ hnx
 dsimp only
 unfold a1I
 refine ⟨fun q=>?_,fun q=>?_⟩
 ·obtain ⟨x,hx⟩:=A6 (l:=ordS c.c6 es) (i:=i) (by omega)
  obtain ⟨x0,x1⟩:=hin x (List.mem_of_getElem? hx)
  obtain ⟨y,hy⟩:=A6 (l:=rkU (ordS c.c6 es) c.c6.toNat i) (i:=x.toNat) (by rw [b1s];omega)
  refine ⟨by omega,by omega,x,hso.2 i x hx,x0,y,hy,?_⟩
  rw [show IntKind.wrap .i64 ((i:Int)+1)=((i+1:Nat):Int) by rw [v6 (by omega) (by omega)];omega]
  refine hnx _ _ ⟨rfl,i+1,by omega,?_⟩ (by dsimp only;omega)
  rw [b4B,Z2 hx]
 obtain rfl:i=(ordS c.c6 es).length:=by omega
 unfold a1H
 refine ⟨by omega,by omega,?_⟩
 have hrk:rkU (ordS c.c6 es) c.c6.toNat (ordS c.c6 es).length=rankS c.c6 es:=rfl
 rw [hrk]
 have hrl:(rankS c.c6 es).length=c.c6.toNat:=b1s ..
 refine G9 (fun st H'=>H'=H3∧∃i:Nat,i≤es.length∧st=(hdU es (rankS c.c6 es) c.c6.toNat i,(i:Int))) (fun st=>es.length-st.2.toNat) ⟨rfl,0,Nat.zero_le _,rfl⟩ ?_
 rintro st H4 next2 ⟨rfl,i,hi2,rfl⟩ hnx2
 dsimp only
 unfold a1G
 refine ⟨fun q2=>?_,fun q2=>?_⟩
 ·obtain ⟨ed,hed⟩:=A6 (l:=es) (i:=i) (by omega)
  have hal:=List.all_eq_true.1 ha ed (List.mem_of_getElem? hed)
  have hf:=a6A hal
  have ht:0≤ed.fTo∧ed.fTo < c.c6:=by
   unfold edgeS within at hal
   simp only [Bool.and_eq_true,decide_eq_true_eq] at hal
   exact hal.1.1.1.2
  obtain ⟨b,hb⟩:=A6 (l:=hdU es (rankS c.c6 es) c.c6.toNat i) (i:=ed.fTo.toNat) (by rw [b3P];omega)
  obtain ⟨x,hx⟩:=A6 (l:=rankS c.c6 es) (i:=ed.o4.toNat) (by omega)
  obtain ⟨y,hy⟩:=A6 (l:=rankS c.c6 es) (i:=ed.fTo.toNat) (by omega)
  refine ⟨by omega,by omega,ed,G2.e.2 i ed hed,ht.1,b,hb,x,fun _=>⟨hf.1,hx⟩,y,fun _=>⟨ht.1,hy⟩,ht.1,b,hb,?_⟩
  rw [show IntKind.wrap .i64 ((i:Int)+1)=((i+1:Nat):Int) by rw [v6 (by omega) (by omega)];omega]
  refine hnx2 _ _ ⟨rfl,i+1,by omega,?_⟩ (by dsimp only;omega)
  rw [b9q hed,Z2 hb,Z2 hx,Z2 hy]
 obtain rfl:i=es.length:=by omega
 unfold a1F
 have hhd:hdU es (rankS c.c6 es) c.c6.toNat es.length=headS c.c6 es:=rfl
 rw [hhd]
 have hhl:(headS c.c6 es).length=c.c6.toNat:=b3P ..
 refine G9 (fun st H'=>H'=H4∧∃i:Nat,i≤c.c6.toNat∧st=(yesS (headS c.c6 es) i,(i:Int))) (fun st=>c.c6.toNat-st.2.toNat) ⟨rfl,0,Nat.zero_le _,rfl⟩ ?_
 rintro st H5 next3 ⟨rfl,i,hi3,rfl⟩ hnx3
 dsimp only
 unfold a1E
 refine ⟨fun q3=>?_,fun q3=>?_⟩
 ·obtain ⟨b,hb⟩:=A6 (l:=headS c.c6 es) (i:=i) (by omega)
  have hs:=b6N (headS c.c6 es) i
  have hyl:=b4C (headS c.c6 es) i
  rw [Z2 hb] at hs
  have ei:IntKind.wrap .i64 ((i:Int)+1)=((i+1:Nat):Int):=by rw [v6 (by omega) (by omega)];omega
  refine ⟨by omega,b,hb,fun hq=>⟨by simp only [List.length_cons,List.length_nil];omega,?_⟩,fun hq=>?_⟩
  ·rw [if_pos hq] at hs
   unfold Q8
   rw [ei,← hs]
   exact hnx3 _ _ ⟨rfl,i+1,by omega,rfl⟩ (by dsimp only;omega)
  ·rw [if_neg (by rw [hq];decide),List.append_nil] at hs
   unfold Q8
   rw [ei,← hs]
   exact hnx3 _ _ ⟨rfl,i+1,by omega,rfl⟩ (by dsimp only;omega)
 obtain rfl:i=c.c6.toNat:=by omega
 unfold a1D
 intro s H6 l6 hs _
 exact h2 e s H6 (l12.trans l6) hs
end
end Go.Proofs.YtaokfhdinhimfaaGreatDoor
