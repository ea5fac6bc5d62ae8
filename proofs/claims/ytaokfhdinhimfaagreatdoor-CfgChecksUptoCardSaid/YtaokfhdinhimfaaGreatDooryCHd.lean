/- The law of graphs' checks. Contracts off the printed formulas. -/
import Derived.Test.YtaokfhdinhimfaaGreatDooryCHc
import Derived.Test.YtaokfhdinhimfaaGreatDooryCH6
namespace Go.Proofs.YtaokfhdinhimfaaGreatDoor
open Go.RowKit
set_option maxRecDepth 100000
set_option maxHeartbeats 2000000
section
variable {H:Hp}{c:d4}{vs:List ByteArray}{ds:List j8}{es:List c8}
theorem c1t{s s':Sl}{xs:List Bool}(h1:SlH H 1 E5 s xs)(h2:SlH H 1 E5 s' xs)(hb:xs.length≤8192){body:Int→Hp→(Int→Hp→Prop)→Prop}(hs:∀(i:Nat)(x:Bool)(n:Int→Hp→Prop),i < xs.length→EltH H s (i:Int) 1 [Value.bool x]→EltH H s' (i:Int) 1 [Value.bool x]→n ((i+1:Nat):Int) H→body (i:Int) H n)(he:∀n,body (xs.length:Int) H n):TL (0:Int) H body:=by
 refine G9 (fun st H'=>H'=H∧∃i:Nat,i≤xs.length∧st=(i:Int)) (fun st=>xs.length-st.toNat) ⟨rfl,0,Nat.zero_le _,rfl⟩ ?_
 rintro st H1 next ⟨rfl,i,hi,rfl⟩ hnx
 by_cases hq:i < xs.length
 ·obtain ⟨x,hx⟩:=A6 hq
  exact hs i x _ hq (h1.2 i x hx) (h2.2 i x hx) (hnx _ _ ⟨rfl,i+1,by omega,rfl⟩ (by omega))
 ·obtain rfl:i=xs.length:=by omega
  exact he _
theorem b9t(hT:TabsH H)(G:GH H c vs ds es){p:Int}{X:Prop}(_:X){K:Bool→Hp→Prop}(h:∀H',Hle H H'→K true H'):a0s c p H K:=by
 refine a7F _ _ ?_
 unfold a0t
 refine c3k hT fun H1 l1=>⟨fun e=>(by cases e),fun _=>?_⟩
 refine b9p (G.le l1) fun H2 l2=>c1s (G.le (l1.trans l2)) fun b H3 l3 Gb e1 e2 e3=>?_
 have l13:=l1.trans (l2.trans l3)
 have hck:checkS b vs ds es=checkS c vs ds es:=c3f G Gb e1 e2 e3
 have last:∀(si so:Sl)(H':Hp),Hle H H'→checkS c vs ds es=0→SlH H' 1 o3 si (headsS b.c6 es)→SlH H' 1 o3 so (ordS b.c6 es)→∀sr,SlH H' 1 E5 sr (wkS b.c6 es).b→B9 sr si so b c H' K:=by
  intro si so H' l hk hsi hso sr hsr
  obtain ⟨p1,p2,pe,ha,_⟩:=a8f G hk
  have GH':=G.le l
  have hin:=(b5t (es:=es) p1).n
  simp only [List.length_replicate] at hin
  rw [e2] at hsi hso hsr
  unfold B9
  refine b9M GH' p1 p2 pe ha fun s4 H4 l4 h4=>?_
  have hsr4:=hsr.le l4
  have n1:=hsr4.1;have n2:=h4.1
  refine ⟨fun e=>(e (by omega)).elim,fun _=>?_⟩
  have l40:=l.trans l4
  refine c1t hsr4 h4 (by omega) (fun i x n hi he1 he2 hn=>?_) fun n=>?_
  ·unfold P3
   refine ⟨fun q=>⟨by omega,by omega,x,he1,by omega,by omega,x,he2,fun q2=>by simp at q2,fun _=>?_⟩,fun q=>by omega⟩
   rw [show IntKind.wrap .i64 ((i:Int)+1)=((i+1:Nat):Int) by rw [v6 (by omega) (by omega)];omega]
   exact hn
  ·unfold P3
   refine ⟨fun q=>by omega,fun _=>?_⟩
   unfold P2
   refine c3e (GH'.le l4) p1 p2 pe ha fun s5 H5 l5 h5=>?_
   have hbl:(headsS c.c6 es).length≤8192:=by
    have:=b4C (headS c.c6 es) c.c6.toNat
    unfold headsS;omega
   refine b6t ((hsi.le l4).le l5) h5 (by omega) ⟨fun _=>?_,fun e=>(e rfl).elim⟩
   refine b6O ((GH'.le l4).le l5) p1 p2 pe ha fun s6 H6 l6 h6=>⟨fun _=>?_,fun e=>(e rfl).elim⟩
   have hol:=b6s (es:=es) p1 p2
   exact b6t (((hso.le l4).le l5).le l6) h6 (by omega) (h H6 (l40.trans (l5.trans l6)))
 by_cases hk:checkS c vs ds es=0
 ·have hkb:checkS b vs ds es=0:=hck.trans hk
  obtain ⟨p1,p2,pe,ha,_⟩:=a8f G hk
  have fin:∀(so:Sl)(eo:Int)(H4:Hp),Hle H3 H4→(p < 0∨c.c6≤p→eo=92∧so=nSl)→(0≤p→p < c.c6→eo=0∧SlH H4 1 o3 so (idxS p 0 es))→
    a2z b H4 (fun f m aa=>a4h b aa (fun g o ab=>a1h b ab (fun i p_1 ac=>O1 b ac (fun j q=>
     TG ((!decide (j=checkS c vs ds es))=false) (a0v b c q) false q (fun(r:Bool)(d:Hp)=>
      ((((((!decide (j=checkS c vs ds es))||(!r))||(!decide (m=checkS c vs ds es)))||(!decide (o=checkS c vs ds es)))||(!decide (p_1=checkS c vs ds es)))=true→K false d)∧
      ((((((!decide (j=checkS c vs ds es))||(!r))||(!decide (m=checkS c vs ds es)))||(!decide (o=checkS c vs ds es)))||(!decide (p_1=checkS c vs ds es)))=false→
       (¬(checkS c vs ds es=0)→K (((((decide (eo=checkS c vs ds es))&&(decide ((so.n:Int)=0)))&&(decide ((f.n:Int)=0)))&&(decide ((g.n:Int)=0)))&&(decide ((i.n:Int)=0))) d)∧
       (checkS c vs ds es=0→
        (((decide (p < 0))||(decide (c.c6≤p)))=true→
         (((!decide (eo=92))||(!decide ((so.n:Int)=0)))=true→K false d)∧
         (((!decide (eo=92))||(!decide ((so.n:Int)=0)))=false→B9 f g i b c d K))∧
        (((decide (p < 0))||(decide (c.c6≤p)))=false→
         TG ((!decide (eo=0))=false) (a0w c p d) (Sl.mk none 0 0) d (fun(ad:Sl)(s:Hp)=>
          TG ((!decide (eo=0))=false) (N6 so ad s) false s (fun(t:Bool)(u:Hp)=>
           (((!decide (eo=0))||(!t))=true→K false u)∧
           (((!decide (eo=0))||(!t))=false→B9 f g i b c u K))))))))))):=by
   intro so eo H4 l4 hbad hgood
   have l04:=l13.trans l4
   refine b5u (Gb.le l4) (fun e=>(e hkb).elim) fun _ sr H5 l5 hsr=>?_
   refine b9r ((Gb.le l4).le l5) (fun e=>(e hkb).elim) fun _ sh H6 l6 hsh=>?_
   refine b4A (((Gb.le l4).le l5).le l6) (fun e=>(e hkb).elim) fun _ sd H7 l7 hsd=>?_
   refine a4P ((((Gb.le l4).le l5).le l6).le l7) fun H8 l8=>?_
   have l48:=l5.trans (l6.trans (l7.trans l8))
   have l08:=l04.trans l48
   rw [hkb,hk]
   refine ⟨fun _=>?_,fun e=>(e (by decide)).elim⟩
   refine b5v (Gb.le (l4.trans l48)) (G.le l08) e1 e2 e3 ⟨fun q=>by simp at q,fun _=>⟨fun e=>(e rfl).elim,fun _=>⟨fun q=>?_,fun q=>?_⟩⟩⟩
   ·simp only [Bool.or_eq_true,decide_eq_true_eq] at q
    obtain ⟨rfl,rfl⟩:=hbad q
    exact ⟨fun q2=>by simp [nSl] at q2,fun _=>last _ _ _ l08 hk (hsh.le (l7.trans l8)) (hsd.le l8) _ (hsr.le (l6.trans (l7.trans l8)))⟩
   ·simp only [Bool.or_eq_false_iff,decide_eq_false_iff_not] at q
    obtain ⟨rfl,hso⟩:=hgood (by omega) (by omega)
    refine ⟨fun _=>c6N (G.le l08) pe fun s9 H9 l9 h9=>⟨fun _=>?_,fun e=>(e rfl).elim⟩,fun e=>(e rfl).elim⟩
    have hil:(idxS p 0 es).length≤8192:=by rw [a4q];exact Nat.le_trans (a5s es p) pe
    refine b6t (hso.le (l48.trans l9)) h9 (by omega) ⟨fun q2=>by simp at q2,fun _=>?_⟩
    exact last _ _ _ (l08.trans l9) hk ((hsh.le (l7.trans l8)).le l9) ((hsd.le l8).le l9) _ ((hsr.le (l6.trans (l7.trans l8))).le l9)
  refine c3d Gb (fun e=>(e hkb).elim) (fun _ hp H4 l4=>?_) fun _ p0 p3 so H4 l4 hso=>?_
  ·rw [e2] at hp
   exact fin nSl 92 H4 l4 (fun _=>⟨rfl,rfl⟩) fun a b'=>by omega
  ·rw [e2] at p3
   exact fin so 0 H4 l4 (fun a=>by omega) fun _ _=>⟨rfl,hso⟩
 ·have hkb:checkS b vs ds es≠0:=by rw [hck];exact hk
  refine c3d Gb (fun _ H4 l4=>?_) (fun e=>(hkb e).elim) fun e=>(hkb e).elim
  refine b5u (Gb.le l4) (fun _ H5 l5=>?_) fun e=>(hkb e).elim
  refine b9r ((Gb.le l4).le l5) (fun _ H6 l6=>?_) fun e=>(hkb e).elim
  refine b4A (((Gb.le l4).le l5).le l6) (fun _ H7 l7=>?_) fun e=>(hkb e).elim
  refine a4P ((((Gb.le l4).le l5).le l6).le l7) fun H8 l8=>?_
  have l38:=l4.trans (l5.trans (l6.trans (l7.trans l8)))
  have l08:=l13.trans l38
  rw [hck]
  refine ⟨fun _=>b5v (Gb.le l38) (G.le l08) e1 e2 e3 ⟨fun q=>?_,fun _=>⟨fun _=>?_,fun e=>(hk e).elim⟩⟩,fun e=>(e (by simp)).elim⟩
  ·simp at q
  ·simpa [nSl] using h H8 l08
end
end Go.Proofs.YtaokfhdinhimfaaGreatDoor
