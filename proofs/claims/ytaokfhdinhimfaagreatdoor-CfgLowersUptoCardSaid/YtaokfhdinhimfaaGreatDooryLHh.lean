/- The document's graph of a program: it is the plain one. Contracts off the printed formulas. -/
import Derived.Test.YtaokfhdinhimfaaGreatDooryLHg
namespace Go.Proofs.YtaokfhdinhimfaaGreatDoor
open Go.RowKit
set_option maxRecDepth 100000
set_option maxHeartbeats 2000000
theorem c2h{xs:List ByteArray}(hn:xs.Nodup){i j:Nat}{x:ByteArray}(hi:xs[i]? = some x)(hj:xs[j]? = some x):i=j:=(List.getElem?_inj (List.getElem?_eq_some_iff.1 hi).1 hn).1 (hi.trans hj.symm)
theorem c0N{xs:List ByteArray}(hn:xs.Nodup){j:Nat}{s:ByteArray}(hj:xs[j]? = some s):∀i,i≤xs.length→j < i→lk s (mapU xs i)=some (j:Int)
 | 0,_,h=>by omega
 | i+1,hi,h=>by
  rw [b4F,b2N]
  by_cases e:j=i
  ·subst e
   rw [if_pos (by rw [List.getD_eq_getElem?_getD,hj];rfl)]
  ·rw [if_neg,c0N hn hj i (by omega) (by omega)]
   intro q
   rw [List.getD_eq_getElem?_getD] at q
   obtain ⟨x,hx⟩:=A8 (l:=xs) (i:=i) (by omega)
   rw [hx] at q
   have q':s=x:=q
   subst q'
   exact e (c2h hn hj hx)
theorem d1S{xs:List ByteArray}(hn:xs.Nodup){j:Nat}{s:ByteArray}(hj:xs[j]? = some s):fI xs s 0=(j:Int):=by
 rw [b8M xs s 0 j fun i x hi hx e=>by
  subst e
  have:=c2h hn hj hx
  omega]
 obtain ⟨h1,e1⟩:=List.getElem?_eq_some_iff.1 hj
 rw [List.drop_eq_getElem_cons h1,e1,fI,if_pos rfl,Int.zero_add]
theorem c5t{xs:List ByteArray}(hn:xs.Nodup){s:ByteArray}(h:s∈xs):fI xs s 0=idx xs s∧idx xs s < xs.length:=by
 obtain ⟨j,hj⟩:=List.mem_iff_getElem?.1 h
 obtain ⟨h1,_⟩:=List.getElem?_eq_some_iff.1 hj
 have e:idx xs s=(j:Int):=by unfold idx;rw [c0N hn hj _ (Nat.le_refl _) h1];rfl
 rw [d1S hn hj,e]
 exact ⟨rfl,by omega⟩
theorem c0O{k:Int}(hk:k≠0):∀{l:List i7}{s:ByteArray},kOf l s=k→s∈(kF k l).map (·.f6)
 | [],s,h=>by rw [kOf] at h;exact absurd h.symm hk
 | d::r,s,h=>by
  rw [kOf] at h
  show s∈((d::r).filter fun d=>decide (kindD d=k)).map (·.f6)
  rw [List.filter_cons]
  split at h
  ·rename_i e
   rw [if_pos (by simpa using h),List.map_cons,e];exact List.mem_cons_self
  ·have ih:=c0O hk h
   split
   ·rw [List.map_cons];exact List.mem_cons_of_mem _ ih
   ·exact ih
theorem c0P{k:Int}{l:List i7}(h:(l.map (·.f6)).Nodup):((kF k l).map (·.f6)).Nodup:=(List.Sublist.map _ (List.filter_sublist (l:=l))).nodup h
theorem c2i{u:Us}{t:PT}:∀{ts:List PT},t∈ts→u∈uT t→u∈uTs ts
 | c::cs,ht,hu=>by
  rw [uTs]
  rcases List.mem_cons.1 ht with rfl | ht
  ·exact List.mem_append_left _ hu
  ·exact List.mem_append_right _ (c2i ht hu)
theorem c5u{q:PP}(h:(wellS q).2=0){t:PT}(ht:t∈q.body):Nok (enS q) (vN q) (aN q) t:=by
 obtain ⟨_,hd,hu⟩:=(b5N q).1 h
 have e1:vN q=(kF 1 q.decls).map (·.f6):=by unfold vN ofS;rw [if_pos h]
 have e2:aN q=(kF 2 q.decls).map (·.f6):=by unfold aN ofS;rw [if_pos h]
 have n1:(vN q).Nodup:=by rw [e1];exact c0P hd.1
 have n2:(aN q).Nodup:=by rw [e2];exact c0P hd.1
 intro u hut
 have hk:=hu u (c2i ht hut)
 refine ⟨fun hi=>?_,fun hi=>?_⟩
 ·refine c5t n1 (e1 ▸ c0O (by decide) ?_)
  rw [hk];unfold asU;rw [hi];rfl
 ·refine (c5t n2 (e2 ▸ c0O (by decide) ?_)).1
  rw [hk];unfold asU;rw [hi];rfl
structure CfR (H':Hp) (q:PP) (c:m3):Prop where
 v:SlH H' 1 v2 c.p7 (vN q)
 a:SlH H' 2 i5 c.o9 (ofS q 2)
 e:SlH H' 10 i6 c.R3 (loS q).es
 t:c.q9=(loS q).t
 p:c.p5=(loS q).p
 x:c.u5=exS q
section
variable {H:Hp}{q:PP}{p:m6}{K:m3→Int→Hp→Prop}
theorem c2j(hp:PH H p q)(hw:(wellS q).2=0){sv sa:Sl}(hv:SlH H 1 v2 sv (vN q))(ha:SlH H 2 i5 sa (ofS q 2)){b:Bl}{xs:List Ed}(hr:RS ⟨sv,sa,exS q⟩ (loS q) b xs)
  (h1:loE q≠0→∀H',Hle H H'→K cz (loE q) H') (h2:loE q=0→∀c H',Hle H H'→CfR H' q c→K c 0 H'):Q2 b.fc.p7 b.fc.q9 b.fc.o9 b.fc.p5 b.fc.u5 xs b.fgreat cz p H K:=by
 obtain ⟨hf,hq,hvl,hal⟩:=b5m hw
 have hvl':(vN q).length≤4096:=by unfold vN;rw [List.length_map];exact hvl
 obtain ⟨zs,hs,hxb,hb⟩:=hp.b
 have hn0:0≤(enS q).nv:=by show (0:Int)≤((vN q).length:Int);omega
 unfold Q2
 refine b0K _ ?_
 unfold a4F
 refine b4I (L:=enS q) hs hb.1 (fun i x t hx ht=>c6u (vn:=vN q) (an:=aN q) hn0 (hb.2 i x t hx ht) (a5Z hf ht) (c5u hw (List.mem_of_getElem? ht))) (by omega) fun w hmt=>?_
 have ht:(loS q).t=w:=by
  have k:=hmt 0 (1+exS q) (exS q) ⟨1+exS q+((q.body.map (loT (enS q))).length-1:Nat),0,[]⟩
  have:=k.t (by dsimp only;omega)
  have e:(loS q).t=mx w 0:=this
  rw [e,b3d k.n]
 have htl:(loS q).t≤0∨(loS q).t≤(cTs q.body:Int):=b4D (c5k (enS q) q.body) 0 (exS q) ⟨1+exS q,0,[]⟩
 have hw0:0≤w:=(hmt 0 0 0 ⟨0,0,[]⟩).n
 have hnv:(b.fc.p7.n:Int)=(enS q).nv:=by rw [hr.v];show (sv.n:Int)=((vN q).length:Int);rw [hv.1]
 have hnb:(enS q).nv≤4096:=by show ((vN q).length:Int)≤4096;omega
 have et:IntKind.wrap .i64 ((b.fc.p7.n:Int)+w)=(enS q).nv+(loS q).t:=by
  rw [hnv,ht]
  exact N7 ⟨by omega,by omega⟩
 dsimp only
 rw [et]
 refine ⟨fun c=>?_,fun c=>⟨fun g=>?_,fun g=>?_⟩⟩
 ·have e:loE q=90:=by unfold loE;rw [if_neg (by omega),if_pos c]
  have:=h1 (by rw [e];decide) H (Hle.refl _)
  rw [e] at this;exact this
 ·have hb:4096 < (loS q).p∨(8192:Int) < (loS q).es.length:=by
   rcases hr.s with ⟨q2,_⟩ | ⟨_,q2⟩
   ·rw [g] at q2;cases q2
   ·omega
  have e:loE q=91:=by unfold loE;rw [if_neg (by omega),if_neg c,if_pos hb]
  have:=h1 (by rw [e];decide) H (Hle.refl _)
  rw [e] at this;exact this
 ·obtain ⟨a1,a2,a3,a4,a5⟩:=hr.at_ g
  have e:loE q=0:=by unfold loE;rw [if_neg (by omega),if_neg c,if_neg (by omega)]
  intro a e' le hsl _
  refine h2 e _ _ le ⟨?_,?_,?_,a2,a1,hr.x⟩
  ·show SlH e' 1 v2 b.fc.p7 (vN q);rw [hr.v];exact hv.le le
  ·show SlH e' 2 i5 b.fc.o9 (ofS q 2);rw [hr.a];exact ha.le le
  ·rw [←a3];exact hsl
theorem c5v(hp:PH H p q)(hcp:p.E4.n≤p.E4.c)(h1:loE q≠0→∀H',Hle H H'→K cz (loE q) H')(h2:loE q=0→∀c H',Hle H H'→CfR H' q c→K c 0 H'):a4v p H K:=by
 refine b0W _ ?_
 unfold a4P
 refine c3l hp hcp fun H1 l1=>⟨fun c=>?_,fun c=>?_⟩
 ·have e:loE q=(wellS q).2:=by unfold loE;rw [if_pos c]
  have:=h1 (by rw [e];exact c) H1 l1
  rw [e] at this;exact this
 ·have hw:(wellS q).2=0:=c
  obtain ⟨hf,hq,hvl,hal⟩:=b5m hw
  have hvl':(vN q).length≤4096:=by unfold vN;rw [List.length_map];exact hvl
  have hsz:=c2e ((b5N q).1 hw).1
  have e1:vN q=(kF 1 q.decls).map (·.f6):=by unfold vN ofS;rw [if_pos hw]
  have e2:ofS q 2=kF 2 q.decls:=by unfold ofS;rw [if_pos hw]
  refine c6r (hp.le l1) hsz fun sv H2 l2 hsv=>c3m (hp.le (l1.trans l2)) hsz fun sa H3 l3 hsa=>?_
  rw [←e1] at hsv
  rw [←e2] at hsa
  have l13:=l1.trans (l2.trans l3)
  have hp3:=hp.le l13
  have hv3:=hsv.le l3
  obtain ⟨zs,hs,hxb,hb⟩:=hp3.b
  have hbn:=hs.1
  have hbl:=hb.1
  refine a6a (z:=⟨sv,sa,0⟩) (g:=⟨0,0,[]⟩) ⟨rfl,rfl,rfl,.inl ⟨rfl,rfl,rfl,rfl,by dsimp only;omega,by simp⟩⟩ (by dsimp only;omega) fun r b1 xs1 hr1 _=>⟨fun c1=>?_,fun c1=>?_⟩
  ·refine a6a hr1.cut (by dsimp only;omega) fun r2 b2 xs2 hr2 he2=>?_
   have g2:b2.fgreat=false:=by
    rcases hr2.s with ⟨q2,_⟩ | ⟨_,q2⟩
    ·exact q2
    ·dsimp only [List.length_nil] at q2;omega
   have ex:exS q=1:=by
    unfold exS;rw [if_neg]
    intro e;rw [e,List.length_nil] at hbl;omega
   have er:r2=1:=by rw [he2 g2];rfl
   subst er
   have hz:ZH H3 ⟨sv,sa,exS q⟩ (enS q) (vN q) (ofS q 2):=⟨hv3,hsa,hvl',hal,rfl,rfl⟩
   have hr3:RS ⟨sv,sa,exS q⟩ ⟨1+exS q,0,[]⟩ (d6.mk (m3.mk b2.fc.p7 b2.fc.q9 b2.fc.o9 b2.fc.p5 1 (Sl.mk none 0 0)) b2.fgreat) xs2:=by
    rw [ex];exact ⟨hr2.v,hr2.a,rfl,hr2.s⟩
   refine b8t hs hbl (fun i x t hx ht=>c5r hz (hb.2 i x t hx ht) (a5Z hf ht) (c5u hw (List.mem_of_getElem? ht))) (by omega) (by omega) hr3 (a:=0) (tg:=exS q) (fun _=>⟨rfl,ex.symm⟩) (by dsimp only;omega) fun b3 xs3 hr4=>?_
   exact c2j hp3 hw hv3 hsa hr4 (fun e H' l=>h1 e H' (l13.trans l)) fun e c' H' l=>h2 e c' H' (l13.trans l)
  ·have eb:q.body=[]:=List.length_eq_zero_iff.1 (by omega)
   have ex:exS q=0:=by unfold exS;rw [if_pos eb]
   have hlo:loS q=frG ⟨0,0,[]⟩:=by
    unfold loS;rw [eb,ex,List.map_nil,b5Q];rfl
   have hr4:RS ⟨sv,sa,exS q⟩ (loS q) b1 xs1:=by rw [hlo,ex];exact hr1
   exact c2j hp3 hw hv3 hsa hr4 (fun e H' l=>h1 e H' (l13.trans l)) fun e c' H' l=>h2 e c' H' (l13.trans l)
end
end Go.Proofs.YtaokfhdinhimfaaGreatDoor
