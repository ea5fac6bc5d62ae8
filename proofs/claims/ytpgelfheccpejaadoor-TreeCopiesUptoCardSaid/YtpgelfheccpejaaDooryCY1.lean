/- Copies of trees are of new memory: the program's (lifted with NEWS=1). Contracts off the printed formulas. -/
import Derived.Test.YtpgelfheccpejaaDooryCQ8
namespace Go.Proofs.YtpgelfheccpejaaDoor
open Go.RowKit
set_option maxRecDepth 100000
set_option maxHeartbeats 2000000
inductive Tr:PT→Prop
 | mk {l:Lab} {cs:List PT}:(∀t∈cs,Tr t)→Tr (.mk l cs)
mutual
theorem tr:∀t:PT,Tr t
 | .mk l cs=>.mk (trs cs)
theorem trs:∀(ts:List PT)(t:PT),t∈ts→Tr t
 | [],t,h=>by cases h
 | x::ts,t,h=>by
  cases List.mem_cons.1 h with
  | inl e=>rw [e];exact tr x
  | inr h=>exact trs ts t h
end
inductive NSt (H H':Hp):c6→Prop
 | mk {s:c6} {zs bs:List c6}:s.d5.n≤big→s.B1.n≤big→s.A8.n≤big→NewS H H' 41 4 s.d5→NewS H H' 49 6 s.B1→SlH H' 6 c5 s.B1 zs→(∀(i:Nat)(x:c6),zs[i]? = some x→NSt H H' x)→
   NewS H H' 49 6 s.A8→SlH H' 6 c5 s.A8 bs→(∀(i:Nat)(x:c6),bs[i]? = some x→NSt H H' x)→NSt H H' s
theorem NSt.le{H H1 H2:Hp}(l:Hle H1 H2){s:c6}(h:NSt H H1 s):NSt H H2 s:=by
 induction h with
 | mk b1 b2 b3 a b c _ d e _ i1 i2=>exact .mk b1 b2 b3 (a.le l) (b.le l) (c.le l) i1 (d.le l) (e.le l) i2
theorem NSt.sub{H0 H H1:Hp}(l:Hle H0 H){s:c6}(h:NSt H H1 s):NSt H0 H1 s:=by
 induction h with
 | mk b1 b2 b3 a b c _ d e _ i1 i2=>exact .mk b1 b2 b3 (a.sub l) (b.sub l) c i1 (d.sub l) e i2
def CopE(t:PT):Prop:=∀(H:Hp)(e:b8)(K:b8→Hp→Prop),EH H e t→(∀y H',Hle H H'→EH H' y t→K y H')→a2h e H K
def CopC(t:PT):Prop:=∀(H:Hp)(e:b9)(K:b9→Hp→Prop),CH H e t→(∀y H',Hle H H'→CH H' y t→K y H')→a2i e H K
def CopS(t:PT):Prop:=∀(H:Hp)(e:c6)(K:c6→Hp→Prop),SH H e t→(∀y H',Hle H H'→SH H' y t→NSt H H' y→K y H')→a2j e H K
section
variable {H:Hp}
theorem a7s{s:Sl}{xs:List b8}{ts:List PT}(hs:SlH H 4 c7 s xs)(hb:xs.length≤big)(hr:q7 (EH H) xs ts)(ih:∀t∈ts,CopE t){K:Sl→Hp→Prop}
  (h:∀s' ys H',Hle H H'→SlH H' 4 c7 s' ys→ys.length≤big→q7 (EH H') ys ts→NewS H H' 41 4 s'→K s' H'):r8 s H K:=by
 refine Y5 _ ?_
 unfold C8
 have n1:=hs.1
 have hb':=hb
 simp only [big] at hb'
 have hlen:=hr.1
 refine N1 (fun(z:List b8×Int) H'=>0≤z.2∧z.2≤xs.length∧Hle H H'∧q7 (EH H') z.1 (ts.take z.2.toNat)) (fun z=>(xs.length-z.2).toNat) ⟨Int.le_refl _,by dsimp only;omega,Hle.refl _,q7.nil⟩ ?_
 rintro ⟨cs,i⟩ H1 next ⟨i0,i1,l1,hcs⟩ hn
 dsimp only at i0 i1 l1 hcs ⊢
 unfold u6
 have hcl:cs.length≤xs.length:=by rw [hcs.1,List.length_take];omega
 refine ⟨fun q=>?_,fun q=>?_⟩
 ·obtain ⟨x,hx,hE⟩:=(hs.le l1).get i0 (by omega)
  obtain ⟨t,ht,hxt⟩:=hr.get hx
  refine ⟨i0,by omega,x,hE,ih t (List.mem_of_getElem? ht) H1 x _ (hxt.le l1) fun y H2 l2 hy=>⟨by simp only [List.length_cons,List.length_nil];omega,?_⟩⟩
  rw [r7 i0 (by omega)]
  refine hn _ _ ⟨by dsimp only;omega,by dsimp only;omega,l1.trans l2,?_⟩ (by dsimp only;omega)
  dsimp only
  rw [show (i+1).toNat=i.toNat+1 by omega,M6 ht]
  exact (hcs.mono fun _ _=>EH.le l2).app (q7.one hy)
 ·unfold u5
  intro s2 H2 l2 hS2 hN2
  rw [List.take_of_length_le (by omega)] at hcs
  exact h s2 cs H2 (l1.trans l2) hS2 (by omega) (hcs.mono fun _ _=>EH.le l2) (hN2.sub l1)
theorem copE{t:PT}(ht:Tr t):CopE t:=by
 induction ht with
 | @mk l cs _ ih=>
  intro H e K he h
  refine a6u _ ?_
  unfold a2m
  cases he with
  | @mk _ xs _ hs hb hl hr=>
   refine a7s hs hb ⟨hl,hr⟩ ih fun s1 ys H1 l1 hS1 hb1 hr1 _=>?_
   exact h _ H1 l1 (EH.mk (e:=⟨e.b7,e.M8,e.f4,s1⟩) hS1 hb1 hr1.1 hr1.2)
theorem a9o{s:Sl}{xs:List b9}{ts:List PT}(hs:SlH H 4 c9 s xs)(hb:xs.length≤big)(hr:q7 (CH H) xs ts)(ih:∀t∈ts,CopC t){K:Sl→Hp→Prop}
  (h:∀s' ys H',Hle H H'→SlH H' 4 c9 s' ys→ys.length≤big→q7 (CH H') ys ts→K s' H'):v8 s H K:=by
 refine Y7 _ ?_
 unfold D1
 have n1:=hs.1
 have hb':=hb
 simp only [big] at hb'
 have hlen:=hr.1
 refine N1 (fun(z:List b9×Int) H'=>0≤z.2∧z.2≤xs.length∧Hle H H'∧q7 (CH H') z.1 (ts.take z.2.toNat)) (fun z=>(xs.length-z.2).toNat) ⟨Int.le_refl _,by dsimp only;omega,Hle.refl _,q7.nil⟩ ?_
 rintro ⟨cs,i⟩ H1 next ⟨i0,i1,l1,hcs⟩ hn
 dsimp only at i0 i1 l1 hcs ⊢
 unfold v6
 have hcl:cs.length≤xs.length:=by rw [hcs.1,List.length_take];omega
 refine ⟨fun q=>?_,fun q=>?_⟩
 ·obtain ⟨x,hx,hE⟩:=(hs.le l1).get i0 (by omega)
  obtain ⟨t,ht,hxt⟩:=hr.get hx
  refine ⟨i0,by omega,x,hE,ih t (List.mem_of_getElem? ht) H1 x _ (hxt.le l1) fun y H2 l2 hy=>⟨by simp only [List.length_cons,List.length_nil];omega,?_⟩⟩
  rw [r7 i0 (by omega)]
  refine hn _ _ ⟨by dsimp only;omega,by dsimp only;omega,l1.trans l2,?_⟩ (by dsimp only;omega)
  dsimp only
  rw [show (i+1).toNat=i.toNat+1 by omega,M6 ht]
  exact (hcs.mono fun _ _=>CH.le l2).app (q7.one hy)
 ·unfold v2
  intro s2 H2 l2 hS2 hN2
  rw [List.take_of_length_le (by omega)] at hcs
  exact h s2 cs H2 (l1.trans l2) hS2 (by omega) (hcs.mono fun _ _=>CH.le l2)
theorem copC{t:PT}(ht:Tr t):CopC t:=by
 induction ht with
 | @mk l cs hk ih=>
  intro H e K he h
  refine a6B _ ?_
  unfold a2t
  cases he with
  | @mk _ xs ts ys us hs hb hr hc hcb hcl hcr=>
   refine a7s hs hb hr (fun t _=>copE (tr t)) fun s1 xs1 H1 l1 hS1 hb1 hr1 hN1=>?_
   refine a9o (hc.le l1) hcb ⟨hcl,fun i x t a b=>CH.le l1 (hcr i x t a b)⟩ (fun t ht=>ih t (List.mem_append_right _ ht)) fun s2 ys2 H2 l2 hS2 hb2 hr2=>?_
   exact h _ H2 (l1.trans l2) (CH.mk (c:=⟨e.b7,e.fOp,s1,s2⟩) (hS1.le l2) hb1 (hr1.mono fun _ _=>EH.le l2) hS2 hb2 hr2.1 hr2.2)
theorem a7t{s:Sl}{xs:List c6}{ts:List PT}(hs:SlH H 6 c5 s xs)(hb:xs.length≤big)(hr:q7 (SH H) xs ts)(ih:∀t∈ts,CopS t){K:Sl→Hp→Prop}
  (h:∀s' ys H',Hle H H'→SlH H' 6 c5 s' ys→ys.length≤big→q7 (SH H') ys ts→NewS H H' 49 6 s'→(∀y∈ys,NSt H H' y)→K s' H'):r9 s H K:=by
 refine Y6 _ ?_
 unfold C9
 have n1:=hs.1
 have hb':=hb
 simp only [big] at hb'
 have hlen:=hr.1
 refine N1 (fun(z:List c6×Int) H'=>0≤z.2∧z.2≤xs.length∧Hle H H'∧q7 (SH H') z.1 (ts.take z.2.toNat)∧∀y∈z.1,NSt H H' y) (fun z=>(xs.length-z.2).toNat) ⟨Int.le_refl _,by dsimp only;omega,Hle.refl _,q7.nil,fun y hy=>by cases hy⟩ ?_
 rintro ⟨cs,i⟩ H1 next ⟨i0,i1,l1,hcs,hns⟩ hn
 dsimp only at i0 i1 l1 hcs hns ⊢
 unfold v1
 have hcl:cs.length≤xs.length:=by rw [hcs.1,List.length_take];omega
 refine ⟨fun q=>?_,fun q=>?_⟩
 ·obtain ⟨x,hx,hE⟩:=(hs.le l1).get i0 (by omega)
  obtain ⟨t,ht,hxt⟩:=hr.get hx
  refine ⟨i0,by omega,x,hE,ih t (List.mem_of_getElem? ht) H1 x _ (hxt.le l1) fun y H2 l2 hy hNy=>⟨by simp only [List.length_cons,List.length_nil];omega,?_⟩⟩
  rw [r7 i0 (by omega)]
  refine hn _ _ ⟨by dsimp only;omega,by dsimp only;omega,l1.trans l2,?_,fun z hz=>?_⟩ (by dsimp only;omega)
  ·dsimp only
   rw [show (i+1).toNat=i.toNat+1 by omega,M6 ht]
   exact (hcs.mono fun _ _=>SH.le l2).app (q7.one hy)
  ·rcases List.mem_append.1 hz with hz | hz
   ·exact (hns z hz).le l2
   ·obtain rfl:=List.mem_singleton.1 hz
    exact hNy.sub l1
 ·unfold u7
  intro s2 H2 l2 hS2 hN2
  rw [List.take_of_length_le (by omega)] at hcs
  exact h s2 cs H2 (l1.trans l2) hS2 (by omega) (hcs.mono fun _ _=>SH.le l2) (hN2.sub l1) fun y hy=>(hns y hy).le l2
theorem copS{t:PT}(ht:Tr t):CopS t:=by
 induction ht with
 | @mk l cs hk ih=>
  intro H e K he h
  refine a6x _ ?_
  unfold a2q
  cases he with
  | @mk _ xs ts ys us zs bs vs ws hs hb hr hc hcb hcr ha hab hal har hbs hbb hbl hbr=>
   refine a7s hs hb hr (fun t _=>copE (tr t)) fun s1 xs1 H1 l1 hS1 hb1 hr1 hN1=>?_
   refine a9o (hc.le l1) hcb (hcr.mono fun _ _=>CH.le l1) (fun t _=>copC (tr t)) fun s2 ys2 H2 l2 hS2 hb2 hr2=>?_
   have l12:=l1.trans l2
   refine a7t (ha.le l12) hab ⟨hal,fun i x t a b=>SH.le l12 (har i x t a b)⟩ (fun t ht=>ih t (List.mem_append_right _ (List.mem_append_right _ (List.mem_append_left _ ht)))) fun s3 zs3 H3 l3 hS3 hb3 hr3 hN3 hn3=>?_
   have l13:=l12.trans l3
   refine a7t (hbs.le l13) hbb ⟨hbl,fun i x t a b=>SH.le l13 (hbr i x t a b)⟩ (fun t ht=>ih t (List.mem_append_right _ (List.mem_append_right _ (List.mem_append_right _ ht)))) fun s4 bs4 H4 l4 hS4 hb4 hr4 hN4 hn4=>?_
   have l34:=l3.trans l4
   exact h _ H4 (l13.trans l4) (SH.mk (s:=⟨e.b7,e.f4,s1,s2,s3,s4⟩) (hS1.le (l2.trans l34)) hb1 (hr1.mono fun _ _=>EH.le (l2.trans l34)) (hS2.le l34) hb2 (hr2.mono fun _ _=>CH.le l34) (hS3.le l4) hb3 hr3.1 (fun i x t a b=>SH.le l4 (hr3.2 i x t a b)) hS4 hb4 hr4.1 hr4.2) (NSt.mk (s:=⟨e.b7,e.f4,s1,s2,s3,s4⟩) (by show s1.n≤big;rw [hS1.1];exact hb1) (by show s3.n≤big;rw [hS3.1];exact hb3) (by show s4.n≤big;rw [hS4.1];exact hb4) (hN1.le (l2.trans l34)) ((hN3.sub l12).le l4) (hS3.le l4) (fun i x hx=>((hn3 x (List.mem_of_getElem? hx)).sub l12).le l4) (hN4.sub l13) hS4 fun i x hx=>(hn4 x (List.mem_of_getElem? hx)).sub l13)
theorem b6w{s:Sl}{ds:List s7}(hs:SlH H 2 j8 s ds)(hb:ds.length≤big){K:Sl→Hp→Prop}(h:∀s' H',Hle H H'→SlH H' 2 j8 s' ds→NewS H H' 45 2 s'→K s' H'):L5 s H K:=by
 refine a1W _ ?_
 unfold L8
 simp only [big] at hb
 refine ⟨fun c=>h _ H (Hle.refl _) ?_ ⟨Nat.le_refl _,.inl rfl⟩,fun _=>⟨ds,hs,by simp only [List.length_nil];omega,fun s' H' l hS hN=>h s' H' l hS hN⟩⟩
 cases ds with
 | nil=>exact SlH.nil _ _ _
 | cons d ds=>
  obtain ⟨g,o,ha,_⟩:=hs.2 0 d rfl
  rw [ha] at c;cases c
theorem b7J(hT:TabsH H){p:d4}{q:PP}(hp:PH H p q)(hsm:q.Sm){K:d4→Int→Hp→Prop}(h0:∀y H',Hle H H'→toldS q.nodes=0→PH H' y q→NewS H H' 45 2 y.B3→NewS H H' 49 6 y.M7→(∃zs,SlH H' 6 c5 y.M7 zs∧∀z∈zs,NSt H H' z)→K y 0 H')(h1:∀H',Hle H H'→toldS q.nodes≠0→K ⟨⟨none,0,0⟩,⟨none,0,0⟩⟩ (toldS q.nodes) H'):a4Y p H K:=by
 refine a7M _ ?_
 unfold a3w
 refine b2x hT hp hsm fun H1 l1=>?_
 rw [show vEnd (allV q)=toldS q.nodes from b7I _]
 refine ⟨fun c=>h1 H1 l1 c,fun c=>?_⟩
 obtain ⟨hd,hbd,xs,hsl,hxb,hr⟩:=hp.le l1
 refine b6w hd hbd fun s2 H2 l2 hS2 hN2=>?_
 refine a7t (hsl.le l2) hxb (hr.mono fun _ _=>SH.le l2) (fun t _=>copS (tr t)) fun s3 zs H3 l3 hS3 hb3 hr3 hN3 hn3=>?_
 exact h0 _ H3 (l1.trans (l2.trans l3)) c ⟨hS2.le l3,hbd,zs,hS3,hb3,hr3⟩ ((hN2.sub l1).le l3) (hN3.sub (l1.trans l2)) ⟨zs,hS3,fun z hz=>(hn3 z hz).sub (l1.trans l2)⟩
end
end Go.Proofs.YtpgelfheccpejaaDoor
