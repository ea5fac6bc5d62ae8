/- Trees: plain ones, how they lie in the frozen heap; whether two are the same, by the program and by the document. Contracts off the printed formulas. -/
import Derived.Test.YtoflkliecagjcaaGreatDooryBV1a
import Derived.Test.YtoflkliecagjcaaGreatDooryBV1b
import Derived.Test.YtoflkliecagjcaaGreatDooryBV1c
import Derived.Test.YtoflkliecagjcaaGreatDooryBV1d
namespace Go.Proofs.YtoflkliecagjcaaGreatDoor
open Go.RowKit
set_option maxRecDepth 100000
set_option maxHeartbeats 2000000
inductive Lab where
 | decl (size:Int) (name:ByteArray)
 | stmt (kind:Int) (name:ByteArray) (e c t f:Nat)
 | cond (kind op:Int) (e p:Nat)
 | expr (kind num:Int) (name:ByteArray) (n:Nat)
inductive PT where
 | mk (l:Lab) (cs:List PT)
def PT.lab:PT→Lab | .mk l _=>l
def PT.kids:PT→List PT | .mk _ cs=>cs
abbrev big:Nat:=1099511627776
inductive EH (H:Hp):f8→PT→Prop
 | mk {e:f8} {xs:List f8} {ts:List PT}:SlH H 4 f7 e.N8 xs→xs.length≤big→xs.length=ts.length→(∀(i:Nat)(x:f8)(t:PT),xs[i]? = some x→ts[i]? = some t→EH H x t)→EH H e (.mk (.expr e.d6 e.M4 e.o8 ts.length) ts)
inductive CH (H:Hp):i7→PT→Prop
 | mk {c:i7} {xs:List f8} {ts:List PT} {ys:List i7} {us:List PT}:SlH H 4 f7 c.p7 xs→xs.length≤big→u5 (EH H) xs ts→SlH H 4 g7 c.E6 ys→ys.length≤big→ys.length=us.length→(∀(i:Nat)(x:i7)(t:PT),ys[i]? = some x→us[i]? = some t→CH H x t)→CH H c (.mk (.cond c.d6 c.fOp ts.length us.length) (ts++us))
inductive SH (H:Hp):d9→PT→Prop
 | mk {s:d9} {xs:List f8} {ts:List PT} {ys:List i7} {us:List PT} {zs bs:List d9} {vs ws:List PT}:SlH H 4 f7 s.p7 xs→xs.length≤big→u5 (EH H) xs ts→SlH H 4 g7 s.C0 ys→ys.length≤big→u5 (CH H) ys us→
   SlH H 6 k7 s.P5 zs→zs.length≤big→zs.length=vs.length→(∀(i:Nat)(x:d9)(t:PT),zs[i]? = some x→vs[i]? = some t→SH H x t)→
   SlH H 6 k7 s.O6 bs→bs.length≤big→bs.length=ws.length→(∀(i:Nat)(x:d9)(t:PT),bs[i]? = some x→ws[i]? = some t→SH H x t)→
   SH H s (.mk (.stmt s.d6 s.o8 ts.length us.length vs.length ws.length) (us++(ts++(vs++ws))))
theorem EH.le{H H':Hp}(l:Hle H H'){e:f8}{t:PT}(h:EH H e t):EH H' e t:=by
 induction h with
 | mk hs hb hl _ ih=>exact .mk (hs.le l) hb hl ih
theorem CH.le{H H':Hp}(l:Hle H H'){e:i7}{t:PT}(h:CH H e t):CH H' e t:=by
 induction h with
 | mk hs hb hr hy hc hl _ ih=>exact .mk (hs.le l) hb (hr.mono fun _ _=>EH.le l) (hy.le l) hc hl ih
theorem SH.le{H H':Hp}(l:Hle H H'){e:d9}{t:PT}(h:SH H e t):SH H' e t:=by
 induction h with
 | mk hs hb hr hy hc hrc ha hab hal _ hbs hbb hbl _ ih1 ih2=>exact .mk (hs.le l) hb (hr.mono fun _ _=>EH.le l) (hy.le l) hc (hrc.mono fun _ _=>CH.le l) (ha.le l) hab hal ih1 (hbs.le l) hbb hbl ih2
structure PP where
 decls:List i6
 body:List PT
structure PH (H:Hp) (p:g9) (q:PP):Prop where
 d:SlH H 2 u1 p.a0f q.decls
 bd:q.decls.length≤big
 b:∃xs,SlH H 6 k7 p.a5h xs∧xs.length≤big∧u5 (SH H) xs q.body
theorem PH.le{H H':Hp}{p:g9}{q:PP}(h:PH H p q)(l:Hle H H'):PH H' p q:=by
 obtain ⟨a,b,xs,c,d,e⟩:=h
 exact ⟨a.le l,b,xs,c.le l,d,e.mono fun _ _=>SH.le l⟩
open Classical in
noncomputable def eqT(a b:PT):Bool:=decide (a=b)
open Classical in
noncomputable def eqTs(a b:List PT):Bool:=decide (a=b)
theorem b2Z{a b:PT}:eqT a b=true↔a=b:=by unfold eqT;simp
theorem a9G{a b:List PT}:eqTs a b=true↔a=b:=by unfold eqTs;simp
theorem d2e{a b:PT}:eqT a b=false↔a≠b:=by unfold eqT;simp
theorem c0I{a b:List PT}:eqTs a b=false↔a≠b:=by unfold eqTs;simp
theorem b4b{a b:List PT}(h:a.length≠b.length):eqTs a b=false:=c0I.2 fun e=>h (by rw [e])
theorem b5X{a b:List PT}{i:Nat}{x y:PT}(ha:a[i]? = some x)(hb:b[i]? = some y)(h:eqT x y=false):eqTs a b=false:=c0I.2 fun e=>by
 rw [e,hb] at ha;cases ha;exact d2e.1 h rfl
theorem b4c{a b:List PT}(hl:a.length=b.length)(h:∀(i:Nat)(x y:PT),a[i]? = some x→b[i]? = some y→eqT x y=true):eqTs a b=true:=a9G.2 (c0m hl fun i x y ha hb=>b2Z.1 (h i x y ha hb))
theorem c5E{k n:Int}{s:ByteArray}{ts:List PT}{k' n':Int}{s':ByteArray}{ts':List PT}:eqT (.mk (.expr k n s ts.length) ts) (.mk (.expr k' n' s' ts'.length) ts')=(decide (k=k')&&decide (n=n')&&decide (s=s')&&eqTs ts ts'):=by
 rw [Bool.eq_iff_iff,b2Z]
 simp only [Bool.and_eq_true,decide_eq_true_eq,a9G,PT.mk.injEq,Lab.expr.injEq]
 constructor
 ·rintro ⟨⟨rfl,rfl,rfl,_⟩,rfl⟩;exact ⟨⟨⟨rfl,rfl⟩,rfl⟩,rfl⟩
 ·rintro ⟨⟨⟨rfl,rfl⟩,rfl⟩,rfl⟩;exact ⟨⟨rfl,rfl,rfl,rfl⟩,rfl⟩
theorem c5F{k n:Int}{ts us:List PT}{k' n':Int}{ts' us':List PT}:eqT (.mk (.cond k n ts.length us.length) (ts++us)) (.mk (.cond k' n' ts'.length us'.length) (ts'++us'))=(decide (k=k')&&decide (n=n')&&eqTs ts ts'&&eqTs us us'):=by
 rw [Bool.eq_iff_iff,b2Z]
 simp only [Bool.and_eq_true,decide_eq_true_eq,a9G,PT.mk.injEq,Lab.cond.injEq]
 constructor
 ·rintro ⟨⟨rfl,rfl,h1,h2⟩,h⟩
  obtain ⟨rfl,rfl⟩:=List.append_inj h h1
  exact ⟨⟨⟨rfl,rfl⟩,rfl⟩,rfl⟩
 ·rintro ⟨⟨⟨rfl,rfl⟩,rfl⟩,rfl⟩;exact ⟨⟨rfl,rfl,rfl,rfl⟩,rfl⟩
theorem c5G{k:Int}{s:ByteArray}{ts us vs ws:List PT}{k':Int}{s':ByteArray}{ts' us' vs' ws':List PT}:eqT (.mk (.stmt k s ts.length us.length vs.length ws.length) (us++(ts++(vs++ws)))) (.mk (.stmt k' s' ts'.length us'.length vs'.length ws'.length) (us'++(ts'++(vs'++ws'))))=(decide (k=k')&&decide (s=s')&&eqTs ts ts'&&eqTs us us'&&eqTs vs vs'&&eqTs ws ws'):=by
 rw [Bool.eq_iff_iff,b2Z]
 simp only [Bool.and_eq_true,decide_eq_true_eq,a9G,PT.mk.injEq,Lab.stmt.injEq]
 constructor
 ·rintro ⟨⟨rfl,rfl,h1,h2,h3,h4⟩,h⟩
  obtain ⟨e1,h5⟩:=List.append_inj h h2
  obtain ⟨e2,h6⟩:=List.append_inj h5 h1
  obtain ⟨e3,e4⟩:=List.append_inj h6 h3
  subst e1;subst e2;subst e3;subst e4
  exact ⟨⟨⟨⟨⟨rfl,rfl⟩,rfl⟩,rfl⟩,rfl⟩,rfl⟩
 ·rintro ⟨⟨⟨⟨⟨rfl,rfl⟩,rfl⟩,rfl⟩,rfl⟩,rfl⟩;exact ⟨⟨rfl,rfl,rfl,rfl,rfl,rfl⟩,rfl⟩
section
variable {H:Hp}
theorem b1s{sx sy:Sl}{xs ys:List f8}{ts us:List PT}(hx:SlH H 4 f7 sx xs)(hy:SlH H 4 f7 sy ys)(hb:xs.length≤big)(hl:xs.length=ts.length)(hl':ys.length=us.length)
  (ih:∀(i:Nat)(x y:f8)(t u:PT),xs[i]? = some x→ys[i]? = some y→ts[i]? = some t→us[i]? = some u→∀K:Bool→Hp→Prop,K (eqT t u) H→a1k x y H K) {K:Bool→Hp→Prop} (h:K (eqTs ts us) H):m9 sx sy H K:=by
 refine M5 _ _ ?_
 unfold C1
 have n1:=hx.1;have n2:=hy.1
 refine ⟨fun hne=>?_,fun he=>?_⟩
 ·rw [b4b (by omega)] at h;exact h
 refine U6 (fun(i:Int) H'=>0≤i∧i≤xs.length∧H'=H∧∀(j:Nat)(t u:PT),(j:Int) < i→ts[j]? = some t→us[j]? = some u→eqT t u=true) (fun i=>(xs.length-i).toNat) ⟨by omega,by omega,rfl,fun j t u hj=>by omega⟩ ?_
 rintro i H1 next ⟨i0,i1,rfl,hi⟩ hn
 unfold B5
 refine ⟨fun hc=>?_,fun hc=>?_⟩
 ·obtain ⟨x,hxi,hE⟩:=hx.get i0 hc
  obtain ⟨y,hyi,hF⟩:=hy.get i0 (show i < (sy.n:Int) by omega)
  obtain ⟨t,ht⟩:=O9 (l:=ts) (i:=i.toNat) (by have:=P4 hxi;omega)
  obtain ⟨u,hu⟩:=O9 (l:=us) (i:=i.toNat) (by have:=P4 hyi;omega)
  refine ⟨i0,hc,x,hE,i0,by omega,y,hF,ih _ x y t u hxi hyi ht hu _ ⟨fun hq=>?_,fun hq=>?_⟩⟩
  ·have:eqT t u=false:=by simpa using hq
   rw [b5X ht hu this] at h;exact h
  ·have he':eqT t u=true:=by simpa using hq
   rw [a0e i0 (by simp only [big] at hb;omega)]
   refine hn _ _ ⟨by omega,by omega,rfl,fun j t' u' hj ht' hu'=>?_⟩ (by omega)
   by_cases ej:j=i.toNat
   ·subst ej
    rw [ht] at ht';cases ht'
    rw [hu] at hu';cases hu'
    exact he'
   ·exact hi j t' u' (by omega) ht' hu'
 ·have:eqTs ts us=true:=b4c (by omega) fun j t u ht hu=>hi j t u (by have:=P4 ht;omega) ht hu
  rw [this] at h;exact h
theorem b4W{sx sy:Sl}{xs ys:List i7}{ts us:List PT}(hx:SlH H 4 g7 sx xs)(hy:SlH H 4 g7 sy ys)(hb:xs.length≤big)(hl:xs.length=ts.length)(hl':ys.length=us.length)
  (ih:∀(i:Nat)(x y:i7)(t u:PT),xs[i]? = some x→ys[i]? = some y→ts[i]? = some t→us[i]? = some u→∀K:Bool→Hp→Prop,K (eqT t u) H→a1l x y H K) {K:Bool→Hp→Prop} (h:K (eqTs ts us) H):q7 sx sy H K:=by
 refine M7 _ _ ?_
 unfold C3
 have n1:=hx.1;have n2:=hy.1
 refine ⟨fun hne=>?_,fun he=>?_⟩
 ·rw [b4b (by omega)] at h;exact h
 refine U6 (fun(i:Int) H'=>0≤i∧i≤xs.length∧H'=H∧∀(j:Nat)(t u:PT),(j:Int) < i→ts[j]? = some t→us[j]? = some u→eqT t u=true) (fun i=>(xs.length-i).toNat) ⟨by omega,by omega,rfl,fun j t u hj=>by omega⟩ ?_
 rintro i H1 next ⟨i0,i1,rfl,hi⟩ hn
 unfold B9
 refine ⟨fun hc=>?_,fun hc=>?_⟩
 ·obtain ⟨x,hxi,hE⟩:=hx.get i0 hc
  obtain ⟨y,hyi,hF⟩:=hy.get i0 (show i < (sy.n:Int) by omega)
  obtain ⟨t,ht⟩:=O9 (l:=ts) (i:=i.toNat) (by have:=P4 hxi;omega)
  obtain ⟨u,hu⟩:=O9 (l:=us) (i:=i.toNat) (by have:=P4 hyi;omega)
  refine ⟨i0,hc,x,hE,i0,by omega,y,hF,ih _ x y t u hxi hyi ht hu _ ⟨fun hq=>?_,fun hq=>?_⟩⟩
  ·have:eqT t u=false:=by simpa using hq
   rw [b5X ht hu this] at h;exact h
  ·have he':eqT t u=true:=by simpa using hq
   rw [a0e i0 (by simp only [big] at hb;omega)]
   refine hn _ _ ⟨by omega,by omega,rfl,fun j t' u' hj ht' hu'=>?_⟩ (by omega)
   by_cases ej:j=i.toNat
   ·subst ej
    rw [ht] at ht';cases ht'
    rw [hu] at hu';cases hu'
    exact he'
   ·exact hi j t' u' (by omega) ht' hu'
 ·have:eqTs ts us=true:=b4c (by omega) fun j t u ht hu=>hi j t u (by have:=P4 ht;omega) ht hu
  rw [this] at h;exact h
theorem b1t{sx sy:Sl}{xs ys:List d9}{ts us:List PT}(hx:SlH H 6 k7 sx xs)(hy:SlH H 6 k7 sy ys)(hb:xs.length≤big)(hl:xs.length=ts.length)(hl':ys.length=us.length)
  (ih:∀(i:Nat)(x y:d9)(t u:PT),xs[i]? = some x→ys[i]? = some y→ts[i]? = some t→us[i]? = some u→∀K:Bool→Hp→Prop,K (eqT t u) H→a1m x y H K) {K:Bool→Hp→Prop} (h:K (eqTs ts us) H):l8 sx sy H K:=by
 refine M6 _ _ ?_
 unfold C2
 have n1:=hx.1;have n2:=hy.1
 refine ⟨fun hne=>?_,fun he=>?_⟩
 ·rw [b4b (by omega)] at h;exact h
 refine U6 (fun(i:Int) H'=>0≤i∧i≤xs.length∧H'=H∧∀(j:Nat)(t u:PT),(j:Int) < i→ts[j]? = some t→us[j]? = some u→eqT t u=true) (fun i=>(xs.length-i).toNat) ⟨by omega,by omega,rfl,fun j t u hj=>by omega⟩ ?_
 rintro i H1 next ⟨i0,i1,rfl,hi⟩ hn
 unfold B7
 refine ⟨fun hc=>?_,fun hc=>?_⟩
 ·obtain ⟨x,hxi,hE⟩:=hx.get i0 hc
  obtain ⟨y,hyi,hF⟩:=hy.get i0 (show i < (sy.n:Int) by omega)
  obtain ⟨t,ht⟩:=O9 (l:=ts) (i:=i.toNat) (by have:=P4 hxi;omega)
  obtain ⟨u,hu⟩:=O9 (l:=us) (i:=i.toNat) (by have:=P4 hyi;omega)
  refine ⟨i0,hc,x,hE,i0,by omega,y,hF,ih _ x y t u hxi hyi ht hu _ ⟨fun hq=>?_,fun hq=>?_⟩⟩
  ·have:eqT t u=false:=by simpa using hq
   rw [b5X ht hu this] at h;exact h
  ·have he':eqT t u=true:=by simpa using hq
   rw [a0e i0 (by simp only [big] at hb;omega)]
   refine hn _ _ ⟨by omega,by omega,rfl,fun j t' u' hj ht' hu'=>?_⟩ (by omega)
   by_cases ej:j=i.toNat
   ·subst ej
    rw [ht] at ht';cases ht'
    rw [hu] at hu';cases hu'
    exact he'
   ·exact hi j t' u' (by omega) ht' hu'
 ·have:eqTs ts us=true:=b4c (by omega) fun j t u ht hu=>hi j t u (by have:=P4 ht;omega) ht hu
  rw [this] at h;exact h
theorem b3F{e e':f8}{t t':PT}(he:EH H e t)(he':EH H e' t'){K:Bool→Hp→Prop}(h:K (eqT t t') H):a1k e e' H K:=by
 induction he generalizing e' t' K with
 | @mk e xs ts hs hb hl _ ih=>
  cases he' with
  | @mk _ xs' ts' hs' hb' hl' hr'=>
   refine b0r _ _ ?_
   unfold a5W
   refine a1F (eqTs ts ts') (fun _ K' hk=>b1s hs hs' hb hl hl' (fun i x y t u hx hy ht hu K hK=>ih i x t hx ht (hr' i y u hy hu) hK) hk) ?_
   rw [c5E] at h
   generalize (decide (e.d6=e'.d6)&&decide (e.M4=e'.M4)&&decide (e.o8=e'.o8))=q at h ⊢
   generalize eqTs ts ts'=a at h ⊢
   cases q<;>cases a<;>exact h
theorem b9Q{e e':i7}{t t':PT}(he:CH H e t)(he':CH H e' t'){K:Bool→Hp→Prop}(h:K (eqT t t') H):a1l e e' H K:=by
 induction he generalizing e' t' K with
 | @mk e xs ts ys us hs hb hr hc hcb hcl _ ih=>
  cases he' with
  | @mk _ xs' ts' ys' us' hs' hb' hr' hc' hcb' hcl' hcr'=>
   refine b0o _ _ ?_
   unfold a5S
   refine a1F (eqTs ts ts') (fun _ K' hk=>b1s hs hs' hb hr.1 hr'.1 (fun i x y t u hx hy ht hu K hK=>b3F (hr.2 i x t hx ht) (hr'.2 i y u hy hu) hK) hk) ?_
   refine a1F (eqTs us us') (fun _ K' hk=>b4W hc hc' hcb hcl hcl' (fun i x y t u hx hy ht hu K hK=>ih i x t hx ht (hcr' i y u hy hu) hK) hk) ?_
   rw [c5F] at h
   generalize (decide (e.d6=e'.d6)&&decide (e.fOp=e'.fOp))=q at h ⊢
   generalize eqTs ts ts'=a at h ⊢
   generalize eqTs us us'=b at h ⊢
   cases q<;>cases a<;>cases b<;>exact h
theorem b9R{e e':d9}{t t':PT}(he:SH H e t)(he':SH H e' t'){K:Bool→Hp→Prop}(h:K (eqT t t') H):a1m e e' H K:=by
 induction he generalizing e' t' K with
 | @mk e xs ts ys us zs bs vs ws hs hb hr hc hcb hcr ha hab hal _ hbs hbb hbl _ iha ihb=>
  cases he' with
  | @mk _ xs' ts' ys' us' zs' bs' vs' ws' hs' hb' hr' hc' hcb' hcr' ha' hab' hal' har' hbs' hbb' hbl' hbr'=>
   refine b0p _ _ ?_
   unfold a5T
   refine a1F (eqTs ts ts') (fun _ K' hk=>b1s hs hs' hb hr.1 hr'.1 (fun i x y t u hx hy ht hu K hK=>b3F (hr.2 i x t hx ht) (hr'.2 i y u hy hu) hK) hk) ?_
   refine a1F (eqTs us us') (fun _ K' hk=>b4W hc hc' hcb hcr.1 hcr'.1 (fun i x y t u hx hy ht hu K hK=>b9Q (hcr.2 i x t hx ht) (hcr'.2 i y u hy hu) hK) hk) ?_
   refine a1F (eqTs vs vs') (fun _ K' hk=>b1t ha ha' hab hal hal' (fun i x y t u hx hy ht hu K hK=>iha i x t hx ht (har' i y u hy hu) hK) hk) ?_
   refine a1F (eqTs ws ws') (fun _ K' hk=>b1t hbs hbs' hbb hbl hbl' (fun i x y t u hx hy ht hu K hK=>ihb i x t hx ht (hbr' i y u hy hu) hK) hk) ?_
   rw [c5G] at h
   generalize (decide (e.d6=e'.d6)&&decide (e.o8=e'.o8))=q at h ⊢
   generalize eqTs ts ts'=a at h ⊢
   generalize eqTs us us'=b at h ⊢
   generalize eqTs vs vs'=c at h ⊢
   generalize eqTs ws ws'=d at h ⊢
   cases q<;>cases a<;>cases b<;>cases c<;>cases d<;>exact h
theorem b8m{sx sy:Sl}{xs ys:List i6}(hx:SlH H 2 u1 sx xs)(hy:SlH H 2 u1 sy ys)(hb:xs.length≤big){K:Bool→Hp→Prop}(h:(xs=ys→K true H)∧(xs≠ys→K false H)):L0 sx sy H K:=by
 refine a2U _ _ ?_
 unfold X6
 have n1:=hx.1;have n2:=hy.1
 refine ⟨fun hne=>h.2 fun e=>by subst e;omega,fun he=>?_⟩
 refine U6 (fun(i:Int) H'=>0≤i∧i≤xs.length∧H'=H∧∀(j:Nat)(t u:i6),(j:Int) < i→xs[j]? = some t→ys[j]? = some u→t=u) (fun i=>(xs.length-i).toNat) ⟨by omega,by omega,rfl,fun j t u hj=>by omega⟩ ?_
 rintro i H1 next ⟨i0,i1,rfl,hi⟩ hn
 unfold W1
 refine ⟨fun hc=>?_,fun hc=>?_⟩
 ·obtain ⟨x,hxi,hE⟩:=hx.get i0 hc
  obtain ⟨y,hyi,hF⟩:=hy.get i0 (show i < (sy.n:Int) by omega)
  refine ⟨i0,hc,x,hE,i0,by omega,y,hF,fun hq=>h.2 fun e=>?_,fun hq=>?_⟩
  ·subst e;rw [hxi] at hyi;cases hyi;exact hq ⟨rfl,rfl⟩
  ·rw [a0e i0 (by simp only [big] at hb;omega)]
   refine hn _ _ ⟨by omega,by omega,rfl,fun j t' u' hj ht' hu'=>?_⟩ (by omega)
   by_cases ej:j=i.toNat
   ·subst ej
    rw [hxi] at ht';cases ht'
    rw [hyi] at hu';cases hu'
    cases x;cases y;simp_all
   ·exact hi j t' u' (by omega) ht' hu'
 ·exact h.1 (c0m (by omega) fun j t u ht hu=>hi j t u (by have:=P4 ht;omega) ht hu)
end
section
variable {H:Hp}
structure W where
 fn:Int
 fdepth:Int
 fbad:Int
def wStep(s:W)(d:Int):W:=if s.fbad=0 then (if s.fn=4096 then ⟨s.fn,s.fdepth,33⟩ else if 64 < d then ⟨s.fn,s.fdepth,32⟩ else ⟨s.fn+1,if d > s.fdepth then d else s.fdepth,0⟩) else s
mutual
def wT:PT→Int→W→W
 | .mk _ cs,d,s=>wTs cs (d+1) (wStep s d)
def wTs:List PT→Int→W→W
 | [],_,s=>s
 | t::ts,d,s=>wTs ts d (wT t d s)
end
mutual
theorem d2f:∀(t:PT)(d:Int)(s:W),s.fbad≠0→wT t d s=s
 | .mk _ cs,d,s,h=>by
  have:wStep s d=s:=by unfold wStep;rw [if_neg h]
  rw [wT,this];exact a5x cs _ _ h
theorem a5x:∀(ts:List PT)(d:Int)(s:W),s.fbad≠0→wTs ts d s=s
 | [],_,s,h=>by rw [wTs]
 | t::ts,d,s,h=>by rw [wTs,d2f t d s h];exact a5x ts d s h
end
def dT(d:i6):PT:=.mk (.decl d.D4 d.o8) []
def PP.nodes(q:PP):List PT:=q.decls.map dT++q.body
def w0S:W:=⟨0,0,0⟩
end
end Go.Proofs.YtoflkliecagjcaaGreatDoor
