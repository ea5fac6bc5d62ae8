/- Trees: plain ones, how they lie in the frozen heap; whether two are the same, by the program and by the document. Contracts off the printed formulas. -/
import Derived.Test.YtpgelfheccpejaaDooryCB
import Derived.Test.YtpgelfheccpejaaDooryCV1a
import Derived.Test.YtpgelfheccpejaaDooryCV1b
import Derived.Test.YtpgelfheccpejaaDooryCV1c
import Derived.Test.YtpgelfheccpejaaDooryCV1d
namespace Go.Proofs.YtpgelfheccpejaaDoor
open Go.RowKit
set_option maxRecDepth 100000
set_option maxHeartbeats 2000000
inductive Lab where
 | decl (size:Int) (name:ByteArray)
 | stmt (kind:Int) (name:ByteArray) (e c t f:Nat)
 | cond (kind op:Int) (e p:Nat)
 | expr (kind num:Int) (name:ByteArray) (n:Nat)
inductive PT where
 | mk (l:Lab) (cs:List PT)
def PT.lab:PT→Lab | .mk l _=>l
def PT.kids:PT→List PT | .mk _ cs=>cs
abbrev big:Nat:=1099511627776
inductive EH (H:Hp):b8→PT→Prop
 | mk {e:b8} {xs:List b8} {ts:List PT}:SlH H 4 c7 e.v7 xs→xs.length≤big→xs.length=ts.length→(∀(i:Nat)(x:b8)(t:PT),xs[i]? = some x→ts[i]? = some t→EH H x t)→EH H e (.mk (.expr e.b7 e.M8 e.f4 ts.length) ts)
inductive CH (H:Hp):b9→PT→Prop
 | mk {c:b9} {xs:List b8} {ts:List PT} {ys:List b9} {us:List PT}:SlH H 4 c7 c.d5 xs→xs.length≤big→q7 (EH H) xs ts→SlH H 4 c9 c.q6 ys→ys.length≤big→ys.length=us.length→(∀(i:Nat)(x:b9)(t:PT),ys[i]? = some x→us[i]? = some t→CH H x t)→CH H c (.mk (.cond c.b7 c.fOp ts.length us.length) (ts++us))
inductive SH (H:Hp):c6→PT→Prop
 | mk {s:c6} {xs:List b8} {ts:List PT} {ys:List b9} {us:List PT} {zs bs:List c6} {vs ws:List PT}:SlH H 4 c7 s.d5 xs→xs.length≤big→q7 (EH H) xs ts→SlH H 4 c9 s.m8 ys→ys.length≤big→q7 (CH H) ys us→
   SlH H 6 c5 s.B1 zs→zs.length≤big→zs.length=vs.length→(∀(i:Nat)(x:c6)(t:PT),zs[i]? = some x→vs[i]? = some t→SH H x t)→
   SlH H 6 c5 s.A8 bs→bs.length≤big→bs.length=ws.length→(∀(i:Nat)(x:c6)(t:PT),bs[i]? = some x→ws[i]? = some t→SH H x t)→
   SH H s (.mk (.stmt s.b7 s.f4 ts.length us.length vs.length ws.length) (us++(ts++(vs++ws))))
theorem EH.le{H H':Hp}(l:Hle H H'){e:b8}{t:PT}(h:EH H e t):EH H' e t:=by
 induction h with
 | mk hs hb hl _ ih=>exact .mk (hs.le l) hb hl ih
theorem CH.le{H H':Hp}(l:Hle H H'){e:b9}{t:PT}(h:CH H e t):CH H' e t:=by
 induction h with
 | mk hs hb hr hy hc hl _ ih=>exact .mk (hs.le l) hb (hr.mono fun _ _=>EH.le l) (hy.le l) hc hl ih
theorem SH.le{H H':Hp}(l:Hle H H'){e:c6}{t:PT}(h:SH H e t):SH H' e t:=by
 induction h with
 | mk hs hb hr hy hc hrc ha hab hal _ hbs hbb hbl _ ih1 ih2=>exact .mk (hs.le l) hb (hr.mono fun _ _=>EH.le l) (hy.le l) hc (hrc.mono fun _ _=>CH.le l) (ha.le l) hab hal ih1 (hbs.le l) hbb hbl ih2
structure PP where
 decls:List s7
 body:List PT
structure PH (H:Hp) (p:d4) (q:PP):Prop where
 d:SlH H 2 j8 p.B3 q.decls
 bd:q.decls.length≤big
 b:∃xs,SlH H 6 c5 p.M7 xs∧xs.length≤big∧q7 (SH H) xs q.body
theorem PH.le{H H':Hp}{p:d4}{q:PP}(h:PH H p q)(l:Hle H H'):PH H' p q:=by
 obtain ⟨a,b,xs,c,d,e⟩:=h
 exact ⟨a.le l,b,xs,c.le l,d,e.mono fun _ _=>SH.le l⟩
open Classical in
noncomputable def eqT(a b:PT):Bool:=decide (a=b)
open Classical in
noncomputable def eqTs(a b:List PT):Bool:=decide (a=b)
theorem a8l{a b:PT}:eqT a b=true↔a=b:=by unfold eqT;simp
theorem a4W{a b:List PT}:eqTs a b=true↔a=b:=by unfold eqTs;simp
theorem b9J{a b:PT}:eqT a b=false↔a≠b:=by unfold eqT;simp
theorem b2Y{a b:List PT}:eqTs a b=false↔a≠b:=by unfold eqTs;simp
theorem a2O{a b:List PT}(h:a.length≠b.length):eqTs a b=false:=b2Y.2 fun e=>h (by rw [e])
theorem a3L{a b:List PT}{i:Nat}{x y:PT}(ha:a[i]? = some x)(hb:b[i]? = some y)(h:eqT x y=false):eqTs a b=false:=b2Y.2 fun e=>by
 rw [e,hb] at ha;cases ha;exact b9J.1 h rfl
theorem a7l{a b:List PT}(hl:a.length=b.length)(h:∀(i:Nat)(x y:PT),a[i]? = some x→b[i]? = some y→eqT x y=true):eqTs a b=true:=a4W.2 (a9w hl fun i x y ha hb=>a8l.1 (h i x y ha hb))
theorem b2k{k n:Int}{s:ByteArray}{ts:List PT}{k' n':Int}{s':ByteArray}{ts':List PT}:eqT (.mk (.expr k n s ts.length) ts) (.mk (.expr k' n' s' ts'.length) ts')=(decide (k=k')&&decide (n=n')&&decide (s=s')&&eqTs ts ts'):=by
 rw [Bool.eq_iff_iff,a8l]
 simp only [Bool.and_eq_true,decide_eq_true_eq,a4W,PT.mk.injEq,Lab.expr.injEq]
 constructor
 ·rintro ⟨⟨rfl,rfl,rfl,_⟩,rfl⟩;exact ⟨⟨⟨rfl,rfl⟩,rfl⟩,rfl⟩
 ·rintro ⟨⟨⟨rfl,rfl⟩,rfl⟩,rfl⟩;exact ⟨⟨rfl,rfl,rfl,rfl⟩,rfl⟩
theorem b2l{k n:Int}{ts us:List PT}{k' n':Int}{ts' us':List PT}:eqT (.mk (.cond k n ts.length us.length) (ts++us)) (.mk (.cond k' n' ts'.length us'.length) (ts'++us'))=(decide (k=k')&&decide (n=n')&&eqTs ts ts'&&eqTs us us'):=by
 rw [Bool.eq_iff_iff,a8l]
 simp only [Bool.and_eq_true,decide_eq_true_eq,a4W,PT.mk.injEq,Lab.cond.injEq]
 constructor
 ·rintro ⟨⟨rfl,rfl,h1,h2⟩,h⟩
  obtain ⟨rfl,rfl⟩:=List.append_inj h h1
  exact ⟨⟨⟨rfl,rfl⟩,rfl⟩,rfl⟩
 ·rintro ⟨⟨⟨rfl,rfl⟩,rfl⟩,rfl⟩;exact ⟨⟨rfl,rfl,rfl,rfl⟩,rfl⟩
theorem b2m{k:Int}{s:ByteArray}{ts us vs ws:List PT}{k':Int}{s':ByteArray}{ts' us' vs' ws':List PT}:eqT (.mk (.stmt k s ts.length us.length vs.length ws.length) (us++(ts++(vs++ws)))) (.mk (.stmt k' s' ts'.length us'.length vs'.length ws'.length) (us'++(ts'++(vs'++ws'))))=(decide (k=k')&&decide (s=s')&&eqTs ts ts'&&eqTs us us'&&eqTs vs vs'&&eqTs ws ws'):=by
 rw [Bool.eq_iff_iff,a8l]
 simp only [Bool.and_eq_true,decide_eq_true_eq,a4W,PT.mk.injEq,Lab.stmt.injEq]
 constructor
 ·rintro ⟨⟨rfl,rfl,h1,h2,h3,h4⟩,h⟩
  obtain ⟨e1,h5⟩:=List.append_inj h h2
  obtain ⟨e2,h6⟩:=List.append_inj h5 h1
  obtain ⟨e3,e4⟩:=List.append_inj h6 h3
  subst e1;subst e2;subst e3;subst e4
  exact ⟨⟨⟨⟨⟨rfl,rfl⟩,rfl⟩,rfl⟩,rfl⟩,rfl⟩
 ·rintro ⟨⟨⟨⟨⟨rfl,rfl⟩,rfl⟩,rfl⟩,rfl⟩,rfl⟩;exact ⟨⟨rfl,rfl,rfl,rfl,rfl,rfl⟩,rfl⟩
section
variable {H:Hp}
theorem a7m{sx sy:Sl}{xs ys:List b8}{ts us:List PT}(hx:SlH H 4 c7 sx xs)(hy:SlH H 4 c7 sy ys)(hb:xs.length≤big)(hl:xs.length=ts.length)(hl':ys.length=us.length)
  (ih:∀(i:Nat)(x y:b8)(t u:PT),xs[i]? = some x→ys[i]? = some y→ts[i]? = some t→us[i]? = some u→∀K:Bool→Hp→Prop,K (eqT t u) H→a0G x y H K) {K:Bool→Hp→Prop} (h:K (eqTs ts us) H):g7 sx sy H K:=by
 refine G5 _ _ ?_
 unfold p8
 have n1:=hx.1;have n2:=hy.1
 refine ⟨fun hne=>?_,fun he=>?_⟩
 ·rw [a2O (by omega)] at h;exact h
 refine N1 (fun(i:Int) H'=>0≤i∧i≤xs.length∧H'=H∧∀(j:Nat)(t u:PT),(j:Int) < i→ts[j]? = some t→us[j]? = some u→eqT t u=true) (fun i=>(xs.length-i).toNat) ⟨by omega,by omega,rfl,fun j t u hj=>by omega⟩ ?_
 rintro i H1 next ⟨i0,i1,rfl,hi⟩ hn
 unfold o8
 refine ⟨fun hc=>?_,fun hc=>?_⟩
 ·obtain ⟨x,hxi,hE⟩:=hx.get i0 hc
  obtain ⟨y,hyi,hF⟩:=hy.get i0 (show i < (sy.n:Int) by omega)
  obtain ⟨t,ht⟩:=A7 (l:=ts) (i:=i.toNat) (by have:=t7 hxi;omega)
  obtain ⟨u,hu⟩:=A7 (l:=us) (i:=i.toNat) (by have:=t7 hyi;omega)
  refine ⟨i0,hc,x,hE,i0,by omega,y,hF,ih _ x y t u hxi hyi ht hu _ ⟨fun hq=>?_,fun hq=>?_⟩⟩
  ·have:eqT t u=false:=by simpa using hq
   rw [a3L ht hu this] at h;exact h
  ·have he':eqT t u=true:=by simpa using hq
   rw [r7 i0 (by simp only [big] at hb;omega)]
   refine hn _ _ ⟨by omega,by omega,rfl,fun j t' u' hj ht' hu'=>?_⟩ (by omega)
   by_cases ej:j=i.toNat
   ·subst ej
    rw [ht] at ht';cases ht'
    rw [hu] at hu';cases hu'
    exact he'
   ·exact hi j t' u' (by omega) ht' hu'
 ·have:eqTs ts us=true:=a7l (by omega) fun j t u ht hu=>hi j t u (by have:=t7 ht;omega) ht hu
  rw [this] at h;exact h
theorem a9h{sx sy:Sl}{xs ys:List b9}{ts us:List PT}(hx:SlH H 4 c9 sx xs)(hy:SlH H 4 c9 sy ys)(hb:xs.length≤big)(hl:xs.length=ts.length)(hl':ys.length=us.length)
  (ih:∀(i:Nat)(x y:b9)(t u:PT),xs[i]? = some x→ys[i]? = some y→ts[i]? = some t→us[i]? = some u→∀K:Bool→Hp→Prop,K (eqT t u) H→a0H x y H K) {K:Bool→Hp→Prop} (h:K (eqTs ts us) H):i7 sx sy H K:=by
 refine G3 _ _ ?_
 unfold p6
 have n1:=hx.1;have n2:=hy.1
 refine ⟨fun hne=>?_,fun he=>?_⟩
 ·rw [a2O (by omega)] at h;exact h
 refine N1 (fun(i:Int) H'=>0≤i∧i≤xs.length∧H'=H∧∀(j:Nat)(t u:PT),(j:Int) < i→ts[j]? = some t→us[j]? = some u→eqT t u=true) (fun i=>(xs.length-i).toNat) ⟨by omega,by omega,rfl,fun j t u hj=>by omega⟩ ?_
 rintro i H1 next ⟨i0,i1,rfl,hi⟩ hn
 unfold o4
 refine ⟨fun hc=>?_,fun hc=>?_⟩
 ·obtain ⟨x,hxi,hE⟩:=hx.get i0 hc
  obtain ⟨y,hyi,hF⟩:=hy.get i0 (show i < (sy.n:Int) by omega)
  obtain ⟨t,ht⟩:=A7 (l:=ts) (i:=i.toNat) (by have:=t7 hxi;omega)
  obtain ⟨u,hu⟩:=A7 (l:=us) (i:=i.toNat) (by have:=t7 hyi;omega)
  refine ⟨i0,hc,x,hE,i0,by omega,y,hF,ih _ x y t u hxi hyi ht hu _ ⟨fun hq=>?_,fun hq=>?_⟩⟩
  ·have:eqT t u=false:=by simpa using hq
   rw [a3L ht hu this] at h;exact h
  ·have he':eqT t u=true:=by simpa using hq
   rw [r7 i0 (by simp only [big] at hb;omega)]
   refine hn _ _ ⟨by omega,by omega,rfl,fun j t' u' hj ht' hu'=>?_⟩ (by omega)
   by_cases ej:j=i.toNat
   ·subst ej
    rw [ht] at ht';cases ht'
    rw [hu] at hu';cases hu'
    exact he'
   ·exact hi j t' u' (by omega) ht' hu'
 ·have:eqTs ts us=true:=a7l (by omega) fun j t u ht hu=>hi j t u (by have:=t7 ht;omega) ht hu
  rw [this] at h;exact h
theorem a7n{sx sy:Sl}{xs ys:List c6}{ts us:List PT}(hx:SlH H 6 c5 sx xs)(hy:SlH H 6 c5 sy ys)(hb:xs.length≤big)(hl:xs.length=ts.length)(hl':ys.length=us.length)
  (ih:∀(i:Nat)(x y:c6)(t u:PT),xs[i]? = some x→ys[i]? = some y→ts[i]? = some t→us[i]? = some u→∀K:Bool→Hp→Prop,K (eqT t u) H→a0I x y H K) {K:Bool→Hp→Prop} (h:K (eqTs ts us) H):d9 sx sy H K:=by
 refine G4 _ _ ?_
 unfold p7
 have n1:=hx.1;have n2:=hy.1
 refine ⟨fun hne=>?_,fun he=>?_⟩
 ·rw [a2O (by omega)] at h;exact h
 refine N1 (fun(i:Int) H'=>0≤i∧i≤xs.length∧H'=H∧∀(j:Nat)(t u:PT),(j:Int) < i→ts[j]? = some t→us[j]? = some u→eqT t u=true) (fun i=>(xs.length-i).toNat) ⟨by omega,by omega,rfl,fun j t u hj=>by omega⟩ ?_
 rintro i H1 next ⟨i0,i1,rfl,hi⟩ hn
 unfold o6
 refine ⟨fun hc=>?_,fun hc=>?_⟩
 ·obtain ⟨x,hxi,hE⟩:=hx.get i0 hc
  obtain ⟨y,hyi,hF⟩:=hy.get i0 (show i < (sy.n:Int) by omega)
  obtain ⟨t,ht⟩:=A7 (l:=ts) (i:=i.toNat) (by have:=t7 hxi;omega)
  obtain ⟨u,hu⟩:=A7 (l:=us) (i:=i.toNat) (by have:=t7 hyi;omega)
  refine ⟨i0,hc,x,hE,i0,by omega,y,hF,ih _ x y t u hxi hyi ht hu _ ⟨fun hq=>?_,fun hq=>?_⟩⟩
  ·have:eqT t u=false:=by simpa using hq
   rw [a3L ht hu this] at h;exact h
  ·have he':eqT t u=true:=by simpa using hq
   rw [r7 i0 (by simp only [big] at hb;omega)]
   refine hn _ _ ⟨by omega,by omega,rfl,fun j t' u' hj ht' hu'=>?_⟩ (by omega)
   by_cases ej:j=i.toNat
   ·subst ej
    rw [ht] at ht';cases ht'
    rw [hu] at hu';cases hu'
    exact he'
   ·exact hi j t' u' (by omega) ht' hu'
 ·have:eqTs ts us=true:=a7l (by omega) fun j t u ht hu=>hi j t u (by have:=t7 ht;omega) ht hu
  rw [this] at h;exact h
theorem a8A{e e':b8}{t t':PT}(he:EH H e t)(he':EH H e' t'){K:Bool→Hp→Prop}(h:K (eqT t t') H):a0G e e' H K:=by
 induction he generalizing e' t' K with
 | @mk e xs ts hs hb hl _ ih=>
  cases he' with
  | @mk _ xs' ts' hs' hb' hl' hr'=>
   refine a6t _ _ ?_
   unfold a2k
   refine U8 (eqTs ts ts') (fun _ K' hk=>a7m hs hs' hb hl hl' (fun i x y t u hx hy ht hu K hK=>ih i x t hx ht (hr' i y u hy hu) hK) hk) ?_
   rw [b2k] at h
   generalize (decide (e.b7=e'.b7)&&decide (e.M8=e'.M8)&&decide (e.f4=e'.f4))=q at h ⊢
   generalize eqTs ts ts'=a at h ⊢
   cases q<;>cases a<;>exact h
theorem b2N{e e':b9}{t t':PT}(he:CH H e t)(he':CH H e' t'){K:Bool→Hp→Prop}(h:K (eqT t t') H):a0H e e' H K:=by
 induction he generalizing e' t' K with
 | @mk e xs ts ys us hs hb hr hc hcb hcl _ ih=>
  cases he' with
  | @mk _ xs' ts' ys' us' hs' hb' hr' hc' hcb' hcl' hcr'=>
   refine a6A _ _ ?_
   unfold a2s
   refine U8 (eqTs ts ts') (fun _ K' hk=>a7m hs hs' hb hr.1 hr'.1 (fun i x y t u hx hy ht hu K hK=>a8A (hr.2 i x t hx ht) (hr'.2 i y u hy hu) hK) hk) ?_
   refine U8 (eqTs us us') (fun _ K' hk=>a9h hc hc' hcb hcl hcl' (fun i x y t u hx hy ht hu K hK=>ih i x t hx ht (hcr' i y u hy hu) hK) hk) ?_
   rw [b2l] at h
   generalize (decide (e.b7=e'.b7)&&decide (e.fOp=e'.fOp))=q at h ⊢
   generalize eqTs ts ts'=a at h ⊢
   generalize eqTs us us'=b at h ⊢
   cases q<;>cases a<;>cases b<;>exact h
theorem b2O{e e':c6}{t t':PT}(he:SH H e t)(he':SH H e' t'){K:Bool→Hp→Prop}(h:K (eqT t t') H):a0I e e' H K:=by
 induction he generalizing e' t' K with
 | @mk e xs ts ys us zs bs vs ws hs hb hr hc hcb hcr ha hab hal _ hbs hbb hbl _ iha ihb=>
  cases he' with
  | @mk _ xs' ts' ys' us' zs' bs' vs' ws' hs' hb' hr' hc' hcb' hcr' ha' hab' hal' har' hbs' hbb' hbl' hbr'=>
   refine a6w _ _ ?_
   unfold a2p
   refine U8 (eqTs ts ts') (fun _ K' hk=>a7m hs hs' hb hr.1 hr'.1 (fun i x y t u hx hy ht hu K hK=>a8A (hr.2 i x t hx ht) (hr'.2 i y u hy hu) hK) hk) ?_
   refine U8 (eqTs us us') (fun _ K' hk=>a9h hc hc' hcb hcr.1 hcr'.1 (fun i x y t u hx hy ht hu K hK=>b2N (hcr.2 i x t hx ht) (hcr'.2 i y u hy hu) hK) hk) ?_
   refine U8 (eqTs vs vs') (fun _ K' hk=>a7n ha ha' hab hal hal' (fun i x y t u hx hy ht hu K hK=>iha i x t hx ht (har' i y u hy hu) hK) hk) ?_
   refine U8 (eqTs ws ws') (fun _ K' hk=>a7n hbs hbs' hbb hbl hbl' (fun i x y t u hx hy ht hu K hK=>ihb i x t hx ht (hbr' i y u hy hu) hK) hk) ?_
   rw [b2m] at h
   generalize (decide (e.b7=e'.b7)&&decide (e.f4=e'.f4))=q at h ⊢
   generalize eqTs ts ts'=a at h ⊢
   generalize eqTs us us'=b at h ⊢
   generalize eqTs vs vs'=c at h ⊢
   generalize eqTs ws ws'=d at h ⊢
   cases q<;>cases a<;>cases b<;>cases c<;>cases d<;>exact h
theorem b2n{sx sy:Sl}{xs ys:List s7}(hx:SlH H 2 j8 sx xs)(hy:SlH H 2 j8 sy ys)(hb:xs.length≤big){K:Bool→Hp→Prop}(h:(xs=ys→K true H)∧(xs≠ys→K false H)):D9 sx sy H K:=by
 refine a1T _ _ ?_
 unfold L6
 have n1:=hx.1;have n2:=hy.1
 refine ⟨fun hne=>h.2 fun e=>by subst e;omega,fun he=>?_⟩
 refine N1 (fun(i:Int) H'=>0≤i∧i≤xs.length∧H'=H∧∀(j:Nat)(t u:s7),(j:Int) < i→xs[j]? = some t→ys[j]? = some u→t=u) (fun i=>(xs.length-i).toNat) ⟨by omega,by omega,rfl,fun j t u hj=>by omega⟩ ?_
 rintro i H1 next ⟨i0,i1,rfl,hi⟩ hn
 unfold K4
 refine ⟨fun hc=>?_,fun hc=>?_⟩
 ·obtain ⟨x,hxi,hE⟩:=hx.get i0 hc
  obtain ⟨y,hyi,hF⟩:=hy.get i0 (show i < (sy.n:Int) by omega)
  refine ⟨i0,hc,x,hE,i0,by omega,y,hF,fun hq=>h.2 fun e=>?_,fun hq=>?_⟩
  ·subst e;rw [hxi] at hyi;cases hyi;exact hq ⟨rfl,rfl⟩
  ·rw [r7 i0 (by simp only [big] at hb;omega)]
   refine hn _ _ ⟨by omega,by omega,rfl,fun j t' u' hj ht' hu'=>?_⟩ (by omega)
   by_cases ej:j=i.toNat
   ·subst ej
    rw [hxi] at ht';cases ht'
    rw [hyi] at hu';cases hu'
    cases x;cases y;simp_all
   ·exact hi j t' u' (by omega) ht' hu'
 ·exact h.1 (a9w (by omega) fun j t u ht hu=>hi j t u (by have:=t7 ht;omega) ht hu)
end
end Go.Proofs.YtpgelfheccpejaaDoor
