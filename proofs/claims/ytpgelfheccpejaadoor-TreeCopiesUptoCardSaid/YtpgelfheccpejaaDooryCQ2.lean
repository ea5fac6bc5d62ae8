/- The document's trees: whether two are the same; how many nodes, how deep. Contracts off the printed formulas. -/
import Derived.Test.YtpgelfheccpejaaDooryCQ1
namespace Go.Proofs.YtpgelfheccpejaaDoor
open Go.RowKit
set_option maxRecDepth 100000
set_option maxHeartbeats 2000000
section
variable {H:Hp}
theorem a4i{ts us:List PT}(hl:ts.length=us.length)(hb:ts.length≤big){Fin:Prop}{body:Int→Hp→(Int→Hp→Prop)→Prop}
  (h:∀(i:Int)(next:Int→Hp→Prop),0≤i→i≤ts.length→(∀(t u:PT),ts[i.toNat]? = some t→us[i.toNat]? = some u→eqT t u=true→next (i+1) H)→(¬i < ts.length→eqTs ts us=true)→body i H next):TL (0:Int) H body:=by
 refine N1 (fun(i:Int) H'=>0≤i∧i≤ts.length∧H'=H∧∀(j:Nat)(t u:PT),(j:Int) < i→ts[j]? = some t→us[j]? = some u→eqT t u=true) (fun i=>(ts.length-i).toNat) ⟨by omega,by omega,rfl,fun j t u hj=>by omega⟩ ?_
 rintro i H1 next ⟨i0,i1,rfl,hi⟩ hn
 refine h i next i0 i1 (fun t u ht hu he=>?_) fun hc=>a7l hl fun j t u ht hu=>hi j t u (by have:=t7 ht;omega) ht hu
 have:=t7 ht
 refine hn _ _ ⟨by omega,by omega,rfl,fun j t' u' hj ht' hu'=>?_⟩ (by omega)
 by_cases ej:j=i.toNat
 ·subst ej
  rw [ht] at ht';cases ht'
  rw [hu] at hu';cases hu'
  exact he
 ·exact hi j t' u' (by omega) ht' hu'
theorem a7O{e e':b8}{t t':PT}(he:EH H e t)(he':EH H e' t'){K:Bool→Hp→Prop}(h:K (eqT t t') H):O5 e e' H K:=by
 induction he generalizing e' t' K with
 | @mk e xs ts hs hb hl _ ih=>
  cases he' with
  | @mk _ xs' ts' hs' hb' hl' hr'=>
   refine a4J _ _ ?_
   unfold a0r
   have n1:=hs.1;have n2:=hs'.1
   rw [b2k] at h
   refine ⟨fun hc=>?_,fun hc=>?_⟩
   ·have:(decide (e.b7=e'.b7)&&decide (e.M8=e'.M8)&&decide (e.f4=e'.f4)&&eqTs ts ts')=false:=by
     by_cases hq:ts.length=ts'.length
     ·have hq':decide ((e.v7.n:Int)=(e'.v7.n:Int))=true:=decide_eq_true (by omega)
      rw [hq'] at hc
      generalize decide (e.b7=e'.b7)=a at hc ⊢
      generalize decide (e.M8=e'.M8)=b at hc ⊢
      generalize decide (e.f4=e'.f4)=c at hc ⊢
      cases a<;>cases b<;>cases c<;>first | rfl | cases hc
     ·rw [a2O hq,Bool.and_false]
    rw [this] at h;exact h
   ·simp only [Bool.or_eq_false_iff,Bool.not_eq_false',decide_eq_true_eq] at hc
    obtain ⟨⟨⟨h1,h2⟩,h3⟩,h4⟩:=hc
    rw [decide_eq_true h1,decide_eq_true h2,decide_eq_true h3,Bool.true_and,Bool.true_and,Bool.true_and] at h
    refine a4i (ts:=ts) (us:=ts') (by omega) (by omega) (Fin:=True) fun i next i0 i1 hn hf=>?_
    unfold X5
    refine ⟨fun hc=>?_,fun hc=>?_⟩
    ·obtain ⟨x,hx,hE⟩:=hs.get i0 hc
     obtain ⟨y,hy,hF⟩:=hs'.get i0 (show i < (e'.v7.n:Int) by omega)
     obtain ⟨t,ht⟩:=A7 (l:=ts) (i:=i.toNat) (by omega)
     obtain ⟨u,hu⟩:=A7 (l:=ts') (i:=i.toNat) (by omega)
     refine ⟨i0,hc,x,hE,i0,by omega,y,hF,ih _ x t hx ht (hr' _ y u hy hu) ⟨fun hq=>?_,fun hq=>?_⟩⟩
     ·rw [a3L ht hu (by simpa using hq)] at h;exact h
     ·rw [r7 i0 (by simp only [big] at hb;omega)]
      exact hn t u ht hu (by simpa using hq)
    ·rw [hf (by omega)] at h
     unfold R1;exact h
theorem b2o{e e':b9}{t t':PT}(he:CH H e t)(he':CH H e' t'){K:Bool→Hp→Prop}(h:K (eqT t t') H):T4 e e' H K:=by
 induction he generalizing e' t' K with
 | @mk e xs ts ys us hs hb hr hc hcb hcl _ ih=>
  cases he' with
  | @mk _ xs' ts' ys' us' hs' hb' hr' hc' hcb' hcl' hcr'=>
   refine a4K _ _ ?_
   unfold a0s
   have n1:=hs.1;have n2:=hs'.1;have n3:=hc.1;have n4:=hc'.1;have r1:=hr.1;have r2:=hr'.1
   rw [b2l] at h
   refine ⟨fun hq0=>?_,fun hq0=>?_⟩
   ·have:(decide (e.b7=e'.b7)&&decide (e.fOp=e'.fOp)&&eqTs ts ts'&&eqTs us us')=false:=by
     by_cases hq:ts.length=ts'.length
     ·by_cases hq2:us.length=us'.length
      ·have hq':decide ((e.d5.n:Int)=(e'.d5.n:Int))=true:=decide_eq_true (by omega)
       have hq2':decide ((e.q6.n:Int)=(e'.q6.n:Int))=true:=decide_eq_true (by omega)
       rw [hq',hq2'] at hq0
       generalize decide (e.b7=e'.b7)=a at hq0 ⊢
       generalize decide (e.fOp=e'.fOp)=b at hq0 ⊢
       cases a<;>cases b<;>first | rfl | cases hq0
      ·rw [a2O hq2,Bool.and_false]
     ·rw [a2O hq,Bool.and_false,Bool.false_and]
    rw [this] at h;exact h
   ·simp only [Bool.or_eq_false_iff,Bool.not_eq_false',decide_eq_true_eq] at hq0
    obtain ⟨⟨⟨h1,h2⟩,h3⟩,h4⟩:=hq0
    rw [decide_eq_true h1,decide_eq_true h2,Bool.true_and,Bool.true_and] at h
    refine a4i (ts:=ts) (us:=ts') (by omega) (by omega) (Fin:=True) fun i next i0 i1 hn hf=>?_
    unfold X7
    refine ⟨fun hlt=>?_,fun hlt=>?_⟩
    ·obtain ⟨x,hx,hE⟩:=hs.get i0 hlt
     obtain ⟨y,hy,hF⟩:=hs'.get i0 (show i < (e'.d5.n:Int) by omega)
     obtain ⟨t,ht⟩:=A7 (l:=ts) (i:=i.toNat) (by omega)
     obtain ⟨u,hu⟩:=A7 (l:=ts') (i:=i.toNat) (by omega)
     refine ⟨i0,hlt,x,hE,i0,by omega,y,hF,a7O (hr.2 _ x t hx ht) (hr'.2 _ y u hy hu) ⟨fun hq=>?_,fun hq=>?_⟩⟩
     ·rw [a3L ht hu (by simpa using hq),Bool.false_and] at h;exact h
     ·rw [r7 i0 (by simp only [big] at hb;omega)]
      exact hn t u ht hu (by simpa using hq)
    ·rw [hf (by omega),Bool.true_and] at h
     clear hn hf next
     unfold R3
     refine a4i (ts:=us) (us:=us') (by omega) (by omega) (Fin:=True) fun i next i0 i1 hn hf=>?_
     unfold X6
     refine ⟨fun hlt=>?_,fun hlt=>?_⟩
     ·obtain ⟨x,hx,hE⟩:=hc.get i0 hlt
      obtain ⟨y,hy,hF⟩:=hc'.get i0 (show i < (e'.q6.n:Int) by omega)
      obtain ⟨t,ht⟩:=A7 (l:=us) (i:=i.toNat) (by omega)
      obtain ⟨u,hu⟩:=A7 (l:=us') (i:=i.toNat) (by omega)
      refine ⟨i0,hlt,x,hE,i0,by omega,y,hF,ih _ x t hx ht (hcr' _ y u hy hu) ⟨fun hq=>?_,fun hq=>?_⟩⟩
      ·rw [a3L ht hu (by simpa using hq)] at h;exact h
      ·rw [r7 i0 (by simp only [big] at hcb;omega)]
       exact hn t u ht hu (by simpa using hq)
     ·rw [hf (by omega)] at h
      unfold R2;exact h
def StepP(H:Hp)(x:c6)(t:PT):Prop:=∀(y:c6)(u:PT),SH H y u→∀(s0 s1:Sl)(i:Int)(n2:Int→Hp→Prop)(K:Bool→Hp→Prop),(eqT t u=true→n2 (IntKind.wrap .i64 (i+1)) H)→(eqT t u=false→K false H)→K7 s0 s1 i y x H n2 K
theorem a5j{sx sy:Sl}{xs ys:List c6}{ts us:List PT}(hx:SlH H 6 c5 sx xs)(hy:SlH H 6 c5 sy ys)(hb:xs.length≤big)(hl:xs.length=ts.length)(hl':ys.length=us.length)
  (hr':∀(i:Nat)(y:c6)(u:PT),ys[i]? = some y→us[i]? = some u→SH H y u) (ih:∀(i:Nat)(x:c6)(t:PT),xs[i]? = some x→ts[i]? = some t→StepP H x t) {K:Bool→Hp→Prop} (h:K (eqTs ts us) H):J9 sx sy H K:=by
 refine a4B _ _ ?_
 unfold Z7
 have n1:=hx.1;have n2:=hy.1
 refine ⟨fun hne=>by rw [a2O (by omega)] at h;exact h,fun he=>?_⟩
 refine a4i (ts:=ts) (us:=us) (by omega) (by omega) (Fin:=True) fun i next i0 i1 hn hf=>?_
 unfold W1
 refine ⟨fun hlt=>?_,fun hlt=>?_⟩
 ·obtain ⟨x,hxi,hE⟩:=hx.get i0 hlt
  obtain ⟨y,hyi,hF⟩:=hy.get i0 (show i < (sy.n:Int) by omega)
  obtain ⟨t,ht⟩:=A7 (l:=ts) (i:=i.toNat) (by omega)
  obtain ⟨u,hu⟩:=A7 (l:=us) (i:=i.toNat) (by omega)
  refine ⟨i0,hlt,x,hE,i0,by omega,y,hF,ih _ x t hxi ht y u (hr' _ y u hyi hu) _ _ _ _ _ (fun hq=>?_) fun hq=>?_⟩
  ·rw [r7 i0 (by simp only [big] at hb;omega)]
   exact hn t u ht hu hq
  ·rw [a3L ht hu hq] at h;exact h
 ·rw [hf (by omega)] at h
  unfold P9;exact h
theorem step_ok{x:c6}{t:PT}(hx:SH H x t):StepP H x t:=by
 induction hx with
 | @mk e xs ts ys us zs bs vs ws hs hb hr hc hcb hcr ha hab hal _ hbs hbb hbl _ iha ihb=>
  intro y0 u0 hy0 s0 s1 i n2 K h1 h0
  cases hy0 with
  | @mk _ xs' ts' ys' us' zs' bs' vs' ws' hs' hb' hr' hc' hcb' hcr' ha' hab' hal' har' hbs' hbb' hbl' hbr'=>
   unfold K7
   have m1:=hs.1;have m2:=hs'.1;have m3:=hc.1;have m4:=hc'.1;have r1:=hr.1;have r2:=hr'.1;have r3:=hcr.1;have r4:=hcr'.1
   rw [b2m] at h1 h0
   refine U8 (eqTs vs vs') (fun _ K' hk=>a5j ha ha' hab hal hal' har' iha hk) ?_
   refine U8 (eqTs ws ws') (fun _ K' hk=>a5j hbs hbs' hbb hbl hbl' hbr' ihb hk) ?_
   have lc:decide ((e.m8.n:Int)=(y0.m8.n:Int))=decide (us.length=us'.length):=by rw [Bool.eq_iff_iff];simp;omega
   have le:decide ((e.d5.n:Int)=(y0.d5.n:Int))=decide (ts.length=ts'.length):=by rw [Bool.eq_iff_iff];simp;omega
   rw [lc,le]
   have zc:decide (us.length=us'.length)=false→eqTs us us'=false:=fun q=>a2O (of_decide_eq_false q)
   have ze:decide (ts.length=ts'.length)=false→eqTs ts ts'=false:=fun q=>a2O (of_decide_eq_false q)
   refine ⟨fun hq=>h0 ?_,fun hq=>?_⟩
   ·generalize decide (e.b7=y0.b7)=q1 at hq ⊢
    generalize decide (e.f4=y0.f4)=q2 at hq ⊢
    generalize decide (us.length=us'.length)=q3 at hq zc ⊢
    generalize decide (ts.length=ts'.length)=q4 at hq ze ⊢
    generalize eqTs vs vs'=c at hq ⊢
    generalize eqTs ws ws'=d at hq ⊢
    generalize eqTs us us'=b at zc ⊢
    generalize eqTs ts ts'=a at ze ⊢
    cases q1
    ·rfl
    cases q2
    ·rfl
    cases q3
    ·rw [zc rfl];cases a<;>rfl
    cases q4
    ·rw [ze rfl];rfl
    cases a
    ·rfl
    cases b
    ·rfl
    cases c
    ·rfl
    cases d
    ·rfl
    cases hq
   ·have g:decide (e.b7=y0.b7)=true∧decide (e.f4=y0.f4)=true∧us.length=us'.length∧ts.length=ts'.length∧eqTs vs vs'=true∧eqTs ws ws'=true:=by
     rw [←decide_eq_true_iff (p:=us.length=us'.length),← decide_eq_true_iff (p:=ts.length=ts'.length)]
     generalize decide (e.b7=y0.b7)=q1 at hq ⊢
     generalize decide (e.f4=y0.f4)=q2 at hq ⊢
     generalize decide (us.length=us'.length)=q3 at hq ⊢
     generalize decide (ts.length=ts'.length)=q4 at hq ⊢
     generalize eqTs vs vs'=c at hq ⊢
     generalize eqTs ws ws'=d at hq ⊢
     cases q1<;>cases q2<;>cases q3<;>cases q4<;>cases c<;>cases d<;>first | exact ⟨rfl,rfl,rfl,rfl,rfl,rfl⟩ | cases hq
    obtain ⟨g1,g2,g3,g4,g5,g6⟩:=g
    rw [g1,g2,g5,g6,Bool.true_and,Bool.and_true,Bool.and_true,Bool.true_and] at h1 h0
    refine a4i (ts:=us) (us:=us') (by omega) (by omega) (Fin:=True) fun j next j0 j1 hn hf=>?_
    unfold W0
    refine ⟨fun hlt=>?_,fun hlt=>?_⟩
    ·obtain ⟨x,hx,hE⟩:=hc.get j0 hlt
     obtain ⟨y,hy,hF⟩:=hc'.get j0 (show j < (y0.m8.n:Int) by omega)
     obtain ⟨t,ht⟩:=A7 (l:=us) (i:=j.toNat) (by omega)
     obtain ⟨u,hu⟩:=A7 (l:=us') (i:=j.toNat) (by omega)
     refine ⟨j0,hlt,x,hE,j0,by omega,y,hF,b2o (hcr.2 _ x t hx ht) (hcr'.2 _ y u hy hu) ⟨fun hq=>?_,fun hq=>?_⟩⟩
     ·exact h0 (by rw [a3L ht hu (by simpa using hq),Bool.and_false])
     ·rw [r7 j0 (by simp only [big] at hcb;omega)]
      exact hn t u ht hu (by simpa using hq)
    ·rw [hf (by omega),Bool.and_true] at h1 h0
     clear hn hf next
     unfold P8
     refine a4i (ts:=ts) (us:=ts') (by omega) (by omega) (Fin:=True) fun j next j0 j1 hn hf=>?_
     unfold V9
     refine ⟨fun hlt=>?_,fun hlt=>?_⟩
     ·obtain ⟨x,hx,hE⟩:=hs.get j0 hlt
      obtain ⟨y,hy,hF⟩:=hs'.get j0 (show j < (y0.d5.n:Int) by omega)
      obtain ⟨t,ht⟩:=A7 (l:=ts) (i:=j.toNat) (by omega)
      obtain ⟨u,hu⟩:=A7 (l:=ts') (i:=j.toNat) (by omega)
      refine ⟨j0,hlt,x,hE,j0,by omega,y,hF,a7O (hr.2 _ x t hx ht) (hr'.2 _ y u hy hu) ⟨fun hq=>?_,fun hq=>?_⟩⟩
      ·exact h0 (a3L ht hu (by simpa using hq))
      ·rw [r7 j0 (by simp only [big] at hb;omega)]
       exact hn t u ht hu (by simpa using hq)
     ·unfold P7
      exact h1 (hf (by omega))
theorem b0o{sx sy:Sl}{xs ys:List c6}{ts us:List PT}(hx:SlH H 6 c5 sx xs)(hy:SlH H 6 c5 sy ys)(hb:xs.length≤big)(hr:q7 (SH H) xs ts)(hr':q7 (SH H) ys us){K:Bool→Hp→Prop}(h:K (eqTs ts us) H):J9 sx sy H K:=
 a5j hx hy hb hr.1 hr'.1 hr'.2 (fun i x t a b=>step_ok (hr.2 i x t a b)) h
abbrev W:=a8
def wStep(s:W)(d:Int):W:=if s.fbad=0 then (if s.fn=4096 then ⟨s.fn,s.fdepth,33⟩ else if 64 < d then ⟨s.fn,s.fdepth,32⟩ else ⟨s.fn+1,if d > s.fdepth then d else s.fdepth,0⟩) else s
mutual
def wT:PT→Int→W→W
 | .mk _ cs,d,s=>wTs cs (d+1) (wStep s d)
def wTs:List PT→Int→W→W
 | [],_,s=>s
 | t::ts,d,s=>wTs ts d (wT t d s)
end
def wok(s:W):Prop:=0≤s.fn∧s.fn≤4096
theorem a7o{s:W}{d:Int}(h:wok s):wok (wStep s d):=by
 unfold wStep
 repeat' split
 all_goals first | exact h | (unfold wok at h ⊢;dsimp only;omega)
mutual
theorem c0h:∀(t:PT)(d:Int)(s:W),wok s→wok (wT t d s)
 | .mk _ cs,d,s,h=>by rw [wT];exact a6P cs _ _ (a7o h)
theorem a6P:∀(ts:List PT)(d:Int)(s:W),wok s→wok (wTs ts d s)
 | [],_,s,h=>by rw [wTs];exact h
 | t::ts,d,s,h=>by rw [wTs];exact a6P ts d _ (c0h t d s h)
end
mutual
theorem b9K:∀(t:PT)(d:Int)(s:W),s.fbad≠0→wT t d s=s
 | .mk _ cs,d,s,h=>by
  have:wStep s d=s:=by unfold wStep;rw [if_neg h]
  rw [wT,this];exact a4j cs _ _ h
theorem a4j:∀(ts:List PT)(d:Int)(s:W),s.fbad≠0→wTs ts d s=s
 | [],_,s,h=>by rw [wTs]
 | t::ts,d,s,h=>by rw [wTs,b9K t d s h];exact a4j ts d s h
end
theorem a4k:∀(a b:List PT)(d:Int)(s:W),wTs (a++b) d s=wTs b d (wTs a d s)
 | [],b,d,s=>by rw [List.nil_append,wTs]
 | t::a,b,d,s=>by rw [List.cons_append,wTs,wTs,a4k a b]
theorem b2p{ts:List PT}{i:Nat}{t:PT}(h:ts[i]? = some t)(d:Int)(s:W):wTs (ts.take (i+1)) d s=wT t d (wTs (ts.take i) d s):=by
 rw [M6 h,a4k,wTs,wTs]
theorem a9F{ts:List PT}{i:Nat}{d:Int}{s:W}(h:ts.length≤i∨(wTs (ts.take i) d s).fbad≠0):wTs (ts.take i) d s=wTs ts d s:=by
 rcases h with h | h
 ·rw [List.take_of_length_le h]
 ·have:=a4k (ts.take i) (ts.drop i) d s
  rw [List.take_append_drop,a4j _ _ _ h] at this
  exact this.symm
theorem a8m{s:W}{d:Int}(hs:wok s){K:Bool→W→Hp→Prop}(h:K (decide ((wStep s d).fbad=0)) (wStep s d) H):J8 s d H K:=by
 refine a4F _ _ ?_
 unfold a0g
 unfold wok at hs
 unfold wStep at h
 refine ⟨fun hb=>?_,fun hb=>⟨fun h4=>?_,fun h4=>⟨fun h5=>?_,fun h5=>?_⟩⟩⟩
 ·rw [if_neg hb,decide_eq_false hb] at h;exact h
 ·rw [if_pos hb,if_pos h4] at h;exact h
 ·rw [if_pos hb,if_neg h4,if_pos h5] at h;exact h
 ·rw [if_pos hb,if_neg h4,if_neg h5] at h
  rw [r7 (by omega) (by omega),hb];exact h
theorem a9G{s:W}{d:Int}(h:(wStep s d).fbad=0):d≤64:=by
 unfold wStep at h
 split at h
 ·split at h
  ·cases h
  ·split at h
   ·cases h
   ·omega
 ·rename_i hb;exact (hb h).elim
theorem wloop{ts:List PT}{d:Int}{s1:W}(ok1:wok s1){body:Int×W→Hp→(Int×W→Hp→Prop)→Prop}
  (hb:∀(i:Int)(s:W)(next:Int×W→Hp→Prop),0≤i→i≤ts.length→wok s→(∀t,ts[i.toNat]? = some t→next (i+1,wT t d s) H)→((ts.length≤i∨s.fbad≠0)→s=wTs ts d s1)→body (i,s) H next):TL ((0,s1):Int×W) H body:=by
 refine N1 (fun(q:Int×W) H'=>0≤q.1∧q.1≤ts.length∧H'=H∧q.2=wTs (ts.take q.1.toNat) d s1) (fun q=>(ts.length-q.1).toNat) ⟨Int.le_refl _,by simp,rfl,by simp [wTs]⟩ ?_
 rintro ⟨i,s⟩ H1 next ⟨i0,i1,rfl,hs⟩ hn
 dsimp only at i0 i1 hs ⊢
 subst hs
 refine hb i _ next i0 i1 (a6P _ _ _ ok1) (fun t ht=>?_) fun he=>a9F (by omega)
 have:=t7 ht
 refine hn _ _ ⟨by show 0≤i+1;omega,by show i+1≤_;omega,rfl,?_⟩ (by show (ts.length-(i+1)).toNat < (ts.length-i).toNat;omega)
 show wT t d _=wTs (ts.take (i+1).toNat) d s1
 rw [show (i+1).toNat=i.toNat+1 by omega,b2p ht]
theorem a4x{i n:Int}{b:Int}:(decide (i < n)&&decide (b=0))=decide (i < n∧b=0):=by rw [Bool.eq_iff_iff];simp
theorem a7P{e:b8}{t:PT}(he:EH H e t){s:W}{d:Int}(hs:wok s)(d0:0≤d)(d1:d≤65){K:W→Hp→Prop}(h:K (wT t d s) H):N7 s e d H K:=by
 induction he generalizing s d K with
 | @mk e xs ts hsl hb hl _ ih=>
  refine a4G _ _ _ ?_
  unfold a0h
  rw [wT] at h
  refine a8m hs ⟨fun hq=>?_,fun hq=>?_⟩
  ·rw [a4j _ _ _ (by simpa using hq)] at h;exact h
  have hq':(wStep s d).fbad=0:=by simpa using hq
  have d64:=a9G hq'
  have ok1:=a7o (d:=d) hs
  refine wloop (ts:=ts) (d:=d+1) ok1 fun i s' next i0 i1 hok hn hf=>?_
  unfold W6
  rw [a4x]
  refine ⟨fun hc=>?_,fun hc=>?_⟩
  ·have hc':=of_decide_eq_true hc
   dsimp only at hc'
   obtain ⟨x,hx,hE⟩:=hsl.get i0 hc'.1
   obtain ⟨t,ht⟩:=A7 (l:=ts) (i:=i.toNat) (by have:=t7 hx;omega)
   refine ⟨i0,hc'.1,x,hE,?_⟩
   rw [r7 (show 0≤d by omega) (by omega),r7 i0 (by simp only [big] at hb;have:=t7 hx;omega)]
   exact ih _ x t hx ht hok (by omega) (by omega) (hn t ht)
  ·have hc':=of_decide_eq_false hc
   dsimp only at hc'
   have hfin:=hf (by have:=hsl.1;omega)
   rw [hfin];exact h
theorem b2q{e:b9}{t:PT}(he:CH H e t){s:W}{d:Int}(hs:wok s)(d0:0≤d)(d1:d≤65){K:W→Hp→Prop}(h:K (wT t d s) H):S7 s e d H K:=by
 induction he generalizing s d K with
 | @mk e xs ts ys us hsl hb hr hcl hcb hcl' _ ih=>
  refine a4A _ _ _ ?_
  unfold Z6
  rw [wT] at h
  refine a8m hs ⟨fun hq=>?_,fun hq=>?_⟩
  ·rw [a4j _ _ _ (by simpa using hq)] at h;exact h
  have hq':(wStep s d).fbad=0:=by simpa using hq
  have d64:=a9G hq'
  rw [a4k] at h
  have ok1:=a7o (d:=d) hs
  refine wloop (ts:=ts) (d:=d+1) ok1 fun i s' next i0 i1 hok hn hf=>?_
  unfold V8
  rw [a4x]
  refine ⟨fun hc=>?_,fun hc=>?_⟩
  ·have hc':=of_decide_eq_true hc
   dsimp only at hc'
   obtain ⟨x,hx,hE⟩:=hsl.get i0 hc'.1
   obtain ⟨t,ht⟩:=A7 (l:=ts) (i:=i.toNat) (by have:=t7 hx;have:=hr.1;omega)
   refine ⟨i0,hc'.1,x,hE,?_⟩
   rw [r7 (show 0≤d by omega) (by omega),r7 i0 (by simp only [big] at hb;have:=t7 hx;omega)]
   exact a7P (hr.2 _ x t hx ht) hok (by omega) (by omega) (hn t ht)
  ·have hc':=of_decide_eq_false hc
   dsimp only at hc'
   have hfin:=hf (by have:=hsl.1;have:=hr.1;omega)
   clear hn hf next
   rw [←hfin] at h
   clear hfin hc'
   unfold P6
   refine wloop (ts:=us) (d:=d+1) hok fun i s' next i0 i1 hok hn hf=>?_
   unfold V7
   rw [a4x]
   refine ⟨fun hc=>?_,fun hc=>?_⟩
   ·have hc':=of_decide_eq_true hc
    dsimp only at hc'
    obtain ⟨x,hx,hE⟩:=hcl.get i0 hc'.1
    obtain ⟨t,ht⟩:=A7 (l:=us) (i:=i.toNat) (by have:=t7 hx;omega)
    refine ⟨i0,hc'.1,x,hE,?_⟩
    rw [r7 (show 0≤d by omega) (by omega),r7 i0 (by simp only [big] at hcb;have:=t7 hx;omega)]
    exact ih _ x t hx ht hok (by omega) (by omega) (hn t ht)
   ·have hc':=of_decide_eq_false hc
    dsimp only at hc'
    have hfin:=hf (by have:=hcl.1;omega)
    rw [hfin];exact h
theorem b2r{e:c6}{t:PT}(he:SH H e t){s:W}{d:Int}(hs:wok s)(d0:0≤d)(d1:d≤65){K:W→Hp→Prop}(h:K (wT t d s) H):N8 s e d H K:=by
 induction he generalizing s d K with
 | @mk e xs ts ys us zs bs vs ws hsl hb hr hcl hcb hcr ha hab hal _ hbs hbb hbl _ iha ihb=>
  refine a4H _ _ _ ?_
  unfold a0i
  rw [wT] at h
  refine a8m hs ⟨fun hq=>?_,fun hq=>?_⟩
  ·rw [a4j _ _ _ (by simpa using hq)] at h;exact h
  have hq':(wStep s d).fbad=0:=by simpa using hq
  have d64:=a9G hq'
  rw [a4k,a4k,a4k] at h
  have ok1:=a7o (d:=d) hs
  refine wloop (ts:=us) (d:=d+1) ok1 fun i s' next i0 i1 hok hn hf=>?_
  unfold X0
  rw [a4x]
  refine ⟨fun hc=>?_,fun hc=>?_⟩
  ·have hc':=of_decide_eq_true hc
   dsimp only at hc'
   obtain ⟨x,hx,hE⟩:=hcl.get i0 hc'.1
   obtain ⟨t,ht⟩:=A7 (l:=us) (i:=i.toNat) (by have:=t7 hx;have:=hcr.1;omega)
   refine ⟨i0,hc'.1,x,hE,?_⟩
   rw [r7 (show 0≤d by omega) (by omega),r7 i0 (by simp only [big] at hcb;have:=t7 hx;omega)]
   exact b2q (hcr.2 _ x t hx ht) hok (by omega) (by omega) (hn t ht)
  ·have hc':=of_decide_eq_false hc
   dsimp only at hc'
   have hfin:=hf (by have:=hcl.1;have:=hcr.1;skip;omega)
   clear hn hf next
   rw [←hfin] at h
   clear hfin hc'
   unfold Q8
   refine wloop (ts:=ts) (d:=d+1) hok fun i s' next i0 i1 hok hn hf=>?_
   unfold W9
   rw [a4x]
   refine ⟨fun hc=>?_,fun hc=>?_⟩
   ·have hc':=of_decide_eq_true hc
    dsimp only at hc'
    obtain ⟨x,hx,hE⟩:=hsl.get i0 hc'.1
    obtain ⟨t,ht⟩:=A7 (l:=ts) (i:=i.toNat) (by have:=t7 hx;have:=hr.1;omega)
    refine ⟨i0,hc'.1,x,hE,?_⟩
    rw [r7 (show 0≤d by omega) (by omega),r7 i0 (by simp only [big] at hb;have:=t7 hx;omega)]
    exact a7P (hr.2 _ x t hx ht) hok (by omega) (by omega) (hn t ht)
   ·have hc':=of_decide_eq_false hc
    dsimp only at hc'
    have hfin:=hf (by have:=hsl.1;have:=hr.1;skip;omega)
    clear hn hf next
    rw [←hfin] at h
    clear hfin hc'
    unfold Q7
    refine wloop (ts:=vs) (d:=d+1) hok fun i s' next i0 i1 hok hn hf=>?_
    unfold W8
    rw [a4x]
    refine ⟨fun hc=>?_,fun hc=>?_⟩
    ·have hc':=of_decide_eq_true hc
     dsimp only at hc'
     obtain ⟨x,hx,hE⟩:=ha.get i0 hc'.1
     obtain ⟨t,ht⟩:=A7 (l:=vs) (i:=i.toNat) (by have:=t7 hx;omega)
     refine ⟨i0,hc'.1,x,hE,?_⟩
     rw [r7 (show 0≤d by omega) (by omega),r7 i0 (by simp only [big] at hab;have:=t7 hx;omega)]
     exact iha _ x t hx ht hok (by omega) (by omega) (hn t ht)
    ·have hc':=of_decide_eq_false hc
     dsimp only at hc'
     have hfin:=hf (by have:=ha.1;skip;omega)
     clear hn hf next
     rw [←hfin] at h
     clear hfin hc'
     unfold Q6
     refine wloop (ts:=ws) (d:=d+1) hok fun i s' next i0 i1 hok hn hf=>?_
     unfold W7
     rw [a4x]
     refine ⟨fun hc=>?_,fun hc=>?_⟩
     ·have hc':=of_decide_eq_true hc
      dsimp only at hc'
      obtain ⟨x,hx,hE⟩:=hbs.get i0 hc'.1
      obtain ⟨t,ht⟩:=A7 (l:=ws) (i:=i.toNat) (by have:=t7 hx;omega)
      refine ⟨i0,hc'.1,x,hE,?_⟩
      rw [r7 (show 0≤d by omega) (by omega),r7 i0 (by simp only [big] at hbb;have:=t7 hx;omega)]
      exact ihb _ x t hx ht hok (by omega) (by omega) (hn t ht)
     ·have hc':=of_decide_eq_false hc
      dsimp only at hc'
      have hfin:=hf (by have:=hbs.1;skip;omega)
      rw [hfin];exact h
def dT(d:s7):PT:=.mk (.decl d.X1 d.f4) []
theorem b7k(d:s7)(n:Int)(s:W):wT (dT d) n s=wStep s n:=by unfold dT;rw [wT,wTs]
def PP.nodes(q:PP):List PT:=q.decls.map dT++q.body
def w0S:W:=⟨0,0,0⟩
theorem a9Q{p:d4}{q:PP}(hp:PH H p q){K:W→Hp→Prop}(h:K (wTs q.nodes 1 w0S) H):U9 p H K:=by
 refine a5h _ ?_
 unfold a0Z
 obtain ⟨hd,hbd,xs,hsl,hb,hr⟩:=hp
 have n1:=hd.1;have n2:=hsl.1;have r1:=hr.1
 unfold PP.nodes at h
 rw [a4k] at h
 refine N1 (fun(z:Int×W×W) H'=>0≤z.1∧z.1≤q.decls.length∧H'=H∧z.2.1=wTs ((q.decls.map dT).take z.1.toNat) 1 w0S) (fun z=>(q.decls.length-z.1).toNat) ⟨Int.le_refl _,by simp,rfl,by simp [wTs,w0S]⟩ ?_
 rintro ⟨i,s,s'⟩ H1 next ⟨i0,i1,rfl,hs⟩ hn
 dsimp only at i0 i1 hs ⊢
 subst hs
 unfold a0d
 rw [a4x]
 have ok0:wok w0S:=⟨by decide,by decide⟩
 refine ⟨fun hc=>?_,fun hc=>?_⟩
 ·have hc':=of_decide_eq_true hc
  refine a8m (a6P _ _ _ ok0) ?_
  obtain ⟨x,hx⟩:=A7 (l:=q.decls) (i:=i.toNat) (by omega)
  rw [r7 i0 (by simp only [big] at hbd;omega)]
  refine hn _ _ ⟨by show 0≤i+1;omega,by show i+1≤_;omega,rfl,?_⟩ (by show (q.decls.length-(i+1)).toNat < (q.decls.length-i).toNat;omega)
  show wStep _ 1=wTs ((q.decls.map dT).take (i+1).toNat) 1 w0S
  rw [show (i+1).toNat=i.toNat+1 by omega,b2p (t:=dT x) (by rw [List.getElem?_map,hx];rfl),b7k]
 ·have hc':=of_decide_eq_false hc
  have hfin:=a9F (ts:=q.decls.map dT) (i:=i.toNat) (d:=1) (s:=w0S) (by
   by_cases h0:(wTs ((q.decls.map dT).take i.toNat) 1 w0S).fbad=0
   ·left;rw [List.length_map];omega
   ·exact .inr h0)
  rw [hfin]
  clear hn hc hc' next
  unfold S9
  have ok1:=a6P (q.decls.map dT) 1 _ ok0
  refine N1 (fun(z:Int×W×W) H'=>0≤z.1∧z.1≤q.body.length∧H'=H1∧z.2.1=wTs (q.body.take z.1.toNat) 1 (wTs (q.decls.map dT) 1 w0S)) (fun z=>(q.body.length-z.1).toNat) ⟨Int.le_refl _,by simp,rfl,by simp [wTs]⟩ ?_
  rintro ⟨j,s2,s3⟩ H2 next ⟨j0,j1,rfl,hs⟩ hn
  dsimp only at j0 j1 hs ⊢
  subst hs
  unfold Z9
  rw [a4x]
  refine ⟨fun hc=>?_,fun hc=>?_⟩
  ·have hc':=of_decide_eq_true hc
   obtain ⟨x,hx,hE⟩:=hsl.get j0 hc'.1
   obtain ⟨t,ht⟩:=A7 (l:=q.body) (i:=j.toNat) (by have:=t7 hx;omega)
   refine ⟨j0,hc'.1,x,hE,b2r (hr.2 _ x t hx ht) (a6P _ _ _ ok1) (by decide) (by decide) ?_⟩
   rw [r7 j0 (by simp only [big] at hb;have:=t7 hx;omega)]
   refine hn _ _ ⟨by show 0≤j+1;omega,by show j+1≤_;have:=t7 ht;omega,rfl,?_⟩ (by show (q.body.length-(j+1)).toNat < (q.body.length-j).toNat;have:=t7 ht;omega)
   show wT t 1 _=wTs (q.body.take (j+1).toNat) 1 _
   rw [show (j+1).toNat=j.toNat+1 by omega,b2p ht]
  ·have hc':=of_decide_eq_false hc
   unfold S8
   rw [a9F (ts:=q.body) (i:=j.toNat) (by
    by_cases h0:(wTs (q.body.take j.toNat) 1 (wTs (q.decls.map dT) 1 w0S)).fbad=0
    ·left;omega
    ·exact .inr h0)]
   exact h
theorem b5t{p:d4}{q:PP}(hp:PH H p q){K:Bool→Hp→Prop}(h:K (decide ((wTs q.nodes 1 w0S).fbad=0)) H):a0j p H K:=by
 refine a6a _ ?_
 unfold a1Q
 exact a9Q hp h
end
end Go.Proofs.YtpgelfheccpejaaDoor
