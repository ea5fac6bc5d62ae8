/- The document's trees: whether two are the same; how many nodes, how deep. Contracts off the printed formulas. -/
import Derived.Test.YthklmeihgmcljaaGreatDoorzEQ1
namespace Go.Proofs.YthklmeihgmcljaaGreatDoor
open Go.RowKit
set_option maxRecDepth 100000
set_option maxHeartbeats 2000000
section
variable {H:Hp}
theorem a9p{ts us:List PT}(hl:ts.length=us.length)(hb:ts.length≤big){Fin:Prop}{body:Int→Hp→(Int→Hp→Prop)→Prop}
  (h:∀(i:Int)(next:Int→Hp→Prop),0≤i→i≤ts.length→(∀(t u:PT),ts[i.toNat]? = some t→us[i.toNat]? = some u→eqT t u=true→next (i+1) H)→(¬i < ts.length→eqTs ts us=true)→body i H next):TL (0:Int) H body:=by
 refine D1 (fun(i:Int) H'=>0≤i∧i≤ts.length∧H'=H∧∀(j:Nat)(t u:PT),(j:Int) < i→ts[j]? = some t→us[j]? = some u→eqT t u=true) (fun i=>(ts.length-i).toNat) ⟨by omega,by omega,rfl,fun j t u hj=>by omega⟩ ?_
 rintro i H1 next ⟨i0,i1,rfl,hi⟩ hn
 refine h i next i0 i1 (fun t u ht hu he=>?_) fun hc=>c7c hl fun j t u ht hu=>hi j t u (by have:=E0 ht;omega) ht hu
 have:=E0 ht
 refine hn _ _ ⟨by omega,by omega,rfl,fun j t' u' hj ht' hu'=>?_⟩ (by omega)
 by_cases ej:j=i.toNat
 ·subst ej
  rw [ht] at ht';cases ht'
  rw [hu] at hu';cases hu'
  exact he
 ·exact hi j t' u' (by omega) ht' hu'
theorem b5N{e e':d9}{t t':PT}(he:EH H e t)(he':EH H e' t'){K:Bool→Hp→Prop}(h:K (eqT t t') H):V8 e e' H K:=by
 induction he generalizing e' t' K with
 | @mk e xs ts hs hb hl _ ih=>
  cases he' with
  | @mk _ xs' ts' hs' hb' hl' hr'=>
   refine b0V _ _ ?_
   unfold a6x
   have n1:=hs.1;have n2:=hs'.1
   rw [c7d] at h
   refine ⟨fun hc=>?_,fun hc=>?_⟩
   ·have:(decide (e.d8=e'.d8)&&decide (e.G9=e'.G9)&&decide (e.t7=e'.t7)&&eqTs ts ts')=false:=by
     by_cases hq:ts.length=ts'.length
     ·have hq':decide ((e.G4.n:Int)=(e'.G4.n:Int))=true:=decide_eq_true (by omega)
      rw [hq'] at hc
      generalize decide (e.d8=e'.d8)=a at hc ⊢
      generalize decide (e.G9=e'.G9)=b at hc ⊢
      generalize decide (e.t7=e'.t7)=c at hc ⊢
      cases a<;>cases b<;>cases c<;>first | rfl | cases hc
     ·rw [b1g hq,Bool.and_false]
    rw [this] at h;exact h
   ·simp only [Bool.or_eq_false_iff,Bool.not_eq_false',decide_eq_true_eq] at hc
    obtain ⟨⟨⟨h1,h2⟩,h3⟩,h4⟩:=hc
    rw [decide_eq_true h1,decide_eq_true h2,decide_eq_true h3,Bool.true_and,Bool.true_and,Bool.true_and] at h
    refine a9p (ts:=ts) (us:=ts') (by omega) (by omega) (Fin:=True) fun i next i0 i1 hn hf=>?_
    unfold a5h
    refine ⟨fun hc=>?_,fun hc=>?_⟩
    ·obtain ⟨x,hx,hE⟩:=hs.get i0 hc
     obtain ⟨y,hy,hF⟩:=hs'.get i0 (show i < (e'.G4.n:Int) by omega)
     obtain ⟨t,ht⟩:=M3 (l:=ts) (i:=i.toNat) (by omega)
     obtain ⟨u,hu⟩:=M3 (l:=ts') (i:=i.toNat) (by omega)
     refine ⟨i0,hc,x,hE,i0,by omega,y,hF,ih _ x t hx ht (hr' _ y u hy hu) ⟨fun hq=>?_,fun hq=>?_⟩⟩
     ·rw [b2I ht hu (by simpa using hq)] at h;exact h
     ·rw [G3 i0 (by simp only [big] at hb;omega)]
      exact hn t u ht hu (by simpa using hq)
    ·rw [hf (by omega)] at h
     unfold a1C;exact h
theorem c0q{e e':f8}{t t':PT}(he:CH H e t)(he':CH H e' t'){K:Bool→Hp→Prop}(h:K (eqT t t') H):a0x e e' H K:=by
 induction he generalizing e' t' K with
 | @mk e xs ts ys us hs hb hr hc hcb hcl _ ih=>
  cases he' with
  | @mk _ xs' ts' ys' us' hs' hb' hr' hc' hcb' hcl' hcr'=>
   refine b0W _ _ ?_
   unfold a6z
   have n1:=hs.1;have n2:=hs'.1;have n3:=hc.1;have n4:=hc'.1;have r1:=hr.1;have r2:=hr'.1
   rw [c7e] at h
   refine ⟨fun hq0=>?_,fun hq0=>?_⟩
   ·have:(decide (e.d8=e'.d8)&&decide (e.fOp=e'.fOp)&&eqTs ts ts'&&eqTs us us')=false:=by
     by_cases hq:ts.length=ts'.length
     ·by_cases hq2:us.length=us'.length
      ·have hq':decide ((e.o4.n:Int)=(e'.o4.n:Int))=true:=decide_eq_true (by omega)
       have hq2':decide ((e.B0.n:Int)=(e'.B0.n:Int))=true:=decide_eq_true (by omega)
       rw [hq',hq2'] at hq0
       generalize decide (e.d8=e'.d8)=a at hq0 ⊢
       generalize decide (e.fOp=e'.fOp)=b at hq0 ⊢
       cases a<;>cases b<;>first | rfl | cases hq0
      ·rw [b1g hq2,Bool.and_false]
     ·rw [b1g hq,Bool.and_false,Bool.false_and]
    rw [this] at h;exact h
   ·simp only [Bool.or_eq_false_iff,Bool.not_eq_false',decide_eq_true_eq] at hq0
    obtain ⟨⟨⟨h1,h2⟩,h3⟩,h4⟩:=hq0
    rw [decide_eq_true h1,decide_eq_true h2,Bool.true_and,Bool.true_and] at h
    refine a9p (ts:=ts) (us:=ts') (by omega) (by omega) (Fin:=True) fun i next i0 i1 hn hf=>?_
    unfold a5j
    refine ⟨fun hlt=>?_,fun hlt=>?_⟩
    ·obtain ⟨x,hx,hE⟩:=hs.get i0 hlt
     obtain ⟨y,hy,hF⟩:=hs'.get i0 (show i < (e'.o4.n:Int) by omega)
     obtain ⟨t,ht⟩:=M3 (l:=ts) (i:=i.toNat) (by omega)
     obtain ⟨u,hu⟩:=M3 (l:=ts') (i:=i.toNat) (by omega)
     refine ⟨i0,hlt,x,hE,i0,by omega,y,hF,b5N (hr.2 _ x t hx ht) (hr'.2 _ y u hy hu) ⟨fun hq=>?_,fun hq=>?_⟩⟩
     ·rw [b2I ht hu (by simpa using hq),Bool.false_and] at h;exact h
     ·rw [G3 i0 (by simp only [big] at hb;omega)]
      exact hn t u ht hu (by simpa using hq)
    ·rw [hf (by omega),Bool.true_and] at h
     clear hn hf next
     unfold a1F
     refine a9p (ts:=us) (us:=us') (by omega) (by omega) (Fin:=True) fun i next i0 i1 hn hf=>?_
     unfold a5i
     refine ⟨fun hlt=>?_,fun hlt=>?_⟩
     ·obtain ⟨x,hx,hE⟩:=hc.get i0 hlt
      obtain ⟨y,hy,hF⟩:=hc'.get i0 (show i < (e'.B0.n:Int) by omega)
      obtain ⟨t,ht⟩:=M3 (l:=us) (i:=i.toNat) (by omega)
      obtain ⟨u,hu⟩:=M3 (l:=us') (i:=i.toNat) (by omega)
      refine ⟨i0,hlt,x,hE,i0,by omega,y,hF,ih _ x t hx ht (hcr' _ y u hy hu) ⟨fun hq=>?_,fun hq=>?_⟩⟩
      ·rw [b2I ht hu (by simpa using hq)] at h;exact h
      ·rw [G3 i0 (by simp only [big] at hcb;omega)]
       exact hn t u ht hu (by simpa using hq)
     ·rw [hf (by omega)] at h
      unfold a1E;exact h
def StepP(H:Hp)(x:b9)(t:PT):Prop:=∀(y:b9)(u:PT),SH H y u→∀(s0 s1:Sl)(i:Int)(n2:Int→Hp→Prop)(K:Bool→Hp→Prop),(eqT t u=true→n2 (IntKind.wrap .i64 (i+1)) H)→(eqT t u=false→K false H)→Y1 s0 s1 i y x H n2 K
theorem b2i{sx sy:Sl}{xs ys:List b9}{ts us:List PT}(hx:SlH H 6 m6 sx xs)(hy:SlH H 6 m6 sy ys)(hb:xs.length≤big)(hl:xs.length=ts.length)(hl':ys.length=us.length)
  (hr':∀(i:Nat)(y:b9)(u:PT),ys[i]? = some y→us[i]? = some u→SH H y u) (ih:∀(i:Nat)(x:b9)(t:PT),xs[i]? = some x→ts[i]? = some t→StepP H x t) {K:Bool→Hp→Prop} (h:K (eqTs ts us) H):P9 sx sy H K:=by
 refine b0F _ _ ?_
 unfold a6j
 have n1:=hx.1;have n2:=hy.1
 refine ⟨fun hne=>by rw [b1g (by omega)] at h;exact h,fun he=>?_⟩
 refine a9p (ts:=ts) (us:=us) (by omega) (by omega) (Fin:=True) fun i next i0 i1 hn hf=>?_
 unfold a4N
 refine ⟨fun hlt=>?_,fun hlt=>?_⟩
 ·obtain ⟨x,hxi,hE⟩:=hx.get i0 hlt
  obtain ⟨y,hyi,hF⟩:=hy.get i0 (show i < (sy.n:Int) by omega)
  obtain ⟨t,ht⟩:=M3 (l:=ts) (i:=i.toNat) (by omega)
  obtain ⟨u,hu⟩:=M3 (l:=us) (i:=i.toNat) (by omega)
  refine ⟨i0,hlt,x,hE,i0,by omega,y,hF,ih _ x t hxi ht y u (hr' _ y u hyi hu) _ _ _ _ _ (fun hq=>?_) fun hq=>?_⟩
  ·rw [G3 i0 (by simp only [big] at hb;omega)]
   exact hn t u ht hu hq
  ·rw [b2I ht hu hq] at h;exact h
 ·rw [hf (by omega)] at h
  unfold a1r;exact h
theorem step_ok{x:b9}{t:PT}(hx:SH H x t):StepP H x t:=by
 induction hx with
 | @mk e xs ts ys us zs bs vs ws hs hb hr hc hcb hcr ha hab hal _ hbs hbb hbl _ iha ihb=>
  intro y0 u0 hy0 s0 s1 i n2 K h1 h0
  cases hy0 with
  | @mk _ xs' ts' ys' us' zs' bs' vs' ws' hs' hb' hr' hc' hcb' hcr' ha' hab' hal' har' hbs' hbb' hbl' hbr'=>
   unfold Y1
   have m1:=hs.1;have m2:=hs'.1;have m3:=hc.1;have m4:=hc'.1;have r1:=hr.1;have r2:=hr'.1;have r3:=hcr.1;have r4:=hcr'.1
   rw [c7f] at h1 h0
   refine a0T (eqTs vs vs') (fun _ K' hk=>b2i ha ha' hab hal hal' har' iha hk) ?_
   refine a0T (eqTs ws ws') (fun _ K' hk=>b2i hbs hbs' hbb hbl hbl' hbr' ihb hk) ?_
   have lc:decide ((e.v8.n:Int)=(y0.v8.n:Int))=decide (us.length=us'.length):=by rw [Bool.eq_iff_iff];simp;omega
   have le:decide ((e.o4.n:Int)=(y0.o4.n:Int))=decide (ts.length=ts'.length):=by rw [Bool.eq_iff_iff];simp;omega
   rw [lc,le]
   have zc:decide (us.length=us'.length)=false→eqTs us us'=false:=fun q=>b1g (of_decide_eq_false q)
   have ze:decide (ts.length=ts'.length)=false→eqTs ts ts'=false:=fun q=>b1g (of_decide_eq_false q)
   refine ⟨fun hq=>h0 ?_,fun hq=>?_⟩
   ·generalize decide (e.d8=y0.d8)=q1 at hq ⊢
    generalize decide (e.t7=y0.t7)=q2 at hq ⊢
    generalize decide (us.length=us'.length)=q3 at hq zc ⊢
    generalize decide (ts.length=ts'.length)=q4 at hq ze ⊢
    generalize eqTs vs vs'=c at hq ⊢
    generalize eqTs ws ws'=d at hq ⊢
    generalize eqTs us us'=b at zc ⊢
    generalize eqTs ts ts'=a at ze ⊢
    cases q1
    ·rfl
    cases q2
    ·rfl
    cases q3
    ·rw [zc rfl];cases a<;>rfl
    cases q4
    ·rw [ze rfl];rfl
    cases a
    ·rfl
    cases b
    ·rfl
    cases c
    ·rfl
    cases d
    ·rfl
    cases hq
   ·have g:decide (e.d8=y0.d8)=true∧decide (e.t7=y0.t7)=true∧us.length=us'.length∧ts.length=ts'.length∧eqTs vs vs'=true∧eqTs ws ws'=true:=by
     rw [←decide_eq_true_iff (p:=us.length=us'.length),← decide_eq_true_iff (p:=ts.length=ts'.length)]
     generalize decide (e.d8=y0.d8)=q1 at hq ⊢
     generalize decide (e.t7=y0.t7)=q2 at hq ⊢
     generalize decide (us.length=us'.length)=q3 at hq ⊢
     generalize decide (ts.length=ts'.length)=q4 at hq ⊢
     generalize eqTs vs vs'=c at hq ⊢
     generalize eqTs ws ws'=d at hq ⊢
     cases q1<;>cases q2<;>cases q3<;>cases q4<;>cases c<;>cases d<;>first | exact ⟨rfl,rfl,rfl,rfl,rfl,rfl⟩ | cases hq
    obtain ⟨g1,g2,g3,g4,g5,g6⟩:=g
    rw [g1,g2,g5,g6,Bool.true_and,Bool.and_true,Bool.and_true,Bool.true_and] at h1 h0
    refine a9p (ts:=us) (us:=us') (by omega) (by omega) (Fin:=True) fun j next j0 j1 hn hf=>?_
    unfold a4M
    refine ⟨fun hlt=>?_,fun hlt=>?_⟩
    ·obtain ⟨x,hx,hE⟩:=hc.get j0 hlt
     obtain ⟨y,hy,hF⟩:=hc'.get j0 (show j < (y0.v8.n:Int) by omega)
     obtain ⟨t,ht⟩:=M3 (l:=us) (i:=j.toNat) (by omega)
     obtain ⟨u,hu⟩:=M3 (l:=us') (i:=j.toNat) (by omega)
     refine ⟨j0,hlt,x,hE,j0,by omega,y,hF,c0q (hcr.2 _ x t hx ht) (hcr'.2 _ y u hy hu) ⟨fun hq=>?_,fun hq=>?_⟩⟩
     ·exact h0 (by rw [b2I ht hu (by simpa using hq),Bool.and_false])
     ·rw [G3 j0 (by simp only [big] at hcb;omega)]
      exact hn t u ht hu (by simpa using hq)
    ·rw [hf (by omega),Bool.and_true] at h1 h0
     clear hn hf next
     unfold a1q
     refine a9p (ts:=ts) (us:=ts') (by omega) (by omega) (Fin:=True) fun j next j0 j1 hn hf=>?_
     unfold a4L
     refine ⟨fun hlt=>?_,fun hlt=>?_⟩
     ·obtain ⟨x,hx,hE⟩:=hs.get j0 hlt
      obtain ⟨y,hy,hF⟩:=hs'.get j0 (show j < (y0.o4.n:Int) by omega)
      obtain ⟨t,ht⟩:=M3 (l:=ts) (i:=j.toNat) (by omega)
      obtain ⟨u,hu⟩:=M3 (l:=ts') (i:=j.toNat) (by omega)
      refine ⟨j0,hlt,x,hE,j0,by omega,y,hF,b5N (hr.2 _ x t hx ht) (hr'.2 _ y u hy hu) ⟨fun hq=>?_,fun hq=>?_⟩⟩
      ·exact h0 (b2I ht hu (by simpa using hq))
      ·rw [G3 j0 (by simp only [big] at hb;omega)]
       exact hn t u ht hu (by simpa using hq)
     ·unfold a1p
      exact h1 (hf (by omega))
theorem b9A{sx sy:Sl}{xs ys:List b9}{ts us:List PT}(hx:SlH H 6 m6 sx xs)(hy:SlH H 6 m6 sy ys)(hb:xs.length≤big)(hr:u2 (SH H) xs ts)(hr':u2 (SH H) ys us){K:Bool→Hp→Prop}(h:K (eqTs ts us) H):P9 sx sy H K:=
 b2i hx hy hb hr.1 hr'.1 hr'.2 (fun i x t a b=>step_ok (hr.2 i x t a b)) h
abbrev W:=d7
def wStep(s:W)(d:Int):W:=if s.fbad=0 then (if s.fn=4096 then ⟨s.fn,s.fdepth,33⟩ else if 64 < d then ⟨s.fn,s.fdepth,32⟩ else ⟨s.fn+1,if d > s.fdepth then d else s.fdepth,0⟩) else s
mutual
def wT:PT→Int→W→W
 | .mk _ cs,d,s=>wTs cs (d+1) (wStep s d)
def wTs:List PT→Int→W→W
 | [],_,s=>s
 | t::ts,d,s=>wTs ts d (wT t d s)
end
def wok(s:W):Prop:=0≤s.fn∧s.fn≤4096
theorem b5b{s:W}{d:Int}(h:wok s):wok (wStep s d):=by
 unfold wStep
 repeat' split
 all_goals first | exact h | (unfold wok at h ⊢;dsimp only;omega)
mutual
theorem d5F:∀(t:PT)(d:Int)(s:W),wok s→wok (wT t d s)
 | .mk _ cs,d,s,h=>by rw [wT];exact b4u cs _ _ (b5b h)
theorem b4u:∀(ts:List PT)(d:Int)(s:W),wok s→wok (wTs ts d s)
 | [],_,s,h=>by rw [wTs];exact h
 | t::ts,d,s,h=>by rw [wTs];exact b4u ts d _ (d5F t d s h)
end
mutual
theorem d4i:∀(t:PT)(d:Int)(s:W),s.fbad≠0→wT t d s=s
 | .mk _ cs,d,s,h=>by
  have:wStep s d=s:=by unfold wStep;rw [if_neg h]
  rw [wT,this];exact a9q cs _ _ h
theorem a9q:∀(ts:List PT)(d:Int)(s:W),s.fbad≠0→wTs ts d s=s
 | [],_,s,h=>by rw [wTs]
 | t::ts,d,s,h=>by rw [wTs,d4i t d s h];exact a9q ts d s h
end
theorem a9r:∀(a b:List PT)(d:Int)(s:W),wTs (a++b) d s=wTs b d (wTs a d s)
 | [],b,d,s=>by rw [List.nil_append,wTs]
 | t::a,b,d,s=>by rw [List.cons_append,wTs,wTs,a9r a b]
theorem c0r{ts:List PT}{i:Nat}{t:PT}(h:ts[i]? = some t)(d:Int)(s:W):wTs (ts.take (i+1)) d s=wT t d (wTs (ts.take i) d s):=by
 rw [a5z h,a9r,wTs,wTs]
theorem b8v{ts:List PT}{i:Nat}{d:Int}{s:W}(h:ts.length≤i∨(wTs (ts.take i) d s).fbad≠0):wTs (ts.take i) d s=wTs ts d s:=by
 rcases h with h | h
 ·rw [List.take_of_length_le h]
 ·have:=a9r (ts.take i) (ts.drop i) d s
  rw [List.take_append_drop,a9q _ _ _ h] at this
  exact this.symm
theorem b6w{s:W}{d:Int}(hs:wok s){K:Bool→W→Hp→Prop}(h:K (decide ((wStep s d).fbad=0)) (wStep s d) H):P8 s d H K:=by
 refine b0D _ _ ?_
 unfold a6g
 unfold wok at hs
 unfold wStep at h
 refine ⟨fun hb=>?_,fun hb=>⟨fun h4=>?_,fun h4=>⟨fun h5=>?_,fun h5=>?_⟩⟩⟩
 ·rw [if_neg hb,decide_eq_false hb] at h;exact h
 ·rw [if_pos hb,if_pos h4] at h;exact h
 ·rw [if_pos hb,if_neg h4,if_pos h5] at h;exact h
 ·rw [if_pos hb,if_neg h4,if_neg h5] at h
  rw [G3 (by omega) (by omega),hb];exact h
theorem b8w{s:W}{d:Int}(h:(wStep s d).fbad=0):d≤64:=by
 unfold wStep at h
 split at h
 ·split at h
  ·cases h
  ·split at h
   ·cases h
   ·omega
 ·rename_i hb;exact (hb h).elim
theorem wloop{ts:List PT}{d:Int}{s1:W}(ok1:wok s1){body:Int×W→Hp→(Int×W→Hp→Prop)→Prop}
  (hb:∀(i:Int)(s:W)(next:Int×W→Hp→Prop),0≤i→i≤ts.length→wok s→(∀t,ts[i.toNat]? = some t→next (i+1,wT t d s) H)→((ts.length≤i∨s.fbad≠0)→s=wTs ts d s1)→body (i,s) H next):TL ((0,s1):Int×W) H body:=by
 refine D1 (fun(q:Int×W) H'=>0≤q.1∧q.1≤ts.length∧H'=H∧q.2=wTs (ts.take q.1.toNat) d s1) (fun q=>(ts.length-q.1).toNat) ⟨Int.le_refl _,by simp,rfl,by simp [wTs]⟩ ?_
 rintro ⟨i,s⟩ H1 next ⟨i0,i1,rfl,hs⟩ hn
 dsimp only at i0 i1 hs ⊢
 subst hs
 refine hb i _ next i0 i1 (b4u _ _ _ ok1) (fun t ht=>?_) fun he=>b8v (by omega)
 have:=E0 ht
 refine hn _ _ ⟨by show 0≤i+1;omega,by show i+1≤_;omega,rfl,?_⟩ (by show (ts.length-(i+1)).toNat < (ts.length-i).toNat;omega)
 show wT t d _=wTs (ts.take (i+1).toNat) d s1
 rw [show (i+1).toNat=i.toNat+1 by omega,c0r ht]
theorem b0q{i n:Int}{b:Int}:(decide (i < n)&&decide (b=0))=decide (i < n∧b=0):=by rw [Bool.eq_iff_iff];simp
theorem b5O{e:d9}{t:PT}(he:EH H e t){s:W}{d:Int}(hs:wok s)(d0:0≤d)(d1:d≤65){K:W→Hp→Prop}(h:K (wT t d s) H):U6 s e d H K:=by
 induction he generalizing s d K with
 | @mk e xs ts hsl hb hl _ ih=>
  refine b0x _ _ _ ?_
  unfold a5Y
  rw [wT] at h
  refine b6w hs ⟨fun hq=>?_,fun hq=>?_⟩
  ·rw [a9q _ _ _ (by simpa using hq)] at h;exact h
  have hq':(wStep s d).fbad=0:=by simpa using hq
  have d64:=b8w hq'
  have ok1:=b5b (d:=d) hs
  refine wloop (ts:=ts) (d:=d+1) ok1 fun i s' next i0 i1 hok hn hf=>?_
  unfold a4x
  rw [b0q]
  refine ⟨fun hc=>?_,fun hc=>?_⟩
  ·have hc':=of_decide_eq_true hc
   dsimp only at hc'
   obtain ⟨x,hx,hE⟩:=hsl.get i0 hc'.1
   obtain ⟨t,ht⟩:=M3 (l:=ts) (i:=i.toNat) (by have:=E0 hx;omega)
   refine ⟨i0,hc'.1,x,hE,?_⟩
   rw [G3 (show 0≤d by omega) (by omega),G3 i0 (by simp only [big] at hb;have:=E0 hx;omega)]
   exact ih _ x t hx ht hok (by omega) (by omega) (hn t ht)
  ·have hc':=of_decide_eq_false hc
   dsimp only at hc'
   have hfin:=hf (by have:=hsl.1;omega)
   rw [hfin];exact h
theorem c0s{e:f8}{t:PT}(he:CH H e t){s:W}{d:Int}(hs:wok s)(d0:0≤d)(d1:d≤65){K:W→Hp→Prop}(h:K (wT t d s) H):a0m s e d H K:=by
 induction he generalizing s d K with
 | @mk e xs ts ys us hsl hb hr hcl hcb hcl' _ ih=>
  refine b0E _ _ _ ?_
  unfold a6i
  rw [wT] at h
  refine b6w hs ⟨fun hq=>?_,fun hq=>?_⟩
  ·rw [a9q _ _ _ (by simpa using hq)] at h;exact h
  have hq':(wStep s d).fbad=0:=by simpa using hq
  have d64:=b8w hq'
  rw [a9r] at h
  have ok1:=b5b (d:=d) hs
  refine wloop (ts:=ts) (d:=d+1) ok1 fun i s' next i0 i1 hok hn hf=>?_
  unfold a4K
  rw [b0q]
  refine ⟨fun hc=>?_,fun hc=>?_⟩
  ·have hc':=of_decide_eq_true hc
   dsimp only at hc'
   obtain ⟨x,hx,hE⟩:=hsl.get i0 hc'.1
   obtain ⟨t,ht⟩:=M3 (l:=ts) (i:=i.toNat) (by have:=E0 hx;have:=hr.1;omega)
   refine ⟨i0,hc'.1,x,hE,?_⟩
   rw [G3 (show 0≤d by omega) (by omega),G3 i0 (by simp only [big] at hb;have:=E0 hx;omega)]
   exact b5O (hr.2 _ x t hx ht) hok (by omega) (by omega) (hn t ht)
  ·have hc':=of_decide_eq_false hc
   dsimp only at hc'
   have hfin:=hf (by have:=hsl.1;have:=hr.1;omega)
   clear hn hf next
   rw [←hfin] at h
   clear hfin hc'
   unfold a1o
   refine wloop (ts:=us) (d:=d+1) hok fun i s' next i0 i1 hok hn hf=>?_
   unfold a4J
   rw [b0q]
   refine ⟨fun hc=>?_,fun hc=>?_⟩
   ·have hc':=of_decide_eq_true hc
    dsimp only at hc'
    obtain ⟨x,hx,hE⟩:=hcl.get i0 hc'.1
    obtain ⟨t,ht⟩:=M3 (l:=us) (i:=i.toNat) (by have:=E0 hx;omega)
    refine ⟨i0,hc'.1,x,hE,?_⟩
    rw [G3 (show 0≤d by omega) (by omega),G3 i0 (by simp only [big] at hcb;have:=E0 hx;omega)]
    exact ih _ x t hx ht hok (by omega) (by omega) (hn t ht)
   ·have hc':=of_decide_eq_false hc
    dsimp only at hc'
    have hfin:=hf (by have:=hcl.1;omega)
    rw [hfin];exact h
theorem c0t{e:b9}{t:PT}(he:SH H e t){s:W}{d:Int}(hs:wok s)(d0:0≤d)(d1:d≤65){K:W→Hp→Prop}(h:K (wT t d s) H):U7 s e d H K:=by
 induction he generalizing s d K with
 | @mk e xs ts ys us zs bs vs ws hsl hb hr hcl hcb hcr ha hab hal _ hbs hbb hbl _ iha ihb=>
  refine b0y _ _ _ ?_
  unfold a5Z
  rw [wT] at h
  refine b6w hs ⟨fun hq=>?_,fun hq=>?_⟩
  ·rw [a9q _ _ _ (by simpa using hq)] at h;exact h
  have hq':(wStep s d).fbad=0:=by simpa using hq
  have d64:=b8w hq'
  rw [a9r,a9r,a9r] at h
  have ok1:=b5b (d:=d) hs
  refine wloop (ts:=us) (d:=d+1) ok1 fun i s' next i0 i1 hok hn hf=>?_
  unfold a4B
  rw [b0q]
  refine ⟨fun hc=>?_,fun hc=>?_⟩
  ·have hc':=of_decide_eq_true hc
   dsimp only at hc'
   obtain ⟨x,hx,hE⟩:=hcl.get i0 hc'.1
   obtain ⟨t,ht⟩:=M3 (l:=us) (i:=i.toNat) (by have:=E0 hx;have:=hcr.1;omega)
   refine ⟨i0,hc'.1,x,hE,?_⟩
   rw [G3 (show 0≤d by omega) (by omega),G3 i0 (by simp only [big] at hcb;have:=E0 hx;omega)]
   exact c0s (hcr.2 _ x t hx ht) hok (by omega) (by omega) (hn t ht)
  ·have hc':=of_decide_eq_false hc
   dsimp only at hc'
   have hfin:=hf (by have:=hcl.1;have:=hcr.1;skip;omega)
   clear hn hf next
   rw [←hfin] at h
   clear hfin hc'
   unfold a1l
   refine wloop (ts:=ts) (d:=d+1) hok fun i s' next i0 i1 hok hn hf=>?_
   unfold a4A
   rw [b0q]
   refine ⟨fun hc=>?_,fun hc=>?_⟩
   ·have hc':=of_decide_eq_true hc
    dsimp only at hc'
    obtain ⟨x,hx,hE⟩:=hsl.get i0 hc'.1
    obtain ⟨t,ht⟩:=M3 (l:=ts) (i:=i.toNat) (by have:=E0 hx;have:=hr.1;omega)
    refine ⟨i0,hc'.1,x,hE,?_⟩
    rw [G3 (show 0≤d by omega) (by omega),G3 i0 (by simp only [big] at hb;have:=E0 hx;omega)]
    exact b5O (hr.2 _ x t hx ht) hok (by omega) (by omega) (hn t ht)
   ·have hc':=of_decide_eq_false hc
    dsimp only at hc'
    have hfin:=hf (by have:=hsl.1;have:=hr.1;skip;omega)
    clear hn hf next
    rw [←hfin] at h
    clear hfin hc'
    unfold a1k
    refine wloop (ts:=vs) (d:=d+1) hok fun i s' next i0 i1 hok hn hf=>?_
    unfold a4z
    rw [b0q]
    refine ⟨fun hc=>?_,fun hc=>?_⟩
    ·have hc':=of_decide_eq_true hc
     dsimp only at hc'
     obtain ⟨x,hx,hE⟩:=ha.get i0 hc'.1
     obtain ⟨t,ht⟩:=M3 (l:=vs) (i:=i.toNat) (by have:=E0 hx;omega)
     refine ⟨i0,hc'.1,x,hE,?_⟩
     rw [G3 (show 0≤d by omega) (by omega),G3 i0 (by simp only [big] at hab;have:=E0 hx;omega)]
     exact iha _ x t hx ht hok (by omega) (by omega) (hn t ht)
    ·have hc':=of_decide_eq_false hc
     dsimp only at hc'
     have hfin:=hf (by have:=ha.1;skip;omega)
     clear hn hf next
     rw [←hfin] at h
     clear hfin hc'
     unfold a1j
     refine wloop (ts:=ws) (d:=d+1) hok fun i s' next i0 i1 hok hn hf=>?_
     unfold a4y
     rw [b0q]
     refine ⟨fun hc=>?_,fun hc=>?_⟩
     ·have hc':=of_decide_eq_true hc
      dsimp only at hc'
      obtain ⟨x,hx,hE⟩:=hbs.get i0 hc'.1
      obtain ⟨t,ht⟩:=M3 (l:=ws) (i:=i.toNat) (by have:=E0 hx;omega)
      refine ⟨i0,hc'.1,x,hE,?_⟩
      rw [G3 (show 0≤d by omega) (by omega),G3 i0 (by simp only [big] at hbb;have:=E0 hx;omega)]
      exact ihb _ x t hx ht hok (by omega) (by omega) (hn t ht)
     ·have hc':=of_decide_eq_false hc
      dsimp only at hc'
      have hfin:=hf (by have:=hbs.1;skip;omega)
      rw [hfin];exact h
def dT(d:m7):PT:=.mk (.decl d.a1u d.t7) []
theorem d0D(d:m7)(n:Int)(s:W):wT (dT d) n s=wStep s n:=by unfold dT;rw [wT,wTs]
def PP.nodes(q:PP):List PT:=q.decls.map dT++q.body
def w0S:W:=⟨0,0,0⟩
theorem b8O{p:l8}{q:PP}(hp:PH H p q){K:W→Hp→Prop}(h:K (wTs q.nodes 1 w0S) H):a1b p H K:=by
 refine b1M _ ?_
 unfold a7f
 obtain ⟨hd,hbd,xs,hsl,hb,hr⟩:=hp
 have n1:=hd.1;have n2:=hsl.1;have r1:=hr.1
 unfold PP.nodes at h
 rw [a9r] at h
 refine D1 (fun(z:Int×W×W) H'=>0≤z.1∧z.1≤q.decls.length∧H'=H∧z.2.1=wTs ((q.decls.map dT).take z.1.toNat) 1 w0S) (fun z=>(q.decls.length-z.1).toNat) ⟨Int.le_refl _,by simp,rfl,by simp [wTs,w0S]⟩ ?_
 rintro ⟨i,s,s'⟩ H1 next ⟨i0,i1,rfl,hs⟩ hn
 dsimp only at i0 i1 hs ⊢
 subst hs
 unfold a6b
 rw [b0q]
 have ok0:wok w0S:=⟨by decide,by decide⟩
 refine ⟨fun hc=>?_,fun hc=>?_⟩
 ·have hc':=of_decide_eq_true hc
  refine b6w (b4u _ _ _ ok0) ?_
  obtain ⟨x,hx⟩:=M3 (l:=q.decls) (i:=i.toNat) (by omega)
  rw [G3 i0 (by simp only [big] at hbd;omega)]
  refine hn _ _ ⟨by show 0≤i+1;omega,by show i+1≤_;omega,rfl,?_⟩ (by show (q.decls.length-(i+1)).toNat < (q.decls.length-i).toNat;omega)
  show wStep _ 1=wTs ((q.decls.map dT).take (i+1).toNat) 1 w0S
  rw [show (i+1).toNat=i.toNat+1 by omega,c0r (t:=dT x) (by rw [List.getElem?_map,hx];rfl),d0D]
 ·have hc':=of_decide_eq_false hc
  have hfin:=b8v (ts:=q.decls.map dT) (i:=i.toNat) (d:=1) (s:=w0S) (by
   by_cases h0:(wTs ((q.decls.map dT).take i.toNat) 1 w0S).fbad=0
   ·left;rw [List.length_map];omega
   ·exact .inr h0)
  rw [hfin]
  clear hn hc hc' next
  unfold a2g
  have ok1:=b4u (q.decls.map dT) 1 _ ok0
  refine D1 (fun(z:Int×W×W) H'=>0≤z.1∧z.1≤q.body.length∧H'=H1∧z.2.1=wTs (q.body.take z.1.toNat) 1 (wTs (q.decls.map dT) 1 w0S)) (fun z=>(q.body.length-z.1).toNat) ⟨Int.le_refl _,by simp,rfl,by simp [wTs]⟩ ?_
  rintro ⟨j,s2,s3⟩ H2 next ⟨j0,j1,rfl,hs⟩ hn
  dsimp only at j0 j1 hs ⊢
  subst hs
  unfold a6a
  rw [b0q]
  refine ⟨fun hc=>?_,fun hc=>?_⟩
  ·have hc':=of_decide_eq_true hc
   obtain ⟨x,hx,hE⟩:=hsl.get j0 hc'.1
   obtain ⟨t,ht⟩:=M3 (l:=q.body) (i:=j.toNat) (by have:=E0 hx;omega)
   refine ⟨j0,hc'.1,x,hE,c0t (hr.2 _ x t hx ht) (b4u _ _ _ ok1) (by decide) (by decide) ?_⟩
   rw [G3 j0 (by simp only [big] at hb;have:=E0 hx;omega)]
   refine hn _ _ ⟨by show 0≤j+1;omega,by show j+1≤_;have:=E0 ht;omega,rfl,?_⟩ (by show (q.body.length-(j+1)).toNat < (q.body.length-j).toNat;have:=E0 ht;omega)
   show wT t 1 _=wTs (q.body.take (j+1).toNat) 1 _
   rw [show (j+1).toNat=j.toNat+1 by omega,c0r ht]
  ·have hc':=of_decide_eq_false hc
   unfold a2f
   rw [b8v (ts:=q.body) (i:=j.toNat) (by
    by_cases h0:(wTs (q.body.take j.toNat) 1 (wTs (q.decls.map dT) 1 w0S)).fbad=0
    ·left;omega
    ·exact .inr h0)]
   exact h
theorem c5N{p:l8}{q:PP}(hp:PH H p q){K:Bool→Hp→Prop}(h:K (decide ((wTs q.nodes 1 w0S).fbad=0)) H):a2r p H K:=by
 refine b3A _ ?_
 unfold a8A
 exact b8O hp h
end
end Go.Proofs.YthklmeihgmcljaaGreatDoor
