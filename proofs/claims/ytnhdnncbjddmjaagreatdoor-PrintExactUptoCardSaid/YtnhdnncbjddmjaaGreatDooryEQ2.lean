/- The document's trees: whether two are the same; how many nodes, how deep. Contracts off the printed formulas. -/
import Derived.Test.YtnhdnncbjddmjaaGreatDooryEQ1
namespace Go.Proofs.YtnhdnncbjddmjaaGreatDoor
open Go.RowKit
set_option maxRecDepth 100000
set_option maxHeartbeats 2000000
section
variable {H:Hp}
abbrev W:=b7
def wStep(s:W)(d:Int):W:=if s.fbad=0 then (if s.fn=4096 then ⟨s.fn,s.fdepth,33⟩ else if 64 < d then ⟨s.fn,s.fdepth,32⟩ else ⟨s.fn+1,if d > s.fdepth then d else s.fdepth,0⟩) else s
mutual
def wT:PT→Int→W→W
 | .mk _ cs,d,s=>wTs cs (d+1) (wStep s d)
def wTs:List PT→Int→W→W
 | [],_,s=>s
 | t::ts,d,s=>wTs ts d (wT t d s)
end
def wok(s:W):Prop:=0≤s.fn∧s.fn≤4096
theorem a7t{s:W}{d:Int}(h:wok s):wok (wStep s d):=by
 unfold wStep
 repeat' split
 all_goals first | exact h | (unfold wok at h ⊢;dsimp only;omega)
mutual
theorem c0A:∀(t:PT)(d:Int)(s:W),wok s→wok (wT t d s)
 | .mk _ cs,d,s,h=>by rw [wT];exact a6O cs _ _ (a7t h)
theorem a6O:∀(ts:List PT)(d:Int)(s:W),wok s→wok (wTs ts d s)
 | [],_,s,h=>by rw [wTs];exact h
 | t::ts,d,s,h=>by rw [wTs];exact a6O ts d _ (c0A t d s h)
end
mutual
theorem b9Y:∀(t:PT)(d:Int)(s:W),s.fbad≠0→wT t d s=s
 | .mk _ cs,d,s,h=>by
  have:wStep s d=s:=by unfold wStep;rw [if_neg h]
  rw [wT,this];exact a0T cs _ _ h
theorem a0T:∀(ts:List PT)(d:Int)(s:W),s.fbad≠0→wTs ts d s=s
 | [],_,s,h=>by rw [wTs]
 | t::ts,d,s,h=>by rw [wTs,b9Y t d s h];exact a0T ts d s h
end
theorem a3V:∀(a b:List PT)(d:Int)(s:W),wTs (a++b) d s=wTs b d (wTs a d s)
 | [],b,d,s=>by rw [List.nil_append,wTs]
 | t::a,b,d,s=>by rw [List.cons_append,wTs,wTs,a3V a b]
theorem b2b{ts:List PT}{i:Nat}{t:PT}(h:ts[i]? = some t)(d:Int)(s:W):wTs (ts.take (i+1)) d s=wT t d (wTs (ts.take i) d s):=by
 rw [a1I h,a3V,wTs,wTs]
theorem a9G{ts:List PT}{i:Nat}{d:Int}{s:W}(h:ts.length≤i∨(wTs (ts.take i) d s).fbad≠0):wTs (ts.take i) d s=wTs ts d s:=by
 rcases h with h | h
 ·rw [List.take_of_length_le h]
 ·have:=a3V (ts.take i) (ts.drop i) d s
  rw [List.take_append_drop,a0T _ _ _ h] at this
  exact this.symm
theorem a8o{s:W}{d:Int}(hs:wok s){K:Bool→W→Hp→Prop}(h:K (decide ((wStep s d).fbad=0)) (wStep s d) H):E1 s d H K:=by
 refine a4y _ _ ?_
 unfold W8
 unfold wok at hs
 unfold wStep at h
 refine ⟨fun hb=>?_,fun hb=>⟨fun h4=>?_,fun h4=>⟨fun h5=>?_,fun h5=>?_⟩⟩⟩
 ·rw [if_neg hb,decide_eq_false hb] at h;exact h
 ·rw [if_pos hb,if_pos h4] at h;exact h
 ·rw [if_pos hb,if_neg h4,if_pos h5] at h;exact h
 ·rw [if_pos hb,if_neg h4,if_neg h5] at h
  rw [u5 (by omega) (by omega),hb];exact h
theorem a9H{s:W}{d:Int}(h:(wStep s d).fbad=0):d≤64:=by
 unfold wStep at h
 split at h
 ·split at h
  ·cases h
  ·split at h
   ·cases h
   ·omega
 ·rename_i hb;exact (hb h).elim
theorem wloop{ts:List PT}{d:Int}{s1:W}(ok1:wok s1){body:Int×W→Hp→(Int×W→Hp→Prop)→Prop}
  (hb:∀(i:Int)(s:W)(next:Int×W→Hp→Prop),0≤i→i≤ts.length→wok s→(∀t,ts[i.toNat]? = some t→next (i+1,wT t d s) H)→((ts.length≤i∨s.fbad≠0)→s=wTs ts d s1)→body (i,s) H next):TL ((0,s1):Int×W) H body:=by
 refine Q9 (fun(q:Int×W) H'=>0≤q.1∧q.1≤ts.length∧H'=H∧q.2=wTs (ts.take q.1.toNat) d s1) (fun q=>(ts.length-q.1).toNat) ⟨Int.le_refl _,by simp,rfl,by simp [wTs]⟩ ?_
 rintro ⟨i,s⟩ H1 next ⟨i0,i1,rfl,hs⟩ hn
 dsimp only at i0 i1 hs ⊢
 subst hs
 refine hb i _ next i0 i1 (a6O _ _ _ ok1) (fun t ht=>?_) fun he=>a9G (by omega)
 have:=t8 ht
 refine hn _ _ ⟨by show 0≤i+1;omega,by show i+1≤_;omega,rfl,?_⟩ (by show (ts.length-(i+1)).toNat < (ts.length-i).toNat;omega)
 show wT t d _=wTs (ts.take (i+1).toNat) d s1
 rw [show (i+1).toNat=i.toNat+1 by omega,b2b ht]
theorem a4q{i n:Int}{b:Int}:(decide (i < n)&&decide (b=0))=decide (i < n∧b=0):=by rw [Bool.eq_iff_iff];simp
theorem a7U{e:d8}{t:PT}(he:EH H e t){s:W}{d:Int}(hs:wok s)(d0:0≤d)(d1:d≤65){K:W→Hp→Prop}(h:K (wT t d s) H):K1 s e d H K:=by
 induction he generalizing s d K with
 | @mk e xs ts hsl hb hl _ ih=>
  refine a4z _ _ _ ?_
  unfold W9
  rw [wT] at h
  refine a8o hs ⟨fun hq=>?_,fun hq=>?_⟩
  ·rw [a0T _ _ _ (by simpa using hq)] at h;exact h
  have hq':(wStep s d).fbad=0:=by simpa using hq
  have d64:=a9H hq'
  have ok1:=a7t (d:=d) hs
  refine wloop (ts:=ts) (d:=d+1) ok1 fun i s' next i0 i1 hok hn hf=>?_
  unfold S5
  rw [a4q]
  refine ⟨fun hc=>?_,fun hc=>?_⟩
  ·have hc':=of_decide_eq_true hc
   dsimp only at hc'
   obtain ⟨x,hx,hE⟩:=hsl.get i0 hc'.1
   obtain ⟨t,ht⟩:=A0 (l:=ts) (i:=i.toNat) (by have:=t8 hx;omega)
   refine ⟨i0,hc'.1,x,hE,?_⟩
   rw [u5 (show 0≤d by omega) (by omega),u5 i0 (by simp only [big] at hb;have:=t8 hx;omega)]
   exact ih _ x t hx ht hok (by omega) (by omega) (hn t ht)
  ·have hc':=of_decide_eq_false hc
   dsimp only at hc'
   have hfin:=hf (by have:=hsl.1;omega)
   rw [hfin];exact h
theorem b2c{e:f9}{t:PT}(he:CH H e t){s:W}{d:Int}(hs:wok s)(d0:0≤d)(d1:d≤65){K:W→Hp→Prop}(h:K (wT t d s) H):O0 s e d H K:=by
 induction he generalizing s d K with
 | @mk e xs ts ys us hsl hb hr hcl hcb hcl' _ ih=>
  refine a4A _ _ _ ?_
  unfold X0
  rw [wT] at h
  refine a8o hs ⟨fun hq=>?_,fun hq=>?_⟩
  ·rw [a0T _ _ _ (by simpa using hq)] at h;exact h
  have hq':(wStep s d).fbad=0:=by simpa using hq
  have d64:=a9H hq'
  rw [a3V] at h
  have ok1:=a7t (d:=d) hs
  refine wloop (ts:=ts) (d:=d+1) ok1 fun i s' next i0 i1 hok hn hf=>?_
  unfold S7
  rw [a4q]
  refine ⟨fun hc=>?_,fun hc=>?_⟩
  ·have hc':=of_decide_eq_true hc
   dsimp only at hc'
   obtain ⟨x,hx,hE⟩:=hsl.get i0 hc'.1
   obtain ⟨t,ht⟩:=A0 (l:=ts) (i:=i.toNat) (by have:=t8 hx;have:=hr.1;omega)
   refine ⟨i0,hc'.1,x,hE,?_⟩
   rw [u5 (show 0≤d by omega) (by omega),u5 i0 (by simp only [big] at hb;have:=t8 hx;omega)]
   exact a7U (hr.2 _ x t hx ht) hok (by omega) (by omega) (hn t ht)
  ·have hc':=of_decide_eq_false hc
   dsimp only at hc'
   have hfin:=hf (by have:=hsl.1;have:=hr.1;omega)
   clear hn hf next
   rw [←hfin] at h
   clear hfin hc'
   unfold M3
   refine wloop (ts:=us) (d:=d+1) hok fun i s' next i0 i1 hok hn hf=>?_
   unfold S6
   rw [a4q]
   refine ⟨fun hc=>?_,fun hc=>?_⟩
   ·have hc':=of_decide_eq_true hc
    dsimp only at hc'
    obtain ⟨x,hx,hE⟩:=hcl.get i0 hc'.1
    obtain ⟨t,ht⟩:=A0 (l:=us) (i:=i.toNat) (by have:=t8 hx;omega)
    refine ⟨i0,hc'.1,x,hE,?_⟩
    rw [u5 (show 0≤d by omega) (by omega),u5 i0 (by simp only [big] at hcb;have:=t8 hx;omega)]
    exact ih _ x t hx ht hok (by omega) (by omega) (hn t ht)
   ·have hc':=of_decide_eq_false hc
    dsimp only at hc'
    have hfin:=hf (by have:=hcl.1;omega)
    rw [hfin];exact h
theorem b2d{e:i6}{t:PT}(he:SH H e t){s:W}{d:Int}(hs:wok s)(d0:0≤d)(d1:d≤65){K:W→Hp→Prop}(h:K (wT t d s) H):K2 s e d H K:=by
 induction he generalizing s d K with
 | @mk e xs ts ys us zs bs vs ws hsl hb hr hcl hcb hcr ha hab hal _ hbs hbb hbl _ iha ihb=>
  refine a4B _ _ _ ?_
  unfold X1
  rw [wT] at h
  refine a8o hs ⟨fun hq=>?_,fun hq=>?_⟩
  ·rw [a0T _ _ _ (by simpa using hq)] at h;exact h
  have hq':(wStep s d).fbad=0:=by simpa using hq
  have d64:=a9H hq'
  rw [a3V,a3V,a3V] at h
  have ok1:=a7t (d:=d) hs
  refine wloop (ts:=us) (d:=d+1) ok1 fun i s' next i0 i1 hok hn hf=>?_
  unfold T1
  rw [a4q]
  refine ⟨fun hc=>?_,fun hc=>?_⟩
  ·have hc':=of_decide_eq_true hc
   dsimp only at hc'
   obtain ⟨x,hx,hE⟩:=hcl.get i0 hc'.1
   obtain ⟨t,ht⟩:=A0 (l:=us) (i:=i.toNat) (by have:=t8 hx;have:=hcr.1;omega)
   refine ⟨i0,hc'.1,x,hE,?_⟩
   rw [u5 (show 0≤d by omega) (by omega),u5 i0 (by simp only [big] at hcb;have:=t8 hx;omega)]
   exact b2c (hcr.2 _ x t hx ht) hok (by omega) (by omega) (hn t ht)
  ·have hc':=of_decide_eq_false hc
   dsimp only at hc'
   have hfin:=hf (by have:=hcl.1;have:=hcr.1;skip;omega)
   clear hn hf next
   rw [←hfin] at h
   clear hfin hc'
   unfold M6
   refine wloop (ts:=ts) (d:=d+1) hok fun i s' next i0 i1 hok hn hf=>?_
   unfold T0
   rw [a4q]
   refine ⟨fun hc=>?_,fun hc=>?_⟩
   ·have hc':=of_decide_eq_true hc
    dsimp only at hc'
    obtain ⟨x,hx,hE⟩:=hsl.get i0 hc'.1
    obtain ⟨t,ht⟩:=A0 (l:=ts) (i:=i.toNat) (by have:=t8 hx;have:=hr.1;omega)
    refine ⟨i0,hc'.1,x,hE,?_⟩
    rw [u5 (show 0≤d by omega) (by omega),u5 i0 (by simp only [big] at hb;have:=t8 hx;omega)]
    exact a7U (hr.2 _ x t hx ht) hok (by omega) (by omega) (hn t ht)
   ·have hc':=of_decide_eq_false hc
    dsimp only at hc'
    have hfin:=hf (by have:=hsl.1;have:=hr.1;skip;omega)
    clear hn hf next
    rw [←hfin] at h
    clear hfin hc'
    unfold M5
    refine wloop (ts:=vs) (d:=d+1) hok fun i s' next i0 i1 hok hn hf=>?_
    unfold S9
    rw [a4q]
    refine ⟨fun hc=>?_,fun hc=>?_⟩
    ·have hc':=of_decide_eq_true hc
     dsimp only at hc'
     obtain ⟨x,hx,hE⟩:=ha.get i0 hc'.1
     obtain ⟨t,ht⟩:=A0 (l:=vs) (i:=i.toNat) (by have:=t8 hx;omega)
     refine ⟨i0,hc'.1,x,hE,?_⟩
     rw [u5 (show 0≤d by omega) (by omega),u5 i0 (by simp only [big] at hab;have:=t8 hx;omega)]
     exact iha _ x t hx ht hok (by omega) (by omega) (hn t ht)
    ·have hc':=of_decide_eq_false hc
     dsimp only at hc'
     have hfin:=hf (by have:=ha.1;skip;omega)
     clear hn hf next
     rw [←hfin] at h
     clear hfin hc'
     unfold M4
     refine wloop (ts:=ws) (d:=d+1) hok fun i s' next i0 i1 hok hn hf=>?_
     unfold S8
     rw [a4q]
     refine ⟨fun hc=>?_,fun hc=>?_⟩
     ·have hc':=of_decide_eq_true hc
      dsimp only at hc'
      obtain ⟨x,hx,hE⟩:=hbs.get i0 hc'.1
      obtain ⟨t,ht⟩:=A0 (l:=ws) (i:=i.toNat) (by have:=t8 hx;omega)
      refine ⟨i0,hc'.1,x,hE,?_⟩
      rw [u5 (show 0≤d by omega) (by omega),u5 i0 (by simp only [big] at hbb;have:=t8 hx;omega)]
      exact ihb _ x t hx ht hok (by omega) (by omega) (hn t ht)
     ·have hc':=of_decide_eq_false hc
      dsimp only at hc'
      have hfin:=hf (by have:=hbs.1;skip;omega)
      rw [hfin];exact h
def dT(d:G4):PT:=.mk (.decl d.L3 d.f4) []
theorem b7p(d:G4)(n:Int)(s:W):wT (dT d) n s=wStep s n:=by unfold dT;rw [wT,wTs]
def PP.nodes(q:PP):List PT:=q.decls.map dT++q.body
def w0S:W:=⟨0,0,0⟩
theorem b4Z{p:l9}{q:PP}(hp:PH H p q){K:W→Hp→Prop}(h:K (wTs q.nodes 1 w0S) H):a0i p H K:=by
 refine a5i _ ?_
 unfold a0s
 obtain ⟨hd,hbd,xs,hsl,hb,hr⟩:=hp
 have n1:=hd.1;have n2:=hsl.1;have r1:=hr.1
 unfold PP.nodes at h
 rw [a3V] at h
 refine Q9 (fun(z:Int×W×W) H'=>0≤z.1∧z.1≤q.decls.length∧H'=H∧z.2.1=wTs ((q.decls.map dT).take z.1.toNat) 1 w0S) (fun z=>(q.decls.length-z.1).toNat) ⟨Int.le_refl _,by simp,rfl,by simp [wTs,w0S]⟩ ?_
 rintro ⟨i,s,s'⟩ H1 next ⟨i0,i1,rfl,hs⟩ hn
 dsimp only at i0 i1 hs ⊢
 subst hs
 unfold X5
 rw [a4q]
 have ok0:wok w0S:=⟨by decide,by decide⟩
 refine ⟨fun hc=>?_,fun hc=>?_⟩
 ·have hc':=of_decide_eq_true hc
  refine a8o (a6O _ _ _ ok0) ?_
  obtain ⟨x,hx⟩:=A0 (l:=q.decls) (i:=i.toNat) (by omega)
  rw [u5 i0 (by simp only [big] at hbd;omega)]
  refine hn _ _ ⟨by show 0≤i+1;omega,by show i+1≤_;omega,rfl,?_⟩ (by show (q.decls.length-(i+1)).toNat < (q.decls.length-i).toNat;omega)
  show wStep _ 1=wTs ((q.decls.map dT).take (i+1).toNat) 1 w0S
  rw [show (i+1).toNat=i.toNat+1 by omega,b2b (t:=dT x) (by rw [List.getElem?_map,hx];rfl),b7p]
 ·have hc':=of_decide_eq_false hc
  have hfin:=a9G (ts:=q.decls.map dT) (i:=i.toNat) (d:=1) (s:=w0S) (by
   by_cases h0:(wTs ((q.decls.map dT).take i.toNat) 1 w0S).fbad=0
   ·left;rw [List.length_map];omega
   ·exact .inr h0)
  rw [hfin]
  clear hn hc hc' next
  unfold O4
  have ok1:=a6O (q.decls.map dT) 1 _ ok0
  refine Q9 (fun(z:Int×W×W) H'=>0≤z.1∧z.1≤q.body.length∧H'=H1∧z.2.1=wTs (q.body.take z.1.toNat) 1 (wTs (q.decls.map dT) 1 w0S)) (fun z=>(q.body.length-z.1).toNat) ⟨Int.le_refl _,by simp,rfl,by simp [wTs]⟩ ?_
  rintro ⟨j,s2,s3⟩ H2 next ⟨j0,j1,rfl,hs⟩ hn
  dsimp only at j0 j1 hs ⊢
  subst hs
  unfold X4
  rw [a4q]
  refine ⟨fun hc=>?_,fun hc=>?_⟩
  ·have hc':=of_decide_eq_true hc
   obtain ⟨x,hx,hE⟩:=hsl.get j0 hc'.1
   obtain ⟨t,ht⟩:=A0 (l:=q.body) (i:=j.toNat) (by have:=t8 hx;omega)
   refine ⟨j0,hc'.1,x,hE,b2d (hr.2 _ x t hx ht) (a6O _ _ _ ok1) (by decide) (by decide) ?_⟩
   rw [u5 j0 (by simp only [big] at hb;have:=t8 hx;omega)]
   refine hn _ _ ⟨by show 0≤j+1;omega,by show j+1≤_;have:=t8 ht;omega,rfl,?_⟩ (by show (q.body.length-(j+1)).toNat < (q.body.length-j).toNat;have:=t8 ht;omega)
   show wT t 1 _=wTs (q.body.take (j+1).toNat) 1 _
   rw [show (j+1).toNat=j.toNat+1 by omega,b2b ht]
  ·have hc':=of_decide_eq_false hc
   unfold O3
   rw [a9G (ts:=q.body) (i:=j.toNat) (by
    by_cases h0:(wTs (q.body.take j.toNat) 1 (wTs (q.decls.map dT) 1 w0S)).fbad=0
    ·left;omega
    ·exact .inr h0)]
   exact h
end
end Go.Proofs.YtnhdnncbjddmjaaGreatDoor
