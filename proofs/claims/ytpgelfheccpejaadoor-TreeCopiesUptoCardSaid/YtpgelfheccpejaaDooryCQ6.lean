/- Whether two programs are the same, by the program and by the document; what is known; the law. Contracts off the printed formulas. -/
import Derived.Test.YtpgelfheccpejaaDooryCQ5
namespace Go.Proofs.YtpgelfheccpejaaDoor
open Go.RowKit
set_option maxRecDepth 100000
set_option maxHeartbeats 2000000
theorem b6R{α:Type}{q:Prop} [Decidable q] {call:(α→Hp→Prop)→Prop} {d:α} {H:Hp} {K:α→Hp→Prop} (v:α) (hc:q→∀K':α→Hp→Prop,(∀H',Hle H H'→K' v H')→call K') (h:∀H',Hle H H'→K (if q then v else d) H'):TG q call d H K:=
 ⟨fun hq=>hc hq _ fun H' l=>(by have:=h H' l;rwa [if_pos hq] at this),fun hq=>(by have:=h H (Hle.refl _);rwa [if_neg hq] at this)⟩
open Classical in
noncomputable def eqD(a b:List s7):Bool:=decide (a=b)
theorem a8o{a b:List s7}:eqD a b=true↔a=b:=by unfold eqD;simp
theorem b2B{a b:List s7}:eqD a b=false↔a≠b:=by unfold eqD;simp
noncomputable def eqS(q q':PP):Bool:=((fewP q&&fewP q')&&eqD q.decls q'.decls)&&eqTs q.body q'.body
section
variable {H:Hp}
theorem b9L{sx sy:Sl}{xs ys:List c6}{ts us:List PT}(hx:SlH H 6 c5 sx xs)(hy:SlH H 6 c5 sy ys)(hb:xs.length≤big)(hr:q7 (SH H) xs ts)(hr':q7 (SH H) ys us){K:Bool→Hp→Prop}(h:K (eqTs ts us) H):d9 sx sy H K:=
 a7n hx hy hb hr.1 hr'.1 (fun i x y t u hx hy ht hu K hK=>b2O (hr.2 i x t hx ht) (hr'.2 i y u hy hu) hK) h
theorem b6o{sx sy:Sl}{xs ys:List s7}(hx:SlH H 2 j8 sx xs)(hy:SlH H 2 j8 sy ys)(hb:xs.length≤big){K:Bool→Hp→Prop}(h:K (eqD xs ys) H):D9 sx sy H K:=
 b2n hx hy hb ⟨fun e=>by rw [a8o.2 e] at h;exact h,fun e=>by rw [b2B.2 e] at h;exact h⟩
theorem b2C(hT:TabsH H){p p':d4}{q q':PP}(hp:PH H p q)(hsm:q.Sm)(hp':PH H p' q')(hsm':q'.Sm){K:Bool→Hp→Prop}(h:∀H',Hle H H'→K (eqS q q') H'):a2X p p' H K:=by
 refine a7A _ _ ?_
 unfold a3f
 refine a9j hT hp hsm fun H1 l1=>b6R (fewP q') (fun _ K' hk=>a9j (hT.le l1) (hp'.le l1) hsm' hk) fun H2 l2=>?_
 obtain ⟨hd,hbd,xs,hsl,hb,hr⟩:=hp.le (l1.trans l2)
 obtain ⟨hd',hbd',xs',hsl',hb',hr'⟩:=hp'.le (l1.trans l2)
 refine U8 (eqD q.decls q'.decls) (fun _ K' hk=>b6o hd hd' hbd hk) ?_
 refine U8 (eqTs q.body q'.body) (fun _ K' hk=>b9L hsl hsl' hb hr hr' hk) ?_
 have h':=h H2 (l1.trans l2)
 unfold eqS at h'
 generalize fewP q=a at h' ⊢
 generalize fewP q'=b at h' ⊢
 generalize eqD q.decls q'.decls=c at h' ⊢
 generalize eqTs q.body q'.body=d at h' ⊢
 cases a<;>cases b<;>cases c<;>cases d<;>exact h'
theorem a9Z{p p':d4}{q q':PP}(hp:PH H p q)(hp':PH H p' q'){K:Bool→Hp→Prop}(h:K (eqS q q') H):a3i p p' H K:=by
 refine a5u _ _ ?_
 unfold a1r
 have few1:decide ((wTs q.nodes 1 w0S).fbad=0)=fewP q:=rfl
 have few2:decide ((wTs q'.nodes 1 w0S).fbad=0)=fewP q':=rfl
 refine b5t hp (U8 (fewP q') (fun _ K' hk=>b5t hp' hk) ?_)
 rw [few1]
 obtain ⟨hd,hbd,xs,hsl,hb,hr⟩:=hp
 obtain ⟨hd',hbd',xs',hsl',hb',hr'⟩:=hp'
 have n1:=hd.1;have n2:=hd'.1
 refine U8 (eqTs q.body q'.body) (fun _ K' hk=>b0o hsl hsl' hb hr hr' hk) ?_
 have ld:decide ((p.B3.n:Int)=(p'.B3.n:Int))=decide (q.decls.length=q'.decls.length):=by rw [Bool.eq_iff_iff];simp;omega
 rw [ld]
 have zl:decide (q.decls.length=q'.decls.length)=false→eqD q.decls q'.decls=false:=fun e=>b2B.2 fun e'=>of_decide_eq_false e (by rw [e'])
 have fin:fewP q=true→fewP q'=true→q.decls.length=q'.decls.length→eqTs q.body q'.body=true→TL (0:Int) H fun(s:Int) H n2=>U0 p' p s H n2 K:=by
  intro e1 e2 e3 e4
  unfold eqS at h
  rw [e1,e2,e4,Bool.and_true,Bool.true_and,Bool.true_and] at h
  refine N1 (fun(i:Int) H'=>0≤i∧i≤q.decls.length∧H'=H∧∀(j:Nat)(t u:s7),(j:Int) < i→q.decls[j]? = some t→q'.decls[j]? = some u→t=u) (fun i=>(q.decls.length-i).toNat) ⟨Int.le_refl _,by omega,rfl,fun j t u hj=>by omega⟩ ?_
  rintro i H1 next ⟨i0,i1,rfl,hi⟩ hn
  unfold U0
  refine ⟨fun hc=>?_,fun hc=>?_⟩
  ·obtain ⟨x,hx,hE⟩:=hd.get i0 hc
   obtain ⟨y,hy,hF⟩:=hd'.get i0 (show i < (p'.B3.n:Int) by omega)
   refine ⟨i0,hc,x,hE,i0,by omega,y,hF,fun hq=>?_,fun hq=>?_⟩
   ·rw [b2B.2 fun e=>hq (by rw [e,hy] at hx;cases hx;exact ⟨rfl,rfl⟩)] at h;exact h
   ·rw [r7 i0 (by simp only [big] at hbd;omega)]
    refine hn _ _ ⟨by omega,by omega,rfl,fun j t u hj ht hu=>?_⟩ (by omega)
    by_cases ej:j=i.toNat
    ·subst ej
     rw [hx] at ht;cases ht
     rw [hy] at hu;cases hu
     cases x;cases y
     obtain ⟨h1,h2⟩:=hq
     dsimp only at h1 h2
     rw [h1,h2]
    ·exact hi j t u (by omega) ht hu
  ·unfold T9
   rw [a8o.2 (a9w e3 fun j t u ht hu=>hi j t u (by have:=t7 ht;omega) ht hu)] at h
   exact h
 unfold eqS at h
 generalize eqD q.decls q'.decls=c at h zl
 generalize hl:decide (q.decls.length=q'.decls.length)=l at zl ⊢
 generalize fewP q=a at h fin ⊢
 generalize fewP q'=b at h fin ⊢
 generalize eqTs q.body q'.body=d at h fin ⊢
 cases l
 ·rw [zl rfl] at h
  cases a<;>cases b<;>cases d<;>exact ⟨fun _=>h,fun hc=>(by cases hc)⟩
 ·cases a<;>cases b<;>cases d<;>first
   | exact ⟨fun hc=>(by cases hc),fun _=>fin rfl rfl (of_decide_eq_true hl) rfl⟩
   | (have h':K false H:=by cases c<;>exact h
      exact ⟨fun _=>h',fun hc=>(by cases hc)⟩)
def xS:ByteArray:=⟨#[120]⟩
def oneVar:PT:=.mk (.expr 2 0 xS 0) []
def oneNum:PT:=.mk (.expr 1 1 ⟨#[]⟩ 0) []
def oneSum:PT:=.mk (.expr 6 0 ⟨#[]⟩ 2) [oneVar,oneNum]
def oneP:PP:=⟨[⟨xS,0⟩],[.mk (.stmt 1 xS 1 0 0 0) [oneSum]]⟩
theorem a9l{K:d4→Hp→Prop}(h:∀(p:d4)(H':Hp),Hle H H'→PH H' p oneP→K p H'):O9 H K:=by
 refine a6b ?_
 unfold a1R
 intro s1 H1 l1 h1 _ s2 H2 l2 h2 _ s3 H3 l3 h3 _ s4 H4 l4 h4 _
 refine h _ H4 (l1.trans (l2.trans (l3.trans l4))) ⟨h3.le l4,by simp [oneP,big],_,h4,by simp [big],?_⟩
 refine q7.one (R:=SH H4) ?_
 have nilE:SlH H4 4 c7 ⟨none,0,0⟩ []:=SlH.nil _ _ _
 have nilC:SlH H4 4 c9 ⟨none,0,0⟩ []:=SlH.nil _ _ _
 have nilS:SlH H4 6 c5 ⟨none,0,0⟩ []:=SlH.nil _ _ _
 have eV:EH H4 ⟨2,0,xS,⟨none,0,0⟩⟩ oneVar:=EH.mk (ts:=[]) nilE (Nat.zero_le _) rfl fun i x t hx=>by simp at hx
 have eN:EH H4 ⟨1,1,⟨#[]⟩,⟨none,0,0⟩⟩ oneNum:=EH.mk (ts:=[]) nilE (Nat.zero_le _) rfl fun i x t hx=>by simp at hx
 have eL:=(q7.one (R:=EH H4) eV).app (q7.one (R:=EH H4) eN)
 have eS:EH H4 ⟨6,0,⟨#[]⟩,s1⟩ oneSum:=EH.mk (ts:=[oneVar,oneNum]) (h1.le (l2.trans (l3.trans l4))) (by simp [big]) rfl eL.2
 exact SH.mk (ts:=[oneSum]) (us:=[]) (vs:=[]) (ws:=[]) (h2.le (l3.trans l4)) (by simp [big]) (q7.one eS) nilC (Nat.zero_le _) q7.nil nilS (Nat.zero_le _) rfl (fun i x t hx=>by simp at hx) nilS (Nat.zero_le _) rfl (fun i x t hx=>by simp at hx)
theorem a9m:oneP.Sm:=by
 have hx:xS.size≤sml:=by decide
 have h0:(⟨#[]⟩:ByteArray).size≤sml:=by decide
 have a:Sm oneVar:=.mk ⟨hx,by decide⟩ fun t ht=>by cases ht
 have b:Sm oneNum:=.mk ⟨h0,by decide⟩ fun t ht=>by cases ht
 have c:Sm oneSum:=.mk ⟨h0,by decide⟩ fun t ht=>by
  rcases List.mem_cons.1 ht with e | ht
  ·rw [e];exact a
  ·rcases List.mem_cons.1 ht with e | ht
   ·rw [e];exact b
   ·cases ht
 intro t ht
 rcases List.mem_cons.1 ht with e | ht
 ·rw [e];exact .mk ⟨hx,by decide⟩ fun t ht=>by cases ht
 ·rcases List.mem_cons.1 ht with e | ht
  ·rw [e];exact .mk ⟨hx,by decide⟩ fun t ht=>by
    rcases List.mem_cons.1 ht with e | ht
    ·rw [e];exact c
    ·cases ht
  ·cases ht
theorem b3O:allV oneP=(true,⟨5,3,0,false,false,[xS]⟩):=by kernel_rfl
theorem c0j:vEnd (vTs [.mk (.expr 1 (-1) ⟨#[]⟩ 0) []] 1 v0)=30:=by kernel_rfl
theorem b7w:fewP oneP=true:=by
 rw [←b3b,b3O];rfl
theorem b9M:eqS oneP oneP=true:=by
 unfold eqS
 rw [b7w,a8o.2 rfl,a4W.2 rfl];rfl
theorem b6p(hT:TabsH H){K:Bool→Hp→Prop}(h:∀H',Hle H H'→K true H'):a3g H K:=by
 refine a5q ?_
 unfold a1j
 refine a9l fun p1 H1 l1 hp1=>b6k (hT.le l1) hp1 a9m fun H2 l2=>?_
 have l12:=l1.trans l2
 refine a9l fun p2 H3 l3 hp2=>b6l (hT.le (l12.trans l3)) hp2 a9m fun H4 l4=>?_
 have l14:=l12.trans (l3.trans l4)
 have e0:vEnd (allV oneP)=0:=by rw [b3O];rfl
 rw [e0,if_pos rfl,b3O]
 refine b6R 30 (fun _ K' hk=>?_) fun H5 l5=>?_
 ·refine b7t (hT.le l14) (t:=.mk (.expr 1 (-1) ⟨#[]⟩ 0) []) (EH.mk (ts:=[]) (SlH.nil _ _ _) (Nat.zero_le _) rfl fun i x t hx=>by simp at hx) (.mk (by decide) fun t ht=>by cases ht) fun H' l=>?_
  rw [c0j];exact hk H' l
 refine ⟨fun _=>a9l fun p3 H6 l6 hp3=>⟨fun _=>a9l fun p4 H7 l7 hp4=>⟨fun _=>b2C (hT.le (l14.trans (l5.trans (l6.trans l7)))) (hp3.le l7) a9m hp4 a9m fun H8 l8=>?_,fun q=>(q rfl).elim⟩,fun q=>(q rfl).elim⟩,fun q=>(q rfl).elim⟩
 rw [b9M]
 exact h H8 (l14.trans (l5.trans (l6.trans (l7.trans l8))))
end
end Go.Proofs.YtpgelfheccpejaaDoor
