/- Which names a program has; the document's check of a program, its size, its names. The law TreeChecks. -/
import Derived.Test.YthklmeihgmcljaaGreatDoorzEQ8
import Derived.Test.YthklmeihgmcljaaGreatDoorzEX9
namespace Go.Proofs.YthklmeihgmcljaaGreatDoor
open Go.RowKit
set_option maxRecDepth 100000
set_option maxHeartbeats 2000000
structure Us where
 t7:ByteArray
 d9A:Bool
inductive Nd:PT→Prop
 | mk {l:Lab} {cs:List PT}:(∀z s,l≠.decl z s)→(∀t∈cs,Nd t)→Nd (.mk l cs)
theorem b3w{α:Type}{R:α→PT→Prop}{xs:List α}{ts:List PT}(hl:xs.length=ts.length)(h:∀(i:Nat)(x:α)(t:PT),xs[i]? = some x→ts[i]? = some t→Nd t):∀t∈ts,Nd t:=fun t ht=>by
 obtain ⟨i,hi⟩:=List.mem_iff_getElem?.1 ht
 obtain ⟨x,hx⟩:=M3 (l:=xs) (i:=i) (by rw [hl];exact E0 hi)
 exact h i x t hx hi
theorem b8c{a b:List PT}(ha:∀t∈a,Nd t)(hb:∀t∈b,Nd t):∀t∈a++b,Nd t:=fun t h=>(List.mem_append.1 h).elim (ha t) (hb t)
theorem EH.nd{H:Hp}{e:d9}{t:PT}(h:EH H e t):Nd t:=by
 induction h with
 | mk hs hb hl _ ih=>exact .mk (fun z s e=>by cases e) (b3w (R:=EH H) hl ih)
theorem CH.nd{H:Hp}{e:f8}{t:PT}(h:CH H e t):Nd t:=by
 induction h with
 | mk hs hb hr hc hcb hl _ ih=>exact .mk (fun z s e=>by cases e) (b8c (b3w (R:=EH H) hr.1 fun i x t a b=>(hr.2 i x t a b).nd) (b3w (R:=CH H) hl ih))
theorem SH.nd{H:Hp}{e:b9}{t:PT}(h:SH H e t):Nd t:=by
 induction h with
 | mk hs hb hr hc hcb hcr ha hab hal _ hbs hbb hbl _ ih1 ih2=>
  exact .mk (fun z s e=>by cases e) (b8c (b3w (R:=CH H) hcr.1 fun i x t a b=>(hcr.2 i x t a b).nd) (b8c (b3w (R:=EH H) hr.1 fun i x t a b=>(hr.2 i x t a b).nd) (b8c (b3w (R:=SH H) hal ih1) (b3w (R:=SH H) hbl ih2))))
section
variable {H:Hp}
theorem c8j{e:b9}{t:PT}(he:SH H e t){f:Fm}{K:Fm→Hp→Prop}(h:∀y,FR f (formT t) (namesT t) y→K y H):U5 f e H K:=by
 induction he generalizing f K with
 | @mk e xs ts ys us zs bs vs ws hs hb hr hc hcb hcr ha hab hal har hbs hbb hbl hbr iha ihb=>
  refine b0w _ _ ?_
  have r0:=hr.1
  have r1:=hcr.1
  have n1:(e.o4.n:Int)=(ts.length:Int):=by have:=hs.1;omega
  have n2:(e.v8.n:Int)=(us.length:Int):=by have:=hc.1;omega
  have n3:(e.J5.n:Int)=(vs.length:Int):=by have:=ha.1;omega
  have n4:(e.H7.n:Int)=(ws.length:Int):=by have:=hbs.1;omega
  have fin:∀(i:Int)(s:Fm)(n:Int)(m:Nat),n=(m:Int)→(decide (i < n)&&s.fok)=false→((m:Int)≤i∨s.fok=false):=by
   intro i s n m hn hc
   by_cases hlt:i < n
   ·right
    cases hq:s.fok
    ·rfl
    ·rw [hq,decide_eq_true hlt] at hc;cases hc
   ·left;omega
  have j1:∀(e' c':Int)(f':Fm),f'.fnames=f.fnames→(((((f'.fok&&((decide (e.d8=1)||decide (e.d8=2))||decide (e.t7=⟨#[]⟩)))&&decide ((ts.length:Int)=e'))&&decide ((us.length:Int)=c'))&&((decide ((vs.length:Int)=0)||decide (e.d8=3))||decide (e.d8=4)))&&(decide ((ws.length:Int)=0)||decide (e.d8=3)))=(f.fok&&formS e.d8 e.t7 (ts.length:Int) (us.length:Int) (vs.length:Int) (ws.length:Int))→E4 e' c' e f' H K:=by
   intro e' c' f' hf heq
   unfold E4
   refine b7p ?_
   refine floop (ts:=us) fun i s next i0 i1 hk hf'=>?_
   unfold a4w
   refine ⟨fun hq=>?_,fun hq=>?_⟩
   ·obtain ⟨hq1,hq2⟩:=a9v.1 hq
    obtain ⟨x,hx,hE⟩:=hc.get i0 hq1
    obtain ⟨t,ht⟩:=M3 (l:=us) (i:=i.toNat) (by have:=E0 hx;omega)
    refine ⟨i0,hq1,x,hE,c8h (hcr.2 _ x t hx ht) fun y hy=>?_⟩
    rw [G3 i0 (by simp only [big] at hcb;have:=E0 hx;omega)]
    exact hk t ht hq2 y hy
   ·have hfin:=hf' (fin i s _ _ n2 hq)
    have F1:FR f (formS e.d8 e.t7 (ts.length:Int) (us.length:Int) (vs.length:Int) (ws.length:Int)&&formTs us) (nameOk (.stmt e.d8 e.t7 ts.length us.length vs.length ws.length)&&namesTs us) s:=by
     refine FR.trans (g:=⟨_,_⟩) ⟨?_,fun _=>?_⟩ hfin
     ·show (((((f'.fok&&_)&&decide ((e.o4.n:Int)=e'))&&decide ((e.v8.n:Int)=c'))&&((decide ((e.J5.n:Int)=0)||_)||_))&&(decide ((e.H7.n:Int)=0)||_))=_
      rw [n1,n2,n3,n4];exact heq
     ·show (f'.fnames&&_)=_
      rw [hf];rfl
    clear hk hf' next hq hfin
    unfold a1i
    refine floop (ts:=ts) fun i s2 next i0 i1 hk hf'=>?_
    unfold a4v
    refine ⟨fun hq=>?_,fun hq=>?_⟩
    ·obtain ⟨hq1,hq2⟩:=a9v.1 hq
     obtain ⟨x,hx,hE⟩:=hs.get i0 hq1
     obtain ⟨t,ht⟩:=M3 (l:=ts) (i:=i.toNat) (by have:=E0 hx;omega)
     refine ⟨i0,hq1,x,hE,c1b (hr.2 _ x t hx ht) fun y hy=>?_⟩
     rw [G3 i0 (by simp only [big] at hb;have:=E0 hx;omega)]
     exact hk t ht hq2 y hy
    ·have F2:=F1.trans (hf' (fin i s2 _ _ n1 hq))
     clear hk hf' next hq
     unfold a1h
     refine floop (ts:=vs) fun i s3 next i0 i1 hk hf'=>?_
     unfold a4u
     refine ⟨fun hq=>?_,fun hq=>?_⟩
     ·obtain ⟨hq1,hq2⟩:=a9v.1 hq
      obtain ⟨x,hx,hE⟩:=ha.get i0 hq1
      obtain ⟨t,ht⟩:=M3 (l:=vs) (i:=i.toNat) (by have:=E0 hx;omega)
      refine ⟨i0,hq1,x,hE,iha _ x t hx ht fun y hy=>?_⟩
      rw [G3 i0 (by simp only [big] at hab;have:=E0 hx;omega)]
      exact hk t ht hq2 y hy
     ·have F3:=F2.trans (hf' (fin i s3 _ _ n3 hq))
      clear hk hf' next hq
      unfold a1g
      refine floop (ts:=ws) fun i s4 next i0 i1 hk hf'=>?_
      unfold a4t
      refine ⟨fun hq=>?_,fun hq=>?_⟩
      ·obtain ⟨hq1,hq2⟩:=a9v.1 hq
       obtain ⟨x,hx,hE⟩:=hbs.get i0 hq1
       obtain ⟨t,ht⟩:=M3 (l:=ws) (i:=i.toNat) (by have:=E0 hx;omega)
       refine ⟨i0,hq1,x,hE,ihb _ x t hx ht fun y hy=>?_⟩
       rw [G3 i0 (by simp only [big] at hbb;have:=E0 hx;omega)]
       exact hk t ht hq2 y hy
      ·have F4:=F3.trans (hf' (fin i s4 _ _ n4 hq))
       refine h _ ?_
       rw [formT,namesT,a5N,a5N,a5N,a5V,a5V,a5V]
       simp only [Bool.and_assoc] at F4 ⊢
       exact F4
  have eqv:∀(e' c':Int),(e.d8=1∧e'=1∧c'=0∨e.d8=2∧e'=2∧c'=0∨(e.d8=3∨e.d8=4∨e.d8=5∨e.d8=6)∧e'=0∧c'=1∨e.d8=7∧e'=0∧c'=0)→(((((f.fok&&((decide (e.d8=1)||decide (e.d8=2))||decide (e.t7=⟨#[]⟩)))&&decide ((ts.length:Int)=e'))&&decide ((us.length:Int)=c'))&&((decide ((vs.length:Int)=0)||decide (e.d8=3))||decide (e.d8=4)))&&(decide ((ws.length:Int)=0)||decide (e.d8=3)))=(f.fok&&formS e.d8 e.t7 (ts.length:Int) (us.length:Int) (vs.length:Int) (ws.length:Int)):=by
   intro e' c' hk
   simp only [Bool.and_assoc]
   congr 1
   rw [Bool.eq_iff_iff]
   generalize (ts.length:Int)=a
   generalize (us.length:Int)=b
   have hv:(0:Int)≤(vs.length:Int):=by omega
   have hw:(0:Int)≤(ws.length:Int):=by omega
   generalize (vs.length:Int)=c at hv ⊢
   generalize (ws.length:Int)=d at hw ⊢
   generalize e.d8=k at hk ⊢
   by_cases hsn:e.t7=⟨#[]⟩
   all_goals
    unfold formS
    rcases hk with ⟨rfl,rfl,rfl⟩ | ⟨rfl,rfl,rfl⟩ | ⟨rfl | rfl | rfl | rfl,rfl,rfl⟩ | ⟨rfl,rfl,rfl⟩<;>simp [hsn]<;>omega
  have no:¬(e.d8=1∨e.d8=2∨e.d8=3∨e.d8=4∨e.d8=5∨e.d8=6∨e.d8=7)→formS e.d8 e.t7 (ts.length:Int) (us.length:Int) (vs.length:Int) (ws.length:Int)=false:=by
   intro hk
   unfold formS
   rw [if_neg (by omega),if_neg (by omega),if_neg (by omega),if_neg (by omega),if_neg (by omega),if_neg (by omega)]
  have j9:∀b:Bool,(b=true↔(e.d8=3∨e.d8=4∨e.d8=5∨e.d8=6))→¬(e.d8=1∨e.d8=2)→I0 0 0 e.d8 b e f H K:=by
   intro b hq hno
   unfold I0
   refine ⟨fun q=>j1 0 1 f rfl (eqv 0 1 (.inr (.inr (.inl ⟨hq.1 q,rfl,rfl⟩)))),fun q=>⟨fun e7=>j1 0 0 f rfl (eqv 0 0 (.inr (.inr (.inr ⟨e7,rfl,rfl⟩)))),fun e7=>j1 0 0 _ rfl ?_⟩⟩
   have:=mt hq.2 (by rw [q];decide)
   rw [no (by omega),Bool.and_false];rfl
  unfold a5X
  refine ⟨fun e1=>j1 1 0 f rfl (eqv 1 0 (.inl ⟨e1,rfl,rfl⟩)),fun e1=>⟨fun e2=>j1 2 0 f rfl (eqv 2 0 (.inr (.inl ⟨e2,rfl,rfl⟩))),fun e2=>⟨fun e3=>j9 _ ?_ (by omega),fun e3=>⟨fun e4=>j9 _ ?_ (by omega),fun e4=>⟨fun e5=>j9 _ ?_ (by omega),fun e5=>j9 _ ?_ (by omega)⟩⟩⟩⟩⟩<;>(rw [decide_eq_true_eq];omega)
theorem c6I{p:l8}{q:PP}(hp:PH H p q){K:Int→Hp→Prop}(h:K (toldS q.nodes) H):a3M p H K:=by
 refine b2r _ ?_
 unfold a7u
 refine b8O hp ⟨fun hb=>?_,fun hb=>?_⟩
 ·unfold toldS at h
  rw [if_neg hb] at h;exact h
 obtain ⟨hd,hbd,xs,hsl,hxb,hr⟩:=hp
 have n1:=hd.1;have n2:=hsl.1;have r0:=hr.1
 refine D1 (fun(z:Int×Fm) H'=>0≤z.1∧z.1≤q.decls.length∧H'=H∧FR ⟨true,true⟩ (formTs ((q.decls.map dT).take z.1.toNat)) (namesTs ((q.decls.map dT).take z.1.toNat)) z.2) (fun z=>(q.decls.length-z.1).toNat) ⟨Int.le_refl _,by simp,rfl,by simpa [formTs,namesTs] using FR.refl ⟨true,true⟩⟩ ?_
 rintro ⟨i,s⟩ H1 next ⟨i0,i1,rfl,hs⟩ hn
 dsimp only at i0 i1 hs ⊢
 unfold a6w
 refine ⟨fun hq=>?_,fun hq=>?_⟩
 ·obtain ⟨x,hx,hE⟩:=hd.get i0 hq
  have hlt:=E0 hx
  have hx':(q.decls.map dT)[i.toNat]? = some (dT x):=by rw [List.getElem?_map,hx];rfl
  refine ⟨x,fun _=>⟨i0,hq,hE⟩,x,fun _=>⟨i0,hq,hE⟩,i0,hq,x,hE,b7p ?_⟩
  rw [G3 i0 (by simp only [big] at hbd;omega)]
  refine hn _ _ ⟨by dsimp only;omega,by dsimp only;omega,rfl,?_⟩ (by dsimp only;omega)
  dsimp only
  rw [show (i+1).toNat=i.toNat+1 by omega,b9q hx',b8b hx']
  refine hs.trans ⟨?_,fun _=>?_⟩
  ·unfold dT
   rw [formT,formTs]
   show (((s.fok&&_)&&_)&&(true||_))=(s.fok&&((_&&_)&&true))
   simp only [Bool.true_or,Bool.and_true,Bool.and_assoc]
  ·unfold dT
   rw [namesT,namesTs]
   show (s.fnames&&(if true=true then nameS x.t7 else true))=_
   unfold nameOk nameL
   rw [Bool.and_true]
 ·rw [List.take_of_length_le (by rw [List.length_map];omega)] at hs
  clear hn next
  unfold a2F
  refine floop (ts:=q.body) fun j s2 next j0 j1 hk hf'=>?_
  unfold a6v
  refine ⟨fun hq=>?_,fun hq=>?_⟩
  ·obtain ⟨hq1,hq2⟩:=a9v.1 hq
   obtain ⟨x,hx,hE⟩:=hsl.get j0 hq1
   obtain ⟨t,ht⟩:=M3 (l:=q.body) (i:=j.toNat) (by have:=E0 hx;omega)
   refine ⟨j0,hq1,x,hE,c8j (hr.2 _ x t hx ht) fun y hy=>?_⟩
   rw [G3 j0 (by simp only [big] at hxb;have:=E0 hx;omega)]
   exact hk t ht hq2 y hy
  ·have hfin:=hs.trans (hf' (by
    by_cases hlt:j < (p.a0L.n:Int)
    ·right
     cases hqq:s2.fok
     ·rfl
     ·dsimp only at hq;rw [hqq,decide_eq_true hlt] at hq;cases hq
    ·left;omega))
   rw [←a5N,← a5V] at hfin
   unfold a2E
   refine c8i ?_
   have:=d1t (ts:=q.nodes) hfin hb
   rw [this];exact h
end
def TkOK(t:Tok):Prop:=t.C3.size≤65536∧a5o t.G9
def TkL(r:List Tok):Prop:=∀t∈r,TkOK t
theorem c3e:∀{l:List Tok}{e:Tok},(∀t∈l,t.d8≠5)→e.d8=5→WfT (l++[e])
 | [],e,_,he=>he
 | [t],e,h,he=>⟨h t (by simp),he⟩
 | t::u::l,e,h,he=>⟨h t (by simp),c3e (l:=u::l) (fun x hx=>h x (List.mem_cons_of_mem _ hx)) he⟩
section
variable {s:ByteArray}
theorem c4e(p q:Nat):(s.extract p q).size≤s.size:=by simp only [ByteArray.size_extract];omega
theorem d1v(hs:s.size≤65536){p:Nat}(h:(oneO s p).err=0):(oneO s p).kind≠5∧(oneO s p).text.size≤65536∧a5o (oneO s p).num:=by
 have hx:∀p q,(s.extract p q).size≤65536:=fun p q=>Nat.le_trans (c4e p q) hs
 unfold oneO at h ⊢
 split at h
 ·rename_i c
  rw [if_pos c]
  unfold wordO at h ⊢
  split at h
  ·rename_i c2;rw [if_pos c2];exact ⟨by show (3:Int)≠5;decide,hx _ _,by show a5o 0;decide⟩
  rename_i c2
  rw [if_neg c2]
  split at h
  ·cases h
  ·rename_i c3;rw [if_neg c3];exact ⟨by show (1:Int)≠5;decide,hx _ _,by show a5o 0;decide⟩
 rename_i c
 rw [if_neg c]
 split at h
 ·rename_i c2
  rw [if_pos c2]
  unfold numO at h ⊢
  split at h
  ·cases h
  ·rename_i c3
   rw [if_neg c3]
   refine ⟨by show (2:Int)≠5;decide,hx _ _,?_⟩
   show a5o ((dg s p 0).2:Int)
   unfold a5o
   omega
 rename_i c2
 rw [if_neg c2]
 split at h
 ·rename_i c3
  rw [if_pos c3]
  unfold signO at h ⊢
  split at h
  ·rename_i c4;rw [if_pos c4];exact ⟨by show (4:Int)≠5;decide,hx _ _,by show a5o 0;decide⟩
  rename_i c4
  rw [if_neg c4]
  split at h
  ·cases h
  ·rename_i c5;rw [if_neg c5];exact ⟨by show (4:Int)≠5;decide,hx _ _,by show a5o 0;decide⟩
 ·cases h
theorem c6J(hs:s.size≤65536):∀(f p:Nat)(a:Int×Int)(out:List Tk),s.size+1-p≤f→p≤s.size→out.length≤32768→(∀t∈out,t.kind≠5∧t.text.size≤65536∧a5o t.num)→(tkF s f p a out).2.2=0→
  ∃init last,(tkF s f p a out).1=init++[last]∧(∀t∈init,t.kind≠5∧t.text.size≤65536∧a5o t.num)∧last.kind=5∧last.text.size≤65536∧a5o last.num∧init.length≤32768
 | 0,p,a,out,hf,hp,_,_,_=>by omega
 | f+1,p,a,out,hf,hp,hl,ho,he=>by
  have hk:=b7O hp
  rw [tkF] at he ⊢
  split at he
  ·rename_i c
   rw [if_pos c]
   exact ⟨out,_,rfl,ho,rfl,by show (0:Nat)≤65536;decide,by show a5o 0;decide,hl⟩
  rename_i c
  rw [if_neg c]
  split at he
  ·cases he
  rename_i c2
  rw [if_neg c2]
  split at he
  ·rename_i c3;exact absurd he c3
  rename_i c3
  rw [if_neg c3]
  have c3':(oneO s (sk s p)).err=0:=Classical.byContradiction c3
  have hst:=b5i (s:=s) (p:=sk s p) (by omega) c3'
  refine c6J hs f _ _ _ (by omega) hst.2 (by simp;omega) ?_ he
  intro t ht
  rcases List.mem_append.1 ht with q | q
  ·exact ho t q
  ·rw [List.mem_singleton.1 q]
   exact d1v hs c3'
theorem b8d(h:(tkS s).2.2=0):WfT ((tkS s).1.map tkv)∧((tkS s).1.map tkv).length≤big∧TkL ((tkS s).1.map tkv):=by
 unfold tkS at h ⊢
 split at h
 ·cases h
 rename_i c
 rw [if_neg c]
 split at h
 ·cases h
 rename_i hc
 obtain ⟨init,last,e,h1,h2,h3,h4,h5⟩:=c6J (s:=s) (by omega) _ _ _ [] (by omega) (by omega) (by simp) (by simp) h
 rw [e,List.map_append,List.map_singleton]
 refine ⟨c3e (fun t ht=>?_) h2,by simp [big];omega,fun t ht=>?_⟩
 ·obtain ⟨u,hu,rfl⟩:=List.mem_map.1 ht
  exact (h1 u hu).1
 ·rcases List.mem_append.1 ht with q | q
  ·obtain ⟨u,hu,rfl⟩:=List.mem_map.1 q
   exact (h1 u hu).2
  ·rw [List.mem_singleton.1 q]
   exact ⟨h3,h4⟩
end
def SmP{α:Type}(G:α→Prop)(p:PM α):Prop:=∀r a r',TkL r→p r=.ok (a,r')→G a∧TkL r'
theorem TkL.tail{r:List Tok}(h:TkL r):TkL r.tail:=fun t ht=>h t (List.mem_of_mem_tail ht)
theorem TkL.hd{r:List Tok}(h:TkL r):TkOK (hd r):=by
 cases r with
 | nil=>exact ⟨by show (0:Nat)≤65536;decide,by show a5o 0;decide⟩
 | cons t r=>exact h t (by simp)
theorem SmP.bind{α β:Type}{G:α→Prop}{G2:β→Prop}{p:PM α}{f:α→PM β}(hp:SmP G p)(hf:∀a,G a→SmP G2 (f a)):SmP G2 (bindP p f):=fun r b r' ht h=>by
 obtain ⟨a,r1,h1,h2⟩:=bind_ok h
 obtain ⟨ga,t1⟩:=hp _ _ _ ht h1
 exact hf a ga _ _ _ t1 h2
theorem a5x{α:Type}{G:α→Prop}{a:α}(h:G a):SmP G (pureP a):=fun r b r' ht e=>by cases e;exact ⟨h,ht⟩
theorem a6F(s:ByteArray):SmP (fun _=>True) (mustP s):=fun r b r' ht h=>by
 unfold mustP at h
 split at h
 ·cases h;exact ⟨trivial,ht.tail⟩
 ·cases h
theorem b8G{α:Type}{G:α→Prop}(b:List Tok→Bool):SmP G (deadE (α:=α) b):=fun r a r' _ h=>by
 unfold deadE at h
 split at h<;>cases h
theorem b6L{k n:Int}{s:ByteArray}{ts:List PT}(hs:s.size≤65536)(hn:a5o n)(h:∀t∈ts,Sm t):Sm (eX k n s ts):=.mk ⟨by show s.size≤sml;simp only [sml];omega,hn⟩ h
theorem b8e{k n:Int}{es cs:List PT}(he:∀t∈es,Sm t)(hc:∀t∈cs,Sm t):Sm (cX k n es cs):=.mk ⟨by show (0:Nat)≤sml;simp only [sml];omega,by show a5o 0;decide⟩ fun t ht=>by
 rcases List.mem_append.1 ht with q | q
 ·exact he t q
 ·exact hc t q
theorem b5o{k:Int}{s:ByteArray}{es cs vs ws:List PT}(hs:s.size≤65536)(he:∀t∈es,Sm t)(hc:∀t∈cs,Sm t)(hv:∀t∈vs,Sm t)(hw:∀t∈ws,Sm t):Sm (sX k s es cs vs ws):=.mk ⟨by show s.size≤sml;simp only [sml];omega,by show a5o 0;decide⟩ fun t ht=>by
 simp only [List.mem_append] at ht
 rcases ht with q | q | q | q
 ·exact hc t q
 ·exact he t q
 ·exact hv t q
 ·exact hw t q
theorem b0u{t:PT}(h:Sm t):∀u∈[t],Sm u:=fun u hu=>by rw [List.mem_singleton.1 hu];exact h
theorem c1c{t t':PT}(h:Sm t)(h':Sm t'):∀u∈[t,t'],Sm u:=fun u hu=>by
 simp only [List.mem_cons,List.not_mem_nil,or_false] at hu
 rcases hu with rfl | rfl
 ·exact h
 ·exact h'
theorem Q8:∀u∈([]:List PT),Sm u:=fun u hu=>by cases hu
theorem e0:(⟨#[]⟩:ByteArray).size≤65536:=by show (0:Nat)≤65536;decide
theorem b9r{w:List Tok→Int}{part:PM PT}(hp:SmP Sm part):∀(n:Nat)(e:PT),Sm e→SmP Sm (chainF w part n e)
 | 0,e,he=>fun r b r' ht h=>by cases h;exact ⟨he,ht⟩
 | n+1,e,he=>fun r b r' ht h=>by
  unfold chainF at h
  split at h
  ·cases h;exact ⟨he,ht⟩
  ·exact SmP.bind hp (fun a ha=>b9r hp n _ (b6L e0 (by decide) (c1c he ha))) _ _ _ ht.tail h
theorem b9s{s:ByteArray}{k:Int}{part:PM PT}(hp:SmP Sm part):∀(n:Nat)(e:PT),Sm e→SmP Sm (joinsF s k part n e)
 | 0,e,he=>fun r b r' ht h=>by cases h;exact ⟨he,ht⟩
 | n+1,e,he=>fun r b r' ht h=>by
  unfold joinsF at h
  split at h
  ·exact SmP.bind hp (fun a ha=>b9s hp n _ (b8e Q8 (c1c he ha))) _ _ _ ht.tail h
  ·cases h;exact ⟨he,ht⟩
theorem b3V{w:List Tok→Int}{part:PM PT}(hp:SmP Sm part):SmP Sm (chainP w part):=hp.bind fun e he r _ _ ht h=>b9r hp r.length e he _ _ _ ht h
theorem b3W{s:ByteArray}{k:Int}{part:PM PT}(hp:SmP Sm part):SmP Sm (joinsP s k part):=hp.bind fun e he r _ _ ht h=>b9s hp r.length e he _ _ _ ht h
theorem c8k{f:PM PT}(hf:SmP Sm f):SmP Sm (factS f):=fun r a r' ht h=>by
 have he:SmP Sm (exprOf f):=b3V (b3V hf)
 have t1:=ht.hd
 unfold factS at h
 split at h
 ·cases h
 split at h
 ·exact (hf.bind fun e h=>a5x (b6L e0 (by decide) (b0u h))) _ _ _ ht.tail h
 split at h
 ·exact (he.bind fun e h=>(a6F _).bind fun _ _=>a5x h) _ _ _ ht.tail h
 split at h
 ·cases h;exact ⟨b6L e0 (by decide) Q8,ht.tail⟩
 split at h
 ·cases h;exact ⟨b6L e0 t1.2 Q8,ht.tail⟩
 split at h
 ·exact (he.bind fun e h=>(a6F _).bind fun _ _=>a5x (b6L t1.1 (by decide) (b0u h))) _ _ _ ht.tail.tail h
 ·cases h;exact ⟨b6L t1.1 (by decide) Q8,ht.tail⟩
theorem c1d:∀g,SmP Sm (factP g)
 | 0=>b8G _
 | g+1=>c8k (c1d g)
theorem b7q(g:Nat):SmP Sm (exprP g):=b3V (b3V (c1d g))
theorem d1w:SmP (fun _=>True) relP:=fun r a r' ht h=>by
 unfold relP at h
 split at h
 ·cases h
 ·cases h;exact ⟨trivial,ht.tail⟩
theorem d1x{l ex:PM PT}(hl:SmP Sm l)(hx:SmP Sm ex):SmP Sm (litS l ex):=fun r a r' ht h=>by
 have hc:SmP Sm (condOf l):=b3W (b3W hl)
 unfold litS at h
 split at h
 ·cases h
 split at h
 ·cases h;exact ⟨b8e Q8 Q8,ht.tail⟩
 split at h
 ·cases h;exact ⟨b8e Q8 Q8,ht.tail⟩
 split at h
 ·exact (hl.bind fun e h=>a5x (b8e Q8 (b0u h))) _ _ _ ht.tail h
 split at h
 ·exact (hc.bind fun e h=>(a6F _).bind fun _ _=>a5x h) _ _ _ ht.tail h
 ·exact (hx.bind fun a ha=>d1w.bind fun _ _=>hx.bind fun b hb=>a5x (b8e (c1c ha hb) Q8)) _ _ _ ht h
theorem c3f:∀g,SmP Sm (litP g)
 | 0=>b8G _
 | g+1=>d1x (c3f g) (b7q _)
theorem c8l(g:Nat):SmP Sm (condP g):=b3W (b3W (c3f g))
def SmL(l:List PT):Prop:=∀t∈l,Sm t
theorem b5Z{stop:List Tok→Bool}{st:PM PT}(hs:SmP Sm st):∀(n:Nat)(l:List PT),SmL l→SmP SmL (stmtsF stop st n l)
 | 0,l,hl=>fun r b r' ht h=>by cases h;exact ⟨hl,ht⟩
 | n+1,l,hl=>fun r b r' ht h=>by
  unfold stmtsF at h
  split at h
  ·cases h;exact ⟨hl,ht⟩
  ·exact SmP.bind hs (fun a ha=>b5Z hs n _ fun t ht=>by
    rcases List.mem_append.1 ht with q | q
    ·exact hl t q
    ·rw [List.mem_singleton.1 q];exact ha) _ _ _ ht h
theorem c4f{st:PM PT}(hs:SmP Sm st):SmP SmL (blockOf st):=(a6F _).bind fun _ _=>SmP.bind (G:=SmL) (fun r _ _ ht h=>b5Z hs r.length [] Q8 _ _ _ ht h) fun l hl r _ r' ht h=>by
 cases h;exact ⟨hl,ht.tail⟩
theorem b6M{s:PT}(h:Sm s):SmP Sm (endS s):=(a6F _).bind fun _ _=>a5x h
theorem c3g{k:Int}{s:ByteArray}{es:List PT}{ex:PM PT}(hs:s.size≤65536)(he:SmL es)(hx:SmP Sm ex):SmP Sm (setS k s es ex):=(a6F _).bind fun _ _=>hx.bind fun e h=>b6M (b5o hs (fun t ht=>by
 rcases List.mem_append.1 ht with q | q
 ·exact he t q
 ·rw [List.mem_singleton.1 q];exact h) Q8 Q8 Q8)
theorem c8m{st sub ex co:PM PT}(hs:SmP Sm st)(hb:SmP Sm sub)(hx:SmP Sm ex)(hc:SmP Sm co):SmP Sm (stmtS st sub ex co):=fun r a r' ht h=>by
 have t1:=ht.hd
 have hbl:=c4f hs
 unfold stmtS at h
 split at h
 ·cases h
 split at h
 ·split at h
  ·exact (hb.bind fun e h=>(a6F _).bind fun _ _=>c3g t1.1 (b0u h) hx) _ _ _ ht.tail.tail h
  ·exact c3g t1.1 Q8 hx _ _ _ ht.tail h
 split at h
 ·refine (hc.bind fun c hc'=>hbl.bind fun th hth r1 a1 r2 ht1 h1=>?_) _ _ _ ht.tail h
  split at h1
  ·exact (hbl.bind fun el hel=>a5x (b5o e0 Q8 (b0u hc') hth hel)) _ _ _ ht1.tail h1
  ·cases h1;exact ⟨b5o e0 Q8 (b0u hc') hth Q8,ht1⟩
 split at h
 ·exact (hc.bind fun c hc'=>hbl.bind fun th hth=>a5x (b5o e0 Q8 (b0u hc') hth Q8)) _ _ _ ht.tail h
 split at h
 ·exact (hc.bind fun c hc'=>b6M (b5o e0 Q8 (b0u hc') Q8 Q8)) _ _ _ ht.tail h
 split at h
 ·exact (hc.bind fun c hc'=>b6M (b5o e0 Q8 (b0u hc') Q8 Q8)) _ _ _ ht.tail h
 ·exact b6M (b5o e0 Q8 Q8 Q8 Q8) _ _ _ ht.tail h
theorem c1e:∀g,SmP Sm (stmtP g)
 | 0=>b8G _
 | g+1=>c8m (c1e g) (b7q _) (b7q _) (c8l _)
end Go.Proofs.YthklmeihgmcljaaGreatDoor
