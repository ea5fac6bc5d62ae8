/- Which names a program has; the document's check of a program, its size, its names. The law TreeChecks. -/
import Derived.Test.YthklmeihgmcljaaGreatDoorzQQ8
import Derived.Test.YthklmeihgmcljaaGreatDoorzQX9
namespace Go.Proofs.YthklmeihgmcljaaGreatDoor
open Go.RowKit
set_option maxRecDepth 100000
set_option maxHeartbeats 2000000
structure Us where
 A8:ByteArray
 d6p:Bool
inductive Nd:PT→Prop
 | mk {l:Lab} {cs:List PT}:(∀z s,l≠.decl z s)→(∀t∈cs,Nd t)→Nd (.mk l cs)
theorem b1E {α:Type} {R:α→PT→Prop} {xs:List α} {ts:List PT} (hl:xs.length=ts.length) (h:∀(i:Nat) (x:α) (t:PT),xs[i]? = some x→ts[i]? = some t→Nd t):∀t∈ts,Nd t:=fun t ht=>by
 obtain ⟨i,hi⟩:=List.mem_iff_getElem?.1 ht
 obtain ⟨x,hx⟩:=a2z (l:=xs) (i:=i) (by rw [hl];exact V1 hi)
 exact h i x t hx hi
theorem b6p {a b:List PT} (ha:∀t∈a,Nd t) (hb:∀t∈b,Nd t):∀t∈a++b,Nd t:=fun t h=>(List.mem_append.1 h).elim (ha t) (hb t)
theorem EH.nd {H:Hp} {e:d6} {t:PT} (h:EH H e t):Nd t:=by
 induction h with
 | mk hs hb hl _ ih=>exact .mk (fun z s e=>by cases e) (b1E (R:=EH H) hl ih)
theorem CH.nd {H:Hp} {e:c8} {t:PT} (h:CH H e t):Nd t:=by
 induction h with
 | mk hs hb hr hc hcb hl _ ih=>exact .mk (fun z s e=>by cases e) (b6p (b1E (R:=EH H) hr.1 fun i x t a b=>(hr.2 i x t a b).nd) (b1E (R:=CH H) hl ih))
theorem SH.nd {H:Hp} {e:j9} {t:PT} (h:SH H e t):Nd t:=by
 induction h with
 | mk hs hb hr hc hcb hcr ha hab hal _ hbs hbb hbl _ ih1 ih2=>
  exact .mk (fun z s e=>by cases e) (b6p (b1E (R:=CH H) hcr.1 fun i x t a b=>(hcr.2 i x t a b).nd) (b6p (b1E (R:=EH H) hr.1 fun i x t a b=>(hr.2 i x t a b).nd) (b6p (b1E (R:=SH H) hal ih1) (b1E (R:=SH H) hbl ih2))))
section
variable {H:Hp}
end
def TkOK (t:Tok):Prop:=t.A0.size≤65536∧a4Y t.F0
def TkL (r:List Tok):Prop:=∀t∈r,TkOK t
theorem c2k:∀{l:List Tok} {e:Tok},(∀t∈l,t.d8≠5)→e.d8=5→WfT (l++[e])
 | [],e,_,he=>he
 | [t],e,h,he=>⟨h t (by simp),he⟩
 | t::u::l,e,h,he=>⟨h t (by simp),c2k (l:=u::l) (fun x hx=>h x (List.mem_cons_of_mem _ hx)) he⟩
section
variable {s:ByteArray}
theorem c3m (p q:Nat):(s.extract p q).size≤s.size:=by simp only [ByteArray.size_extract];omega
theorem c9v (hs:s.size≤65536) {p:Nat} (h:(oneO s p).err=0):(oneO s p).kind≠5∧(oneO s p).text.size≤65536∧a4Y (oneO s p).num:=by
 have hx:∀p q,(s.extract p q).size≤65536:=fun p q=>Nat.le_trans (c3m p q) hs
 unfold oneO at h ⊢
 split at h
 ·rename_i c
  rw [if_pos c]
  unfold wordO at h ⊢
  split at h
  ·rename_i c2;rw [if_pos c2];exact ⟨by show (3:Int)≠5;decide,hx _ _,by show a4Y 0;decide⟩
  rename_i c2
  rw [if_neg c2]
  split at h
  ·cases h
  ·rename_i c3;rw [if_neg c3];exact ⟨by show (1:Int)≠5;decide,hx _ _,by show a4Y 0;decide⟩
 rename_i c
 rw [if_neg c]
 split at h
 ·rename_i c2
  rw [if_pos c2]
  unfold numO at h ⊢
  split at h
  ·cases h
  ·rename_i c3
   rw [if_neg c3]
   refine ⟨by show (2:Int)≠5;decide,hx _ _,?_⟩
   show a4Y ((dg s p 0).2:Int)
   unfold a4Y
   omega
 rename_i c2
 rw [if_neg c2]
 split at h
 ·rename_i c3
  rw [if_pos c3]
  unfold signO at h ⊢
  split at h
  ·rename_i c4;rw [if_pos c4];exact ⟨by show (4:Int)≠5;decide,hx _ _,by show a4Y 0;decide⟩
  rename_i c4
  rw [if_neg c4]
  split at h
  ·cases h
  ·rename_i c5;rw [if_neg c5];exact ⟨by show (4:Int)≠5;decide,hx _ _,by show a4Y 0;decide⟩
 ·cases h
theorem c5d (hs:s.size≤65536):∀(f p:Nat) (a:Int×Int) (out:List Tk),s.size+1-p≤f→p≤s.size→out.length≤32768→(∀t∈out,t.kind≠5∧t.text.size≤65536∧a4Y t.num)→(tkF s f p a out).2.2=0→
  ∃init last,(tkF s f p a out).1=init++[last]∧(∀t∈init,t.kind≠5∧t.text.size≤65536∧a4Y t.num)∧last.kind=5∧last.text.size≤65536∧a4Y last.num∧init.length≤32768
 | 0,p,a,out,hf,hp,_,_,_=>by omega
 | f+1,p,a,out,hf,hp,hl,ho,he=>by
  have hk:=b6d hp
  rw [tkF] at he ⊢
  split at he
  ·rename_i c
   rw [if_pos c]
   exact ⟨out,_,rfl,ho,rfl,by show (0:Nat)≤65536;decide,by show a4Y 0;decide,hl⟩
  rename_i c
  rw [if_neg c]
  split at he
  ·cases he
  rename_i c2
  rw [if_neg c2]
  split at he
  ·rename_i c3;exact absurd he c3
  rename_i c3
  rw [if_neg c3]
  have c3':(oneO s (sk s p)).err=0:=Classical.byContradiction c3
  have hst:=b3g (s:=s) (p:=sk s p) (by omega) c3'
  refine c5d hs f _ _ _ (by omega) hst.2 (by simp;omega) ?_ he
  intro t ht
  rcases List.mem_append.1 ht with q | q
  ·exact ho t q
  ·rw [List.mem_singleton.1 q]
   exact c9v hs c3'
theorem a7y (h:(tkS s).2.2=0):WfT ((tkS s).1.map tkv)∧((tkS s).1.map tkv).length≤big∧TkL ((tkS s).1.map tkv):=by
 unfold tkS at h ⊢
 split at h
 ·cases h
 rename_i c
 rw [if_neg c]
 split at h
 ·cases h
 rename_i hc
 obtain ⟨init,last,e,h1,h2,h3,h4,h5⟩:=c5d (s:=s) (by omega) _ _ _ [] (by omega) (by omega) (by simp) (by simp) h
 rw [e,List.map_append,List.map_singleton]
 refine ⟨c2k (fun t ht=>?_) h2,by simp [big];omega,fun t ht=>?_⟩
 ·obtain ⟨u,hu,rfl⟩:=List.mem_map.1 ht
  exact (h1 u hu).1
 ·rcases List.mem_append.1 ht with q | q
  ·obtain ⟨u,hu,rfl⟩:=List.mem_map.1 q
   exact (h1 u hu).2
  ·rw [List.mem_singleton.1 q]
   exact ⟨h3,h4⟩
end
def SmP {α:Type} (G:α→Prop) (p:PM α):Prop:=∀r a r',TkL r→p r=.ok (a,r')→G a∧TkL r'
theorem TkL.tail {r:List Tok} (h:TkL r):TkL r.tail:=fun t ht=>h t (List.mem_of_mem_tail ht)
theorem TkL.hd {r:List Tok} (h:TkL r):TkOK (hd r):=by
 cases r with
 | nil=>exact ⟨by show (0:Nat)≤65536;decide,by show a4Y 0;decide⟩
 | cons t r=>exact h t (by simp)
theorem SmP.bind {α β:Type} {G:α→Prop} {G2:β→Prop} {p:PM α} {f:α→PM β} (hp:SmP G p) (hf:∀a,G a→SmP G2 (f a)):SmP G2 (bindP p f):=fun r b r' ht h=>by
 obtain ⟨a,r1,h1,h2⟩:=bind_ok h
 obtain ⟨ga,t1⟩:=hp _ _ _ ht h1
 exact hf a ga _ _ _ t1 h2
theorem a5m {α:Type} {G:α→Prop} {a:α} (h:G a):SmP G (pureP a):=fun r b r' ht e=>by cases e;exact ⟨h,ht⟩
theorem a5Y (s:ByteArray):SmP (fun _=>True) (mustP s):=fun r b r' ht h=>by
 unfold mustP at h
 split at h
 ·cases h;exact ⟨trivial,ht.tail⟩
 ·cases h
theorem b7C {α:Type} {G:α→Prop} (b:List Tok→Bool):SmP G (deadE (α:=α) b):=fun r a r' _ h=>by
 unfold deadE at h
 split at h<;>cases h
theorem b5d {k n:Int} {s:ByteArray} {ts:List PT} (hs:s.size≤65536) (hn:a4Y n) (h:∀t∈ts,Sm t):Sm (eX k n s ts):=.mk ⟨by show s.size≤sml;simp only [sml];omega,hn⟩ h
theorem b6q {k n:Int} {es cs:List PT} (he:∀t∈es,Sm t) (hc:∀t∈cs,Sm t):Sm (cX k n es cs):=.mk ⟨by show (0:Nat)≤sml;simp only [sml];omega,by show a4Y 0;decide⟩ fun t ht=>by
 rcases List.mem_append.1 ht with q | q
 ·exact he t q
 ·exact hc t q
theorem b3o {k:Int} {s:ByteArray} {es cs vs ws:List PT} (hs:s.size≤65536) (he:∀t∈es,Sm t) (hc:∀t∈cs,Sm t) (hv:∀t∈vs,Sm t) (hw:∀t∈ws,Sm t):Sm (sX k s es cs vs ws):=.mk ⟨by show s.size≤sml;simp only [sml];omega,by show a4Y 0;decide⟩ fun t ht=>by
 simp only [List.mem_append] at ht
 rcases ht with q | q | q | q
 ·exact hc t q
 ·exact he t q
 ·exact hv t q
 ·exact hw t q
theorem a9d {t:PT} (h:Sm t):∀u∈[t],Sm u:=fun u hu=>by rw [List.mem_singleton.1 hu];exact h
theorem c0F {t t':PT} (h:Sm t) (h':Sm t'):∀u∈[t,t'],Sm u:=fun u hu=>by
 simp only [List.mem_cons,List.not_mem_nil,or_false] at hu
 rcases hu with rfl | rfl
 ·exact h
 ·exact h'
theorem P7:∀u∈([]:List PT),Sm u:=fun u hu=>by cases hu
theorem e0:(⟨#[]⟩:ByteArray).size≤65536:=by show (0:Nat)≤65536;decide
theorem b8k {w:List Tok→Int} {part:PM PT} (hp:SmP Sm part):∀(n:Nat) (e:PT),Sm e→SmP Sm (chainF w part n e)
 | 0,e,he=>fun r b r' ht h=>by cases h;exact ⟨he,ht⟩
 | n+1,e,he=>fun r b r' ht h=>by
  unfold chainF at h
  split at h
  ·cases h;exact ⟨he,ht⟩
  ·exact SmP.bind hp (fun a ha=>b8k hp n _ (b5d e0 (by decide) (c0F he ha))) _ _ _ ht.tail h
theorem b8l {s:ByteArray} {k:Int} {part:PM PT} (hp:SmP Sm part):∀(n:Nat) (e:PT),Sm e→SmP Sm (joinsF s k part n e)
 | 0,e,he=>fun r b r' ht h=>by cases h;exact ⟨he,ht⟩
 | n+1,e,he=>fun r b r' ht h=>by
  unfold joinsF at h
  split at h
  ·exact SmP.bind hp (fun a ha=>b8l hp n _ (b6q P7 (c0F he ha))) _ _ _ ht.tail h
  ·cases h;exact ⟨he,ht⟩
theorem b1X {w:List Tok→Int} {part:PM PT} (hp:SmP Sm part):SmP Sm (chainP w part):=hp.bind fun e he r _ _ ht h=>b8k hp r.length e he _ _ _ ht h
theorem b1Y {s:ByteArray} {k:Int} {part:PM PT} (hp:SmP Sm part):SmP Sm (joinsP s k part):=hp.bind fun e he r _ _ ht h=>b8l hp r.length e he _ _ _ ht h
theorem c6C {f:PM PT} (hf:SmP Sm f):SmP Sm (factS f):=fun r a r' ht h=>by
 have he:SmP Sm (exprOf f):=b1X (b1X hf)
 have t1:=ht.hd
 unfold factS at h
 split at h
 ·cases h
 split at h
 ·exact (hf.bind fun e h=>a5m (b5d e0 (by decide) (a9d h))) _ _ _ ht.tail h
 split at h
 ·exact (he.bind fun e h=>(a5Y _).bind fun _ _=>a5m h) _ _ _ ht.tail h
 split at h
 ·cases h;exact ⟨b5d e0 (by decide) P7,ht.tail⟩
 split at h
 ·cases h;exact ⟨b5d e0 t1.2 P7,ht.tail⟩
 split at h
 ·exact (he.bind fun e h=>(a5Y _).bind fun _ _=>a5m (b5d t1.1 (by decide) (a9d h))) _ _ _ ht.tail.tail h
 ·cases h;exact ⟨b5d t1.1 (by decide) P7,ht.tail⟩
theorem c0G:∀g,SmP Sm (factP g)
 | 0=>b7C _
 | g+1=>c6C (c0G g)
theorem b3p (g:Nat):SmP Sm (exprP g):=b1X (b1X (c0G g))
theorem c9w:SmP (fun _=>True) relP:=fun r a r' ht h=>by
 unfold relP at h
 split at h
 ·cases h
 ·cases h;exact ⟨trivial,ht.tail⟩
theorem c9x {l ex:PM PT} (hl:SmP Sm l) (hx:SmP Sm ex):SmP Sm (litS l ex):=fun r a r' ht h=>by
 have hc:SmP Sm (condOf l):=b1Y (b1Y hl)
 unfold litS at h
 split at h
 ·cases h
 split at h
 ·cases h;exact ⟨b6q P7 P7,ht.tail⟩
 split at h
 ·cases h;exact ⟨b6q P7 P7,ht.tail⟩
 split at h
 ·exact (hl.bind fun e h=>a5m (b6q P7 (a9d h))) _ _ _ ht.tail h
 split at h
 ·exact (hc.bind fun e h=>(a5Y _).bind fun _ _=>a5m h) _ _ _ ht.tail h
 ·exact (hx.bind fun a ha=>c9w.bind fun _ _=>hx.bind fun b hb=>a5m (b6q (c0F ha hb) P7)) _ _ _ ht h
theorem c2l:∀g,SmP Sm (litP g)
 | 0=>b7C _
 | g+1=>c9x (c2l g) (b3p _)
theorem c0H (g:Nat):SmP Sm (condP g):=b1Y (b1Y (c2l g))
def SmL (l:List PT):Prop:=∀t∈l,Sm t
theorem b4o {stop:List Tok→Bool} {st:PM PT} (hs:SmP Sm st):∀(n:Nat) (l:List PT),SmL l→SmP SmL (stmtsF stop st n l)
 | 0,l,hl=>fun r b r' ht h=>by cases h;exact ⟨hl,ht⟩
 | n+1,l,hl=>fun r b r' ht h=>by
  unfold stmtsF at h
  split at h
  ·cases h;exact ⟨hl,ht⟩
  ·exact SmP.bind hs (fun a ha=>b4o hs n _ fun t ht=>by
    rcases List.mem_append.1 ht with q | q
    ·exact hl t q
    ·rw [List.mem_singleton.1 q];exact ha) _ _ _ ht h
theorem c3n {st:PM PT} (hs:SmP Sm st):SmP SmL (blockOf st):=(a5Y _).bind fun _ _=>SmP.bind (G:=SmL) (fun r _ _ ht h=>b4o hs r.length [] P7 _ _ _ ht h) fun l hl r _ r' ht h=>by
 cases h;exact ⟨hl,ht.tail⟩
theorem b5e {s:PT} (h:Sm s):SmP Sm (endS s):=(a5Y _).bind fun _ _=>a5m h
theorem c2m {k:Int} {s:ByteArray} {es:List PT} {ex:PM PT} (hs:s.size≤65536) (he:SmL es) (hx:SmP Sm ex):SmP Sm (setS k s es ex):=(a5Y _).bind fun _ _=>hx.bind fun e h=>b5e (b3o hs (fun t ht=>by
 rcases List.mem_append.1 ht with q | q
 ·exact he t q
 ·rw [List.mem_singleton.1 q];exact h) P7 P7 P7)
theorem c6D {st sub ex co:PM PT} (hs:SmP Sm st) (hb:SmP Sm sub) (hx:SmP Sm ex) (hc:SmP Sm co):SmP Sm (stmtS st sub ex co):=fun r a r' ht h=>by
 have t1:=ht.hd
 have hbl:=c3n hs
 unfold stmtS at h
 split at h
 ·cases h
 split at h
 ·split at h
  ·exact (hb.bind fun e h=>(a5Y _).bind fun _ _=>c2m t1.1 (a9d h) hx) _ _ _ ht.tail.tail h
  ·exact c2m t1.1 P7 hx _ _ _ ht.tail h
 split at h
 ·refine (hc.bind fun c hc'=>hbl.bind fun th hth r1 a1 r2 ht1 h1=>?_) _ _ _ ht.tail h
  split at h1
  ·exact (hbl.bind fun el hel=>a5m (b3o e0 P7 (a9d hc') hth hel)) _ _ _ ht1.tail h1
  ·cases h1;exact ⟨b3o e0 P7 (a9d hc') hth P7,ht1⟩
 split at h
 ·exact (hc.bind fun c hc'=>hbl.bind fun th hth=>a5m (b3o e0 P7 (a9d hc') hth P7)) _ _ _ ht.tail h
 split at h
 ·exact (hc.bind fun c hc'=>b5e (b3o e0 P7 (a9d hc') P7 P7)) _ _ _ ht.tail h
 split at h
 ·exact (hc.bind fun c hc'=>b5e (b3o e0 P7 (a9d hc') P7 P7)) _ _ _ ht.tail h
 ·exact b5e (b3o e0 P7 P7 P7 P7) _ _ _ ht.tail h
theorem c0I:∀g,SmP Sm (stmtP g)
 | 0=>b7C _
 | g+1=>c6D (c0I g) (b3p _) (b3p _) (c0H _)
end Go.Proofs.YthklmeihgmcljaaGreatDoor
