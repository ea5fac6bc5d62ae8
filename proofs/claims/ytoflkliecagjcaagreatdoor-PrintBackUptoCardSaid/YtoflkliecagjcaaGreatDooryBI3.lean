/- Printing, read back: what is read of any text has a printed text in which no more stands one within the other. Plain. -/
import Derived.Test.YtoflkliecagjcaaGreatDooryBJ7
import Derived.Test.YtoflkliecagjcaaGreatDooryBJ2
namespace Go.Proofs.YtoflkliecagjcaaGreatDoor
open Go.RowKit
set_option maxRecDepth 100000
set_option maxHeartbeats 2000000
def NdP{α:Type}(G:α→Prop)(p:PM α):Prop:=∀r a r',p r=.ok (a,r')→G a
theorem NdP.bind{α β:Type}{G:α→Prop}{G2:β→Prop}{p:PM α}{f:α→PM β}(hp:NdP G p)(hf:∀a,G a→NdP G2 (f a)):NdP G2 (bindP p f):=fun r b r' h=>by
 obtain ⟨a,r1,h1,h2⟩:=bind_ok h
 exact hf a (hp _ _ _ h1) _ _ _ h2
theorem a4C{α:Type}{G:α→Prop}{a:α}(h:G a):NdP G (pureP a):=fun r b r' e=>by cases e;exact h
theorem a6w(s:ByteArray):NdP (fun _=>True) (mustP s):=fun _ _ _ _=>trivial
theorem b6o{α:Type}{G:α→Prop}(b:List Tok→Bool):NdP G (deadE (α:=α) b):=fun r a r' h=>by
 unfold deadE at h
 split at h<;>cases h
theorem NdP.mono{α:Type}{G G2:α→Prop}{p:PM α}(h:NdP G p)(k:∀a,G a→G2 a):NdP G2 p:=fun r a r' e=>k a (h r a r' e)
theorem c9L(r:List Tok)(h:whG sMul kMul r≠0):whG sMul kMul r=8∨whG sMul kMul r=9∨whG sMul kMul r=10:=by
 revert h
 simp only [whG]
 (repeat' split)<;>simp
theorem c9M(r:List Tok)(h:whG sAdd kAdd r≠0):whG sAdd kAdd r=6∨whG sAdd kAdd r=7:=by
 revert h
 simp only [whG]
 (repeat' split)<;>simp
theorem d4B(n:Int)(t:PT):nd t≤nL n t:=b0R _ _
theorem d3H(n:Int)(t:PT):nL n t≤nd t+1:=by unfold nL upD;split<;>omega
theorem d3I(n:Int)(t:PT):eL n t≤nd t+1:=by unfold eL upD;split<;>omega
theorem c7J(t:PT):nL 2 t≤nL 3 t:=by
 unfold nL upD
 by_cases c:lvE (kindT t) < 2
 ·rw [decide_eq_true c,decide_eq_true (by omega)];exact Nat.le_refl _
 ·rw [decide_eq_false c,if_neg (by decide)]
  split<;>omega
theorem d4C(t:PT):eL 2 t≤eL 3 t:=by
 unfold eL upD
 by_cases c:lvC (kindT t) < 2
 ·rw [decide_eq_true c,decide_eq_true (by omega)];exact Nat.le_refl _
 ·rw [decide_eq_false c,if_neg (by decide)]
  split<;>omega
section
variable {g:Nat}
theorem b6p{part:PM PT}(hp:NdP (fun a=>nL 3 a≤g) part):∀(n:Nat)(e:PT),nL 2 e≤g→NdP (fun t=>nL 2 t≤g) (chainF (whG sMul kMul) part n e)
 | 0,e,he=>fun r b r' h=>by cases h;exact he
 | n+1,e,he=>fun r b r' h=>by
  unfold chainF at h
  split at h
  ·cases h;exact he
  ·rename_i c
   have hk:=c9L r c
   generalize whG sMul kMul r=k at h hk
   have hk':k=6∨k=7∨k=8∨k=9∨k=10:=by omega
   have hl:lvE k=2:=by rcases hk with rfl | rfl | rfl<;>rfl
   refine NdP.bind hp (fun a ha=>b6p hp n _ ?_) _ _ _ h
   rw [(Z7 (n:=2) (t:=eX k 0 ⟨#[]⟩ [e,a]) (by rw [a6v];omega)).2,b2C hk',hl]
   exact Nat.max_le.2 ⟨he,ha⟩
theorem c1q{part:PM PT}(hp:NdP (fun a=>nL 2 a≤g) part):∀(n:Nat)(e:PT),nd e≤g→NdP (fun t=>nd t≤g) (chainF (whG sAdd kAdd) part n e)
 | 0,e,he=>fun r b r' h=>by cases h;exact he
 | n+1,e,he=>fun r b r' h=>by
  unfold chainF at h
  split at h
  ·cases h;exact he
  ·rename_i c
   have hk:=c9M r c
   generalize whG sAdd kAdd r=k at h hk
   have hk':k=6∨k=7∨k=8∨k=9∨k=10:=by omega
   have hl:lvE k=1:=by rcases hk with rfl | rfl<;>rfl
   refine NdP.bind hp (fun a ha=>c1q hp n _ ?_) _ _ _ h
   show nd (eX k 0 ⟨#[]⟩ [e,a])≤g
   rw [b2C hk',hl,(Z7 (n:=1) (t:=e) (c4P _)).2]
   exact Nat.max_le.2 ⟨he,ha⟩
theorem b7g{f:PM PT}(hf:NdP (fun a=>nL 3 a≤g) f):NdP (fun t=>nd t≤g) (exprOf f):=
 NdP.bind (G:=fun a=>nL 2 a≤g) (NdP.bind hf fun e he r b r' h=>b6p hf r.length e (Nat.le_trans (c7J e) he) _ _ _ h) fun e he r b r' h=>
  c1q (NdP.bind hf fun e he r b r' h=>b6p hf r.length e (Nat.le_trans (c7J e) he) _ _ _ h) r.length e (Nat.le_trans (d4B 2 e) he) _ _ _ h
theorem c6V{f:PM PT}(hf:NdP (fun a=>nL 3 a≤g) f):NdP (fun a=>nL 3 a≤g+1) (factS f):=fun r a r' h=>by
 have he:=b7g hf
 unfold factS at h
 split at h
 ·cases h
 split at h
 ·exact (hf.bind fun e h=>a4C (G:=fun a=>nL 3 a≤g+1) (by
   rw [(Z7 (n:=3) (t:=eX 5 0 ⟨#[]⟩ [e]) (by show (3:Int)≤lvE 5;decide)).2,b9c];omega)) _ _ _ h
 split at h
 ·exact (he.bind fun e h=>(a6w _).bind fun _ _=>a4C (G:=fun a=>nL 3 a≤g+1) (by have:=d3H 3 e;omega)) _ _ _ h
 split at h
 ·cases h;show 1≤g+1;omega
 split at h
 ·cases h;show 1≤g+1;omega
 split at h
 ·exact (he.bind fun e h=>(a6w _).bind fun _ _=>a4C (G:=fun a=>nL 3 a≤g+1) (by
   rw [(Z7 (n:=3) (t:=eX 4 0 (hd r).E1 [e]) (by show (3:Int)≤lvE 4;decide)).2,b6l];omega)) _ _ _ h
 ·cases h;show 1≤g+1;omega
end
theorem b9r:∀g,NdP (fun a=>nL 3 a≤g) (factP g)
 | 0=>b6o _
 | g+1=>c6V (b9r g)
theorem b4w(g:Nat):NdP (fun a=>nd a≤g) (exprP g):=b7g (b9r g)
section
variable {g:Nat}
theorem c1r{part:PM PT}(hp:NdP (fun a=>eL 3 a≤g) part):∀(n:Nat)(e:PT),eL 2 e≤g→NdP (fun t=>eL 2 t≤g) (joinsF ⟨#[38,38]⟩ 5 part n e)
 | 0,e,he=>fun r b r' h=>by cases h;exact he
 | n+1,e,he=>fun r b r' h=>by
  unfold joinsF at h
  split at h
  ·refine NdP.bind hp (fun a ha=>c1r hp n _ ?_) _ _ _ h
   rw [(a2M (n:=2) (t:=cX 5 0 [] [e,a]) (by show (2:Int)≤lvC 5;decide)).2,b0Q (.inl rfl)]
   exact Nat.max_le.2 ⟨he,ha⟩
  ·cases h;exact he
theorem c4S{part:PM PT}(hp:NdP (fun a=>eL 2 a≤g) part):∀(n:Nat)(e:PT),nd e≤g→NdP (fun t=>nd t≤g) (joinsF ⟨#[124,124]⟩ 6 part n e)
 | 0,e,he=>fun r b r' h=>by cases h;exact he
 | n+1,e,he=>fun r b r' h=>by
  unfold joinsF at h
  split at h
  ·refine NdP.bind hp (fun a ha=>c4S hp n _ ?_) _ _ _ h
   show nd (cX 6 0 [] [e,a])≤g
   rw [b0Q (.inr rfl),show lvC 6=1 from rfl,(a2M (n:=1) (t:=e) (c4Q _)).2]
   exact Nat.max_le.2 ⟨he,ha⟩
  ·cases h;exact he
theorem b7h{l:PM PT}(hl:NdP (fun a=>eL 3 a≤g) l):NdP (fun t=>nd t≤g) (condOf l):=
 have hc:NdP (fun a=>eL 2 a≤g) (conjOf l):=NdP.bind hl fun e he r b r' h=>c1r hl r.length e (Nat.le_trans (d4C e) he) _ _ _ h
 NdP.bind hc fun e he r b r' h=>c4S hc r.length e (Nat.le_trans (b0R _ _) he) _ _ _ h
theorem c9N{l ex:PM PT}(hl:NdP (fun a=>eL 3 a≤g) l)(hx:NdP (fun a=>nd a≤g+1) ex):NdP (fun a=>eL 3 a≤g+1) (litS l ex):=fun r a r' h=>by
 have hc:=b7h hl
 unfold litS at h
 split at h
 ·cases h
 split at h
 ·cases h;show 1≤g+1;omega
 split at h
 ·cases h;show 1≤g+1;omega
 split at h
 ·exact (hl.bind fun e h=>a4C (G:=fun a=>eL 3 a≤g+1) (by
   rw [(a2M (n:=3) (t:=cX 4 0 [] [e]) (by show (3:Int)≤lvC 4;decide)).2,b9f];omega)) _ _ _ h
 split at h
 ·exact (hc.bind fun e h=>(a6w _).bind fun _ _=>a4C (G:=fun a=>eL 3 a≤g+1) (by have:=d3I 3 e;omega)) _ _ _ h
 ·exact (hx.bind fun a ha=>NdP.bind (G:=fun _=>True) (fun _ _ _ _=>trivial) fun op _=>hx.bind fun b hb=>a4C (G:=fun a=>eL 3 a≤g+1) (by
   rw [(a2M (n:=3) (t:=cX 3 op [a,b] []) (by show (3:Int)≤lvC 3;decide)).2,b9e];exact Nat.max_le.2 ⟨ha,hb⟩)) _ _ _ h
end
theorem c1s:∀g,NdP (fun a=>eL 3 a≤g) (litP g)
 | 0=>b6o _
 | g+1=>c9N (c1s g) (b4w _)
theorem c6W(g:Nat):NdP (fun a=>nd a≤g) (condP g):=b7h (c1s g)
section
variable {g:Nat}
theorem b2E{stop:List Tok→Bool}{st:PM PT}(hs:NdP (fun a=>nd a≤g) st):∀(n:Nat)(l:List PT),(∀t∈l,nd t≤g)→NdP (fun l=>∀t∈l,nd t≤g) (stmtsF stop st n l)
 | 0,l,hl=>fun r b r' h=>by cases h;exact hl
 | n+1,l,hl=>fun r b r' h=>by
  unfold stmtsF at h
  split at h
  ·cases h;exact hl
  ·refine NdP.bind hs (fun a ha=>b2E hs n _ fun t ht=>?_) _ _ _ h
   rcases List.mem_append.1 ht with q | q
   ·exact hl t q
   ·rw [List.mem_singleton.1 q];exact ha
theorem c2A{st:PM PT}(hs:NdP (fun a=>nd a≤g) st):NdP (fun l=>∀t∈l,nd t≤g) (blockOf st):=(a6w _).bind fun _ _=>NdP.bind (G:=fun l=>∀t∈l,nd t≤g) (fun r _ _ h=>b2E hs r.length [] (fun t ht=>by cases ht) _ _ _ h) fun l hl r _ r' h=>by
 cases h;exact hl
theorem b0S{G:PT→Prop}{s:PT}(h:G s):NdP G (endS s):=(a6w _).bind fun _ _=>a4C h
theorem c6X{st sub ex co:PM PT}(hs:NdP (fun a=>nd a≤g) st)(hb:NdP (fun a=>nd a≤g) sub)(hx:NdP (fun a=>nd a≤g+1) ex)(hc:NdP (fun a=>nd a≤g+1) co):NdP (fun a=>nd a≤g+1) (stmtS st sub ex co):=fun r a r' h=>by
 have hbl:=c2A hs
 unfold stmtS at h
 split at h
 ·cases h
 split at h
 ·split at h
  ·exact (hb.bind fun e he=>(a6w _).bind fun _ _=>(a6w _).bind fun _ _=>hx.bind fun e2 h2=>b0S (G:=fun a=>nd a≤g+1) (by
    show nd (sX 2 (hd r).E1 [e,e2] [] [] [])≤g+1
    rw [b9m];exact Nat.max_le.2 ⟨by omega,h2⟩)) _ _ _ h
  ·exact ((a6w _).bind fun _ _=>hx.bind fun e2 h2=>b0S (G:=fun a=>nd a≤g+1) (by
    show nd (sX 1 (hd r).E1 [e2] [] [] [])≤g+1
    rw [b9l];exact Nat.max_le.2 ⟨h2,by omega⟩)) _ _ _ h
 split at h
 ·refine (hc.bind fun c hc'=>hbl.bind fun th hth r1 a1 r2 h1=>(?_:nd a1≤g+1)) _ _ _ h
  split at h1
  ·exact (hbl.bind fun el hel=>a4C (G:=fun a=>nd a≤g+1) (c2z.2 ⟨hc',hth,hel⟩)) _ _ _ h1
  ·cases h1;exact c2z.2 ⟨hc',hth,fun t ht=>by cases ht⟩
 split at h
 ·exact (hc.bind fun c hc'=>hbl.bind fun th hth=>a4C (G:=fun a=>nd a≤g+1) (c4R.2 ⟨hc',hth⟩)) _ _ _ h
 split at h
 ·exact (hc.bind fun c hc'=>b0S (G:=fun a=>nd a≤g+1) (by rw [b9n];exact Nat.max_le.2 ⟨hc',by omega⟩)) _ _ _ h
 split at h
 ·exact (hc.bind fun c hc'=>b0S (G:=fun a=>nd a≤g+1) (by rw [b9o];exact Nat.max_le.2 ⟨hc',by omega⟩)) _ _ _ h
 ·exact b0S (G:=fun a=>nd a≤g+1) (by show 1≤g+1;omega) _ _ _ h
end
theorem b9s:∀g,NdP (fun a=>nd a≤g) (stmtP g)
 | 0=>b6o _
 | g+1=>c6X (b9s g) (b4w _) (b4w _) (c6W _)
theorem c6Y:NdP (fun b=>∀t∈b.body,nd t≤40) progP:=NdP.bind (G:=fun _=>True) (fun _ _ _ _=>trivial) fun ds _=>NdP.bind (G:=fun l=>∀t∈l,nd t≤40) (fun r _ _ h=>b2E (b9s 40) r.length [] (fun t ht=>by cases ht) _ _ _ h) fun b hb=>a4C hb
def er(t:Tok):Tok:=⟨t.d6,t.E1,t.M4,⟨0,0⟩⟩
abbrev erL(r:List Tok):List Tok:=r.map er
def eR{α:Type}:Except Flt (α×List Tok)→Except Flt (α×List Tok)
 | .error (c,_)=>.error (c,⟨0,0⟩)
 | .ok (a,r)=>.ok (a,erL r)
def Bl{α:Type}(p:PM α):Prop:=∀r,p (erL r)=eR (p r)
theorem b7G(r:List Tok):hd (erL r)=er (hd r):=by cases r<;>rfl
theorem a4D(r:List Tok):(erL r).tail=erL r.tail:=by cases r<;>rfl
theorem a5D(r:List Tok):(hd (erL r)).d6=(hd r).d6:=by rw [b7G];rfl
theorem b3r(r:List Tok):(hd (erL r)).E1=(hd r).E1:=by rw [b7G];rfl
theorem c4T(r:List Tok):(hd (erL r)).M4=(hd r).M4:=by rw [b7G];rfl
theorem c2B(r:List Tok):(hd (erL r)).fAt=⟨0,0⟩:=by rw [b7G];rfl
theorem a0r(s:ByteArray)(r:List Tok):isT s (erL r)=isT s r:=by unfold isT;rw [a5D,b3r]
theorem b2F(r:List Tok):(erL r).length=r.length:=List.length_map _
theorem b4x(r:List Tok):factB (erL r)=factB r:=by unfold factB;simp only [a5D,a0r]
theorem c1t(r:List Tok):litB (erL r)=litB r:=by unfold litB;simp only [b4x,a0r]
theorem b9t(r:List Tok):stmtB (erL r)=stmtB r:=by unfold stmtB;simp only [a5D,a0r]
theorem b5z:∀(ss:List ByteArray)(ks:List Int)(r:List Tok),whG ss ks (erL r)=whG ss ks r
 | [],ks,r=>by cases ks<;>rfl
 | s::ss,[],r=>rfl
 | s::ss,k::ks,r=>by rw [a7L,a7L,a0r,b5z ss ks r]
theorem a9j{α:Type}(r:List Tok):wantE (α:=α) (erL r)=eR (wantE r):=by unfold wantE;rw [c2B];rfl
theorem Bl.pure{α:Type}(a:α):Bl (pureP a):=fun r=>rfl
theorem Bl.bind{α β:Type}{p:PM α}{f:α→PM β}(hp:Bl p)(hf:∀a,Bl (f a)):Bl (bindP p f):=fun r=>by
 unfold bindP
 rw [hp r]
 cases p r with
 | error x=>rfl
 | ok x=>exact hf x.1 x.2
theorem Bl.must(s:ByteArray):Bl (mustP s):=fun r=>by
 unfold mustP
 rw [a0r,a4D,c2B]
 split<;>rfl
theorem Bl.dead{α:Type}{b:List Tok→Bool}(hb:∀r,b (erL r)=b r):Bl (deadE (α:=α) b):=fun r=>by
 unfold deadE
 rw [hb,c2B]
 split<;>rfl
theorem Bl.tail{α:Type}{p:PM α}(hp:Bl p)(r:List Tok):p (erL r).tail=eR (p r.tail):=by rw [a4D];exact hp _
theorem Bl.chainF{w:List Tok→Int}(hw:∀r,w (erL r)=w r){part:PM PT}(hp:Bl part):∀(n:Nat)(e:PT),Bl (chainF w part n e)
 | 0,e=>fun r=>rfl
 | n+1,e=>fun r=>by
  unfold Go.Proofs.YtoflkliecagjcaaGreatDoor.chainF
  rw [hw]
  split
  ·rfl
  ·exact Bl.tail (Bl.bind hp fun a=>Bl.chainF hw hp n _) r
theorem Bl.joinsF{s:ByteArray}{k:Int}{part:PM PT}(hp:Bl part):∀(n:Nat)(e:PT),Bl (joinsF s k part n e)
 | 0,e=>fun r=>rfl
 | n+1,e=>fun r=>by
  unfold Go.Proofs.YtoflkliecagjcaaGreatDoor.joinsF
  rw [a0r]
  split
  ·exact Bl.tail (Bl.bind hp fun a=>Bl.joinsF hp n _) r
  ·rfl
theorem Bl.chainP{w:List Tok→Int}(hw:∀r,w (erL r)=w r){part:PM PT}(hp:Bl part):Bl (chainP w part):=hp.bind fun e r=>by
 rw [b2F];exact Bl.chainF hw hp _ _ _
theorem Bl.joinsP{s:ByteArray}{k:Int}{part:PM PT}(hp:Bl part):Bl (joinsP s k part):=hp.bind fun e r=>by
 rw [b2F];exact Bl.joinsF hp _ _ _
theorem Bl.expr{f:PM PT}(hf:Bl f):Bl (exprOf f):=Bl.chainP (b5z _ _) (Bl.chainP (b5z _ _) hf)
theorem Bl.factS{f:PM PT}(hf:Bl f):Bl (factS f):=fun r=>by
 have he:=Bl.expr hf
 unfold Go.Proofs.YtoflkliecagjcaaGreatDoor.factS
 rw [b4x,a0r,a0r,a0r,a5D,c4T,b3r,a9j]
 split
 ·rfl
 split
 ·exact Bl.tail (hf.bind fun e=>.pure _) r
 split
 ·exact Bl.tail (he.bind fun e=>(Bl.must _).bind fun _=>.pure _) r
 split
 ·rw [a4D];rfl
 split
 ·rw [a4D];rfl
 rw [a4D,a0r]
 split
 ·exact Bl.tail (he.bind fun e=>(Bl.must _).bind fun _=>.pure _) r.tail
 ·rfl
theorem Bl.factP:∀g,Bl (factP g)
 | 0=>Bl.dead b4x
 | g+1=>Bl.factS (Bl.factP g)
theorem Bl.exprP(g:Nat):Bl (exprP g):=Bl.expr (Bl.factP g)
theorem Bl.rel:Bl relP:=fun r=>by
 have e:relR (erL r)=relR r:=b5z _ _ r
 unfold relP
 rw [e,a9j,a4D]
 split<;>rfl
theorem Bl.cond{l:PM PT}(hl:Bl l):Bl (condOf l):=Bl.joinsP (Bl.joinsP hl)
theorem Bl.litS{l ex:PM PT}(hl:Bl l)(hx:Bl ex):Bl (litS l ex):=fun r=>by
 unfold Go.Proofs.YtoflkliecagjcaaGreatDoor.litS
 rw [c1t,a0r,a0r,a0r,a0r,a9j]
 split
 ·rfl
 split
 ·rw [a4D];rfl
 split
 ·rw [a4D];rfl
 split
 ·exact Bl.tail (hl.bind fun e=>.pure _) r
 split
 ·exact Bl.tail ((Bl.cond hl).bind fun e=>(Bl.must _).bind fun _=>.pure _) r
 ·exact (hx.bind fun a=>Bl.rel.bind fun op=>hx.bind fun b=>.pure _) r
theorem Bl.litP:∀g,Bl (litP g)
 | 0=>Bl.dead c1t
 | g+1=>Bl.litS (Bl.litP g) (Bl.exprP _)
theorem Bl.condP(g:Nat):Bl (condP g):=Bl.cond (Bl.litP g)
theorem Bl.stmtsF{stop:List Tok→Bool}(hs:∀r,stop (erL r)=stop r){st:PM PT}(hp:Bl st):∀(n:Nat)(l:List PT),Bl (stmtsF stop st n l)
 | 0,l=>fun r=>rfl
 | n+1,l=>fun r=>by
  unfold Go.Proofs.YtoflkliecagjcaaGreatDoor.stmtsF
  rw [hs]
  split
  ·rfl
  ·exact Bl.bind hp (fun a=>Bl.stmtsF hs hp n _) r
theorem Bl.block{st:PM PT}(hp:Bl st):Bl (blockOf st):=(Bl.must _).bind fun _=>Bl.bind (fun r=>by rw [b2F];exact Bl.stmtsF (a0r _) hp _ _ r) fun l r=>by
 show Except.ok (l,(erL r).tail)=_
 rw [a4D];rfl
theorem Bl.endS(s:PT):Bl (endS s):=(Bl.must _).bind fun _=>.pure _
theorem Bl.setS{k:Int}{s:ByteArray}{es:List PT}{ex:PM PT}(hx:Bl ex):Bl (setS k s es ex):=(Bl.must _).bind fun _=>hx.bind fun e=>Bl.endS _
theorem Bl.stmtS{st sub ex co:PM PT}(hs:Bl st)(hb:Bl sub)(hx:Bl ex)(hc:Bl co):Bl (stmtS st sub ex co):=fun r=>by
 have hbl:=Bl.block hs
 unfold Go.Proofs.YtoflkliecagjcaaGreatDoor.stmtS
 rw [b9t,a5D,b3r,a9j]
 split
 ·rfl
 split
 ·rw [a4D,a0r]
  split
  ·exact Bl.tail (hb.bind fun e=>(Bl.must _).bind fun _=>Bl.setS hx) r.tail
  ·exact Bl.setS hx r.tail
 split
 ·exact Bl.tail (hc.bind fun c=>hbl.bind fun th r1=>by
   rw [a0r]
   split
   ·exact Bl.tail (hbl.bind fun el=>.pure _) r1
   ·rfl) r
 split
 ·exact Bl.tail (hc.bind fun c=>hbl.bind fun th=>.pure _) r
 split
 ·exact Bl.tail (hc.bind fun c=>Bl.endS _) r
 split
 ·exact Bl.tail (hc.bind fun c=>Bl.endS _) r
 ·exact Bl.tail (Bl.endS _) r
theorem Bl.stmtP:∀g,Bl (stmtP g)
 | 0=>Bl.dead b9t
 | g+1=>Bl.stmtS (Bl.stmtP g) (Bl.exprP _) (Bl.exprP _) (Bl.condP _)
theorem Bl.declP(arr:Bool):Bl (declP arr):=fun r=>by
 unfold Go.Proofs.YtoflkliecagjcaaGreatDoor.declP
 rw [a5D,b3r,a9j]
 split
 ·rfl
 split
 ·exact Bl.tail ((Bl.must _).bind fun _ r1=>by
   rw [a5D,c4T,a9j]
   split
   ·rfl
   ·exact Bl.tail ((Bl.must _).bind fun _=>(Bl.must _).bind fun _=>.pure _) r1) r
 ·exact Bl.tail ((Bl.must _).bind fun _=>.pure _) r
theorem Bl.declsF:∀(n:Nat)(l:List i6),Bl (declsF n l)
 | 0,l=>fun r=>rfl
 | n+1,l=>fun r=>by
  unfold Go.Proofs.YtoflkliecagjcaaGreatDoor.declsF
  rw [a0r,a0r]
  split
  ·exact Bl.tail ((Bl.declP _).bind fun d=>Bl.declsF n _) r
  ·rfl
theorem Bl.progP:Bl progP:=Bl.bind (fun r=>by rw [b2F];exact Bl.declsF _ _ r) fun ds=>Bl.bind (fun r=>by rw [b2F];exact Bl.stmtsF (fun r=>by unfold endB;rw [a5D]) (Bl.stmtP 40) _ _ r) fun b=>.pure _
def eA{α:Type}:Except Flt α→Except Int α
 | .error (c,_)=>.error c
 | .ok a=>.ok a
theorem b9u{β:Type}{p:PM β}{chk:β→Int}(hp:Bl p)(r:List Tok):eA (readsR p chk (erL r))=eA (readsR p chk r):=by
 unfold readsR
 rw [hp r]
 cases p r with
 | error x=>rfl
 | ok x=>
  obtain ⟨b,r'⟩:=x
  dsimp only [eR]
  rw [a5D]
  split
  ·rfl
  split
  ·rfl
  split<;>rfl
section
variable {H:Hp}(hT:TabsH H)(hE:ErrH H)
include hT hE
end
abbrev BB:Nat:=1114112
abbrev rW(g:Nat):Value:=.pointer (some ⟨g,0,none⟩)
theorem b5A:∀(ps:List BL)(xs:BL),xs.length≤BB→(∀p∈ps,p.length≤1048576)→Wt BB xs ps.flatten (putAllW xs ps)
 | [],xs,h,_=>by rw [putAllW,List.flatten_nil];exact Wt.nil h
 | s::l,xs,h,hp=>by
  rw [putAllW]
  have hs:=hp s (List.mem_cons_self ..)
  split
  ·rename_i c
   exact Wt.full c h
  ·rename_i c
   have h1:Wt BB xs s (xs++s):=by
    have:=Wt.put (B:=BB) (s:=s) h (by simp only [lim,BB];omega)
    unfold putW lim at this
    rwa [if_neg c] at this
   rw [List.flatten_cons]
   exact h1.trans (b5A l _ (h1.bound (by decide)) fun p q=>hp p (List.mem_cons_of_mem _ q))
def WOk(H:Hp)(C:c7→List Int→Hp→(c7→List Int→Hp→Prop)→Prop)(t:BL):Prop:=
 ∀(x:c7)(l:BL)(H1:Hp)(K:c7→List Int→Hp→Prop),Hle H H1→l.length≤BB→(∀y l' H',y.fdeep=x.fdeep→Hle H1 H'→Wt BB l t l'→K y (ib l') H')→C x (ib l) H1 K
def CallW(g:Nat)(d:Int)(pv:Value)(Fc:List Frag)(H:Hp)(t:BL):Prop:=
 ∀(x:c7)(l:BL)(H1:Hp),x.fdeep=d→Hle H H1→l.length≤BB→∀(E:Pan)(w0 w:World)(ps:Nat→Prop)(H0:Hp)(a:Sl)(b:Frag)(Kw:Value→World→Prop),RowL 5 1 t8 a (ib l) b→Inv w0 ps H0 H1 (bx g 47 (i8 g x a)::b::Fc) w→
  (∀y l' H' a' b' w',y.fdeep=x.fdeep→Hle H1 H'→Wt BB l t l'→RowL 5 1 t8 a' (ib l') b'→Inv w0 ps H0 H' (bx g 47 (i8 g y a')::b'::Fc) w'→Kw (.tuple #[]) w')→opK Tryz.prog E (xCall pv []) w Kw
def PostW(g:Nat)(x:c7)(l:BL)(Fc:List Frag)(H:Hp)(t:BL)(v:Value)(H':Hp)(Fo:List Frag):Prop:=
 ∃(y:c7)(l':BL)(a':Sl)(b':Frag),v=.tuple #[]∧Fo=bx g 47 (i8 g y a')::b'::Fc∧RowL 5 1 t8 a' (ib l') b'∧y.fdeep=x.fdeep∧Hle H H'∧Wt BB l t l'
theorem a4I{H:Hp}{s:Sl}{ps:List ByteArray}(hs:SlH H 1 q6 s ps)(hp:∀p∈ps,p.size≤1048576)(hn:ps.length≤100):WOk H (fun x f H K=>v6 x f s H K) (ps.map (·.data.toList)).flatten:=by
 intro x l H1 K hle hl k
 refine d3j (hs.le hle) hp hl hn fun y hy=>k y _ H1 hy (Hle.refl _) (b5A _ l hl fun p q=>?_)
 obtain ⟨s,hs,rfl⟩:=List.mem_map.1 q
 have:=hp s hs
 rwa [Array.length_toList]
section
variable {E:Pan}{w0 w:World}{ps:Nat→Prop}{H0 H:Hp}{g:Nat}{x:c7}{a:Sl}{b:Frag}{l:BL}{Fr:List Frag}
theorem s_w{C:c7→List Int→Hp→(c7→List Int→Hp→Prop)→Prop}{H1:Hp}{f:FuncId}{args:List Value}{t:BL}{K:Value→World→Prop}(he:∀args w,(callFunc f args).run Tryz.prog w=.ok (.enter f args) w)(hC:WOk H1 C t)(h1:Hle H1 H)
  (hc:∀(K:c7→List Int→Hp→Prop),C x (ib l) H K→Ct Tryz.prog f (rW g::args) H [bx g 47 (i8 g x a),b] (fun v H' Fo=>∃(y0:c7)(c:List Int)(d:Sl)(e:Frag),v=Value.tuple #[]∧Fo=[bx g 47 (i8 g y0 d),e]∧RowL 5 1 t8 d c e∧K y0 c H') noQE)
  (hl:l.length≤BB) (I:Inv w0 ps H0 H (bx g 47 (i8 g x a)::b::Fr) w)
  (k:∀y l' H' a' b' w',y.fdeep=x.fdeep→Hle H H'→Wt BB l t l'→RowL 5 1 t8 a' (ib l') b'→Inv w0 ps H0 H' (bx g 47 (i8 g y a')::b'::Fr) w'→K (.tuple #[]) w'):opK Tryz.prog E (xCall (.func (.func f) #[] #[]) (rW g::args)) w K:=by
 refine g6 (Fi:=[bx g 47 (i8 g x a),b]) (Fr:=Fr) he (hc (fun y c H'=>∃l',c=ib l'∧y.fdeep=x.fdeep∧Hle H H'∧Wt BB l t l') (hC x l H _ h1 hl fun y l' H' h1 h2 h3=>⟨l',rfl,h1,h2,h3⟩)) I ?_
 rintro _ H' _ w' I' _ _ ⟨y,_,d,e,rfl,rfl,hr',l',rfl,hy,hle,hw⟩
 exact k y l' H' d e w' hy hle hw hr' I'
theorem s_put{n:Nat}{parts:Array (Nat×Value)}{cs:List Value}{pieces:List ByteArray}{K:Value→World→Prop}(hrun:∀w:World,(Instr.buildSlice 67 n parts).run Tryz.prog w=.ok (.slice (some ⟨w.heap.size,0,none⟩) n n) (w.alloc (.cells cs.toArray 9)))(hn:n=pieces.length)(hcs:pieces.flatMap q6=cs)(hm:n≤100)
  (hr:RowL 5 1 t8 a (ib l) b) (hl:l.length≤BB) (hp:∀p∈pieces,p.size≤1048576) (I:Inv w0 ps H0 H (bx g 47 (i8 g x a)::b::Fr) w)
  (k:∀y l' H' a' b' w',y.fdeep=x.fdeep→Hle H H'→Wt BB l (pieces.map (·.data.toList)).flatten l'→RowL 5 1 t8 a' (ib l') b'→Inv w0 ps H0 H' (bx g 47 (i8 g y a')::b'::Fr) w'→K (.tuple #[]) w'):
  opK Tryz.prog E (xV (Instr.buildSlice 67 n parts)) w fun v w1=>opK Tryz.prog E (xCall (.func (.func 26) #[] #[]) [rW g,v]) w1 K:=by
 refine O4 (xs:=pieces) (c:=q6) I hrun hn hcs K8 K9 (Nat.le_trans hm (nb rfl)) fun s F w1 hr1 I1 _=>?_
 obtain ⟨H2,I2,l2,hs2,_⟩:=Inv.freezeC I1 hr1 (by decide)
 refine s_w (t:=(pieces.map (·.data.toList)).flatten) Tryz.call26 (a4I hs2 hp (by omega)) (Hle.refl _) (fun K h=>h _ _ _ hr) hl I2 fun y l' H' a' b' w' e1 e2 e3 e4 e5=>k y l' H' a' b' w' e1 (l2.trans e2) e3 e4 e5
end
theorem b3s{w w':World}{p:Prop}(h:p):keepX [] w w' p:=h
theorem a3t{s:ByteArray}:([s].map (·.data.toList)).flatten=s.data.toList:=by simp
theorem b7i{g:Nat}{needs:Bool}{o c:UInt8}{pv:Value}{x:c7}{l:BL}{H:Hp}{a:Sl}{b:Frag}{Fc:List Frag}{t:BL}(hv:CallW g x.fdeep pv Fc H t)(hl:l.length≤BB)(hr:RowL 5 1 t8 a (ib l) b):
  Ct Tryz.prog 76 [rW g,.bool needs,.string ⟨#[o]⟩,.string ⟨#[c]⟩,pv] H (bx g 47 (i8 g x a)::b::Fc) (PostW g x l Fc H (par needs o c t)) noQE:=by
 refine Ct.of fun w0 w ps0 H0 R E I hR=>d1F ?_
 unfold F76
 have hsm:∀z:UInt8,∀p∈[(⟨#[z]⟩:ByteArray)],p.size≤1048576:=fun z p h=>by
  rw [List.mem_singleton.1 h];show 1≤_;omega
 have hj1:∀(y:c7)(m:BL)(H1:Hp)(a:Sl)(b:Frag)(w:World),y.fdeep=x.fdeep→Hle H H1→Wt BB l (if needs=true then [o] else []) m→RowL 5 1 t8 a (ib m) b→Inv w0 ps0 H0 H1 (bx g 47 (i8 g y a)::b::Fc) w→b8i (rW g) (.bool needs) (.string ⟨#[c]⟩) pv w R E:=by
  intro y m H1 a b w hy l1 hw hr I
  unfold b8i
  intro _
  refine hv y m H1 hy l1 (hw.bound (by decide)) E w0 w ps0 H0 a b _ hr I fun y2 m2 H2 a2 b2 w2 hy2 l2 hw2 hr2 I2=>?_
  refine W8 (fun e=>?_) (fun e=>?_)
  ·subst e
   refine s_put (X0 _) (pieces:=[⟨#[c]⟩]) rfl rfl (by decide) hr2 (hw2.bound (by decide)) (hsm c) I2 fun y3 m3 H3 a3 b3 w3 hy3 l3 hw3 hr3 I3=>?_
   rw [a3t] at hw3
   exact hR _ H3 _ _ I3 ⟨y3,m3,a3,b3,rfl,rfl,hr3,hy3.trans (hy2.trans hy),(l1.trans l2).trans l3,(hw.trans hw2).trans hw3⟩
  ·subst e
   refine hR _ H2 _ _ I2 ⟨y2,m2,a2,b2,rfl,rfl,hr2,hy2.trans hy,l1.trans l2,?_⟩
   exact hw.trans hw2
 refine u2 fun j1 hx1=>?_
 refine W8 (fun e=>?_) (fun e=>?_)
 ·subst e
  refine s_put (X0 _) (pieces:=[⟨#[o]⟩]) rfl rfl (by decide) hr hl (hsm o) I fun y3 m3 H3 a3 b3 w3 hy3 l3 hw3 hr3 I3=>?_
  rw [a3t] at hw3
  exact hx1 _ _ (hj1 y3 m3 H3 a3 b3 w3 hy3 l3 hw3 hr3 I3)
 ·subst e
  exact hx1 _ _ (hj1 x l H a b w rfl (Hle.refl _) (Wt.nil hl) hr I)
theorem c6Z(d:Nat):Lib.repeatL [32,32] d=(List.replicate d ([32,32]:BL)).flatten:=by
 induction d with
 | zero=>rfl
 | succ d ih=>rw [Lib.repeatL,ih,List.replicate_succ,List.flatten_cons]
theorem b6q{g:Nat}{pv:Value}{x:c7}{l:BL}{H:Hp}{a:Sl}{b:Frag}{Fc:List Frag}{t:BL}{d:Nat}(hd:x.fdeep=(d:Int))(hd2:d≤1000)(hv:CallW g x.fdeep pv Fc H t)(hl:l.length≤BB)(hr:RowL 5 1 t8 a (ib l) b):
  Ct Tryz.prog 24 [rW g,pv] H (bx g 47 (i8 g x a)::b::Fc) (PostW g x l Fc H (lineT d t)) noQE:=by
 refine Ct.of fun w0 w ps0 H0 R E I hR=>d0z ?_
 unfold F24
 refine a7 (q9 _) ?_
 refine a7 a6F ?_
 refine b8 (l1 Tryz.isAgg3 (v:=vi x.fdeep) I rfl) ?_
 rw [hd]
 refine g6 (Fi:=[]) Tryz.call56 (d3l (s:=⟨#[32,32]⟩) (c:=d) (K:=fun v H'=>v=⟨(Lib.repeatL [32,32] d).toArray⟩∧H'=H) (by show 2*d≤_;omega) (by omega) ⟨rfl,rfl⟩) I ?_
 rintro _ H1 _ w1 I1 _ _ ⟨_,rfl,rfl,rfl,rfl⟩
 have hlen:(Lib.repeatL [32,32] d).length=d*2:=Lib.repeatL_length _ _
 refine s_put (X0 _) (pieces:=[⟨(Lib.repeatL [32,32] d).toArray⟩]) rfl rfl (by decide) hr hl (fun p h=>?_) I1 fun y m H2 a2 b2 w2 hy l2 hw hr2 I2=>?_
 ·rw [List.mem_singleton.1 h]
  show (Lib.repeatL [32,32] d).toArray.size≤_
  rw [List.size_toArray];omega
 rw [a3t] at hw
 refine hv y m H2 hy l2 (hw.bound (by decide)) E w0 w2 ps0 H0 a2 b2 _ hr2 I2 fun y3 m3 H3 a3 b3 w3 hy3 l3 hw3 hr3 I3=>?_
 refine s_put (X0 _) (pieces:=[⟨#[10]⟩]) rfl rfl (by decide) hr3 (hw3.bound (by decide)) (fun p h=>by rw [List.mem_singleton.1 h];decide) I3 fun y4 m4 H4 a4 b4 w4 hy4 l4 hw4 hr4 I4=>?_
 rw [a3t] at hw4
 refine hR _ H4 _ _ I4 ⟨y4,m4,a4,b4,rfl,rfl,hr4,hy4.trans (hy3.trans hy),(l2.trans l3).trans l4,?_⟩
 have:=(hw.trans hw3).trans hw4
 unfold lineT
 rw [←c6Z]
 exact this
section
variable {E:Pan}{w0 w:World}{ps:Nat→Prop}{H0 H:Hp}
theorem d3J{K:Value→World→Prop}{f:FuncId}{cap:List Value}{Fs:List Frag}{Q:Value→Hp→List Frag→Prop}(he:∀args w,(callFunc f args).run Tryz.prog w=.ok (.enter f args) w)(hc:Ct Tryz.prog f cap H Fs Q noQE)(I:Inv w0 ps H0 H Fs w)
  (hq:∀v H' Fo w',Inv w0 ps H0 H' Fo w'→Q v H' Fo→K v w'):opK Tryz.prog E (xCall (.func (.func f) #[] cap.toArray) []) w K:=by
 have I':Inv w0 ps H0 H (Fs++[]) w:=by rw [List.append_nil];exact I
 refine a5O (args:=[]) (cap:=cap) he hc I' fun v H' Fo w' I2 _ _ q=>hq v H' Fo w' ?_ q
 rw [List.append_nil] at I2
 exact I2
theorem CallW.of{g:Nat}{d:Int}{f:FuncId}{cap:List Value}{Fc:List Frag}{t:BL}(he:∀args w,(callFunc f args).run Tryz.prog w=.ok (.enter f args) w)
  (h:∀(x:c7)(l:BL)(H1:Hp)(a:Sl)(b:Frag),x.fdeep=d→Hle H H1→l.length≤BB→RowL 5 1 t8 a (ib l) b→Ct Tryz.prog f cap H1 (bx g 47 (i8 g x a)::b::Fc) (PostW g x l Fc H1 t) noQE):CallW g d (.func (.func f) #[] cap.toArray) Fc H t:=by
 intro x l H1 hd l1 hl E w0 w ps H0 a b Kw hr I k
 refine d3J he (h x l H1 a b hd l1 hl hr) I ?_
 rintro v H' Fo w' I' ⟨y,l',a',b',rfl,rfl,hr',hy,hle,hw⟩
 exact k y l' H' a' b' w' hy hle hw hr' I'
end
theorem b5B{f:FuncId}{args:List Value}{g:Nat}{x:c7}{l:BL}{H:Hp}{a:Sl}{b:Frag}{t:BL}{K:c7→List Int→Hp→Prop}(k:∀y l' H',y.fdeep=x.fdeep→Hle H H'→Wt BB l t l'→K y (ib l') H')
  (h:Ct Tryz.prog f args H [bx g 47 (i8 g x a),b] (PostW g x l [] H t) noQE):Ct Tryz.prog f args H [bx g 47 (i8 g x a),b] (fun v H' Fo=>∃(y0:c7)(c:List Int)(d:Sl)(e:Frag),v=Value.tuple #[]∧Fo=[bx g 47 (i8 g y0 d),e]∧RowL 5 1 t8 d c e∧K y0 c H') noQE:=
 h.mono (fun v H' Fo _ ⟨y,l',a',b',e1,e2,hr,hy,hle,hw⟩=>⟨y,ib l',a',b',e1,e2,hr,k y l' H' hy hle hw⟩) fun _ _ _ _ q=>q
theorem b9v{H:Hp}{e:f8}{t:BL}(ih:WOk H (fun x f H K=>D6 x f e H K) t){below:Int}(hlv:∀(H:Hp)(K:Int→Hp→Prop),K (lvE e.d6) H→a0i e.d6 H K):WOk H (fun x f H K=>Z9 x f e below H K) (par (decide (lvE e.d6 < below)) 40 41 t):=by
 intro x l H1 K hle hl k g a b hr
 refine b5B k ?_
 refine Ct.of fun w0 w ps0 H0 R E I hR=>d0Z ?_
 unfold F49
 refine E9 I (cs:=[rW g]) rfl fun ga w1 I1 _=>?_
 refine E9 I1 (cs:=f7 e) rfl fun gd w2 I2 _=>?_
 refine T1 I2 fun w3 I3=>?_
 refine o0 a1i ?_
 refine o0 (Q7 _ _ _) ?_
 refine u7 (l1 Tryz.isAgg41 (v:=rW g) (I3.bring 1) rfl) ?_
 refine u7 (l1 Tryz.isAgg3 (v:=vi e.d6) I3 rfl) ?_
 refine g6 (Fi:=[]) Tryz.call47 (hlv H1 (fun v H'=>v=lvE e.d6∧H'=H1) ⟨rfl,rfl⟩) I3 ?_
 rintro _ H2 _ w4 I4 _ _ ⟨_,rfl,rfl,rfl,rfl⟩
 refine ⟨(Inv.hp1 (I4.bring 1)).trans (Inv.hp1 (I3.bring 1)).symm,?_⟩
 refine o0 (T5 _ _ _ _ _ _) ?_
 have I5:Inv w0 ps0 H0 H2 (bx g 47 (i8 g x a)::b::[bx gd 39 (f7 e),bx ga 41 [rW g]]) w4:=(I4.bring 3).bring 3
 have hv:CallW g x.fdeep (.func (.func 77) #[] [rW ga,rW gd].toArray) [bx gd 39 (f7 e),bx ga 41 [rW g]] H2 t:=by
  intro x l H1 hd h1
  refine CallW.of (d:=x.fdeep) (fun args w=>Tryz.call77 args w) (fun x l H1 a b hd h1 hl hr=>?_) x l H1 rfl h1
  refine Ct.of fun w0 w ps0 H0 R E I hR=>d1G ?_
  unfold F77
  refine b8 (l1 Tryz.isAgg41 (v:=rW g) (I.bring 3) rfl) ?_
  refine b8 (lW Tryz.isAgg39 Tryz.sizeOf39 rfl (I.bring 2)) ?_
  refine s_w Tryz.call22 ih (hle.trans h1) (fun K h=>h _ _ _ hr) hl I fun y l' H' a' b' w' hy l2 hw hr' I'=>?_
  exact hR _ H' _ _ I' ⟨y,l',a',b',rfl,rfl,hr',hy,l2,hw⟩
 refine g6 (Fr:=[]) Tryz.call76 (b7i hv hl hr) I5 ?_
 rintro _ H3 _ w6 I6 _ _ ⟨y,l',a',b',rfl,rfl,hr',hy,l2,hw⟩
 exact hR _ H3 _ _ ((I6.bring 3).bring 3).drop.drop ⟨y,l',a',b',rfl,rfl,hr',hy,l2,hw⟩
theorem b6r{H:Hp}{e:i7}{t:BL}(ih:WOk H (fun x f H K=>Q4 x f e H K) t){below:Int}(hlv:∀(H:Hp)(K:Int→Hp→Prop),K (lvC e.d6) H→a0j e.d6 H K):WOk H (fun x f H K=>Z3 x f e below H K) (par (decide (lvC e.d6 < below)) 91 93 t):=by
 intro x l H1 K hle hl k g a b hr
 refine b5B k ?_
 refine Ct.of fun w0 w ps0 H0 R E I hR=>d1L ?_
 unfold F88
 refine E9 I (cs:=[rW g]) rfl fun ga w1 I1 _=>?_
 refine E9 I1 (cs:=g7 e) rfl fun gd w2 I2 _=>?_
 refine T1 I2 fun w3 I3=>?_
 refine o0 a4d ?_
 refine o0 (Q7 _ _ _) ?_
 refine u7 (l1 Tryz.isAgg41 (v:=rW g) (I3.bring 1) rfl) ?_
 refine u7 (l1 Tryz.isAgg3 (v:=vi e.d6) I3 rfl) ?_
 refine g6 (Fi:=[]) Tryz.call87 (hlv H1 (fun v H'=>v=lvC e.d6∧H'=H1) ⟨rfl,rfl⟩) I3 ?_
 rintro _ H2 _ w4 I4 _ _ ⟨_,rfl,rfl,rfl,rfl⟩
 refine ⟨(Inv.hp1 (I4.bring 1)).trans (Inv.hp1 (I3.bring 1)).symm,?_⟩
 refine o0 (T5 _ _ _ _ _ _) ?_
 have I5:Inv w0 ps0 H0 H2 (bx g 47 (i8 g x a)::b::[bx gd 75 (g7 e),bx ga 41 [rW g]]) w4:=(I4.bring 3).bring 3
 have hv:CallW g x.fdeep (.func (.func 120) #[] [rW ga,rW gd].toArray) [bx gd 75 (g7 e),bx ga 41 [rW g]] H2 t:=by
  intro x l H1 hd h1
  refine CallW.of (d:=x.fdeep) (fun args w=>Tryz.call120 args w) (fun x l H1 a b hd h1 hl hr=>?_) x l H1 rfl h1
  refine Ct.of fun w0 w ps0 H0 R E I hR=>c8j ?_
  unfold d1Y
  refine b8 (l1 Tryz.isAgg41 (v:=rW g) (I.bring 3) rfl) ?_
  refine b8 (lW Tryz.isAgg75 Tryz.sizeOf75 rfl (I.bring 2)) ?_
  refine s_w Tryz.call60 ih (hle.trans h1) (fun K h=>h _ _ _ hr) hl I fun y l' H' a' b' w' hy l2 hw hr' I'=>?_
  exact hR _ H' _ _ I' ⟨y,l',a',b',rfl,rfl,hr',hy,l2,hw⟩
 refine g6 (Fr:=[]) Tryz.call76 (b7i hv hl hr) I5 ?_
 rintro _ H3 _ w6 I6 _ _ ⟨y,l',a',b',rfl,rfl,hr',hy,l2,hw⟩
 exact hR _ H3 _ _ ((I6.bring 3).bring 3).drop.drop ⟨y,l',a',b',rfl,rfl,hr',hy,l2,hw⟩
theorem b4y{H:Hp}{s:Sl}{ps:List ByteArray}{d:Nat}(hd2:d≤1000)(hs:SlH H 1 q6 s ps)(hp:∀p∈ps,p.size≤1048576)(hn:ps.length≤100):WOk H (fun x f H K=>x.fdeep=(d:Int)→a1v x f s H K) (lineT d (ps.map (·.data.toList)).flatten):=by
 intro x l H1 K hle hl k hd g a b hr
 refine b5B k ?_
 refine Ct.of fun w0 w ps0 H0 R E I hR=>d0j ?_
 unfold F10
 refine E9 I (cs:=[rW g]) rfl fun ga w1 I1 _=>?_
 refine E9 I1 (cs:=[vs s]) rfl fun gd w2 I2 _=>?_
 refine b8 (l1 Tryz.isAgg41 (v:=rW g) (I2.bring 1) rfl) ?_
 refine a7 (Q7 _ _ _) ?_
 have hv:CallW g x.fdeep (.func (.func 25) #[] [rW ga,rW gd].toArray) [bx gd 67 [vs s],bx ga 41 [rW g]] H1 (ps.map (·.data.toList)).flatten:=by
  intro x l H1 hd h1
  refine CallW.of (d:=x.fdeep) (fun args w=>Tryz.call25 args w) (fun x l H1 a b hd h1 hl hr=>?_) x l H1 rfl h1
  refine Ct.of fun w0 w ps0 H0 R E I hR=>d0A ?_
  unfold F25
  refine b8 (l1 Tryz.isAgg41 (v:=rW g) (I.bring 3) rfl) ?_
  refine b8 (l1 Tryz.isAgg67 (v:=vs s) (I.bring 2) rfl) ?_
  refine s_w Tryz.call26 (a4I hs hp hn) (hle.trans h1) (fun K h=>h _ _ _ hr) hl I fun y l' H' a' b' w' hy l2 hw hr' I'=>?_
  exact hR _ H' _ _ I' ⟨y,l',a',b',rfl,rfl,hr',hy,l2,hw⟩
 refine g6 (Fr:=[]) Tryz.call24 (b6q hd hd2 hv hl hr) ((I2.bring 3).bring 3) ?_
 rintro _ H3 _ w6 I6 _ _ ⟨y,l',a',b',rfl,rfl,hr',hy,l2,hw⟩
 exact hR _ H3 _ _ ((I6.bring 3).bring 3).drop.drop ⟨y,l',a',b',rfl,rfl,hr',hy,l2,hw⟩
theorem b2G{H:Hp}{e:i7}{t:BL}{wd en:ByteArray}{d:Nat}(hd2:d≤1000)(hw1:wd.size≤1048576)(he1:en.size≤1048576)(ih:WOk H (fun x f H K=>Q4 x f e H K) t):WOk H (fun x f H K=>x.fdeep=(d:Int)→a7t x f wd e en H K) (lineT d (wd.data.toList++[32]++t++en.data.toList)):=by
 intro x l H1 K hle hl k hd g a b hr
 refine b5B k ?_
 refine Ct.of fun w0 w ps0 H0 R E I hR=>d0F ?_
 unfold F30
 refine E9 I (cs:=[rW g]) rfl fun ga w1 I1 _=>?_
 refine E9 I1 (cs:=[.string wd]) rfl fun gb w2 I2 _=>?_
 refine E9 I2 (cs:=g7 e) rfl fun gc w3 I3 _=>?_
 refine E9 I3 (cs:=[.string en]) rfl fun gd w4 I4 _=>?_
 refine b8 (l1 Tryz.isAgg41 (v:=rW g) (I4.bring 3) rfl) ?_
 refine a7 (Q7 _ _ _) ?_
 have hv:CallW g x.fdeep (.func (.func 59) #[] [rW ga,rW gb,rW gc,rW gd].toArray) [bx gd 9 [.string en],bx gc 75 (g7 e),bx gb 9 [.string wd],bx ga 41 [rW g]] H1 (wd.data.toList++[32]++t++en.data.toList):=by
  intro x l H1 hd h1
  refine CallW.of (d:=x.fdeep) (fun args w=>Tryz.call59 args w) (fun x l H1 a b hd h1 hl hr=>?_) x l H1 rfl h1
  refine Ct.of fun w0 w ps0 H0 R E I hR=>d1l ?_
  unfold F59
  refine b8 (l1 Tryz.isAgg41 (v:=rW g) (I.bring 5) rfl) ?_
  refine b8 (l1 Tryz.isAgg9 (v:=.string wd) (I.bring 4) rfl) ?_
  refine s_put (b0w _ _) (pieces:=[wd,⟨#[32]⟩]) rfl rfl (by decide) hr hl (fun p h=>?_) I fun y2 m2 H2 a2 b2 w2 hy2 l2 hw2 hr2 I2=>?_
  ·rcases List.mem_cons.1 h with rfl | h
   ·exact hw1
   ·rw [List.mem_singleton.1 h];decide
  refine b8 (l1 Tryz.isAgg41 (v:=rW g) (I2.bring 5) rfl) ?_
  refine b8 (lW Tryz.isAgg75 Tryz.sizeOf75 rfl (I2.bring 3)) ?_
  refine s_w Tryz.call60 ih ((hle.trans h1).trans l2) (fun K h=>h _ _ _ hr2) (hw2.bound (by decide)) I2 fun y3 m3 H3 a3 b3 w3 hy3 l3 hw3 hr3 I3=>?_
  refine b8 (l1 Tryz.isAgg41 (v:=rW g) (I3.bring 5) rfl) ?_
  refine b8 (l1 Tryz.isAgg9 (v:=.string en) (I3.bring 2) rfl) ?_
  refine s_put (X0 _) (pieces:=[en]) rfl rfl (by decide) hr3 (hw3.bound (by decide)) (fun p h=>by rw [List.mem_singleton.1 h];exact he1) I3 fun y4 m4 H4 a4 b4 w4 hy4 l4 hw4 hr4 I4=>?_
  rw [a3t] at hw4
  refine hR _ H4 _ _ I4 ⟨y4,m4,a4,b4,rfl,rfl,hr4,hy4.trans (hy3.trans hy2),(l2.trans l3).trans l4,?_⟩
  have:=(hw2.trans hw3).trans hw4
  simpa using this
 refine g6 (Fr:=[]) Tryz.call24 (b6q hd hd2 hv hl hr) ((I4.bring 5).bring 5) ?_
 rintro _ H3 _ w6 I6 _ _ ⟨y,l',a',b',rfl,rfl,hr',hy,l2,hw⟩
 exact hR _ H3 _ _ ((((I6.bring 5).drop.bring 4).drop.bring 3).drop.bring 2).drop ⟨y,l',a',b',rfl,rfl,hr',hy,l2,hw⟩
end Go.Proofs.YtoflkliecagjcaaGreatDoor
