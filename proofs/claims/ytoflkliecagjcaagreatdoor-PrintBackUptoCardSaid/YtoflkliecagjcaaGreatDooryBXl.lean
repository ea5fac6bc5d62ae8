/- Parsing: a text's tokens end with an end and have no other; their texts and numbers are small; so are those of what is read. -/
import Derived.Test.YtoflkliecagjcaaGreatDooryBX9
namespace Go.Proofs.YtoflkliecagjcaaGreatDoor
open Go.RowKit
set_option maxRecDepth 100000
set_option maxHeartbeats 1000000
def TkOK(t:Tok):Prop:=t.E1.size≤65536∧a1M t.M4
def TkL(r:List Tok):Prop:=∀t∈r,TkOK t
theorem c1g:∀{l:List Tok}{e:Tok},(∀t∈l,t.d6≠5)→e.d6=5→WfT (l++[e])
 | [],e,_,he=>he
 | [t],e,h,he=>⟨h t (by simp),he⟩
 | t::u::l,e,h,he=>⟨h t (by simp),c1g (l:=u::l) (fun x hx=>h x (List.mem_cons_of_mem _ hx)) he⟩
section
variable {s:ByteArray}
theorem c2s(p q:Nat):(s.extract p q).size≤s.size:=by simp only [ByteArray.size_extract];omega
theorem c9v(hs:s.size≤65536){p:Nat}(h:(oneO s p).err=0):(oneO s p).kind≠5∧(oneO s p).text.size≤65536∧a1M (oneO s p).num:=by
 have hx:∀p q,(s.extract p q).size≤65536:=fun p q=>Nat.le_trans (c2s p q) hs
 unfold oneO at h ⊢
 split at h
 ·rename_i c
  rw [if_pos c]
  unfold wordO at h ⊢
  split at h
  ·rename_i c2;rw [if_pos c2];exact ⟨by show (3:Int)≠5;decide,hx _ _,by show a1M 0;decide⟩
  rename_i c2
  rw [if_neg c2]
  split at h
  ·cases h
  ·rename_i c3;rw [if_neg c3];exact ⟨by show (1:Int)≠5;decide,hx _ _,by show a1M 0;decide⟩
 rename_i c
 rw [if_neg c]
 split at h
 ·rename_i c2
  rw [if_pos c2]
  unfold numO at h ⊢
  split at h
  ·cases h
  ·rename_i c3
   rw [if_neg c3]
   refine ⟨by show (2:Int)≠5;decide,hx _ _,?_⟩
   show a1M ((dg s p 0).2:Int)
   unfold a1M
   omega
 rename_i c2
 rw [if_neg c2]
 split at h
 ·rename_i c3
  rw [if_pos c3]
  unfold signO at h ⊢
  split at h
  ·rename_i c4;rw [if_pos c4];exact ⟨by show (4:Int)≠5;decide,hx _ _,by show a1M 0;decide⟩
  rename_i c4
  rw [if_neg c4]
  split at h
  ·cases h
  ·rename_i c5;rw [if_neg c5];exact ⟨by show (4:Int)≠5;decide,hx _ _,by show a1M 0;decide⟩
 ·cases h
theorem c4G(hs:s.size≤65536):∀(f p:Nat)(a:Int×Int)(out:List Tk),s.size+1-p≤f→p≤s.size→out.length≤32768→(∀t∈out,t.kind≠5∧t.text.size≤65536∧a1M t.num)→(tkF s f p a out).2.2=0→
  ∃init last,(tkF s f p a out).1=init++[last]∧(∀t∈init,t.kind≠5∧t.text.size≤65536∧a1M t.num)∧last.kind=5∧last.text.size≤65536∧a1M last.num∧init.length≤32768
 | 0,p,a,out,hf,hp,_,_,_=>by omega
 | f+1,p,a,out,hf,hp,hl,ho,he=>by
  have hk:=b3e hp
  rw [tkF] at he ⊢
  split at he
  ·rename_i c
   rw [if_pos c]
   exact ⟨out,_,rfl,ho,rfl,by show (0:Nat)≤65536;decide,by show a1M 0;decide,hl⟩
  rename_i c
  rw [if_neg c]
  split at he
  ·cases he
  rename_i c2
  rw [if_neg c2]
  split at he
  ·rename_i c3;exact absurd he c3
  rename_i c3
  rw [if_neg c3]
  have c3':(oneO s (sk s p)).err=0:=Classical.byContradiction c3
  have hst:=a9H (s:=s) (p:=sk s p) (by omega) c3'
  refine c4G hs f _ _ _ (by omega) hst.2 (by simp;omega) ?_ he
  intro t ht
  rcases List.mem_append.1 ht with q | q
  ·exact ho t q
  ·rw [List.mem_singleton.1 q]
   exact c9v hs c3'
theorem b5n(h:(tkS s).2.2=0):WfT ((tkS s).1.map tkv)∧((tkS s).1.map tkv).length≤big∧TkL ((tkS s).1.map tkv):=by
 unfold tkS at h ⊢
 split at h
 ·cases h
 rename_i c
 rw [if_neg c]
 split at h
 ·cases h
 rename_i hc
 obtain ⟨init,last,e,h1,h2,h3,h4,h5⟩:=c4G (s:=s) (by omega) _ _ _ [] (by omega) (by omega) (by simp) (by simp) h
 rw [e,List.map_append,List.map_singleton]
 refine ⟨c1g (fun t ht=>?_) h2,by simp [big];omega,fun t ht=>?_⟩
 ·obtain ⟨u,hu,rfl⟩:=List.mem_map.1 ht
  exact (h1 u hu).1
 ·rcases List.mem_append.1 ht with q | q
  ·obtain ⟨u,hu,rfl⟩:=List.mem_map.1 q
   exact (h1 u hu).2
  ·rw [List.mem_singleton.1 q]
   exact ⟨h3,h4⟩
end
def SmP{α:Type}(G:α→Prop)(p:PM α):Prop:=∀r a r',TkL r→p r=.ok (a,r')→G a∧TkL r'
theorem TkL.tail{r:List Tok}(h:TkL r):TkL r.tail:=fun t ht=>h t (List.mem_of_mem_tail ht)
theorem TkL.hd{r:List Tok}(h:TkL r):TkOK (hd r):=by
 cases r with
 | nil=>exact ⟨by show (0:Nat)≤65536;decide,by show a1M 0;decide⟩
 | cons t r=>exact h t (by simp)
theorem SmP.bind{α β:Type}{G:α→Prop}{G2:β→Prop}{p:PM α}{f:α→PM β}(hp:SmP G p)(hf:∀a,G a→SmP G2 (f a)):SmP G2 (bindP p f):=fun r b r' ht h=>by
 obtain ⟨a,r1,h1,h2⟩:=bind_ok h
 obtain ⟨ga,t1⟩:=hp _ _ _ ht h1
 exact hf a ga _ _ _ t1 h2
theorem a2Z{α:Type}{G:α→Prop}{a:α}(h:G a):SmP G (pureP a):=fun r b r' ht e=>by cases e;exact ⟨h,ht⟩
theorem a3T(s:ByteArray):SmP (fun _=>True) (mustP s):=fun r b r' ht h=>by
 unfold mustP at h
 split at h
 ·cases h;exact ⟨trivial,ht.tail⟩
 ·cases h
theorem b6h{α:Type}{G:α→Prop}(b:List Tok→Bool):SmP G (deadE (α:=α) b):=fun r a r' _ h=>by
 unfold deadE at h
 split at h<;>cases h
theorem b3m{k n:Int}{s:ByteArray}{ts:List PT}(hs:s.size≤65536)(hn:a1M n)(h:∀t∈ts,Sm t):Sm (eX k n s ts):=.mk ⟨by show s.size≤sml;simp only [sml];omega,hn⟩ h
theorem b5o{k n:Int}{es cs:List PT}(he:∀t∈es,Sm t)(hc:∀t∈cs,Sm t):Sm (cX k n es cs):=.mk ⟨by show (0:Nat)≤sml;simp only [sml];omega,by show a1M 0;decide⟩ fun t ht=>by
 rcases List.mem_append.1 ht with q | q
 ·exact he t q
 ·exact hc t q
theorem b1C{k:Int}{s:ByteArray}{es cs vs ws:List PT}(hs:s.size≤65536)(he:∀t∈es,Sm t)(hc:∀t∈cs,Sm t)(hv:∀t∈vs,Sm t)(hw:∀t∈ws,Sm t):Sm (sX k s es cs vs ws):=.mk ⟨by show s.size≤sml;simp only [sml];omega,by show a1M 0;decide⟩ fun t ht=>by
 simp only [List.mem_append] at ht
 rcases ht with q | q | q | q
 ·exact hc t q
 ·exact he t q
 ·exact hv t q
 ·exact hw t q
theorem a7b{t:PT}(h:Sm t):∀u∈[t],Sm u:=fun u hu=>by rw [List.mem_singleton.1 hu];exact h
theorem b8Q{t t':PT}(h:Sm t)(h':Sm t'):∀u∈[t,t'],Sm u:=fun u hu=>by
 simp only [List.mem_cons,List.not_mem_nil,or_false] at hu
 rcases hu with rfl | rfl
 ·exact h
 ·exact h'
theorem O3:∀u∈([]:List PT),Sm u:=fun u hu=>by cases hu
theorem e0:(⟨#[]⟩:ByteArray).size≤65536:=by show (0:Nat)≤65536;decide
theorem b6V{w:List Tok→Int}{part:PM PT}(hp:SmP Sm part):∀(n:Nat)(e:PT),Sm e→SmP Sm (chainF w part n e)
 | 0,e,he=>fun r b r' ht h=>by cases h;exact ⟨he,ht⟩
 | n+1,e,he=>fun r b r' ht h=>by
  unfold chainF at h
  split at h
  ·cases h;exact ⟨he,ht⟩
  ·exact SmP.bind hp (fun a ha=>b6V hp n _ (b3m e0 (by decide) (b8Q he ha))) _ _ _ ht.tail h
theorem b6W{s:ByteArray}{k:Int}{part:PM PT}(hp:SmP Sm part):∀(n:Nat)(e:PT),Sm e→SmP Sm (joinsF s k part n e)
 | 0,e,he=>fun r b r' ht h=>by cases h;exact ⟨he,ht⟩
 | n+1,e,he=>fun r b r' ht h=>by
  unfold joinsF at h
  split at h
  ·exact SmP.bind hp (fun a ha=>b6W hp n _ (b5o O3 (b8Q he ha))) _ _ _ ht.tail h
  ·cases h;exact ⟨he,ht⟩
theorem b0d{w:List Tok→Int}{part:PM PT}(hp:SmP Sm part):SmP Sm (chainP w part):=hp.bind fun e he r _ _ ht h=>b6V hp r.length e he _ _ _ ht h
theorem b0e{s:ByteArray}{k:Int}{part:PM PT}(hp:SmP Sm part):SmP Sm (joinsP s k part):=hp.bind fun e he r _ _ ht h=>b6W hp r.length e he _ _ _ ht h
theorem c6D{f:PM PT}(hf:SmP Sm f):SmP Sm (factS f):=fun r a r' ht h=>by
 have he:SmP Sm (exprOf f):=b0d (b0d hf)
 have t1:=ht.hd
 unfold factS at h
 split at h
 ·cases h
 split at h
 ·exact (hf.bind fun e h=>a2Z (b3m e0 (by decide) (a7b h))) _ _ _ ht.tail h
 split at h
 ·exact (he.bind fun e h=>(a3T _).bind fun _ _=>a2Z h) _ _ _ ht.tail h
 split at h
 ·cases h;exact ⟨b3m e0 (by decide) O3,ht.tail⟩
 split at h
 ·cases h;exact ⟨b3m e0 t1.2 O3,ht.tail⟩
 split at h
 ·exact (he.bind fun e h=>(a3T _).bind fun _ _=>a2Z (b3m t1.1 (by decide) (a7b h))) _ _ _ ht.tail.tail h
 ·cases h;exact ⟨b3m t1.1 (by decide) O3,ht.tail⟩
theorem b8R:∀g,SmP Sm (factP g)
 | 0=>b6h _
 | g+1=>c6D (b8R g)
theorem b4m(g:Nat):SmP Sm (exprP g):=b0d (b0d (b8R g))
theorem c9w:SmP (fun _=>True) relP:=fun r a r' ht h=>by
 unfold relP at h
 split at h
 ·cases h
 ·cases h;exact ⟨trivial,ht.tail⟩
theorem c9x{l ex:PM PT}(hl:SmP Sm l)(hx:SmP Sm ex):SmP Sm (litS l ex):=fun r a r' ht h=>by
 have hc:SmP Sm (condOf l):=b0e (b0e hl)
 unfold litS at h
 split at h
 ·cases h
 split at h
 ·cases h;exact ⟨b5o O3 O3,ht.tail⟩
 split at h
 ·cases h;exact ⟨b5o O3 O3,ht.tail⟩
 split at h
 ·exact (hl.bind fun e h=>a2Z (b5o O3 (a7b h))) _ _ _ ht.tail h
 split at h
 ·exact (hc.bind fun e h=>(a3T _).bind fun _ _=>a2Z h) _ _ _ ht.tail h
 ·exact (hx.bind fun a ha=>c9w.bind fun _ _=>hx.bind fun b hb=>a2Z (b5o (b8Q ha hb) O3)) _ _ _ ht h
theorem c1h:∀g,SmP Sm (litP g)
 | 0=>b6h _
 | g+1=>c9x (c1h g) (b4m _)
theorem c6E(g:Nat):SmP Sm (condP g):=b0e (b0e (c1h g))
def SmL(l:List PT):Prop:=∀t∈l,Sm t
theorem b2y{stop:List Tok→Bool}{st:PM PT}(hs:SmP Sm st):∀(n:Nat)(l:List PT),SmL l→SmP SmL (stmtsF stop st n l)
 | 0,l,hl=>fun r b r' ht h=>by cases h;exact ⟨hl,ht⟩
 | n+1,l,hl=>fun r b r' ht h=>by
  unfold stmtsF at h
  split at h
  ·cases h;exact ⟨hl,ht⟩
  ·exact SmP.bind hs (fun a ha=>b2y hs n _ fun t ht=>by
    rcases List.mem_append.1 ht with q | q
    ·exact hl t q
    ·rw [List.mem_singleton.1 q];exact ha) _ _ _ ht h
theorem c2t{st:PM PT}(hs:SmP Sm st):SmP SmL (blockOf st):=(a3T _).bind fun _ _=>SmP.bind (G:=SmL) (fun r _ _ ht h=>b2y hs r.length [] O3 _ _ _ ht h) fun l hl r _ r' ht h=>by
 cases h;exact ⟨hl,ht.tail⟩
theorem b3n{s:PT}(h:Sm s):SmP Sm (endS s):=(a3T _).bind fun _ _=>a2Z h
theorem c1i{k:Int}{s:ByteArray}{es:List PT}{ex:PM PT}(hs:s.size≤65536)(he:SmL es)(hx:SmP Sm ex):SmP Sm (setS k s es ex):=(a3T _).bind fun _ _=>hx.bind fun e h=>b3n (b1C hs (fun t ht=>by
 rcases List.mem_append.1 ht with q | q
 ·exact he t q
 ·rw [List.mem_singleton.1 q];exact h) O3 O3 O3)
theorem c6F{st sub ex co:PM PT}(hs:SmP Sm st)(hb:SmP Sm sub)(hx:SmP Sm ex)(hc:SmP Sm co):SmP Sm (stmtS st sub ex co):=fun r a r' ht h=>by
 have t1:=ht.hd
 have hbl:=c2t hs
 unfold stmtS at h
 split at h
 ·cases h
 split at h
 ·split at h
  ·exact (hb.bind fun e h=>(a3T _).bind fun _ _=>c1i t1.1 (a7b h) hx) _ _ _ ht.tail.tail h
  ·exact c1i t1.1 O3 hx _ _ _ ht.tail h
 split at h
 ·refine (hc.bind fun c hc'=>hbl.bind fun th hth r1 a1 r2 ht1 h1=>?_) _ _ _ ht.tail h
  split at h1
  ·exact (hbl.bind fun el hel=>a2Z (b1C e0 O3 (a7b hc') hth hel)) _ _ _ ht1.tail h1
  ·cases h1;exact ⟨b1C e0 O3 (a7b hc') hth O3,ht1⟩
 split at h
 ·exact (hc.bind fun c hc'=>hbl.bind fun th hth=>a2Z (b1C e0 O3 (a7b hc') hth O3)) _ _ _ ht.tail h
 split at h
 ·exact (hc.bind fun c hc'=>b3n (b1C e0 O3 (a7b hc') O3 O3)) _ _ _ ht.tail h
 split at h
 ·exact (hc.bind fun c hc'=>b3n (b1C e0 O3 (a7b hc') O3 O3)) _ _ _ ht.tail h
 ·exact b3n (b1C e0 O3 O3 O3 O3) _ _ _ ht.tail h
theorem b8S:∀g,SmP Sm (stmtP g)
 | 0=>b6h _
 | g+1=>c6F (b8S g) (b4m _) (b4m _) (c6E _)
abbrev toks(s:ByteArray):List Tok:=(tkS s).1.map tkv
def ansR{β:Type}(p:PM β)(chk:β→Int)(s:ByteArray):Except Flt β:=if (tkS s).2.2=0 then readsR p chk (toks s) else .error ((tkS s).2.2,plv (tkS s).2.1)
def Ans{α β:Type}(H:Hp)(z:α)(RR:Hp→α→β→Prop)(o:Except Flt β)(K:α→c8→Int→Hp→Prop):Prop:=match o with
 | .error (c,q)=>∀H',Hle H H'→K z q c H'
 | .ok b=>∀H' v,Hle H H'→RR H' v b→K v ⟨0,0⟩ 0 H'
section
variable {H:Hp}{s:ByteArray}
theorem Ans.rd{α β:Type}{z:α}{RR:Hp→α→β→Prop}{p:PM β}{chk:β→Int}{K:α→c8→Int→Hp→Prop}(h:Ans H z RR (ansR p chk s) K)(he:(tkS s).2.2=0):Ans H z RR (readsR p chk (toks s)) K:=by
 unfold ansR at h
 rw [if_pos he] at h
 exact h
end
set_option maxHeartbeats 2000000
abbrev zP:g9:=g9.mk (Sl.mk none 0 0) (Sl.mk none 0 0)
abbrev chkP(q:PP):Int:=toldS q.nodes
theorem d3o{q:PP}(h2:toldS q.nodes≠32)(h3:toldS q.nodes≠33):fewP q=true:=by
 rw [←c0O,show vEnd (allV q)=toldS q.nodes from b3i _,decide_eq_false h2,decide_eq_false h3]
 rfl
abbrev gD(d:i6):Prop:=d.o8.size≤65536
theorem c6G(arr:Bool):SmP gD (declP arr):=fun r a r' ht h=>by
 have t1:=ht.hd
 unfold declP at h
 split at h
 ·cases h
 split at h
 ·refine (SmP.bind (G2:=gD) (a3T _) fun _ _ r1 a1 r2 ht1 h1=>?_) _ _ _ ht.tail h
  split at h1
  ·cases h1
  ·exact ((a3T _).bind fun _ _=>(a3T _).bind fun _ _=>a2Z (G:=gD) t1.1) _ _ _ ht1.tail h1
 ·exact ((a3T _).bind fun _ _=>a2Z (G:=gD) t1.1) _ _ _ ht.tail h
theorem b6X:∀(n:Nat)(l:List i6),(∀d∈l,d.o8.size≤65536)→SmP (fun l:List i6=>∀d∈l,d.o8.size≤65536) (declsF n l)
 | 0,l,hl=>fun r b r' ht h=>by cases h;exact ⟨hl,ht⟩
 | n+1,l,hl=>fun r b r' ht h=>by
  unfold declsF at h
  split at h
  ·exact SmP.bind (c6G _) (fun a ha=>b6X n _ fun t ht=>by
    rcases List.mem_append.1 ht with q | q
    ·exact hl t q
    ·rw [List.mem_singleton.1 q];exact ha) _ _ _ ht.tail h
  ·cases h;exact ⟨hl,ht⟩
theorem b8T:SmP PP.Sm progP:=SmP.bind (G:=fun l:List i6=>∀d∈l,d.o8.size≤65536) (fun r _ _ ht h=>b6X r.length [] (fun _ q=>(by cases q)) _ _ _ ht h) fun ds hd=>SmP.bind (G:=SmL) (fun r _ _ ht h=>b2y (b8S 40) r.length [] O3 _ _ _ ht h) fun b hb=>a2Z fun t ht=>by
 unfold PP.nodes at ht
 rcases List.mem_append.1 ht with q | q
 ·obtain ⟨u,hu,rfl⟩:=List.mem_map.1 q
  exact .mk ⟨by show u.o8.size≤sml;have:=hd u hu;simp only [sml];omega,by show a1M 0;decide⟩ O3
 ·exact hb t q
section
variable {H:Hp}{s:ByteArray}
theorem b4n(hT:TabsH H)(hE:ErrH H)(hs4:s.size≤4194304){K:g9→c8→Int→Hp→Prop}(h:Ans H zP PH (ansR progP chkP s) K):X2 s H K:=by
 refine b1i _ ?_
 unfold a6M
 refine c2r (p:=progP) (chk:=chkP) (RR:=PH) (toks:=toks s) (pl:=plv (tkS s).2.1) (er:=(tkS s).2.2) (c4x hT hE hs4 fun e H' l hs=>⟨l,hs,rfl,rfl⟩) (fun he=>⟨(b5n he).1,(b5n he).2.1⟩) (fun rd k=>c9u rd k) (fun{H' v b r'} he l eo ra=>?_) (fun l ra=>ra.le l) (fun he H' l=>?_) (fun he c q eo H' l=>?_) fun he b eo H' v l ra=>?_
 ·exact b4e (hT.le l) ra (b8T _ _ _ (b5n he).2.2 eo).1 fun H'' l2=>⟨l2,b3i _⟩
 ·unfold ansR at h;rw [if_neg he] at h;exact h H' l
 ·have h:=h.rd he;rw [eo] at h;exact h H' l
 ·have h:=h.rd he;rw [eo] at h;exact h H' v l ra
end
def Dr(s:ByteArray)(p:Nat)(l:List UInt8):Prop:=s.data.toList.drop p=l
section
variable {s:ByteArray}
theorem Dr.cons{p:Nat}{c:UInt8}{l:List UInt8}(h:Dr s p (c::l)):p < s.size∧s.get! p=c∧Dr s (p+1) l:=by
 unfold Dr at h ⊢
 have hp:p < s.size:=by
  rcases Nat.lt_or_ge p s.size with q | q
  ·exact q
  ·rw [List.drop_eq_nil_of_le (by rw [Array.length_toList];exact q)] at h;cases h
 rw [a6s hp] at h
 injection h with h1 h2
 exact ⟨hp,h1,h2⟩
theorem Dr.app:∀(l r:List UInt8){p:Nat},Dr s p (l++r)→Dr s (p+l.length) r
 | [],_,_,h=>h
 | c::l,r,p,h=>by
  have:=Dr.app l r h.cons.2.2
  rw [List.length_cons,show p+(l.length+1)=p+1+l.length by omega]
  exact this
theorem Dr.nil{p:Nat}(h:Dr s p []):s.size≤p:=by
 unfold Dr at h
 have:=congrArg List.length h
 rw [List.length_drop,Array.length_toList,List.length_nil] at this
 have e:s.data.size=s.size:=rfl
 omega
theorem Dr.le{p:Nat}{l:List UInt8}(h:Dr s p l)(hp:p≤s.size):p+l.length=s.size:=by
 unfold Dr at h
 have:=congrArg List.length h
 rw [List.length_drop,Array.length_toList] at this
 have e:s.data.size=s.size:=rfl
 omega
theorem Dr.asc{p:Nat}{c:UInt8}{l:List UInt8}(h:Dr s p (c::l))(hc:c.toNat < 128):rn s p=(c.toNat:Int)∧wd s p=1:=by
 have h1:=h.cons.2.1
 have:=a6e (s:=s) (p:=p) (by unfold by8;rw [h1];exact hc)
 unfold by8 at this
 rw [h1] at this
 exact this
theorem Dr.by8{p:Nat}{c:UInt8}{l:List UInt8}(h:Dr s p (c::l)):by8 s p=c.toNat:=by
 show (s.get! p).toNat=_
 rw [h.cons.2.1]
theorem chkN{p:Nat}(hp:p < s.size)(h:rn s p≠65533):chkAt s p=chkAt s (p+wd s p):=by
 rw [a3p s p hp,if_neg (fun x=>h (by show ((Utf8.decode s p).1:Int)=65533;rw [x.1];rfl))]
theorem Dr.cut(w:List UInt8){r:List UInt8}{p:Nat}(h:Dr s p (w++r)):s.extract p (p+w.length)=⟨w.toArray⟩:=by
 apply ByteArray.ext
 apply Array.toList_inj.1
 rw [a3x,show p+w.length-p=w.length by omega]
 have:s.data.toList.drop p=w++r:=h
 rw [this,List.take_left']
 rfl
def lineL(w:List UInt8):Bool:=w.all fun c=>decide (c.toNat < 128) && !decide (c.toNat=10)
theorem c1j:∀(w:List UInt8){r:List UInt8}{p:Nat}{a:Int×Int},lineL w=true→Dr s p (w++r)→Go2 s p a (p+w.length) (a.1,a.2+w.length)∧chkAt s p=chkAt s (p+w.length)
 | [],r,p,a,_,h=>by
  refine ⟨?_,rfl⟩
  rw [show (a.1,a.2+(([]:List UInt8).length:Int))=a from Prod.ext rfl (by simp)]
  exact .refl
 | c::w,r,p,a,hw,h=>by
  unfold lineL at hw
  rw [List.all_cons,Bool.and_eq_true,Bool.and_eq_true,decide_eq_true_eq,Bool.not_eq_true',decide_eq_false_iff_not] at hw
  obtain ⟨⟨w1,w2⟩,w3⟩:=hw
  obtain ⟨p0,_,h1⟩:=h.cons
  obtain ⟨r0,w0⟩:=h.asc w1
  have g0:=Go2.one (s:=s) (a:=a) p0
  rw [w0,r0] at g0
  have e:stepP a (c.toNat:Int)=(a.1,a.2+1):=by unfold stepP;rw [if_neg (by omega)]
  rw [e] at g0
  obtain ⟨i1,i2⟩:=c1j w (a:=(a.1,a.2+1)) w3 h1
  rw [show p+(c::w).length=p+1+w.length by rw [List.length_cons];omega]
  refine ⟨?_,?_⟩
  ·have:=g0.trans i1
   rw [show ((a.1,a.2+1):Int×Int).2+(w.length:Int)=a.2+((c::w).length:Int) by rw [List.length_cons];show a.2+1+(w.length:Int)=_;omega] at this
   exact this
  ·rw [chkN p0 (by rw [r0];omega),w0];exact i2
end
theorem c6H(l:List UInt8):(⟨l.toArray⟩:ByteArray).size=l.length:=by show l.toArray.size=_;simp
inductive Pc where
 | sg (c:UInt8)
 | dg (c:UInt8)
 | wd (w:List UInt8) (k:Int)
 | sp
def Pc.by_:Pc→List UInt8
 | .sg c=>[c]
 | .dg c=>[c]
 | .wd w _=>w
 | .sp=>[32]
def Pc.tk(p:Nat):Pc→List Tk
 | .sg c=>[⟨4,⟨#[c]⟩,0,(1,(p:Int)+1)⟩]
 | .dg c=>[⟨2,⟨#[c]⟩,(c.toNat:Int)-48,(1,(p:Int)+1)⟩]
 | .wd w k=>[⟨k,⟨w.toArray⟩,0,(1,(p:Int)+1)⟩]
 | .sp=>[]
def offB(d:Option UInt8):Bool:=match d with
 | none=>true
 | some c=>decide (c.toNat < 128) && !goesS c.toNat
def Pc.ok(d:Option UInt8):Pc→Bool
 | .sg c=>(decide (c.toNat < 128)&&decide (classS c.toNat=5))&&((!decide (c.toNat=38) && !decide (c.toNat=124)) && !decide (d=some 61))
 | .dg c=>(decide (48≤c.toNat)&&decide (c.toNat≤57))&&offB d
 | .wd w k=>((lineL w&&w.all fun c=>goesS c.toNat)&&(decide (w.length≤32)&&decide (classS (w.headD 0).toNat=3)))&&(decide (k=if wordS ⟨w.toArray⟩ then 3 else 1)&&offB d)
 | .sp=>true
section
variable {s:ByteArray}
theorem b8U{p:Nat}{r:List UInt8}(h:Dr s p r)(ho:offB r.head? = true)(hp:p≤s.size):¬(p < s.size∧goesS (rn s p)=true)∧¬(p < s.size∧48≤by8 s p∧by8 s p≤57)∧¬(p < s.size∧classS (rn s p)=3):=by
 cases r with
 | nil=>
  have:=h.nil
  exact ⟨fun x=>by omega,fun x=>by omega,fun x=>by omega⟩
 | cons c r=>
  have ho:(decide (c.toNat < 128) && !goesS c.toNat)=true:=ho
  rw [Bool.and_eq_true,decide_eq_true_eq,Bool.not_eq_true'] at ho
  obtain ⟨o1,o2⟩:=ho
  have r0:=(h.asc o1).1
  have hb:=h.by8
  have o3:=o2
  unfold goesS at o3
  rw [Bool.or_eq_false_iff,decide_eq_false_iff_not,decide_eq_false_iff_not] at o3
  refine ⟨fun x=>?_,fun x=>?_,fun x=>?_⟩
  ·rw [r0,o2] at x;exact absurd x.2 (by decide)
  ·have x2:=x.2
   rw [hb] at x2
   refine o3.2 ?_
   have hall:∀n:Nat,n < 58→48≤n→classS (n:Int)=4:=by decide
   exact hall _ (by omega) x2.1
  ·rw [r0] at x;exact o3.1 x.2
end
def TkG(t:Tok):Prop:=(t.d6=1→nameS t.E1=true)∧0≤t.M4
def GdK(r:List Tok):Prop:=∀t∈r,TkG t
theorem GdK.tail{r:List Tok}(h:GdK r):GdK r.tail:=fun t ht=>h t (List.mem_of_mem_tail ht)
theorem GdK.hd{r:List Tok}(h:GdK r):TkG (hd r):=by
 cases r with
 | nil=>exact ⟨fun e=>absurd e (by decide),by decide⟩
 | cons t r=>exact h t (by simp)
section
variable {s:ByteArray}
theorem dL{p:Nat}(hp:p < s.size):Lib.decodeL (s.data.toList.drop p)=Utf8.decode s p:=by
 unfold Lib.decodeL
 have e:(⟨(s.data.toList.drop p).toArray⟩:ByteArray)=s.extract p s.size:=by
  apply ByteArray.ext
  apply Array.toList_inj.1
  rw [a3x]
  rw [List.take_of_length_le (by rw [List.length_drop,Array.length_toList];exact Nat.le_refl _)]
 rw [e]
 exact b4h hp
theorem c4H:∀(n p:Nat),s.size-p≤n→p≤s.size→Lib.validD (s.data.toList.drop p)=(chkAt s p).isNone:=by
 intro n
 induction n with
 | zero=>
  intro p h hp
  have:p=s.size:=by omega
  subst this
  have e:s.data.toList.drop s.size=[]:=List.drop_eq_nil_of_le (by rw [Array.length_toList];exact Nat.le_refl _)
  rw [a0x s _ (Nat.le_refl _),e]
  rfl
 | succ n ih=>
  intro p h hp
  by_cases c:p < s.size
  ·rw [Lib.validD_step _ (by rw [a6s c];exact List.cons_ne_nil _ _),dL c,a3p s p c,List.drop_drop]
   by_cases hb:bad s p
   ·rw [if_pos hb,if_pos (show (Utf8.decode s p).1=65533∧(Utf8.decode s p).2=1 from hb)];rfl
   ·rw [if_neg hb,if_neg (show ¬((Utf8.decode s p).1=65533∧(Utf8.decode s p).2=1) from hb)]
    have:=O2 s p
    exact ih _ (by show s.size-(p+wd s p)≤n;omega) (a5y c)
  ·have:p=s.size:=by omega
   subst this
   have e:s.data.toList.drop s.size=[]:=List.drop_eq_nil_of_le (by rw [Array.length_toList];exact Nat.le_refl _)
   rw [a0x s _ (Nat.le_refl _),e]
   rfl
theorem c6I{p e:Nat}(he:e≤s.size):∀(n q:Nat)(a:Int×Int),e-q≤n→p≤q→q≤e→(Wr s goesS q a).1=e→
  chkAt (s.extract p e) (q-p)=none∧((p < q∨classS (rn s q)=3)→nameAt (s.extract p e) ((s.extract p e).size-(q-p)) (q-p)=true):=by
 intro n
 induction n with
 | zero=>
  intro q a h hp hq hw
  have hz:=a4k (s:=s) (p:=p) (e:=e) (by omega) he
  exact ⟨a0x _ _ (by omega),fun _=>b1v (by omega) _⟩
 | succ n ih=>
  intro q a h hp hq hw
  have hz:=a4k (s:=s) (p:=p) (e:=e) (by omega) he
  by_cases cq:q=e
  ·exact ⟨a0x _ _ (by omega),fun _=>b1v (by omega) _⟩
  ·by_cases c:q < s.size∧goesS (rn s q)=true
   ·rw [a1J c.1 c.2] at hw
    have hle:=(a3I (s:=s) goesS _ (q+wd s q) (stepP a (rn s q)) (Nat.le_refl _)).le
    rw [hw] at hle
    have hwp:=O2 s q
    have hd:=b1x (s:=s) (p:=p) (e:=e) (i:=q-p) he (by omega) (by rw [show p+(q-p)=q by omega];exact hle)
    rw [show p+(q-p)=q by omega] at hd
    obtain ⟨i1,i2⟩:=ih (q+wd s q) (stepP a (rn s q)) (by omega) (by omega) hle hw
    rw [show q+wd s q-p=q-p+wd s q by omega] at i1 i2
    have hlt:q-p < (s.extract p e).size:=by omega
    refine ⟨?_,fun hc=>?_⟩
    ·rw [a3p _ _ hlt,if_neg (fun x=>?_),hd]
     ·exact i1
     ·unfold bad at x
      rw [hd] at x
      have x1:rn s q=65533:=by show ((Utf8.decode s q).1:Int)=65533;rw [x.1];rfl
      rw [x1] at c
      exact absurd c.2 (by decide)
    ·have hn:¬(q-p=0∧classS ((Utf8.decode s q).1:Int)≠3):=fun x=>by
      rcases hc with hc | hc
      ·omega
      ·exact x.2 hc
     rw [a7T hlt,hd,if_pos ⟨c.2,hn⟩]
     exact i2 (.inl (by omega))
   ·rw [W2 c] at hw
    exact absurd hw cq
theorem c6J{p:Nat}(hp:p < s.size)(h:(oneO s p).err=0):((oneO s p).kind=1→nameS (oneO s p).text=true)∧0≤(oneO s p).num:=by
 unfold oneO at h ⊢
 by_cases c3:classS (rn s p)=3
 ·rw [if_pos c3] at h ⊢
  unfold wordO at h ⊢
  split at h
  ·rename_i d
   rw [if_pos d]
   exact ⟨fun x=>absurd x (by show ¬(3:Int)=1;decide),by show (0:Int)≤0;decide⟩
  rename_i d
  rw [if_neg d]
  split at h
  ·cases h
  rename_i d2
  rw [if_neg d2]
  refine ⟨fun _=>?_,by show (0:Int)≤0;decide⟩
  show nameS (s.extract p (Wr s goesS p (0,0)).1)=true
  have hr:=b3J (s:=s) (is:=goesS) (a:=(0,0)) (Nat.le_of_lt hp)
  have hg:=a3I (s:=s) goesS _ p (0,0) (Nat.le_refl _)
  have hez:=hg.size (Nat.le_of_lt hp)
  obtain ⟨n1,n2⟩:=c6I (s:=s) (p:=p) hez _ p (0,0) (Nat.le_refl _) (Nat.le_refl _) hg.le rfl
  rw [Nat.sub_self,Nat.sub_zero] at n2
  rw [Nat.sub_self] at n1
  have hlt:p < (Wr s goesS p (0,0)).1:=by
   rw [a1J hp (by unfold goesS;rw [decide_eq_true c3];rfl)]
   have:=(a3I (s:=s) goesS _ (p+wd s p) (stepP (0,0) (rn s p)) (Nat.le_refl _)).le
   have:=O2 s p
   omega
  have hz:=a4k hg.le hez
  have hne:s.extract p (Wr s goesS p (0,0)).1≠⟨#[]⟩:=fun x=>by
   rw [x] at hz
   have:(⟨#[]⟩:ByteArray).size=0:=rfl
   omega
  have hv:=c4H (s:=s.extract p (Wr s goesS p (0,0)).1) _ 0 (Nat.le_refl _) (Nat.zero_le _)
  rw [n1,List.drop_zero] at hv
  unfold nameS
  rw [if_neg,n2 (.inr c3)]
  rw [hr,hv,decide_eq_false hne]
  simp only [Bool.not_eq_true] at d
  rw [d,decide_eq_false (by omega)]
  decide
 rw [if_neg c3] at h ⊢
 split at h
 ·rename_i c4
  rw [if_pos c4]
  unfold numO at h ⊢
  split at h
  ·cases h
  rename_i d
  rw [if_neg d]
  exact ⟨fun x=>absurd x (by show ¬(2:Int)=1;decide),by show (0:Int)≤((dg s p 0).2:Int);omega⟩
 rename_i c4
 rw [if_neg c4]
 split at h
 ·rename_i c5
  rw [if_pos c5]
  unfold signO at h ⊢
  split at h
  ·rename_i d
   rw [if_pos d]
   exact ⟨fun x=>absurd x (by show ¬(4:Int)=1;decide),by show (0:Int)≤0;decide⟩
  rename_i d
  rw [if_neg d]
  split at h
  ·cases h
  rename_i d2
  rw [if_neg d2]
  exact ⟨fun x=>absurd x (by show ¬(4:Int)=1;decide),by show (0:Int)≤0;decide⟩
 ·cases h
theorem c4I:∀(f p:Nat)(a:Int×Int)(out:List Tk),p≤s.size→(∀t∈out,(t.kind=1→nameS t.text=true)∧0≤t.num)→∀t∈(tkF s f p a out).1,(t.kind=1→nameS t.text=true)∧0≤t.num
 | 0,p,a,out,_,_=>fun t ht=>by cases ht
 | f+1,p,a,out,hp,ho=>by
  have hk:=b3e hp
  rw [tkF]
  by_cases c:¬sk s p < s.size
  ·rw [if_pos c]
   intro t ht
   rcases List.mem_append.1 ht with q | q
   ·exact ho t q
   ·rw [List.mem_singleton.1 q]
    exact ⟨fun x=>absurd x (by show ¬(5:Int)=1;decide),by show (0:Int)≤0;decide⟩
  rw [if_neg c]
  by_cases c2:out.length=32768
  ·rw [if_pos c2];exact fun t ht=>by cases ht
  rw [if_neg c2]
  by_cases c3:(oneO s (sk s p)).err≠0
  ·rw [if_pos c3];exact fun t ht=>by cases ht
  rw [if_neg c3]
  have c3':(oneO s (sk s p)).err=0:=Classical.byContradiction c3
  have hps:sk s p < s.size:=Classical.byContradiction c
  have hst:=a9H hps c3'
  refine c4I f _ _ _ hst.2 fun t ht=>?_
  rcases List.mem_append.1 ht with q | q
  ·exact ho t q
  ·rw [List.mem_singleton.1 q]
   exact c6J hps c3'
theorem c9y:GdK (toks s):=fun t ht=>by
 obtain ⟨u,hu,rfl⟩:=List.mem_map.1 ht
 unfold tkS at hu
 split at hu
 ·cases hu
 split at hu
 ·cases hu
 ·exact c4I _ _ _ _ (Nat.zero_le _) (fun t ht=>by cases ht) u hu
end
end Go.Proofs.YtoflkliecagjcaaGreatDoor
