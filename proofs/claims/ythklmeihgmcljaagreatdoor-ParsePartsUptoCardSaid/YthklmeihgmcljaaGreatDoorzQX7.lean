/- Parsing: the document's reader answers what the plain one does: expressions and conditions. Contracts off the printed formulas. -/
import Derived.Test.YthklmeihgmcljaaGreatDoorzQX6
namespace Go.Proofs.YthklmeihgmcljaaGreatDoor
open Go.RowKit
set_option maxRecDepth 100000
set_option maxHeartbeats 2000000
abbrev RD4:=b8
def Rd4 (H:Hp) (x:RD4) (r:List Tok):Prop:=∃(ts:List Tok) (n:Nat),SlH H 5 f9 x.fl ts∧ts.length≤big∧x.fat=(n:Int)∧ts.drop n=r∧WfT r
def Rg (H:Hp) (x:RD4) (r:List Tok):Prop:=Rd4 H x r∧x.fbad=0
def Rb (H:Hp) (x:RD4) (c:Int) (p:b7):Prop:=(∃r,Rd4 H x r)∧x.fbad=c∧x.fpos=p∧c≠0
def R1 {α β:Type} (H:Hp) (x:RD4) (R:Hp→α→β→Prop) (o:Except Flt (β×List Tok)) (K:α→RD4→Hp→Prop):Prop:=match o with
 | .ok (b,r')=>∀(H':Hp) (v:α) (x':RD4),Hle H H'→R H' v b→Rg H' x' r'→x'.fl=x.fl→K v x' H'
 | .error (c,p)=>∀(H':Hp) (v:α) (x':RD4),Hle H H'→Rb H' x' c p→x'.fl=x.fl→K v x' H'
theorem b7Z {s s':ByteArray} {r:List Tok} (h:isT s r=true) (hs:s≠s'):isT s' r=false:=by
 unfold isT
 rw [c5Z h,decide_eq_false hs,Bool.and_false]
section
variable {H H':Hp} {x:RD4} {r:List Tok} {c:Int} {p:b7}
theorem Rd4.le (l:Hle H H') (h:Rd4 H x r):Rd4 H' x r:=by
 obtain ⟨ts,n,a,b,c,d,e⟩:=h
 exact ⟨ts,n,a.le l,b,c,d,e⟩
theorem Rg.le (h:Rg H x r) (l:Hle H H'):Rg H' x r:=⟨h.1.le l,h.2⟩
theorem Rb.le (h:Rb H x c p) (l:Hle H H'):Rb H' x c p:=⟨⟨_,h.1.choose_spec.le l⟩,h.2⟩
theorem Rb.bad (h:Rb H x c p):x.fbad≠0:=by rw [h.2.1];exact h.2.2.2
theorem Rg.wf (h:Rg H x r):WfT r:=by obtain ⟨⟨_,_,_,_,_,_,e⟩,_⟩:=h;exact e
theorem Rg.big (h:Rg H x r):r.length≤1099511627776:=by
 obtain ⟨⟨ts,n,_,b,_,d,_⟩,_⟩:=h
 rw [←d,List.length_drop]
 simp only [Go.Proofs.YthklmeihgmcljaaGreatDoor.big] at b
 omega
theorem Rg.len (h:Rg H x r):((x.fl.n:Int)-x.fat).toNat=r.length:=by
 obtain ⟨⟨ts,n,a,_,c,d,_⟩,_⟩:=h
 have:=a.1
 rw [←d,c,List.length_drop]
 omega
theorem Rg.up (h:Rg H x r) (hk:(hd r).d8≠5):Rg H (b8.mk x.fl (IntKind.wrap .i64 (x.fat+1)) x.fbad x.fpos) r.tail:=by
 obtain ⟨⟨ts,n,a,b,c,d,e⟩,hb⟩:=h
 have hn:n < ts.length:=V1 (drop_at d e.ne)
 refine ⟨⟨ts,n+1,a,b,?_,b7V d,e.tail hk⟩,hb⟩
 simp only [Go.Proofs.YthklmeihgmcljaaGreatDoor.big] at b
 show IntKind.wrap .i64 (x.fat+1)=_
 rw [c,y4 ⟨by omega,by omega⟩]
 omega
theorem a9M (h:Rd4 H x r) {K:b6→Hp→Prop} (k:K (hd r) H):K9 x H K:=by
 obtain ⟨ts,n,a,b,c,d,e⟩:=h
 refine a8H _ ?_
 unfold a1N
 have ha:=drop_at d e.ne
 have hn:=V1 ha
 have:=a.1
 rw [c]
 obtain ⟨y,hy,hE⟩:=a.get (i:=(n:Int)) (by omega) (by omega)
 rw [Int.toNat_natCast,ha] at hy
 cases hy
 exact ⟨by omega,by omega,_,hE,k⟩
theorem b0l (h:Rg H x r) {s:ByteArray} {K:Bool→Hp→Prop} (k:K (isT s r) H):l8 x s H K:=by
 refine a5P _ _ (a9M h.1 ?_)
 rw [h.2]
 exact k
theorem a8C (h:Rb H x c p) {s:ByteArray} {K:Bool→Hp→Prop} (k:K false H):l8 x s H K:=by
 refine a5P _ _ (a9M h.1.choose_spec ?_)
 rw [decide_eq_false h.bad]
 exact k
theorem a5X (h:Rg H x r) {s:ByteArray} {K:Bool→RD4→Hp→Prop} (h1:isT s r=true→∀x',Rg H x' r.tail→x'.fl=x.fl→K true x' H) (h0:isT s r=false→K false x H):m6 x s H K:=by
 refine a5B _ _ (b0l h ⟨fun c=>h0 (by simpa using c),fun c=>?_⟩)
 have c':isT s r=true:=by simpa using c
 exact h1 c' _ (h.up (a6I c')) rfl
theorem b1D (h:Rb H x c p) {s:ByteArray} {K:Bool→RD4→Hp→Prop} (k:K false x H):m6 x s H K:=
 a5B _ _ (a8C h ⟨fun _=>k,fun q=>(by cases q)⟩)
theorem a7x (h:Rg H x r) (hc:c≠0) {K:RD4→Hp→Prop} (k:∀x',Rb H x' c (hd r).fAt→x'.fl=x.fl→K x' H):p8 x c H K:=by
 refine a4q _ _ ⟨fun _=>?_,fun q=>absurd h.2 q⟩
 have h':Rd4 H (b8.mk x.fl x.fat c x.fpos) r:=h.1
 exact a9M h' (k _ ⟨⟨r,h.1⟩,rfl,rfl,hc⟩ rfl)
theorem b8a (h:Rb H x c p) {e:Int} {K:RD4→Hp→Prop} (k:K x H):p8 x e H K:=a4q _ _ ⟨fun q=>absurd q h.bad,fun _=>k⟩
theorem b4l (h:Rb H x c p) {s:ByteArray} {K:RD4→Hp→Prop} (k:K x H):B7 x s H K:=
 a4T _ _ (b1D h ⟨fun _=>b8a h k,fun q=>(by cases q)⟩)
theorem R1.next {α β γ:Type} {x':RD4} {R:Hp→α→β→Prop} {o:Except Flt (β×List Tok)} {K:α→RD4→Hp→Prop} (l:Hle H H') (e:x'.fl=x.fl) (h:R1 H x R o K):R1 H' x' R o K:=by
 cases o with
 | error y=>exact fun H2 v x2 l2 rb e2=>h H2 v x2 (l.trans l2) rb (e2.trans e)
 | ok y=>exact fun H2 v x2 l2 ra rd e2=>h H2 v x2 (l.trans l2) ra rd (e2.trans e)
theorem R1.bind {α β γ δ:Type} {R:Hp→α→β→Prop} {R2:Hp→γ→δ→Prop} {q:PM β} {f:β→PM δ} {K:γ→RD4→Hp→Prop} {K1:α→RD4→Hp→Prop} (k:R1 H x R2 (bindP q f r) K)
  (h:∀b r' H' v x',q r=.ok (b,r')→Hle H H'→R H' v b→Rg H' x' r'→x'.fl=x.fl→R1 H' x' R2 (f b r') K→K1 v x' H')
  (hb:∀c p H' v x',Hle H H'→Rb H' x' c p→(∀H'' w,Hle H' H''→K w x' H'')→q r=.error (c,p)→x'.fl=x.fl→K1 v x' H'):R1 H x R (q r) K1:=by
 cases hp:q r with
 | error y=>
  rw [L5 hp] at k
  exact fun H' v x' l rb e=>hb _ _ H' v x' l rb (fun H'' w l2=>k H'' w x' (l.trans l2) (rb.le l2) e) hp e
 | ok y=>
  obtain ⟨b,r'⟩:=y
  rw [a0q hp] at k
  exact fun H' v x' l ra rd e=>h b r' H' v x' hp l ra rd e (R1.next (γ:=Unit) l e k)
theorem b3k {γ δ:Type} {R2:Hp→γ→δ→Prop} {s:ByteArray} {f:Unit→PM δ} {K:γ→RD4→Hp→Prop} {K1:RD4→Hp→Prop} (h:Rg H x r) (k:R1 H x R2 (bindP (mustP s) f r) K)
  (h1:∀r' x',Rg H x' r'→x'.fl=x.fl→R1 H x' R2 (f () r') K→K1 x' H) (hb:∀c p x',Rb H x' c p→(∀H'' w,Hle H H''→K w x' H'')→K1 x' H):B7 x s H K1:=by
 refine a4T _ _ (a5X h (fun c x' hx e=>⟨fun q=>(by cases q),fun _=>?_⟩) fun c=>⟨fun _=>a7x h (by decide) fun x' rb e=>?_,fun q=>(by cases q)⟩)
 ·have hm:mustP s r=.ok ((),r.tail):=by unfold mustP;rw [if_pos c]
  rw [a0q hm] at k
  exact h1 _ x' hx e (R1.next (γ:=Unit) (Hle.refl _) e k)
 ·have hm:mustP s r=.error (40,(hd r).fAt):=by unfold mustP;rw [if_neg (by rw [c];decide)]
  rw [L5 hm] at k
  exact hb _ _ x' rb fun H'' w l2=>k H'' w x' l2 (rb.le l2) e
theorem b0m (h:Rg H x r) {q:Prop} [Decidable q] {s:ByteArray} {K:Bool→Hp→Prop} (k:K (decide q&&isT s r) H):TG q (l8 x s H) false H K:=by
 refine ⟨fun c=>b0l h ?_,fun c=>?_⟩
 ·rw [decide_eq_true c] at k;exact k
 ·rw [decide_eq_false c] at k;exact k
theorem c2g (h:Rb H x c p) {q:Prop} {s:ByteArray} {K:Bool→Hp→Prop} (k:K false H):TG q (l8 x s H) false H K:=⟨fun _=>a8C h k,fun _=>k⟩
theorem b1W (h:Rg H x r) {K:Bool→Hp→Prop} (k:K (factB r) H):W4 x H K:=by
 refine a8f _ (a9M h.1 ?_)
 refine b0m h (b0m h (b0m h ?_))
 simp only [b4Y]
 unfold factB at k
 rw [Bool.or_right_comm] at k
 exact k
theorem b5a (h:Rg H x r) {d:Int} {K:RD4→Hp→Prop} (h1:40 < d→∀x',Rb H x' 41 (hd r).fAt→x'.fl=x.fl→K x' H) (h0:¬40 < d→K x H):G0 x d H K:=
 a8J _ _ ⟨fun c=>a7x h (by decide) fun x' rb e=>h1 c x' rb e,h0⟩
theorem c0y (h:Rg H x r) {K:Int→Hp→Prop} (k:K (whG sMul kMul r) H):Q3 x H K:=by
 refine a4t _ (b0l h ?_)
 simp only [a8r] at k
 refine ⟨fun c=>?_,fun c=>b0l h ⟨fun c2=>?_,fun c2=>b0l h ⟨fun c3=>?_,fun c3=>?_⟩⟩⟩
 ·rw [if_pos c] at k;exact k
 ·rw [if_neg (by rw [c];decide),if_pos c2] at k;exact k
 ·rw [if_neg (by rw [c];decide),if_neg (by rw [c2];decide),if_pos c3] at k;exact k
 ·rw [if_neg (by rw [c];decide),if_neg (by rw [c2];decide),if_neg (by rw [c3];decide)] at k;exact k
theorem b8b (h:Rb H x c p) {K:Int→Hp→Prop} (k:K 0 H):Q3 x H K:=
 a4t _ (a8C h ⟨fun q=>(by cases q),fun _=>a8C h ⟨fun q=>(by cases q),fun _=>a8C h ⟨fun q=>(by cases q),fun _=>k⟩⟩⟩)
end
def FactG (g:Nat) (d:Int):Prop:=∀⦃H:Hp⦄ ⦃x:RD4⦄ ⦃r:List Tok⦄ ⦃K:d6→RD4→Hp→Prop⦄,Rg H x r→R1 H x EH (factP g r) K→R5 x d H K
def TermG (g:Nat) (d:Int):Prop:=∀⦃H:Hp⦄ ⦃x:RD4⦄ ⦃r:List Tok⦄ ⦃K:d6→RD4→Hp→Prop⦄,Rg H x r→R1 H x EH (termOf (factP g) r) K→Y7 x d H K
def ExprG (g:Nat) (d:Int):Prop:=∀⦃H:Hp⦄ ⦃x:RD4⦄ ⦃r:List Tok⦄ ⦃K:d6→RD4→Hp→Prop⦄,Rg H x r→R1 H x EH (exprP g r) K→t6 x d H K
def LitG (g:Nat) (d:Int):Prop:=∀⦃H:Hp⦄ ⦃x:RD4⦄ ⦃r:List Tok⦄ ⦃K:c8→RD4→Hp→Prop⦄,Rg H x r→R1 H x CH (litP g r) K→D2 x d H K
def ConjG (g:Nat) (d:Int):Prop:=∀⦃H:Hp⦄ ⦃x:RD4⦄ ⦃r:List Tok⦄ ⦃K:c8→RD4→Hp→Prop⦄,Rg H x r→R1 H x CH (conjOf (litP g) r) K→Y8 x d H K
def CondG (g:Nat) (d:Int):Prop:=∀⦃H:Hp⦄ ⦃x:RD4⦄ ⦃r:List Tok⦄ ⦃K:c8→RD4→Hp→Prop⦄,Rg H x r→R1 H x CH (condP g r) K→G1 x d H K
theorem b8c {w:List Tok→Int} {part:PM PT} {n:Nat} {e:PT} {r:List Tok} (h:w r≠0):chainF w part (n+1) e r=bindP part (fun a=>chainF w part n (eX (w r) 0 ⟨#[]⟩ [e,a])) r.tail:=by
 conv=>lhs;unfold chainF
 rw [if_neg h]
theorem b6n {w:List Tok→Int} {part:PM PT} {n:Nat} {e:PT} {r:List Tok} (h:w r=0):chainF w part n e r=.ok (e,r):=by
 cases n with
 | zero=>rfl
 | succ n=>unfold chainF;rw [if_pos h]
theorem b8d {s:ByteArray} {k:Int} {part:PM PT} {n:Nat} {e:PT} {r:List Tok} (h:isT s r=true):joinsF s k part (n+1) e r=bindP part (fun d=>joinsF s k part n (cX k 0 [] [e,d])) r.tail:=by
 conv=>lhs;unfold joinsF
 rw [if_pos h]
theorem b6o {s:ByteArray} {k:Int} {part:PM PT} {n:Nat} {e:PT} {r:List Tok} (h:isT s r=false):joinsF s k part n e r=.ok (e,r):=by
 cases n with
 | zero=>rfl
 | succ n=>unfold joinsF;rw [if_neg (by rw [h];decide)]
section
variable {g:Nat} {d:Int}
theorem FactG.term (hf:FactG g d):TermG g d:=by
 intro H x r K h k
 refine a8G _ _ ?_
 unfold a1M
 unfold termOf chainP at k
 refine hf h (R1.bind k (fun a r1 H1 v x1 ea l1' ra rd e1 k1=>c0y rd ?_) fun c p H1 v x1 l1' rb kb _ _=>b8b rb ?_)
 ·generalize ho:chainF (whG sMul kMul) (factP g) r1.length a r1=o at k1
  refine L0 (fun (z:Int×RD4×d6×d6) H'=>Hle H1 H'∧z.2.1.fl=x1.fl∧((∃a r' n,z.1=whG sMul kMul r'∧EH H' z.2.2.1 a∧Rg H' z.2.1 r'∧r'.length≤n∧chainF (whG sMul kMul) (factP g) n a r'=o)∨z.1=0∧∃c p,Rb H' z.2.1 c p∧o=.error (c,p))) (fun z=>if z.2.1.fbad=0 then ((z.2.1.fl.n:Int)-z.2.1.fat).toNat+1 else 0) ⟨Hle.refl _,rfl,.inl ⟨a,r1,_,rfl,ra,rd,Nat.le_refl _,ho⟩⟩ ?_
  rintro ⟨kk,x2,e,f⟩ H2 next ⟨l2,e2,hz⟩ hn
  dsimp only at e2 hz
  unfold V3
  dsimp only
  rcases hz with ⟨a,r2,n,rfl,ra,rd2,hlen,ho2⟩ | ⟨rfl,c,p,rb,rfl⟩
  ·refine ⟨fun c=>?_,fun c=>?_⟩
   ·have hne:=b6i c
    have ht:=a2S hne
    obtain ⟨n,rfl⟩:∃m,n=m+1:=⟨n-1,by omega⟩
    rw [b8c c] at ho2
    have m2:=rd2.len
    have b2:=rd2.2
    rw [←ho2] at k1
    refine hf (rd2.up hne) (R1.bind (R1.next (γ:=Unit) l2 e2 k1) (fun b r3 H3 v x3 eb l3 rb rd3 e3 k3=>c0y rd3 ?_) fun c p H3 v x3 l3 rb kb eb e3=>b8b rb ?_)
    ·intro s H4 l4 hs _
     have hlt:=a8B g _ _ _ eb
     have m3:=(rd3.le l4).len
     have b3:=rd3.2
     refine hn _ _ ⟨(l2.trans l3).trans l4,e3.trans e2,.inl ⟨_,r3,n,rfl,EH2 hs (ra.le (l3.trans l4)) (rb.le l4) _ _ _,rd3.le l4,by omega,by rw [←ho2,a0q eb]⟩⟩ ?_
     dsimp only
     rw [if_pos b3,if_pos b2]
     omega
    ·intro s H4 l4 hs _
     refine hn _ _ ⟨(l2.trans l3).trans l4,e3.trans e2,.inr ⟨rfl,c,p,rb.le l4,by rw [←ho2,L5 eb]⟩⟩ ?_
     dsimp only
     rw [if_neg rb.bad,if_pos b2]
     omega
   ·rw [b6n c] at ho2
    subst ho2
    exact k1 _ _ _ l2 ra rd2 e2
  ·exact ⟨fun q=>absurd rfl q,fun _=>k1 _ _ _ l2 rb e2⟩
 ·refine L0 (fun (z:Int×RD4×d6×d6) H'=>H'=H1∧z.1=0∧z.2.1=x1) (fun _=>0) ⟨rfl,rfl,rfl⟩ ?_
  rintro ⟨_,_,e,f⟩ H1 next ⟨rfl,rfl,rfl⟩ _
  exact ⟨fun q=>absurd rfl q,fun _=>kb _ _ (Hle.refl _)⟩
theorem TermG.expr (hf:TermG g d):ExprG g d:=by
 intro H x r K h k
 refine a8K _ _ ?_
 unfold a1P
 unfold exprP exprOf at k
 unfold chainP at k
 have hsh:SShr (termOf (factP g)):=a7N (a8B g)
 refine hf h (R1.bind k (fun a r1 H1 v x1 ea l1' ra rd e1 k1=>?_) fun c p H1 v x1 l1' rb kb _ _=>?_)
 ·generalize ho:chainF (whG sAdd kAdd) (termOf (factP g)) r1.length a r1=o at k1
  refine L0 (fun (z:d6×RD4×d6) H'=>Hle H1 H'∧z.2.1.fl=x1.fl∧((∃a r' n,EH H' z.1 a∧Rg H' z.2.1 r'∧r'.length≤n∧chainF (whG sAdd kAdd) (termOf (factP g)) n a r'=o)∨∃c p,Rb H' z.2.1 c p∧o=.error (c,p))) (fun z=>if z.2.1.fbad=0 then ((z.2.1.fl.n:Int)-z.2.1.fat).toNat+1 else 0) ⟨Hle.refl _,rfl,.inl ⟨a,r1,_,ra,rd,Nat.le_refl _,ho⟩⟩ ?_
  rintro ⟨e,x2,f⟩ H2 next ⟨l2,e2,hz⟩ hn
  dsimp only at e2 hz
  unfold V6
  dsimp only
  rcases hz with ⟨a,r2,n,ra,rd2,hlen,ho2⟩ | ⟨c,p,rb,rfl⟩
  ·have round:∀kk:Int,kk≠0→whG sAdd kAdd r2=kk→D1 d kk x2 e f H2 next K:=by
    intro kk hk0 hkk
    have c:whG sAdd kAdd r2≠0:=by rw [hkk];exact hk0
    have hne:=b6i c
    have ht:=a2S hne
    obtain ⟨n,rfl⟩:∃m,n=m+1:=⟨n-1,by omega⟩
    rw [b8c c,hkk] at ho2
    have m2:=rd2.len
    have b2:=rd2.2
    rw [←ho2] at k1
    unfold D1
    refine hf (rd2.up hne) (R1.bind (R1.next (γ:=Unit) l2 e2 k1) (fun b r3 H3 v x3 eb l3 rb rd3 e3 k3=>?_) fun c p H3 v x3 l3 rb kb eb e3=>?_)
    ·intro s H4 l4 hs _
     have hlt:=hsh _ _ _ eb
     have m3:=(rd3.le l4).len
     have b3:=rd3.2
     refine hn _ _ ⟨(l2.trans l3).trans l4,e3.trans e2,.inl ⟨_,r3,n,EH2 hs (ra.le (l3.trans l4)) (rb.le l4) _ _ _,rd3.le l4,by omega,by rw [←ho2,a0q eb]⟩⟩ ?_
     dsimp only
     rw [if_pos b3,if_pos b2]
     omega
    ·intro s H4 l4 hs _
     refine hn _ _ ⟨(l2.trans l3).trans l4,e3.trans e2,.inr ⟨c,p,rb.le l4,by rw [←ho2,L5 eb]⟩⟩ ?_
     dsimp only
     rw [if_neg rb.bad,if_pos b2]
     omega
   refine b0l rd2 (b0m rd2 ?_)
   rw [b4Y]
   refine ⟨fun c=>b0l rd2 ⟨fun c7=>round 7 (by decide) ?_,fun c7=>round 6 (by decide) ?_⟩,fun c=>?_⟩
   ·rw [a8r,if_neg (by rw [b7Z c7 (by decide)];decide),a8r,if_pos c7]
   ·have c6:isT ⟨#[43]⟩ r2=true:=by rw [c7,Bool.or_false] at c;exact c
    rw [a8r,if_pos c6]
   ·obtain ⟨c6,c7⟩:=Bool.or_eq_false_iff.1 c
    rw [b6n (by rw [a8r,if_neg (by rw [c6];decide),a8r,if_neg (by rw [c7];decide)];rfl)] at ho2
    subst ho2
    exact k1 _ _ _ l2 ra rd2 e2
  ·exact a8C rb (c2g rb ⟨fun q=>(by cases q),fun _=>k1 _ _ _ l2 rb e2⟩)
 ·refine L0 (fun (z:d6×RD4×d6) H'=>H'=H1∧z.2.1=x1) (fun _=>0) ⟨rfl,rfl⟩ ?_
  rintro ⟨e,_,f⟩ H1 next ⟨rfl,rfl⟩ _
  exact a8C rb (c2g rb ⟨fun q=>(by cases q),fun _=>kb _ _ (Hle.refl _)⟩)
theorem LitG.conj (hf:LitG g d):ConjG g d:=by
 intro H x r K h k
 refine a8D _ _ ?_
 unfold a1K
 unfold conjOf at k
 unfold joinsP at k
 have hsh:SShr (litP g):=b1B g
 refine hf h (R1.bind k (fun a r1 H1 v x1 ea l1' ra rd e1 k1=>?_) fun c p H1 v x1 l1' rb kb _ _=>?_)
 ·generalize ho:joinsF ⟨#[38,38]⟩ 5 (litP g) r1.length a r1=o at k1
  refine L0 (fun (z:c8×RD4×c8) H'=>Hle H1 H'∧z.2.1.fl=x1.fl∧((∃a r' n,CH H' z.1 a∧Rg H' z.2.1 r'∧r'.length≤n∧joinsF ⟨#[38,38]⟩ 5 (litP g) n a r'=o)∨∃c p,Rb H' z.2.1 c p∧o=.error (c,p))) (fun z=>if z.2.1.fbad=0 then ((z.2.1.fl.n:Int)-z.2.1.fat).toNat+1 else 0) ⟨Hle.refl _,rfl,.inl ⟨a,r1,_,ra,rd,Nat.le_refl _,ho⟩⟩ ?_
  rintro ⟨e,x2,f⟩ H2 next ⟨l2,e2,hz⟩ hn
  dsimp only at e2 hz
  unfold V2
  dsimp only
  rcases hz with ⟨a,r2,n,ra,rd2,hlen,ho2⟩ | ⟨c,p,rb,rfl⟩
  ·have m2:=rd2.len
   have b2:=rd2.2
   refine a5X rd2 (fun c x' hx' e'=>⟨fun _=>?_,fun q=>(by cases q)⟩) fun c=>⟨fun q=>(by cases q),fun _=>?_⟩
   ·have ht:=a2S (a6I c)
    obtain ⟨n,rfl⟩:∃m,n=m+1:=⟨n-1,by omega⟩
    rw [b8d c] at ho2
    rw [←ho2] at k1
    refine hf hx' (R1.bind (R1.next (γ:=Unit) l2 (e'.trans e2) k1) (fun b r3 H3 v x3 eb l3 rb rd3 e3 k3=>?_) fun c p H3 v x3 l3 rb kb eb e3=>?_)
    ·intro s H4 l4 hs _
     have hlt:=hsh _ _ _ eb
     have m3:=(rd3.le l4).len
     have b3:=rd3.2
     refine hn _ _ ⟨(l2.trans l3).trans l4,(e3.trans e').trans e2,.inl ⟨_,r3,n,CH2 hs (ra.le (l3.trans l4)) (rb.le l4) _ _,rd3.le l4,by omega,by rw [←ho2,a0q eb]⟩⟩ ?_
     dsimp only
     rw [if_pos b3,if_pos b2]
     omega
    ·intro s H4 l4 hs _
     refine hn _ _ ⟨(l2.trans l3).trans l4,(e3.trans e').trans e2,.inr ⟨c,p,rb.le l4,by rw [←ho2,L5 eb]⟩⟩ ?_
     dsimp only
     rw [if_neg rb.bad,if_pos b2]
     omega
   ·rw [b6o c] at ho2
    subst ho2
    exact k1 _ _ _ l2 ra rd2 e2
  ·exact b1D rb ⟨fun q=>(by cases q),fun _=>k1 _ _ _ l2 rb e2⟩
 ·refine L0 (fun (z:c8×RD4×c8) H'=>H'=H1∧z.2.1=x1) (fun _=>0) ⟨rfl,rfl⟩ ?_
  rintro ⟨e,_,f⟩ H1 next ⟨rfl,rfl⟩ _
  exact b1D rb ⟨fun q=>(by cases q),fun _=>kb _ _ (Hle.refl _)⟩
theorem ConjG.cond (hf:ConjG g d):CondG g d:=by
 intro H x r K h k
 refine a8I _ _ ?_
 unfold a1O
 unfold condP condOf at k
 unfold joinsP at k
 have hsh:SShr (conjOf (litP g)):=a7O (b1B g)
 refine hf h (R1.bind k (fun a r1 H1 v x1 ea l1' ra rd e1 k1=>?_) fun c p H1 v x1 l1' rb kb _ _=>?_)
 ·generalize ho:joinsF ⟨#[124,124]⟩ 6 (conjOf (litP g)) r1.length a r1=o at k1
  refine L0 (fun (z:c8×RD4×c8) H'=>Hle H1 H'∧z.2.1.fl=x1.fl∧((∃a r' n,CH H' z.1 a∧Rg H' z.2.1 r'∧r'.length≤n∧joinsF ⟨#[124,124]⟩ 6 (conjOf (litP g)) n a r'=o)∨∃c p,Rb H' z.2.1 c p∧o=.error (c,p))) (fun z=>if z.2.1.fbad=0 then ((z.2.1.fl.n:Int)-z.2.1.fat).toNat+1 else 0) ⟨Hle.refl _,rfl,.inl ⟨a,r1,_,ra,rd,Nat.le_refl _,ho⟩⟩ ?_
  rintro ⟨e,x2,f⟩ H2 next ⟨l2,e2,hz⟩ hn
  dsimp only at e2 hz
  unfold V4
  dsimp only
  rcases hz with ⟨a,r2,n,ra,rd2,hlen,ho2⟩ | ⟨c,p,rb,rfl⟩
  ·have m2:=rd2.len
   have b2:=rd2.2
   refine a5X rd2 (fun c x' hx' e'=>⟨fun _=>?_,fun q=>(by cases q)⟩) fun c=>⟨fun q=>(by cases q),fun _=>?_⟩
   ·have ht:=a2S (a6I c)
    obtain ⟨n,rfl⟩:∃m,n=m+1:=⟨n-1,by omega⟩
    rw [b8d c] at ho2
    rw [←ho2] at k1
    refine hf hx' (R1.bind (R1.next (γ:=Unit) l2 (e'.trans e2) k1) (fun b r3 H3 v x3 eb l3 rb rd3 e3 k3=>?_) fun c p H3 v x3 l3 rb kb eb e3=>?_)
    ·intro s H4 l4 hs _
     have hlt:=hsh _ _ _ eb
     have m3:=(rd3.le l4).len
     have b3:=rd3.2
     refine hn _ _ ⟨(l2.trans l3).trans l4,(e3.trans e').trans e2,.inl ⟨_,r3,n,CH2 hs (ra.le (l3.trans l4)) (rb.le l4) _ _,rd3.le l4,by omega,by rw [←ho2,a0q eb]⟩⟩ ?_
     dsimp only
     rw [if_pos b3,if_pos b2]
     omega
    ·intro s H4 l4 hs _
     refine hn _ _ ⟨(l2.trans l3).trans l4,(e3.trans e').trans e2,.inr ⟨c,p,rb.le l4,by rw [←ho2,L5 eb]⟩⟩ ?_
     dsimp only
     rw [if_neg rb.bad,if_pos b2]
     omega
   ·rw [b6o c] at ho2
    subst ho2
    exact k1 _ _ _ l2 ra rd2 e2
  ·exact b1D rb ⟨fun q=>(by cases q),fun _=>k1 _ _ _ l2 rb e2⟩
 ·refine L0 (fun (z:c8×RD4×c8) H'=>H'=H1∧z.2.1=x1) (fun _=>0) ⟨rfl,rfl⟩ ?_
  rintro ⟨e,_,f⟩ H1 next ⟨rfl,rfl⟩ _
  exact b1D rb ⟨fun q=>(by cases q),fun _=>kb _ _ (Hle.refl _)⟩
theorem FactG.expr (h:FactG g d):ExprG g d:=TermG.expr (FactG.term h)
theorem LitG.whole (h:LitG g d):CondG g d:=ConjG.cond (LitG.conj h)
theorem c3e (hg:d+g=40) (h0:0≤d) (ih:FactG g (d+1)):FactG (g+1) d:=by
 intro H x r K h k
 refine a4X _ _ ⟨fun q=>absurd h.2 q,fun _=>?_⟩
 rw [b0X h0 (by omega)]
 replace k:R1 H x EH (factS (factP g) r) K:=k
 unfold factS at k
 refine b1W h ⟨fun c=>?_,fun c=>?_⟩
 ·rw [if_pos (by simpa using c)] at k
  exact a7x h (by decide) fun x' rb e=>k H _ x' (Hle.refl _) rb e
 have c':factB r=true:=by simpa using c
 rw [if_neg (by rw [c'];decide)] at k
 refine a9M h.1 (b5a h (fun q=>by omega) fun _=>⟨fun q=>absurd h.2 q,fun _=>?_⟩)
 refine a5X h (fun c1 x1 h1 e1=>⟨fun _=>?_,fun q=>(by cases q)⟩) fun c1=>⟨fun q=>(by cases q),fun _=>?_⟩
 ·rw [if_pos c1] at k
  refine ih h1 (R1.bind (R1.next (γ:=Unit) (Hle.refl _) e1 k) (fun b r' H' v x' _ l ra rd e kk=>?_) fun c p H' v x' l rb kb _ _=>?_)
  ·intro s H2 l2 hs _
   exact kk H2 _ x' l2 (EH1 hs (ra.le l2) _ _ _) (rd.le l2) rfl
  ·intro s H2 l2 hs _
   exact kb _ _ l2
 rw [if_neg (by rw [c1];decide)] at k
 refine a5X h (fun c2 x1 h1 e1=>⟨fun _=>?_,fun q=>(by cases q)⟩) fun c2=>⟨fun q=>(by cases q),fun _=>?_⟩
 ·rw [if_neg (by rw [b7Z c2 (by decide)];decide),if_pos c2] at k
  exact k H _ x1 (Hle.refl _) (EH0 _ _ _) h1 e1
 refine a5X h (fun c3 x1 h1 e1=>⟨fun _=>?_,fun q=>(by cases q)⟩) fun c3=>⟨fun q=>(by cases q),fun _=>?_⟩
 ·rw [if_pos c3] at k
  refine FactG.expr ih h1 (R1.bind (R1.next (γ:=Unit) (Hle.refl _) e1 k) (fun b r' H' v x' _ l ra rd e kk=>?_) fun c p H' v x' l rb kb _ _=>b4l rb (kb _ _ (Hle.refl _)))
  exact b3k rd kk (fun r2 x2 rd2 e2 k2=>k2 H' v x2 (Hle.refl _) ra rd2 rfl) fun c p x2 rb kb=>kb _ _ (Hle.refl _)
 rw [if_neg (by rw [c3];decide),if_neg (by rw [c2];decide)] at k
 have h1:=h.up (c0v c')
 have e1:(b8.mk x.fl (IntKind.wrap .i64 (x.fat+1)) x.fbad x.fpos).fl=x.fl:=rfl
 generalize b8.mk x.fl (IntKind.wrap .i64 (x.fat+1)) x.fbad x.fpos=x1 at h1 e1 ⊢
 refine ⟨fun c4=>?_,fun c4=>?_⟩
 ·rw [if_pos c4] at k
  exact k H _ x1 (Hle.refl _) (EH0 _ _ _) h1 e1
 rw [if_neg c4] at k
 refine a5X h1 (fun c5 x2 h2 e2=>⟨fun _=>?_,fun q=>(by cases q)⟩) fun c5=>⟨fun q=>(by cases q),fun _=>?_⟩
 ·rw [if_pos c5] at k
  refine FactG.expr ih h2 (R1.bind (R1.next (γ:=Unit) (Hle.refl _) (e2.trans e1) k) (fun b r' H' v x' _ l ra rd e kk=>?_) fun c p H' v x' l rb kb _ _=>b4l rb ?_)
  ·refine b3k rd kk (fun r2 x2 rd2 e2 k2=>?_) fun c p x2 rb kb=>?_
   ·intro s H3 l3 hs _
    exact k2 H3 _ x2 l3 (EH1 hs (ra.le l3) _ _ _) (rd2.le l3) rfl
   ·intro s H3 l3 hs _
    exact kb _ _ l3
  ·intro s H3 l3 hs _
   exact kb _ _ l3
 ·rw [if_neg (by rw [c5];decide)] at k
  exact k H _ x1 (Hle.refl _) (EH0 _ _ _) h1 e1
theorem c3f (hd40:40 < d):FactG 0 d:=by
 intro H x r K h k
 refine a4X _ _ ⟨fun q=>absurd h.2 q,fun _=>?_⟩
 replace k:R1 H x EH (deadE factB r) K:=k
 unfold deadE at k
 refine b1W h ⟨fun c=>?_,fun c=>?_⟩
 ·rw [if_neg (by simpa using c)] at k
  exact a7x h (by decide) fun x' rb e=>k H _ x' (Hle.refl _) rb e
 ·rw [if_pos (by simpa using c)] at k
  exact a9M h.1 (b5a h (fun _ x' rb e=>⟨fun _=>k H _ x' (Hle.refl _) rb e,fun q=>absurd q rb.bad⟩) fun q=>absurd hd40 q)
end
theorem factG:∀(g:Nat) {d:Int},d+g=41→0≤d→FactG g d
 | 0,d,hg,h0=>c3f (by omega)
 | g+1,d,hg,h0=>c3e (by omega) h0 (factG g (by omega) (by omega))
section
variable {g:Nat} {d:Int} {H:Hp} {x:RD4} {r:List Tok}
theorem c9f (h:Rg H x r) {K:Int→Hp→Prop} (k:K (relR r) H):G7 x H K:=by
 refine a5x _ ?_
 unfold a0m
 refine L0 (fun (z:Int) H'=>H'=H∧∃i:Nat,z=(i:Int)∧i≤6∧whG ([⟨#[60]⟩,⟨#[60,61]⟩,⟨#[61,61]⟩,⟨#[33,61]⟩,⟨#[62]⟩,⟨#[62,61]⟩].drop i) ([1,2,3,4,5,6].drop i) r=relR r) (fun z=>(6-z).toNat) ⟨rfl,0,rfl,by omega,rfl⟩ ?_
 rintro z H1 next ⟨rfl,i,rfl,hi,he⟩ hn
 unfold P6
 dsimp only
 refine ⟨fun c=>⟨by omega,c,?_⟩,fun c=>?_⟩
 ·rw [y4 (a:=(i:Int)+1) ⟨by omega,by omega⟩,y4 (a:=1+(i:Int)) ⟨by omega,by omega⟩,Int.toNat_natCast]
  obtain ⟨s,n,e1,e2,e3⟩:∃(s:ByteArray) (n:Int),n=1+(i:Int)∧([⟨#[60]⟩,⟨#[60,61]⟩,⟨#[61,61]⟩,⟨#[33,61]⟩,⟨#[62]⟩,⟨#[62,61]⟩]:List ByteArray).getD i ⟨#[]⟩=s∧relR r=if isT s r then n else whG ([⟨#[60]⟩,⟨#[60,61]⟩,⟨#[61,61]⟩,⟨#[33,61]⟩,⟨#[62]⟩,⟨#[62,61]⟩].drop (i+1)) ([1,2,3,4,5,6].drop (i+1)) r:=by
   rw [←he]
   rcases (by omega:i=0∨i=1∨i=2∨i=3∨i=4∨i=5) with rfl | rfl | rfl | rfl | rfl | rfl<;>exact ⟨_,_,rfl,rfl,rfl⟩
  rw [e2]
  refine b0l h ⟨fun c1=>?_,fun c1=>?_⟩
  ·rw [if_pos c1,e1] at e3
   rw [←e3];exact k
  ·rw [if_neg (by rw [c1];decide)] at e3
   exact hn _ _ ⟨rfl,i+1,by rw [Int.natCast_add];rfl,by omega,e3.symm⟩ (by omega)
 ·obtain rfl:i=6:=by omega
  have:relR r=0:=he.symm
  rw [this] at k
  exact k
theorem c6k {c:Int} {p:b7} (h:Rb H x c p) {K:Int→Hp→Prop} (k:K 0 H):G7 x H K:=by
 refine a5x _ ?_
 unfold a0m
 refine L0 (fun (z:Int) H'=>H'=H∧0≤z∧z≤6) (fun z=>(6-z).toNat) ⟨rfl,by omega,by omega⟩ ?_
 rintro z H1 next ⟨rfl,h0,h6⟩ hn
 unfold P6
 refine ⟨fun c=>⟨h0,c,a8C h ⟨fun q=>(by cases q),fun _=>?_⟩⟩,fun c=>k⟩
 rw [y4 (a:=z+1) ⟨by omega,by omega⟩]
 exact hn _ _ ⟨rfl,by omega,by omega⟩ (by omega)
theorem b5r {a:Bool} {K1 K2:Hp→Prop} (h:Rg H x r) (ha:a=factB r) (k1:litB r=false→K1 H) (k2:litB r=true→K2 H):
  TG ((!a)=true) (l8 x ⟨#[116,114,117,101]⟩ H) false H (fun (d:Bool) (p:Hp)=>
  TG (((!a)&&(!d))=true) (l8 x ⟨#[102,97,108,115,101]⟩ p) false p (fun (e:Bool) (q:Hp)=>
  TG ((((!a)&&(!d))&&(!e))=true) (l8 x ⟨#[33]⟩ q) false q (fun (j:Bool) (r:Hp)=>
  TG (((((!a)&&(!d))&&(!e))&&(!j))=true) (l8 x ⟨#[91]⟩ r) false r (fun (s:Bool) (t:Hp)=>
  ((((((!a)&&(!d))&&(!e))&&(!j))&&(!s))=true→K1 t)∧((((((!a)&&(!d))&&(!e))&&(!j))&&(!s))=false→K2 t))))):=by
 subst ha
 refine b0m h (b0m h (b0m h (b0m h ?_)))
 unfold litB at k1 k2
 generalize factB r=a at k1 k2 ⊢
 generalize isT ⟨#[116,114,117,101]⟩ r=b at k1 k2 ⊢
 generalize isT ⟨#[102,97,108,115,101]⟩ r=c at k1 k2 ⊢
 generalize isT ⟨#[33]⟩ r=d at k1 k2 ⊢
 generalize isT ⟨#[91]⟩ r=e at k1 k2 ⊢
 cases a<;>cases b<;>cases c<;>cases d<;>cases e<;>first | exact ⟨fun _=>k1 rfl,fun q=>(by cases q)⟩ | exact ⟨fun q=>(by cases q),fun _=>k2 rfl⟩
theorem c4U (hg:d+g=40) (h0:0≤d) (hx:ExprG (g+1) d) (ih:LitG g (d+1)):LitG (g+1) d:=by
 intro H x r K h k
 refine a5z _ _ ⟨fun q=>absurd h.2 q,fun _=>?_⟩
 rw [b0X h0 (by omega)]
 replace k:R1 H x CH (litS (litP g) (exprP (g+1)) r) K:=k
 unfold litS at k
 refine b1W h (b5r h rfl (fun c=>?_) fun c=>?_)
 ·rw [if_pos c] at k
  exact a7x h (by decide) fun x' rb e=>k H _ x' (Hle.refl _) rb e
 have c':litB r=true:=c
 rw [if_neg (by rw [c'];decide)] at k
 refine b5a h (fun q=>by omega) fun _=>⟨fun q=>absurd h.2 q,fun _=>?_⟩
 refine a5X h (fun c1 x1 h1 e1=>⟨fun _=>?_,fun q=>(by cases q)⟩) fun c1=>⟨fun q=>(by cases q),fun _=>?_⟩
 ·rw [if_pos c1] at k
  exact k H _ x1 (Hle.refl _) (CH0 _ _) h1 e1
 rw [if_neg (by rw [c1];decide)] at k
 refine a5X h (fun c1 x1 h1 e1=>⟨fun _=>?_,fun q=>(by cases q)⟩) fun c1=>⟨fun q=>(by cases q),fun _=>?_⟩
 ·rw [if_pos c1] at k
  exact k H _ x1 (Hle.refl _) (CH0 _ _) h1 e1
 rw [if_neg (by rw [c1];decide)] at k
 refine a5X h (fun c1 x1 h1 e1=>⟨fun _=>?_,fun q=>(by cases q)⟩) fun c1=>⟨fun q=>(by cases q),fun _=>?_⟩
 ·rw [if_pos c1] at k
  refine ih h1 (R1.bind (R1.next (γ:=Unit) (Hle.refl _) e1 k) (fun b r' H' v x' _ l ra rd e kk=>?_) fun c p H' v x' l rb kb _ _=>?_)
  ·intro s H2 l2 hs _
   exact kk H2 _ x' l2 (CH1 hs (ra.le l2) _ _) (rd.le l2) rfl
  ·intro s H2 l2 hs _
   exact kb _ _ l2
 rw [if_neg (by rw [c1];decide)] at k
 refine a5X h (fun c1 x1 h1 e1=>⟨fun _=>?_,fun q=>(by cases q)⟩) fun c1=>⟨fun q=>(by cases q),fun _=>?_⟩
 ·rw [if_pos c1] at k
  refine LitG.whole ih h1 (R1.bind (R1.next (γ:=Unit) (Hle.refl _) e1 k) (fun b r' H' v x' _ l ra rd e kk=>?_) fun c p H' v x' l rb kb _ _=>b4l rb (kb _ _ (Hle.refl _)))
  exact b3k rd kk (fun r2 x2 rd2 e2 k2=>k2 H' v x2 (Hle.refl _) ra rd2 rfl) fun c p x2 rb kb=>kb _ _ (Hle.refl _)
 rw [if_neg (by rw [c1];decide)] at k
 refine hx h (R1.bind k (fun a r1 H1 v1 x1 _ l1' ra rd1 e1 k1=>c9f rd1 ?_) fun c p H' v x' l rb kb _ _=>c6k rb ⟨fun _=>b8a rb (kb _ _ (Hle.refl _)),fun q=>absurd rfl q⟩)
 refine ⟨fun c2=>?_,fun c2=>?_⟩
 ·have:relP r1=.error (40,(hd r1).fAt):=by unfold relP;rw [if_pos c2];rfl
  rw [L5 this] at k1
  exact a7x rd1 (by decide) fun x' rb e=>k1 H1 _ x' (Hle.refl _) rb e
 ·have:relP r1=.ok (relR r1,r1.tail):=by unfold relP;rw [if_neg c2]
  rw [a0q this] at k1
  refine hx (rd1.up (b6i c2)) (R1.bind (R1.next (γ:=Unit) (Hle.refl _) rfl k1) (fun b r3 H3 v3 x3 _ l3 rb rd3 e3 k3=>?_) fun c p H3 v x3 l3 rb kb _ _=>?_)
  ·intro s H4 l4 hs _
   exact k3 H4 _ x3 l4 (CHE hs (ra.le (l3.trans l4)) (rb.le l4) _ _) (rd3.le l4) rfl
  ·intro s H4 l4 hs _
   exact kb _ _ l4
theorem c4V (hd40:40 < d):LitG 0 d:=by
 intro H x r K h k
 refine a5z _ _ ⟨fun q=>absurd h.2 q,fun _=>?_⟩
 replace k:R1 H x CH (deadE litB r) K:=k
 unfold deadE at k
 refine b1W h (b5r h rfl (fun c=>?_) fun c=>?_)
 ·rw [if_neg (by rw [c];decide)] at k
  exact a7x h (by decide) fun x' rb e=>k H _ x' (Hle.refl _) rb e
 ·rw [if_pos c] at k
  exact b5a h (fun _ x' rb e=>⟨fun _=>k H _ x' (Hle.refl _) rb e,fun q=>absurd q rb.bad⟩) fun q=>absurd hd40 q
end
theorem litG:∀(g:Nat) {d:Int},d+g=41→0≤d→LitG g d
 | 0,d,hg,h0=>c4V (by omega)
 | g+1,d,hg,h0=>c4U (by omega) h0 (FactG.expr (factG (g+1) hg h0)) (litG g (by omega) (by omega))
end Go.Proofs.YthklmeihgmcljaaGreatDoor
