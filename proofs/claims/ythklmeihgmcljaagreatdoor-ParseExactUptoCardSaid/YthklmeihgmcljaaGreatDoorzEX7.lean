/- Parsing: the document's reader answers what the plain one does: expressions and conditions. Contracts off the printed formulas. -/
import Derived.Test.YthklmeihgmcljaaGreatDoorzEX6
namespace Go.Proofs.YthklmeihgmcljaaGreatDoor
open Go.RowKit
set_option maxRecDepth 100000
set_option maxHeartbeats 2000000
abbrev RD4:=a8
def Rd4(H:Hp)(x:RD4)(r:List Tok):Prop:=∃(ts:List Tok)(n:Nat),SlH H 5 i8 x.fl ts∧ts.length≤big∧x.fat=(n:Int)∧ts.drop n=r∧WfT r
def Rg(H:Hp)(x:RD4)(r:List Tok):Prop:=Rd4 H x r∧x.fbad=0
def Rb(H:Hp)(x:RD4)(c:Int)(p:b8):Prop:=(∃r,Rd4 H x r)∧x.fbad=c∧x.fpos=p∧c≠0
def D9{α β:Type}(H:Hp)(x:RD4)(R:Hp→α→β→Prop)(o:Except Flt (β×List Tok))(K:α→RD4→Hp→Prop):Prop:=match o with
 | .ok (b,r')=>∀(H':Hp)(v:α)(x':RD4),Hle H H'→R H' v b→Rg H' x' r'→x'.fl=x.fl→K v x' H'
 | .error (c,p)=>∀(H':Hp)(v:α)(x':RD4),Hle H H'→Rb H' x' c p→x'.fl=x.fl→K v x' H'
theorem a8b{s s':ByteArray}{r:List Tok}(h:isT s r=true)(hs:s≠s'):isT s' r=false:=by
 unfold isT
 rw [b1l h,decide_eq_false hs,Bool.and_false]
section
variable {H H':Hp}{x:RD4}{r:List Tok}{c:Int}{p:b8}
theorem Rd4.le(l:Hle H H')(h:Rd4 H x r):Rd4 H' x r:=by
 obtain ⟨ts,n,a,b,c,d,e⟩:=h
 exact ⟨ts,n,a.le l,b,c,d,e⟩
theorem Rg.le(h:Rg H x r)(l:Hle H H'):Rg H' x r:=⟨h.1.le l,h.2⟩
theorem Rb.le(h:Rb H x c p)(l:Hle H H'):Rb H' x c p:=⟨⟨_,h.1.choose_spec.le l⟩,h.2⟩
theorem Rb.bad(h:Rb H x c p):x.fbad≠0:=by rw [h.2.1];exact h.2.2.2
theorem Rg.wf(h:Rg H x r):WfT r:=by obtain ⟨⟨_,_,_,_,_,_,e⟩,_⟩:=h;exact e
theorem Rg.big(h:Rg H x r):r.length≤1099511627776:=by
 obtain ⟨⟨ts,n,_,b,_,d,_⟩,_⟩:=h
 rw [←d,List.length_drop]
 simp only [Go.Proofs.YthklmeihgmcljaaGreatDoor.big] at b
 omega
theorem Rg.len(h:Rg H x r):((x.fl.n:Int)-x.fat).toNat=r.length:=by
 obtain ⟨⟨ts,n,a,_,c,d,_⟩,_⟩:=h
 have:=a.1
 rw [←d,c,List.length_drop]
 omega
theorem Rg.up(h:Rg H x r)(hk:(hd r).d8≠5):Rg H (a8.mk x.fl (IntKind.wrap .i64 (x.fat+1)) x.fbad x.fpos) r.tail:=by
 obtain ⟨⟨ts,n,a,b,c,d,e⟩,hb⟩:=h
 have hn:n < ts.length:=E0 (drop_at d e.ne)
 refine ⟨⟨ts,n+1,a,b,?_,b9a d,e.tail hk⟩,hb⟩
 simp only [Go.Proofs.YthklmeihgmcljaaGreatDoor.big] at b
 show IntKind.wrap .i64 (x.fat+1)=_
 rw [c,z1 ⟨by omega,by omega⟩]
 omega
theorem a4j(h:Rd4 H x r){K:b6→Hp→Prop}(k:K (hd r) H):B8 x H K:=by
 obtain ⟨ts,n,a,b,c,d,e⟩:=h
 refine a9z _ ?_
 unfold a5b
 have ha:=drop_at d e.ne
 have hn:=E0 ha
 have:=a.1
 rw [c]
 obtain ⟨y,hy,hE⟩:=a.get (i:=(n:Int)) (by omega) (by omega)
 rw [Int.toNat_natCast,ha] at hy
 cases hy
 exact ⟨by omega,by omega,_,hE,k⟩
theorem a8T(h:Rg H x r){s:ByteArray}{K:Bool→Hp→Prop}(k:K (isT s r) H):o0 x s H K:=by
 refine a6d _ _ (a4j h.1 ?_)
 rw [h.2]
 exact k
theorem a8u(h:Rb H x c p){s:ByteArray}{K:Bool→Hp→Prop}(k:K false H):o0 x s H K:=by
 refine a6d _ _ (a4j h.1.choose_spec ?_)
 rw [decide_eq_false h.bad]
 exact k
theorem a0F(h:Rg H x r){s:ByteArray}{K:Bool→RD4→Hp→Prop}(h1:isT s r=true→∀x',Rg H x' r.tail→x'.fl=x.fl→K true x' H)(h0:isT s r=false→K false x H):q7 x s H K:=by
 refine a5G _ _ (a8T h ⟨fun c=>h0 (by simpa using c),fun c=>?_⟩)
 have c':isT s r=true:=by simpa using c
 exact h1 c' _ (h.up (a6E c')) rfl
theorem a9l(h:Rb H x c p){s:ByteArray}{K:Bool→RD4→Hp→Prop}(k:K false x H):q7 x s H K:=
 a5G _ _ (a8u h ⟨fun _=>k,fun q=>(by cases q)⟩)
theorem a4T(h:Rg H x r)(hc:c≠0){K:RD4→Hp→Prop}(k:∀x',Rb H x' c (hd r).fAt→x'.fl=x.fl→K x' H):A5 x c H K:=by
 refine a4q _ _ ⟨fun _=>?_,fun q=>absurd h.2 q⟩
 have h':Rd4 H (a8.mk x.fl x.fat c x.fpos) r:=h.1
 exact a4j h' (k _ ⟨⟨r,h.1⟩,rfl,rfl,hc⟩ rfl)
theorem b9e(h:Rb H x c p){e:Int}{K:RD4→Hp→Prop}(k:K x H):A5 x e H K:=a4q _ _ ⟨fun q=>absurd q h.bad,fun _=>k⟩
theorem P6(h:Rb H x c p){s:ByteArray}{K:RD4→Hp→Prop}(k:K x H):t6 x s H K:=
 a1B _ _ (a9l h ⟨fun _=>b9e h k,fun q=>(by cases q)⟩)
theorem D9.next{α β γ:Type}{x':RD4}{R:Hp→α→β→Prop}{o:Except Flt (β×List Tok)}{K:α→RD4→Hp→Prop}(l:Hle H H')(e:x'.fl=x.fl)(h:D9 H x R o K):D9 H' x' R o K:=by
 cases o with
 | error y=>exact fun H2 v x2 l2 rb e2=>h H2 v x2 (l.trans l2) rb (e2.trans e)
 | ok y=>exact fun H2 v x2 l2 ra rd e2=>h H2 v x2 (l.trans l2) ra rd (e2.trans e)
theorem D9.bind{α β γ δ:Type}{R:Hp→α→β→Prop}{R2:Hp→γ→δ→Prop}{q:PM β}{f:β→PM δ}{K:γ→RD4→Hp→Prop}{K1:α→RD4→Hp→Prop}(k:D9 H x R2 (bindP q f r) K)
  (h:∀b r' H' v x',q r=.ok (b,r')→Hle H H'→R H' v b→Rg H' x' r'→x'.fl=x.fl→D9 H' x' R2 (f b r') K→K1 v x' H')
  (hb:∀c p H' v x',Hle H H'→Rb H' x' c p→(∀H'' w,Hle H' H''→K w x' H'')→q r=.error (c,p)→x'.fl=x.fl→K1 v x' H'):D9 H x R (q r) K1:=by
 cases hp:q r with
 | error y=>
  rw [D4 hp] at k
  exact fun H' v x' l rb e=>hb _ _ H' v x' l rb (fun H'' w l2=>k H'' w x' (l.trans l2) (rb.le l2) e) hp e
 | ok y=>
  obtain ⟨b,r'⟩:=y
  rw [Q0 hp] at k
  exact fun H' v x' l ra rd e=>h b r' H' v x' hp l ra rd e (D9.next (γ:=Unit) l e k)
theorem a0G{γ δ:Type}{R2:Hp→γ→δ→Prop}{s:ByteArray}{f:Unit→PM δ}{K:γ→RD4→Hp→Prop}{K1:RD4→Hp→Prop}(h:Rg H x r)(k:D9 H x R2 (bindP (mustP s) f r) K)
  (h1:∀r' x',Rg H x' r'→x'.fl=x.fl→D9 H x' R2 (f () r') K→K1 x' H) (hb:∀c p x',Rb H x' c p→(∀H'' w,Hle H H''→K w x' H'')→K1 x' H):t6 x s H K1:=by
 refine a1B _ _ (a0F h (fun c x' hx e=>⟨fun q=>(by cases q),fun _=>?_⟩) fun c=>⟨fun _=>a4T h (by decide) fun x' rb e=>?_,fun q=>(by cases q)⟩)
 ·have hm:mustP s r=.ok ((),r.tail):=by unfold mustP;rw [if_pos c]
  rw [Q0 hm] at k
  exact h1 _ x' hx e (D9.next (γ:=Unit) (Hle.refl _) e k)
 ·have hm:mustP s r=.error (40,(hd r).fAt):=by unfold mustP;rw [if_neg (by rw [c];decide)]
  rw [D4 hm] at k
  exact hb _ _ x' rb fun H'' w l2=>k H'' w x' l2 (rb.le l2) e
theorem a5M(h:Rg H x r){q:Prop} [Decidable q] {s:ByteArray} {K:Bool→Hp→Prop} (k:K (decide q&&isT s r) H):TG q (o0 x s H) false H K:=by
 refine ⟨fun c=>a8T h ?_,fun c=>?_⟩
 ·rw [decide_eq_true c] at k;exact k
 ·rw [decide_eq_false c] at k;exact k
theorem b8C(h:Rb H x c p){q:Prop}{s:ByteArray}{K:Bool→Hp→Prop}(k:K false H):TG q (o0 x s H) false H K:=⟨fun _=>a8u h k,fun _=>k⟩
theorem b3U(h:Rg H x r){K:Bool→Hp→Prop}(k:K (factB r) H):W8 x H K:=by
 refine a8O _ (a4j h.1 ?_)
 refine a5M h (a5M h (a5M h ?_))
 simp only [b5k]
 unfold factB at k
 rw [Bool.or_right_comm] at k
 exact k
theorem c6x(h:Rg H x r){K:Bool→Hp→Prop}(k:K (stmtB r) H):M5 x H K:=by
 refine a8M _ (a4j h.1 ?_)
 refine a5M h (a5M h (a5M h (a5M h (a5M h ?_))))
 simp only [b5k]
 exact k
theorem b4D(h:Rg H x r){d:Int}{K:RD4→Hp→Prop}(h1:40 < d→∀x',Rb H x' 41 (hd r).fAt→x'.fl=x.fl→K x' H)(h0:¬40 < d→K x H):S5 x d H K:=
 a9H _ _ ⟨fun c=>a4T h (by decide) fun x' rb e=>h1 c x' rb e,h0⟩
theorem c0U(h:Rg H x r){K:Int→Hp→Prop}(k:K (whG sMul kMul r) H):R3 x H K:=by
 refine a4C _ (a8T h ?_)
 simp only [a9k] at k
 refine ⟨fun c=>?_,fun c=>a8T h ⟨fun c2=>?_,fun c2=>a8T h ⟨fun c3=>?_,fun c3=>?_⟩⟩⟩
 ·rw [if_pos c] at k;exact k
 ·rw [if_neg (by rw [c];decide),if_pos c2] at k;exact k
 ·rw [if_neg (by rw [c];decide),if_neg (by rw [c2];decide),if_pos c3] at k;exact k
 ·rw [if_neg (by rw [c];decide),if_neg (by rw [c2];decide),if_neg (by rw [c3];decide)] at k;exact k
theorem b5W(h:Rb H x c p){K:Int→Hp→Prop}(k:K 0 H):R3 x H K:=
 a4C _ (a8u h ⟨fun q=>(by cases q),fun _=>a8u h ⟨fun q=>(by cases q),fun _=>a8u h ⟨fun q=>(by cases q),fun _=>k⟩⟩⟩)
theorem c7O(h:Rb H x c p){d:Int}{K:d9→RD4→Hp→Prop}(k:∀v,K v x H):O2 x d H K:=a1G _ _ ⟨fun _=>k _,fun q=>absurd q h.bad⟩
theorem c7P(h:Rb H x c p){d:Int}{K:d9→RD4→Hp→Prop}(k:∀v,K v x H):S6 x d H K:=by
 refine a5m _ _ (c7O h fun v=>b5W h ?_)
 refine D1 (fun(z:Int×RD4×d9×d9) H'=>H'=H∧z.1=0∧z.2.1=x) (fun _=>0) ⟨rfl,rfl,rfl⟩ ?_
 rintro ⟨_,_,e,f⟩ H1 next ⟨rfl,rfl,rfl⟩ _
 exact ⟨fun q=>absurd rfl q,fun _=>k _⟩
theorem c0V(h:Rb H x c p){d:Int}{K:d9→RD4→Hp→Prop}(k:∀v,K v x H):C7 x d H K:=by
 refine a5e _ _ (c7P h fun v=>?_)
 refine D1 (fun(z:d9×RD4×d9) H'=>H'=H∧z.2.1=x) (fun _=>0) ⟨rfl,rfl⟩ ?_
 rintro ⟨e,_,f⟩ H1 next ⟨rfl,rfl⟩ _
 exact a8u h (b8C h ⟨fun q=>(by cases q),fun _=>k _⟩)
end
def FactG(g:Nat)(d:Int):Prop:=∀⦃H:Hp⦄ ⦃x:RD4⦄ ⦃r:List Tok⦄ ⦃K:d9→RD4→Hp→Prop⦄,Rg H x r→D9 H x EH (factP g r) K→O2 x d H K
def TermG(g:Nat)(d:Int):Prop:=∀⦃H:Hp⦄ ⦃x:RD4⦄ ⦃r:List Tok⦄ ⦃K:d9→RD4→Hp→Prop⦄,Rg H x r→D9 H x EH (termOf (factP g) r) K→S6 x d H K
def ExprG(g:Nat)(d:Int):Prop:=∀⦃H:Hp⦄ ⦃x:RD4⦄ ⦃r:List Tok⦄ ⦃K:d9→RD4→Hp→Prop⦄,Rg H x r→D9 H x EH (exprP g r) K→C7 x d H K
def LitG(g:Nat)(d:Int):Prop:=∀⦃H:Hp⦄ ⦃x:RD4⦄ ⦃r:List Tok⦄ ⦃K:f8→RD4→Hp→Prop⦄,Rg H x r→D9 H x CH (litP g r) K→T7 x d H K
def ConjG(g:Nat)(d:Int):Prop:=∀⦃H:Hp⦄ ⦃x:RD4⦄ ⦃r:List Tok⦄ ⦃K:f8→RD4→Hp→Prop⦄,Rg H x r→D9 H x CH (conjOf (litP g) r) K→Z1 x d H K
def CondG(g:Nat)(d:Int):Prop:=∀⦃H:Hp⦄ ⦃x:RD4⦄ ⦃r:List Tok⦄ ⦃K:f8→RD4→Hp→Prop⦄,Rg H x r→D9 H x CH (condP g r) K→O3 x d H K
theorem b9f{w:List Tok→Int}{part:PM PT}{n:Nat}{e:PT}{r:List Tok}(h:w r≠0):chainF w part (n+1) e r=bindP part (fun a=>chainF w part n (eX (w r) 0 ⟨#[]⟩ [e,a])) r.tail:=by
 conv=>lhs;unfold chainF
 rw [if_neg h]
theorem b7Y{w:List Tok→Int}{part:PM PT}{n:Nat}{e:PT}{r:List Tok}(h:w r=0):chainF w part n e r=.ok (e,r):=by
 cases n with
 | zero=>rfl
 | succ n=>unfold chainF;rw [if_pos h]
theorem b9g{s:ByteArray}{k:Int}{part:PM PT}{n:Nat}{e:PT}{r:List Tok}(h:isT s r=true):joinsF s k part (n+1) e r=bindP part (fun d=>joinsF s k part n (cX k 0 [] [e,d])) r.tail:=by
 conv=>lhs;unfold joinsF
 rw [if_pos h]
theorem b7Z{s:ByteArray}{k:Int}{part:PM PT}{n:Nat}{e:PT}{r:List Tok}(h:isT s r=false):joinsF s k part n e r=.ok (e,r):=by
 cases n with
 | zero=>rfl
 | succ n=>unfold joinsF;rw [if_neg (by rw [h];decide)]
section
variable {g:Nat}{d:Int}
theorem FactG.term(hf:FactG g d):TermG g d:=by
 intro H x r K h k
 refine a5m _ _ ?_
 unfold a5l
 unfold termOf chainP at k
 refine hf h (D9.bind k (fun a r1 H1 v x1 ea l1' ra rd e1 k1=>c0U rd ?_) fun c p H1 v x1 l1' rb kb _ _=>b5W rb ?_)
 ·generalize ho:chainF (whG sMul kMul) (factP g) r1.length a r1=o at k1
  refine D1 (fun(z:Int×RD4×d9×d9) H'=>Hle H1 H'∧z.2.1.fl=x1.fl∧((∃a r' n,z.1=whG sMul kMul r'∧EH H' z.2.2.1 a∧Rg H' z.2.1 r'∧r'.length≤n∧chainF (whG sMul kMul) (factP g) n a r'=o)∨z.1=0∧∃c p,Rb H' z.2.1 c p∧o=.error (c,p))) (fun z=>if z.2.1.fbad=0 then ((z.2.1.fl.n:Int)-z.2.1.fat).toNat+1 else 0) ⟨Hle.refl _,rfl,.inl ⟨a,r1,_,rfl,ra,rd,Nat.le_refl _,ho⟩⟩ ?_
  rintro ⟨kk,x2,e,f⟩ H2 next ⟨l2,e2,hz⟩ hn
  dsimp only at e2 hz
  unfold a3G
  dsimp only
  rcases hz with ⟨a,r2,n,rfl,ra,rd2,hlen,ho2⟩ | ⟨rfl,c,p,rb,rfl⟩
  ·refine ⟨fun c=>?_,fun c=>?_⟩
   ·have hne:=b7T c
    have ht:=a1Y hne
    obtain ⟨n,rfl⟩:∃m,n=m+1:=⟨n-1,by omega⟩
    rw [b9f c] at ho2
    have m2:=rd2.len
    have b2:=rd2.2
    rw [←ho2] at k1
    refine hf (rd2.up hne) (D9.bind (D9.next (γ:=Unit) l2 e2 k1) (fun b r3 H3 v x3 eb l3 rb rd3 e3 k3=>c0U rd3 ?_) fun c p H3 v x3 l3 rb kb eb e3=>b5W rb ?_)
    ·intro s H4 l4 hs _
     have hlt:=a9t g _ _ _ eb
     have m3:=(rd3.le l4).len
     have b3:=rd3.2
     refine hn _ _ ⟨(l2.trans l3).trans l4,e3.trans e2,.inl ⟨_,r3,n,rfl,EH2 hs (ra.le (l3.trans l4)) (rb.le l4) _ _ _,rd3.le l4,by omega,by rw [←ho2,Q0 eb]⟩⟩ ?_
     dsimp only
     rw [if_pos b3,if_pos b2]
     omega
    ·intro s H4 l4 hs _
     refine hn _ _ ⟨(l2.trans l3).trans l4,e3.trans e2,.inr ⟨rfl,c,p,rb.le l4,by rw [←ho2,D4 eb]⟩⟩ ?_
     dsimp only
     rw [if_neg rb.bad,if_pos b2]
     omega
   ·rw [b7Y c] at ho2
    subst ho2
    exact k1 _ _ _ l2 ra rd2 e2
  ·exact ⟨fun q=>absurd rfl q,fun _=>k1 _ _ _ l2 rb e2⟩
 ·refine D1 (fun(z:Int×RD4×d9×d9) H'=>H'=H1∧z.1=0∧z.2.1=x1) (fun _=>0) ⟨rfl,rfl,rfl⟩ ?_
  rintro ⟨_,_,e,f⟩ H1 next ⟨rfl,rfl,rfl⟩ _
  exact ⟨fun q=>absurd rfl q,fun _=>kb _ _ (Hle.refl _)⟩
theorem TermG.expr(hf:TermG g d):ExprG g d:=by
 intro H x r K h k
 refine a5e _ _ ?_
 unfold a5d
 unfold exprP exprOf at k
 unfold chainP at k
 have hsh:SShr (termOf (factP g)):=a8q (a9t g)
 refine hf h (D9.bind k (fun a r1 H1 v x1 ea l1' ra rd e1 k1=>?_) fun c p H1 v x1 l1' rb kb _ _=>?_)
 ·generalize ho:chainF (whG sAdd kAdd) (termOf (factP g)) r1.length a r1=o at k1
  refine D1 (fun(z:d9×RD4×d9) H'=>Hle H1 H'∧z.2.1.fl=x1.fl∧((∃a r' n,EH H' z.1 a∧Rg H' z.2.1 r'∧r'.length≤n∧chainF (whG sAdd kAdd) (termOf (factP g)) n a r'=o)∨∃c p,Rb H' z.2.1 c p∧o=.error (c,p))) (fun z=>if z.2.1.fbad=0 then ((z.2.1.fl.n:Int)-z.2.1.fat).toNat+1 else 0) ⟨Hle.refl _,rfl,.inl ⟨a,r1,_,ra,rd,Nat.le_refl _,ho⟩⟩ ?_
  rintro ⟨e,x2,f⟩ H2 next ⟨l2,e2,hz⟩ hn
  dsimp only at e2 hz
  unfold a3C
  dsimp only
  rcases hz with ⟨a,r2,n,ra,rd2,hlen,ho2⟩ | ⟨c,p,rb,rfl⟩
  ·have round:∀kk:Int,kk≠0→whG sAdd kAdd r2=kk→P7 d kk x2 e f H2 next K:=by
    intro kk hk0 hkk
    have c:whG sAdd kAdd r2≠0:=by rw [hkk];exact hk0
    have hne:=b7T c
    have ht:=a1Y hne
    obtain ⟨n,rfl⟩:∃m,n=m+1:=⟨n-1,by omega⟩
    rw [b9f c,hkk] at ho2
    have m2:=rd2.len
    have b2:=rd2.2
    rw [←ho2] at k1
    unfold P7
    refine hf (rd2.up hne) (D9.bind (D9.next (γ:=Unit) l2 e2 k1) (fun b r3 H3 v x3 eb l3 rb rd3 e3 k3=>?_) fun c p H3 v x3 l3 rb kb eb e3=>?_)
    ·intro s H4 l4 hs _
     have hlt:=hsh _ _ _ eb
     have m3:=(rd3.le l4).len
     have b3:=rd3.2
     refine hn _ _ ⟨(l2.trans l3).trans l4,e3.trans e2,.inl ⟨_,r3,n,EH2 hs (ra.le (l3.trans l4)) (rb.le l4) _ _ _,rd3.le l4,by omega,by rw [←ho2,Q0 eb]⟩⟩ ?_
     dsimp only
     rw [if_pos b3,if_pos b2]
     omega
    ·intro s H4 l4 hs _
     refine hn _ _ ⟨(l2.trans l3).trans l4,e3.trans e2,.inr ⟨c,p,rb.le l4,by rw [←ho2,D4 eb]⟩⟩ ?_
     dsimp only
     rw [if_neg rb.bad,if_pos b2]
     omega
   refine a8T rd2 (a5M rd2 ?_)
   rw [b5k]
   refine ⟨fun c=>a8T rd2 ⟨fun c7=>round 7 (by decide) ?_,fun c7=>round 6 (by decide) ?_⟩,fun c=>?_⟩
   ·rw [a9k,if_neg (by rw [a8b c7 (by decide)];decide),a9k,if_pos c7]
   ·have c6:isT ⟨#[43]⟩ r2=true:=by rw [c7,Bool.or_false] at c;exact c
    rw [a9k,if_pos c6]
   ·obtain ⟨c6,c7⟩:=Bool.or_eq_false_iff.1 c
    rw [b7Y (by rw [a9k,if_neg (by rw [c6];decide),a9k,if_neg (by rw [c7];decide)];rfl)] at ho2
    subst ho2
    exact k1 _ _ _ l2 ra rd2 e2
  ·exact a8u rb (b8C rb ⟨fun q=>(by cases q),fun _=>k1 _ _ _ l2 rb e2⟩)
 ·refine D1 (fun(z:d9×RD4×d9) H'=>H'=H1∧z.2.1=x1) (fun _=>0) ⟨rfl,rfl⟩ ?_
  rintro ⟨e,_,f⟩ H1 next ⟨rfl,rfl⟩ _
  exact a8u rb (b8C rb ⟨fun q=>(by cases q),fun _=>kb _ _ (Hle.refl _)⟩)
theorem LitG.conj(hf:LitG g d):ConjG g d:=by
 intro H x r K h k
 refine a9w _ _ ?_
 unfold a4Z
 unfold conjOf at k
 unfold joinsP at k
 have hsh:SShr (litP g):=b3u g
 refine hf h (D9.bind k (fun a r1 H1 v x1 ea l1' ra rd e1 k1=>?_) fun c p H1 v x1 l1' rb kb _ _=>?_)
 ·generalize ho:joinsF ⟨#[38,38]⟩ 5 (litP g) r1.length a r1=o at k1
  refine D1 (fun(z:f8×RD4×f8) H'=>Hle H1 H'∧z.2.1.fl=x1.fl∧((∃a r' n,CH H' z.1 a∧Rg H' z.2.1 r'∧r'.length≤n∧joinsF ⟨#[38,38]⟩ 5 (litP g) n a r'=o)∨∃c p,Rb H' z.2.1 c p∧o=.error (c,p))) (fun z=>if z.2.1.fbad=0 then ((z.2.1.fl.n:Int)-z.2.1.fat).toNat+1 else 0) ⟨Hle.refl _,rfl,.inl ⟨a,r1,_,ra,rd,Nat.le_refl _,ho⟩⟩ ?_
  rintro ⟨e,x2,f⟩ H2 next ⟨l2,e2,hz⟩ hn
  dsimp only at e2 hz
  unfold a3A
  dsimp only
  rcases hz with ⟨a,r2,n,ra,rd2,hlen,ho2⟩ | ⟨c,p,rb,rfl⟩
  ·have m2:=rd2.len
   have b2:=rd2.2
   refine a0F rd2 (fun c x' hx' e'=>⟨fun _=>?_,fun q=>(by cases q)⟩) fun c=>⟨fun q=>(by cases q),fun _=>?_⟩
   ·have ht:=a1Y (a6E c)
    obtain ⟨n,rfl⟩:∃m,n=m+1:=⟨n-1,by omega⟩
    rw [b9g c] at ho2
    rw [←ho2] at k1
    refine hf hx' (D9.bind (D9.next (γ:=Unit) l2 (e'.trans e2) k1) (fun b r3 H3 v x3 eb l3 rb rd3 e3 k3=>?_) fun c p H3 v x3 l3 rb kb eb e3=>?_)
    ·intro s H4 l4 hs _
     have hlt:=hsh _ _ _ eb
     have m3:=(rd3.le l4).len
     have b3:=rd3.2
     refine hn _ _ ⟨(l2.trans l3).trans l4,(e3.trans e').trans e2,.inl ⟨_,r3,n,CH2 hs (ra.le (l3.trans l4)) (rb.le l4) _ _,rd3.le l4,by omega,by rw [←ho2,Q0 eb]⟩⟩ ?_
     dsimp only
     rw [if_pos b3,if_pos b2]
     omega
    ·intro s H4 l4 hs _
     refine hn _ _ ⟨(l2.trans l3).trans l4,(e3.trans e').trans e2,.inr ⟨c,p,rb.le l4,by rw [←ho2,D4 eb]⟩⟩ ?_
     dsimp only
     rw [if_neg rb.bad,if_pos b2]
     omega
   ·rw [b7Z c] at ho2
    subst ho2
    exact k1 _ _ _ l2 ra rd2 e2
  ·exact a9l rb ⟨fun q=>(by cases q),fun _=>k1 _ _ _ l2 rb e2⟩
 ·refine D1 (fun(z:f8×RD4×f8) H'=>H'=H1∧z.2.1=x1) (fun _=>0) ⟨rfl,rfl⟩ ?_
  rintro ⟨e,_,f⟩ H1 next ⟨rfl,rfl⟩ _
  exact a9l rb ⟨fun q=>(by cases q),fun _=>kb _ _ (Hle.refl _)⟩
theorem ConjG.cond(hf:ConjG g d):CondG g d:=by
 intro H x r K h k
 refine a9C _ _ ?_
 unfold a5f
 unfold condP condOf at k
 unfold joinsP at k
 have hsh:SShr (conjOf (litP g)):=a8r (b3u g)
 refine hf h (D9.bind k (fun a r1 H1 v x1 ea l1' ra rd e1 k1=>?_) fun c p H1 v x1 l1' rb kb _ _=>?_)
 ·generalize ho:joinsF ⟨#[124,124]⟩ 6 (conjOf (litP g)) r1.length a r1=o at k1
  refine D1 (fun(z:f8×RD4×f8) H'=>Hle H1 H'∧z.2.1.fl=x1.fl∧((∃a r' n,CH H' z.1 a∧Rg H' z.2.1 r'∧r'.length≤n∧joinsF ⟨#[124,124]⟩ 6 (conjOf (litP g)) n a r'=o)∨∃c p,Rb H' z.2.1 c p∧o=.error (c,p))) (fun z=>if z.2.1.fbad=0 then ((z.2.1.fl.n:Int)-z.2.1.fat).toNat+1 else 0) ⟨Hle.refl _,rfl,.inl ⟨a,r1,_,ra,rd,Nat.le_refl _,ho⟩⟩ ?_
  rintro ⟨e,x2,f⟩ H2 next ⟨l2,e2,hz⟩ hn
  dsimp only at e2 hz
  unfold a3E
  dsimp only
  rcases hz with ⟨a,r2,n,ra,rd2,hlen,ho2⟩ | ⟨c,p,rb,rfl⟩
  ·have m2:=rd2.len
   have b2:=rd2.2
   refine a0F rd2 (fun c x' hx' e'=>⟨fun _=>?_,fun q=>(by cases q)⟩) fun c=>⟨fun q=>(by cases q),fun _=>?_⟩
   ·have ht:=a1Y (a6E c)
    obtain ⟨n,rfl⟩:∃m,n=m+1:=⟨n-1,by omega⟩
    rw [b9g c] at ho2
    rw [←ho2] at k1
    refine hf hx' (D9.bind (D9.next (γ:=Unit) l2 (e'.trans e2) k1) (fun b r3 H3 v x3 eb l3 rb rd3 e3 k3=>?_) fun c p H3 v x3 l3 rb kb eb e3=>?_)
    ·intro s H4 l4 hs _
     have hlt:=hsh _ _ _ eb
     have m3:=(rd3.le l4).len
     have b3:=rd3.2
     refine hn _ _ ⟨(l2.trans l3).trans l4,(e3.trans e').trans e2,.inl ⟨_,r3,n,CH2 hs (ra.le (l3.trans l4)) (rb.le l4) _ _,rd3.le l4,by omega,by rw [←ho2,Q0 eb]⟩⟩ ?_
     dsimp only
     rw [if_pos b3,if_pos b2]
     omega
    ·intro s H4 l4 hs _
     refine hn _ _ ⟨(l2.trans l3).trans l4,(e3.trans e').trans e2,.inr ⟨c,p,rb.le l4,by rw [←ho2,D4 eb]⟩⟩ ?_
     dsimp only
     rw [if_neg rb.bad,if_pos b2]
     omega
   ·rw [b7Z c] at ho2
    subst ho2
    exact k1 _ _ _ l2 ra rd2 e2
  ·exact a9l rb ⟨fun q=>(by cases q),fun _=>k1 _ _ _ l2 rb e2⟩
 ·refine D1 (fun(z:f8×RD4×f8) H'=>H'=H1∧z.2.1=x1) (fun _=>0) ⟨rfl,rfl⟩ ?_
  rintro ⟨e,_,f⟩ H1 next ⟨rfl,rfl⟩ _
  exact a9l rb ⟨fun q=>(by cases q),fun _=>kb _ _ (Hle.refl _)⟩
theorem FactG.expr(h:FactG g d):ExprG g d:=TermG.expr (FactG.term h)
theorem LitG.whole(h:LitG g d):CondG g d:=ConjG.cond (LitG.conj h)
theorem c3X(hg:d+g=40)(h0:0≤d)(ih:FactG g (d+1)):FactG (g+1) d:=by
 intro H x r K h k
 refine a1G _ _ ⟨fun q=>absurd h.2 q,fun _=>?_⟩
 rw [b1n h0 (by omega)]
 replace k:D9 H x EH (factS (factP g) r) K:=k
 unfold factS at k
 refine b3U h ⟨fun c=>?_,fun c=>?_⟩
 ·rw [if_pos (by simpa using c)] at k
  exact a4T h (by decide) fun x' rb e=>k H _ x' (Hle.refl _) rb e
 have c':factB r=true:=by simpa using c
 rw [if_neg (by rw [c'];decide)] at k
 refine a4j h.1 (b4D h (fun q=>by omega) fun _=>⟨fun q=>absurd h.2 q,fun _=>?_⟩)
 refine a0F h (fun c1 x1 h1 e1=>⟨fun _=>?_,fun q=>(by cases q)⟩) fun c1=>⟨fun q=>(by cases q),fun _=>?_⟩
 ·rw [if_pos c1] at k
  refine ih h1 (D9.bind (D9.next (γ:=Unit) (Hle.refl _) e1 k) (fun b r' H' v x' _ l ra rd e kk=>?_) fun c p H' v x' l rb kb _ _=>?_)
  ·intro s H2 l2 hs _
   exact kk H2 _ x' l2 (EH1 hs (ra.le l2) _ _ _) (rd.le l2) rfl
  ·intro s H2 l2 hs _
   exact kb _ _ l2
 rw [if_neg (by rw [c1];decide)] at k
 refine a0F h (fun c2 x1 h1 e1=>⟨fun _=>?_,fun q=>(by cases q)⟩) fun c2=>⟨fun q=>(by cases q),fun _=>?_⟩
 ·rw [if_neg (by rw [a8b c2 (by decide)];decide),if_pos c2] at k
  exact k H _ x1 (Hle.refl _) (EH0 _ _ _) h1 e1
 refine a0F h (fun c3 x1 h1 e1=>⟨fun _=>?_,fun q=>(by cases q)⟩) fun c3=>⟨fun q=>(by cases q),fun _=>?_⟩
 ·rw [if_pos c3] at k
  refine FactG.expr ih h1 (D9.bind (D9.next (γ:=Unit) (Hle.refl _) e1 k) (fun b r' H' v x' _ l ra rd e kk=>?_) fun c p H' v x' l rb kb _ _=>P6 rb (kb _ _ (Hle.refl _)))
  exact a0G rd kk (fun r2 x2 rd2 e2 k2=>k2 H' v x2 (Hle.refl _) ra rd2 rfl) fun c p x2 rb kb=>kb _ _ (Hle.refl _)
 rw [if_neg (by rw [c3];decide),if_neg (by rw [c2];decide)] at k
 have h1:=h.up (c0Q c')
 have e1:(a8.mk x.fl (IntKind.wrap .i64 (x.fat+1)) x.fbad x.fpos).fl=x.fl:=rfl
 generalize a8.mk x.fl (IntKind.wrap .i64 (x.fat+1)) x.fbad x.fpos=x1 at h1 e1 ⊢
 refine ⟨fun c4=>?_,fun c4=>?_⟩
 ·rw [if_pos c4] at k
  exact k H _ x1 (Hle.refl _) (EH0 _ _ _) h1 e1
 rw [if_neg c4] at k
 refine a0F h1 (fun c5 x2 h2 e2=>⟨fun _=>?_,fun q=>(by cases q)⟩) fun c5=>⟨fun q=>(by cases q),fun _=>?_⟩
 ·rw [if_pos c5] at k
  refine FactG.expr ih h2 (D9.bind (D9.next (γ:=Unit) (Hle.refl _) (e2.trans e1) k) (fun b r' H' v x' _ l ra rd e kk=>?_) fun c p H' v x' l rb kb _ _=>P6 rb ?_)
  ·refine a0G rd kk (fun r2 x2 rd2 e2 k2=>?_) fun c p x2 rb kb=>?_
   ·intro s H3 l3 hs _
    exact k2 H3 _ x2 l3 (EH1 hs (ra.le l3) _ _ _) (rd2.le l3) rfl
   ·intro s H3 l3 hs _
    exact kb _ _ l3
  ·intro s H3 l3 hs _
   exact kb _ _ l3
 ·rw [if_neg (by rw [c5];decide)] at k
  exact k H _ x1 (Hle.refl _) (EH0 _ _ _) h1 e1
theorem c3Y(hd40:40 < d):FactG 0 d:=by
 intro H x r K h k
 refine a1G _ _ ⟨fun q=>absurd h.2 q,fun _=>?_⟩
 replace k:D9 H x EH (deadE factB r) K:=k
 unfold deadE at k
 refine b3U h ⟨fun c=>?_,fun c=>?_⟩
 ·rw [if_neg (by simpa using c)] at k
  exact a4T h (by decide) fun x' rb e=>k H _ x' (Hle.refl _) rb e
 ·rw [if_pos (by simpa using c)] at k
  exact a4j h.1 (b4D h (fun _ x' rb e=>⟨fun _=>k H _ x' (Hle.refl _) rb e,fun q=>absurd q rb.bad⟩) fun q=>absurd hd40 q)
end
theorem factG:∀(g:Nat){d:Int},d+g=41→0≤d→FactG g d
 | 0,d,hg,h0=>c3Y (by omega)
 | g+1,d,hg,h0=>c3X (by omega) h0 (factG g (by omega) (by omega))
section
variable {g:Nat}{d:Int}{H:Hp}{x:RD4}{r:List Tok}
theorem d1d(h:Rg H x r){K:Int→Hp→Prop}(k:K (relR r) H):a0g x H K:=by
 refine a5J _ ?_
 unfold a1W
 refine D1 (fun(z:Int) H'=>H'=H∧∃i:Nat,z=(i:Int)∧i≤6∧whG ([⟨#[60]⟩,⟨#[60,61]⟩,⟨#[61,61]⟩,⟨#[33,61]⟩,⟨#[62]⟩,⟨#[62,61]⟩].drop i) ([1,2,3,4,5,6].drop i) r=relR r) (fun z=>(6-z).toNat) ⟨rfl,0,rfl,by omega,rfl⟩ ?_
 rintro z H1 next ⟨rfl,i,rfl,hi,he⟩ hn
 unfold a0S
 dsimp only
 refine ⟨fun c=>⟨by omega,c,?_⟩,fun c=>?_⟩
 ·rw [z1 (a:=(i:Int)+1) ⟨by omega,by omega⟩,z1 (a:=1+(i:Int)) ⟨by omega,by omega⟩,Int.toNat_natCast]
  obtain ⟨s,n,e1,e2,e3⟩:∃(s:ByteArray)(n:Int),n=1+(i:Int)∧([⟨#[60]⟩,⟨#[60,61]⟩,⟨#[61,61]⟩,⟨#[33,61]⟩,⟨#[62]⟩,⟨#[62,61]⟩]:List ByteArray).getD i ⟨#[]⟩=s∧relR r=if isT s r then n else whG ([⟨#[60]⟩,⟨#[60,61]⟩,⟨#[61,61]⟩,⟨#[33,61]⟩,⟨#[62]⟩,⟨#[62,61]⟩].drop (i+1)) ([1,2,3,4,5,6].drop (i+1)) r:=by
   rw [←he]
   rcases (by omega:i=0∨i=1∨i=2∨i=3∨i=4∨i=5) with rfl | rfl | rfl | rfl | rfl | rfl<;>exact ⟨_,_,rfl,rfl,rfl⟩
  rw [e2]
  refine a8T h ⟨fun c1=>?_,fun c1=>?_⟩
  ·rw [if_pos c1,e1] at e3
   rw [←e3];exact k
  ·rw [if_neg (by rw [c1];decide)] at e3
   exact hn _ _ ⟨rfl,i+1,by rw [Int.natCast_add];rfl,by omega,e3.symm⟩ (by omega)
 ·obtain rfl:i=6:=by omega
  have:relR r=0:=he.symm
  rw [this] at k
  exact k
theorem c7Q{c:Int}{p:b8}(h:Rb H x c p){K:Int→Hp→Prop}(k:K 0 H):a0g x H K:=by
 refine a5J _ ?_
 unfold a1W
 refine D1 (fun(z:Int) H'=>H'=H∧0≤z∧z≤6) (fun z=>(6-z).toNat) ⟨rfl,by omega,by omega⟩ ?_
 rintro z H1 next ⟨rfl,h0,h6⟩ hn
 unfold a0S
 refine ⟨fun c=>⟨h0,c,a8u h ⟨fun q=>(by cases q),fun _=>?_⟩⟩,fun c=>k⟩
 rw [z1 (a:=z+1) ⟨by omega,by omega⟩]
 exact hn _ _ ⟨rfl,by omega,by omega⟩ (by omega)
theorem b6Z{a:Bool}{K1 K2:Hp→Prop}(h:Rg H x r)(ha:a=factB r)(k1:litB r=false→K1 H)(k2:litB r=true→K2 H):
  TG ((!a)=true) (o0 x ⟨#[116,114,117,101]⟩ H) false H (fun(d:Bool)(p:Hp)=>
  TG (((!a)&&(!d))=true) (o0 x ⟨#[102,97,108,115,101]⟩ p) false p (fun(e:Bool)(q:Hp)=>
  TG ((((!a)&&(!d))&&(!e))=true) (o0 x ⟨#[33]⟩ q) false q (fun(j:Bool)(r:Hp)=>
  TG (((((!a)&&(!d))&&(!e))&&(!j))=true) (o0 x ⟨#[91]⟩ r) false r (fun(s:Bool)(t:Hp)=>
  ((((((!a)&&(!d))&&(!e))&&(!j))&&(!s))=true→K1 t)∧((((((!a)&&(!d))&&(!e))&&(!j))&&(!s))=false→K2 t))))):=by
 subst ha
 refine a5M h (a5M h (a5M h (a5M h ?_)))
 unfold litB at k1 k2
 generalize factB r=a at k1 k2 ⊢
 generalize isT ⟨#[116,114,117,101]⟩ r=b at k1 k2 ⊢
 generalize isT ⟨#[102,97,108,115,101]⟩ r=c at k1 k2 ⊢
 generalize isT ⟨#[33]⟩ r=d at k1 k2 ⊢
 generalize isT ⟨#[91]⟩ r=e at k1 k2 ⊢
 cases a<;>cases b<;>cases c<;>cases d<;>cases e<;>first | exact ⟨fun _=>k1 rfl,fun q=>(by cases q)⟩ | exact ⟨fun q=>(by cases q),fun _=>k2 rfl⟩
theorem c6y(hg:d+g=40)(h0:0≤d)(hx:ExprG (g+1) d)(ih:LitG g (d+1)):LitG (g+1) d:=by
 intro H x r K h k
 refine a5E _ _ ⟨fun q=>absurd h.2 q,fun _=>?_⟩
 rw [b1n h0 (by omega)]
 replace k:D9 H x CH (litS (litP g) (exprP (g+1)) r) K:=k
 unfold litS at k
 refine b3U h (b6Z h rfl (fun c=>?_) fun c=>?_)
 ·rw [if_pos c] at k
  exact a4T h (by decide) fun x' rb e=>k H _ x' (Hle.refl _) rb e
 have c':litB r=true:=c
 rw [if_neg (by rw [c'];decide)] at k
 refine b4D h (fun q=>by omega) fun _=>⟨fun q=>absurd h.2 q,fun _=>?_⟩
 refine a0F h (fun c1 x1 h1 e1=>⟨fun _=>?_,fun q=>(by cases q)⟩) fun c1=>⟨fun q=>(by cases q),fun _=>?_⟩
 ·rw [if_pos c1] at k
  exact k H _ x1 (Hle.refl _) (CH0 _ _) h1 e1
 rw [if_neg (by rw [c1];decide)] at k
 refine a0F h (fun c1 x1 h1 e1=>⟨fun _=>?_,fun q=>(by cases q)⟩) fun c1=>⟨fun q=>(by cases q),fun _=>?_⟩
 ·rw [if_pos c1] at k
  exact k H _ x1 (Hle.refl _) (CH0 _ _) h1 e1
 rw [if_neg (by rw [c1];decide)] at k
 refine a0F h (fun c1 x1 h1 e1=>⟨fun _=>?_,fun q=>(by cases q)⟩) fun c1=>⟨fun q=>(by cases q),fun _=>?_⟩
 ·rw [if_pos c1] at k
  refine ih h1 (D9.bind (D9.next (γ:=Unit) (Hle.refl _) e1 k) (fun b r' H' v x' _ l ra rd e kk=>?_) fun c p H' v x' l rb kb _ _=>?_)
  ·intro s H2 l2 hs _
   exact kk H2 _ x' l2 (CH1 hs (ra.le l2) _ _) (rd.le l2) rfl
  ·intro s H2 l2 hs _
   exact kb _ _ l2
 rw [if_neg (by rw [c1];decide)] at k
 refine a0F h (fun c1 x1 h1 e1=>⟨fun _=>?_,fun q=>(by cases q)⟩) fun c1=>⟨fun q=>(by cases q),fun _=>?_⟩
 ·rw [if_pos c1] at k
  refine LitG.whole ih h1 (D9.bind (D9.next (γ:=Unit) (Hle.refl _) e1 k) (fun b r' H' v x' _ l ra rd e kk=>?_) fun c p H' v x' l rb kb _ _=>P6 rb (kb _ _ (Hle.refl _)))
  exact a0G rd kk (fun r2 x2 rd2 e2 k2=>k2 H' v x2 (Hle.refl _) ra rd2 rfl) fun c p x2 rb kb=>kb _ _ (Hle.refl _)
 rw [if_neg (by rw [c1];decide)] at k
 refine hx h (D9.bind k (fun a r1 H1 v1 x1 _ l1' ra rd1 e1 k1=>d1d rd1 ?_) fun c p H' v x' l rb kb _ _=>c7Q rb ⟨fun _=>b9e rb (kb _ _ (Hle.refl _)),fun q=>absurd rfl q⟩)
 refine ⟨fun c2=>?_,fun c2=>?_⟩
 ·have:relP r1=.error (40,(hd r1).fAt):=by unfold relP;rw [if_pos c2];rfl
  rw [D4 this] at k1
  exact a4T rd1 (by decide) fun x' rb e=>k1 H1 _ x' (Hle.refl _) rb e
 ·have:relP r1=.ok (relR r1,r1.tail):=by unfold relP;rw [if_neg c2]
  rw [Q0 this] at k1
  refine hx (rd1.up (b7T c2)) (D9.bind (D9.next (γ:=Unit) (Hle.refl _) rfl k1) (fun b r3 H3 v3 x3 _ l3 rb rd3 e3 k3=>?_) fun c p H3 v x3 l3 rb kb _ _=>?_)
  ·intro s H4 l4 hs _
   exact k3 H4 _ x3 l4 (CHE hs (ra.le (l3.trans l4)) (rb.le l4) _ _) (rd3.le l4) rfl
  ·intro s H4 l4 hs _
   exact kb _ _ l4
theorem c6z(hd40:40 < d):LitG 0 d:=by
 intro H x r K h k
 refine a5E _ _ ⟨fun q=>absurd h.2 q,fun _=>?_⟩
 replace k:D9 H x CH (deadE litB r) K:=k
 unfold deadE at k
 refine b3U h (b6Z h rfl (fun c=>?_) fun c=>?_)
 ·rw [if_neg (by rw [c];decide)] at k
  exact a4T h (by decide) fun x' rb e=>k H _ x' (Hle.refl _) rb e
 ·rw [if_pos c] at k
  exact b4D h (fun _ x' rb e=>⟨fun _=>k H _ x' (Hle.refl _) rb e,fun q=>absurd q rb.bad⟩) fun q=>absurd hd40 q
end
theorem litG:∀(g:Nat){d:Int},d+g=41→0≤d→LitG g d
 | 0,d,hg,h0=>c6z (by omega)
 | g+1,d,hg,h0=>c6y (by omega) h0 (FactG.expr (factG (g+1) hg h0)) (litG g (by omega) (by omega))
end Go.Proofs.YthklmeihgmcljaaGreatDoor
