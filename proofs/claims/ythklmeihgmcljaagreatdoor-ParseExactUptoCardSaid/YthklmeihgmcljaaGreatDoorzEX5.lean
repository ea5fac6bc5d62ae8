/- Parsing: facts, literals, statements, declarations, programs: the program's reader answers what the plain one does. Contracts off the printed formulas. -/
import Derived.Test.YthklmeihgmcljaaGreatDoorzEX4
namespace Go.Proofs.YthklmeihgmcljaaGreatDoor
open Go.RowKit
set_option maxRecDepth 100000
set_option maxHeartbeats 2000000
theorem CH1{H:Hp}{s:Sl}{e:f8}{a:PT}(hs:SlH H 4 i7 s [e])(ha:CH H e a)(k n:Int):CH H (f8.mk k n (Sl.mk none 0 0) s) (cX k n [] [a]):=
 CH.mk (c:=⟨k,n,Sl.mk none 0 0,s⟩) (ts:=[]) (SlH.nil H _ _) (by simp [big]) u2.nil hs (by simp [big]) rfl (u2.one ha).2
theorem CH0{H:Hp}(k n:Int):CH H (f8.mk k n (Sl.mk none 0 0) (Sl.mk none 0 0)) (cX k n [] []):=
 CH.mk (c:=⟨k,n,Sl.mk none 0 0,Sl.mk none 0 0⟩) (ts:=[]) (us:=[]) (SlH.nil H _ _) (by simp [big]) u2.nil (SlH.nil H _ _) (by simp [big]) rfl (fun i x t h=>by simp at h)
theorem CHE{H:Hp}{s:Sl}{e e':d9}{a b:PT}(hs:SlH H 4 g7 s [e,e'])(ha:EH H e a)(hb:EH H e' b)(k n:Int):CH H (f8.mk k n s (Sl.mk none 0 0)) (cX k n [a,b] []):=
 CH.mk (c:=⟨k,n,s,Sl.mk none 0 0⟩) (us:=[]) hs (by simp [big]) ((u2.one ha).app (u2.one hb)) (SlH.nil H _ _) (by simp [big]) rfl (fun i x t h=>by simp at h)
theorem SHX{H:Hp}{s1 s2 s3 s4:Sl}{es:List d9}{cs:List f8}{ts fs:List b9}{a b c d:List PT}(h1:SlH H 4 g7 s1 es)(b1:es.length≤big)(r1:u2 (EH H) es a)(h2:SlH H 4 i7 s2 cs)(b2:cs.length≤big)(r2:u2 (CH H) cs b)
  (h3:SlH H 6 m6 s3 ts) (b3:ts.length≤big) (r3:u2 (SH H) ts c) (h4:SlH H 6 m6 s4 fs) (b4:fs.length≤big) (r4:u2 (SH H) fs d) (k:Int) (nm:ByteArray):SH H (b9.mk k nm s1 s2 s3 s4) (sX k nm a b c d):=
 SH.mk (s:=⟨k,nm,s1,s2,s3,s4⟩) h1 b1 r1 h2 b2 r2 h3 b3 r3.1 r3.2 h4 b4 r4.1 r4.2
theorem c0P{g:Nat}{r:List Tok}(h:factB r=false):factP g r=.error (40,(hd r).fAt):=by
 cases g with
 | zero=>unfold factP deadE;rw [h];rfl
 | succ g=>unfold factP factS;rw [if_pos h];rfl
theorem c7L{g:Nat}{r:List Tok}(h:factB r=false):exprP g r=.error (40,(hd r).fAt):=D4 (D4 (c0P h))
theorem c3V{r:List Tok}(h:factB r=true):exprP 0 r=.error (41,(hd r).fAt):=D4 (D4 (show deadE factB r=_ by unfold deadE;rw [h];rfl))
theorem c2W{g:Nat}{r:List Tok}(h:litB r=false):litP g r=.error (40,(hd r).fAt):=by
 cases g with
 | zero=>unfold litP deadE;rw [h];rfl
 | succ g=>unfold litP litS;rw [if_pos h];rfl
theorem b9b{r:List Tok}(h:litB r=true):litP 0 r=.error (41,(hd r).fAt):=by unfold litP deadE;rw [h];rfl
theorem c7M{g:Nat}{r:List Tok}(h:litB r=false):condP g r=.error (40,(hd r).fAt):=D4 (D4 (c2W h))
theorem c3W{r:List Tok}(h:litB r=true):condP 0 r=.error (41,(hd r).fAt):=D4 (D4 (b9b h))
theorem b7l{g:Nat}{r:List Tok}(h:stmtB r=false):stmtP g r=.error (40,(hd r).fAt):=by
 cases g with
 | zero=>unfold stmtP deadE;rw [h];rfl
 | succ g=>unfold stmtP stmtS;rw [if_pos h];rfl
theorem b7X{r:List Tok}(h:stmtB r=true):stmtP 0 r=.error (41,(hd r).fAt):=by unfold stmtP deadE;rw [h];rfl
theorem c0Q{r:List Tok}(h:factB r=true):(hd r).d8≠5:=fun e=>by
 unfold factB isT at h;rw [e] at h;cases h
theorem c0R{r:List Tok}(h:stmtB r=true):(hd r).d8≠5:=fun e=>by
 unfold stmtB isT at h;rw [e] at h;cases h
theorem Rd.big{H:Hp}{x:b7}{r:List Tok}(h:Rd H x r):r.length≤1099511627776:=by
 obtain ⟨ts,n,_,b,_,d,_⟩:=h
 rw [←d,List.length_drop]
 simp only [Go.Proofs.YthklmeihgmcljaaGreatDoor.big] at b
 omega
theorem b1n{d:Int}(h0:0≤d)(h1:d≤40):IntKind.wrap .i64 (d+1)=d+1:=z1 ⟨by omega,by omega⟩
variable  [PanQ]
theorem Res.bind{α β γ δ:Type}{H:Hp}{x:b7}{R:Hp→α→β→Prop}{R2:Hp→γ→δ→Prop}{p:PM β}{f:β→PM δ}{r:List Tok}{K:γ→b7→Hp→Prop}{K1:α→b7→Hp→Prop}(k:Res H x R2 (bindP p f r) K)
  (h:∀b r' H' v x',p r=.ok (b,r')→Hle H H'→R H' v b→Rd H' x' r'→x'.fl=x.fl→Res H' x' R2 (f b r') K→K1 v x' H'):Res H x R (p r) K1:=by
 cases hp:p r with
 | error y=>rw [D4 hp] at k;exact k
 | ok y=>
  obtain ⟨b,r'⟩:=y
  rw [Q0 hp] at k
  exact fun H' v x' l ra rd e=>h b r' H' v x' hp l ra rd e (Res.next (γ:=Unit) l e k)
theorem a5L{γ δ:Type}{H:Hp}{x:b7}{R2:Hp→γ→δ→Prop}{s:ByteArray}{f:Unit→PM δ}{r:List Tok}{K:γ→b7→Hp→Prop}{K1:b7→Hp→Prop}(h:Rd H x r)(k:Res H x R2 (bindP (mustP s) f r) K)
  (h1:∀r' H' x',Hle H H'→Rd H' x' r'→x'.fl=x.fl→Res H' x' R2 (f () r') K→K1 x' H'):C6 x s H K1:=
 d0W h (Res.bind k fun _ r' H' _ x' _ l _ rd e kk=>h1 r' H' x' l rd e kk)
def FactOK(g:Nat)(d:Int):Prop:=∀⦃H:Hp⦄ ⦃x:b7⦄ ⦃r:List Tok⦄ ⦃K:d9→b7→Hp→Prop⦄,Rd H x r→Res H x EH (factP g r) K→T4 x d H K
def ExprOK(g:Nat)(d:Int):Prop:=∀⦃H:Hp⦄ ⦃x:b7⦄ ⦃r:List Tok⦄ ⦃K:d9→b7→Hp→Prop⦄,Rd H x r→Res H x EH (exprP g r) K→T2 x d H K
def LitOK(g:Nat)(d:Int):Prop:=∀⦃H:Hp⦄ ⦃x:b7⦄ ⦃r:List Tok⦄ ⦃K:f8→b7→Hp→Prop⦄,Rd H x r→Res H x CH (litP g r) K→a0h x d H K
def CondOK(g:Nat)(d:Int):Prop:=∀⦃H:Hp⦄ ⦃x:b7⦄ ⦃r:List Tok⦄ ⦃K:f8→b7→Hp→Prop⦄,Rd H x r→Res H x CH (condP g r) K→P0 x d H K
def StmtOK(g:Nat)(d:Int):Prop:=∀⦃H:Hp⦄ ⦃x:b7⦄ ⦃r:List Tok⦄ ⦃K:b9→b7→Hp→Prop⦄,Rd H x r→stmtB r=true→Res H x SH (stmtP g r) K→Y2 x d H K
theorem FactOK.expr{g:Nat}{d:Int}(h:FactOK g d):ExprOK g d:=fun _ _ _ _ rd k=>d0Z (fun rd k=>d0Y (fun rd k=>h rd k) (a9t g) rd k) (a8q (a9t g)) rd k
theorem LitOK.cond{g:Nat}{d:Int}(h:LitOK g d):CondOK g d:=fun _ _ _ _ rd k=>d1a (fun rd k=>h rd k) (b3u g) rd k
section
variable {g:Nat}{d:Int}{H:Hp}{x:b7}{r:List Tok}
theorem c7N(hg:d+g=40)(ih:∀g',g=g'+1→FactOK (g'+1) (d+1))(h:Rd H x r){K:d9→b7→Hp→Prop}(k:Res H x EH (factP g r) K):H8 x H (fun a b=>D2 x (d+1) a b (fun c=>T4 x (d+1) c K)):=by
 refine b5l h (b3v h (fun c=>?_) (fun c c2=>?_) fun c c2=>?_)
 ·rw [c0P c] at k;exact k
 ·obtain rfl:g=0:=by omega
  unfold factP deadE at k
  rw [if_pos c] at k;exact k
 ·obtain ⟨g',rfl⟩:∃g',g=g'+1:=⟨g-1,by omega⟩
  exact ih g' rfl h k
theorem b7m(hg:d+g=40)(h0:0≤d)(ih:∀g',g=g'+1→FactOK (g'+1) (d+1))(h:Rd H x r){s:ByteArray}{γ δ:Type}{R2:Hp→γ→δ→Prop}{f:PT→PM δ}{K:γ→b7→Hp→Prop}{K1:d9→b7→Hp→Prop}
  (k:Res H x R2 (bindP (exprP g) (fun e=>bindP (mustP s) fun _=>f e) r) K) (h1:∀b r' H' v x',Hle H H'→EH H' v b→Rd H' x' r'→x'.fl=x.fl→Res H' x' R2 (f b r') K→K1 v x' H'):X3 x d s H K1:=by
 refine b1K _ _ _ ?_
 unfold a6N
 rw [b1n h0 (by omega)]
 refine b5l h (b3v h (fun c=>?_) (fun c c2=>?_) fun c c2=>?_)
 ·rw [D4 (c7L c)] at k;exact k
 ·obtain rfl:g=0:=by omega
  rw [D4 (c3V c)] at k;exact k
 ·obtain ⟨g',rfl⟩:∃g',g=g'+1:=⟨g-1,by omega⟩
  refine (ih g' rfl).expr h (Res.bind k fun b r' H' v x' _ l ra rd e kk=>?_)
  exact a5L rd kk fun r2 H2 x2 l2 rd2 e2 k2=>h1 b r2 H2 v x2 (l.trans l2) (ra.le l2) rd2 (e2.trans e) k2
theorem b9c(hg:d+g=40)(h0:0≤d)(ih:∀g',g=g'+1→FactOK (g'+1) (d+1)):FactOK (g+1) d:=by
 intro H x r K h k
 refine b2b _ _ ?_
 unfold a7n
 rw [b1n h0 (by omega)]
 replace k:Res H x EH (factS (factP g) r) K:=k
 unfold factS at k
 refine b5l h ⟨fun c=>?_,fun c=>?_⟩
 ·rw [if_pos (by simpa using c)] at k;exact a8s h k
 have c':factB r=true:=by simpa using c
 rw [if_neg (by rw [c'];decide)] at k
 refine a4S h (fun c1 x1 h1 e1=>⟨fun _=>?_,fun q=>(by cases q)⟩) fun c1=>⟨fun q=>(by cases q),fun _=>?_⟩
 ·rw [if_pos c1] at k
  refine c7N hg ih h1 (Res.bind (Res.next (γ:=Unit) (Hle.refl _) e1 k) fun b r' H' v x' _ l ra rd e kk=>?_)
  intro s H2 l2 hs _
  exact kk H2 _ x' l2 (EH1 hs (ra.le l2) _ _ _) (rd.le l2) rfl
 rw [if_neg (by rw [c1];decide)] at k
 refine a4S h (fun c1 x1 h1 e1=>⟨fun _=>?_,fun q=>(by cases q)⟩) fun c1=>⟨fun q=>(by cases q),fun _=>?_⟩
 ·rw [if_pos c1] at k
  exact b7m hg h0 ih h1 (Res.next (γ:=Unit) (Hle.refl _) e1 k) fun b r' H' v x' l ra rd e kk=>kk H' v x' (Hle.refl _) ra rd rfl
 rw [if_neg (by rw [c1];decide)] at k
 refine a4S h (fun c1 x1 h1 e1=>⟨fun _=>?_,fun q=>(by cases q)⟩) fun c1=>⟨fun q=>(by cases q),fun _=>?_⟩
 ·rw [if_pos c1] at k
  exact k H _ x1 (Hle.refl _) (EH0 _ _ _) h1 e1
 rw [if_neg (by rw [c1];decide)] at k
 unfold a0p
 refine b6I h (fun q=>absurd q (c0Q c')) fun _ x1 h1 e1=>⟨fun c2=>?_,fun c2=>?_⟩
 ·rw [if_pos c2] at k
  exact k H _ x1 (Hle.refl _) (EH0 _ _ _) h1 e1
 rw [if_neg c2] at k
 refine a4S h1 (fun c3 x2 h2 e2=>⟨fun q=>(by cases q),fun _=>?_⟩) fun c3=>⟨fun _=>?_,fun q=>(by cases q)⟩
 ·rw [if_pos c3] at k
  refine b7m hg h0 ih h2 (Res.next (γ:=Unit) (Hle.refl _) (e2.trans e1) k) fun b r' H' v x' l ra rd e kk=>?_
  intro s H3 l3 hs _
  exact kk H3 _ x' l3 (EH1 hs (ra.le l3) _ _ _) (rd.le l3) rfl
 ·rw [if_neg (by rw [c3];decide)] at k
  exact k H _ x1 (Hle.refl _) (EH0 _ _ _) h1 e1
end
theorem factOK:∀(g:Nat){d:Int},d+g=40→0≤d→FactOK (g+1) d
 | 0,d,hg,h0=>b9c hg h0 fun g' e=>by omega
 | g+1,d,hg,h0=>b9c hg h0 fun g' e=>by
  obtain rfl:g=g':=by omega
  exact factOK g (by omega) (by omega)
section
variable {g:Nat}{d:Int}{H:Hp}{x:b7}{r:List Tok}
theorem d5i(h:Rd H x r){K:Int→b7→Hp→Prop}(k:Res H x (fun _ v b=>v=b) (relP r) K):a1R x H K:=by
 refine b0e _ ?_
 unfold a5F
 unfold relP at k
 have hit:∀i:Int,i≠0→relR r=i→∀x',Rd H x' r.tail→x'.fl=x.fl→K i x' H:=fun i hi e x' h' e'=>by
  rw [e,if_neg hi] at k;exact k H i x' (Hle.refl _) rfl h' e'
 refine D1 (fun(z:Int×b7) H'=>H'=H∧∃i:Nat,z=((i:Int),x)∧i≤7∧whG ([⟨#[60]⟩,⟨#[60,61]⟩,⟨#[61,61]⟩,⟨#[33,61]⟩,⟨#[62]⟩,⟨#[62,61]⟩].drop (i-1)) ([1,2,3,4,5,6].drop (i-1)) r=relR r) (fun z=>(7-z.1).toNat) ⟨rfl,0,rfl,by omega,rfl⟩ ?_
 rintro z H1 next ⟨rfl,i,rfl,hi,he⟩ hn
 unfold a3Z
 dsimp only
 refine ⟨fun c=>⟨by omega,c,?_⟩,fun c=>?_⟩
 ·rw [z1 (a:=(i:Int)+1) ⟨by omega,by omega⟩]
  have go:whG ([⟨#[60]⟩,⟨#[60,61]⟩,⟨#[61,61]⟩,⟨#[33,61]⟩,⟨#[62]⟩,⟨#[62,61]⟩].drop i) ([1,2,3,4,5,6].drop i) r=relR r→next ((i:Int)+1,x) H1:=fun e=>hn _ _ ⟨rfl,i+1,by rw [Int.natCast_add];rfl,by omega,e⟩ (by dsimp only;omega)
  by_cases h0:i=0
  ·subst h0
   exact ⟨fun q=>(by simp at q),fun _=>⟨fun q=>(by simp at q),fun _=>go he⟩⟩
  ·have hp:decide ((0:Int) < (i:Int))=true:=decide_eq_true (by omega)
   refine ⟨fun _=>?_,fun q=>absurd hp q⟩
   rw [Int.toNat_natCast,hp]
   obtain ⟨s,n,e1,e2,e3⟩:∃(s:ByteArray)(n:Int),n=(i:Int)∧([⟨#[]⟩,⟨#[60]⟩,⟨#[60,61]⟩,⟨#[61,61]⟩,⟨#[33,61]⟩,⟨#[62]⟩,⟨#[62,61]⟩]:List ByteArray).getD i ⟨#[]⟩=s∧relR r=if isT s r then n else whG ([⟨#[60]⟩,⟨#[60,61]⟩,⟨#[61,61]⟩,⟨#[33,61]⟩,⟨#[62]⟩,⟨#[62,61]⟩].drop i) ([1,2,3,4,5,6].drop i) r:=by
    rw [←he]
    rcases (by omega:i=1∨i=2∨i=3∨i=4∨i=5∨i=6) with rfl | rfl | rfl | rfl | rfl | rfl<;>exact ⟨_,_,rfl,rfl,rfl⟩
   rw [e2]
   refine a4S h (fun c1 x' h' e'=>⟨fun _=>?_,fun q=>(by simp at q)⟩) fun c1=>⟨fun q=>(by simp at q),fun _=>?_⟩
   ·rw [if_pos c1,e1] at e3
    exact hit _ (by omega) e3 x' h' e'
   ·rw [if_neg (by rw [c1];decide)] at e3
    exact go e3.symm
 ·obtain rfl:i=7:=by omega
  have:relR r=0:=he.symm
  rw [if_pos this] at k
  exact a8s h k
theorem c0S(hg:d+g=40)(h0:0≤d)(hx:ExprOK (g+1) d)(ih:∀g',g=g'+1→LitOK (g'+1) (d+1)):LitOK (g+1) d:=by
 intro H x r K h k
 refine b2w _ _ ?_
 unfold a7x
 rw [b1n h0 (by omega)]
 replace k:Res H x CH (litS (litP g) (exprP (g+1)) r) K:=k
 unfold litS at k
 refine b8B h ⟨fun c=>?_,fun c=>?_⟩
 ·rw [if_pos (by simpa using c)] at k;exact a8s h k
 have c':litB r=true:=by simpa using c
 rw [if_neg (by rw [c'];decide)] at k
 refine a4S h (fun c1 x1 h1 e1=>⟨fun _=>?_,fun q=>(by cases q)⟩) fun c1=>⟨fun q=>(by cases q),fun _=>?_⟩
 ·rw [if_pos c1] at k
  exact k H _ x1 (Hle.refl _) (CH0 _ _) h1 e1
 rw [if_neg (by rw [c1];decide)] at k
 refine a4S h (fun c1 x1 h1 e1=>⟨fun _=>?_,fun q=>(by cases q)⟩) fun c1=>⟨fun q=>(by cases q),fun _=>?_⟩
 ·rw [if_pos c1] at k
  exact k H _ x1 (Hle.refl _) (CH0 _ _) h1 e1
 rw [if_neg (by rw [c1];decide)] at k
 refine a4S h (fun c1 x1 h1 e1=>⟨fun _=>?_,fun q=>(by cases q)⟩) fun c1=>⟨fun q=>(by cases q),fun _=>?_⟩
 ·rw [if_pos c1] at k
  replace k:=Res.next (γ:=Unit) (Hle.refl _) e1 k
  refine b8B h1 (b3v h1 (fun c2=>?_) (fun c2 c3=>?_) fun c2 c3=>?_)
  ·rw [D4 (c2W c2)] at k;exact k
  ·obtain rfl:g=0:=by omega
   rw [D4 (b9b c2)] at k;exact k
  ·obtain ⟨g',rfl⟩:∃g',g=g'+1:=⟨g-1,by omega⟩
   refine ih g' rfl h1 (Res.bind k fun b r' H' v x' _ l ra rd e kk=>?_)
   intro s H2 l2 hs _
   exact kk H2 _ x' l2 (CH1 hs (ra.le l2) _ _) (rd.le l2) rfl
 rw [if_neg (by rw [c1];decide)] at k
 refine a4S h (fun c1 x1 h1 e1=>⟨fun _=>?_,fun q=>(by cases q)⟩) fun c1=>⟨fun q=>(by cases q),fun _=>?_⟩
 ·rw [if_pos c1] at k
  replace k:Res H x1 CH (bindP (condP g) (fun c=>bindP (mustP ⟨#[93]⟩) fun _=>pureP c) r.tail) K:=Res.next (γ:=Unit) (Hle.refl _) e1 k
  refine b8B h1 (b3v h1 (fun c2=>?_) (fun c2 c3=>?_) fun c2 c3=>?_)
  ·rw [D4 (c7M c2)] at k;exact k
  ·obtain rfl:g=0:=by omega
   rw [D4 (c3W c2)] at k;exact k
  ·obtain ⟨g',rfl⟩:∃g',g=g'+1:=⟨g-1,by omega⟩
   refine (ih g' rfl).cond h1 (Res.bind k fun b r' H' v x' _ l ra rd e kk=>?_)
   exact a5L rd kk fun r2 H2 x2 l2 rd2 e2 k2=>k2 H2 v x2 (Hle.refl _) (ra.le l2) rd2 rfl
 rw [if_neg (by rw [c1];decide)] at k
 unfold a0C
 refine hx h (Res.bind k fun a r1 H1 v1 x1 _ l1' ra rd1 e1 k1=>?_)
 refine d5i rd1 (Res.bind k1 fun op r2 H2 v2 x2 _ l2 q2 rd2 e2 k2=>?_)
 subst q2
 refine hx rd2 (Res.bind k2 fun b r3 H3 v3 x3 _ l3 rb rd3 e3 k3=>?_)
 intro s H4 l4 hs _
 exact k3 H4 _ x3 l4 (CHE hs (ra.le ((l2.trans l3).trans l4)) (rb.le l4) _ _) (rd3.le l4) rfl
end
theorem litOK:∀(g:Nat){d:Int},d+g=40→0≤d→LitOK (g+1) d
 | 0,d,hg,h0=>c0S hg h0 (factOK 0 hg h0).expr fun g' e=>by omega
 | g+1,d,hg,h0=>c0S hg h0 (factOK (g+1) hg h0).expr fun g' e=>by
  obtain rfl:g=g':=by omega
  exact litOK g (by omega) (by omega)
end Go.Proofs.YthklmeihgmcljaaGreatDoor
