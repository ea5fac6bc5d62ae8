/- Parsing: the document's reader answers what the plain one does: statements, declarations. Contracts off the printed formulas. -/
import Derived.Test.YthklmeihgmcljaaGreatDoorzEX7
namespace Go.Proofs.YthklmeihgmcljaaGreatDoor
open Go.RowKit
set_option maxRecDepth 100000
set_option maxHeartbeats 2000000
theorem c6A{s:ByteArray}{r:List Tok}(h:isT s r=true)(h1:s≠⟨#[105,102]⟩)(h2:s≠⟨#[119,104,105,108,101]⟩)(h3:s≠⟨#[97,115,115,101,114,116]⟩)(h4:s≠⟨#[97,115,115,117,109,101]⟩)(h5:s≠⟨#[115,107,105,112]⟩):stmtB r=false:=by
 unfold stmtB
 rw [a8b h h1,a8b h h2,a8b h h3,a8b h h4,a8b h h5,decide_eq_false (show ¬(hd r).d8=1 by rcases b7j h with e | e<;>omega)]
 rfl
theorem d1e{r:List Tok}(h:(hd r).d8≠1)(hB:stmtB r=true)(h1:isT ⟨#[105,102]⟩ r=false)(h2:isT ⟨#[119,104,105,108,101]⟩ r=false)(h3:isT ⟨#[97,115,115,101,114,116]⟩ r=false)(h4:isT ⟨#[97,115,115,117,109,101]⟩ r=false)(h5:isT ⟨#[115,107,105,112]⟩ r=false):False:=by
 unfold stmtB at hB
 rw [h1,h2,h3,h4,h5,decide_eq_false h] at hB
 cases hB
def StmtG(g:Nat)(d:Int):Prop:=∀⦃H:Hp⦄ ⦃x:RD4⦄ ⦃r:List Tok⦄ ⦃K:b9→RD4→Hp→Prop⦄,Rg H x r→stmtB r=true→D9 H x SH (stmtP g r) K→Z3 x d H K
section
variable {H H':Hp}{x:RD4}{r:List Tok}{c:Int}{p:b8}
theorem b9h(h:Rg H x r){K:Bool→Hp→Prop}(k:K (stmtB r) H):TG ((decide (x.fbad=0))=true) (M5 x H) false H K:=
 ⟨fun _=>c6x h k,fun q=>absurd (decide_eq_true h.2) q⟩
theorem b0t(h:Rb H x c p){K:Bool→Hp→Prop}(k:K false H):TG ((decide (x.fbad=0))=true) (M5 x H) false H K:=
 ⟨fun q=>absurd (of_decide_eq_true q) h.bad,fun _=>k⟩
theorem b9i(h:Rb H x c p){d:Int}{K:Sl→RD4→Hp→Prop}(k:∀v H',Hle H H'→K v x H'):N0 x d H K:=by
 refine a4E _ _ (P6 h ?_)
 refine D1 (fun(z:List b9×RD4) H'=>H'=H∧z.2=x) (fun _=>0) ⟨rfl,rfl⟩ ?_
 rintro ⟨e,_⟩ H1 next ⟨rfl,rfl⟩ _
 unfold O8
 refine b0t h ⟨fun q=>(by rw [Bool.and_false] at q;cases q),fun _=>?_⟩
 unfold K4
 exact P6 h fun s H2 l2 _ _=>k s H2 l2
theorem c0W(h:Rb H x c p){d k:Int}{nm:ByteArray}{es:List d9}{s1 s2 s3:Sl}{q:b9}(le:es.length≤10){K:b9→RD4→Hp→Prop}(kk:∀v H',Hle H H'→K v x H'):G0 d x k nm es s1 s2 s3 q H K:=by
 unfold G0
 exact P6 h (c0V h fun v=>⟨by simp;omega,P6 h fun s H2 l2 _ _=>kk _ H2 l2⟩)
end
section
variable {g:Nat}{d:Int}{H:Hp}{x:RD4}{r:List Tok}
theorem b5X(hg:d+g=41)(h0:0≤d)(ih:∀g',g=g'+1→StmtG (g'+1) d)(h:Rg H x r){γ δ:Type}{R2:Hp→γ→δ→Prop}{f:List PT→PM δ}{K:γ→RD4→Hp→Prop}{K1:Sl→RD4→Hp→Prop}
  (k:D9 H x R2 (bindP (blockOf (stmtP g)) f r) K) (h1:∀b r' H' s ss x',Hle H H'→SlH H' 6 m6 s ss→ss.length≤big→u2 (SH H') ss b→Rg H' x' r'→x'.fl=x.fl→D9 H' x' R2 (f b r') K→K1 s x' H')
  (hb:∀c p H' v x',Hle H H'→Rb H' x' c p→(∀H'' w,Hle H' H''→K w x' H'')→K1 v x' H'):N0 x d H K1:=by
 refine a4E _ _ ?_
 unfold a4D
 have e0:bindP (blockOf (stmtP g)) f r=bindP (mustP ⟨#[123]⟩) (fun _=>bindP (fun r=>stmtsF (isT ⟨#[125]⟩) (stmtP g) r.length [] r) fun l r=>f l r.tail) r:=by
  unfold blockOf
  rw [a2W]
  cases hm:mustP ⟨#[123]⟩ r with
  | error y=>rw [D4 hm,D4 hm]
  | ok y=>
   rw [Q0 hm,Q0 hm,a2W]
   rfl
 rw [e0] at k
 refine a0G h k (fun r1 x1 rd1 e1 k1=>?_) fun c p x1 rb kb=>?_
 rotate_left
 ·refine D1 (fun(z:List b9×RD4) H'=>H'=H∧z.2=x1) (fun _=>0) ⟨rfl,rfl⟩ ?_
  rintro ⟨e,_⟩ H1 next ⟨rfl,rfl⟩ _
  unfold O8
  refine b0t rb ⟨fun q=>(by rw [Bool.and_false] at q;cases q),fun _=>?_⟩
  unfold K4
  exact P6 rb fun s H2 l2 _ _=>hb c p H2 s _ l2 (rb.le l2) fun H'' w l3=>kb _ _ (l2.trans l3)
 generalize ho:bindP (fun r=>stmtsF (isT ⟨#[125]⟩) (stmtP g) r.length [] r) (fun l r=>f l r.tail) r1=o at k1
 have hb1:=rd1.big
 refine D1 (fun(z:List b9×RD4) H'=>Hle H H'∧z.2.fl=x1.fl∧((∃(l:List PT)(r':List Tok)(n:Nat),u2 (SH H') z.1 l∧Rg H' z.2 r'∧l.length+r'.length≤r1.length∧r'.length≤n∧bindP (stmtsF (isT ⟨#[125]⟩) (stmtP g) n l) (fun l r=>f l r.tail) r'=o)∨∃c p,Rb H' z.2 c p∧o=.error (c,p))) (fun z=>if z.2.fbad=0 then ((z.2.fl.n:Int)-z.2.fat).toNat+1 else 0) ⟨Hle.refl _,rfl,.inl ⟨[],r1,r1.length,u2.nil,rd1,by simp,Nat.le_refl _,ho⟩⟩ ?_
 rintro ⟨zs,x2⟩ H2 next ⟨l2,e2,hz⟩ hk
 dsimp only at e2 hz
 unfold O8
 dsimp only
 rcases hz with ⟨l,r2,n,rel,rd2,hlen,hn,ho2⟩ | ⟨c,p,rb,rfl⟩
 rotate_left
 ·refine b0t rb ⟨fun q=>(by rw [Bool.and_false] at q;cases q),fun _=>?_⟩
  unfold K4
  exact P6 rb fun s H3 l3 _ _=>hb c p H3 s _ (l2.trans l3) (rb.le l3) fun H'' w l4=>k1 H'' w x2 ((l2.trans l3).trans l4) (rb.le (l3.trans l4)) e2
 have hzl:=rel.1
 have b2:=rd2.2
 have m2:=rd2.len
 have hr2:r2.length≠0:=fun e=>rd2.wf.ne (List.length_eq_zero_iff.1 e)
 obtain ⟨n,rfl⟩:∃m,n=m+1:=⟨n-1,by omega⟩
 have go:isT ⟨#[125]⟩ r2=false→bindP (stmtsF (isT ⟨#[125]⟩) (stmtP g) (n+1) l) (fun l r=>f l r.tail) r2=bindP (stmtP g) (fun s=>bindP (stmtsF (isT ⟨#[125]⟩) (stmtP g) n (l++[s])) (fun l r=>f l r.tail)) r2:=fun c=>(a9u (b2E c)).trans a2W
 refine b9h rd2 ?_
 rw [b2]
 show (_→_)∧(_→_)
 simp only [decide_true,Bool.true_and]
 refine ⟨fun c=>?_,fun c=>?_⟩
 ·have c':isT ⟨#[125]⟩ r2=false:=by
   cases q:isT ⟨#[125]⟩ r2 with
   | false=>rfl
   | true=>
    have:=c6A q (by decide) (by decide) (by decide) (by decide) (by decide)
    rw [this] at c;cases c
  rw [go c'] at ho2
  refine b4D rd2 (fun c2 x3 rb e3=>⟨fun q=>absurd q rb.bad,fun _=>?_⟩) fun c2=>⟨fun _=>?_,fun q=>absurd b2 q⟩
  ·obtain rfl:g=0:=by omega
   rw [D4 (b7X c)] at ho2
   refine hk _ _ ⟨l2,e3.trans e2,.inr ⟨_,_,rb,ho2.symm⟩⟩ ?_
   dsimp only
   rw [if_neg rb.bad,if_pos b2]
   omega
  ·obtain ⟨g',rfl⟩:∃g',g=g'+1:=⟨g-1,by omega⟩
   rw [←ho2] at k1
   refine ih g' rfl rd2 c (D9.bind (D9.next (γ:=Unit) l2 e2 k1) (fun b r3 H3 v x3 eb l3 rb rd3 e3 k3=>?_) fun c p H3 v x3 l3 rb kb eb e3=>?_)
   ·have hlt:=b1L _ _ _ _ eb
    have m3:=rd3.len
    have b3:=rd3.2
    refine ⟨by simp;omega,hk _ _ ⟨l2.trans l3,e3.trans e2,.inl ⟨l++[b],r3,n,(rel.mono fun _ _ q=>q.le l3).snoc rb,rd3,by simp;omega,by omega,by rw [←ho2,Q0 eb]⟩⟩ ?_⟩
    dsimp only
    rw [if_pos b3,if_pos b2]
    omega
   ·refine ⟨by simp;omega,hk _ _ ⟨l2.trans l3,e3.trans e2,.inr ⟨c,p,rb,by rw [←ho2,D4 eb]⟩⟩ ?_⟩
    dsimp only
    rw [if_neg rb.bad,if_pos b2]
    omega
 ·unfold K4
  refine a1B _ _ (a0F rd2 (fun c2 x3 rd3 e3=>⟨fun q=>(by cases q),fun _=>?_⟩) fun c2=>⟨fun _=>a4T rd2 (by decide) fun x3 rb e3=>?_,fun q=>(by cases q)⟩)
  ·intro s H3 l3 hs _
   have:stmtsF (isT ⟨#[125]⟩) (stmtP g) (n+1) l r2=.ok (l,r2):=by unfold stmtsF;rw [if_pos c2]
   rw [Q0 this] at ho2
   subst ho2
   exact h1 l _ H3 s zs x3 (l2.trans l3) hs (by simp only [big];omega) (rel.mono fun _ _ q=>q.le l3) (rd3.le l3) ((e3.trans e2).trans e1) (D9.next (γ:=Unit) (l2.trans l3) (e3.trans e2) k1)
  ·intro s H3 l3 _ _
   rw [go c2,D4 (b7l c)] at ho2
   subst ho2
   exact hb _ _ H3 s x3 (l2.trans l3) (rb.le l3) fun H'' w l4=>k1 H'' w x3 ((l2.trans l3).trans l4) (rb.le (l3.trans l4)) (e3.trans e2)
theorem c2Y(hc:CondG g d)(h:Rg H x r){kk:Int}{K:b9→RD4→Hp→Prop}(k:D9 H x SH (bindP (condP g) (fun c=>endS (sX kk ⟨#[]⟩ [] [c] [] [])) r) K):Z2 x kk d H K:=by
 refine a9L _ _ _ (hc h (D9.bind k (fun b r' H' v x' _ l ra rd e kk=>?_) fun c p H' v x' l rb kb _ _=>P6 rb ?_))
 ·refine a0G rd kk (fun r2 x2 rd2 e2 k2=>?_) fun c p x2 rb kb=>?_
  ·intro s H3 l3 hs _
   exact k2 H3 _ x2 l3 (SHX (SlH.nil _ _ _) (by simp [big]) u2.nil hs (by simp [big]) (u2.one (ra.le l3)) (SlH.nil _ _ _) (by simp [big]) u2.nil (SlH.nil _ _ _) (by simp [big]) u2.nil _ _) (rd2.le l3) rfl
  ·intro s H3 l3 hs _
   exact kb _ _ l3
 ·intro s H3 l3 hs _
  exact kb _ _ l3
theorem c2Z(hx:ExprG (g+1) d)(h:Rg H x r){kk:Int}{nm:ByteArray}{xs:List d9}{es:List PT}{q:b9}(he:u2 (EH H) xs es)(lx:xs.length≤10){K:b9→RD4→Hp→Prop}(k:D9 H x SH (setS kk nm es (exprP (g+1)) r) K):G0 d x kk nm xs (Sl.mk none 0 0) (Sl.mk none 0 0) (Sl.mk none 0 0) q H K:=by
 unfold G0
 refine a0G h k (fun r1 x1 rd1 e1 k1=>?_) fun c p x1 rb kb=>c0V rb fun v=>⟨by simp;omega,P6 rb fun s H2 l2 _ _=>kb _ _ l2⟩
 refine hx rd1 (D9.bind k1 (fun b r2 H2 v x2 _ l2 rb rd2 e2 k2=>⟨by simp;omega,?_⟩) fun c p H2 v x2 l2 rb kb _ _=>⟨by simp;omega,P6 rb fun s H3 l3 _ _=>kb _ _ l3⟩)
 refine a0G rd2 k2 (fun r3 x3 rd3 e3 k3=>?_) fun c p x3 rb kb=>fun s H3 l3 _ _=>kb _ _ l3
 intro s H3 l3 hs _
 exact k3 H3 _ x3 l3 (SHX hs (by simp [big];omega) ((he.mono fun _ _ q=>q.le (l2.trans l3)).snoc (rb.le l3)) (SlH.nil _ _ _) (by simp [big]) u2.nil (SlH.nil _ _ _) (by simp [big]) u2.nil (SlH.nil _ _ _) (by simp [big]) u2.nil _ _) (rd3.le l3) rfl
theorem b8a(hg:d+g=40)(h0:0≤d)(hx:ExprG (g+1) d)(hc:CondG (g+1) d)(hs:ExprG g (d+1))(ih:∀g',g=g'+1→StmtG (g'+1) (d+1)):StmtG (g+1) d:=by
 intro H x r K h hB k
 refine a9D _ _ ?_
 unfold a5g
 rw [b1n h0 (by omega)]
 replace k:D9 H x SH (stmtS (stmtP g) (exprP g) (exprP (g+1)) (condP (g+1)) r) K:=k
 unfold stmtS at k
 rw [if_neg (by rw [hB];decide)] at k
 have nk:∀{s:ByteArray},isT s r=true→¬(hd r).d8=1:=fun q e=>by rcases b7j q with q | q<;>omega
 have nl:∀{H:Hp},SlH H 4 g7 (Sl.mk none 0 0) []:=SlH.nil _ _ _
 have ns:∀{H:Hp},SlH H 6 m6 (Sl.mk none 0 0) []:=SlH.nil _ _ _
 have nt:∀{s s':ByteArray},isT s r=true→s≠s'→¬(hd r).C3=s':=fun q n e=>n ((b1l q).symm.trans e)
 refine a0F h (fun c1 x1 h1 e1=>⟨fun _=>?_,fun q=>(by cases q)⟩) fun c1=>⟨fun q=>(by cases q),fun _=>?_⟩
 ·rw [if_neg (nk c1),if_neg (nt c1 (by decide)),if_neg (nt c1 (by decide)),if_neg (nt c1 (by decide)),if_neg (nt c1 (by decide))] at k
  refine a0G h1 (D9.next (γ:=Unit) (Hle.refl _) e1 k) (fun r2 x2 rd2 e2 k2=>?_) fun c p x2 rb kb=>kb _ _ (Hle.refl _)
  exact k2 _ _ x2 (Hle.refl _) (SHX nl (by simp [big]) u2.nil (SlH.nil _ _ _) (by simp [big]) u2.nil ns (by simp [big]) u2.nil ns (by simp [big]) u2.nil _ _) rd2 rfl
 refine a0F h (fun c2 x1 h1 e1=>⟨fun _=>?_,fun q=>(by cases q)⟩) fun c2=>⟨fun q=>(by cases q),fun _=>?_⟩
 ·rw [if_neg (nk c2),if_neg (nt c2 (by decide)),if_neg (nt c2 (by decide)),if_pos (b1l c2)] at k
  exact c2Y hc h1 (D9.next (γ:=Unit) (Hle.refl _) e1 k)
 refine a0F h (fun c3 x1 h1 e1=>⟨fun _=>?_,fun q=>(by cases q)⟩) fun c3=>⟨fun q=>(by cases q),fun _=>?_⟩
 ·rw [if_neg (nk c3),if_neg (nt c3 (by decide)),if_neg (nt c3 (by decide)),if_neg (nt c3 (by decide)),if_pos (b1l c3)] at k
  exact c2Y hc h1 (D9.next (γ:=Unit) (Hle.refl _) e1 k)
 refine a0F h (fun c4 x1 h1 e1=>⟨fun _=>?_,fun q=>(by cases q)⟩) fun c4=>⟨fun q=>(by cases q),fun _=>?_⟩
 ·rw [if_neg (nk c4),if_neg (nt c4 (by decide)),if_pos (b1l c4)] at k
  refine hc h1 (D9.bind (D9.next (γ:=Unit) (Hle.refl _) e1 k) (fun c r2 H2 v2 x2 _ l2 rc rd2 e2 k2=>?_) fun c p H2 v x2 l2 rb kb _ _=>b9i rb fun v H3 l3 s H4 l4 _ _=>kb _ _ (l3.trans l4))
  refine b5X (by omega) (by omega) ih rd2 k2 (fun th r3 H3 s3 ss3 x3 l3 hs3 hb3 rel3 rd3 e3 k3=>?_) fun c p H3 v x3 l3 rb kb=>fun s H4 l4 _ _=>kb _ _ l4
  intro s H6 l6 hs _
  exact k3 H6 _ x3 l6 (SHX nl (by simp [big]) u2.nil hs (by simp [big]) (u2.one (rc.le (l3.trans l6))) (hs3.le l6) hb3 (rel3.mono fun _ _ q=>q.le l6) ns (by simp [big]) u2.nil _ _) (rd3.le l6) rfl
 refine a0F h (fun c5 x1 h1 e1=>⟨fun _=>?_,fun q=>(by cases q)⟩) fun c5=>⟨fun q=>(by cases q),fun _=>?_⟩
 ·rw [if_neg (nk c5),if_pos (b1l c5)] at k
  unfold V6
  refine hc h1 (D9.bind (D9.next (γ:=Unit) (Hle.refl _) e1 k) (fun c r2 H2 v2 x2 _ l2 rc rd2 e2 k2=>?_) fun c p H2 v x2 l2 rb kb _ _=>b9i rb fun v H3 l3=>a9l (rb.le l3) ⟨fun q=>(by cases q),fun _=>fun s H4 l4 _ _=>kb _ _ (l3.trans l4)⟩)
  refine b5X (by omega) (by omega) ih rd2 k2 (fun th r3 H3 s3 ss3 x3 l3 hs3 hb3 rel3 rd3 e3 k3=>?_) fun c p H3 v x3 l3 rb kb=>a9l rb ⟨fun q=>(by cases q),fun _=>fun s H4 l4 _ _=>kb _ _ l4⟩
  refine a0F rd3 (fun c6 x4 rd4 e4=>⟨fun _=>?_,fun q=>(by cases q)⟩) fun c6=>⟨fun q=>(by cases q),fun _=>?_⟩
  ·rw [if_pos c6] at k3
   refine b5X (by omega) (by omega) ih rd4 (D9.next (γ:=Unit) (Hle.refl _) e4 k3) (fun el r5 H5 s5 ss5 x5 l5 hs5 hb5 rel5 rd5 e5 k5=>?_) fun c p H5 v x5 l5 rb kb=>fun s H4 l4 _ _=>kb _ _ l4
   intro s H6 l6 hs _
   exact k5 H6 _ x5 l6 (SHX nl (by simp [big]) u2.nil hs (by simp [big]) (u2.one (rc.le ((l3.trans l5).trans l6))) (hs3.le (l5.trans l6)) hb3 (rel3.mono fun _ _ q=>q.le (l5.trans l6)) (hs5.le l6) hb5 (rel5.mono fun _ _ q=>q.le l6) _ _) (rd5.le l6) rfl
  ·rw [if_neg (by rw [c6];decide)] at k3
   intro s H6 l6 hs _
   exact k3 H6 _ x3 l6 (SHX nl (by simp [big]) u2.nil hs (by simp [big]) (u2.one (rc.le (l3.trans l6))) (hs3.le l6) hb3 (rel3.mono fun _ _ q=>q.le l6) ns (by simp [big]) u2.nil _ _) (rd3.le l6) rfl
 have c6:(hd r).d8=1:=Classical.byContradiction fun n=>d1e n hB c5 c4 c2 c3 c1
 rw [if_pos c6] at k
 refine a5n _ (a4j h.1 ⟨fun q=>?_,fun _=>?_⟩)
 ·rw [h.2,c6] at q;simp at q
 have h1:=h.up (by omega)
 have e1:(a8.mk x.fl (IntKind.wrap .i64 (x.fat+1)) x.fbad x.fpos).fl=x.fl:=rfl
 generalize a8.mk x.fl (IntKind.wrap .i64 (x.fat+1)) x.fbad x.fpos=x1 at h1 e1 ⊢
 refine a0F h1 (fun c7 x2 h2 e2=>⟨fun _=>?_,fun q=>(by cases q)⟩) fun c7=>⟨fun q=>(by cases q),fun _=>?_⟩
 ·rw [if_pos c7] at k
  refine hs h2 (D9.bind (D9.next (γ:=Unit) (Hle.refl _) (e2.trans e1) k) (fun b r' H' v x' _ l ra rd e kk=>⟨by simp,?_⟩) fun c p H' v x' l rb kb _ _=>⟨by simp,P6 rb (c0W rb (by simp) fun v H2 l2=>kb _ _ l2)⟩)
  exact a0G rd kk (fun r2 x2 rd2 e2 k2=>c2Z hx rd2 (u2.one ra) (by simp) k2) fun c p x2 rb kb=>c0W rb (by simp) fun v H2 l2=>kb _ _ l2
 ·rw [if_neg (by rw [c7];decide)] at k
  exact c2Z hx h1 u2.nil (by simp) (D9.next (γ:=Unit) (Hle.refl _) e1 k)
end
theorem stmtG:∀(g:Nat){d:Int},d+g=40→0≤d→StmtG (g+1) d
 | 0,d,hg,h0=>b8a hg h0 (FactG.expr (factG 1 (by omega) h0)) (LitG.whole (litG 1 (by omega) h0)) (FactG.expr (factG 0 (by omega) (by omega))) fun g' e=>by omega
 | g+1,d,hg,h0=>b8a hg h0 (FactG.expr (factG (g+2) (by omega) h0)) (LitG.whole (litG (g+2) (by omega) h0)) (FactG.expr (factG (g+1) (by omega) (by omega))) fun g' e=>by
  obtain rfl:g=g':=by omega
  exact stmtG g (by omega) (by omega)
section
variable {H:Hp}{x:RD4}{r:List Tok}
theorem c7R(h:Rg H x r){arr:Bool}{K:m7→RD4→Hp→Prop}(k:D9 H x (fun _ v b=>v=b) (declP arr r) K):a1z x arr H K:=by
 unfold declP at k
 refine a9y _ _ (a5n _ (a4j h.1 ⟨fun q=>?_,fun q=>?_⟩))
 ·have c:(hd r).d8≠1:=by rw [h.2] at q;simpa using q
  rw [if_pos c] at k
  refine a4T h (by decide) fun x' rb e=>⟨fun _=>P6 rb (a4j rb.1.choose_spec ⟨fun q=>?_,fun _=>⟨fun q=>absurd q rb.bad,fun _=>P6 rb (P6 rb (k _ _ x' (Hle.refl _) rb e))⟩⟩),fun _=>P6 rb (k _ _ x' (Hle.refl _) rb e)⟩
  rw [decide_eq_false rb.bad] at q
  cases q
 have c:(hd r).d8=1:=by rw [h.2] at q;simpa using q
 rw [if_neg (fun n=>n c)] at k
 have h1:=h.up (by omega)
 have e1:(a8.mk x.fl (IntKind.wrap .i64 (x.fat+1)) x.fbad x.fpos).fl=x.fl:=rfl
 generalize a8.mk x.fl (IntKind.wrap .i64 (x.fat+1)) x.fbad x.fpos=x1 at h1 e1 ⊢
 refine ⟨fun c3=>?_,fun c3=>?_⟩
 ·rw [if_pos c3] at k
  refine a0G h1 (D9.next (γ:=Unit) (Hle.refl _) e1 k) (fun r3 x3 rd3 e3 k3=>?_) fun c p x3 rb kb=>a4j rb.1.choose_spec ⟨fun q=>?_,fun _=>⟨fun q=>absurd q rb.bad,fun _=>P6 rb (P6 rb (kb _ _ (Hle.refl _)))⟩⟩
  ·refine a4j rd3.1 ?_
   rw [rd3.2]
   refine ⟨fun c4=>?_,fun c4=>?_⟩
   ·have c4':(((!decide ((hd r3).d8=2))||decide ((hd r3).G9 < 1))||decide (2147483647 < (hd r3).G9))=true:=c4
    rw [if_pos c4'] at k3
    exact a4T rd3 (by decide) fun x' rb e=>⟨fun q=>absurd q rb.bad,fun _=>P6 rb (P6 rb (k3 _ _ x' (Hle.refl _) rb e))⟩
   ·have c4':(((!decide ((hd r3).d8=2))||decide ((hd r3).G9 < 1))||decide (2147483647 < (hd r3).G9))=false:=c4
    rw [if_neg (by rw [c4'];decide)] at k3
    have hne:(hd r3).d8≠5:=fun e=>by rw [e] at c4';simp at c4'
    refine ⟨fun _=>?_,fun q=>absurd rd3.2 q⟩
    refine a0G (rd3.up hne) (D9.next (γ:=Unit) (Hle.refl _) rfl k3) (fun r5 x5 rd5 e5 k5=>?_) fun c p x5 rb kb=>P6 rb (kb _ _ (Hle.refl _))
    exact a0G rd5 k5 (fun r6 x6 rd6 e6 k6=>k6 _ _ x6 (Hle.refl _) rfl rd6 rfl) fun c p x6 rb kb=>kb _ _ (Hle.refl _)
  ·rw [decide_eq_false rb.bad] at q
   cases q
 ·rw [if_neg (by rw [c3];decide)] at k
  exact a0G h1 (D9.next (γ:=Unit) (Hle.refl _) e1 k) (fun r6 x6 rd6 e6 k6=>k6 _ _ x6 (Hle.refl _) rfl rd6 rfl) fun c p x6 rb kb=>kb _ _ (Hle.refl _)
end
end Go.Proofs.YthklmeihgmcljaaGreatDoor
