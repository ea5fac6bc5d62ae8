/- Parsing: statements, declarations, programs: the program's reader answers what the plain one does. Contracts off the printed formulas. -/
import Derived.Test.YtoflkliecagjcaaGreatDooryBX5
namespace Go.Proofs.YtoflkliecagjcaaGreatDoor
open Go.RowKit
set_option maxRecDepth 100000
set_option maxHeartbeats 2000000
theorem u5.snoc{α β:Type}{R:α→β→Prop}{xs:List α}{ys:List β}{x:α}{y:β}(h:u5 R xs ys)(r:R x y):u5 R (xs++[x]) (ys++[y]):=h.app (u5.one r)
theorem a7a{α β γ:Type}{p:PM α}{f:α→PM β}{h:β→PM γ}{r:List Tok}:bindP (bindP p f) h r=bindP p (fun a=>bindP (f a) h) r:=by
 unfold bindP
 dsimp only
 cases p r<;>rfl
theorem b2x{α β:Type}{p q:PM α}{f:α→PM β}{r r':List Tok}(h:p r=q r'):bindP p f r=bindP q f r':=by
 unfold bindP;rw [h]
variable  [PanQ]
omit [PanQ] in
theorem b5m{st:PM PT}{stop:List Tok→Bool}{n:Nat}{l:List PT}{r:List Tok}(h:stop r=false):stmtsF stop st (n+1) l r=bindP st (fun s=>stmtsF stop st n (l++[s])) r:=by
 conv=>lhs;unfold stmtsF
 rw [if_neg (by rw [h];decide)]
section
variable {g:Nat}{d:Int}{H:Hp}{x:a8}{r:List Tok}
theorem b8P(hg:d+g=40)(ih:∀g',g=g'+1→StmtOK (g'+1) (d+1))(h:Rd H x r){K:d9→a8→Hp→Prop}(k:Res H x SH (stmtP g r) K):O7 x H (fun a b=>C8 x (d+1) a b (fun c=>T7 x (d+1) c K)):=by
 refine c6s h (a9K h (fun c=>?_) (fun c c2=>?_) fun c c2=>?_)
 ·rw [c6x c] at k;exact k
 ·obtain rfl:g=0:=by omega
  rw [c2o c] at k;exact k
 ·obtain ⟨g',rfl⟩:∃g',g=g'+1:=⟨g-1,by omega⟩
  exact ih g' rfl h c k
theorem b4l(hg:d+g=40)(h0:0≤d)(ih:∀g',g=g'+1→StmtOK (g'+1) (d+1))(h:Rd H x r){γ δ:Type}{R2:Hp→γ→δ→Prop}{f:List PT→PM δ}{K:γ→a8→Hp→Prop}{K1:Sl→a8→Hp→Prop}
  (k:Res H x R2 (bindP (blockOf (stmtP g)) f r) K) (h1:∀b r' H' s ss x',Hle H H'→SlH H' 6 k7 s ss→ss.length≤big→u5 (SH H') ss b→Rd H' x' r'→x'.fl=x.fl→Res H' x' R2 (f b r') K→K1 s x' H'):S9 x d H K1:=by
 refine a8g _ _ ?_
 unfold a3W
 have e0:bindP (blockOf (stmtP g)) f r=bindP (mustP ⟨#[123]⟩) (fun _=>bindP (fun r=>stmtsF (isT ⟨#[125]⟩) (stmtP g) r.length [] r) fun l r=>f l r.tail) r:=by
  unfold blockOf
  rw [a7a]
  cases hm:mustP ⟨#[123]⟩ r with
  | error y=>rw [R0 hm,R0 hm]
  | ok y=>
   rw [a2v hm,a2v hm,a7a]
   rfl
 rw [e0] at k
 refine a3r h k fun r1 H1 x1 l1' rd1 e1 k1=>?_
 generalize ho:bindP (fun r=>stmtsF (isT ⟨#[125]⟩) (stmtP g) r.length [] r) (fun l r=>f l r.tail) r1=o at k1
 have hb1:=rd1.big
 refine U6 (fun(z:List d9×a8) H'=>∃(l:List PT)(r':List Tok)(n:Nat),Hle H1 H'∧u5 (SH H') z.1 l∧Rd H' z.2 r'∧z.2.fl=x1.fl∧l.length+r'.length≤r1.length∧r'.length≤n∧bindP (stmtsF (isT ⟨#[125]⟩) (stmtP g) n l) (fun l r=>f l r.tail) r'=o) (fun z=>((z.2.fl.n:Int)-z.2.fn).toNat) ⟨[],r1,r1.length,Hle.refl _,u5.nil,rd1,rfl,by simp,Nat.le_refl _,ho⟩ ?_
 rintro ⟨zs,x2⟩ H2 next ⟨l,r2,n,l2,rel,rd2,e2,hlen,hn,ho2⟩ hk
 dsimp only at rel rd2 e2
 unfold a0m
 dsimp only
 rw [b3k h0 (by omega)]
 have hz:=rel.1
 refine a2F rd2 (fun c x3 rd3 e3=>⟨fun q=>(by cases q),fun _=>?_⟩) fun c=>⟨fun _=>?_,fun q=>(by cases q)⟩
 ·unfold a0l
  intro s H3 l3 hs _
  have:stmtsF (isT ⟨#[125]⟩) (stmtP g) n l r2=.ok (l,r2):=by
   cases n with
   | zero=>rfl
   | succ n=>unfold stmtsF;rw [if_pos c]
  rw [a2v this] at ho2
  subst ho2
  exact h1 l _ H3 s zs x3 ((l1'.trans l2).trans l3) hs (by simp only [big];omega) (rel.mono fun _ _ q=>q.le l3) (rd3.le l3) ((e3.trans e2).trans e1) (Res.next (γ:=Unit) (l2.trans l3) (e3.trans e2) k1)
 ·have hr2:r2.length≠0:=fun e=>rd2.wf.ne (List.length_eq_zero_iff.1 e)
  obtain ⟨n,rfl⟩:∃m,n=m+1:=⟨n-1,by omega⟩
  have e4:bindP (stmtsF (isT ⟨#[125]⟩) (stmtP g) (n+1) l) (fun l r=>f l r.tail) r2=bindP (stmtP g) (fun s=>bindP (stmtsF (isT ⟨#[125]⟩) (stmtP g) n (l++[s])) (fun l r=>f l r.tail)) r2:=by
   exact (b2x (b5m c)).trans a7a
  rw [e4] at ho2
  rw [←ho2] at k1
  refine b8P hg ih rd2 (Res.bind (Res.next (γ:=Unit) l2 e2 k1) fun b r3 H3 v x3 hb l3 rb rd3 e3 k3=>?_)
  have hlt:=b2w g _ _ _ hb
  have m2:=rd2.len
  have m3:=rd3.len
  refine ⟨by simp;omega,hk _ _ ⟨l++[b],r3,n,l2.trans l3,(rel.mono fun _ _ q=>q.le l3).snoc rb,rd3,e3.trans e2,by simp;omega,by omega,?_⟩ (by dsimp only;omega)⟩
  rw [←ho2,a2v hb]
theorem b3l(h:Rd H x r){kk:Int}{nm:ByteArray}{xs:List f8}{ys:List i7}{es cs:List PT}{p:b7}{q:d9}(hx:u5 (EH H) xs es)(hy:u5 (CH H) ys cs)(lx:xs.length≤100)(ly:ys.length≤100){K:d9→a8→Hp→Prop}(k:Res H x SH (endS (sX kk nm es cs [] []) r) K):K6 kk nm xs ys (Sl.mk none 0 0) (Sl.mk none 0 0) x p q H K:=by
 unfold K6
 refine a3r h k fun r1 H1 x1 l1' rd1 e1 k1=>?_
 intro s1 H2 l2 hs1 _ s2 H3 l3 hs2 _
 have l:=(l1'.trans l2).trans l3
 exact k1 H3 _ x1 (l2.trans l3) (SHX (hs1.le l3) (by simp only [big];omega) (hx.mono fun _ _ q=>q.le l) hs2 (by simp only [big];omega) (hy.mono fun _ _ q=>q.le l) (SlH.nil _ _ _) (by simp [big]) u5.nil (SlH.nil _ _ _) (by simp [big]) u5.nil _ _) (rd1.le (l2.trans l3)) rfl
theorem c1e(hx:ExprOK (g+1) d)(h:Rd H x r){kk:Int}{nm:ByteArray}{xs:List f8}{es:List PT}{p:b7}{q:d9}(he:u5 (EH H) xs es)(lx:xs.length≤99){K:d9→a8→Hp→Prop}(k:Res H x SH (setS kk nm es (exprP (g+1)) r) K):R5 d kk nm xs [] (Sl.mk none 0 0) (Sl.mk none 0 0) x p q H K:=by
 unfold R5
 refine a3r h k fun r1 H1 x1 l1' rd1 e1 k1=>?_
 refine hx rd1 (Res.bind k1 fun b r2 H2 v x2 _ l2 rb rd2 e2 k2=>?_)
 exact ⟨by simp;omega,b3l rd2 ((he.mono fun _ _ q=>q.le (l1'.trans l2)).snoc rb) u5.nil (by simp;omega) (by simp) k2⟩
theorem b6U(hg:d+g=40)(h0:0≤d)(hx:ExprOK (g+1) d)(hc:CondOK (g+1) d)(ihx:∀g',g=g'+1→FactOK (g'+1) (d+1))(ih:∀g',g=g'+1→StmtOK (g'+1) (d+1)):StmtOK (g+1) d:=by
 intro H x r K h hB k
 refine a8s _ _ ?_
 unfold a4q
 replace k:Res H x SH (stmtS (stmtP g) (exprP g) (exprP (g+1)) (condP (g+1)) r) K:=k
 unfold stmtS at k
 rw [if_neg (by rw [hB];decide)] at k
 refine b3j h (fun q=>absurd q (c6z hB)) fun _ x1 h1 e1=>⟨fun c1=>?_,fun c1=>?_⟩
 ·rw [if_pos c1] at k
  refine a2F h1 (fun c2 x2 h2 e2=>⟨fun _=>?_,fun q=>(by cases q)⟩) fun c2=>⟨fun q=>(by cases q),fun _=>?_⟩
  ·rw [if_pos c2] at k
   refine b4k hg h0 ihx h2 (Res.next (γ:=Unit) (Hle.refl _) (e2.trans e1) k) fun b r' H' v x' l ra rd e kk=>?_
   exact ⟨by simp,c1e hx rd (u5.one ra) (by simp) kk⟩
  ·rw [if_neg (by rw [c2];decide)] at k
   exact c1e hx h1 u5.nil (by simp) (Res.next (γ:=Unit) (Hle.refl _) e1 k)
 rw [if_neg c1] at k
 have kx:∀{o},Res H x SH o K→Res H x1 SH o K:=fun k=>Res.next (γ:=Unit) (Hle.refl _) e1 k
 have nl:∀{H:Hp},SlH H 4 f7 (Sl.mk none 0 0) []:=SlH.nil _ _ _
 have ns:∀{H:Hp},SlH H 6 k7 (Sl.mk none 0 0) []:=SlH.nil _ _ _
 refine ⟨fun c2=>?_,fun c2=>⟨fun c3=>?_,fun c3=>⟨fun c4=>?_,fun c4=>⟨fun c5=>?_,fun c5=>?_⟩⟩⟩⟩
 ·rw [if_pos c2] at k
  refine hc h1 (Res.bind (kx k) fun c r2 H2 v2 x2 _ l2 rc rd2 e2 k2=>?_)
  refine b4l hg h0 ih rd2 k2 fun th r3 H3 s3 ss3 x3 l3 hs3 hb3 rel3 rd3 e3 k3=>?_
  refine a2F rd3 (fun c6 x4 rd4 e4=>⟨fun _=>?_,fun q=>(by cases q)⟩) fun c6=>⟨fun q=>(by cases q),fun _=>?_⟩
  ·rw [if_pos c6] at k3
   refine b4l hg h0 ih rd4 (Res.next (γ:=Unit) (Hle.refl _) e4 k3) fun el r5 H5 s5 ss5 x5 l5 hs5 hb5 rel5 rd5 e5 k5=>?_
   unfold R4
   intro s H6 l6 hs _
   exact k5 H6 _ x5 l6 (SHX nl (by simp [big]) u5.nil hs (by simp [big]) (u5.one (rc.le ((l3.trans l5).trans l6))) (hs3.le (l5.trans l6)) hb3 (rel3.mono fun _ _ q=>q.le (l5.trans l6)) (hs5.le l6) hb5 (rel5.mono fun _ _ q=>q.le l6) _ _) (rd5.le l6) rfl
  ·rw [if_neg (by rw [c6];decide)] at k3
   unfold R4
   intro s H6 l6 hs _
   exact k3 H6 _ x3 l6 (SHX nl (by simp [big]) u5.nil hs (by simp [big]) (u5.one (rc.le (l3.trans l6))) (hs3.le l6) hb3 (rel3.mono fun _ _ q=>q.le l6) ns (by simp [big]) u5.nil _ _) (rd3.le l6) rfl
 ·rw [if_neg c2,if_pos c3] at k
  refine hc h1 (Res.bind (kx k) fun c r2 H2 v2 x2 _ l2 rc rd2 e2 k2=>?_)
  refine b4l hg h0 ih rd2 k2 fun th r3 H3 s3 ss3 x3 l3 hs3 hb3 rel3 rd3 e3 k3=>?_
  intro s H6 l6 hs _
  exact k3 H6 _ x3 l6 (SHX nl (by simp [big]) u5.nil hs (by simp [big]) (u5.one (rc.le (l3.trans l6))) (hs3.le l6) hb3 (rel3.mono fun _ _ q=>q.le l6) ns (by simp [big]) u5.nil _ _) (rd3.le l6) rfl
 ·rw [if_neg c2,if_neg c3,if_pos c4] at k
  refine hc h1 (Res.bind (kx k) fun c r2 H2 v2 x2 _ l2 rc rd2 e2 k2=>?_)
  exact b3l rd2 u5.nil (u5.one rc) (by simp) (by simp) k2
 ·rw [if_neg c2,if_neg c3,if_neg c4,if_pos c5] at k
  refine hc h1 (Res.bind (kx k) fun c r2 H2 v2 x2 _ l2 rc rd2 e2 k2=>?_)
  exact b3l rd2 u5.nil (u5.one rc) (by simp) (by simp) k2
 ·rw [if_neg c2,if_neg c3,if_neg c4,if_neg c5] at k
  exact b3l h1 u5.nil u5.nil (by simp) (by simp) (kx k)
end
theorem stmtOK:∀(g:Nat){d:Int},d+g=40→0≤d→StmtOK (g+1) d
 | 0,d,hg,h0=>b6U hg h0 (factOK 0 hg h0).expr (litOK 0 hg h0).cond (fun g' e=>by omega) fun g' e=>by omega
 | g+1,d,hg,h0=>b6U hg h0 (factOK (g+1) hg h0).expr (litOK (g+1) hg h0).cond
   (fun g' e=>by
    obtain rfl:g=g':=by omega
    exact factOK g (by omega) (by omega)) fun g' e=>by
  obtain rfl:g=g':=by omega
  exact stmtOK g (by omega) (by omega)
section
variable {H:Hp}{x:a8}{r:List Tok}
theorem c9t(h:Rd H x r)(hk:(hd r).d6≠5){K:i6→a8→Hp→Prop}(k:Res H x (fun _ v b=>v=b) (declP (isT tArr r) r.tail) K):a1Q x H K:=by
 refine a8I _ (b7D h ?_)
 unfold declP at k
 have h1:=h.up hk
 generalize hx1:a8.mk x.fl (IntKind.wrap .i64 (x.fn+1))=x1 at h1 ⊢
 have e1:x1.fl=x.fl:=by rw [←hx1]
 refine c9o h1 (by decide) (fun c=>?_) fun c x2 h2 e2=>?_
 ·rw [if_pos c] at k;exact k
 rw [if_neg (by intro q;exact q c)] at k
 refine ⟨fun c3=>?_,fun c3=>?_⟩
 ·rw [if_pos c3] at k
  refine a3r h2 (Res.next (γ:=Unit) (Hle.refl _) (e2.trans e1) k) fun r3 H3 x3 l3 rd3 e3 k3=>?_
  refine a2Y rd3 ⟨fun c4=>?_,fun c4=>?_⟩
  ·rw [if_pos c4] at k3;exact a5B rd3 k3
  ·rw [if_neg (by rw [c4];decide)] at k3
   unfold W5
   have hne:(hd r3).d6≠5:=fun e=>by rw [e] at c4;simp at c4
   refine b3j rd3 (fun q=>absurd q hne) fun _ x4 h4 e4=>?_
   refine a3r h4 (Res.next (γ:=Unit) (Hle.refl _) e4 k3) fun r5 H5 x5 l5 rd5 e5 k5=>?_
   unfold R6
   exact a3r rd5 k5 fun r6 H6 x6 l6 rd6 e6 k6=>k6 H6 _ x6 (Hle.refl _) rfl rd6 rfl
 ·rw [if_neg (by rw [c3];decide)] at k
  unfold R6
  exact a3r h2 (Res.next (γ:=Unit) (Hle.refl _) (e2.trans e1) k) fun r6 H6 x6 l6 rd6 e6 k6=>k6 H6 _ x6 (Hle.refl _) rfl rd6 rfl
theorem c9u(h:Rd H x r){K:g9→a8→Hp→Prop}(k:Res H x PH (progP r) K):a1R x H K:=by
 refine a8J _ ?_
 unfold a4x
 generalize ho:progP r=o at k
 have hb:=h.big
 have ho:bindP (declsF r.length []) (fun ds=>bindP (fun r=>stmtsF endB (stmtP 40) r.length [] r) fun b=>pureP (PP.mk ds b)) r=o:=ho
 refine U6 (fun(z:List i6×List d9×g9×a8) H'=>z.2.1=[]∧∃(r':List Tok)(n:Nat),Hle H H'∧Rd H' z.2.2.2 r'∧z.2.2.2.fl=x.fl∧z.1.length+r'.length≤r.length∧r'.length≤n∧bindP (declsF n z.1) (fun ds=>bindP (fun r=>stmtsF endB (stmtP 40) r.length [] r) fun b=>pureP (PP.mk ds b)) r'=o) (fun z=>((z.2.2.2.fl.n:Int)-z.2.2.2.fn).toNat) ⟨rfl,r,r.length,Hle.refl _,h,rfl,by simp,Nat.le_refl _,ho⟩ ?_
 rintro ⟨ds,ss,p,x2⟩ H2 next ⟨e0,r2,n,l2,rd2,e2,hlen,hn,ho2⟩ hk
 dsimp only at e0 rd2 e2 hlen ho2
 subst e0
 unfold a0G
 dsimp only
 refine b7D rd2 (a5C rd2 ?_)
 rw [b7E]
 have hr2:r2.length≠0:=fun e=>rd2.wf.ne (List.length_eq_zero_iff.1 e)
 obtain ⟨n,rfl⟩:∃m,n=m+1:=⟨n-1,by omega⟩
 refine ⟨fun c=>?_,fun c=>?_⟩
 ·have hne:(hd r2).d6≠5:=by
   rcases Bool.or_eq_true_iff.1 c with q | q<;>exact a6Z q
  have ht:=a3S hne
  have e4:bindP (declsF (n+1) ds) (fun ds=>bindP (fun r=>stmtsF endB (stmtP 40) r.length [] r) fun b=>pureP (PP.mk ds b)) r2=bindP (declP (isT tArr r2)) (fun d=>bindP (declsF n (ds++[d])) (fun ds=>bindP (fun r=>stmtsF endB (stmtP 40) r.length [] r) fun b=>pureP (PP.mk ds b))) r2.tail:=by
   have:declsF (n+1) ds r2=bindP (declP (isT tArr r2)) (fun d=>declsF n (ds++[d])) r2.tail:=by
    conv=>lhs;unfold declsF
    rw [if_pos c]
   exact (b2x this).trans a7a
  rw [e4] at ho2
  rw [←ho2] at k
  refine c9t rd2 hne (Res.bind (Res.next (γ:=Unit) l2 e2 k) fun b r3 H3 v x3 hb3 l3 rb rd3 e3 k3=>?_)
  subst rb
  have hlt:=c4C _ _ _ _ hb3
  have m2:=rd2.len
  have m3:=rd3.len
  refine ⟨by simp;omega,hk _ _ ⟨rfl,r3,n,l2.trans l3,rd3,e3.trans e2,by simp;omega,by omega,?_⟩ (by dsimp only;omega)⟩
  rw [←ho2,a2v hb3]
 ·have:declsF (n+1) ds r2=.ok (ds,r2):=by
   conv=>lhs;unfold declsF
   rw [if_neg (by rw [c];decide)]
  rw [a2v this] at ho2
  have ho2:bindP (stmtsF endB (stmtP 40) r2.length []) (fun b=>pureP (PP.mk ds b)) r2=o:=ho2
  unfold a0F
  refine U6 (fun(z:a8×List d9×g9) H'=>∃(l:List PT)(r':List Tok)(n:Nat),Hle H2 H'∧u5 (SH H') z.2.1 l∧Rd H' z.1 r'∧z.1.fl=x2.fl∧l.length+r'.length≤r2.length∧r'.length≤n∧bindP (stmtsF endB (stmtP 40) n l) (fun b=>pureP (PP.mk ds b)) r'=o) (fun z=>((z.1.fl.n:Int)-z.1.fn).toNat) ⟨[],r2,r2.length,Hle.refl _,u5.nil,rd2,rfl,by simp,Nat.le_refl _,ho2⟩ ?_
  rintro ⟨x3,zs,p3⟩ H3 next3 ⟨l,r3,n3,l3,rel,rd3,e3,hlen3,hn3,ho3⟩ hk3
  dsimp only at rel rd3 e3
  unfold a0E
  dsimp only
  have hz:=rel.1
  have hr3:r3.length≠0:=fun e=>rd3.wf.ne (List.length_eq_zero_iff.1 e)
  obtain ⟨n3,rfl⟩:∃m,n3=m+1:=⟨n3-1,by omega⟩
  refine a2Y rd3 ⟨fun c5=>?_,fun c5=>?_⟩
  ·have cs:endB r3=false:=decide_eq_false c5
   have e4:bindP (stmtsF endB (stmtP 40) (n3+1) l) (fun b=>pureP (PP.mk ds b)) r3=bindP (stmtP 40) (fun s=>bindP (stmtsF endB (stmtP 40) n3 (l++[s])) (fun b=>pureP (PP.mk ds b))) r3:=by
    exact (b2x (b5m cs)).trans a7a
   rw [e4] at ho3
   rw [←ho3] at k
   refine b8P (g:=40) (d:=0) (by omega) (fun g' e=>by have e9:g'=39:=(by omega);subst e9;exact stmtOK 39 (by omega) (by omega)) rd3 (Res.bind (Res.next (γ:=Unit) (l2.trans l3) (e3.trans e2) k) fun b r4 H4 v x4 hb4 l4 rb rd4 e4' k4=>?_)
   have hlt:=b2w 40 _ _ _ hb4
   have m3:=rd3.len
   have m4:=rd4.len
   refine ⟨by simp;omega,hk3 _ _ ⟨l++[b],r4,n3,l3.trans l4,(rel.mono fun _ _ q=>q.le l4).snoc rb,rd4,e4'.trans e3,by simp;omega,by omega,?_⟩ (by dsimp only;omega)⟩
   rw [←ho3,a2v hb4]
  ·have cs:endB r3=true:=decide_eq_true c5
   have:stmtsF endB (stmtP 40) (n3+1) l r3=.ok (l,r3):=by unfold stmtsF;rw [if_pos cs]
   rw [a2v this] at ho3
   subst ho3
   unfold a0D
   intro s1 H4 l4 hs1 _ s2 H5 l5 hs2 _
   have l45:=l4.trans l5
   exact k H5 _ x3 ((l2.trans l3).trans l45) ⟨hs1.le l5,by simp only [big];omega,zs,hs2,by simp only [big];omega,rel.mono fun _ _ q=>q.le l45⟩ (rd3.le l45) (e3.trans e2)
end
end Go.Proofs.YtoflkliecagjcaaGreatDoor
