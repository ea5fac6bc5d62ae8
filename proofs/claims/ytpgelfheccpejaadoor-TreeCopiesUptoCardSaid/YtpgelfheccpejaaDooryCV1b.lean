/- Typed formulas of the program's functions, and the theorems that the contracts follow from them; printed by lift.py off the code. -/
import Derived.Test.YtpgelfheccpejaaDooryCV1
namespace Go.Proofs.YtpgelfheccpejaaDoor
open Go.RowKit
set_option maxRecDepth 100000
set_option maxHeartbeats 2000000
def a1R(H:Hp)(K:d4→Hp→Prop):Prop:=
 ∀(e:Sl)(a:Hp),Hle H a→SlH a 4 c7 e [(b8.mk 2 0 ⟨#[120]⟩ (Sl.mk none 0 0)),(b8.mk 1 1 ⟨#[]⟩ (Sl.mk none 0 0))]→NewS H a 41 4 e→
 ∀(f:Sl)(b:Hp),Hle a b→SlH b 4 c7 f [(b8.mk 6 0 ⟨#[]⟩ e)]→NewS a b 41 4 f→
 ∀(g:Sl)(c:Hp),Hle b c→SlH c 2 j8 g [(s7.mk ⟨#[120]⟩ 0)]→NewS b c 45 2 g→
 ∀(i:Sl)(d:Hp),Hle c d→SlH d 6 c5 i [(c6.mk 1 ⟨#[120]⟩ f (Sl.mk none 0 0) (Sl.mk none 0 0) (Sl.mk none 0 0))]→NewS c d 49 6 i→
 K (d4.mk g i) d
theorem a6b{H K}(h:a1R H K):O9 H K:=by
 refine Ct.of fun w0 w ps0 H0 R E I hR=>b8g ?_
 unfold a1R at h
 unfold F12
 refine u4 I Tryd.zeroValue25 (cs:=[(nS),(nS)]) rfl fun aq ar k au=>?_
 refine a6 (b0h _ _) (a6 (b0i _ _) ?_)
 refine a1y (e:=41) (c:=c7) (xs:=[(b8.mk 2 0 ⟨#[120]⟩ (Sl.mk none 0 0)),(b8.mk 1 1 ⟨#[]⟩ (Sl.mk none 0 0))]) k (b7b _ _ _ _ _ _ _ _ _ _ _ _) rfl rfl O1 O2 (nb rfl) fun a av aw l m ax=>?_
 refine a6 (b0j _ _ _ _) ?_
 refine u4 m Tryd.zeroValue41 (cs:=[(vi 0),(vi 0),(eS),(nS)]) rfl fun ay az n ba=>?_
 refine D5 n Tryd.sizeOf41 (vs:=[(vi 6),(vi 0),(eS),(vs a)]) fun bb p bc=>?_
 refine a6 (b2J _) ?_
 refine a1y (e:=45) (c:=j8) (xs:=[(s7.mk ⟨#[120]⟩ 0)]) p (b7c _ _) rfl rfl a2P a5g (nb rfl) fun b bd be q f bf=>?_
 refine b6 (ldA Tryd.isAgg41 Tryd.sizeOf41 rfl ((f.bring 1).at1 (o:=0) (vs:=[(vi 6),(vi 0),(eS),(vs a)]) (nb rfl) rfl)) ?_
 obtain ⟨r,s,t,u,v⟩:=Inv.freezeN (f.bring 2) l (by decide)
 replace h:=h a r t u v
 refine a1y (e:=41) (c:=c7) (xs:=[(b8.mk 6 0 ⟨#[]⟩ a)]) s (a6I _ _ _ _ _ _) rfl rfl O1 O2 (nb rfl) fun g bg bh y z bi=>?_
 refine a6 (a8X _ _ _ _ _) ?_
 obtain ⟨aa,ab,ac,ad,ae⟩:=Inv.freezeN z y (by decide)
 replace h:=h g aa ac ad ae
 refine a1y (e:=49) (c:=c5) (xs:=[(c6.mk 1 ⟨#[120]⟩ g (Sl.mk none 0 0) (Sl.mk none 0 0) (Sl.mk none 0 0))]) ab (a9x _ _ _ _ _ _ _ _ _ _ _ _ _ _) rfl rfl a2Q a2R (nb rfl) fun d bj bk af ag bl=>?_
 refine a6 (a5f _ _ _ _ _ _) ?_
 refine D5 (ag.bring 3) Tryd.sizeOf25 (vs:=[(vs b),(vs d)]) fun bm i bn=>?_
 refine a2T Tryd.isAgg25 Tryd.sizeOf25 rfl i ?_
 obtain ⟨ah,ai,aj,ak,al⟩:=Inv.freezeN (i.bring 2) q (by decide)
 replace h:=h b ah aj ak al
 obtain ⟨j,am,an,ao,ap⟩:=Inv.freezeN (ai.bring 1) af (by decide)
 replace h:=h d j an ao ap
 exact hR _ j _ _ am.drop.drop ⟨(d4.mk b d),rfl,rfl,h⟩
def a2I(x0:s7)(H:Hp)(K:c8→Hp→Prop):Prop:=
 K (c8.J3 (T2.mk x0)) H
theorem a7f(x0){H K}(h:a2I x0 H K):a4q x0 H K:=by
 refine Ct.of fun w0 w ps0 H0 R E I hR=>b8T ?_
 unfold a2I at h
 unfold F51
 refine B2 I (cs:=(j8 x0)) rfl fun b c a d=>?_
 refine b6 (lW Tryd.isAgg45 Tryd.sizeOf45 rfl a) (a6 (b0K _ _) (a6 (b0l (T2.mk x0)) ?_))
 exact hR _ H _ _ a.drop ⟨(c8.J3 (T2.mk x0)),rfl,rfl,h⟩
def a2J(x0:c6)(H:Hp)(K:c8→Hp→Prop):Prop:=
 K (c8.D4 (P0.mk x0)) H
theorem a7g(x0){H K}(h:a2J x0 H K):a4r x0 H K:=by
 refine Ct.of fun w0 w ps0 H0 R E I hR=>b8V ?_
 unfold a2J at h
 unfold F53
 refine B2 I (cs:=(c5 x0)) rfl fun b c a d=>?_
 refine b6 (lW Tryd.isAgg49 Tryd.sizeOf49 rfl a) (a6 (b0L _ _ _ _ _ _ _ _ _ _ _ _ _ _) (a6 (b0m (P0.mk x0)) ?_))
 exact hR _ H _ _ a.drop ⟨(c8.D4 (P0.mk x0)),rfl,rfl,h⟩
def a4g(x0:Int)(x1:Int)(x2:Int)(H:Hp)(K:Bool→Hp→Prop):Prop:=
 K ((decide (x0≤x2))&&(decide (x2≤x1))) H
theorem a6N(x0 x1 x2){H K}(h:a4g x0 x1 x2 H K):J0 x0 x1 x2 H K:=by
 intro g2
 refine Ct.of fun w0 w ps0 H0 R E I hR=>b9o ?_
 unfold a4g at h
 unfold F74
 refine b6 (l1 Tryd.isAgg21 I rfl) (a6 pLe ?_)
 refine b6 (Ld.g fun a=>by exact (l1 Tryd.isAgg21 I rfl)) ?_
 simp only [q9]
 refine a6 (Pu.g fun a=>by simp only [d2 a];with_reducible exact pLe) ?_
 refine a6 (m9 _ _) ?_
 exact hR _ H _ _ I ⟨((decide (x0≤x2))&&(decide (x2≤x1))),rfl,rfl,h⟩
def X3(a4M:Int)(a4N:Int)(a4O:Int)(a4P:Bool)(a4Q:Bool)(a4h:(List ByteArray))(H:Hp)(K:Bool→f8→(List ByteArray)→Hp→Prop):Prop:=
 K true (f8.mk a4M a4N a4O a4P a4Q (Sl.mk none 0 0)) a4h H
def X4(a2l:Int)(a1B:Sl)(i4:Int)(a1M:Int)(a0U:Int)(a0V:Int)(a0W:Int)(a0X:Bool)(a0Y:Bool)(Z0:(List ByteArray))(H:Hp)(n2:(Int×Int×Int×Int×Bool×Bool×(List ByteArray))→Hp→Prop)(K:Bool→f8→(List ByteArray)→Hp→Prop):Prop:=
 (a1M < i4→
 (0:Int)≤a1M∧(a1M:Int) < a1B.n∧∃c:c8,EltH H a1B a1M 1 [(C7 c)]∧
 a0T (f8.mk a0U a0V a0W a0X a0Y (Sl.mk none 0 0)) Z0 c a2l H (fun b d e f=>
 TG ((!b)=false) (a2z c f) (Sl.mk none 0 0) f (fun(j:Sl)(g:Hp)=>
 TG ((!b)=false) (fun k_=>U6 j (IntKind.wrap .i64 (a2l+1)) (Y1 d) e g fun k l m H_=>k_ (k,l,m) H_) (false,(Y1 d),e) g (fun(a:Bool×f8×(List ByteArray))(i:Hp)=>
 (((!b)||(!a.1))=true→
 K false (f8.mk (a.2.1.fnodes) (a.2.1.fdepth) (a.2.1.fe) (a.2.1.fform) (a.2.1.fnamed) (Sl.mk none 0 0)) a.2.2 i)∧
 (((!b)||(!a.1))=false→
 n2 ((IntKind.wrap .i64 (a1M+1)),(a.2.1.fnodes),(a.2.1.fdepth),(a.2.1.fe),(a.2.1.fform),(a.2.1.fnamed),a.2.2) i)))))∧
 (¬(a1M < i4)→
 X3 a0U a0V a0W a0X a0Y Z0 H K)
def a2o(x0:Sl)(x1:Int)(x2:f8)(a:(List ByteArray))(H:Hp)(K:Bool→f8→(List ByteArray)→Hp→Prop):Prop:=
 TL ((0,x2.fnodes,x2.fdepth,x2.fe,x2.fform,x2.fnamed,a):Int×Int×Int×Int×Bool×Bool×(List ByteArray)) H fun(s:Int×Int×Int×Int×Bool×Bool×(List ByteArray)) H n2=>X4 x1 x0 (x0.n:Int) s.1 s.2.1 s.2.2.1 s.2.2.2.1 s.2.2.2.2.1 s.2.2.2.2.2.1 s.2.2.2.2.2.2 H n2 K
theorem a6v(x0 x1 x2 ai){H K}(h:a2o x0 x1 x2 ai H K):U6 x0 x1 x2 ai H K:=by
 intro g2 g2b g3 az ba bb
 refine Ct.of fun w0 w ps0 H0 R E I hR=>b8W ?_
 unfold a2o at h
 unfold F54
 have hj1:∀(a4M:Int)(a4N:Int)(a4O:Int)(a4P:Bool)(a4Q:Bool)(a4h:(List ByteArray))(a6l:Sl)(a6m:Frag) H w (_:RowL 9 1 L3 a6l a4h a6m) (_:Inv w0 ps0 H0 H [bx g2 64 [(Value.pointer (some ⟨g2b,0,none⟩))],bx g2b 68 [(vi a4M),(vi a4N),(vi a4O),(vB a4P),(vB a4Q),(vs a6l)],bx g3 96 [(Value.func (.func 54) #[] #[(Value.pointer (some ⟨g2,0,none⟩)),(Value.pointer (some ⟨g3,0,none⟩))])],a6m] w) (_:X3 a4M a4N a4O a4P a4Q a4h H K),b1L w R E:=by
  intro a4M a4N a4O a4P a4Q a4h a6l a6m H w b5s I h
  unfold b1L
  intro _
  unfold X3 at h
  exact hR _ H _ _ ((((I.bring 2).bring 3).bring 3).bring 3) ⟨true,(f8.mk a4M a4N a4O a4P a4Q (Sl.mk none 0 0)),a4h,a6l,a6m,rfl,rfl,b5s,h⟩
 refine m7 fun j1 hx1=>?_
 refine a6 (a6h _ _ _) ?_
 obtain ⟨aj,z,bc,bd⟩:=h
 refine T1 (J:=fun n l w=>∃(s:Int×Int×Int×Int×Bool×Bool×(List ByteArray))(H:Hp)(a4Z:Sl)(a5b:Frag),n=z s∧l=(match s with | (a1M,a0U,a0V,a0W,a0X,a0Y,Z0)=>[(vi a1M)])∧(match s with | (a1M,a0U,a0V,a0W,a0X,a0Y,Z0)=>RowL 9 1 L3 a4Z Z0 a5b)∧(match s with | (a1M,a0U,a0V,a0W,a0X,a0Y,Z0)=>Inv w0 ps0 H0 H [bx g2 64 [(Value.pointer (some ⟨g2b,0,none⟩))],bx g2b 68 [(vi a0U),(vi a0V),(vi a0W),(vB a0X),(vB a0Y),(vs a4Z)],bx g3 96 [(Value.func (.func 54) #[] #[(Value.pointer (some ⟨g2,0,none⟩)),(Value.pointer (some ⟨g3,0,none⟩))])],a5b] w)∧aj s H) ⟨_,(0,x2.fnodes,x2.fdepth,x2.fe,x2.fform,x2.fnamed,ai),H,az,ba,rfl,rfl,bb,((((I.bring 2).bring 3).bring 3).bring 3),bc⟩ ?_
 rintro bj bk w next2 ⟨⟨a1M,a0U,a0V,a0W,a0X,a0Y,Z0⟩,H,a4Z,a5b,rfl,ak,a7K,I,be⟩ hn2
 dsimp only at ak I a7K
 simp only [List.map_cons,List.map_nil,List.cons.injEq,and_true] at ak
 have e11:=ak
 simp only [e11]
 obtain ⟨n2,hm2,h⟩:∃n2:(Int×Int×Int×Int×Bool×Bool×(List ByteArray))→Hp→Prop,(∀s' H',n2 s' H'→aj s' H'∧z s' < z (a1M,a0U,a0V,a0W,a0X,a0Y,Z0))∧X4 x1 x0 (x0.n:Int) a1M a0U a0V a0W a0X a0Y Z0 H n2 K:=⟨_,fun _ _ h=>h,bd (a1M,a0U,a0V,a0W,a0X,a0Y,Z0) H (fun s' H'=>aj s' H'∧z s' < z (a1M,a0U,a0V,a0W,a0X,a0Y,Z0)) be (fun _ _ a b=>⟨a,b⟩)⟩
 unfold b5g
 unfold X4 at h
 refine a6 pLs ?_
 refine d3 h (fun _ h=>?_) (fun _ h=>?_)
 ·obtain ⟨bf,bg,bh,al,h⟩:=h
  obtain ⟨bl,bm,bi,al⟩:=al
  refine a6 (b5S bi _ _ _ _ bf bg) (b6 (ld1 (v:=(C7 bh)) Tryd.isAgg91 (I.atH al)) ?_)
  refine a0l I fun bn ao=>?_
  refine r6 (l1 Tryd.isAgg64 ao rfl) ?_
  refine d7 Tryd.call55 (h g2b a4Z a5b a7K) ((ao.bring 3).bring 2) ?_
  rintro _ ap _ aq o _ _ ⟨p,aa,am,ac,ad,rfl,rfl,ar,h⟩
  refine g8 (G1 _) ?_
  simp only [q9]
  refine g8 (Pu.g fun c=>by simp only [d2 c];with_reducible exact pAd) ?_
  refine r6 (Ld.g fun c=>by exact (l1 Tryd.isAgg96 (o.bring 3) rfl)) ?_
  refine a8V (D:=fun au u=>∃(ab:Sl)(k:Hp),au=(gv (!p) false (vs ab))∧(Inv w0 ps0 H0 k [bx g2b 68 (a0o aa ac),ad,bx g2 64 [(Value.pointer (some ⟨g2b,0,none⟩))],bx g3 96 [(Value.func (.func 54) #[] #[(Value.pointer (some ⟨g2,0,none⟩)),(Value.pointer (some ⟨g3,0,none⟩))])]] u)∧(∀i,i < aq.heap.size→¬inF [] i→u.heap[i]? = aq.heap[i]?)∧Hle ap k∧(TG ((!p)=false) (fun k_=>U6 ab (IntKind.wrap .i64 (x1+1)) (Y1 aa) am k fun m d j H_=>k_ (m,d,j) H_) (false,(Y1 aa),am) k (fun(e:Bool×f8×(List ByteArray))(f:Hp)=>
 (((!p)||(!e.1))=true→
 K false (f8.mk (e.2.1.fnodes) (e.2.1.fdepth) (e.2.1.fe) (e.2.1.fform) (e.2.1.fnamed) (Sl.mk none 0 0)) e.2.2 f)∧
 (((!p)||(!e.1))=false→
 n2 ((IntKind.wrap .i64 (a1M+1)),(e.2.1.fnodes),(e.2.1.fdepth),(e.2.1.fe),(e.2.1.fform),(e.2.1.fnamed),e.2.2) f)))) (fun y=>?_) (fun y=>?_) ?_
  ·replace h:=h.1 y
   have c:=y
   simp only [d2 c]
   refine a6s o h (fun ab k u ae av an h=>?_)
   exact ⟨ab,k,by rfl,ae,an,av,h⟩
  ·exact ⟨(Sl.mk none 0 0),ap,by rw [b0A y],o,fun _ _ _=>rfl,Hle.refl _,h.2 y⟩
  ·clear h
   rintro au u ⟨ab,k,rfl,ae,an,av,h⟩
   refine ⟨(an _ (o.bring 3).lt1 (Inv.Y0 (Fi:=[]) (o.bring 3))),?_⟩
   refine a8V (D:=fun aw af=>∃(m:Bool)(d:f8)(j:(List ByteArray))(f:Hp)(q:Sl)(r:Frag),aw=(gv (!p) false (vB m))∧(RowL 9 1 L3 q j r)∧(Inv w0 ps0 H0 f [bx g2 64 [(Value.pointer (some ⟨g2b,0,none⟩))],bx g2b 68 (a0o d q),r,bx g3 96 [(Value.func (.func 54) #[] #[(Value.pointer (some ⟨g2,0,none⟩)),(Value.pointer (some ⟨g3,0,none⟩))])]] af)∧(∀i,i < u.heap.size→¬inF [bx g2 64 [(Value.pointer (some ⟨g2b,0,none⟩))],bx g2b 68 (a0o aa ac),ad,bx g3 96 [(Value.func (.func 54) #[] #[(Value.pointer (some ⟨g2,0,none⟩)),(Value.pointer (some ⟨g3,0,none⟩))])]] i→af.heap[i]? = u.heap[i]?)∧Hle k f∧((((!p)||(!m))=true→
 K false (Y1 d) j f)∧
 (((!p)||(!m))=false→
 n2 ((IntKind.wrap .i64 (a1M+1)),d.fnodes,d.fdepth,d.fe,d.fform,d.fnamed,j) f))) (fun t=>?_) (fun t=>?_) ?_
   ·replace h:=h.1 t
    have c:=t
    simp only [d2 c]
    refine a4p (cap:=[(Value.pointer (some ⟨g2,0,none⟩)),(Value.pointer (some ⟨g3,0,none⟩))]) Tryd.call54 (h g2 g2b g3 ac ad ar) ((((ae.bring 3).bring 2).bring 2).bring 3) ?_
    rintro _ f _ af ag ax ay ⟨m,d,j,q,r,rfl,rfl,ah,h⟩
    exact ⟨m,d,j,f,q,r,by rfl,ah,ag,ay,ax,h⟩
   ·exact ⟨false,(Y1 aa),am,k,ac,ad,by rw [b0A t],ar,((((ae.bring 3).bring 2).bring 2).bring 3),fun _ _ _=>rfl,Hle.refl _,h.2 t⟩
   ·clear h
    rintro aw af ⟨m,d,j,f,q,r,rfl,ah,ag,ay,ax,h⟩
    refine g8 (Pu.g fun c=>by simp only [d2 c];with_reducible exact (G1 _)) ?_
    refine g8 (D3 _ _) ?_
    refine f7 h (fun _ h=>?_) (fun _ h=>?_)
    ·exact hR _ f _ _ ((((ag.bring 3).bring 3).bring 3).bring 3) ⟨false,(Y1 d),j,q,r,rfl,rfl,ah,h⟩
    ·refine a6 pAd ?_
     exact hn2 _ _ _ (hm2 _ _ h).2 ⟨((IntKind.wrap .i64 (a1M+1)),d.fnodes,d.fdepth,d.fe,d.fform,d.fnamed,j),f,q,r,rfl,rfl,ah,((((ag.bring 2).bring 3).bring 3).bring 3),(hm2 _ _ h).1⟩
 ·exact hx1 _ _ (hj1 a0U a0V a0W a0X a0Y Z0 a4Z a5b H _ a7K ((((I.bring 3).bring 3).bring 3).bring 3) h)
def a3b(x0:d4)(H:Hp)(K:Int→Int→Hp→Prop):Prop:=
 a1d x0 H (fun a b=>
 (¬(a.fe=0)→
 K 0 a.fe b)∧
 (a.fe=0→
 K a.fdepth 0 b))
theorem a7x(x0){H K}(h:a3b x0 H K):a2V x0 H K:=by
 refine Ct.of fun w0 w ps0 H0 R E I hR=>b8f ?_
 unfold a3b at h
 unfold F11
 refine B2 I (cs:=(f5 x0)) rfl fun f g b i=>?_
 refine b6 (lW Tryd.isAgg25 Tryd.sizeOf25 rfl b) ?_
 refine d7 Tryd.call30 h b ?_
 rintro _ c _ j a _ _ ⟨d,k,rfl,rfl,h⟩
 refine a6 (o9 _) (a6 a0D (b6 (l1 Tryd.isAgg27 a rfl) (a6 pNe ?_)))
 refine a0m h (fun _ h=>?_) (fun _ h=>?_)
 ·refine a0l a fun l e=>?_
  refine g8 (o9 _) ?_
  refine g8 a0D ?_
  refine r6 (l1 Tryd.isAgg27 e rfl) ?_
  exact hR _ c _ _ e.drop.drop ⟨0,d.fe,rfl,rfl,h⟩
 ·refine a6 (o9 _) (a6 a6X (b6 (l1 Tryd.isAgg3 a rfl) ?_))
  exact hR _ c _ _ a.drop.drop ⟨d.fdepth,0,rfl,rfl,h⟩
def a3d(x0:d4)(H:Hp)(K:Int→Hp→Prop):Prop:=
 a1d x0 H (fun a b=>
 K a.fe b)
theorem a7y(x0){H K}(h:a3d x0 H K):a1L x0 H K:=by
 refine Ct.of fun w0 w ps0 H0 R E I hR=>b8j ?_
 unfold a3d at h
 unfold F15
 refine B2 I (cs:=(f5 x0)) rfl fun e f a g=>?_
 refine b6 (lW Tryd.isAgg25 Tryd.sizeOf25 rfl a) ?_
 refine d7 Tryd.call30 h a ?_
 rintro _ c _ i b _ _ ⟨d,j,rfl,rfl,h⟩
 refine a6 (o9 _) (a6 a0D (b6 (l1 Tryd.isAgg27 b rfl) ?_))
 exact hR _ c _ _ b.drop.drop ⟨d.fe,rfl,rfl,h⟩
def a2p(x0:c6)(x1:c6)(H:Hp)(K:Bool→Hp→Prop):Prop:=
 TG (((decide (x0.b7=x1.b7))&&(decide (x0.f4=x1.f4)))=true) (g7 x0.d5 x1.d5 H) false H (fun(a:Bool)(c:Hp)=>
 TG ((((decide (x0.b7=x1.b7))&&(decide (x0.f4=x1.f4)))&&a)=true) (i7 x0.m8 x1.m8 c) false c (fun(b:Bool)(d:Hp)=>
 TG (((((decide (x0.b7=x1.b7))&&(decide (x0.f4=x1.f4)))&&a)&&b)=true) (d9 x0.B1 x1.B1 d) false d (fun(e:Bool)(f:Hp)=>
 TG ((((((decide (x0.b7=x1.b7))&&(decide (x0.f4=x1.f4)))&&a)&&b)&&e)=true) (d9 x0.A8 x1.A8 f) false f (fun(g:Bool)(i:Hp)=>
 K ((((((decide (x0.b7=x1.b7))&&(decide (x0.f4=x1.f4)))&&a)&&b)&&e)&&g) i))))
theorem a6w(x0 x1){H K}(h:a2p x0 x1 H K):a0I x0 x1 H K:=by
 refine Ct.of fun w0 w ps0 H0 R E I hR=>b8w ?_
 unfold a2p at h
 unfold F28
 refine B2 I (cs:=(c5 x0)) rfl fun aj ak ae al=>?_
 refine B2 ae (cs:=(c5 x1)) rfl fun am an b ao=>?_
 refine a6 S4 (b6 (l1 Tryd.isAgg3 (b.bring 1) rfl) (a6 S4 (b6 (l1 Tryd.isAgg3 b rfl) (a6 pEq ?_))))
 refine a6 (Pu.g fun a=>by with_reducible exact a0C) ?_
 refine b6 (Ld.g fun a=>by simp only [d2 a];exact (l1 Tryd.isAgg9 (b.bring 1) rfl)) ?_
 refine a6 (Pu.g fun a=>by with_reducible exact a0C) ?_
 refine b6 (Ld.g fun a=>by simp only [d2 a];exact (l1 Tryd.isAgg9 b rfl)) ?_
 refine a6 (Pu.g fun a=>by simp only [d2 a];with_reducible exact (K6 _ _ _ _ _)) ?_
 refine a6 (m9 _ _) ?_
 refine a6 (Pu.g fun a=>by with_reducible exact D8) ?_
 refine b6 (Ld.g fun a=>by simp only [d2 a];exact (l1 Tryd.isAgg39 (b.bring 1) rfl)) ?_
 refine a6 (Pu.g fun a=>by with_reducible exact D8) ?_
 refine b6 (Ld.g fun a=>by simp only [d2 a];exact (l1 Tryd.isAgg39 b rfl)) ?_
 refine M5 [] (fun f:Bool=>(vB f)) h b (fun n h=>?_) fun f o af c p q h=>?_
 ·have a:=n
  simp only [d2 a]
  refine d7 Tryd.call43 h b ?_
  rintro _ o _ af c q p ⟨f,rfl,rfl,h⟩
  exact ⟨f,o,rfl,c,p,q,h⟩
 refine a6 (m9 _ _) ?_
 refine a6 (Pu.g fun a=>by with_reducible exact G7) ?_
 refine b6 (Ld.g fun a=>by simp only [d2 a];exact (l1 Tryd.isAgg47 (c.bring 1) rfl)) ?_
 refine a6 (Pu.g fun a=>by with_reducible exact G7) ?_
 refine b6 (Ld.g fun a=>by simp only [d2 a];exact (l1 Tryd.isAgg47 c rfl)) ?_
 refine M5 [] (fun i:Bool=>(vB i)) h c (fun r h=>?_) fun i s ag d t u h=>?_
 ·have a:=r
  simp only [d2 a]
  refine d7 Tryd.call45 h c ?_
  rintro _ s _ ag d u t ⟨i,rfl,rfl,h⟩
  exact ⟨i,s,rfl,d,t,u,h⟩
 refine a6 (m9 _ _) ?_
 refine a6 (Pu.g fun a=>by with_reducible exact P2) ?_
 refine b6 (Ld.g fun a=>by simp only [d2 a];exact (l1 Tryd.isAgg23 (d.bring 1) rfl)) ?_
 refine a6 (Pu.g fun a=>by with_reducible exact P2) ?_
 refine b6 (Ld.g fun a=>by simp only [d2 a];exact (l1 Tryd.isAgg23 d rfl)) ?_
 refine M5 [] (fun j:Bool=>(vB j)) h d (fun v h=>?_) fun j y ah e z aa h=>?_
 ·have a:=v
  simp only [d2 a]
  refine d7 Tryd.call27 h d ?_
  rintro _ y _ ah e aa z ⟨j,rfl,rfl,h⟩
  exact ⟨j,y,rfl,e,z,aa,h⟩
 refine a6 (m9 _ _) ?_
 refine a6 (Pu.g fun a=>by with_reducible exact O0) ?_
 refine b6 (Ld.g fun a=>by simp only [d2 a];exact (l1 Tryd.isAgg23 (e.bring 1) rfl)) ?_
 refine a6 (Pu.g fun a=>by with_reducible exact O0) ?_
 refine b6 (Ld.g fun a=>by simp only [d2 a];exact (l1 Tryd.isAgg23 e rfl)) ?_
 refine M5 [] (fun k:Bool=>(vB k)) h e (fun ab h=>?_) fun k l ai m ac ad h=>?_
 ·have a:=ab
  simp only [d2 a]
  refine d7 Tryd.call27 h e ?_
  rintro _ l _ ai m ad ac ⟨k,rfl,rfl,h⟩
  exact ⟨k,l,rfl,m,ac,ad,h⟩
 refine a6 (m9 _ _) ?_
 exact hR _ l _ _ m.drop.drop ⟨((((((decide (x0.b7=x1.b7))&&(decide (x0.f4=x1.f4)))&&f)&&i)&&j)&&k),rfl,rfl,h⟩
def o5(H:Hp)(K:Bool→Hp→Prop):Prop:=
 K true H
def o6(a2l:Sl)(a6j:Sl)(a6k:Int)(E0:Int)(H:Hp)(n2:Int→Hp→Prop)(K:Bool→Hp→Prop):Prop:=
 (E0 < a6k→
 (0:Int)≤E0∧(E0:Int) < a6j.n∧∃a:c6,EltH H a6j E0 6 (c5 a)∧
 (0:Int)≤E0∧(E0:Int) < a2l.n∧∃b:c6,EltH H a2l E0 6 (c5 b)∧
 a0I a b H (fun c d=>
 ((!c)=true→
 K false d)∧
 ((!c)=false→
 n2 (IntKind.wrap .i64 (E0+1)) d)))∧
 (¬(E0 < a6k)→
 o5 H K)
def p7(x0:Sl)(x1:Sl)(H:Hp)(K:Bool→Hp→Prop):Prop:=
 (¬((x0.n:Int)=(x1.n:Int))→
 K false H)∧
 ((x0.n:Int)=(x1.n:Int)→
 TL (0:Int) H fun(s:Int) H n2=>o6 x1 x0 (x0.n:Int) s H n2 K)
theorem G4(x0 x1){H K}(h:p7 x0 x1 H K):d9 x0 x1 H K:=by
 refine Ct.of fun w0 w ps0 H0 R E I hR=>b8v ?_
 unfold p7 at h
 unfold F27
 refine a6 (J6 _ _ _) (a6 (J6 _ _ _) (a6 pNe ?_))
 refine a0m h (fun _ h=>?_) (fun _ h=>?_)
 ·exact hR _ H _ _ I ⟨false,rfl,rfl,h⟩
 ·have hj1:∀H w (_:Inv w0 ps0 H0 H [] w) (_:o5 H K),b1c w R E:=by
   intro H w I h
   unfold b1c
   intro _
   unfold o5 at h
   exact hR _ H _ _ I ⟨true,rfl,rfl,h⟩
  refine m7 fun j1 hx1=>?_
  refine a6 (J6 _ _ _) ?_
  refine y6 (σ:=Int) (fun E0=>[(vi E0)]) (fun E0=>[]) h rfl I ?_
  rintro E0 H s w next2 n2 d I h hn2
  simp only [List.map_cons,List.map_nil,List.cons.injEq,and_true] at d
  have e17:=d
  simp only [e17]
  unfold b4G
  unfold o6 at h
  refine a6 pLs ?_
  refine d3 h (fun _ h=>?_) (fun _ h=>?_)
  ·obtain ⟨j,k,e,a,h⟩:=h
   obtain ⟨t,u,l,a⟩:=a
   refine a6 (J4 l _ _ _ _ j k) (b6 (ldA (vs:=(c5 e)) Tryd.isAgg49 Tryd.sizeOf49 rfl (I.atH a)) ?_)
   refine u4 I Tryd.zeroValue49 (cs:=[(vi 0),(eS),(nS),(nS),(nS),(nS)]) rfl fun v y m z=>?_
   refine D5 m Tryd.sizeOf49 (vs:=(c5 e)) fun aa f ab=>?_
   obtain ⟨n,o,g,b,h⟩:=h
   obtain ⟨ac,ad,p,b⟩:=b
   refine a6 (J4 p _ _ _ _ n o) (b6 (ldA (vs:=(c5 g)) Tryd.isAgg49 Tryd.sizeOf49 rfl (f.atH b)) ?_)
   refine u4 f Tryd.zeroValue49 (cs:=[(vi 0),(eS),(nS),(nS),(nS),(nS)]) rfl fun ae af q ag=>?_
   refine D5 q Tryd.sizeOf49 (vs:=(c5 g)) fun ah c ai=>?_
   refine b6 (lW Tryd.isAgg49 Tryd.sizeOf49 rfl (c.bring 1)) (b6 (lW Tryd.isAgg49 Tryd.sizeOf49 rfl c) ?_)
   refine d7 Tryd.call28 h c ?_
   rintro _ r _ aj i _ _ ⟨ak,rfl,rfl,h⟩
   refine a6 (G1 _) ?_
   refine f7 h (fun _ h=>?_) (fun _ h=>?_)
   ·exact hR _ r _ _ i.drop.drop ⟨false,rfl,rfl,h⟩
   ·refine a6 pAd ?_
    exact hn2 (IntKind.wrap .i64 (E0+1)) _ _ h i.drop.drop
  ·exact hx1 _ _ (hj1 H _ I h)
def u5(J1:(List b8))(H:Hp)(K:Sl→Hp→Prop):Prop:=
 ∀(s6:Sl)(a:Hp),Hle H a→SlH a 4 c7 s6 J1→NewS H a 41 4 s6→
 K s6 a
def u6(U3:Sl)(a1B:Int)(i5:(List b8))(i4:Int)(H:Hp)(n2:((List b8)×Int)→Hp→Prop)(K:Sl→Hp→Prop):Prop:=
 (i4 < a1B→
 (0:Int)≤i4∧(i4:Int) < U3.n∧∃a:b8,EltH H U3 i4 4 (c7 a)∧
 a2h a H (fun b c=>
 (i5.length+([b]:List b8).length)*57≤140737488355328∧
 n2 ((i5++[b]),(IntKind.wrap .i64 (i4+1))) c))∧
 (¬(i4 < a1B)→
 u5 i5 H K)
def C8(x0:Sl)(H:Hp)(K:Sl→Hp→Prop):Prop:=
 TL (([],0):(List b8)×Int) H fun(s:(List b8)×Int) H n2=>u6 x0 (x0.n:Int) s.1 s.2 H n2 K
theorem Y5(x0){H K}(h:C8 x0 H K):r8 x0 H K:=by
 refine Ct.of fun w0 w ps0 H0 R E I hR=>b8A ?_
 unfold C8 at h
 unfold F32
 have hj1:∀(J1:(List b8))(s6:Sl)(Fs5j1:Frag) H w (_:RowL 41 4 c7 s6 J1 Fs5j1) (_:Inv w0 ps0 H0 H [Fs5j1] w) (_:u5 J1 H K),b1j (vs s6) w R E:=by
  intro J1 s6 Fs5j1 H w a3H I h
  unfold b1j
  intro _
  unfold u5 at h
  obtain ⟨j,q,r,t,u⟩:=Inv.freezeN I a3H (by decide)
  replace h:=h s6 j r t u
  exact hR _ j _ _ q ⟨s6,rfl,rfl,h⟩
 refine m7 fun j1 hx1=>?_
 refine a6 (B0 _ _ _) ?_
 obtain ⟨f,d,v,y⟩:=h
 refine T1 (J:=fun n l w=>∃(s:(List b8)×Int)(H:Hp)(J2:Sl)(Fs5l2:Frag),n=d s∧l=(match s with | (i5,i4)=>[(vs J2),(vi i4)])∧(match s with | (i5,i4)=>RowL 41 4 c7 J2 i5 Fs5l2)∧(match s with | (i5,i4)=>Inv w0 ps0 H0 H [Fs5l2] w)∧f s H) ⟨_,([],0),H,(Sl.mk none 0 0),[],rfl,rfl,(RowL.nil O1 O2),I.nil,v⟩ ?_
 rintro am an w next2 ⟨⟨i5,i4⟩,H,J2,Fs5l2,rfl,g,T6,I,z⟩ hn2
 dsimp only at g I T6
 simp only [List.map_cons,List.map_nil,List.cons.injEq,and_true] at g
 obtain ⟨e5,e10⟩:=g
 simp only [e5,e10]
 obtain ⟨n2,hm2,h⟩:∃n2:((List b8)×Int)→Hp→Prop,(∀s' H',n2 s' H'→f s' H'∧d s' < d (i5,i4))∧u6 x0 (x0.n:Int) i5 i4 H n2 K:=⟨_,fun _ _ h=>h,y (i5,i4) H (fun s' H'=>f s' H'∧d s' < d (i5,i4)) z (fun _ _ a b=>⟨a,b⟩)⟩
 unfold b4K
 unfold u6 at h
 refine a6 pLs ?_
 refine d3 h (fun _ h=>?_) (fun _ h=>?_)
 ·obtain ⟨aa,ab,k,i,h⟩:=h
  obtain ⟨ao,ap,ac,i⟩:=i
  refine a6 (O3 ac _ _ _ _ aa ab) (b6 (ldA (vs:=(c7 k)) Tryd.isAgg41 Tryd.sizeOf41 rfl (I.atH i)) ?_)
  refine u4 I Tryd.zeroValue41 (cs:=[(vi 0),(vi 0),(eS),(nS)]) rfl fun aq ar ad au=>?_
  refine D5 ad Tryd.sizeOf41 (vs:=(c7 k)) fun av m aw=>?_
  refine b6 (lW Tryd.isAgg41 Tryd.sizeOf41 rfl m) ?_
  refine d7 Tryd.call33 h m ?_
  rintro _ ae _ ax af _ _ ⟨o,rfl,rfl,h⟩
  refine a1y (e:=41) (c:=c7) (xs:=[o]) af (a6I _ _ _ _ _ _) rfl rfl O1 O2 (nb rfl) fun ay az ba ag p bb=>?_
  obtain ⟨ah,h⟩:=h
  refine a8Z (s:=J2) (xs:=i5) (p.bring 2) T6 (ag.srcO ((p.bring 2).bring 1)) ah fun ai aj bc ak al bd=>?_
  refine a6 pAd ?_
  exact hn2 _ _ _ (hm2 _ _ h).2 ⟨((i5++[o]),(IntKind.wrap .i64 (i4+1))),ae,ai,aj,rfl,rfl,ak,((al.bring 1).drop.bring 1).drop,(hm2 _ _ h).1⟩
 ·exact hx1 _ _ (hj1 i5 J2 Fs5l2 H _ T6 I h)
def a2q(x0:c6)(H:Hp)(K:c6→Hp→Prop):Prop:=
 r8 x0.d5 H (fun a b=>
 v8 x0.m8 b (fun c d=>
 r9 x0.B1 d (fun e f=>
 r9 x0.A8 f (fun g i=>
 K (c6.mk x0.b7 x0.f4 a c e g) i))))
theorem a6x(x0){H K}(h:a2q x0 H K):a2j x0 H K:=by
 refine Ct.of fun w0 w ps0 H0 R E I hR=>b8m ?_
 unfold a2q at h
 unfold F18
 refine B2 I (cs:=(c5 x0)) rfl fun y z j aa=>?_
 refine u4 j Tryd.zeroValue49 (cs:=[(vi 0),(eS),(nS),(nS),(nS),(nS)]) rfl fun ab ac k ad=>?_
 refine a0l k fun ae a=>?_
 refine g8 D8 ?_
 refine g8 G7 ?_
 refine r6 (l1 Tryd.isAgg39 (a.bring 1) rfl) ?_
 refine r6 (l1 Tryd.isAgg47 (a.bring 1) rfl) ?_
 refine d7 Tryd.call32 h a ?_
 rintro _ _ _ af l _ m ⟨c,rfl,rfl,h⟩
 refine ⟨(m _ (a.bring 1).lt1 (Inv.Y0 (Fi:=[]) (a.bring 1))),?_⟩
 refine g8 D8 ?_
 refine d7 Tryd.call34 h l ?_
 rintro _ _ _ ag n _ _ ⟨d,rfl,rfl,h⟩
 refine N2 (n.bring 1) Tryd.sizeOf39 fun ah p ai=>?_
 refine g8 G7 ?_
 refine N2 p Tryd.sizeOf47 fun aj q ak=>?_
 refine a0l q fun al b=>?_
 refine g8 P2 ?_
 refine g8 O0 ?_
 refine r6 (l1 Tryd.isAgg23 b rfl) ?_
 refine r6 (l1 Tryd.isAgg23 b rfl) ?_
 refine d7 Tryd.call17 h b ?_
 rintro _ am _ an r _ s ⟨e,rfl,rfl,h⟩
 refine ⟨(s _ b.lt1 (Inv.Y0 (Fi:=[]) b)),?_⟩
 refine g8 P2 ?_
 refine d7 Tryd.call17 h r ?_
 rintro _ t _ ao u _ _ ⟨f,rfl,rfl,h⟩
 refine N2 u Tryd.sizeOf23 fun ap v aq=>?_
 refine g8 O0 ?_
 refine N2 v Tryd.sizeOf23 fun ar g au=>?_
 refine b6 (ldA Tryd.isAgg49 Tryd.sizeOf49 rfl (g.at1 (o:=0) (vs:=[(vi x0.b7),(Value.string x0.f4),(vs c),(vs d),(vs e),(vs f)]) (nb rfl) rfl)) ?_
 refine D5 (g.bring 1) Tryd.sizeOf49 (vs:=[(vi x0.b7),(Value.string x0.f4),(vs c),(vs d),(vs e),(vs f)]) fun av i aw=>?_
 refine a2T Tryd.isAgg49 Tryd.sizeOf49 rfl i ?_
 exact hR _ t _ _ i.drop.drop ⟨(c6.mk x0.b7 x0.f4 c d e f),rfl,rfl,h⟩
def u7(J1:(List c6))(H:Hp)(K:Sl→Hp→Prop):Prop:=
 ∀(s6:Sl)(a:Hp),Hle H a→SlH a 6 c5 s6 J1→NewS H a 49 6 s6→
 K s6 a
def v1(U3:Sl)(a1B:Int)(i5:(List c6))(i4:Int)(H:Hp)(n2:((List c6)×Int)→Hp→Prop)(K:Sl→Hp→Prop):Prop:=
 (i4 < a1B→
 (0:Int)≤i4∧(i4:Int) < U3.n∧∃a:c6,EltH H U3 i4 6 (c5 a)∧
 a2j a H (fun b c=>
 (i5.length+([b]:List c6).length)*121≤140737488355328∧
 n2 ((i5++[b]),(IntKind.wrap .i64 (i4+1))) c))∧
 (¬(i4 < a1B)→
 u7 i5 H K)
def C9(x0:Sl)(H:Hp)(K:Sl→Hp→Prop):Prop:=
 TL (([],0):(List c6)×Int) H fun(s:(List c6)×Int) H n2=>v1 x0 (x0.n:Int) s.1 s.2 H n2 K
theorem Y6(x0){H K}(h:C9 x0 H K):r9 x0 H K:=by
 refine Ct.of fun w0 w ps0 H0 R E I hR=>b8l ?_
 unfold C9 at h
 unfold F17
 have hj1:∀(J1:(List c6))(s6:Sl)(Fs5j1:Frag) H w (_:RowL 49 6 c5 s6 J1 Fs5j1) (_:Inv w0 ps0 H0 H [Fs5j1] w) (_:u7 J1 H K),b0P (vs s6) w R E:=by
  intro J1 s6 Fs5j1 H w a3H I h
  unfold b0P
  intro _
  unfold u7 at h
  obtain ⟨j,q,r,t,u⟩:=Inv.freezeN I a3H (by decide)
  replace h:=h s6 j r t u
  exact hR _ j _ _ q ⟨s6,rfl,rfl,h⟩
 refine m7 fun j1 hx1=>?_
 refine a6 (J6 _ _ _) ?_
 obtain ⟨f,d,v,y⟩:=h
 refine T1 (J:=fun n l w=>∃(s:(List c6)×Int)(H:Hp)(J2:Sl)(Fs5l2:Frag),n=d s∧l=(match s with | (i5,i4)=>[(vs J2),(vi i4)])∧(match s with | (i5,i4)=>RowL 49 6 c5 J2 i5 Fs5l2)∧(match s with | (i5,i4)=>Inv w0 ps0 H0 H [Fs5l2] w)∧f s H) ⟨_,([],0),H,(Sl.mk none 0 0),[],rfl,rfl,(RowL.nil a2Q a2R),I.nil,v⟩ ?_
 rintro am an w next2 ⟨⟨i5,i4⟩,H,J2,Fs5l2,rfl,g,T6,I,z⟩ hn2
 dsimp only at g I T6
 simp only [List.map_cons,List.map_nil,List.cons.injEq,and_true] at g
 obtain ⟨e5,e10⟩:=g
 simp only [e5,e10]
 obtain ⟨n2,hm2,h⟩:∃n2:((List c6)×Int)→Hp→Prop,(∀s' H',n2 s' H'→f s' H'∧d s' < d (i5,i4))∧v1 x0 (x0.n:Int) i5 i4 H n2 K:=⟨_,fun _ _ h=>h,y (i5,i4) H (fun s' H'=>f s' H'∧d s' < d (i5,i4)) z (fun _ _ a b=>⟨a,b⟩)⟩
 unfold b4v
 unfold v1 at h
 refine a6 pLs ?_
 refine d3 h (fun _ h=>?_) (fun _ h=>?_)
 ·obtain ⟨aa,ab,k,i,h⟩:=h
  obtain ⟨ao,ap,ac,i⟩:=i
  refine a6 (J4 ac _ _ _ _ aa ab) (b6 (ldA (vs:=(c5 k)) Tryd.isAgg49 Tryd.sizeOf49 rfl (I.atH i)) ?_)
  refine u4 I Tryd.zeroValue49 (cs:=[(vi 0),(eS),(nS),(nS),(nS),(nS)]) rfl fun aq ar ad au=>?_
  refine D5 ad Tryd.sizeOf49 (vs:=(c5 k)) fun av m aw=>?_
  refine b6 (lW Tryd.isAgg49 Tryd.sizeOf49 rfl m) ?_
  refine d7 Tryd.call18 h m ?_
  rintro _ ae _ ax af _ _ ⟨o,rfl,rfl,h⟩
  refine a1y (e:=49) (c:=c5) (xs:=[o]) af (a9x _ _ _ _ _ _ _ _ _ _ _ _ _ _) rfl rfl a2Q a2R (nb rfl) fun ay az ba ag p bb=>?_
  obtain ⟨ah,h⟩:=h
  refine b4l (s:=J2) (xs:=i5) (p.bring 2) T6 (ag.srcO ((p.bring 2).bring 1)) ah fun ai aj bc ak al bd=>?_
  refine a6 pAd ?_
  exact hn2 _ _ _ (hm2 _ _ h).2 ⟨((i5++[o]),(IntKind.wrap .i64 (i4+1))),ae,ai,aj,rfl,rfl,ak,((al.bring 1).drop.bring 1).drop,(hm2 _ _ h).1⟩
 ·exact hx1 _ _ (hj1 i5 J2 Fs5l2 H _ T6 I h)
def T7(H:Hp)(K:Int→Hp→Prop):Prop:=
 K 6 H
def a0u(a2r:Int)(a3T:ByteArray)(B4:Int)(H:Hp)(n2:Int→Hp→Prop)(K:Int→Hp→Prop):Prop:=
 (B4 < (a3T.size:Int)→
 (0:Int)≤B4∧B4 < (a3T.size:Int)∧
 (a2r=(IntKind.wrap .i64 ((a3T.get! (B4:Int).toNat).toNat:Int))→
 K 5 H)∧
 (¬(a2r=(IntKind.wrap .i64 ((a3T.get! (B4:Int).toNat).toNat:Int)))→
 n2 (IntKind.wrap .i64 (B4+1)) H))∧
 (¬(B4 < (a3T.size:Int))→
 T7 H K)
def a1m(x0:Int)(H:Hp)(K:Int→Hp→Prop):Prop:=
 ((((decide (x0=32))||(decide (x0=9)))||(decide (x0=13)))=true→
 K 1 H)∧
 ((((decide (x0=32))||(decide (x0=9)))||(decide (x0=13)))=false→
 (x0=10→
 K 2 H)∧
 (¬(x0=10)→
 C6 x0 48 57 H (fun e f=>
 (e=true→
 K 4 f)∧
 (e=false→
 C6 x0 97 122 f (fun a g=>
 TG (a=false) (C6 x0 65 90 g) false g (fun(b:Bool)(i:Hp)=>
 TG (((a||b)||(decide (x0=95)))=false) (C6 x0 192 591 i) false i (fun(c:Bool)(j:Hp)=>
 TG ((((a||b)||(decide (x0=95)))||((c&&(!decide (x0=215)))&&(!decide (x0=247))))=false) (C6 x0 913 969 j) false j (fun(d:Bool)(k:Hp)=>
 TG (((((a||b)||(decide (x0=95)))||((c&&(!decide (x0=215)))&&(!decide (x0=247))))||(d&&(!decide (x0=930))))=false) (C6 x0 1040 1103 k) false k (fun(l:Bool)(m:Hp)=>
 ((((((a||b)||(decide (x0=95)))||((c&&(!decide (x0=215)))&&(!decide (x0=247))))||(d&&(!decide (x0=930))))||l)=true→
 K 3 m)∧
 ((((((a||b)||(decide (x0=95)))||((c&&(!decide (x0=215)))&&(!decide (x0=247))))||(d&&(!decide (x0=930))))||l)=false→
 TL (0:Int) m fun(s:Int) H n2=>a0u x0 ⟨#[59,44,123,125,40,41,91,93,61,33,60,62,43,45,42,47,37,38,124]⟩ s H n2 K))))))))))
theorem a5s(x0){H K}(h:a1m x0 H K):a1h x0 H K:=by
 refine Ct.of fun w0 w ps0 H0 R E I hR=>b9c ?_
 unfold a1m at h
 unfold F60
 refine a6 pEq ?_
 simp only [q9]
 refine a6 (Pu.g fun a=>by simp only [d2 a];with_reducible exact pEq) ?_
 refine a6 (D3 _ _) ?_
 simp only [q9]
 refine a6 (Pu.g fun a=>by simp only [d2 a];with_reducible exact pEq) ?_
 refine a6 (D3 _ _) ?_
 refine f7 h (fun _ h=>?_) (fun _ h=>?_)
 ·exact hR _ H _ _ I ⟨1,rfl,rfl,h⟩
 ·refine a6 pEq ?_
  refine d3 h (fun _ h=>?_) (fun _ h=>?_)
  ·exact hR _ H _ _ I ⟨2,rfl,rfl,h⟩
  ·refine d7 Tryd.call65 h I ?_
   rintro _ ai _ ap o _ _ ⟨aq,rfl,rfl,h⟩
   refine f7 h (fun _ h=>?_) (fun _ h=>?_)
   ·exact hR _ ai _ _ o ⟨4,rfl,rfl,h⟩
   ·refine d7 Tryd.call65 h o ?_
    rintro _ _ _ ar p _ _ ⟨au,rfl,rfl,h⟩
    simp only [q9]
    refine M5 [] (fun c:Bool=>(vB c)) h p (fun q h=>?_) fun c r aj d s t h=>?_
    ·have a:=q
     simp only [d2 a]
     refine d7 Tryd.call65 h p ?_
     rintro _ r _ aj d t s ⟨c,rfl,rfl,h⟩
     exact ⟨c,r,rfl,d,s,t,h⟩
    refine a6 (D3 _ _) ?_
    simp only [q9]
    refine a6 (Pu.g fun a=>by simp only [d2 a];with_reducible exact pEq) ?_
    refine a6 (D3 _ _) ?_
    simp only [q9]
    refine M5 [] (fun f:Bool=>(vB f)) h d (fun u h=>?_) fun f v ak i y z h=>?_
    ·have a:=u
     simp only [d2 a]
     refine d7 Tryd.call65 h d ?_
     rintro _ v _ ak i z y ⟨f,rfl,rfl,h⟩
     exact ⟨f,v,rfl,i,y,z,h⟩
    simp only [a3C,a6H]
    refine a6 (Pu.e (a1Y _ _ _) (Pu.g fun hb=>by obtain ⟨a,b⟩:=a3B hb;simp only [d2 hb];with_reducible exact pNe)) ?_
    refine a6 (Pu.g fun a=>by simp only [d2 a,a5I a];with_reducible exact (m9 _ _)) ?_
    simp only [a3C,a6H]
    refine a6 (Pu.e (a1Y _ _ _) (Pu.g fun hb=>by obtain ⟨a,b⟩:=a3B hb;simp only [d2 hb];with_reducible exact pNe)) ?_
    refine a6 (Pu.g fun a=>by simp only [d2 a,a5I a];with_reducible exact (m9 _ _)) ?_
    refine a6 (D3 _ _) ?_
    simp only [q9]
    refine M5 [] (fun j:Bool=>(vB j)) h i (fun aa h=>?_) fun j ab al k ac ad h=>?_
    ·have a:=aa
     simp only [d2 a]
     refine d7 Tryd.call65 h i ?_
     rintro _ ab _ al k ad ac ⟨j,rfl,rfl,h⟩
     exact ⟨j,ab,rfl,k,ac,ad,h⟩
    simp only [a3C,a6H]
    refine a6 (Pu.e (a1Y _ _ _) (Pu.g fun hb=>by obtain ⟨a,b⟩:=a3B hb;simp only [d2 hb];with_reducible exact pNe)) ?_
    refine a6 (Pu.g fun a=>by simp only [d2 a,a5I a];with_reducible exact (m9 _ _)) ?_
    refine a6 (D3 _ _) ?_
    simp only [q9]
    refine M5 [] (fun l:Bool=>(vB l)) h k (fun ae h=>?_) fun l n am m af ag h=>?_
    ·have a:=ae
     simp only [d2 a]
     refine d7 Tryd.call65 h k ?_
     rintro _ n _ am m ag af ⟨l,rfl,rfl,h⟩
     exact ⟨l,n,rfl,m,af,ag,h⟩
    refine a6 (D3 _ _) ?_
    refine f7 h (fun _ h=>?_) (fun _ h=>?_)
    ·exact hR _ n _ _ m ⟨3,rfl,rfl,h⟩
    ·have hj1:∀H w (_:Inv w0 ps0 H0 H [] w) (_:T7 H K),b1R w R E:=by
      intro H w I h
      unfold b1R
      intro _
      unfold T7 at h
      exact hR _ H _ _ I ⟨6,rfl,rfl,h⟩
     refine m7 fun j1 hx1=>?_
     refine y6 (σ:=Int) (fun B4=>[(vi B4)]) (fun B4=>[]) h rfl m ?_
     rintro B4 H av w next2 n2 ah I h hn2
     simp only [List.map_cons,List.map_nil,List.cons.injEq,and_true] at ah
     have e4:=ah
     simp only [e4]
     unfold b5l
     unfold a0u at h
     refine a6 (a7c _) (a6 pLs ?_)
     refine d3 h (fun _ h=>?_) (fun _ h=>?_)
     ·obtain ⟨an,ao,h⟩:=h
      refine a6 (a6K _ _ _ an ao) (a6 (a7I _ _) (a6 pEq ?_))
      refine d3 h (fun _ h=>?_) (fun _ h=>?_)
      ·exact hR _ H _ _ I ⟨5,rfl,rfl,h⟩
      ·refine a6 pAd ?_
       exact hn2 (IntKind.wrap .i64 (B4+1)) _ _ h I
     ·exact hx1 _ _ (hj1 H _ I h)
def f6(o2:Bool)(H:Hp)(K:Bool→Hp→Prop):Prop:=
 (o2=true→
 K true H)∧
 (o2=false→
 K false H)
def a1E(x0:ByteArray)(H:Hp)(K:Bool→Hp→Prop):Prop:=
 (x0=⟨#[118,97,114]⟩→
 f6 (decide (x0=⟨#[118,97,114]⟩)) H K)∧
 (¬(x0=⟨#[118,97,114]⟩)→
 (x0=⟨#[97,114,114,97,121]⟩→
 f6 (decide (x0=⟨#[97,114,114,97,121]⟩)) H K)∧
 (¬(x0=⟨#[97,114,114,97,121]⟩)→
 (x0=⟨#[105,102]⟩→
 f6 (decide (x0=⟨#[105,102]⟩)) H K)∧
 (¬(x0=⟨#[105,102]⟩)→
 (x0=⟨#[101,108,115,101]⟩→
 f6 (decide (x0=⟨#[101,108,115,101]⟩)) H K)∧
 (¬(x0=⟨#[101,108,115,101]⟩)→
 (x0=⟨#[119,104,105,108,101]⟩→
 f6 (decide (x0=⟨#[119,104,105,108,101]⟩)) H K)∧
 (¬(x0=⟨#[119,104,105,108,101]⟩)→
 (x0=⟨#[97,115,115,101,114,116]⟩→
 f6 (decide (x0=⟨#[97,115,115,101,114,116]⟩)) H K)∧
 (¬(x0=⟨#[97,115,115,101,114,116]⟩)→
 (x0=⟨#[97,115,115,117,109,101]⟩→
 f6 (decide (x0=⟨#[97,115,115,117,109,101]⟩)) H K)∧
 (¬(x0=⟨#[97,115,115,117,109,101]⟩)→
 (x0=⟨#[115,107,105,112]⟩→
 f6 (decide (x0=⟨#[115,107,105,112]⟩)) H K)∧
 (¬(x0=⟨#[115,107,105,112]⟩)→
 (x0=⟨#[105,110,112,117,116]⟩→
 f6 (decide (x0=⟨#[105,110,112,117,116]⟩)) H K)∧
 (¬(x0=⟨#[105,110,112,117,116]⟩)→
 (x0=⟨#[116,114,117,101]⟩→
 f6 (decide (x0=⟨#[116,114,117,101]⟩)) H K)∧
 (¬(x0=⟨#[116,114,117,101]⟩)→
 f6 (decide (x0=⟨#[102,97,108,115,101]⟩)) H K))))))))))
theorem a5O(x0){H K}(h:a1E x0 H K):a1A x0 H K:=by
 refine Ct.of fun w0 w ps0 H0 R E I hR=>b9a ?_
 unfold a1E at h
 unfold F58
 have hj1:∀(o2:Bool) H w (_:Inv w0 ps0 H0 H [] w) (_:f6 o2 H K),b1O (vB o2) w R E:=by
  intro o2 H w I h
  unfold b1O
  intro _
  unfold f6 at h
  refine f7 h (fun _ h=>?_) (fun _ h=>?_)
  ·exact hR _ H _ _ I ⟨true,rfl,rfl,h⟩
  ·exact hR _ H _ _ I ⟨false,rfl,rfl,h⟩
 refine m7 fun j1 hx1=>?_
 refine a6 (K6 _ _ _ _ _) ?_
 refine d3 h (fun _ h=>?_) (fun _ h=>?_)
 ·exact hx1 _ _ (hj1 (decide (x0=⟨#[118,97,114]⟩)) H _ I h)
 ·refine a6 (K6 _ _ _ _ _) ?_
  refine d3 h (fun _ h=>?_) (fun _ h=>?_)
  ·exact hx1 _ _ (hj1 (decide (x0=⟨#[97,114,114,97,121]⟩)) H _ I h)
  ·refine a6 (K6 _ _ _ _ _) ?_
   refine d3 h (fun _ h=>?_) (fun _ h=>?_)
   ·exact hx1 _ _ (hj1 (decide (x0=⟨#[105,102]⟩)) H _ I h)
   ·refine a6 (K6 _ _ _ _ _) ?_
    refine d3 h (fun _ h=>?_) (fun _ h=>?_)
    ·exact hx1 _ _ (hj1 (decide (x0=⟨#[101,108,115,101]⟩)) H _ I h)
    ·refine a6 (K6 _ _ _ _ _) ?_
     refine d3 h (fun _ h=>?_) (fun _ h=>?_)
     ·exact hx1 _ _ (hj1 (decide (x0=⟨#[119,104,105,108,101]⟩)) H _ I h)
     ·refine a6 (K6 _ _ _ _ _) ?_
      refine d3 h (fun _ h=>?_) (fun _ h=>?_)
      ·exact hx1 _ _ (hj1 (decide (x0=⟨#[97,115,115,101,114,116]⟩)) H _ I h)
      ·refine a6 (K6 _ _ _ _ _) ?_
       refine d3 h (fun _ h=>?_) (fun _ h=>?_)
       ·exact hx1 _ _ (hj1 (decide (x0=⟨#[97,115,115,117,109,101]⟩)) H _ I h)
       ·refine a6 (K6 _ _ _ _ _) ?_
        refine d3 h (fun _ h=>?_) (fun _ h=>?_)
        ·exact hx1 _ _ (hj1 (decide (x0=⟨#[115,107,105,112]⟩)) H _ I h)
        ·refine a6 (K6 _ _ _ _ _) ?_
         refine d3 h (fun _ h=>?_) (fun _ h=>?_)
         ·exact hx1 _ _ (hj1 (decide (x0=⟨#[105,110,112,117,116]⟩)) H _ I h)
         ·refine a6 (K6 _ _ _ _ _) ?_
          refine d3 h (fun _ h=>?_) (fun _ h=>?_)
          ·exact hx1 _ _ (hj1 (decide (x0=⟨#[116,114,117,101]⟩)) H _ I h)
          ·refine a6 (K6 _ _ _ _ _) ?_
           exact hx1 _ _ (hj1 (decide (x0=⟨#[102,97,108,115,101]⟩)) H _ I h)
def U4(a3U:Int)(H:Hp)(K:Bool→Hp→Prop):Prop:=
 K (decide (a3U≤32)) H
def a0O(a2r:ByteArray)(a3T:Int)(B4:Int)(H:Hp)(n2:(Int×Int)→Hp→Prop)(K:Bool→Hp→Prop):Prop:=
 (B4 < (a2r.size:Int)→
 a1z a2r B4 H (fun d e b f=>
 a1h d f (fun a c=>
 (((!b)||((!decide (a=3))&&((!decide (a=4))||(decide (a3T=0)))))=true→
 K false c)∧
 (((!b)||((!decide (a=3))&&((!decide (a=4))||(decide (a3T=0)))))=false→
 n2 ((IntKind.wrap .i64 (a3T+1)),(IntKind.wrap .i64 (B4+e))) c))))∧
 (¬(B4 < (a2r.size:Int))→
 U4 a3T H K)
def a1F(x0:ByteArray)(H:Hp)(K:Bool→Hp→Prop):Prop:=
 TG (((decide (x0=⟨#[]⟩))||(decide (128 < (x0.size:Int))))=false) (a1A x0 H) false H (fun(a:Bool)(b:Hp)=>
 ((((decide (x0=⟨#[]⟩))||(decide (128 < (x0.size:Int))))||a)=true→
 K false b)∧
 ((((decide (x0=⟨#[]⟩))||(decide (128 < (x0.size:Int))))||a)=false→
 TL ((0,0):Int×Int) b fun(s:Int×Int) H n2=>a0O x0 s.1 s.2 H n2 K))
theorem a5P(x0){H K}(h:a1F x0 H K):Y4 x0 H K:=by
 refine Ct.of fun w0 w ps0 H0 R E I hR=>b8G ?_
 unfold a1F at h
 unfold F38
 refine a6 (K6 _ _ _ _ _) ?_
 simp only [q9]
 refine a6 (Pu.g fun a=>by simp only [d2 a];with_reducible exact (a7c _)) ?_
 refine a6 (Pu.g fun a=>by simp only [d2 a];with_reducible exact pGt) ?_
 refine a6 (D3 _ _) ?_
 simp only [q9]
 refine M5 [] (fun f:Bool=>(vB f)) h I (fun l h=>?_) fun f j q i m n h=>?_
 ·have a:=l
  simp only [d2 a]
  refine d7 Tryd.call58 h I ?_
  rintro _ j _ q i n m ⟨f,rfl,rfl,h⟩
  exact ⟨f,j,rfl,i,m,n,h⟩
 refine a6 (D3 _ _) ?_
 refine f7 h (fun _ h=>?_) (fun _ h=>?_)
 ·exact hR _ j _ _ i ⟨false,rfl,rfl,h⟩
 ·have hj1:∀(a3U:Int) H w (_:Inv w0 ps0 H0 H [] w) (_:U4 a3U H K),b1o (vi a3U) w R E:=by
   intro a3U H w I h
   unfold b1o
   intro _
   unfold U4 at h
   refine a6 pLe ?_
   exact hR _ H _ _ I ⟨(decide (a3U≤32)),rfl,rfl,h⟩
  refine m7 fun j1 hx1=>?_
  refine y6 (σ:=Int×Int) (fun (a3T,B4)=>[(vi a3T),(vi B4)]) (fun (a3T,B4)=>[]) h rfl i ?_
  rintro ⟨a3T,B4⟩ H v w next2 n2 k I h hn2
  dsimp only at k I h
  simp only [List.map_cons,List.map_nil,List.cons.injEq,and_true] at k
  obtain ⟨e3,e4⟩:=k
  simp only [e3,e4]
  unfold b4Q
  unfold a0O at h
  refine a6 (a7c _) (a6 pLs ?_)
  refine d3 h (fun _ h=>?_) (fun _ h=>?_)
  ·refine d7 Tryd.call59 h I ?_
   rintro _ _ _ y r _ _ ⟨s,o,t,rfl,rfl,h⟩
   refine a6 (B8 _ _ (vi s) rfl) (a6 (B8 _ _ (vi o) rfl) (a6 (B8 _ _ (vB t) rfl) ?_))
   refine d7 Tryd.call60 h r ?_
   rintro _ u _ z p _ _ ⟨aa,rfl,rfl,h⟩
   refine a6 (G1 _) ?_
   simp only [q9]
   refine a6 (Pu.g fun a=>by simp only [d2 a];with_reducible exact pNe) ?_
   simp only [a3C,a6H]
   refine a6 (Pu.e (a1Y _ _ _) (Pu.g fun hb=>by obtain ⟨a,b⟩:=a3B hb;simp only [d2 hb];with_reducible exact pNe)) ?_
   simp only [a3C,b4f]
   refine a6 (Pu.e (a0R _ _ _) (Pu.g fun hb=>by obtain ⟨d,c⟩:=a1Z hb;obtain ⟨a,b⟩:=a3B d;simp only [d2 hb];with_reducible exact pEq)) ?_
   refine a6 (Pu.e (a1Y _ _ _) (Pu.g fun hb=>by obtain ⟨a,b⟩:=a3B hb;simp only [d2 hb,a7D hb];with_reducible exact (D3 _ _))) ?_
   refine a6 (Pu.g fun a=>by simp only [d2 a,a5I a];with_reducible exact (m9 _ _)) ?_
   refine a6 (D3 _ _) ?_
   refine f7 h (fun _ h=>?_) (fun _ h=>?_)
   ·exact hR _ u _ _ p ⟨false,rfl,rfl,h⟩
   ·refine a6 pAd (a6 pAd ?_)
    exact hn2 ((IntKind.wrap .i64 (a3T+1)),(IntKind.wrap .i64 (B4+o))) _ _ h p
  ·exact hx1 _ _ (hj1 a3T H _ I h)
def Z5(x0:a7)(x1:ByteArray)(x2:Bool)(H:Hp)(K:a7→Hp→Prop):Prop:=
 ((!x2)=true→
 K (a7.mk (x0.fok&&(decide (x1=⟨#[]⟩))) x0.fnames) H)∧
 ((!x2)=false→
 TG (x0.fnames=true) (Y4 x1 H) false H (fun(a:Bool)(b:Hp)=>
 K (a7.mk x0.fok (x0.fnames&&a)) b))
theorem a4z(x0 x1 x2){H K}(h:Z5 x0 x1 x2 H K):N4 x0 x1 x2 H K:=by
 intro g0
 refine Ct.of fun w0 w ps0 H0 R E I hR=>b8o ?_
 unfold Z5 at h
 unfold F20
 refine a6 (G1 _) ?_
 refine f7 h (fun _ h=>?_) (fun _ h=>?_)
 ·refine a6 (o9 _) (a6 D7 (b6 (l1 Tryd.isAgg4 I rfl) ?_))
  simp only [q9]
  refine a6 (Pu.g fun a=>by simp only [d2 a];with_reducible exact (K6 _ _ _ _ _)) ?_
  refine a6 (m9 _ _) (a6 (o9 _) (a6 D7 ?_))
  refine N2 I Tryd.sizeOf4 fun m j n=>?_
  exact hR _ H _ _ j ⟨(a7.mk (x0.fok&&(decide (x1=⟨#[]⟩))) x0.fnames),rfl,rfl,h⟩
 ·refine a6 (o9 _) (a6 a6W (b6 (l1 Tryd.isAgg4 I rfl) ?_))
  simp only [q9]
  refine M5 [] (fun b:Bool=>(vB b)) h I (fun e h=>?_) fun b c k d f i h=>?_
  ·have a:=e
   simp only [d2 a]
   refine d7 Tryd.call38 h I ?_
   rintro _ c _ k d i f ⟨b,rfl,rfl,h⟩
   exact ⟨b,c,rfl,d,f,i,h⟩
  refine a6 (m9 _ _) (a6 (o9 _) (a6 a6W ?_))
  refine N2 d Tryd.sizeOf4 fun o l p=>?_
  exact hR _ c _ _ l ⟨(a7.mk x0.fok (x0.fnames&&b)),rfl,rfl,h⟩
def V7(a6y:Int)(a:b9)(a4u:Int)(a1o:a8)(H:Hp)(n2:(Int×a8)→Hp→Prop)(K:a8→Hp→Prop):Prop:=
 (((decide (a4u < (a.q6.n:Int)))&&(decide (a1o.fbad=0)))=true→
 (0:Int)≤a4u∧(a4u:Int) < a.q6.n∧∃b:b9,EltH H a.q6 a4u 4 (c9 b)∧
 S7 a1o b (IntKind.wrap .i64 (a6y+1)) H (fun c d=>
 n2 ((IntKind.wrap .i64 (a4u+1)),c) d))∧
 (((decide (a4u < (a.q6.n:Int)))&&(decide (a1o.fbad=0)))=false→
 K a1o H)
def P6(a6z:Int)(O7:a8)(a:b9)(H:Hp)(K:a8→Hp→Prop):Prop:=
 TL ((0,O7):Int×a8) H fun(s:Int×a8) H n2=>V7 a6z a s.1 s.2 H n2 K
def V8(b9C:Int)(a:b9)(Q9:Int)(a5t:a8)(H:Hp)(n3:(Int×a8)→Hp→Prop)(K:a8→Hp→Prop):Prop:=
 (((decide (Q9 < (a.d5.n:Int)))&&(decide (a5t.fbad=0)))=true→
 (0:Int)≤Q9∧(Q9:Int) < a.d5.n∧∃b:b8,EltH H a.d5 Q9 4 (c7 b)∧
 N7 a5t b (IntKind.wrap .i64 (b9C+1)) H (fun c d=>
 n3 ((IntKind.wrap .i64 (Q9+1)),c) d))∧
 (((decide (Q9 < (a.d5.n:Int)))&&(decide (a5t.fbad=0)))=false→
 P6 b9C a5t a H K)
def Z6(x0:a8)(x1:b9)(x2:Int)(H:Hp)(K:a8→Hp→Prop):Prop:=
 J8 x0 x2 H (fun a b c=>
 ((!a)=true→
 K b c)∧
 ((!a)=false→
 TL ((0,b):Int×a8) c fun(s:Int×a8) H n3=>V8 x2 x1 s.1 s.2 H n3 K))
theorem a4A(x0 x1 x2){H K}(h:Z6 x0 x1 x2 H K):S7 x0 x1 x2 H K:=by
 intro g0
 refine Ct.of fun w0 w ps0 H0 R E I hR=>b8Y ?_
 unfold Z6 at h
 unfold F56
 refine B2 I (cs:=(c9 x1)) rfl fun b aa j ab=>?_
 refine d7 Tryd.call36 (h g0) (j.bring 1) ?_
 rintro _ k _ ac i _ _ ⟨ad,l,rfl,rfl,h⟩
 refine a6 (G1 _) ?_
 refine f7 h (fun _ h=>?_) (fun _ h=>?_)
 ·exact hR _ k _ _ (i.bring 1).drop ⟨l,rfl,rfl,h⟩
 ·have hj1:∀(O7:a8) H w (_:Inv w0 ps0 H0 H [bx g0 52 (g9 O7),bx b 77 (c9 x1)] w) (_:P6 x2 O7 x1 H K),b1N (Value.pointer (some ⟨g0,0,none⟩)) (vi x2) (Value.pointer (some ⟨b,0,none⟩)) w R E:=by
   intro O7 H w I h
   unfold b1N
   intro _
   unfold P6 at h
   refine y6 (σ:=Int×a8) (fun (a4u,a1o)=>[(vi a4u)]) (fun (a4u,a1o)=>[bx g0 52 (g9 a1o),bx b 77 (c9 x1)]) h rfl ((I.bring 1).bring 1) ?_
   rintro ⟨a4u,a1o⟩ H ae w next2 n2 c I h hn2
   dsimp only at c I h
   simp only [List.map_cons,List.map_nil,List.cons.injEq,and_true] at c
   have e7:=c
   simp only [e7]
   unfold b5h
   unfold V7 at h
   refine a6 G9 (b6 (l1 Tryd.isAgg47 (I.bring 1) rfl) (a6 (K2 _ _ _) (a6 pLs ?_)))
   simp only [q9]
   refine a6 (Pu.g fun a=>by simp only [d2 a];with_reducible exact (o9 _)) ?_
   refine a6 (Pu.g fun a=>by simp only [d2 a];with_reducible exact S3) ?_
   refine b6 (Ld.g fun a=>by simp only [d2 a];exact (l1 Tryd.isAgg3 I rfl)) ?_
   refine a6 (Pu.g fun a=>by simp only [d2 a];with_reducible exact pEq) ?_
   refine a6 (m9 _ _) ?_
   refine f7 h (fun _ h=>?_) (fun _ h=>?_)
   ·refine a6 G9 (b6 (l1 Tryd.isAgg47 (I.bring 1) rfl) ?_)
    obtain ⟨m,n,o,d,h⟩:=h
    obtain ⟨af,ag,p,d⟩:=d
    refine a6 (Y2 p _ _ _ _ m n) (b6 (ldA (vs:=(c9 o)) Tryd.isAgg77 Tryd.sizeOf77 rfl (I.atH d)) (a6 pAd ?_))
    refine d7 Tryd.call56 (h g0) I ?_
    rintro _ _ _ ah q _ _ ⟨r,rfl,rfl,h⟩
    refine a6 pAd ?_
    exact hn2 ((IntKind.wrap .i64 (a4u+1)),r) _ _ h ((q.bring 1).bring 1)
   ·exact hR _ H _ _ (I.bring 1).drop ⟨a1o,rfl,rfl,h⟩
  refine m7 fun j1 hx1=>?_
  refine y6 (σ:=Int×a8) (fun (Q9,a5t)=>[(vi Q9)]) (fun (Q9,a5t)=>[bx g0 52 (g9 a5t),bx b 77 (c9 x1)]) h rfl ((i.bring 1).bring 1) ?_
  rintro ⟨Q9,a5t⟩ H ai w next3 n3 e I h hn3
  dsimp only at e I h
  simp only [List.map_cons,List.map_nil,List.cons.injEq,and_true] at e
  have e6:=e
  simp only [e6]
  unfold b5i
  unfold V8 at h
  refine a6 G8 (b6 (l1 Tryd.isAgg39 (I.bring 1) rfl) (a6 (B0 _ _ _) (a6 pLs ?_)))
  simp only [q9]
  refine a6 (Pu.g fun a=>by simp only [d2 a];with_reducible exact (o9 _)) ?_
  refine a6 (Pu.g fun a=>by simp only [d2 a];with_reducible exact S3) ?_
  refine b6 (Ld.g fun a=>by simp only [d2 a];exact (l1 Tryd.isAgg3 I rfl)) ?_
  refine a6 (Pu.g fun a=>by simp only [d2 a];with_reducible exact pEq) ?_
  refine a6 (m9 _ _) ?_
  refine f7 h (fun _ h=>?_) (fun _ h=>?_)
  ·refine a6 G8 (b6 (l1 Tryd.isAgg39 (I.bring 1) rfl) ?_)
   obtain ⟨s,t,u,f,h⟩:=h
   obtain ⟨aj,ak,v,f⟩:=f
   refine a6 (O3 v _ _ _ _ s t) (b6 (ldA (vs:=(c7 u)) Tryd.isAgg41 Tryd.sizeOf41 rfl (I.atH f)) (a6 pAd ?_))
   refine d7 Tryd.call57 (h g0) I ?_
   rintro _ _ _ al y _ _ ⟨z,rfl,rfl,h⟩
   refine a6 pAd ?_
   exact hn3 ((IntKind.wrap .i64 (Q9+1)),z) _ _ h ((y.bring 1).bring 1)
  ·exact hx1 _ _ (hj1 a5t H _ ((I.bring 1).bring 1) h)
def P7(c0n:Sl)(c0M:Sl)(c0o:Int)(H:Hp)(n2:Int→Hp→Prop)(K:Bool→Hp→Prop):Prop:=
 n2 (IntKind.wrap .i64 (c0o+1)) H
def V9(c0p:Sl)(c0q:Sl)(c0r:Int)(b:c6)(a:c6)(a4v:Int)(H:Hp)(n2:Int→Hp→Prop)(n6:Int→Hp→Prop)(K:Bool→Hp→Prop):Prop:=
 (a4v < (a.d5.n:Int)→
 (0:Int)≤a4v∧(a4v:Int) < a.d5.n∧∃c:b8,EltH H a.d5 a4v 4 (c7 c)∧
 (0:Int)≤a4v∧(a4v:Int) < b.d5.n∧∃d:b8,EltH H b.d5 a4v 4 (c7 d)∧
 O5 c d H (fun e f=>
 ((!e)=true→
 K false f)∧
 ((!e)=false→
 n6 (IntKind.wrap .i64 (a4v+1)) f)))∧
 (¬(a4v < (a.d5.n:Int))→
 P7 c0p c0q c0r H n2 K)
def P8(b3B:Sl)(c0s:Sl)(c0t:Int)(a:c6)(b:c6)(H:Hp)(n2:Int→Hp→Prop)(K:Bool→Hp→Prop):Prop:=
 TL (0:Int) H fun(s:Int) H n6=>V9 b3B c0s c0t a b s H n2 n6 K
def W0(b2h:Sl)(c0u:Sl)(c0v:Int)(b:c6)(a:c6)(a4w:Int)(H:Hp)(n2:Int→Hp→Prop)(n7:Int→Hp→Prop)(K:Bool→Hp→Prop):Prop:=
 (a4w < (a.m8.n:Int)→
 (0:Int)≤a4w∧(a4w:Int) < a.m8.n∧∃c:b9,EltH H a.m8 a4w 4 (c9 c)∧
 (0:Int)≤a4w∧(a4w:Int) < b.m8.n∧∃d:b9,EltH H b.m8 a4w 4 (c9 d)∧
 T4 c d H (fun e f=>
 ((!e)=true→
 K false f)∧
 ((!e)=false→
 n7 (IntKind.wrap .i64 (a4w+1)) f)))∧
 (¬(a4w < (a.m8.n:Int))→
 P8 b2h c0u c0v b a H n2 K)
def K7(b5W:Sl)(c0w:Sl)(c0x:Int)(a:c6)(b:c6)(H:Hp)(n2:Int→Hp→Prop)(K:Bool→Hp→Prop):Prop:=
 TG (((((!decide (b.b7=a.b7))||(!decide (b.f4=a.f4)))||(!decide ((b.m8.n:Int)=(a.m8.n:Int))))||(!decide ((b.d5.n:Int)=(a.d5.n:Int))))=false) (J9 b.B1 a.B1 H) false H (fun(c:Bool)(d:Hp)=>
 TG ((((((!decide (b.b7=a.b7))||(!decide (b.f4=a.f4)))||(!decide ((b.m8.n:Int)=(a.m8.n:Int))))||(!decide ((b.d5.n:Int)=(a.d5.n:Int))))||(!c))=false) (J9 b.A8 a.A8 d) false d (fun(e:Bool)(f:Hp)=>
 (((((((!decide (b.b7=a.b7))||(!decide (b.f4=a.f4)))||(!decide ((b.m8.n:Int)=(a.m8.n:Int))))||(!decide ((b.d5.n:Int)=(a.d5.n:Int))))||(!c))||(!e))=true→
 K false f)∧
 (((((((!decide (b.b7=a.b7))||(!decide (b.f4=a.f4)))||(!decide ((b.m8.n:Int)=(a.m8.n:Int))))||(!decide ((b.d5.n:Int)=(a.d5.n:Int))))||(!c))||(!e))=false→
 TL (0:Int) f fun(s:Int) H n7=>W0 b5W c0w c0x a b s H n2 n7 K)))
def P9(H:Hp)(K:Bool→Hp→Prop):Prop:=
 K true H
def W1(a2r:Sl)(a2l:Sl)(C5:Int)(H:Hp)(n2:Int→Hp→Prop)(K:Bool→Hp→Prop):Prop:=
 (C5 < (a2r.n:Int)→
 (0:Int)≤C5∧(C5:Int) < a2r.n∧∃a:c6,EltH H a2r C5 6 (c5 a)∧
 (0:Int)≤C5∧(C5:Int) < a2l.n∧∃b:c6,EltH H a2l C5 6 (c5 b)∧
 K7 a2r a2l C5 b a H n2 K)∧
 (¬(C5 < (a2r.n:Int))→
 P9 H K)
def Z7(x0:Sl)(x1:Sl)(H:Hp)(K:Bool→Hp→Prop):Prop:=
 (¬((x0.n:Int)=(x1.n:Int))→
 K false H)∧
 ((x0.n:Int)=(x1.n:Int)→
 TL (0:Int) H fun(s:Int) H n2=>W1 x0 x1 s H n2 K)
theorem a4B(x0 x1){H K}(h:Z7 x0 x1 H K):J9 x0 x1 H K:=by
 refine Ct.of fun w0 w ps0 H0 R E I hR=>b8s ?_
 unfold Z7 at h
 unfold F24
 refine a6 (J6 _ _ _) (a6 (J6 _ _ _) (a6 pNe ?_))
 refine a0m h (fun _ h=>?_) (fun _ h=>?_)
 ·exact hR _ H _ _ I ⟨false,rfl,rfl,h⟩
 ·have hj1:∀H w (_:Inv w0 ps0 H0 H [] w) (_:P9 H K),b0X w R E:=by
   intro H w I h
   unfold b0X
   intro _
   unfold P9 at h
   exact hR _ H _ _ I ⟨true,rfl,rfl,h⟩
  refine m7 fun j1 hx1=>?_
  refine y6 (σ:=Int) (fun C5=>[(vi C5)]) (fun C5=>[]) h rfl I ?_
  rintro C5 H ch w next2 n2 ab I h hn2
  simp only [List.map_cons,List.map_nil,List.cons.injEq,and_true] at ab
  have e5:=ab
  simp only [e5]
  unfold b4E
  unfold W1 at h
  refine a6 (J6 _ _ _) (a6 pLs ?_)
  refine d3 h (fun _ h=>?_) (fun _ h=>?_)
  ·have hj3:∀H w (_:Inv w0 ps0 H0 H [] w) (_:P7 x0 x1 C5 H n2 K),b0Y (vs x0) (vs x1) (vi C5) w next2 R E:=by
    intro H w I h
    unfold b0Y
    intro _
    unfold P7 at h
    refine a6 pAd ?_
    exact hn2 (IntKind.wrap .i64 (C5+1)) _ _ h I
   refine m7 fun j3 hx3=>?_
   have hj4:∀(e:c6)(f:c6)(i:Nat)(j:Nat) H w (_:Inv w0 ps0 H0 H [bx i 49 (c5 e),bx j 49 (c5 f)] w) (_:K7 x0 x1 C5 e f H n2 K),b1a (vs x0) (vs x1) (vi C5) (Value.pointer (some ⟨j,0,none⟩)) (Value.pointer (some ⟨i,0,none⟩)) w j3 R E:=by
    intro e f i j H w I h
    unfold b1a
    intro _
    unfold K7 at h
    refine a6 S4 (b6 (l1 Tryd.isAgg3 (I.bring 1) rfl) (a6 S4 (b6 (l1 Tryd.isAgg3 I rfl) (a6 pNe ?_))))
    refine a6 (Pu.g fun a=>by with_reducible exact a0C) ?_
    refine b6 (Ld.g fun a=>by simp only [d2 a];exact (l1 Tryd.isAgg9 (I.bring 1) rfl)) ?_
    refine a6 (Pu.g fun a=>by with_reducible exact a0C) ?_
    refine b6 (Ld.g fun a=>by simp only [d2 a];exact (l1 Tryd.isAgg9 I rfl)) ?_
    refine a6 (Pu.g fun a=>by simp only [d2 a];with_reducible exact (b0C _ _ _ _ _)) ?_
    refine a6 (D3 _ _) ?_
    refine a6 (Pu.g fun a=>by with_reducible exact G7) ?_
    refine b6 (Ld.g fun a=>by simp only [d2 a];exact (l1 Tryd.isAgg47 (I.bring 1) rfl)) ?_
    refine a6 (Pu.g fun a=>by simp only [d2 a];with_reducible exact (K2 _ _ _)) ?_
    refine a6 (Pu.g fun a=>by with_reducible exact G7) ?_
    refine b6 (Ld.g fun a=>by simp only [d2 a];exact (l1 Tryd.isAgg47 I rfl)) ?_
    refine a6 (Pu.g fun a=>by simp only [d2 a];with_reducible exact (K2 _ _ _)) ?_
    refine a6 (Pu.g fun a=>by simp only [d2 a];with_reducible exact pNe) ?_
    refine a6 (D3 _ _) ?_
    refine a6 (Pu.g fun a=>by with_reducible exact D8) ?_
    refine b6 (Ld.g fun a=>by simp only [d2 a];exact (l1 Tryd.isAgg39 (I.bring 1) rfl)) ?_
    refine a6 (Pu.g fun a=>by simp only [d2 a];with_reducible exact (B0 _ _ _)) ?_
    refine a6 (Pu.g fun a=>by with_reducible exact D8) ?_
    refine b6 (Ld.g fun a=>by simp only [d2 a];exact (l1 Tryd.isAgg39 I rfl)) ?_
    refine a6 (Pu.g fun a=>by simp only [d2 a];with_reducible exact (B0 _ _ _)) ?_
    refine a6 (Pu.g fun a=>by simp only [d2 a];with_reducible exact pNe) ?_
    refine a6 (D3 _ _) ?_
    refine a6 (Pu.g fun a=>by with_reducible exact P2) ?_
    refine b6 (Ld.g fun a=>by simp only [d2 a];exact (l1 Tryd.isAgg23 (I.bring 1) rfl)) ?_
    refine a6 (Pu.g fun a=>by with_reducible exact P2) ?_
    refine b6 (Ld.g fun a=>by simp only [d2 a];exact (l1 Tryd.isAgg23 I rfl)) ?_
    refine M5 [] (fun p:Bool=>(vB p)) h I (fun ac h=>?_) fun p ad av b ae af h=>?_
    ·have a:=ac
     simp only [d2 a]
     refine d7 Tryd.call24 h I ?_
     rintro _ ad _ av b af ae ⟨p,rfl,rfl,h⟩
     exact ⟨p,ad,rfl,b,ae,af,h⟩
    refine a6 (Pu.g fun a=>by simp only [d2 a];with_reducible exact (G1 _)) ?_
    refine a6 (D3 _ _) ?_
    refine a6 (Pu.g fun a=>by with_reducible exact O0) ?_
    refine b6 (Ld.g fun a=>by simp only [d2 a];exact (l1 Tryd.isAgg23 (b.bring 1) rfl)) ?_
    refine a6 (Pu.g fun a=>by with_reducible exact O0) ?_
    refine b6 (Ld.g fun a=>by simp only [d2 a];exact (l1 Tryd.isAgg23 b rfl)) ?_
    refine M5 [] (fun q:Bool=>(vB q)) h b (fun ag h=>?_) fun q s aw r ah ai h=>?_
    ·have a:=ag
     simp only [d2 a]
     refine d7 Tryd.call24 h b ?_
     rintro _ s _ aw r ai ah ⟨q,rfl,rfl,h⟩
     exact ⟨q,s,rfl,r,ah,ai,h⟩
    refine a6 (Pu.g fun a=>by simp only [d2 a];with_reducible exact (G1 _)) ?_
    refine a6 (D3 _ _) ?_
    refine f7 h (fun _ h=>?_) (fun _ h=>?_)
    ·exact hR _ s _ _ r.drop.drop ⟨false,rfl,rfl,h⟩
    ·have hj5:∀H w (_:Inv w0 ps0 H0 H [bx i 49 (c5 e),bx j 49 (c5 f)] w) (_:P8 x0 x1 C5 e f H n2 K),b0Z (vs x0) (vs x1) (vi C5) (Value.pointer (some ⟨j,0,none⟩)) (Value.pointer (some ⟨i,0,none⟩)) w j3 R E:=by
      intro H w I h
      unfold b0Z
      intro _
      unfold P8 at h
      refine y6 (σ:=Int) (fun a4v=>[(vi a4v)]) (fun a4v=>[bx i 49 (c5 e),bx j 49 (c5 f)]) h rfl ((I.bring 1).bring 1) ?_
      rintro a4v H ci w next6 n6 aj I h hn6
      simp only [List.map_cons,List.map_nil,List.cons.injEq,and_true] at aj
      have e9:=aj
      simp only [e9]
      unfold b4C
      unfold V9 at h
      refine a6 D8 (b6 (l1 Tryd.isAgg39 (I.bring 1) rfl) (a6 (B0 _ _ _) (a6 pLs ?_)))
      refine d3 h (fun _ h=>?_) (fun _ h=>?_)
      ·refine a0l I fun cj l=>?_
       refine g8 D8 ?_
       refine g8 D8 ?_
       refine r6 (l1 Tryd.isAgg39 (l.bring 1) rfl) ?_
       obtain ⟨ax,ay,az,t,h⟩:=h
       obtain ⟨ck,cl,ba,t⟩:=t
       refine g8 (O3 ba _ _ _ _ ax ay) ?_
       refine r6 (ldA (vs:=(c7 az)) Tryd.isAgg41 Tryd.sizeOf41 rfl (l.atH t)) ?_
       refine r6 (l1 Tryd.isAgg39 l rfl) ?_
       obtain ⟨bb,bc,bd,u,h⟩:=h
       obtain ⟨cm,cn,be,u⟩:=u
       refine g8 (O3 be _ _ _ _ bb bc) ?_
       refine r6 (ldA (vs:=(c7 bd)) Tryd.isAgg41 Tryd.sizeOf41 rfl (l.atH u)) ?_
       refine d7 Tryd.call42 h l ?_
       rintro _ bf _ co ak _ _ ⟨cp,rfl,rfl,h⟩
       refine g8 (G1 _) ?_
       refine f7 h (fun _ h=>?_) (fun _ h=>?_)
       ·exact hR _ bf _ _ ak.drop.drop ⟨false,rfl,rfl,h⟩
       ·refine a6 pAd ?_
        exact hn6 (IntKind.wrap .i64 (a4v+1)) _ _ h ((ak.bring 1).bring 1)
      ·exact hx3 _ _ (hj3 H _ I.drop.drop h)
     refine m7 fun j5 hx5=>?_
     refine y6 (σ:=Int) (fun a4w=>[(vi a4w)]) (fun a4w=>[bx i 49 (c5 e),bx j 49 (c5 f)]) h rfl ((r.bring 1).bring 1) ?_
     rintro a4w H cq w next7 n7 al I h hn7
     simp only [List.map_cons,List.map_nil,List.cons.injEq,and_true] at al
     have e8:=al
     simp only [e8]
     unfold b4D
     unfold W0 at h
     refine a6 G7 (b6 (l1 Tryd.isAgg47 (I.bring 1) rfl) (a6 (K2 _ _ _) (a6 pLs ?_)))
     refine d3 h (fun _ h=>?_) (fun _ h=>?_)
     ·refine a0l I fun cr m=>?_
      refine g8 G7 ?_
      refine g8 G7 ?_
      refine r6 (l1 Tryd.isAgg47 (m.bring 1) rfl) ?_
      obtain ⟨bg,bh,bi,v,h⟩:=h
      obtain ⟨ct,cu,bj,v⟩:=v
      refine g8 (Y2 bj _ _ _ _ bg bh) ?_
      refine r6 (ldA (vs:=(c9 bi)) Tryd.isAgg77 Tryd.sizeOf77 rfl (m.atH v)) ?_
      refine r6 (l1 Tryd.isAgg47 m rfl) ?_
      obtain ⟨bk,bl,bm,y,h⟩:=h
      obtain ⟨cv,cw,bn,y⟩:=y
      refine g8 (Y2 bn _ _ _ _ bk bl) ?_
      refine r6 (ldA (vs:=(c9 bm)) Tryd.isAgg77 Tryd.sizeOf77 rfl (m.atH y)) ?_
      refine d7 Tryd.call41 h m ?_
      rintro _ bo _ cx am _ _ ⟨cy,rfl,rfl,h⟩
      refine g8 (G1 _) ?_
      refine f7 h (fun _ h=>?_) (fun _ h=>?_)
      ·exact hR _ bo _ _ am.drop.drop ⟨false,rfl,rfl,h⟩
      ·refine a6 pAd ?_
       exact hn7 (IntKind.wrap .i64 (a4w+1)) _ _ h ((am.bring 1).bring 1)
     ·exact hx5 _ _ (hj5 H _ ((I.bring 1).bring 1) h)
   refine m7 fun j4 hx4=>?_
   refine a0l I fun cz d=>?_
   obtain ⟨bp,bq,n,k,h⟩:=h
   obtain ⟨da,db,br,k⟩:=k
   refine g8 (J4 br _ _ _ _ bp bq) ?_
   obtain ⟨bs,bt,o,c,h⟩:=h
   obtain ⟨dc,dd,bu,c⟩:=c
   refine g8 (J4 bu _ _ _ _ bs bt) ?_
   refine r6 (ldA (vs:=(c5 n)) Tryd.isAgg49 Tryd.sizeOf49 rfl (d.atH k)) ?_
   refine r6 (ldA (vs:=(c5 o)) Tryd.isAgg49 Tryd.sizeOf49 rfl (d.atH c)) ?_
   refine ⟨?_,?_⟩
   ·refine u4 d Tryd.zeroValue49 (cs:=[(vi 0),(eS),(nS),(nS),(nS),(nS)]) rfl fun bv de z an=>?_
    refine ⟨(an _ (d.K0 c)),(an _ (d.K0 k)),?_⟩
    refine u4 z Tryd.zeroValue49 (cs:=[(vi 0),(eS),(nS),(nS),(nS),(nS)]) rfl fun bw df ao ap=>?_
    refine ⟨(ap _ (z.K0 c)),(ap _ (z.K0 k)),?_⟩
    refine D5 (ao.bring 1) Tryd.sizeOf49 (vs:=(c5 n)) fun dg bz ca=>?_
    refine ⟨(ca _ (Inv.b7S (ao.bring 1) c)),?_⟩
    refine D5 (bz.bring 1) Tryd.sizeOf49 (vs:=(c5 o)) fun dh cb di=>?_
    exact hx4 _ _ (hj4 o n bw bv H _ ((cb.bring 1).bring 1) h)
   ·refine u4 d Tryd.zeroValue49 (cs:=[(vi 0),(eS),(nS),(nS),(nS),(nS)]) rfl fun cc dj aa aq=>?_
    refine ⟨(aq _ (d.K0 c)),(aq _ (d.K0 k)),?_⟩
    refine u4 aa Tryd.zeroValue49 (cs:=[(vi 0),(eS),(nS),(nS),(nS),(nS)]) rfl fun cd dk ar au=>?_
    refine ⟨(au _ (aa.K0 c)),(au _ (aa.K0 k)),?_⟩
    refine D5 ar Tryd.sizeOf49 (vs:=(c5 n)) fun dl ce cf=>?_
    refine ⟨(cf _ (Inv.b7S ar c)),?_⟩
    refine D5 (ce.bring 1) Tryd.sizeOf49 (vs:=(c5 o)) fun dm cg dn=>?_
    exact hx4 _ _ (hj4 o n cc cd H _ ((cg.bring 1).bring 1) h)
  ·exact hx1 _ _ (hj1 H _ I h)
def a1G(x0:d4)(H:Hp)(K:d4→Hp→Prop):Prop:=
 ∃b:List s7,SlH H 2 j8 x0.B3 b∧(([]:List s7).length+b.length)*25≤140737488355328∧
 N9 x0.M7 H (fun e d=>
 ∀(c:Sl)(a:Hp),Hle d a→SlH a 2 j8 c b→NewS d a 45 2 c→
 K (d4.mk c e) a)
theorem a5Q(x0){H K}(h:a1G x0 H K):a3p x0 H K:=by
 refine Ct.of fun w0 w ps0 H0 R E I hR=>b9W ?_
 unfold a1G at h
 unfold F9
 refine B2 I (cs:=(f5 x0)) rfl fun t u g v=>?_
 refine u4 g Tryd.zeroValue25 (cs:=[(nS),(nS)]) rfl fun y z i aa=>?_
 refine a0l i fun ab a=>?_
 refine g8 L1 ?_
 refine g8 L2 ?_
 refine r6 (l1 Tryd.isAgg22 (a.bring 1) rfl) ?_
 refine r6 (l1 Tryd.isAgg23 (a.bring 1) rfl) ?_
 obtain ⟨ac,j,h⟩:=h
 obtain ⟨k,h⟩:=h
 refine b4j (s:=⟨none,0,0⟩) (xs:=[]) a.nil (RowL.nil a2P a5g) (SlH.src a.nil j a2P) k fun b ad ae c l m=>?_
 simp only [List.nil_append] at c
 refine ⟨(m _ (a.nil.bring 2).lt1 (Inv.b5Q ((a.nil.bring 2).bring 1))),?_⟩
 refine d7 Tryd.call29 h l ?_
 rintro _ _ _ af n _ _ ⟨d,rfl,rfl,h⟩
 refine g8 (a5f _ _ _ _ _ _) ?_
 refine D5 (n.bring 1) Tryd.sizeOf25 (vs:=[(vs b),(vs d)]) fun ag e ah=>?_
 refine a2T Tryd.isAgg25 Tryd.sizeOf25 rfl e ?_
 obtain ⟨f,o,p,q,r⟩:=Inv.freezeN (e.bring 1) c (by decide)
 replace h:=h b f p q r
 exact hR _ f _ _ o.drop.drop ⟨(d4.mk b d),rfl,rfl,h⟩
def M0(a1i:Bool)(b6J:Int)(a7Z:Bool)(a:s8)(b:P0)(H:Hp)(K:Bool→Hp→Prop):Prop:=
 (a7Z=true→
 K (a1i&&(decide (a.fexprs=0∧a.fconds=1))) H)∧
 (a7Z=false→
 (b6J=7→
 K (a1i&&(decide (a.fexprs=0∧a.fconds=0))) H)∧
 (¬(b6J=7)→
 K false H))
def a1S(x0:P0)(H:Hp)(K:Bool→Hp→Prop):Prop:=
 (x0.d6.b7=1→
 K ((!(decide (0 < (IntKind.wrap .i64 ((x0.d6.B1.n:Int)+(x0.d6.A8.n:Int))))))&&(decide ((x0.d6.d5.n:Int)=1∧(x0.d6.m8.n:Int)=0))) H)∧
 (¬(x0.d6.b7=1)→
 (x0.d6.b7=2→
 K ((!(decide (0 < (IntKind.wrap .i64 ((x0.d6.B1.n:Int)+(x0.d6.A8.n:Int))))))&&(decide ((x0.d6.d5.n:Int)=2∧(x0.d6.m8.n:Int)=0))) H)∧
 (¬(x0.d6.b7=2)→
 (x0.d6.b7=3→
 K ((decide (x0.d6.f4=⟨#[]⟩))&&(decide ((x0.d6.d5.n:Int)=0∧(x0.d6.m8.n:Int)=1))) H)∧
 (¬(x0.d6.b7=3)→
 (x0.d6.b7=4→
 K (((decide (x0.d6.f4=⟨#[]⟩))&&(decide ((x0.d6.A8.n:Int)=0)))&&(decide ((x0.d6.d5.n:Int)=0∧(x0.d6.m8.n:Int)=1))) H)∧
 (¬(x0.d6.b7=4)→
 (x0.d6.b7=5→
 M0 ((decide (x0.d6.f4=⟨#[]⟩))&&(!(decide (0 < (IntKind.wrap .i64 ((x0.d6.B1.n:Int)+(x0.d6.A8.n:Int))))))) x0.d6.b7 (decide (x0.d6.b7=5)) (s8.mk (x0.d6.d5.n:Int) (x0.d6.m8.n:Int)) x0 H K)∧
 (¬(x0.d6.b7=5)→
 M0 ((decide (x0.d6.f4=⟨#[]⟩))&&(!(decide (0 < (IntKind.wrap .i64 ((x0.d6.B1.n:Int)+(x0.d6.A8.n:Int))))))) x0.d6.b7 (decide (x0.d6.b7=6)) (s8.mk (x0.d6.d5.n:Int) (x0.d6.m8.n:Int)) x0 H K)))))
theorem a6c(x0){H K}(h:a1S x0 H K):a1O x0 H K:=by
 refine Ct.of fun w0 w ps0 H0 R E I hR=>b9v ?_
 unfold a1S at h
 unfold F97
 refine B2 I (cs:=(c5 x0.d6)) rfl fun e i c j=>?_
 refine a6 L4 (a6 P2 (b6 (l1 Tryd.isAgg23 c rfl) (a6 (J6 _ _ _) (a6 L4 ?_))))
 refine a6 O0 (b6 (l1 Tryd.isAgg23 c rfl) (a6 (J6 _ _ _) (a6 pAd (a6 pGt ?_))))
 refine a6 L4 (a6 D8 (b6 (l1 Tryd.isAgg39 c rfl) (a6 (B0 _ _ _) (a6 L4 ?_))))
 refine a6 G7 (b6 (l1 Tryd.isAgg47 c rfl) (a6 (K2 _ _ _) (a6 (a1v _ _) ?_)))
 refine u4 c Tryd.zeroValue145 (cs:=[(vi 0),(vi 0)]) rfl fun d k f l=>?_
 refine D5 f Tryd.sizeOf145 (vs:=[(vi (x0.d6.d5.n:Int)),(vi (x0.d6.m8.n:Int))]) fun m b p=>?_
 refine a6 L4 (a6 a0C (b6 (l1 Tryd.isAgg9 (b.bring 1) rfl) (a6 (K6 _ _ _ _ _) ?_)))
 simp only [q9]
 refine a6 (Pu.g fun a=>by simp only [d2 a];with_reducible exact (G1 _)) ?_
 refine a6 (m9 _ _) (a6 L4 (a6 S4 (b6 (l1 Tryd.isAgg3 (b.bring 1) rfl) (a6 pEq ?_))))
 refine d3 h (fun _ h=>?_) (fun _ h=>?_)
 ·refine a6 (G1 _) ?_
  refine b6 (Ld.g fun a=>by exact (ldA Tryd.isAgg145 Tryd.sizeOf145 rfl (b.at1 (o:=0) (vs:=[(vi (x0.d6.d5.n:Int)),(vi (x0.d6.m8.n:Int))]) (nb rfl) rfl))) ?_
  refine a6 (Pu.g fun a=>by with_reducible exact (a1v _ _)) ?_
  refine a6 (Pu.g fun a=>by simp only [d2 a];with_reducible exact (a4f _ _ _ _ _ _)) ?_
  refine a6 (m9 _ _) ?_
  exact hR _ H _ _ b.drop.drop ⟨((!(decide (0 < (IntKind.wrap .i64 ((x0.d6.B1.n:Int)+(x0.d6.A8.n:Int))))))&&(decide ((x0.d6.d5.n:Int)=1∧(x0.d6.m8.n:Int)=0))),rfl,rfl,h⟩
 ·refine a6 pEq ?_
  refine d3 h (fun _ h=>?_) (fun _ h=>?_)
  ·refine a6 (G1 _) ?_
   refine b6 (Ld.g fun a=>by exact (ldA Tryd.isAgg145 Tryd.sizeOf145 rfl (b.at1 (o:=0) (vs:=[(vi (x0.d6.d5.n:Int)),(vi (x0.d6.m8.n:Int))]) (nb rfl) rfl))) ?_
   refine a6 (Pu.g fun a=>by with_reducible exact (a1v _ _)) ?_
   refine a6 (Pu.g fun a=>by simp only [d2 a];with_reducible exact (a4f _ _ _ _ _ _)) ?_
   refine a6 (m9 _ _) ?_
   exact hR _ H _ _ b.drop.drop ⟨((!(decide (0 < (IntKind.wrap .i64 ((x0.d6.B1.n:Int)+(x0.d6.A8.n:Int))))))&&(decide ((x0.d6.d5.n:Int)=2∧(x0.d6.m8.n:Int)=0))),rfl,rfl,h⟩
  ·refine a6 pEq ?_
   refine d3 h (fun _ h=>?_) (fun _ h=>?_)
   ·refine a6 L4 (a6 a0C (b6 (l1 Tryd.isAgg9 (b.bring 1) rfl) (a6 (K6 _ _ _ _ _) ?_)))
    refine b6 (Ld.g fun a=>by exact (ldA Tryd.isAgg145 Tryd.sizeOf145 rfl (b.at1 (o:=0) (vs:=[(vi (x0.d6.d5.n:Int)),(vi (x0.d6.m8.n:Int))]) (nb rfl) rfl))) ?_
    refine a6 (Pu.g fun a=>by with_reducible exact (a1v _ _)) ?_
    refine a6 (Pu.g fun a=>by simp only [d2 a];with_reducible exact (a4f _ _ _ _ _ _)) ?_
    refine a6 (m9 _ _) ?_
    exact hR _ H _ _ b.drop.drop ⟨((decide (x0.d6.f4=⟨#[]⟩))&&(decide ((x0.d6.d5.n:Int)=0∧(x0.d6.m8.n:Int)=1))),rfl,rfl,h⟩
   ·refine a6 pEq ?_
    refine d3 h (fun _ h=>?_) (fun _ h=>?_)
    ·refine a6 L4 (a6 a0C (b6 (l1 Tryd.isAgg9 (b.bring 1) rfl) (a6 (K6 _ _ _ _ _) ?_)))
     refine a6 (Pu.g fun a=>by with_reducible exact L4) ?_
     refine a6 (Pu.g fun a=>by simp only [d2 a];with_reducible exact O0) ?_
     refine b6 (Ld.g fun a=>by simp only [d2 a];exact (l1 Tryd.isAgg23 (b.bring 1) rfl)) ?_
     refine a6 (Pu.g fun a=>by simp only [d2 a];with_reducible exact (J6 _ _ _)) ?_
     refine a6 (Pu.g fun a=>by simp only [d2 a];with_reducible exact pEq) ?_
     refine a6 (m9 _ _) ?_
     refine b6 (Ld.g fun a=>by exact (ldA Tryd.isAgg145 Tryd.sizeOf145 rfl (b.at1 (o:=0) (vs:=[(vi (x0.d6.d5.n:Int)),(vi (x0.d6.m8.n:Int))]) (nb rfl) rfl))) ?_
     refine a6 (Pu.g fun a=>by with_reducible exact (a1v _ _)) ?_
     refine a6 (Pu.g fun a=>by simp only [d2 a];with_reducible exact (a4f _ _ _ _ _ _)) ?_
     refine a6 (m9 _ _) ?_
     exact hR _ H _ _ b.drop.drop ⟨(((decide (x0.d6.f4=⟨#[]⟩))&&(decide ((x0.d6.A8.n:Int)=0)))&&(decide ((x0.d6.d5.n:Int)=0∧(x0.d6.m8.n:Int)=1))),rfl,rfl,h⟩
    ·have hj1:∀(a7Z:Bool) H w (_:Inv w0 ps0 H0 H [bx d 145 [(vi (s8.mk (x0.d6.d5.n:Int) (x0.d6.m8.n:Int)).fexprs),(vi (s8.mk (x0.d6.d5.n:Int) (x0.d6.m8.n:Int)).fconds)],bx e 110 (c5 x0.d6)] w) (_:M0 ((decide (x0.d6.f4=⟨#[]⟩))&&(!(decide (0 < (IntKind.wrap .i64 ((x0.d6.B1.n:Int)+(x0.d6.A8.n:Int))))))) x0.d6.b7 a7Z (s8.mk (x0.d6.d5.n:Int) (x0.d6.m8.n:Int)) x0 H K),b2f (Value.pointer (some ⟨d,0,none⟩)) (vB ((decide (x0.d6.f4=⟨#[]⟩))&&(!(decide (0 < (IntKind.wrap .i64 ((x0.d6.B1.n:Int)+(x0.d6.A8.n:Int)))))))) (vi x0.d6.b7) (vB a7Z) w R E:=by
      intro a7Z H w I h
      unfold b2f
      intro _
      unfold M0 at h
      refine f7 h (fun _ h=>?_) (fun _ h=>?_)
      ·refine b6 (Ld.g fun a=>by exact (ldA Tryd.isAgg145 Tryd.sizeOf145 rfl (I.at1 (o:=0) (vs:=[(vi (s8.mk (x0.d6.d5.n:Int) (x0.d6.m8.n:Int)).fexprs),(vi (s8.mk (x0.d6.d5.n:Int) (x0.d6.m8.n:Int)).fconds)]) (nb rfl) rfl))) ?_
       refine a6 (Pu.g fun a=>by with_reducible exact (a1v _ _)) ?_
       refine a6 (Pu.g fun a=>by simp only [d2 a];with_reducible exact (a4f _ _ _ _ _ _)) ?_
       refine a6 (m9 _ _) ?_
       exact hR _ H _ _ I.drop.drop ⟨(((decide (x0.d6.f4=⟨#[]⟩))&&(!(decide (0 < (IntKind.wrap .i64 ((x0.d6.B1.n:Int)+(x0.d6.A8.n:Int)))))))&&(decide ((s8.mk (x0.d6.d5.n:Int) (x0.d6.m8.n:Int)).fexprs=0∧(s8.mk (x0.d6.d5.n:Int) (x0.d6.m8.n:Int)).fconds=1))),rfl,rfl,h⟩
      ·refine a6 pEq ?_
       refine d3 h (fun _ h=>?_) (fun _ h=>?_)
       ·refine b6 (Ld.g fun a=>by exact (ldA Tryd.isAgg145 Tryd.sizeOf145 rfl (I.at1 (o:=0) (vs:=[(vi (s8.mk (x0.d6.d5.n:Int) (x0.d6.m8.n:Int)).fexprs),(vi (s8.mk (x0.d6.d5.n:Int) (x0.d6.m8.n:Int)).fconds)]) (nb rfl) rfl))) ?_
        refine a6 (Pu.g fun a=>by with_reducible exact (b3v)) ?_
        refine a6 (Pu.g fun a=>by simp only [d2 a];with_reducible exact (a4f _ _ _ _ _ _)) ?_
        refine a6 (m9 _ _) ?_
        exact hR _ H _ _ I.drop.drop ⟨(((decide (x0.d6.f4=⟨#[]⟩))&&(!(decide (0 < (IntKind.wrap .i64 ((x0.d6.B1.n:Int)+(x0.d6.A8.n:Int)))))))&&(decide ((s8.mk (x0.d6.d5.n:Int) (x0.d6.m8.n:Int)).fexprs=0∧(s8.mk (x0.d6.d5.n:Int) (x0.d6.m8.n:Int)).fconds=0))),rfl,rfl,h⟩
       ·exact hR _ H _ _ I.drop.drop ⟨false,rfl,rfl,h⟩
     refine m7 fun j1 hx1=>?_
     refine a6 pEq ?_
     refine d3 h (fun _ h=>?_) (fun _ h=>?_)
     ·exact hx1 _ _ (hj1 (decide (x0.d6.b7=5)) H _ ((b.bring 1).bring 1) h)
     ·refine a6 pEq ?_
      exact hx1 _ _ (hj1 (decide (x0.d6.b7=6)) H _ ((b.bring 1).bring 1) h)
end Go.Proofs.YtpgelfheccpejaaDoor
