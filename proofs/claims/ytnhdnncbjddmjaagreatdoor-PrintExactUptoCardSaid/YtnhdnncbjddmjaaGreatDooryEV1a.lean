/- Typed formulas of the program's functions, and the theorems that the contracts follow from them; printed by lift.py off the code. -/
import Derived.Test.YtnhdnncbjddmjaaGreatDooryEV1
namespace Go.Proofs.YtnhdnncbjddmjaaGreatDoor
open Go.RowKit
set_option maxRecDepth 100000
set_option maxHeartbeats 2000000
def a3S(x0:Int)(x1:Int)(x2:Int)(H:Hp)(K:Bool→Hp→Prop):Prop:=
 K ((decide (x0≤x2))&&(decide (x2≤x1))) H
theorem a6M(x0 x1 x2){H K}(h:a3S x0 x1 x2 H K):D4 x0 x1 x2 H K:=by
 intro g2
 refine Ct.of fun w0 w ps0 H0 R E I hR=>b7c ?_
 unfold a3S at h
 unfold b9B
 refine b9 (l1 Tryz.isAgg21 I rfl) (a7 pLe ?_)
 refine b9 (Ld.g fun a=>by exact (l1 Tryz.isAgg21 I rfl)) ?_
 simp only [o6]
 refine a7 (Pu.g fun a=>by simp only [d9 a];with_reducible exact pLe) ?_
 refine a7 (o7 _ _) ?_
 exact hR _ H _ _ I ⟨((decide (x0≤x2))&&(decide (x2≤x1))),rfl,rfl,h⟩
def a3C(x0:ByteArray)(H:Hp)(K:Bool→Hp→Prop):Prop:=
 R7 x0 H (fun a b=>
 K (decide (32 < a)) b)
theorem a8r(x0){H K}(h:a3C x0 H K):a3z x0 H K:=by
 refine Ct.of fun w0 w ps0 H0 R E I hR=>b9v ?_
 unfold a3C at h
 unfold F96
 refine d3 Tryz.call105 h I ?_
 rintro _ a _ d b _ _ ⟨c,rfl,rfl,h⟩
 refine a7 pGt ?_
 exact hR _ a _ _ b ⟨(decide (32 < c)),rfl,rfl,h⟩
def U1(x0:(List ByteArray))(x1:ByteArray)(H:Hp)(K:Bool→Hp→Prop):Prop:=
 Y0 x0 x1 H (fun a b=>
 K (decide (0≤a)) b)
theorem a3Y(x0 x1){H K}(h:U1 x0 x1 H K):N2 x0 x1 H K:=by
 intro sx0 Fx0 hx0
 refine Ct.of fun w0 w ps0 H0 R E I hR=>b9s ?_
 unfold U1 at h
 unfold F82
 refine d3 Tryz.call100 (h sx0 Fx0 hx0) I ?_
 rintro _ a _ d b _ _ ⟨c,rfl,rfl,h⟩
 refine a7 pGe ?_
 exact hR _ a _ _ b ⟨(decide (0≤c)),rfl,rfl,h⟩
def a0j(x0:c5)(a:(List Int))(H:Hp)(K:Bool→Hp→Prop):Prop:=
 a1Y (f2 x0) a H (fun b c=>
 K (decide (65536 < b)) c)
theorem a5d(x0 a){H K}(h:a0j x0 a H K):R1 x0 a H K:=by
 intro g0 b c d
 refine Ct.of fun w0 w ps0 H0 R E I hR=>b8l ?_
 unfold a0j at h
 unfold F12
 refine a7 (g7 _) (a7 a5o ?_)
 refine d3 Tryz.call29 (h g0 b c d) ((I.bring 1).bring 1) ?_
 rintro _ e _ i f _ _ ⟨g,rfl,rfl,h⟩
 refine a7 pGt ?_
 exact hR _ e _ _ ((f.bring 1).bring 1) ⟨(decide (65536 < g)),rfl,rfl,h⟩
def a0k(x0:c5)(b:(List Int))(x1:d8)(H:Hp)(K:c5→(List Int)→Hp→Prop):Prop:=
 U8 x1.b8 H (fun k a=>
 (x1.b8=1→
 a4E x1.a0w 10 a (fun af t=>
 ∀(l:Sl)(c:Hp),Hle t c→SlH c 1 j8 l [af]→NewS t c 9 1 l→
 m9 (f2 x0) b l c (fun ag ah ai=>
 K (f2 ag) ah ai)))∧
 (¬(x1.b8=1)→
 (x1.b8=2→
 ∀(m:Sl)(d:Hp),Hle a d→SlH d 1 j8 m [x1.f4]→NewS a d 9 1 m→
 m9 (f2 x0) b m d (fun aj ak al=>
 K (f2 aj) ak al))∧
 (¬(x1.b8=2)→
 (x1.b8=3→
 ∀(o:Sl)(e:Hp),Hle a e→SlH e 1 j8 o [⟨#[105,110,112,117,116]⟩]→NewS a e 9 1 o→
 m9 (f2 x0) b o e (fun am an ao=>
 K (f2 am) an ao))∧
 (¬(x1.b8=3)→
 (x1.b8=4→
 ∀(p:Sl)(f:Hp),Hle a f→SlH f 1 j8 p [x1.f4,⟨#[91]⟩]→NewS a f 9 1 p→
 m9 (f2 x0) b p f (fun ap aq u=>
 (0:Int)≤0∧(0:Int) < x1.r5.n∧∃v:d8,EltH u x1.r5 0 4 (c7 v)∧
 u4 (f2 ap) aq v u (fun ar au y=>
 ∀(q:Sl)(g:Hp),Hle y g→SlH g 1 j8 q [⟨#[93]⟩]→NewS y g 9 1 q→
 m9 (f2 ar) au q g (fun av aw ax=>
 K (f2 av) aw ax))))∧
 (¬(x1.b8=4)→
 (x1.b8=5→
 ∀(r:Sl)(i:Hp),Hle a i→SlH i 1 j8 r [⟨#[45]⟩]→NewS a i 9 1 r→
 m9 (f2 x0) b r i (fun ay az z=>
 (0:Int)≤0∧(0:Int) < x1.r5.n∧∃aa:d8,EltH z x1.r5 0 4 (c7 aa)∧
 T8 (f2 ay) az aa k z (fun ba bb bc=>
 K (f2 ba) bb bc)))∧
 (¬(x1.b8=5)→
 (0:Int)≤0∧(0:Int) < x1.r5.n∧∃ab:d8,EltH a x1.r5 0 4 (c7 ab)∧
 T8 (f2 x0) b ab k a (fun bd be bf=>
 a1r x1.b8 bf (fun bg ac=>
 ∀(s:Sl)(j:Hp),Hle ac j→SlH j 1 j8 s [⟨#[32]⟩,bg,⟨#[32]⟩]→NewS ac j 9 1 s→
 m9 (f2 bd) be s j (fun bh bi ad=>
 (0:Int)≤1∧(1:Int) < x1.r5.n∧∃ae:d8,EltH ad x1.r5 1 4 (c7 ae)∧
 T8 (f2 bh) bi ae (IntKind.wrap .i64 (k+1)) ad (fun bj bk bl=>
 K (f2 bj) bk bl))))))))))
theorem a5e(x0 o x1){H K}(h:a0k x0 o x1 H K):u4 x0 o x1 H K:=by
 intro g0 b d f
 refine Ct.of fun w0 w ps0 H0 R E I hR=>b8s ?_
 unfold a0k at h
 unfold F19
 refine y7 I (cs:=(c7 x1)) rfl fun fd fe p ff=>?_
 refine a7 L8 (b9 (l1 Tryz.isAgg3 p rfl) ?_)
 refine d3 Tryz.call37 h p ?_
 rintro _ _ _ fg a _ _ ⟨fh,rfl,rfl,h⟩
 refine a7 L8 (b9 (l1 Tryz.isAgg3 a rfl) (a7 pEq ?_))
 refine c8 h (fun _ h=>?_) (fun _ h=>?_)
 ·refine a7 a3q (b9 (l1 Tryz.isAgg2 a rfl) ?_)
  refine d3 Tryz.call38 h a ?_
  rintro _ _ _ fi r _ _ ⟨s,rfl,rfl,h⟩
  refine W0 (e:=9) (c:=j8) (xs:=[s]) r (O9 _) rfl rfl D6 D7 (nb rfl) fun t fj fk u v fl=>?_
  obtain ⟨y,z,aa,ab,ac⟩:=Inv.freezeN v u (by decide)
  replace h:=h t y aa ab ac
  refine d3 Tryz.call23 (h g0 b d f) ((z.bring 2).bring 2) ?_
  rintro _ ad _ fm ae _ _ ⟨af,ag,ah,ai,rfl,rfl,aj,h⟩
  exact hR _ ad _ _ (((ae.bring 2).drop.bring 1).bring 1) ⟨(f2 af),ag,ah,ai,rfl,rfl,aj,h⟩
 ·refine a7 pEq ?_
  refine c8 h (fun _ h=>?_) (fun _ h=>?_)
  ·refine a7 a2j (b9 (l1 Tryz.isAgg9 a rfl) ?_)
   refine W0 (e:=9) (c:=j8) (xs:=[x1.f4]) a (O9 _) rfl rfl D6 D7 (nb rfl) fun ak fn fo al am fp=>?_
   obtain ⟨an,ao,ap,aq,ar⟩:=Inv.freezeN am al (by decide)
   replace h:=h ak an ap aq ar
   refine d3 Tryz.call23 (h g0 b d f) ((ao.bring 2).bring 2) ?_
   rintro _ au _ fq av _ _ ⟨aw,ax,ay,az,rfl,rfl,ba,h⟩
   exact hR _ au _ _ (((av.bring 2).drop.bring 1).bring 1) ⟨(f2 aw),ax,ay,az,rfl,rfl,ba,h⟩
  ·refine a7 pEq ?_
   refine c8 h (fun _ h=>?_) (fun _ h=>?_)
   ·refine W0 (e:=9) (c:=j8) (xs:=[⟨#[105,110,112,117,116]⟩]) a (O9 _) rfl rfl D6 D7 (nb rfl) fun bb fs ft bc bd fu=>?_
    obtain ⟨be,bf,bg,bh,bi⟩:=Inv.freezeN bd bc (by decide)
    replace h:=h bb be bg bh bi
    refine d3 Tryz.call23 (h g0 b d f) ((bf.bring 2).bring 2) ?_
    rintro _ bj _ fv bk _ _ ⟨bl,bm,bn,bo,rfl,rfl,bp,h⟩
    exact hR _ bj _ _ (((bk.bring 2).drop.bring 1).bring 1) ⟨(f2 bl),bm,bn,bo,rfl,rfl,bp,h⟩
   ·refine a7 pEq ?_
    refine c8 h (fun _ h=>?_) (fun _ h=>?_)
    ·refine a7 a2j (b9 (l1 Tryz.isAgg9 a rfl) ?_)
     refine W0 (e:=9) (c:=j8) (xs:=[x1.f4,⟨#[91]⟩]) a (a7Z _ _) rfl rfl D6 D7 (nb rfl) fun bq fw fx br bs fy=>?_
     obtain ⟨bt,bu,bv,bw,bz⟩:=Inv.freezeN bs br (by decide)
     replace h:=h bq bt bv bw bz
     refine d3 Tryz.call23 (h g0 b d f) ((bu.bring 2).bring 2) ?_
     rintro _ _ _ fz g _ _ ⟨ga,gb,ca,cb,rfl,rfl,cc,h⟩
     refine a7 G3 (b9 (l1 Tryz.isAgg34 (g.bring 2) rfl) ?_)
     obtain ⟨cd,ce,cf,i,h⟩:=h
     obtain ⟨gc,gd,cg,i⟩:=i
     refine a7 (B3 cg _ _ _ _ cd ce) (b9 (ldA (vs:=(c7 cf)) Tryz.isAgg36 Tryz.sizeOf36 rfl (g.atH i)) ?_)
     refine d3 Tryz.call19 (h g0 ca cb cc) ((g.bring 1).bring 1) ?_
     rintro _ _ _ ge ch _ _ ⟨gf,gg,ci,cj,rfl,rfl,ck,h⟩
     refine W0 (e:=9) (c:=j8) (xs:=[⟨#[93]⟩]) ch (O9 _) rfl rfl D6 D7 (nb rfl) fun cl gh gi cm cn gj=>?_
     obtain ⟨co,cp,cq,cr,ct⟩:=Inv.freezeN cn cm (by decide)
     replace h:=h cl co cq cr ct
     refine d3 Tryz.call23 (h g0 ci cj ck) ((cp.bring 1).bring 1) ?_
     rintro _ cu _ gk cv _ _ ⟨cw,cx,cy,cz,rfl,rfl,da,h⟩
     exact hR _ cu _ _ (((cv.bring 2).drop.bring 1).bring 1) ⟨(f2 cw),cx,cy,cz,rfl,rfl,da,h⟩
    ·refine a7 pEq ?_
     refine c8 h (fun _ h=>?_) (fun _ h=>?_)
     ·refine W0 (e:=9) (c:=j8) (xs:=[⟨#[45]⟩]) a (O9 _) rfl rfl D6 D7 (nb rfl) fun db gl gm dc dd gn=>?_
      obtain ⟨de,df,dg,dh,di⟩:=Inv.freezeN dd dc (by decide)
      replace h:=h db de dg dh di
      refine d3 Tryz.call23 (h g0 b d f) ((df.bring 2).bring 2) ?_
      rintro _ _ _ go j _ _ ⟨gp,gq,dj,dk,rfl,rfl,dl,h⟩
      refine a7 G3 (b9 (l1 Tryz.isAgg34 (j.bring 2) rfl) ?_)
      obtain ⟨dm,dn,dp,k,h⟩:=h
      obtain ⟨gr,gs,dq,k⟩:=k
      refine a7 (B3 dq _ _ _ _ dm dn) (b9 (ldA (vs:=(c7 dp)) Tryz.isAgg36 Tryz.sizeOf36 rfl (j.atH k)) ?_)
      refine d3 Tryz.call39 (h g0 dj dk dl) ((j.bring 1).bring 1) ?_
      rintro _ dr _ gt ds _ _ ⟨dt,du,dv,dw,rfl,rfl,dx,h⟩
      exact hR _ dr _ _ (((ds.bring 2).drop.bring 1).bring 1) ⟨(f2 dt),du,dv,dw,rfl,rfl,dx,h⟩
     ·refine a7 G3 (b9 (l1 Tryz.isAgg34 a rfl) ?_)
      obtain ⟨dy,dz,ea,l,h⟩:=h
      obtain ⟨gu,gv,eb,l⟩:=l
      refine a7 (B3 eb _ _ _ _ dy dz) (b9 (ldA (vs:=(c7 ea)) Tryz.isAgg36 Tryz.sizeOf36 rfl (a.atH l)) ?_)
      refine d3 Tryz.call39 (h g0 b d f) ((a.bring 2).bring 2) ?_
      rintro _ _ _ gw q _ _ ⟨gx,gy,ec,ed,rfl,rfl,ee,h⟩
      refine a7 L8 (b9 (l1 Tryz.isAgg3 (q.bring 2) rfl) ?_)
      refine d3 Tryz.call40 h q ?_
      rintro _ _ _ gz ef _ _ ⟨eg,rfl,rfl,h⟩
      refine W0 (e:=9) (c:=j8) (xs:=[⟨#[32]⟩,eg,⟨#[32]⟩]) ef (a9r _ _ _) rfl rfl D6 D7 (nb rfl) fun eh ha hb ei ej hc=>?_
      obtain ⟨ek,el,em,en,eo⟩:=Inv.freezeN ej ei (by decide)
      replace h:=h eh ek em en eo
      refine d3 Tryz.call23 (h g0 ec ed ee) ((el.bring 1).bring 1) ?_
      rintro _ _ _ hd m _ _ ⟨he,hf,ep,eq,rfl,rfl,er,h⟩
      refine a7 G3 (b9 (l1 Tryz.isAgg34 (m.bring 2) rfl) ?_)
      obtain ⟨es,et,eu,n,h⟩:=h
      obtain ⟨hg,hh,ev,n⟩:=n
      refine a7 (B3 ev _ _ _ _ es et) (b9 (ldA (vs:=(c7 eu)) Tryz.isAgg36 Tryz.sizeOf36 rfl (m.atH n)) (a7 pAd ?_))
      refine d3 Tryz.call39 (h g0 ep eq er) ((m.bring 1).bring 1) ?_
      rintro _ ew _ hi ex _ _ ⟨ey,ez,fa,fb,rfl,rfl,fc,h⟩
      exact hR _ ew _ _ (((ex.bring 2).drop.bring 1).bring 1) ⟨(f2 ey),ez,fa,fb,rfl,rfl,fc,h⟩
def r7(V2:(List c6))(H:Hp)(K:Sl→Hp→Prop):Prop:=
 ∀(E4:Sl)(a:Hp),Hle H a→SlH a 1 l7 E4 V2→NewS H a 92 1 E4→
 K E4 a
def r8(a0E:Sl)(a4j:Int)(p9:(List c6))(p5:Int)(H:Hp)(n2:((List c6)×Int)→Hp→Prop)(K:Sl→Hp→Prop):Prop:=
 (p5 < a4j→
 (0:Int)≤p5∧(p5:Int) < a0E.n∧∃a:i6,EltH H a0E p5 6 (d7 a)∧
 a4g a H (fun b c=>
 (p9.length+([b]:List c6).length)*17≤140737488355328∧
 n2 ((p9++[b]),(IntKind.wrap .i64 (p5+1))) c))∧
 (¬(p5 < a4j)→
 r7 p9 H K)
def C1(x0:Sl)(H:Hp)(K:Sl→Hp→Prop):Prop:=
 TL (([],0):(List c6)×Int) H fun(s:(List c6)×Int) H n2=>r8 x0 (x0.n:Int) s.1 s.2 H n2 K
theorem Y1(x0){H K}(h:C1 x0 H K):p7 x0 H K:=by
 refine Ct.of fun w0 w ps0 H0 R E I hR=>b8P ?_
 unfold C1 at h
 unfold F44
 have hj1:∀(V2:(List c6))(E4:Sl)(Fs5j1:Frag) H w (_:RowL 92 1 l7 E4 V2 Fs5j1) (_:Inv w0 ps0 H0 H [Fs5j1] w) (_:r7 V2 H K),b1t (vs E4) w R E:=by
  intro V2 E4 Fs5j1 H w a7i I h
  unfold b1t
  intro _
  unfold r7 at h
  obtain ⟨j,q,r,t,u⟩:=Inv.freezeN I a7i (by decide)
  replace h:=h E4 j r t u
  exact hR _ j _ _ q ⟨E4,rfl,rfl,h⟩
 refine k8 fun j1 hx1=>?_
 refine a7 (K8 _ _ _) ?_
 obtain ⟨f,d,v,y⟩:=h
 refine a1B (J:=fun n l w=>∃(s:(List c6)×Int)(H:Hp)(V3:Sl)(Fs5l2:Frag),n=d s∧l=(match s with | (p9,p5)=>[(vs V3),(vi p5)])∧(match s with | (p9,p5)=>RowL 92 1 l7 V3 p9 Fs5l2)∧(match s with | (p9,p5)=>Inv w0 ps0 H0 H [Fs5l2] w)∧f s H) ⟨_,([],0),H,(Sl.mk none 0 0),[],rfl,rfl,(RowL.nil G9 K4),I.nil,v⟩ ?_
 rintro am an w next2 ⟨⟨p9,p5⟩,H,V3,Fs5l2,rfl,g,a2m,I,z⟩ hn2
 dsimp only at g I a2m
 simp only [List.map_cons,List.map_nil,List.cons.injEq,and_true] at g
 obtain ⟨e5,e10⟩:=g
 simp only [e5,e10]
 obtain ⟨n2,hm2,h⟩:∃n2:((List c6)×Int)→Hp→Prop,(∀s' H',n2 s' H'→f s' H'∧d s' < d (p9,p5))∧r8 x0 (x0.n:Int) p9 p5 H n2 K:=⟨_,fun _ _ h=>h,y (p9,p5) H (fun s' H'=>f s' H'∧d s' < d (p9,p5)) z (fun _ _ a b=>⟨a,b⟩)⟩
 unfold b4H
 unfold r8 at h
 refine a7 pLs ?_
 refine c8 h (fun _ h=>?_) (fun _ h=>?_)
 ·obtain ⟨aa,ab,k,i,h⟩:=h
  obtain ⟨ao,ap,ac,i⟩:=i
  refine a7 (a1P ac _ _ _ _ aa ab) (b9 (ldA (vs:=(d7 k)) Tryz.isAgg51 Tryz.sizeOf51 rfl (I.atH i)) ?_)
  refine L1 I Tryz.zeroValue51 (cs:=[(vi 0),(eS),(nS),(nS),(nS),(nS)]) rfl fun aq ar ad au=>?_
  refine U3 ad Tryz.sizeOf51 (vs:=(d7 k)) fun av m aw=>?_
  refine b9 (lW Tryz.isAgg51 Tryz.sizeOf51 rfl m) ?_
  refine d3 Tryz.call45 h m ?_
  rintro _ ae _ ax af _ _ ⟨o,rfl,rfl,h⟩
  refine W0 (e:=92) (c:=l7) (xs:=[o]) af (a6H _) rfl rfl G9 K4 (nb rfl) fun ay az ba ag p bb=>?_
  obtain ⟨ah,h⟩:=h
  refine a7K (s:=V3) (xs:=p9) (p.bring 2) a2m (ag.srcO ((p.bring 2).bring 1)) ah fun ai aj bc ak al bd=>?_
  refine a7 pAd ?_
  exact hn2 _ _ _ (hm2 _ _ h).2 ⟨((p9++[o]),(IntKind.wrap .i64 (p5+1))),ae,ai,aj,rfl,rfl,ak,((al.bring 1).drop.bring 1).drop,(hm2 _ _ h).1⟩
 ·exact hx1 _ _ (hj1 p9 V3 Fs5l2 H _ a2m I h)
def L9(a1v:ByteArray)(B8:d4)(H:Hp)(K:d4→Hp→Prop):Prop:=
 B8.fs.size+a1v.size≤9223372036854775807∧
 (B8.fs++a1v).size+(⟨#[10]⟩:ByteArray).size≤9223372036854775807∧
 K (d4.mk ((B8.fs++a1v)++(⟨#[10]⟩:ByteArray))) H
def R8(a7M:Int)(a1Q:ByteArray)(a0Z:Int)(O1:d4)(H:Hp)(n2:(ByteArray×Int×d4)→Hp→Prop)(K:d4→Hp→Prop):Prop:=
 (a0Z < a7M→
 (⟨#[32,32]⟩:ByteArray).size+a1Q.size≤9223372036854775807∧
 n2 (((⟨#[32,32]⟩:ByteArray)++a1Q),(IntKind.wrap .i64 (a0Z+1)),O1) H)∧
 (¬(a0Z < a7M)→
 L9 a1Q O1 H K)
def W3(x0:d4)(x1:Int)(x2:ByteArray)(H:Hp)(K:d4→Hp→Prop):Prop:=
 (65536 < (x0.fs.size:Int)→
 K x0 H)∧
 (¬(65536 < (x0.fs.size:Int))→
 TL ((x2,0,x0):ByteArray×Int×d4) H fun(s:ByteArray×Int×d4) H n2=>R8 x1 s.1 s.2.1 s.2.2 H n2 K)
theorem a4t(x0 x1 x2){H K}(h:W3 x0 x1 x2 H K):m0 x0 x1 x2 H K:=by
 intro g0
 refine Ct.of fun w0 w ps0 H0 R E I hR=>b8o ?_
 unfold W3 at h
 unfold F15
 refine a7 (g7 _) (a7 a3p (b9 (l1 Tryz.isAgg9 I rfl) (a7 (a2P _) (a7 pGt ?_))))
 refine c8 h (fun _ h=>?_) (fun _ h=>?_)
 ·exact hR _ H _ _ I ⟨x0,rfl,rfl,h⟩
 ·have hj1:∀(a1v:ByteArray)(B8:d4) H w (_:Inv w0 ps0 H0 H [bx g0 57 [(Value.string B8.fs)]] w) (_:L9 a1v B8 H K),b0X (Value.pointer (some ⟨g0,0,none⟩)) (Value.string a1v) w R E:=by
   intro a1v B8 H w I h
   unfold b0X
   intro _
   unfold L9 at h
   refine a7 (g7 _) (a7 a3p (b9 (l1 Tryz.isAgg9 I rfl) ?_))
   obtain ⟨b,h⟩:=h
   refine a7 (A5 _ _ _ B8.fs a1v b) ?_
   obtain ⟨c,h⟩:=h
   refine a7 (A5 _ _ _ (B8.fs++a1v) ⟨#[10]⟩ c) (a7 (g7 _) (a7 a3p ?_))
   refine U3 I Tryz.sizeOf9 (vs:=[(Value.string ((B8.fs++a1v)++(⟨#[10]⟩:ByteArray)))]) fun f d g=>?_
   exact hR _ H _ _ d ⟨(d4.mk ((B8.fs++a1v)++(⟨#[10]⟩:ByteArray))),rfl,rfl,h⟩
  refine k8 fun j1 hx1=>?_
  refine B2 (σ:=ByteArray×Int×d4) (fun (a1Q,a0Z,O1)=>[(Value.string a1Q),(vi a0Z)]) (fun (a1Q,a0Z,O1)=>[bx g0 57 [(Value.string O1.fs)]]) h rfl I ?_
  rintro ⟨a1Q,a0Z,O1⟩ H i w next2 n2 a I h hn2
  dsimp only at a I h
  simp only [List.map_cons,List.map_nil,List.cons.injEq,and_true] at a
  obtain ⟨e2,e6⟩:=a
  simp only [e2,e6]
  unfold b4t
  unfold R8 at h
  refine a7 pLs ?_
  refine c8 h (fun _ h=>?_) (fun _ h=>?_)
  ·obtain ⟨e,h⟩:=h
   refine a7 (A5 _ _ _ ⟨#[32,32]⟩ a1Q e) (a7 pAd ?_)
   exact hn2 (((⟨#[32,32]⟩:ByteArray)++a1Q),(IntKind.wrap .i64 (a0Z+1)),O1) _ _ h I
  ·exact hx1 _ _ (hj1 a1Q O1 H _ I h)
def C2(a5f:Int)(a7N:Bool)(a:d8)(H:Hp)(K:Int→Hp→Prop):Prop:=
 (a7N=true→
 K 2 H)∧
 (a7N=false→
 (a5f=5→
 K 3 H)∧
 (¬(a5f=5)→
 K 4 H))
def E6(i7:Int)(N0:Bool)(a:d8)(H:Hp)(K:Int→Hp→Prop):Prop:=
 (N0=true→
 K 1 H)∧
 (N0=false→
 (i7=8→
 C2 i7 (decide (i7=8)) a H K)∧
 (¬(i7=8)→
 (i7=9→
 C2 i7 (decide (i7=9)) a H K)∧
 (¬(i7=9)→
 C2 i7 (decide (i7=10)) a H K)))
def a2J(x0:d8)(H:Hp)(K:Int→Hp→Prop):Prop:=
 (x0.b8=6→
 E6 x0.b8 (decide (x0.b8=6)) x0 H K)∧
 (¬(x0.b8=6)→
 E6 x0.b8 (decide (x0.b8=7)) x0 H K)
theorem a5p(x0){H K}(h:a2J x0 H K):E3 x0 H K:=by
 refine Ct.of fun w0 w ps0 H0 R E I hR=>b9a ?_
 unfold a2J at h
 unfold F57
 refine y7 I (cs:=(c7 x0)) rfl fun b c a d=>?_
 refine a7 L8 (b9 (l1 Tryz.isAgg3 a rfl) ?_)
 have hj1:∀(N0:Bool) H w (_:Inv w0 ps0 H0 H [bx b 36 (c7 x0)] w) (_:E6 x0.b8 N0 x0 H K),b1J (vi x0.b8) (vB N0) w R E:=by
  intro N0 H w I h
  unfold b1J
  intro _
  unfold E6 at h
  refine g6 h (fun _ h=>?_) (fun _ h=>?_)
  ·exact hR _ H _ _ I.drop ⟨1,rfl,rfl,h⟩
  ·have hj2:∀(a7N:Bool) H w (_:Inv w0 ps0 H0 H [bx b 36 (c7 x0)] w) (_:C2 x0.b8 a7N x0 H K),b1I (vi x0.b8) (vB a7N) w R E:=by
    intro a7N H w I h
    unfold b1I
    intro _
    unfold C2 at h
    refine g6 h (fun _ h=>?_) (fun _ h=>?_)
    ·exact hR _ H _ _ I.drop ⟨2,rfl,rfl,h⟩
    ·refine a7 pEq ?_
     refine c8 h (fun _ h=>?_) (fun _ h=>?_)
     ·exact hR _ H _ _ I.drop ⟨3,rfl,rfl,h⟩
     ·exact hR _ H _ _ I.drop ⟨4,rfl,rfl,h⟩
   refine k8 fun j2 hx2=>?_
   refine a7 pEq ?_
   refine c8 h (fun _ h=>?_) (fun _ h=>?_)
   ·exact hx2 _ _ (hj2 (decide (x0.b8=8)) H _ I h)
   ·refine a7 pEq ?_
    refine c8 h (fun _ h=>?_) (fun _ h=>?_)
    ·exact hx2 _ _ (hj2 (decide (x0.b8=9)) H _ I h)
    ·refine a7 pEq ?_
     exact hx2 _ _ (hj2 (decide (x0.b8=10)) H _ I h)
 refine k8 fun j1 hx1=>?_
 refine a7 pEq ?_
 refine c8 h (fun _ h=>?_) (fun _ h=>?_)
 ·exact hx1 _ _ (hj1 (decide (x0.b8=6)) H _ a h)
 ·refine a7 pEq ?_
  exact hx1 _ _ (hj1 (decide (x0.b8=7)) H _ a h)
def G5(K5:ByteArray)(a:f9)(H:Hp)(K:ByteArray→Hp→Prop):Prop:=
 (0:Int)≤0∧(0:Int) < a.o0.n∧∃b:f9,EltH H a.o0 0 4 (c9 b)∧
 u0 b H (fun g i=>
 G2 b i (fun j k=>
 G2 a k (fun l m=>
 B1 g (decide (j < l)) ⟨#[91]⟩ ⟨#[93]⟩ m (fun c e=>
 (0:Int)≤1∧(1:Int) < a.o0.n∧∃d:f9,EltH e a.o0 1 4 (c9 d)∧
 u0 d e (fun o p=>
 G2 d p (fun q r=>
 G2 a r (fun s t=>
 B1 o (decide (q≤s)) ⟨#[91]⟩ ⟨#[93]⟩ t (fun f u=>
 c.size+K5.size≤9223372036854775807∧
 (c++K5).size+f.size≤9223372036854775807∧
 K ((c++K5)++f) u))))))))
def a1b(x0:f9)(H:Hp)(K:ByteArray→Hp→Prop):Prop:=
 (x0.b8=1→
 K ⟨#[116,114,117,101]⟩ H)∧
 (¬(x0.b8=1)→
 (x0.b8=2→
 K ⟨#[102,97,108,115,101]⟩ H)∧
 (¬(x0.b8=2)→
 (x0.b8=3→
 (0:Int)≤0∧(0:Int) < x0.f0.n∧∃d:d8,EltH H x0.f0 0 4 (c7 d)∧
 (0:Int)≤1∧(1:Int) < x0.f0.n∧∃e:d8,EltH H x0.f0 1 4 (c7 e)∧
 o9 d H (fun a i=>
 a.size+(⟨#[32]⟩:ByteArray).size≤9223372036854775807∧
 a0W x0.fOp i (fun b j=>
 (a++(⟨#[32]⟩:ByteArray)).size+b.size≤9223372036854775807∧
 ((a++(⟨#[32]⟩:ByteArray))++b).size+(⟨#[32]⟩:ByteArray).size≤9223372036854775807∧
 o9 e j (fun f k=>
 (((a++(⟨#[32]⟩:ByteArray))++b)++(⟨#[32]⟩:ByteArray)).size+f.size≤9223372036854775807∧
 K ((((a++(⟨#[32]⟩:ByteArray))++b)++(⟨#[32]⟩:ByteArray))++f) k))))∧
 (¬(x0.b8=3)→
 (x0.b8=4→
 (0:Int)≤0∧(0:Int) < x0.o0.n∧∃c:f9,EltH H x0.o0 0 4 (c9 c)∧
 u0 c H (fun l m=>
 G2 c m (fun o p=>
 B1 l (decide (o < 3)) ⟨#[91]⟩ ⟨#[93]⟩ p (fun g q=>
 (⟨#[33]⟩:ByteArray).size+g.size≤9223372036854775807∧
 K ((⟨#[33]⟩:ByteArray)++g) q))))∧
 (¬(x0.b8=4)→
 (x0.b8=6→
 G5 ⟨#[32,124,124,32]⟩ x0 H K)∧
 (¬(x0.b8=6)→
 G5 ⟨#[32,38,38,32]⟩ x0 H K)))))
theorem a5J(x0){H K}(h:a1b x0 H K):u0 x0 H K:=by
 refine Ct.of fun w0 w ps0 H0 R E I hR=>b8H ?_
 unfold a1b at h
 unfold F35
 refine y7 I (cs:=(c9 x0)) rfl fun f bw e bz=>?_
 refine a7 Z2 (b9 (l1 Tryz.isAgg3 e rfl) (a7 pEq ?_))
 refine c8 h (fun _ h=>?_) (fun _ h=>?_)
 ·exact hR _ H _ _ e.drop ⟨⟨#[116,114,117,101]⟩,rfl,rfl,h⟩
 ·refine a7 pEq ?_
  refine c8 h (fun _ h=>?_) (fun _ h=>?_)
  ·exact hR _ H _ _ e.drop ⟨⟨#[102,97,108,115,101]⟩,rfl,rfl,h⟩
  ·refine a7 pEq ?_
   refine c8 h (fun _ h=>?_) (fun _ h=>?_)
   ·refine V9 e fun ca a=>?_
    refine f6 U7 ?_
    refine f6 a1L ?_
    refine f6 U7 ?_
    refine l8 (l1 Tryz.isAgg34 a rfl) ?_
    obtain ⟨ap,aq,ar,o,h⟩:=h
    obtain ⟨cb,cc,au,o⟩:=o
    refine f6 (B3 au _ _ _ _ ap aq) ?_
    refine l8 (ldA (vs:=(c7 ar)) Tryz.isAgg36 Tryz.sizeOf36 rfl (a.atH o)) ?_
    refine l8 (l1 Tryz.isAgg3 a rfl) ?_
    refine l8 (l1 Tryz.isAgg34 a rfl) ?_
    obtain ⟨av,aw,ax,g,h⟩:=h
    obtain ⟨cd,ce,ay,g⟩:=g
    refine f6 (B3 ay _ _ _ _ av aw) ?_
    refine l8 (ldA (vs:=(c7 ax)) Tryz.isAgg36 Tryz.sizeOf36 rfl (a.atH g)) ?_
    refine d3 Tryz.call34 h a ?_
    rintro _ _ _ cf l v p ⟨m,rfl,rfl,h⟩
    refine ⟨(p _ (a.a3Z g) ((Inv.self (Fi:=[]) (Fr:=[bx f 71 (c9 x0)]) a).a3h g)),(p _ a.lt1 (Inv.E0 (Fi:=[]) a)),(p _ a.lt1 (Inv.E0 (Fi:=[]) a)),?_⟩
    obtain ⟨az,h⟩:=h
    refine f6 (A5 _ _ _ m ⟨#[32]⟩ az) ?_
    refine d3 Tryz.call58 h l ?_
    rintro _ _ _ cg ba _ y ⟨n,rfl,rfl,h⟩
    refine ⟨(y _ (l.a3Z (g.le v)) ((Inv.self (Fi:=[]) (Fr:=[bx f 71 (c9 x0)]) l).a3h (g.le v))),(y _ l.lt1 (Inv.E0 (Fi:=[]) l)),?_⟩
    obtain ⟨bb,h⟩:=h
    refine f6 (A5 _ _ _ (m++(⟨#[32]⟩:ByteArray)) n bb) ?_
    obtain ⟨bc,h⟩:=h
    refine f6 (A5 _ _ _ ((m++(⟨#[32]⟩:ByteArray))++n) ⟨#[32]⟩ bc) ?_
    refine d3 Tryz.call34 h ba ?_
    rintro _ bd _ ch be _ _ ⟨z,rfl,rfl,h⟩
    obtain ⟨bf,h⟩:=h
    refine f6 (A5 _ _ _ (((m++(⟨#[32]⟩:ByteArray))++n)++(⟨#[32]⟩:ByteArray)) z bf) ?_
    exact hR _ bd _ _ be.drop ⟨((((m++(⟨#[32]⟩:ByteArray))++n)++(⟨#[32]⟩:ByteArray))++z),rfl,rfl,h⟩
   ·refine a7 pEq ?_
    refine c8 h (fun _ h=>?_) (fun _ h=>?_)
    ·refine V9 e fun ci d=>?_
     refine f6 K3 ?_
     refine f6 K3 ?_
     refine l8 (l1 Tryz.isAgg49 d rfl) ?_
     obtain ⟨aa,ab,ac,i,h⟩:=h
     obtain ⟨cj,ck,ad,i⟩:=i
     refine f6 (G8 ad _ _ _ _ aa ab) ?_
     refine l8 (ldA (vs:=(c9 ac)) Tryz.isAgg71 Tryz.sizeOf71 rfl (d.atH i)) ?_
     refine l8 (l1 Tryz.isAgg49 d rfl) ?_
     refine f6 (G8 ad _ _ _ _ aa ab) ?_
     refine l8 (ldA (vs:=(c9 ac)) Tryz.isAgg71 Tryz.sizeOf71 rfl (d.atH i)) ?_
     refine d3 Tryz.call35 h d ?_
     rintro _ _ _ cl bg _ ae ⟨cm,rfl,rfl,h⟩
     refine ⟨(ae _ (d.a3Z i) ((Inv.self (Fi:=[]) (Fr:=[bx f 71 (c9 x0)]) d).a3h i)),(ae _ d.lt1 (Inv.E0 (Fi:=[]) d)),?_⟩
     refine d3 Tryz.call59 h bg ?_
     rintro _ _ _ cn bh _ _ ⟨co,rfl,rfl,h⟩
     refine f6 pLs ?_
     refine d3 Tryz.call56 h bh ?_
     rintro _ bi _ cp bj _ _ ⟨af,rfl,rfl,h⟩
     obtain ⟨bk,h⟩:=h
     refine f6 (A5 _ _ _ ⟨#[33]⟩ af bk) ?_
     exact hR _ bi _ _ bj.drop ⟨((⟨#[33]⟩:ByteArray)++af),rfl,rfl,h⟩
    ·have hj1:∀(K5:ByteArray) H w (_:Inv w0 ps0 H0 H [bx f 71 (c9 x0)] w) (_:G5 K5 x0 H K),b1i (Value.pointer (some ⟨f,0,none⟩)) (Value.string K5) w R E:=by
      intro K5 H w I h
      unfold b1i
      intro _
      unfold G5 at h
      refine V9 I fun cq b=>?_
      refine f6 K3 ?_
      refine f6 K3 ?_
      refine l8 (l1 Tryz.isAgg49 b rfl) ?_
      obtain ⟨ag,ah,ai,j,h⟩:=h
      obtain ⟨cr,ct,aj,j⟩:=j
      refine f6 (G8 aj _ _ _ _ ag ah) ?_
      refine l8 (ldA (vs:=(c9 ai)) Tryz.isAgg71 Tryz.sizeOf71 rfl (b.atH j)) ?_
      refine l8 (l1 Tryz.isAgg49 b rfl) ?_
      refine f6 (G8 aj _ _ _ _ ag ah) ?_
      refine l8 (ldA (vs:=(c9 ai)) Tryz.isAgg71 Tryz.sizeOf71 rfl (b.atH j)) ?_
      refine l8 (lW Tryz.isAgg71 Tryz.sizeOf71 rfl b) ?_
      refine d3 Tryz.call35 h b ?_
      rintro _ _ _ cu q _ r ⟨cv,rfl,rfl,h⟩
      refine ⟨(r _ b.lt1 (Inv.E0 (Fi:=[]) b)),(r _ (b.a3Z j) ((Inv.self (Fi:=[]) (Fr:=[bx f 71 (c9 x0)]) b).a3h j)),(r _ b.lt1 (Inv.E0 (Fi:=[]) b)),?_⟩
      refine d3 Tryz.call59 h q ?_
      rintro _ _ _ cw bl _ bm ⟨cx,rfl,rfl,h⟩
      refine ⟨(bm _ q.lt1 (Inv.E0 (Fi:=[]) q)),?_⟩
      refine d3 Tryz.call59 h bl ?_
      rintro _ _ _ cy bn _ _ ⟨cz,rfl,rfl,h⟩
      refine f6 pLs ?_
      refine d3 Tryz.call56 h bn ?_
      rintro _ _ _ da bo _ _ ⟨s,rfl,rfl,h⟩
      refine V9 bo fun db c=>?_
      refine f6 K3 ?_
      refine f6 K3 ?_
      refine l8 (l1 Tryz.isAgg49 c rfl) ?_
      obtain ⟨ak,al,am,k,h⟩:=h
      obtain ⟨dc,dd,an,k⟩:=k
      refine f6 (G8 an _ _ _ _ ak al) ?_
      refine l8 (ldA (vs:=(c9 am)) Tryz.isAgg71 Tryz.sizeOf71 rfl (c.atH k)) ?_
      refine l8 (l1 Tryz.isAgg49 c rfl) ?_
      refine f6 (G8 an _ _ _ _ ak al) ?_
      refine l8 (ldA (vs:=(c9 am)) Tryz.isAgg71 Tryz.sizeOf71 rfl (c.atH k)) ?_
      refine l8 (lW Tryz.isAgg71 Tryz.sizeOf71 rfl c) ?_
      refine d3 Tryz.call35 h c ?_
      rintro _ _ _ de t _ u ⟨df,rfl,rfl,h⟩
      refine ⟨(u _ c.lt1 (Inv.E0 (Fi:=[]) c)),(u _ (c.a3Z k) ((Inv.self (Fi:=[]) (Fr:=[bx f 71 (c9 x0)]) c).a3h k)),(u _ c.lt1 (Inv.E0 (Fi:=[]) c)),?_⟩
      refine d3 Tryz.call59 h t ?_
      rintro _ _ _ dg bp _ bq ⟨dh,rfl,rfl,h⟩
      refine ⟨(bq _ t.lt1 (Inv.E0 (Fi:=[]) t)),?_⟩
      refine d3 Tryz.call59 h bp ?_
      rintro _ _ _ di br _ _ ⟨dj,rfl,rfl,h⟩
      refine f6 pLe ?_
      refine d3 Tryz.call56 h br ?_
      rintro _ bs _ dk bt _ _ ⟨ao,rfl,rfl,h⟩
      obtain ⟨bu,h⟩:=h
      refine a7 (A5 _ _ _ s K5 bu) ?_
      obtain ⟨bv,h⟩:=h
      refine a7 (A5 _ _ _ (s++K5) ao bv) ?_
      exact hR _ bs _ _ bt.drop ⟨((s++K5)++ao),rfl,rfl,h⟩
     refine k8 fun j1 hx1=>?_
     refine a7 Z2 (b9 (l1 Tryz.isAgg3 e rfl) (a7 pEq ?_))
     refine c8 h (fun _ h=>?_) (fun _ h=>?_)
     ·exact hx1 _ _ (hj1 ⟨#[32,124,124,32]⟩ H _ e h)
     ·exact hx1 _ _ (hj1 ⟨#[32,38,38,32]⟩ H _ e h)
def W4(x0:a8)(H:Hp)(K:Int→Hp→Prop):Prop:=
 ((!x0.fok)=true→
 K 30 H)∧
 ((!x0.fok)=false→
 ((!x0.fnames)=true→
 K 31 H)∧
 ((!x0.fnames)=false→
 K 0 H))
theorem a4u(x0){H K}(h:W4 x0 H K):W2 x0 H K:=by
 refine Ct.of fun w0 w ps0 H0 R E I hR=>b8F ?_
 unfold W4 at h
 unfold F33
 refine y7 I (cs:=(f8 x0)) rfl fun b c a d=>?_
 refine a7 B7 (b9 (l1 Tryz.isAgg4 a rfl) (a7 (T5 _) ?_))
 refine g6 h (fun _ h=>?_) (fun _ h=>?_)
 ·exact hR _ H _ _ a.drop ⟨30,rfl,rfl,h⟩
 ·refine a7 a7c (b9 (l1 Tryz.isAgg4 a rfl) (a7 (T5 _) ?_))
  refine g6 h (fun _ h=>?_) (fun _ h=>?_)
  ·exact hR _ H _ _ a.drop ⟨31,rfl,rfl,h⟩
  ·exact hR _ H _ _ a.drop ⟨0,rfl,rfl,h⟩
def P0(H:Hp)(K:Int→Hp→Prop):Prop:=
 K 6 H
def Y2(a9C:Int)(a3D:ByteArray)(a1w:Int)(H:Hp)(n2:Int→Hp→Prop)(K:Int→Hp→Prop):Prop:=
 (a1w < (a3D.size:Int)→
 (0:Int)≤a1w∧a1w < (a3D.size:Int)∧
 (a9C=(IntKind.wrap .i64 ((a3D.get! (a1w:Int).toNat).toNat:Int))→
 K 5 H)∧
 (¬(a9C=(IntKind.wrap .i64 ((a3D.get! (a1w:Int).toNat).toNat:Int)))→
 n2 (IntKind.wrap .i64 (a1w+1)) H))∧
 (¬(a1w < (a3D.size:Int))→
 P0 H K)
def a0F(x0:Int)(H:Hp)(K:Int→Hp→Prop):Prop:=
 ((((decide (x0=32))||(decide (x0=9)))||(decide (x0=13)))=true→
 K 1 H)∧
 ((((decide (x0=32))||(decide (x0=9)))||(decide (x0=13)))=false→
 (x0=10→
 K 2 H)∧
 (¬(x0=10)→
 A7 x0 48 57 H (fun e f=>
 (e=true→
 K 4 f)∧
 (e=false→
 A7 x0 97 122 f (fun a g=>
 TG (a=false) (A7 x0 65 90 g) false g (fun(b:Bool)(i:Hp)=>
 TG (((a||b)||(decide (x0=95)))=false) (A7 x0 192 591 i) false i (fun(c:Bool)(j:Hp)=>
 TG ((((a||b)||(decide (x0=95)))||((c&&(!decide (x0=215)))&&(!decide (x0=247))))=false) (A7 x0 913 969 j) false j (fun(d:Bool)(k:Hp)=>
 TG (((((a||b)||(decide (x0=95)))||((c&&(!decide (x0=215)))&&(!decide (x0=247))))||(d&&(!decide (x0=930))))=false) (A7 x0 1040 1103 k) false k (fun(l:Bool)(m:Hp)=>
 ((((((a||b)||(decide (x0=95)))||((c&&(!decide (x0=215)))&&(!decide (x0=247))))||(d&&(!decide (x0=930))))||l)=true→
 K 3 m)∧
 ((((((a||b)||(decide (x0=95)))||((c&&(!decide (x0=215)))&&(!decide (x0=247))))||(d&&(!decide (x0=930))))||l)=false→
 TL (0:Int) m fun(s:Int) H n2=>Y2 x0 ⟨#[59,44,123,125,40,41,91,93,61,33,60,62,43,45,42,47,37,38,124]⟩ s H n2 K))))))))))
theorem a5q(x0){H K}(h:a0F x0 H K):a0B x0 H K:=by
 refine Ct.of fun w0 w ps0 H0 R E I hR=>b9p ?_
 unfold a0F at h
 unfold F79
 refine a7 pEq ?_
 simp only [o6]
 refine a7 (Pu.g fun a=>by simp only [d9 a];with_reducible exact pEq) ?_
 refine a7 (K7 _ _) ?_
 simp only [o6]
 refine a7 (Pu.g fun a=>by simp only [d9 a];with_reducible exact pEq) ?_
 refine a7 (K7 _ _) ?_
 refine g6 h (fun _ h=>?_) (fun _ h=>?_)
 ·exact hR _ H _ _ I ⟨1,rfl,rfl,h⟩
 ·refine a7 pEq ?_
  refine c8 h (fun _ h=>?_) (fun _ h=>?_)
  ·exact hR _ H _ _ I ⟨2,rfl,rfl,h⟩
  ·refine d3 Tryz.call94 h I ?_
   rintro _ ai _ ap o _ _ ⟨aq,rfl,rfl,h⟩
   refine g6 h (fun _ h=>?_) (fun _ h=>?_)
   ·exact hR _ ai _ _ o ⟨4,rfl,rfl,h⟩
   ·refine d3 Tryz.call94 h o ?_
    rintro _ ar _ au p _ _ ⟨av,rfl,rfl,h⟩
    simp only [o6]
    refine a2O [] (fun c:Bool=>(vB c)) h p (fun q h=>?_) fun c r aj d s t h=>?_
    ·have a:=q
     simp only [d9 a]
     refine d3 Tryz.call94 h p ?_
     rintro _ r _ aj d t s ⟨c,rfl,rfl,h⟩
     exact ⟨c,r,rfl,d,s,t,h⟩
    refine a7 (K7 _ _) ?_
    simp only [o6]
    refine a7 (Pu.g fun a=>by simp only [d9 a];with_reducible exact pEq) ?_
    refine a7 (K7 _ _) ?_
    simp only [o6]
    refine a2O [] (fun f:Bool=>(vB f)) h d (fun u h=>?_) fun f v ak i y z h=>?_
    ·have a:=u
     simp only [d9 a]
     refine d3 Tryz.call94 h d ?_
     rintro _ v _ ak i z y ⟨f,rfl,rfl,h⟩
     exact ⟨f,v,rfl,i,y,z,h⟩
    simp only [a3j,a6G]
    refine a7 (Pu.e (a1C _ _ _) (Pu.g fun hb=>by obtain ⟨a,b⟩:=a3i hb;simp only [d9 hb];with_reducible exact pNe)) ?_
    refine a7 (Pu.g fun a=>by simp only [d9 a,a5H a];with_reducible exact (o7 _ _)) ?_
    simp only [a3j,a6G]
    refine a7 (Pu.e (a1C _ _ _) (Pu.g fun hb=>by obtain ⟨a,b⟩:=a3i hb;simp only [d9 hb];with_reducible exact pNe)) ?_
    refine a7 (Pu.g fun a=>by simp only [d9 a,a5H a];with_reducible exact (o7 _ _)) ?_
    refine a7 (K7 _ _) ?_
    simp only [o6]
    refine a2O [] (fun j:Bool=>(vB j)) h i (fun aa h=>?_) fun j ab al k ac ad h=>?_
    ·have a:=aa
     simp only [d9 a]
     refine d3 Tryz.call94 h i ?_
     rintro _ ab _ al k ad ac ⟨j,rfl,rfl,h⟩
     exact ⟨j,ab,rfl,k,ac,ad,h⟩
    simp only [a3j,a6G]
    refine a7 (Pu.e (a1C _ _ _) (Pu.g fun hb=>by obtain ⟨a,b⟩:=a3i hb;simp only [d9 hb];with_reducible exact pNe)) ?_
    refine a7 (Pu.g fun a=>by simp only [d9 a,a5H a];with_reducible exact (o7 _ _)) ?_
    refine a7 (K7 _ _) ?_
    simp only [o6]
    refine a2O [] (fun l:Bool=>(vB l)) h k (fun ae h=>?_) fun l n am m af ag h=>?_
    ·have a:=ae
     simp only [d9 a]
     refine d3 Tryz.call94 h k ?_
     rintro _ n _ am m ag af ⟨l,rfl,rfl,h⟩
     exact ⟨l,n,rfl,m,af,ag,h⟩
    refine a7 (K7 _ _) ?_
    refine g6 h (fun _ h=>?_) (fun _ h=>?_)
    ·exact hR _ n _ _ m ⟨3,rfl,rfl,h⟩
    ·have hj1:∀H w (_:Inv w0 ps0 H0 H [] w) (_:P0 H K),b1U w R E:=by
      intro H w I h
      unfold b1U
      intro _
      unfold P0 at h
      exact hR _ H _ _ I ⟨6,rfl,rfl,h⟩
     refine k8 fun j1 hx1=>?_
     refine B2 (σ:=Int) (fun a1w=>[(vi a1w)]) (fun a1w=>[]) h rfl m ?_
     rintro a1w H aw w next2 n2 ah I h hn2
     simp only [List.map_cons,List.map_nil,List.cons.injEq,and_true] at ah
     have e4:=ah
     simp only [e4]
     unfold b4W
     unfold Y2 at h
     refine a7 (a2P _) (a7 pLs ?_)
     refine c8 h (fun _ h=>?_) (fun _ h=>?_)
     ·obtain ⟨an,ao,h⟩:=h
      refine a7 (a6I _ _ _ an ao) (a7 (a7L _ _) (a7 pEq ?_))
      refine c8 h (fun _ h=>?_) (fun _ h=>?_)
      ·exact hR _ H _ _ I ⟨5,rfl,rfl,h⟩
      ·refine a7 pAd ?_
       exact hn2 (IntKind.wrap .i64 (a1w+1)) _ _ h I
     ·exact hx1 _ _ (hj1 H _ I h)
def Q1(K5:Int)(H:Hp)(K:Bool→Hp→Prop):Prop:=
 K (decide (K5≤32)) H
def Z9(a9C:ByteArray)(a3D:Int)(a1w:Int)(H:Hp)(n2:(Int×Int)→Hp→Prop)(K:Bool→Hp→Prop):Prop:=
 (a1w < (a9C.size:Int)→
 a0X a9C a1w H (fun d e b f=>
 a0B d f (fun a c=>
 (((!b)||((!decide (a=3))&&((!decide (a=4))||(decide (a3D=0)))))=true→
 K false c)∧
 (((!b)||((!decide (a=3))&&((!decide (a=4))||(decide (a3D=0)))))=false→
 n2 ((IntKind.wrap .i64 (a3D+1)),(IntKind.wrap .i64 (a1w+e))) c))))∧
 (¬(a1w < (a9C.size:Int))→
 Q1 a3D H K)
def a1d(x0:ByteArray)(H:Hp)(K:Bool→Hp→Prop):Prop:=
 TG (((decide (x0=⟨#[]⟩))||(decide (128 < (x0.size:Int))))=false) (a0Y x0 H) false H (fun(a:Bool)(b:Hp)=>
 ((((decide (x0=⟨#[]⟩))||(decide (128 < (x0.size:Int))))||a)=true→
 K false b)∧
 ((((decide (x0=⟨#[]⟩))||(decide (128 < (x0.size:Int))))||a)=false→
 TL ((0,0):Int×Int) b fun(s:Int×Int) H n2=>Z9 x0 s.1 s.2 H n2 K))
theorem a5K(x0){H K}(h:a1d x0 H K):U9 x0 H K:=by
 refine Ct.of fun w0 w ps0 H0 R E I hR=>b8W ?_
 unfold a1d at h
 unfold F53
 refine a7 (E9 _ _ _ _ _) ?_
 simp only [o6]
 refine a7 (Pu.g fun a=>by simp only [d9 a];with_reducible exact (a2P _)) ?_
 refine a7 (Pu.g fun a=>by simp only [d9 a];with_reducible exact pGt) ?_
 refine a7 (K7 _ _) ?_
 simp only [o6]
 refine a2O [] (fun f:Bool=>(vB f)) h I (fun l h=>?_) fun f j q i m n h=>?_
 ·have a:=l
  simp only [d9 a]
  refine d3 Tryz.call77 h I ?_
  rintro _ j _ q i n m ⟨f,rfl,rfl,h⟩
  exact ⟨f,j,rfl,i,m,n,h⟩
 refine a7 (K7 _ _) ?_
 refine g6 h (fun _ h=>?_) (fun _ h=>?_)
 ·exact hR _ j _ _ i ⟨false,rfl,rfl,h⟩
 ·have hj1:∀(K5:Int) H w (_:Inv w0 ps0 H0 H [] w) (_:Q1 K5 H K),b1y (vi K5) w R E:=by
   intro K5 H w I h
   unfold b1y
   intro _
   unfold Q1 at h
   refine a7 pLe ?_
   exact hR _ H _ _ I ⟨(decide (K5≤32)),rfl,rfl,h⟩
  refine k8 fun j1 hx1=>?_
  refine B2 (σ:=Int×Int) (fun (a3D,a1w)=>[(vi a3D),(vi a1w)]) (fun (a3D,a1w)=>[]) h rfl i ?_
  rintro ⟨a3D,a1w⟩ H v w next2 n2 k I h hn2
  dsimp only at k I h
  simp only [List.map_cons,List.map_nil,List.cons.injEq,and_true] at k
  obtain ⟨e3,e4⟩:=k
  simp only [e3,e4]
  unfold b4M
  unfold Z9 at h
  refine a7 (a2P _) (a7 pLs ?_)
  refine c8 h (fun _ h=>?_) (fun _ h=>?_)
  ·refine d3 Tryz.call78 h I ?_
   rintro _ _ _ y r _ _ ⟨s,o,t,rfl,rfl,h⟩
   refine a7 (v8 _ _ (vi s) rfl) (a7 (v8 _ _ (vi o) rfl) (a7 (v8 _ _ (vB t) rfl) ?_))
   refine d3 Tryz.call79 h r ?_
   rintro _ u _ z p _ _ ⟨aa,rfl,rfl,h⟩
   refine a7 (T5 _) ?_
   simp only [o6]
   refine a7 (Pu.g fun a=>by simp only [d9 a];with_reducible exact pNe) ?_
   simp only [a3j,a6G]
   refine a7 (Pu.e (a1C _ _ _) (Pu.g fun hb=>by obtain ⟨a,b⟩:=a3i hb;simp only [d9 hb];with_reducible exact pNe)) ?_
   simp only [a3j,b4g]
   refine a7 (Pu.e (a0e _ _ _) (Pu.g fun hb=>by obtain ⟨d,c⟩:=a1H hb;obtain ⟨a,b⟩:=a3i d;simp only [d9 hb];with_reducible exact pEq)) ?_
   refine a7 (Pu.e (a1C _ _ _) (Pu.g fun hb=>by obtain ⟨a,b⟩:=a3i hb;simp only [d9 hb,a7H hb];with_reducible exact (K7 _ _))) ?_
   refine a7 (Pu.g fun a=>by simp only [d9 a,a5H a];with_reducible exact (o7 _ _)) ?_
   refine a7 (K7 _ _) ?_
   refine g6 h (fun _ h=>?_) (fun _ h=>?_)
   ·exact hR _ u _ _ p ⟨false,rfl,rfl,h⟩
   ·refine a7 pAd (a7 pAd ?_)
    exact hn2 ((IntKind.wrap .i64 (a3D+1)),(IntKind.wrap .i64 (a1w+o))) _ _ h p
  ·exact hx1 _ _ (hj1 a3D H _ I h)
def W5(x0:a8)(x1:ByteArray)(x2:Bool)(H:Hp)(K:a8→Hp→Prop):Prop:=
 ((!x2)=true→
 K (a8.mk (x0.fok&&(decide (x1=⟨#[]⟩))) x0.fnames) H)∧
 ((!x2)=false→
 TG (x0.fnames=true) (U9 x1 H) false H (fun(a:Bool)(b:Hp)=>
 K (a8.mk x0.fok (x0.fnames&&a)) b))
theorem a4v(x0 x1 x2){H K}(h:W5 x0 x1 x2 H K):J8 x0 x1 x2 H K:=by
 intro g0
 refine Ct.of fun w0 w ps0 H0 R E I hR=>b8D ?_
 unfold W5 at h
 unfold F31
 refine a7 (T5 _) ?_
 refine g6 h (fun _ h=>?_) (fun _ h=>?_)
 ·refine a7 (g7 _) (a7 B7 (b9 (l1 Tryz.isAgg4 I rfl) ?_))
  simp only [o6]
  refine a7 (Pu.g fun a=>by simp only [d9 a];with_reducible exact (E9 _ _ _ _ _)) ?_
  refine a7 (o7 _ _) (a7 (g7 _) (a7 B7 ?_))
  refine P9 I Tryz.sizeOf4 fun m j n=>?_
  exact hR _ H _ _ j ⟨(a8.mk (x0.fok&&(decide (x1=⟨#[]⟩))) x0.fnames),rfl,rfl,h⟩
 ·refine a7 (g7 _) (a7 a7c (b9 (l1 Tryz.isAgg4 I rfl) ?_))
  simp only [o6]
  refine a2O [] (fun b:Bool=>(vB b)) h I (fun e h=>?_) fun b c k d f i h=>?_
  ·have a:=e
   simp only [d9 a]
   refine d3 Tryz.call53 h I ?_
   rintro _ c _ k d i f ⟨b,rfl,rfl,h⟩
   exact ⟨b,c,rfl,d,f,i,h⟩
  refine a7 (o7 _ _) (a7 (g7 _) (a7 a7c ?_))
  refine P9 d Tryz.sizeOf4 fun o l p=>?_
  exact hR _ c _ _ l ⟨(a8.mk x0.fok (x0.fnames&&b)),rfl,rfl,h⟩
def R9(a:i6)(a5L:Int)(N6:a8)(H:Hp)(n5:(Int×a8)→Hp→Prop)(K:a8→Hp→Prop):Prop:=
 (((decide (a5L < (a.A6.n:Int)))&&N6.fok)=true→
 (0:Int)≤a5L∧(a5L:Int) < a.A6.n∧∃b:i6,EltH H a.A6 a5L 6 (d7 b)∧
 K0 N6 b H (fun c d=>
 n5 ((IntKind.wrap .i64 (a5L+1)),c) d))∧
 (((decide (a5L < (a.A6.n:Int)))&&N6.fok)=false→
 K N6 H)
def M0(a3O:a8)(a:i6)(H:Hp)(K:a8→Hp→Prop):Prop:=
 TL ((0,a3O):Int×a8) H fun(s:Int×a8) H n5=>R9 a s.1 s.2 H n5 K
def S1(a:i6)(a5M:Int)(a0G:a8)(H:Hp)(n6:(Int×a8)→Hp→Prop)(K:a8→Hp→Prop):Prop:=
 (((decide (a5M < (a.D1.n:Int)))&&a0G.fok)=true→
 (0:Int)≤a5M∧(a5M:Int) < a.D1.n∧∃b:i6,EltH H a.D1 a5M 6 (d7 b)∧
 K0 a0G b H (fun c d=>
 n6 ((IntKind.wrap .i64 (a5M+1)),c) d))∧
 (((decide (a5M < (a.D1.n:Int)))&&a0G.fok)=false→
 M0 a0G a H K)
def M1(P1:a8)(a:i6)(H:Hp)(K:a8→Hp→Prop):Prop:=
 TL ((0,P1):Int×a8) H fun(s:Int×a8) H n6=>S1 a s.1 s.2 H n6 K
def S2(a:i6)(a5N:Int)(a0H:a8)(H:Hp)(n7:(Int×a8)→Hp→Prop)(K:a8→Hp→Prop):Prop:=
 (((decide (a5N < (a.f0.n:Int)))&&a0H.fok)=true→
 (0:Int)≤a5N∧(a5N:Int) < a.f0.n∧∃b:d8,EltH H a.f0 a5N 4 (c7 b)∧
 J9 a0H b H (fun c d=>
 n7 ((IntKind.wrap .i64 (a5N+1)),c) d))∧
 (((decide (a5N < (a.f0.n:Int)))&&a0H.fok)=false→
 M1 a0H a H K)
def M2(Z5:a8)(a:i6)(H:Hp)(K:a8→Hp→Prop):Prop:=
 TL ((0,Z5):Int×a8) H fun(s:Int×a8) H n7=>S2 a s.1 s.2 H n7 K
def S3(a:i6)(a5O:Int)(a5r:a8)(H:Hp)(n8:(Int×a8)→Hp→Prop)(K:a8→Hp→Prop):Prop:=
 (((decide (a5O < (a.m7.n:Int)))&&a5r.fok)=true→
 (0:Int)≤a5O∧(a5O:Int) < a.m7.n∧∃b:f9,EltH H a.m7 a5O 4 (c9 b)∧
 N9 a5r b H (fun c d=>
 n8 ((IntKind.wrap .i64 (a5O+1)),c) d))∧
 (((decide (a5O < (a.m7.n:Int)))&&a5r.fok)=false→
 M2 a5r a H K)
def q6(i7:Int)(N0:Int)(a:i6)(B8:a8)(H:Hp)(K:a8→Hp→Prop):Prop:=
 J8 B8 a.f4 ((decide (a.b8=1))||(decide (a.b8=2))) H (fun b c=>
 TL ((0,(a8.mk ((((b.fok&&(decide ((a.f0.n:Int)=i7)))&&(decide ((a.m7.n:Int)=N0)))&&(((decide ((a.D1.n:Int)=0))||(decide (a.b8=3)))||(decide (a.b8=4))))&&((decide ((a.A6.n:Int)=0))||(decide (a.b8=3)))) b.fnames)):Int×a8) c fun(s:Int×a8) H n8=>S3 a s.1 s.2 H n8 K)
def u1(b5I:Int)(b9O:Int)(b6x:Int)(a8a:Bool)(a:i6)(b3A:a8)(H:Hp)(K:a8→Hp→Prop):Prop:=
 (a8a=true→
 q6 b5I 1 a b3A H K)∧
 (a8a=false→
 (b6x=7→
 q6 b5I b9O a b3A H K)∧
 (¬(b6x=7)→
 q6 b5I b9O a (a8.mk false b3A.fnames) H K))
def W6(x0:a8)(x1:i6)(H:Hp)(K:a8→Hp→Prop):Prop:=
 (x1.b8=1→
 q6 1 0 x1 x0 H K)∧
 (¬(x1.b8=1)→
 (x1.b8=2→
 q6 2 0 x1 x0 H K)∧
 (¬(x1.b8=2)→
 (x1.b8=3→
 u1 0 0 x1.b8 (decide (x1.b8=3)) x1 x0 H K)∧
 (¬(x1.b8=3)→
 (x1.b8=4→
 u1 0 0 x1.b8 (decide (x1.b8=4)) x1 x0 H K)∧
 (¬(x1.b8=4)→
 (x1.b8=5→
 u1 0 0 x1.b8 (decide (x1.b8=5)) x1 x0 H K)∧
 (¬(x1.b8=5)→
 u1 0 0 x1.b8 (decide (x1.b8=6)) x1 x0 H K)))))
theorem a4w(x0 x1){H K}(h:W6 x0 x1 H K):K0 x0 x1 H K:=by
 intro g0
 refine Ct.of fun w0 w ps0 H0 R E I hR=>b8E ?_
 unfold W6 at h
 unfold F32
 refine y7 I (cs:=(d7 x1)) rfl fun d au f av=>?_
 have hj1:∀(i7:Int)(N0:Int)(B8:a8) H w (_:Inv w0 ps0 H0 H [bx d 51 (d7 x1),bx g0 79 (f8 B8)] w) (_:q6 i7 N0 x1 B8 H K),b1g (Value.pointer (some ⟨g0,0,none⟩)) (Value.pointer (some ⟨d,0,none⟩)) (vi i7) (vi N0) w R E:=by
  intro i7 N0 B8 H w I h
  unfold b1g
  intro _
  unfold q6 at h
  refine a7 a0y (b9 (l1 Tryz.isAgg9 I rfl) (a7 U5 (b9 (l1 Tryz.isAgg3 I rfl) (a7 pEq ?_))))
  refine a7 (Pu.g fun a=>by with_reducible exact U5) ?_
  refine b9 (Ld.g fun a=>by simp only [d9 a];exact (l1 Tryz.isAgg3 I rfl)) ?_
  refine a7 (Pu.g fun a=>by simp only [d9 a];with_reducible exact pEq) ?_
  refine a7 (K7 _ _) ?_
  refine d3 Tryz.call31 (h g0) (I.bring 1) ?_
  rintro _ aw _ ax c _ _ ⟨ay,rfl,rfl,h⟩
  refine a7 (g7 _) (a7 B7 (b9 (l1 Tryz.isAgg4 c rfl) ?_))
  refine a7 (Pu.g fun a=>by with_reducible exact O8) ?_
  refine b9 (Ld.g fun a=>by simp only [d9 a];exact (l1 Tryz.isAgg34 (c.bring 1) rfl)) ?_
  refine a7 (Pu.g fun a=>by simp only [d9 a];with_reducible exact (T6 _ _ _)) ?_
  simp only [o6]
  refine a7 (Pu.g fun a=>by simp only [d9 a];with_reducible exact pEq) ?_
  refine a7 (o7 _ _) ?_
  refine a7 (Pu.g fun a=>by with_reducible exact L6) ?_
  refine b9 (Ld.g fun a=>by simp only [d9 a];exact (l1 Tryz.isAgg49 (c.bring 1) rfl)) ?_
  refine a7 (Pu.g fun a=>by simp only [d9 a];with_reducible exact (a1K _ _ _)) ?_
  simp only [o6]
  refine a7 (Pu.g fun a=>by simp only [d9 a];with_reducible exact pEq) ?_
  refine a7 (o7 _ _) ?_
  refine a7 (Pu.g fun a=>by with_reducible exact U6) ?_
  refine b9 (Ld.g fun a=>by simp only [d9 a];exact (l1 Tryz.isAgg23 (c.bring 1) rfl)) ?_
  refine a7 (Pu.g fun a=>by simp only [d9 a];with_reducible exact (K8 _ _ _)) ?_
  refine a7 (Pu.g fun a=>by simp only [d9 a];with_reducible exact pEq) ?_
  simp only [o6,a3j]
  refine a7 (Pu.e (a0e _ _ _) (Pu.g fun hb=>by obtain ⟨a,b⟩:=a1H hb;with_reducible exact U5)) ?_
  refine b9 (Ld.e (a0e _ _ _) (Ld.g fun hb=>by obtain ⟨a,b⟩:=a1H hb;simp only [d9 hb];exact (l1 Tryz.isAgg3 (c.bring 1) rfl))) ?_
  refine a7 (Pu.e (a0e _ _ _) (Pu.g fun hb=>by obtain ⟨a,b⟩:=a1H hb;simp only [d9 hb];with_reducible exact pEq)) ?_
  refine a7 (Pu.g fun a=>by simp only [d9 a,a7H a];with_reducible exact (K7 _ _)) ?_
  simp only [a3j]
  refine a7 (Pu.e (a0e _ _ _) (Pu.g fun hb=>by obtain ⟨a,b⟩:=a1H hb;with_reducible exact U5)) ?_
  refine b9 (Ld.e (a0e _ _ _) (Ld.g fun hb=>by obtain ⟨a,b⟩:=a1H hb;simp only [d9 hb];exact (l1 Tryz.isAgg3 (c.bring 1) rfl))) ?_
  refine a7 (Pu.e (a0e _ _ _) (Pu.g fun hb=>by obtain ⟨a,b⟩:=a1H hb;simp only [d9 hb];with_reducible exact pEq)) ?_
  refine a7 (Pu.g fun a=>by simp only [d9 a,a7H a];with_reducible exact (K7 _ _)) ?_
  refine a7 (o7 _ _) ?_
  refine a7 (Pu.g fun a=>by with_reducible exact R0) ?_
  refine b9 (Ld.g fun a=>by simp only [d9 a];exact (l1 Tryz.isAgg23 (c.bring 1) rfl)) ?_
  refine a7 (Pu.g fun a=>by simp only [d9 a];with_reducible exact (K8 _ _ _)) ?_
  refine a7 (Pu.g fun a=>by simp only [d9 a];with_reducible exact pEq) ?_
  simp only [o6,a3j]
  refine a7 (Pu.e (a0e _ _ _) (Pu.g fun hb=>by obtain ⟨a,b⟩:=a1H hb;with_reducible exact U5)) ?_
  refine b9 (Ld.e (a0e _ _ _) (Ld.g fun hb=>by obtain ⟨a,b⟩:=a1H hb;simp only [d9 hb];exact (l1 Tryz.isAgg3 (c.bring 1) rfl))) ?_
  refine a7 (Pu.e (a0e _ _ _) (Pu.g fun hb=>by obtain ⟨a,b⟩:=a1H hb;simp only [d9 hb];with_reducible exact pEq)) ?_
  refine a7 (Pu.g fun a=>by simp only [d9 a,a7H a];with_reducible exact (K7 _ _)) ?_
  refine a7 (o7 _ _) (a7 (g7 _) (a7 B7 ?_))
  refine P9 c Tryz.sizeOf4 fun az q ba=>?_
  have hj2:∀(Z5:a8) H w (_:Inv w0 ps0 H0 H [bx g0 79 (f8 Z5),bx d 51 (d7 x1)] w) (_:M2 Z5 x1 H K),b1f (Value.pointer (some ⟨g0,0,none⟩)) (Value.pointer (some ⟨d,0,none⟩)) w R E:=by
   intro Z5 H w I h
   unfold b1f
   intro _
   unfold M2 at h
   have hj3:∀(P1:a8) H w (_:Inv w0 ps0 H0 H [bx g0 79 (f8 P1),bx d 51 (d7 x1)] w) (_:M1 P1 x1 H K),b1e (Value.pointer (some ⟨g0,0,none⟩)) (Value.pointer (some ⟨d,0,none⟩)) w R E:=by
    intro P1 H w I h
    unfold b1e
    intro _
    unfold M1 at h
    have hj4:∀(a3O:a8) H w (_:Inv w0 ps0 H0 H [bx g0 79 (f8 a3O),bx d 51 (d7 x1)] w) (_:M0 a3O x1 H K),b1d (Value.pointer (some ⟨g0,0,none⟩)) (Value.pointer (some ⟨d,0,none⟩)) w R E:=by
     intro a3O H w I h
     unfold b1d
     intro _
     unfold M0 at h
     refine B2 (σ:=Int×a8) (fun (a5L,N6)=>[(vi a5L)]) (fun (a5L,N6)=>[bx g0 79 (f8 N6),bx d 51 (d7 x1)]) h rfl ((I.bring 1).bring 1) ?_
     rintro ⟨a5L,N6⟩ H bb w next5 n5 i I h hn5
     dsimp only at i I h
     simp only [List.map_cons,List.map_nil,List.cons.injEq,and_true] at i
     have e9:=i
     simp only [e9]
     unfold b4A
     unfold R9 at h
     refine a7 R0 (b9 (l1 Tryz.isAgg23 (I.bring 1) rfl) (a7 (K8 _ _ _) (a7 pLs ?_)))
     simp only [o6]
     refine a7 (Pu.g fun a=>by simp only [d9 a];with_reducible exact (g7 _)) ?_
     refine a7 (Pu.g fun a=>by simp only [d9 a];with_reducible exact B7) ?_
     refine b9 (Ld.g fun a=>by simp only [d9 a];exact (l1 Tryz.isAgg4 I rfl)) ?_
     refine a7 (o7 _ _) ?_
     refine g6 h (fun _ h=>?_) (fun _ h=>?_)
     ·refine a7 R0 (b9 (l1 Tryz.isAgg23 (I.bring 1) rfl) ?_)
      obtain ⟨r,s,t,j,h⟩:=h
      obtain ⟨bc,bd,u,j⟩:=j
      refine a7 (a1P u _ _ _ _ r s) (b9 (ldA (vs:=(d7 t)) Tryz.isAgg51 Tryz.sizeOf51 rfl (I.atH j)) ?_)
      refine d3 Tryz.call32 (h g0) I ?_
      rintro _ _ _ be v _ _ ⟨y,rfl,rfl,h⟩
      refine a7 pAd ?_
      exact hn5 ((IntKind.wrap .i64 (a5L+1)),y) _ _ h ((v.bring 1).bring 1)
     ·exact hR _ H _ _ (I.bring 1).drop ⟨N6,rfl,rfl,h⟩
    refine k8 fun j4 hx4=>?_
    refine B2 (σ:=Int×a8) (fun (a5M,a0G)=>[(vi a5M)]) (fun (a5M,a0G)=>[bx g0 79 (f8 a0G),bx d 51 (d7 x1)]) h rfl ((I.bring 1).bring 1) ?_
    rintro ⟨a5M,a0G⟩ H bf w next6 n6 k I h hn6
    dsimp only at k I h
    simp only [List.map_cons,List.map_nil,List.cons.injEq,and_true] at k
    have e8:=k
    simp only [e8]
    unfold b4B
    unfold S1 at h
    refine a7 U6 (b9 (l1 Tryz.isAgg23 (I.bring 1) rfl) (a7 (K8 _ _ _) (a7 pLs ?_)))
    simp only [o6]
    refine a7 (Pu.g fun a=>by simp only [d9 a];with_reducible exact (g7 _)) ?_
    refine a7 (Pu.g fun a=>by simp only [d9 a];with_reducible exact B7) ?_
    refine b9 (Ld.g fun a=>by simp only [d9 a];exact (l1 Tryz.isAgg4 I rfl)) ?_
    refine a7 (o7 _ _) ?_
    refine g6 h (fun _ h=>?_) (fun _ h=>?_)
    ·refine a7 U6 (b9 (l1 Tryz.isAgg23 (I.bring 1) rfl) ?_)
     obtain ⟨z,aa,ab,l,h⟩:=h
     obtain ⟨bg,bh,ac,l⟩:=l
     refine a7 (a1P ac _ _ _ _ z aa) (b9 (ldA (vs:=(d7 ab)) Tryz.isAgg51 Tryz.sizeOf51 rfl (I.atH l)) ?_)
     refine d3 Tryz.call32 (h g0) I ?_
     rintro _ _ _ bi ad _ _ ⟨ae,rfl,rfl,h⟩
     refine a7 pAd ?_
     exact hn6 ((IntKind.wrap .i64 (a5M+1)),ae) _ _ h ((ad.bring 1).bring 1)
    ·exact hx4 _ _ (hj4 a0G H _ ((I.bring 1).bring 1) h)
   refine k8 fun j3 hx3=>?_
   refine B2 (σ:=Int×a8) (fun (a5N,a0H)=>[(vi a5N)]) (fun (a5N,a0H)=>[bx g0 79 (f8 a0H),bx d 51 (d7 x1)]) h rfl ((I.bring 1).bring 1) ?_
   rintro ⟨a5N,a0H⟩ H bj w next7 n7 m I h hn7
   dsimp only at m I h
   simp only [List.map_cons,List.map_nil,List.cons.injEq,and_true] at m
   have e7:=m
   simp only [e7]
   unfold b4C
   unfold S2 at h
   refine a7 O8 (b9 (l1 Tryz.isAgg34 (I.bring 1) rfl) (a7 (T6 _ _ _) (a7 pLs ?_)))
   simp only [o6]
   refine a7 (Pu.g fun a=>by simp only [d9 a];with_reducible exact (g7 _)) ?_
   refine a7 (Pu.g fun a=>by simp only [d9 a];with_reducible exact B7) ?_
   refine b9 (Ld.g fun a=>by simp only [d9 a];exact (l1 Tryz.isAgg4 I rfl)) ?_
   refine a7 (o7 _ _) ?_
   refine g6 h (fun _ h=>?_) (fun _ h=>?_)
   ·refine a7 O8 (b9 (l1 Tryz.isAgg34 (I.bring 1) rfl) ?_)
    obtain ⟨af,ag,ah,n,h⟩:=h
    obtain ⟨bk,bl,ai,n⟩:=n
    refine a7 (B3 ai _ _ _ _ af ag) (b9 (ldA (vs:=(c7 ah)) Tryz.isAgg36 Tryz.sizeOf36 rfl (I.atH n)) ?_)
    refine d3 Tryz.call55 (h g0) I ?_
    rintro _ _ _ bm aj _ _ ⟨ak,rfl,rfl,h⟩
    refine a7 pAd ?_
    exact hn7 ((IntKind.wrap .i64 (a5N+1)),ak) _ _ h ((aj.bring 1).bring 1)
   ·exact hx3 _ _ (hj3 a0H H _ ((I.bring 1).bring 1) h)
  refine k8 fun j2 hx2=>?_
  refine B2 (σ:=Int×a8) (fun (a5O,a5r)=>[(vi a5O)]) (fun (a5O,a5r)=>[bx g0 79 (f8 a5r),bx d 51 (d7 x1)]) h rfl ((q.bring 1).bring 1) ?_
  rintro ⟨a5O,a5r⟩ H bn w next8 n8 o I h hn8
  dsimp only at o I h
  simp only [List.map_cons,List.map_nil,List.cons.injEq,and_true] at o
  have e6:=o
  simp only [e6]
  unfold b4D
  unfold S3 at h
  refine a7 L6 (b9 (l1 Tryz.isAgg49 (I.bring 1) rfl) (a7 (a1K _ _ _) (a7 pLs ?_)))
  simp only [o6]
  refine a7 (Pu.g fun a=>by simp only [d9 a];with_reducible exact (g7 _)) ?_
  refine a7 (Pu.g fun a=>by simp only [d9 a];with_reducible exact B7) ?_
  refine b9 (Ld.g fun a=>by simp only [d9 a];exact (l1 Tryz.isAgg4 I rfl)) ?_
  refine a7 (o7 _ _) ?_
  refine g6 h (fun _ h=>?_) (fun _ h=>?_)
  ·refine a7 L6 (b9 (l1 Tryz.isAgg49 (I.bring 1) rfl) ?_)
   obtain ⟨al,am,an,p,h⟩:=h
   obtain ⟨bo,bp,ao,p⟩:=p
   refine a7 (G8 ao _ _ _ _ al am) (b9 (ldA (vs:=(c9 an)) Tryz.isAgg71 Tryz.sizeOf71 rfl (I.atH p)) ?_)
   refine d3 Tryz.call54 (h g0) I ?_
   rintro _ _ _ bq ap _ _ ⟨aq,rfl,rfl,h⟩
   refine a7 pAd ?_
   exact hn8 ((IntKind.wrap .i64 (a5O+1)),aq) _ _ h ((ap.bring 1).bring 1)
  ·exact hx2 _ _ (hj2 a5r H _ ((I.bring 1).bring 1) h)
 refine k8 fun j1 hx1=>?_
 refine a7 U5 (b9 (l1 Tryz.isAgg3 f rfl) (a7 pEq ?_))
 refine c8 h (fun _ h=>?_) (fun _ h=>?_)
 ·exact hx1 _ _ (hj1 1 0 x0 H _ ((f.bring 1).bring 1) h)
 ·refine a7 pEq ?_
  refine c8 h (fun _ h=>?_) (fun _ h=>?_)
  ·exact hx1 _ _ (hj1 2 0 x0 H _ ((f.bring 1).bring 1) h)
  ·have hj9:∀(a8a:Bool) H w (_:Inv w0 ps0 H0 H [bx d 51 (d7 x1),bx g0 79 (f8 x0)] w) (_:u1 0 0 x1.b8 a8a x1 x0 H K),b1h (Value.pointer (some ⟨g0,0,none⟩)) (Value.pointer (some ⟨d,0,none⟩)) (vi 0) (vi 0) (vi x1.b8) (vB a8a) w j1 R E:=by
    intro a8a H w I h
    unfold b1h
    intro _
    unfold u1 at h
    refine g6 h (fun _ h=>?_) (fun _ h=>?_)
    ·exact hx1 _ _ (hj1 0 1 x0 H _ ((I.bring 1).bring 1) h)
    ·refine a7 pEq ?_
     refine c8 h (fun _ h=>?_) (fun _ h=>?_)
     ·exact hx1 _ _ (hj1 0 0 x0 H _ ((I.bring 1).bring 1) h)
     ·refine a7 (g7 _) (a7 B7 ?_)
      refine P9 (I.bring 1) Tryz.sizeOf4 fun br ar bs=>?_
      exact hx1 _ _ (hj1 0 0 (a8.mk false x0.fnames) H _ (ar.bring 1) h)
   refine k8 fun j9 hx9=>?_
   refine a7 pEq ?_
   refine c8 h (fun _ h=>?_) (fun _ h=>?_)
   ·exact hx9 _ _ (hj9 (decide (x1.b8=3)) H _ ((f.bring 1).bring 1) h)
   ·refine a7 pEq ?_
    refine c8 h (fun _ h=>?_) (fun _ h=>?_)
    ·exact hx9 _ _ (hj9 (decide (x1.b8=4)) H _ ((f.bring 1).bring 1) h)
    ·refine a7 pEq ?_
     refine c8 h (fun _ h=>?_) (fun _ h=>?_)
     ·exact hx9 _ _ (hj9 (decide (x1.b8=5)) H _ ((f.bring 1).bring 1) h)
     ·refine a7 pEq ?_
      exact hx9 _ _ (hj9 (decide (x1.b8=6)) H _ ((f.bring 1).bring 1) h)
def E7(b5J:Int)(a:d4)(b:l9)(H:Hp)(n2:(Int×d4)→Hp→Prop)(K:ByteArray→Int→Hp→Prop):Prop:=
 n2 ((IntKind.wrap .i64 (b5J+1)),a) H
def K6(c:d4)(d:l9)(H:Hp)(K:ByteArray→Int→Hp→Prop):Prop:=
 u9 c d.Z1 0 H (fun a b=>
 (65536 < (a.fs.size:Int)→
 K ⟨#[]⟩ 50 b)∧
 (¬(65536 < (a.fs.size:Int))→
 K a.fs 0 b))
def Y3(b:l9)(a0Z:Int)(c:d4)(H:Hp)(n2:(Int×d4)→Hp→Prop)(K:ByteArray→Int→Hp→Prop):Prop:=
 (a0Z < (b.G1.n:Int)→
 (0:Int)≤a0Z∧(a0Z:Int) < b.G1.n∧∃a:G4,EltH H b.G1 a0Z 2 (u7 a)∧
 (a.L3=0→
 (⟨#[118,97,114,32]⟩:ByteArray).size+a.f4.size≤9223372036854775807∧
 ((⟨#[118,97,114,32]⟩:ByteArray)++a.f4).size+(⟨#[59]⟩:ByteArray).size≤9223372036854775807∧
 m0 c 0 (((⟨#[118,97,114,32]⟩:ByteArray)++a.f4)++(⟨#[59]⟩:ByteArray)) H (fun e f=>
 E7 a0Z e b f n2 K))∧
 (¬(a.L3=0)→
 (⟨#[97,114,114,97,121,32]⟩:ByteArray).size+a.f4.size≤9223372036854775807∧
 ((⟨#[97,114,114,97,121,32]⟩:ByteArray)++a.f4).size+(⟨#[91]⟩:ByteArray).size≤9223372036854775807∧
 a0h a.L3 H (fun d g=>
 (((⟨#[97,114,114,97,121,32]⟩:ByteArray)++a.f4)++(⟨#[91]⟩:ByteArray)).size+d.size≤9223372036854775807∧
 ((((⟨#[97,114,114,97,121,32]⟩:ByteArray)++a.f4)++(⟨#[91]⟩:ByteArray))++d).size+(⟨#[93,59]⟩:ByteArray).size≤9223372036854775807∧
 m0 c 0 (((((⟨#[97,114,114,97,121,32]⟩:ByteArray)++a.f4)++(⟨#[91]⟩:ByteArray))++d)++(⟨#[93,59]⟩:ByteArray)) g (fun i j=>
 E7 a0Z i b j n2 K))))∧
 (¬(a0Z < (b.G1.n:Int))→
 K6 c b H K)
def a0I(x0:l9)(H:Hp)(K:ByteArray→Int→Hp→Prop):Prop:=
 a0C x0 H (fun a b=>
 (¬(a=0)→
 K ⟨#[]⟩ a b)∧
 (a=0→
 TL ((0,(d4.mk ⟨#[]⟩)):Int×d4) b fun(s:Int×d4) H n2=>Y3 x0 s.1 s.2 H n2 K))
theorem a5s(x0){H K}(h:a0I x0 H K):a0D x0 H K:=by
 refine Ct.of fun w0 w ps0 H0 R E I hR=>c0s ?_
 unfold a0I at h
 unfold F6
 refine y7 I (cs:=(o8 x0)) rfl fun c ao m ap=>?_
 refine b9 (lW Tryz.isAgg25 Tryz.sizeOf25 rfl m) ?_
 refine d3 Tryz.call14 h m ?_
 rintro _ q _ aq n _ _ ⟨r,rfl,rfl,h⟩
 refine a7 pNe ?_
 refine a4H h (fun _ h=>?_) (fun _ h=>?_)
 ·exact hR _ q _ _ n.drop ⟨⟨#[]⟩,r,rfl,rfl,h⟩
 ·refine a7 (b4j) ?_
  refine y7 n (cs:=[(eS)]) rfl fun a ar s au=>?_
  have hj1:∀(j:d4) H w (_:Inv w0 ps0 H0 H [bx a 57 [(Value.string j.fs)],bx c 25 (o8 x0)] w) (_:K6 j x0 H K),b3y (Value.pointer (some ⟨c,0,none⟩)) (Value.pointer (some ⟨a,0,none⟩)) w R E:=by
   intro j H w I h
   unfold b3y
   intro _
   unfold K6 at h
   refine a7 a2i (b9 (l1 Tryz.isAgg23 (I.bring 1) rfl) ?_)
   refine d3 Tryz.call17 (h a) I ?_
   rintro _ o _ av e _ _ ⟨t,rfl,rfl,h⟩
   refine a7 (g7 _) (a7 a3p (b9 (l1 Tryz.isAgg9 e rfl) (a7 (a2P _) (a7 pGt ?_))))
   refine c8 h (fun _ h=>?_) (fun _ h=>?_)
   ·exact hR _ o _ _ e.drop.drop ⟨⟨#[]⟩,50,rfl,rfl,h⟩
   ·refine a7 (g7 _) (a7 a3p (b9 (l1 Tryz.isAgg9 e rfl) ?_))
    exact hR _ o _ _ e.drop.drop ⟨t.fs,0,rfl,rfl,h⟩
  refine k8 fun j1 hx1=>?_
  refine B2 (σ:=Int×d4) (fun (a0Z,f)=>[(vi a0Z)]) (fun (a0Z,f)=>[bx a 57 [(Value.string f.fs)],bx c 25 (o8 x0)]) h rfl ((s.bring 1).bring 1) ?_
  rintro ⟨a0Z,f⟩ H aw w next2 n2 k I h hn2
  dsimp only at k I h
  simp only [List.map_cons,List.map_nil,List.cons.injEq,and_true] at k
  have e6:=k
  simp only [e6]
  unfold b6w
  unfold Y3 at h
  refine a7 a0x (b9 (l1 Tryz.isAgg22 (I.bring 1) rfl) (a7 (a4V _ _ _) (a7 pLs ?_)))
  refine c8 h (fun _ h=>?_) (fun _ h=>?_)
  ·have hj3:∀(g:d4) H w (_:Inv w0 ps0 H0 H [bx a 57 [(Value.string g.fs)],bx c 25 (o8 x0)] w) (_:E7 a0Z g x0 H n2 K),b3z (Value.pointer (some ⟨c,0,none⟩)) (Value.pointer (some ⟨a,0,none⟩)) (vi a0Z) w next2 R E:=by
    intro g H w I h
    unfold b3z
    intro _
    unfold E7 at h
    refine a7 pAd ?_
    exact hn2 ((IntKind.wrap .i64 (a0Z+1)),g) _ _ h ((I.bring 1).bring 1)
   refine k8 fun j3 hx3=>?_
   refine a7 a0x (b9 (l1 Tryz.isAgg22 (I.bring 1) rfl) ?_)
   obtain ⟨u,v,b,l,h⟩:=h
   obtain ⟨ax,ay,y,l⟩:=l
   refine a7 (a4I y _ _ _ _ u v) (b9 (ldA (vs:=(u7 b)) Tryz.isAgg46 Tryz.sizeOf46 rfl (I.atH l)) ?_)
   refine L1 I Tryz.zeroValue46 (cs:=[(eS),(vi 0)]) rfl fun az ba z bb=>?_
   refine U3 z Tryz.sizeOf46 (vs:=(u7 b)) fun bc i bd=>?_
   refine a7 a1J (b9 (l1 Tryz.isAgg3 i rfl) (a7 pEq ?_))
   refine c8 h (fun _ h=>?_) (fun _ h=>?_)
   ·refine a7 a3o (b9 (l1 Tryz.isAgg9 i rfl) ?_)
    obtain ⟨aa,h⟩:=h
    refine a7 (A5 _ _ _ ⟨#[118,97,114,32]⟩ b.f4 aa) ?_
    obtain ⟨ab,h⟩:=h
    refine a7 (A5 _ _ _ ((⟨#[118,97,114,32]⟩:ByteArray)++b.f4) ⟨#[59]⟩ ab) ?_
    refine d3 Tryz.call15 (h a) (i.bring 1) ?_
    rintro _ ac _ be ad _ _ ⟨ae,rfl,rfl,h⟩
    exact hx3 _ _ (hj3 ae ac _ (((ad.bring 1).drop.bring 1).bring 1) h)
   ·refine V9 i fun bf d=>?_
    refine f6 a3o ?_
    refine f6 a1J ?_
    refine l8 (l1 Tryz.isAgg9 d rfl) ?_
    obtain ⟨af,h⟩:=h
    refine f6 (A5 _ _ _ ⟨#[97,114,114,97,121,32]⟩ b.f4 af) ?_
    obtain ⟨ag,h⟩:=h
    refine f6 (A5 _ _ _ ((⟨#[97,114,114,97,121,32]⟩:ByteArray)++b.f4) ⟨#[91]⟩ ag) ?_
    refine l8 (l1 Tryz.isAgg3 d rfl) ?_
    refine d3 Tryz.call16 h d ?_
    rintro _ _ _ bg ah _ ai ⟨p,rfl,rfl,h⟩
    refine ⟨(ai _ d.lt1 (Inv.E0 (Fi:=[]) d)),?_⟩
    obtain ⟨aj,h⟩:=h
    refine f6 (A5 _ _ _ (((⟨#[97,114,114,97,121,32]⟩:ByteArray)++b.f4)++(⟨#[91]⟩:ByteArray)) p aj) ?_
    obtain ⟨ak,h⟩:=h
    refine f6 (A5 _ _ _ ((((⟨#[97,114,114,97,121,32]⟩:ByteArray)++b.f4)++(⟨#[91]⟩:ByteArray))++p) ⟨#[93,59]⟩ ak) ?_
    refine d3 Tryz.call15 (h a) (ah.bring 1) ?_
    rintro _ al _ bh am _ _ ⟨an,rfl,rfl,h⟩
    exact hx3 _ _ (hj3 an al _ (((am.bring 1).drop.bring 1).bring 1) h)
  ·exact hx1 _ _ (hj1 f H _ ((I.bring 1).bring 1) h)
def r9(V2:(List c6))(H:Hp)(K:Sl→Hp→Prop):Prop:=
 ∀(E4:Sl)(a:Hp),Hle H a→SlH a 1 l7 E4 V2→NewS H a 92 1 E4→
 K E4 a
def s6(a0E:Sl)(a4j:Int)(p9:(List c6))(p5:Int)(H:Hp)(n2:((List c6)×Int)→Hp→Prop)(K:Sl→Hp→Prop):Prop:=
 (p5 < a4j→
 (0:Int)≤p5∧(p5:Int) < a0E.n∧∃a:d8,EltH H a0E p5 4 (c7 a)∧
 a4h a H (fun b c=>
 (p9.length+([b]:List c6).length)*17≤140737488355328∧
 n2 ((p9++[b]),(IntKind.wrap .i64 (p5+1))) c))∧
 (¬(p5 < a4j)→
 r9 p9 H K)
def C3(x0:Sl)(H:Hp)(K:Sl→Hp→Prop):Prop:=
 TL (([],0):(List c6)×Int) H fun(s:(List c6)×Int) H n2=>s6 x0 (x0.n:Int) s.1 s.2 H n2 K
theorem Y4(x0){H K}(h:C3 x0 H K):p8 x0 H K:=by
 refine Ct.of fun w0 w ps0 H0 R E I hR=>b7f ?_
 unfold C3 at h
 unfold b9E
 have hj1:∀(V2:(List c6))(E4:Sl)(Fs5j1:Frag) H w (_:RowL 92 1 l7 E4 V2 Fs5j1) (_:Inv w0 ps0 H0 H [Fs5j1] w) (_:r9 V2 H K),a9x (vs E4) w R E:=by
  intro V2 E4 Fs5j1 H w a7i I h
  unfold a9x
  intro _
  unfold r9 at h
  obtain ⟨j,q,r,t,u⟩:=Inv.freezeN I a7i (by decide)
  replace h:=h E4 j r t u
  exact hR _ j _ _ q ⟨E4,rfl,rfl,h⟩
 refine k8 fun j1 hx1=>?_
 refine a7 (T6 _ _ _) ?_
 obtain ⟨f,d,v,y⟩:=h
 refine a1B (J:=fun n l w=>∃(s:(List c6)×Int)(H:Hp)(V3:Sl)(Fs5l2:Frag),n=d s∧l=(match s with | (p9,p5)=>[(vs V3),(vi p5)])∧(match s with | (p9,p5)=>RowL 92 1 l7 V3 p9 Fs5l2)∧(match s with | (p9,p5)=>Inv w0 ps0 H0 H [Fs5l2] w)∧f s H) ⟨_,([],0),H,(Sl.mk none 0 0),[],rfl,rfl,(RowL.nil G9 K4),I.nil,v⟩ ?_
 rintro am an w next2 ⟨⟨p9,p5⟩,H,V3,Fs5l2,rfl,g,a2m,I,z⟩ hn2
 dsimp only at g I a2m
 simp only [List.map_cons,List.map_nil,List.cons.injEq,and_true] at g
 obtain ⟨e5,e10⟩:=g
 simp only [e5,e10]
 obtain ⟨n2,hm2,h⟩:∃n2:((List c6)×Int)→Hp→Prop,(∀s' H',n2 s' H'→f s' H'∧d s' < d (p9,p5))∧s6 x0 (x0.n:Int) p9 p5 H n2 K:=⟨_,fun _ _ h=>h,y (p9,p5) H (fun s' H'=>f s' H'∧d s' < d (p9,p5)) z (fun _ _ a b=>⟨a,b⟩)⟩
 unfold b2U
 unfold s6 at h
 refine a7 pLs ?_
 refine c8 h (fun _ h=>?_) (fun _ h=>?_)
 ·obtain ⟨aa,ab,k,i,h⟩:=h
  obtain ⟨ao,ap,ac,i⟩:=i
  refine a7 (B3 ac _ _ _ _ aa ab) (b9 (ldA (vs:=(c7 k)) Tryz.isAgg36 Tryz.sizeOf36 rfl (I.atH i)) ?_)
  refine L1 I Tryz.zeroValue36 (cs:=[(vi 0),(vi 0),(eS),(nS)]) rfl fun aq ar ad au=>?_
  refine U3 ad Tryz.sizeOf36 (vs:=(c7 k)) fun av m aw=>?_
  refine b9 (lW Tryz.isAgg36 Tryz.sizeOf36 rfl m) ?_
  refine d3 Tryz.call127 h m ?_
  rintro _ ae _ ax af _ _ ⟨o,rfl,rfl,h⟩
  refine W0 (e:=92) (c:=l7) (xs:=[o]) af (a6H _) rfl rfl G9 K4 (nb rfl) fun ay az ba ag p bb=>?_
  obtain ⟨ah,h⟩:=h
  refine a7K (s:=V3) (xs:=p9) (p.bring 2) a2m (ag.srcO ((p.bring 2).bring 1)) ah fun ai aj bc ak al bd=>?_
  refine a7 pAd ?_
  exact hn2 _ _ _ (hm2 _ _ h).2 ⟨((p9++[o]),(IntKind.wrap .i64 (p5+1))),ae,ai,aj,rfl,rfl,ak,((al.bring 1).drop.bring 1).drop,(hm2 _ _ h).1⟩
 ·exact hx1 _ _ (hj1 p9 V3 Fs5l2 H _ a2m I h)
def a1x(x0:O7)(H:Hp)(K:Bool→Hp→Prop):Prop:=
 K ((decide (0≤x0.T7.L3))&&(decide (x0.T7.L3≤2147483647))) H
theorem a6j(x0){H K}(h:a1x x0 H K):a3x x0 H K:=by
 refine Ct.of fun w0 w ps0 H0 R E I hR=>b7h ?_
 unfold a1x at h
 unfold b9G
 refine y7 I (cs:=(u7 x0.T7)) rfl fun c d b e=>?_
 refine a7 a6x (a7 a1J (b9 (l1 Tryz.isAgg3 b rfl) (a7 pGe ?_)))
 refine a7 (Pu.g fun a=>by with_reducible exact a6x) ?_
 refine a7 (Pu.g fun a=>by simp only [d9 a];with_reducible exact a1J) ?_
 refine b9 (Ld.g fun a=>by simp only [d9 a];exact (l1 Tryz.isAgg3 b rfl)) ?_
 refine a7 (Pu.g fun a=>by simp only [d9 a];with_reducible exact pLe) ?_
 refine a7 (o7 _ _) ?_
 exact hR _ H _ _ b.drop ⟨((decide (0≤x0.T7.L3))&&(decide (x0.T7.L3≤2147483647))),rfl,rfl,h⟩
def a1e(x0:O7)(H:Hp)(K:Sl→Hp→Prop):Prop:=
 K (Sl.mk none 0 0) H
theorem a5P(x0){H K}(h:a1e x0 H K):a2S x0 H K:=by
 refine Ct.of fun w0 w ps0 H0 R E I hR=>b7i ?_
 unfold a1e at h
 unfold b9H
 refine y7 I (cs:=(u7 x0.T7)) rfl fun b c a d=>?_
 exact hR _ H _ _ a.drop ⟨(Sl.mk none 0 0),rfl,rfl,h⟩
end Go.Proofs.YtnhdnncbjddmjaaGreatDoor
