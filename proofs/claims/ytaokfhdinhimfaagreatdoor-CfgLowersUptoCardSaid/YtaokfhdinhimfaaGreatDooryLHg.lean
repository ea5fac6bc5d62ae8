/- The document counts the temps of a tree by itself: what it answers is what the plain graph asks. -/
import Derived.Test.YtaokfhdinhimfaaGreatDooryLHf
namespace Go.Proofs.YtaokfhdinhimfaaGreatDoor
open Go.RowKit
set_option maxRecDepth 100000
set_option maxHeartbeats 2000000
abbrev mx(c s:Int):Int:=if c > s then c else s
structure Mt (w:Int) (g g':Gr):Prop where
 n:0≤w
 t:0≤g.t→g'.t=mx w g.t
theorem Mt.trans{w v:Int}{a b c:Gr}(h:Mt w a b)(k:Mt v b c):Mt (mx v w) a c:=by
 obtain ⟨n,t⟩:=h
 obtain ⟨m,u⟩:=k
 refine ⟨by unfold mx;split<;>omega,fun h0=>?_⟩
 have e:=t h0
 have e2:=u (by rw [e];unfold mx;split<;>omega)
 rw [e2,e];unfold mx
 (repeat' split)<;>omega
theorem Mt.same{a b:Gr}(h:b.t=a.t):Mt 0 a b:=⟨by omega,fun h0=>by rw [h];unfold mx;split<;>omega⟩
theorem Mt.of{w v:Int}{a b:Gr}(h:Mt w a b)(e:v=w):Mt v a b:=e ▸ h
theorem Mt.thn{w:Int}{a b c:Gr}(h:Mt w a b)(k:c.t=b.t):Mt w a c:=⟨h.n,fun h0=>by rw [k,h.t h0]⟩
theorem Mt.aft{w:Int}{a b c:Gr}(k:b.t=a.t)(h:Mt w b c):Mt w a c:=⟨h.n,fun h0=>by rw [h.t (by omega),k]⟩
theorem a4m(a b c:Int):mx a (mx b c)=mx (mx a b) c:=by unfold mx;(repeat' split)<;>omega
theorem c8Y{a:Int}(h:0≤a):mx 0 a=a:=by unfold mx;split<;>omega
theorem b3d{a:Int}(h:0≤a):mx a 0=a:=by unfold mx;split<;>omega
theorem c5s{a b:Int}(h:0≤b):0≤mx a b:=by unfold mx;split<;>omega
theorem c3t(fs:List Fs)(tg:Int)(g:Gr):(begG fs tg g).2.t=g.t:=by unfold begG;split<;>rfl
section
variable {H:Hp}{L:En}{vn an:List ByteArray}
def WhC(H:Hp)(L:En)(e:f8)(t:PT):Prop:=∀(d:Int)(K:Int→Hp→Prop),0≤d→d+cT t≤1099511627776→(∀w,(∀a g,Mt w g (opF L (loT L t) a d g).2.2)→K w H)→A6 e d H K
def PtC(H:Hp)(L:En)(e:f8)(t:PT):Prop:=∀(d:Int)(K:Int→Hp→Prop),0≤d→d+cT t≤1099511627776→(∀w,((loT L t).pl.isSome=true→w=0)→((loT L t).pl=none→∀dst a c g,Mt w g ((loT L t).into dst a c d g))→K w H)→a0i e d H K
theorem b5S{e:f8}{t:PT}(he:EH H e t)(hf:formT t=true)(hP:PtC H L e t):WhC H L e t:=by
 intro d K h0 h1 h
 have hc:=G6 t
 refine a9c _ _ ?_
 unfold a2s
 refine b2d (L:=L) he hf h0 (by omega) ?_
 cases hp:(loT L t).pl with
 | some o=>
  dsimp only [Option.isSome]
  rw [if_pos rfl]
  refine ⟨fun _=>h _ fun a g=>?_,fun q=>absurd rfl q⟩
  unfold opF;rw [hp];exact .same rfl
 | none=>
  dsimp only [Option.isSome]
  rw [if_neg (by simp)]
  refine ⟨fun q=>by omega,fun _=>?_⟩
  rw [q6 h0 (by omega)]
  refine hP d _ h0 h1 fun w _ hw=>h _ fun a g=>?_
  unfold opF;rw [hp]
  exact Mt.trans (b:=teG d (frG g)) ⟨by omega,fun _=>rfl⟩ (hw hp ..)
theorem b7V{e1 e2:f8}{t1 t2:PT}(hn0:0≤L.nv)(a1:EH H e1 t1)(a2:EH H e2 t2)(f1:formT t1=true)(f2:formT t2=true)(n1:Nok L vn an t1)(p1:PtC H L e1 t1)(p2:PtC H L e2 t2){d:Int}(h0:0≤d)(h1:d+(cT t1+cT t2+1:Nat)≤1099511627776){K:Int→Int→Hp→Prop}
  (h:∀w v,0≤w→0≤v→(∀a g,Mt (mx v w) g (twF L (loT L t1) (loT L t2) a d g).2.2.2)→K w v H):A6 e1 d H (fun f k=>C5 e1 d k (fun l m=>A6 e2 l m (fun g o=>K f g o))):=by
 have hc1:=G6 t1
 have hc2:=G6 t2
 refine b5S a1 f1 p1 d _ h0 (by omega) fun w hw=>b2d (L:=L) a1 f1 h0 (by omega) (b5S a2 f2 p2 _ _ ?_ ?_ fun v hv=>h w v ?_ ?_ fun a g=>?_)
 ·split<;>omega
 ·split<;>omega
 ·exact (hw 0 ⟨0,0,[]⟩).n
 ·exact (hv 0 ⟨0,0,[]⟩).n
 ·unfold twF
  rw [c3s h0 hn0 n1 a1.ex]
  exact (hw a g).trans (hv _ _)
theorem b3e(hn0:0≤L.nv){e:f8}{t:PT}(he:EH H e t):formT t=true→Nok L vn an t→PtC H L e t:=by
 induction he with
 | @mk e ys ts hs hxb hl hrr ih=>
 intro hf hN d K h0 h1 h
 have hE:EH H e (.mk (.expr e.c8 e.s7 e.f6 ts.length) ts):=.mk hs hxb hl hrr
 have hc:=G6 (PT.mk (Lab.expr e.c8 e.s7 e.f6 ts.length) ts)
 refine a9p _ _ ?_
 unfold a2K
 refine b2d (L:=L) hE hf h0 (by omega) ?_
 rw [formT,Bool.and_eq_true] at hf
 have hk:=fmE hf.1
 have hn:=hs.1
 rw [cT] at h1
 rw [a8z] at h ⊢
 dsimp only at h ⊢
 cases hp:plN L e.c8 e.s7 e.f6 ts with
 | some o=>
  dsimp only [Option.isSome]
  rw [if_pos rfl]
  refine ⟨fun _=>h _ (fun _=>rfl) fun q=>?_,fun q=>absurd rfl q⟩
  rw [hp] at q;cases q
 | none=>
  dsimp only [Option.isSome]
  rw [if_neg (by simp)]
  refine ⟨fun q=>by omega,fun _=>⟨fun q1=>?_,fun q1=>⟨fun q2=>?_,fun q2=>?_⟩⟩⟩
  ·obtain ⟨t1,rfl⟩:=V4 (l:=ts) (by omega)
   obtain ⟨x1,rfl⟩:=V4 (l:=ys) (by simpa using hl)
   simp only [formTs,Bool.and_true,cTs] at hf h1
   have hN1:=hN.kid (t:=t1) (by simp)
   refine ⟨by omega,by omega,x1,hs.2 0 x1 rfl,b5S (hrr 0 x1 t1 rfl rfl) hf.2 (ih 0 x1 t1 rfl rfl hf.2 hN1) d _ h0 (by omega) fun w hw=>h _ (fun q=>by rw [hp] at q;cases q) fun _ dst a c g=>?_⟩
   unfold inN
   exact (hw a g).thn rfl
  ·obtain ⟨t1,t2,rfl⟩:=a3I (l:=ts) (by omega)
   obtain ⟨x1,x2,rfl⟩:=a3I (l:=ys) (by simpa using hl)
   simp only [formTs,Bool.and_true,Bool.and_eq_true,cTs] at hf h1
   have hN1:=hN.kid (t:=t1) (by simp)
   have hN2:=hN.kid (t:=t2) (by simp)
   refine ⟨by omega,by omega,x1,hs.2 0 x1 rfl,by omega,by omega,x2,hs.2 1 x2 rfl,?_⟩
   refine b7V (K:=fun f g o=>K (if g > f then g else f) o) hn0 (hrr 0 x1 t1 rfl rfl) (hrr 1 x2 t2 rfl rfl) hf.2.1 hf.2.2 hN1 (ih 0 x1 t1 rfl rfl hf.2.1 hN1) (ih 1 x2 t2 rfl rfl hf.2.2 hN2) h0 (by omega) fun w v _ _ hw=>h _ (fun q=>by rw [hp] at q;cases q) fun _ dst a c g=>?_
   unfold inN
   exact (hw a g).thn rfl
  ·obtain rfl:ts=[]:=List.length_eq_zero_iff.1 (by omega)
   refine h _ (fun _=>rfl) fun _ dst a c g=>?_
   unfold inN
   exact .same rfl
def foldM(ws:List Int)(s:Int):Int:=ws.foldl (fun s c=>mx c s) s
theorem b7W{n:Nat}(hb:(n:Int)≤1099511627776){P:Nat→Int→Prop}{body:Int×Int→Hp→(Int×Int→Hp→Prop)→Prop}{w0:Int}
  (hstep:∀(i:Nat)(s:Int)(next:Int×Int→Hp→Prop),i < n→(∀c,P i c→next (mx c s,IntKind.wrap .i64 ((i:Int)+1)) H)→body (s,(i:Int)) H next)
  (hend:∀(ws:List Int)(next:Int×Int→Hp→Prop),ws.length=n→(∀i c,ws[i]? = some c→P i c)→body (foldM ws w0,(n:Int)) H next):TL ((w0,0):Int×Int) H body:=by
 refine Q6 (fun st H'=>H'=H∧∃ws:List Int,ws.length≤n∧(∀i c,ws[i]? = some c→P i c)∧st=(foldM ws w0,(ws.length:Int))) (fun st=>n-st.2.toNat) ⟨rfl,[],by simp,fun i c h=>by simp at h,rfl⟩ ?_
 rintro st H1 next ⟨rfl,ws,hw,hp,rfl⟩ hnx
 by_cases q:ws.length < n
 ·refine hstep ws.length _ next q fun c hc=>?_
  rw [q6 (by omega) (by omega)]
  refine hnx _ _ ⟨rfl,ws++[c],by simp;omega,fun i d hd=>?_,?_⟩ (by dsimp only;omega)
  ·rw [List.getElem?_append] at hd
   split at hd
   ·exact hp i d hd
   ·rename_i hi
    have:i=ws.length:=by
     have:=List.getElem?_eq_some_iff.1 hd
     obtain ⟨hl,_⟩:=this
     simp at hl;omega
    subst this
    simp at hd;subst hd;exact hc
  ·unfold foldM
   rw [List.foldl_append];simp
 ·obtain rfl:n=ws.length:=by omega
  exact hend ws next rfl hp
theorem b4H(s:Int){ws:List Int}(h:ws.length=0):foldM ws s=s:=by
 obtain rfl:ws=[]:=List.length_eq_zero_iff.1 h
 rfl
def CoC(H:Hp)(L:En)(c:j8)(t:PT):Prop:=∀(K:Int→Hp→Prop),cT t≤1099511627776→(∀w,(∀a y n g,Mt w g ((loT L t).co a y n g))→K w H)→a0j c H K
theorem c6t(hn0:0≤L.nv){c:j8}{t:PT}(he:CH H c t):formT t=true→Nok L vn an t→CoC H L c t:=by
 induction he with
 | @mk c ys ts zs us hs hxb hr hy hyb hl hrc ih=>
 intro hf hN K h1 h
 refine a9q _ ?_
 unfold a2L
 rw [b5O] at h
 dsimp only at h
 rw [formT,Bool.and_eq_true] at hf
 have hk:=fmC hf.1
 have hn:=hs.1
 have hm:=hy.1
 have hr1:=hr.1
 rw [cT,a6q] at h1
 have hff:formTs us=true:=by have:=hf.2;rw [U5,Bool.and_eq_true] at this;exact this.2
 have hcs:∀{i:Nat}{t:PT},us[i]? = some t→cT t≤cTs us:=fun{i t} ht=>by have:=b2c ht;have:=a9S us i;omega
 unfold coN at h
 have loop:∀w0:Int,(∀ws:List Int,ws.length=us.length→(∀(i:Nat) c t,ws[i]? = some c→us[i]? = some t→∀a y n g,Mt c g ((loT L t).co a y n g))→K (foldM ws w0) H)→J5 w0 c H K:=by
  intro w0 hK
  unfold J5
  refine b7W (n:=us.length) (by omega) (P:=fun i c=>∀t,us[i]? = some t→∀a y n g,Mt c g ((loT L t).co a y n g)) (fun i s next hi hnx=>?_) (fun ws next hw hp=>?_)
  ·unfold X7
   refine ⟨fun q=>?_,fun q=>by omega⟩
   obtain ⟨u,hu⟩:=A8 (l:=us) (i:=i) hi
   obtain ⟨z,hz⟩:=A8 (l:=zs) (i:=i) (by omega)
   refine ⟨by omega,by omega,z,hy.2 i z hz,ih i z u hz hu (a5Z hff hu) (hN.kid (by have:=List.mem_of_getElem? hu;simp [this])) _ (by have:=hcs hu;omega) fun w hw=>hnx _ fun t ht=>?_⟩
   rw [hu] at ht;cases ht;exact hw
  ·unfold X7
   refine ⟨fun q=>by omega,fun _=>?_⟩
   unfold X6
   exact hK ws hw fun i c t hc ht=>hp i c hc t ht
 refine ⟨fun q3=>?_,fun q3=>?_⟩
 ·obtain rfl:us=[]:=List.length_eq_zero_iff.1 (by omega)
  obtain ⟨u,v,rfl⟩:=a3I (l:=ts) (by omega)
  obtain ⟨y,y2,rfl⟩:=a3I (l:=ys) (by omega)
  simp only [List.append_nil,formTs,Bool.and_true,Bool.and_eq_true,cTs,List.length_cons,List.length_nil] at hf h1 hn
  simp only [List.append_nil,List.map_cons,List.map_nil,if_neg (show ¬c.c8=1 by omega),if_neg (show ¬c.c8=2 by omega),if_neg (show ¬c.c8=5 by omega),if_neg (show ¬c.c8=6 by omega)] at h
  have hNu:=hN.kid (t:=u) (by simp)
  have hNv:=hN.kid (t:=v) (by simp)
  refine ⟨by omega,by omega,y,hs.2 0 y rfl,by omega,by omega,y2,hs.2 1 y2 rfl,?_⟩
  have e1:=hr.2 0 y u rfl rfl
  have e2:=hr.2 1 y2 v rfl rfl
  refine b7V (K:=fun f g o=>J5 (if g > f then g else f) c o K) hn0 e1 e2 hf.2.1 hf.2.2 hNu (b3e hn0 e1 hf.2.1 hNu) (b3e hn0 e2 hf.2.2 hNv) (d:=0) (by omega) (by omega) fun w v' _ _ hw=>?_
  refine loop _ fun ws hws _=>?_
  rw [b4H _ hws]
  refine h _ fun a y n g=>?_
  unfold asN
  exact (hw a g).thn rfl
 ·refine loop 0 fun ws hws hP=>?_
  refine h _ fun a y n g=>?_
  by_cases n1:c.c8=1
  ·rw [if_pos n1,b4H _ (by omega)];exact .same rfl
  rw [if_neg n1]
  by_cases n2:c.c8=2
  ·rw [if_pos n2,b4H _ (by omega)];exact .same rfl
  rw [if_neg n2]
  obtain rfl:ts=[]:=List.length_eq_zero_iff.1 (by omega)
  by_cases n4:c.c8=4
  ·obtain ⟨u,rfl⟩:=V4 (l:=us) (by omega)
   obtain ⟨w,rfl⟩:=V4 (l:=ws) (by simpa using hws)
   simp only [List.nil_append,List.map_cons,List.map_nil,if_pos n4]
   have k:=hP 0 w u rfl rfl a n y g
   exact k.of (b3d k.n)
  ·obtain ⟨u,v,rfl⟩:=a3I (l:=us) (by omega)
   obtain ⟨w,w2,rfl⟩:=a3I (l:=ws) (by simpa using hws)
   simp only [List.nil_append,List.map_cons,List.map_nil]
   have ew:0≤w:=(hP 0 w u rfl rfl 0 0 0 ⟨0,0,[]⟩).n
   have ef:foldM [w,w2] 0=mx w2 w:=by unfold foldM;simp only [List.foldl];rw [b3d ew]
   rw [ef]
   by_cases n5:c.c8=5
   ·rw [if_pos n5]
    exact (Mt.aft (a:=g) (b:=frG g) rfl (hP 0 w u rfl rfl a g.p n (frG g))).trans (hP 1 w2 v rfl rfl ..)
   ·rw [if_neg n5,if_pos (by omega)]
    exact (Mt.aft (a:=g) (b:=frG g) rfl (hP 0 w u rfl rfl a y g.p (frG g))).trans (hP 1 w2 v rfl rfl ..)
theorem b7X:∀(ws:List Int)(s:Int),0≤s→foldM ws s=mx (foldM ws 0) s
 | [],s,h=>(c8Y h).symm
 | c::ws,s,h=>by
  show foldM ws (mx c s)=mx (foldM ws (mx c 0)) s
  rw [b7X ws (mx c s) (c5s h),b7X ws (mx c 0) (c5s (by omega)),← a4m]
  congr 1
  unfold mx;(repeat' split)<;>omega
theorem c7b:∀(vs:List PT)(ws:List Int),ws.length=vs.length→(∀(i:Nat) c t,ws[i]? = some c→vs[i]? = some t→∀a tg g,Mt c g ((loT L t).st a tg g))→∀a nx tg g,Mt (foldM ws 0) g (blG (vs.map (loT L)) a nx tg g)
 | [],ws,hl,h,a,nx,tg,g=>by rw [b4H _ (by simpa using hl),List.map_nil,blG];exact .same rfl
 | [v],ws,hl,h,a,nx,tg,g=>by
  obtain ⟨w,rfl⟩:=V4 (l:=ws) (by simpa using hl)
  have k:=h 0 w v rfl rfl a tg g
  rw [List.map_cons,List.map_nil,blG]
  exact k.of (b3d k.n)
 | v::u::r,ws,hl,h,a,nx,tg,g=>by
  cases ws with
  | nil=>simp at hl
  | cons w ws=>
   have k:=h 0 w v rfl rfl a nx g
   have ih:=c7b (u::r) ws (by simpa using hl) (fun i c t hc ht=>h (i+1) c t (by simpa using hc) (by simpa using ht)) nx (nx+1) tg ((loT L v).st a nx g)
   rw [List.map_cons,List.map_cons,blG]
   refine (k.trans ih).of ?_
   show foldM ws (mx w 0)=_
   rw [b3d k.n,b7X ws w k.n]
def StT(H:Hp)(L:En)(x:i8)(t:PT):Prop:=∀(s0:Sl)(s i:Int)(next:Int×Int→Hp→Prop)(K:Int→Hp→Prop),0≤i→i < s0.n→EltH H s0 i 6 (g7 x)→cT t≤1099511627776→(∀w,(∀a tg g,Mt w g ((loT L t).st a tg g))→next (mx w s,IntKind.wrap .i64 (i+1)) H)→P9 s0 s i H next K
theorem b4I{s:Sl}{xs:List i8}{vs:List PT}(hs:SlH H 6 g7 s xs)(hl:xs.length=vs.length)(hc:∀(i:Nat)(x:i8)(t:PT),xs[i]? = some x→vs[i]? = some t→StT H L x t)(h1:cTs vs≤1099511627776){K:Int→Hp→Prop}
  (h:∀w,(∀a nx tg g,Mt w g (blG (vs.map (loT L)) a nx tg g))→K w H):S4 s H K:=by
 refine a9a _ ?_
 unfold a2r
 have hn:=hs.1
 have hcs:∀{i:Nat}{t:PT},vs[i]? = some t→cT t≤cTs vs:=fun{i t} ht=>by have:=b2c ht;have:=a9S vs i;omega
 have hlen:vs.length≤cTs vs:=a7P vs
 refine b7W (n:=vs.length) (by omega) (P:=fun i c=>∀t,vs[i]? = some t→∀a tg g,Mt c g ((loT L t).st a tg g)) (fun i s' next hi hnx=>?_) (fun ws next hw hp=>?_)
 ·obtain ⟨u,hu⟩:=A8 (l:=vs) (i:=i) hi
  obtain ⟨x,hx⟩:=A8 (l:=xs) (i:=i) (by omega)
  refine hc i x u hx hu s _ _ _ _ (by omega) (by omega) (hs.2 i x hx) (by have:=hcs hu;omega) fun w hw=>hnx w fun t ht=>?_
  rw [hu] at ht;cases ht;exact hw
 ·unfold P9
  refine ⟨fun q=>by omega,fun _=>?_⟩
  unfold V8
  exact h _ (c7b vs ws hw fun i c t hc' ht=>hp i c hc' t ht)
theorem c6u(hn0:0≤L.nv){x:i8}{t:PT}(he:SH H x t):formT t=true→Nok L vn an t→StT H L x t:=by
 induction he with
 | @mk x ys ts zs us xb bs vs ws hs hxb hr hy hyb hry hz1 hzb hzl hzr hw1 hwb hwl hwr ih1 ih2=>
 intro hf hN s0 s i next K i0 i1 hE h1 h
 rw [b5P] at h
 dsimp only at h
 rw [formT,Bool.and_eq_true] at hf
 have hk:=fmS (by omega) (by omega) hf.1
 have hn:=hs.1;have hm:=hy.1;have hrl:=hr.1;have hyl:=hry.1;have hv1:=hz1.1;have hw1':=hw1.1
 rw [cT,a6q,a6q,a6q] at h1
 have hff:=hf.2
 rw [U5,U5,U5,Bool.and_eq_true,Bool.and_eq_true,Bool.and_eq_true] at hff
 obtain ⟨fu,ft,fv,fw⟩:=hff
 have hNk:∀{u:PT},u∈us∨u∈ts∨u∈vs∨u∈ws→Nok L vn an u:=fun hu=>hN.kid (by simpa using hu)
 have hcs:∀{i:Nat}{t:PT},us[i]? = some t→cT t≤cTs us:=fun{i t} ht=>by have:=b2c ht;have:=a9S us i;omega
 have j4:∀s':Int,(∀wt we,(∀a nx tg g,Mt wt g (blG (vs.map (loT L)) a nx tg g))→(∀a nx tg g,Mt we g (blG (ws.map (loT L)) a nx tg g))→next (mx we (mx wt s'),IntKind.wrap .i64 (i+1)) H)→B4 s0 s' i x H next K:=fun s' hK=>by
  unfold B4
  refine b4I hz1 hzl (fun i y t hx ht=>ih1 i y t hx ht (a5Z fv ht) (hNk (by have:=List.mem_of_getElem? ht;simp [this]))) (by omega) fun wt ht=>?_
  refine b4I hw1 hwl (fun i y t hx ht=>ih2 i y t hx ht (a5Z fw ht) (hNk (by have:=List.mem_of_getElem? ht;simp [this]))) (by omega) fun we hw=>?_
  unfold V7
  exact hK wt we ht hw
 have nil:∀{l:List PT}{w:Int},l=[]→(∀a nx tg g,Mt w g (blG (l.map (loT L)) a nx tg g))→∀g,Mt w g g:=fun{l w} hl hw g=>by
  subst hl
  have:=hw 0 0 0 g
  rw [List.map_nil,blG] at this;exact this
 have fin:∀{w wt we:Int}{g g':Gr},(∀g,Mt wt g g)→(∀g,Mt we g g)→Mt w g g'→Mt (mx we (mx wt w)) g g':=fun h1 h2 X=>(X.trans (h1 _)).trans (h2 _)
 unfold P9
 refine ⟨fun _=>⟨i0,i1,x,hE,fun q1=>?_,fun n1=>⟨fun q2=>?_,fun n2=>?_⟩⟩,fun q=>absurd i1 q⟩
 ·obtain rfl:us=[]:=List.length_eq_zero_iff.1 (by omega)
  obtain rfl:vs=[]:=List.length_eq_zero_iff.1 (by omega)
  obtain rfl:ws=[]:=List.length_eq_zero_iff.1 (by omega)
  obtain ⟨u,rfl⟩:=V4 (l:=ts) (by omega)
  obtain ⟨y,rfl⟩:=V4 (l:=ys) (by omega)
  simp only [formTs,Bool.and_true,cTs,List.length_cons,List.length_nil] at ft h1 hn
  simp only [List.nil_append,List.append_nil,List.map_cons,List.map_nil] at h
  unfold stN at h
  dsimp only at h
  refine ⟨by omega,by omega,y,hs.2 0 y rfl,b3e hn0 (hr.2 0 y u rfl rfl) ft (hNk (by simp)) 0 _ (by omega) (by omega) fun w hw0 hw=>j4 _ fun wt we ht he=>?_⟩
  show next (mx we (mx wt (mx w s)),_) H
  rw [a4m,a4m]
  refine h _ fun a tg g=>?_
  rw [if_pos q1,← a4m]
  have X:Mt w g (match (loT L u).pl with | some o=>edG ⟨a,tg,2,L.vf x.f6,-1,0,o,nO⟩ g | none=>(loT L u).into (L.vf x.f6) a tg 0 g):=by
   cases hp:(loT L u).pl with
   | some o=>rw [hw0 (by rw [hp];rfl)];exact .same rfl
   | none=>exact hw hp ..
  exact (X.trans (nil rfl ht _)).trans (nil rfl he _)
 ·obtain rfl:us=[]:=List.length_eq_zero_iff.1 (by omega)
  obtain rfl:vs=[]:=List.length_eq_zero_iff.1 (by omega)
  obtain rfl:ws=[]:=List.length_eq_zero_iff.1 (by omega)
  obtain ⟨u,v,rfl⟩:=a3I (l:=ts) (by omega)
  obtain ⟨y,y2,rfl⟩:=a3I (l:=ys) (by omega)
  simp only [formTs,Bool.and_true,Bool.and_eq_true,cTs,List.length_cons,List.length_nil] at ft h1 hn
  simp only [List.nil_append,List.append_nil,List.map_cons,List.map_nil] at h
  unfold stN at h
  dsimp only at h
  have e1:=hr.2 0 y u rfl rfl
  have e2:=hr.2 1 y2 v rfl rfl
  have nu:=hNk (u:=u) (by simp)
  have nv:=hNk (u:=v) (by simp)
  refine ⟨by omega,by omega,y,hs.2 0 y rfl,by omega,by omega,y2,hs.2 1 y2 rfl,?_⟩
  refine b7V (K:=fun b g m=>B4 s0 (if g > (if b > s then b else s) then g else (if b > s then b else s)) i x m next K) hn0 e1 e2 ft.1 ft.2 nu (b3e hn0 e1 ft.1 nu) (b3e hn0 e2 ft.2 nv) (d:=0) (by omega) (by omega) fun w v' _ _ hw=>j4 _ fun wt we ht he=>?_
  show next (mx we (mx wt (mx v' (mx w s))),_) H
  rw [a4m v',a4m,a4m]
  refine h _ fun a tg g=>?_
  rw [if_neg n1,if_pos q2,← a4m]
  exact fin (nil rfl ht) (nil rfl he) ((hw a g).thn rfl)
 ·have loop:(∀wc:List Int,wc.length=us.length→(∀(i:Nat) c t,wc[i]? = some c→us[i]? = some t→∀a y n g,Mt c g ((loT L t).co a y n g))→B4 s0 (foldM wc s) i x H next K)→TL ((s,0):Int×Int) H fun(st:Int×Int) H n5=>P8 s0 i x st.1 st.2 H next n5 K:=by
   intro hK
   refine b7W (n:=us.length) (by have:=a7P us;omega) (P:=fun i c=>∀t,us[i]? = some t→∀a y n g,Mt c g ((loT L t).co a y n g)) (fun i' s' next' hi hnx=>?_) (fun wc next' hw hp=>?_)
   ·unfold P8
    refine ⟨fun q=>?_,fun q=>by omega⟩
    obtain ⟨u,hu⟩:=A8 (l:=us) (i:=i') hi
    obtain ⟨z,hz⟩:=A8 (l:=zs) (i:=i') (by omega)
    refine ⟨by omega,by omega,z,hy.2 i' z hz,c6t hn0 (hry.2 i' z u hz hu) (a5Z fu hu) (hNk (by have:=List.mem_of_getElem? hu;simp [this])) _ (by have:=hcs hu;omega) fun w hw=>hnx _ fun t ht=>?_⟩
    rw [hu] at ht;cases ht;exact hw
   ·unfold P8
    refine ⟨fun q=>by omega,fun _=>?_⟩
    exact hK wc hw fun i' c t hc ht=>hp i' c hc t ht
  refine loop fun wc hwc hP=>j4 _ fun wt we ht he=>?_
  obtain rfl:ts=[]:=List.length_eq_zero_iff.1 (by omega)
  have et:((vs++ws).map (loT L)).take vs.length=vs.map (loT L):=by rw [List.map_append,← List.length_map (f:=loT L),List.take_left'];rfl
  have ed:((vs++ws).map (loT L)).drop vs.length=ws.map (loT L):=by rw [List.map_append,← List.length_map (f:=loT L),List.drop_left'];rfl
  by_cases n7:x.c8=7
  ·obtain rfl:us=[]:=List.length_eq_zero_iff.1 (by omega)
   obtain rfl:vs=[]:=List.length_eq_zero_iff.1 (by omega)
   obtain rfl:ws=[]:=List.length_eq_zero_iff.1 (by omega)
   rw [b4H _ hwc,a4m]
   refine h _ fun a tg g=>?_
   simp only [List.nil_append,List.map_nil]
   unfold stN
   exact (fin (g:=g) (g':=edG (bareE a tg 1) g) (nil rfl ht) (nil rfl he) (Mt.same rfl)).of (by rw [b3d (ht 0 0 0 g).n])
  obtain ⟨u,rfl⟩:=V4 (l:=us) (by omega)
  obtain ⟨w,rfl⟩:=V4 (l:=wc) (by simpa using hwc)
  have hw:=hP 0 w u rfl rfl
  show next (mx we (mx wt (mx w s)),_) H
  rw [a4m,a4m]
  refine h _ fun a tg g=>?_
  rw [←a4m]
  simp only [List.nil_append,List.cons_append,List.map_cons]
  unfold stN
  dsimp only
  rw [if_neg n1,if_neg n2]
  have bk:∀{l:List PT}{w:Int},(∀a nx tg g,Mt w g (blG (l.map (loT L)) a nx tg g))→∀a tg g,Mt w g (blkG (l.map (loT L)) a tg g):=fun{l w} hl a tg g=>by
   unfold blkG
   exact Mt.aft (a:=g) (b:=⟨g.p+((List.map (loT L) l).length-1:Nat),g.t,g.es⟩) rfl (hl _ _ _ _)
  by_cases q3:x.c8=3
  ·rw [if_pos q3,et,ed]
   exact ((Mt.aft (by rw [c3t,c3t]) (hw ..)).trans (bk ht ..)).trans (bk he ..)
  rw [if_neg q3]
  obtain rfl:ws=[]:=List.length_eq_zero_iff.1 (by omega)
  rw [List.append_nil]
  by_cases q4:x.c8=4
  ·rw [if_pos q4]
   exact ((Mt.aft (by rw [c3t]) (hw ..)).trans (bk ht ..)).trans (nil rfl he _)
  rw [if_neg q4]
  obtain rfl:vs=[]:=List.length_eq_zero_iff.1 (by omega)
  by_cases q5:x.c8=5
  ·rw [if_pos q5]
   exact fin (nil rfl ht) (nil rfl he) ((Mt.aft (a:=g) (b:=frG (frG g)) rfl (hw ..)).thn rfl)
  ·rw [if_neg q5,if_pos (by omega)]
   exact fin (nil rfl ht) (nil rfl he) (hw ..)
end
end Go.Proofs.YtaokfhdinhimfaaGreatDoor
