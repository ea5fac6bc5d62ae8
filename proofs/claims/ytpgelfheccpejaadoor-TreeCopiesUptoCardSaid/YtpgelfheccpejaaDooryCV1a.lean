/- Typed formulas of the program's functions, and the theorems that the contracts follow from them; printed by lift.py off the code. -/
import Derived.Test.YtpgelfheccpejaaDooryCV1
namespace Go.Proofs.YtpgelfheccpejaaDoor
open Go.RowKit
set_option maxRecDepth 100000
set_option maxHeartbeats 2000000
def y7(J1:(List c8))(H:Hp)(K:Sl→Hp→Prop):Prop:=
 ∀(s6:Sl)(a:Hp),Hle H a→SlH a 1 o0 s6 J1→NewS H a 91 1 s6→
 K s6 a
def y8(U3:Sl)(a1B:Int)(i5:(List c8))(i4:Int)(H:Hp)(n2:((List c8)×Int)→Hp→Prop)(K:Sl→Hp→Prop):Prop:=
 (i4 < a1B→
 (0:Int)≤i4∧(i4:Int) < U3.n∧∃a:c6,EltH H U3 i4 6 (c5 a)∧
 a4r a H (fun b c=>
 (i5.length+([b]:List c8).length)*17≤140737488355328∧
 n2 ((i5++[b]),(IntKind.wrap .i64 (i4+1))) c))∧
 (¬(i4 < a1B)→
 y7 i5 H K)
def E2(x0:Sl)(H:Hp)(K:Sl→Hp→Prop):Prop:=
 TL (([],0):(List c8)×Int) H fun(s:(List c8)×Int) H n2=>y8 x0 (x0.n:Int) s.1 s.2 H n2 K
theorem a0q(x0){H K}(h:E2 x0 H K):t1 x0 H K:=by
 refine Ct.of fun w0 w ps0 H0 R E I hR=>b8U ?_
 unfold E2 at h
 unfold F52
 have hj1:∀(J1:(List c8))(s6:Sl)(Fs5j1:Frag) H w (_:RowL 91 1 o0 s6 J1 Fs5j1) (_:Inv w0 ps0 H0 H [Fs5j1] w) (_:y7 J1 H K),b1K (vs s6) w R E:=by
  intro J1 s6 Fs5j1 H w a3H I h
  unfold b1K
  intro _
  unfold y7 at h
  obtain ⟨j,q,r,t,u⟩:=Inv.freezeN I a3H (by decide)
  replace h:=h s6 j r t u
  exact hR _ j _ _ q ⟨s6,rfl,rfl,h⟩
 refine m7 fun j1 hx1=>?_
 refine a6 (J6 _ _ _) ?_
 obtain ⟨f,d,v,y⟩:=h
 refine T1 (J:=fun n l w=>∃(s:(List c8)×Int)(H:Hp)(J2:Sl)(Fs5l2:Frag),n=d s∧l=(match s with | (i5,i4)=>[(vs J2),(vi i4)])∧(match s with | (i5,i4)=>RowL 91 1 o0 J2 i5 Fs5l2)∧(match s with | (i5,i4)=>Inv w0 ps0 H0 H [Fs5l2] w)∧f s H) ⟨_,([],0),H,(Sl.mk none 0 0),[],rfl,rfl,(RowL.nil L9 O4),I.nil,v⟩ ?_
 rintro am an w next2 ⟨⟨i5,i4⟩,H,J2,Fs5l2,rfl,g,T6,I,z⟩ hn2
 dsimp only at g I T6
 simp only [List.map_cons,List.map_nil,List.cons.injEq,and_true] at g
 obtain ⟨e5,e10⟩:=g
 simp only [e5,e10]
 obtain ⟨n2,hm2,h⟩:∃n2:((List c8)×Int)→Hp→Prop,(∀s' H',n2 s' H'→f s' H'∧d s' < d (i5,i4))∧y8 x0 (x0.n:Int) i5 i4 H n2 K:=⟨_,fun _ _ h=>h,y (i5,i4) H (fun s' H'=>f s' H'∧d s' < d (i5,i4)) z (fun _ _ a b=>⟨a,b⟩)⟩
 unfold b5f
 unfold y8 at h
 refine a6 pLs ?_
 refine d3 h (fun _ h=>?_) (fun _ h=>?_)
 ·obtain ⟨aa,ab,k,i,h⟩:=h
  obtain ⟨ao,ap,ac,i⟩:=i
  refine a6 (J4 ac _ _ _ _ aa ab) (b6 (ldA (vs:=(c5 k)) Tryd.isAgg49 Tryd.sizeOf49 rfl (I.atH i)) ?_)
  refine u4 I Tryd.zeroValue49 (cs:=[(vi 0),(eS),(nS),(nS),(nS),(nS)]) rfl fun aq ar ad au=>?_
  refine D5 ad Tryd.sizeOf49 (vs:=(c5 k)) fun av m aw=>?_
  refine b6 (lW Tryd.isAgg49 Tryd.sizeOf49 rfl m) ?_
  refine d7 Tryd.call53 h m ?_
  rintro _ ae _ ax af _ _ ⟨o,rfl,rfl,h⟩
  refine a1y (e:=91) (c:=o0) (xs:=[o]) af (a6J _) rfl rfl L9 O4 (nb rfl) fun ay az ba ag p bb=>?_
  obtain ⟨ah,h⟩:=h
  refine a7H (s:=J2) (xs:=i5) (p.bring 2) T6 (ag.srcO ((p.bring 2).bring 1)) ah fun ai aj bc ak al bd=>?_
  refine a6 pAd ?_
  exact hn2 _ _ _ (hm2 _ _ h).2 ⟨((i5++[o]),(IntKind.wrap .i64 (i4+1))),ae,ai,aj,rfl,rfl,ak,((al.bring 1).drop.bring 1).drop,(hm2 _ _ h).1⟩
 ·exact hx1 _ _ (hj1 i5 J2 Fs5l2 H _ T6 I h)
def B6(a7V:Bool)(a:Int)(H:Hp)(K:Int→Hp→Prop):Prop:=
 (a7V=true→
 K 3 H)∧
 (a7V=false→
 K 6 H)
def M9(a7W:Bool)(a:Int)(H:Hp)(K:Int→Hp→Prop):Prop:=
 (a7W=true→
 K 6 H)∧
 (a7W=false→
 J0 48 57 a H (fun g b=>
 (g=true→
 K 4 b)∧
 (g=false→
 (a=95→
 B6 (decide (a=95)) a b K)∧
 (¬(a=95)→
 J0 97 122 a b (fun c i=>
 (c=true→
 B6 c a i K)∧
 (c=false→
 J0 65 90 a i (fun d j=>
 (d=true→
 B6 d a j K)∧
 (d=false→
 J0 192 591 a j (fun e k=>
 (e=true→
 B6 e a k K)∧
 (e=false→
 J0 913 969 a k (fun f l=>
 (f=true→
 B6 f a l K)∧
 (f=false→
 J0 1040 1103 a l (fun m n=>
 B6 m a n K)))))))))))))
def i6(a7d:Int)(a7X:Bool)(a:Int)(H:Hp)(K:Int→Hp→Prop):Prop:=
 (a7X=true→
 K 5 H)∧
 (a7X=false→
 (a7d=215→
 M9 (decide (a7d=215)) a H K)∧
 (¬(a7d=215)→
 (a7d=247→
 M9 (decide (a7d=247)) a H K)∧
 (¬(a7d=247)→
 M9 (decide (a7d=930)) a H K)))
def N0(o2:Int)(a1i:Bool)(a:Int)(H:Hp)(K:Int→Hp→Prop):Prop:=
 (a1i=true→
 K 1 H)∧
 (a1i=false→
 (o2=10→
 K 2 H)∧
 (¬(o2=10)→
 (o2=59→
 i6 o2 (decide (o2=59)) a H K)∧
 (¬(o2=59)→
 (o2=44→
 i6 o2 (decide (o2=44)) a H K)∧
 (¬(o2=44)→
 (o2=123→
 i6 o2 (decide (o2=123)) a H K)∧
 (¬(o2=123)→
 (o2=125→
 i6 o2 (decide (o2=125)) a H K)∧
 (¬(o2=125)→
 (o2=40→
 i6 o2 (decide (o2=40)) a H K)∧
 (¬(o2=40)→
 (o2=41→
 i6 o2 (decide (o2=41)) a H K)∧
 (¬(o2=41)→
 (o2=91→
 i6 o2 (decide (o2=91)) a H K)∧
 (¬(o2=91)→
 (o2=93→
 i6 o2 (decide (o2=93)) a H K)∧
 (¬(o2=93)→
 (o2=61→
 i6 o2 (decide (o2=61)) a H K)∧
 (¬(o2=61)→
 (o2=33→
 i6 o2 (decide (o2=33)) a H K)∧
 (¬(o2=33)→
 (o2=60→
 i6 o2 (decide (o2=60)) a H K)∧
 (¬(o2=60)→
 (o2=62→
 i6 o2 (decide (o2=62)) a H K)∧
 (¬(o2=62)→
 (o2=43→
 i6 o2 (decide (o2=43)) a H K)∧
 (¬(o2=43)→
 (o2=45→
 i6 o2 (decide (o2=45)) a H K)∧
 (¬(o2=45)→
 (o2=42→
 i6 o2 (decide (o2=42)) a H K)∧
 (¬(o2=42)→
 (o2=47→
 i6 o2 (decide (o2=47)) a H K)∧
 (¬(o2=47)→
 (o2=37→
 i6 o2 (decide (o2=37)) a H K)∧
 (¬(o2=37)→
 (o2=38→
 i6 o2 (decide (o2=38)) a H K)∧
 (¬(o2=38)→
 i6 o2 (decide (o2=124)) a H K))))))))))))))))))))
def a2Y(x0:Int)(H:Hp)(K:Int→Hp→Prop):Prop:=
 (x0=32→
 N0 x0 (decide (x0=32)) x0 H K)∧
 (¬(x0=32)→
 (x0=9→
 N0 x0 (decide (x0=9)) x0 H K)∧
 (¬(x0=9)→
 N0 x0 (decide (x0=13)) x0 H K))
theorem a7v(x0){H K}(h:a2Y x0 H K):a1K x0 H K:=by
 refine Ct.of fun w0 w ps0 H0 R E I hR=>b9l ?_
 unfold a2Y at h
 unfold F70
 refine B2 I (cs:=[(Value.int .i32 x0)]) rfl fun a u b v=>?_
 refine b6 (l1 Tryd.isAgg21 b rfl) ?_
 have hj1:∀(a1i:Bool) H w (_:Inv w0 ps0 H0 H [bx a 21 [(Value.int .i32 x0)]] w) (_:N0 x0 a1i x0 H K),b1Y (Value.pointer (some ⟨a,0,none⟩)) (Value.int .i32 x0) (vB a1i) w R E:=by
  intro a1i H w I h
  unfold b1Y
  intro _
  unfold N0 at h
  refine f7 h (fun _ h=>?_) (fun _ h=>?_)
  ·exact hR _ H _ _ I.drop ⟨1,rfl,rfl,h⟩
  ·refine a6 pEq ?_
   refine d3 h (fun _ h=>?_) (fun _ h=>?_)
   ·exact hR _ H _ _ I.drop ⟨2,rfl,rfl,h⟩
   ·have hj2:∀(a7X:Bool) H w (_:Inv w0 ps0 H0 H [bx a 21 [(Value.int .i32 x0)]] w) (_:i6 x0 a7X x0 H K),b1X (Value.pointer (some ⟨a,0,none⟩)) (Value.int .i32 x0) (vB a7X) w R E:=by
     intro a7X H w I h
     unfold b1X
     intro _
     unfold i6 at h
     refine f7 h (fun _ h=>?_) (fun _ h=>?_)
     ·exact hR _ H _ _ I.drop ⟨5,rfl,rfl,h⟩
     ·have hj3:∀(a7W:Bool) H w (_:Inv w0 ps0 H0 H [bx a 21 [(Value.int .i32 x0)]] w) (_:M9 a7W x0 H K),b1W (Value.pointer (some ⟨a,0,none⟩)) (vB a7W) w R E:=by
       intro a7W H w I h
       unfold b1W
       intro _
       unfold M9 at h
       refine f7 h (fun _ h=>?_) (fun _ h=>?_)
       ·exact hR _ H _ _ I.drop ⟨6,rfl,rfl,h⟩
       ·refine a6 (a8w _ _ _) ?_
        refine a4p (cap:=[(Value.pointer (some ⟨a,0,none⟩))]) Tryd.call74 (h a) I ?_
        rintro _ d _ y c _ _ ⟨z,rfl,rfl,h⟩
        refine f7 h (fun _ h=>?_) (fun _ h=>?_)
        ·exact hR _ d _ _ c.drop ⟨4,rfl,rfl,h⟩
        ·have hj4:∀(a7V:Bool) H w (_:Inv w0 ps0 H0 H [bx a 21 [(Value.int .i32 x0)]] w) (_:B6 a7V x0 H K),b1V (vB a7V) w R E:=by
          intro a7V H w I h
          unfold b1V
          intro _
          unfold B6 at h
          refine f7 h (fun _ h=>?_) (fun _ h=>?_)
          ·exact hR _ H _ _ I.drop ⟨3,rfl,rfl,h⟩
          ·exact hR _ H _ _ I.drop ⟨6,rfl,rfl,h⟩
         refine m7 fun j4 hx4=>?_
         refine b6 (l1 Tryd.isAgg21 c rfl) (a6 pEq ?_)
         refine d3 h (fun _ h=>?_) (fun _ h=>?_)
         ·exact hx4 _ _ (hj4 (decide (x0=95)) d _ c h)
         ·refine a4p (cap:=[(Value.pointer (some ⟨a,0,none⟩))]) Tryd.call74 (h a) c ?_
          rintro _ j _ aa e _ _ ⟨k,rfl,rfl,h⟩
          refine f7 h (fun _ h=>?_) (fun _ h=>?_)
          ·exact hx4 _ _ (hj4 k j _ e h)
          ·refine a4p (cap:=[(Value.pointer (some ⟨a,0,none⟩))]) Tryd.call74 (h a) e ?_
           rintro _ l _ ab f _ _ ⟨m,rfl,rfl,h⟩
           refine f7 h (fun _ h=>?_) (fun _ h=>?_)
           ·exact hx4 _ _ (hj4 m l _ f h)
           ·refine a4p (cap:=[(Value.pointer (some ⟨a,0,none⟩))]) Tryd.call74 (h a) f ?_
            rintro _ n _ ac g _ _ ⟨o,rfl,rfl,h⟩
            refine f7 h (fun _ h=>?_) (fun _ h=>?_)
            ·exact hx4 _ _ (hj4 o n _ g h)
            ·refine a4p (cap:=[(Value.pointer (some ⟨a,0,none⟩))]) Tryd.call74 (h a) g ?_
             rintro _ p _ ad i _ _ ⟨q,rfl,rfl,h⟩
             refine f7 h (fun _ h=>?_) (fun _ h=>?_)
             ·exact hx4 _ _ (hj4 q p _ i h)
             ·refine a4p (cap:=[(Value.pointer (some ⟨a,0,none⟩))]) Tryd.call74 (h a) i ?_
              rintro _ r _ ae s _ _ ⟨t,rfl,rfl,h⟩
              exact hx4 _ _ (hj4 t r _ s h)
      refine m7 fun j3 hx3=>?_
      refine a6 pEq ?_
      refine d3 h (fun _ h=>?_) (fun _ h=>?_)
      ·exact hx3 _ _ (hj3 (decide (x0=215)) H _ I h)
      ·refine a6 pEq ?_
       refine d3 h (fun _ h=>?_) (fun _ h=>?_)
       ·exact hx3 _ _ (hj3 (decide (x0=247)) H _ I h)
       ·refine a6 pEq ?_
        exact hx3 _ _ (hj3 (decide (x0=930)) H _ I h)
    refine m7 fun j2 hx2=>?_
    refine a6 pEq ?_
    refine d3 h (fun _ h=>?_) (fun _ h=>?_)
    ·exact hx2 _ _ (hj2 (decide (x0=59)) H _ I h)
    ·refine a6 pEq ?_
     refine d3 h (fun _ h=>?_) (fun _ h=>?_)
     ·exact hx2 _ _ (hj2 (decide (x0=44)) H _ I h)
     ·refine a6 pEq ?_
      refine d3 h (fun _ h=>?_) (fun _ h=>?_)
      ·exact hx2 _ _ (hj2 (decide (x0=123)) H _ I h)
      ·refine a6 pEq ?_
       refine d3 h (fun _ h=>?_) (fun _ h=>?_)
       ·exact hx2 _ _ (hj2 (decide (x0=125)) H _ I h)
       ·refine a6 pEq ?_
        refine d3 h (fun _ h=>?_) (fun _ h=>?_)
        ·exact hx2 _ _ (hj2 (decide (x0=40)) H _ I h)
        ·refine a6 pEq ?_
         refine d3 h (fun _ h=>?_) (fun _ h=>?_)
         ·exact hx2 _ _ (hj2 (decide (x0=41)) H _ I h)
         ·refine a6 pEq ?_
          refine d3 h (fun _ h=>?_) (fun _ h=>?_)
          ·exact hx2 _ _ (hj2 (decide (x0=91)) H _ I h)
          ·refine a6 pEq ?_
           refine d3 h (fun _ h=>?_) (fun _ h=>?_)
           ·exact hx2 _ _ (hj2 (decide (x0=93)) H _ I h)
           ·refine a6 pEq ?_
            refine d3 h (fun _ h=>?_) (fun _ h=>?_)
            ·exact hx2 _ _ (hj2 (decide (x0=61)) H _ I h)
            ·refine a6 pEq ?_
             refine d3 h (fun _ h=>?_) (fun _ h=>?_)
             ·exact hx2 _ _ (hj2 (decide (x0=33)) H _ I h)
             ·refine a6 pEq ?_
              refine d3 h (fun _ h=>?_) (fun _ h=>?_)
              ·exact hx2 _ _ (hj2 (decide (x0=60)) H _ I h)
              ·refine a6 pEq ?_
               refine d3 h (fun _ h=>?_) (fun _ h=>?_)
               ·exact hx2 _ _ (hj2 (decide (x0=62)) H _ I h)
               ·refine a6 pEq ?_
                refine d3 h (fun _ h=>?_) (fun _ h=>?_)
                ·exact hx2 _ _ (hj2 (decide (x0=43)) H _ I h)
                ·refine a6 pEq ?_
                 refine d3 h (fun _ h=>?_) (fun _ h=>?_)
                 ·exact hx2 _ _ (hj2 (decide (x0=45)) H _ I h)
                 ·refine a6 pEq ?_
                  refine d3 h (fun _ h=>?_) (fun _ h=>?_)
                  ·exact hx2 _ _ (hj2 (decide (x0=42)) H _ I h)
                  ·refine a6 pEq ?_
                   refine d3 h (fun _ h=>?_) (fun _ h=>?_)
                   ·exact hx2 _ _ (hj2 (decide (x0=47)) H _ I h)
                   ·refine a6 pEq ?_
                    refine d3 h (fun _ h=>?_) (fun _ h=>?_)
                    ·exact hx2 _ _ (hj2 (decide (x0=37)) H _ I h)
                    ·refine a6 pEq ?_
                     refine d3 h (fun _ h=>?_) (fun _ h=>?_)
                     ·exact hx2 _ _ (hj2 (decide (x0=38)) H _ I h)
                     ·refine a6 pEq ?_
                      exact hx2 _ _ (hj2 (decide (x0=124)) H _ I h)
 refine m7 fun j1 hx1=>?_
 refine a6 pEq ?_
 refine d3 h (fun _ h=>?_) (fun _ h=>?_)
 ·exact hx1 _ _ (hj1 (decide (x0=32)) H _ b h)
 ·refine a6 pEq ?_
  refine d3 h (fun _ h=>?_) (fun _ h=>?_)
  ·exact hx1 _ _ (hj1 (decide (x0=9)) H _ b h)
  ·refine a6 pEq ?_
   exact hx1 _ _ (hj1 (decide (x0=13)) H _ b h)
def a2Z(x0:Int)(H:Hp)(K:Bool→Hp→Prop):Prop:=
 a1K x0 H (fun a b=>
 K ((decide (a=3))||(decide (a=4))) b)
theorem a7w(x0){H K}(h:a2Z x0 H K):a2U x0 H K:=by
 refine Ct.of fun w0 w ps0 H0 R E I hR=>b9k ?_
 unfold a2Z at h
 unfold F69
 refine d7 Tryd.call70 h I ?_
 rintro _ c _ e d _ _ ⟨b,rfl,rfl,h⟩
 refine a6 pEq ?_
 simp only [q9]
 refine a6 (Pu.g fun a=>by simp only [d2 a];with_reducible exact pEq) ?_
 refine a6 (D3 _ _) ?_
 exact hR _ c _ _ d ⟨((decide (b=3))||(decide (b=4))),rfl,rfl,h⟩
def m5(o2:Bool)(H:Hp)(K:Bool→Hp→Prop):Prop:=
 (o2=true→
 K true H)∧
 (o2=false→
 K false H)
def a3R(x0:ByteArray)(H:Hp)(K:Bool→Hp→Prop):Prop:=
 (x0=⟨#[118,97,114]⟩→
 m5 (decide (x0=⟨#[118,97,114]⟩)) H K)∧
 (¬(x0=⟨#[118,97,114]⟩)→
 (x0=⟨#[97,114,114,97,121]⟩→
 m5 (decide (x0=⟨#[97,114,114,97,121]⟩)) H K)∧
 (¬(x0=⟨#[97,114,114,97,121]⟩)→
 (x0=⟨#[105,102]⟩→
 m5 (decide (x0=⟨#[105,102]⟩)) H K)∧
 (¬(x0=⟨#[105,102]⟩)→
 (x0=⟨#[101,108,115,101]⟩→
 m5 (decide (x0=⟨#[101,108,115,101]⟩)) H K)∧
 (¬(x0=⟨#[101,108,115,101]⟩)→
 (x0=⟨#[119,104,105,108,101]⟩→
 m5 (decide (x0=⟨#[119,104,105,108,101]⟩)) H K)∧
 (¬(x0=⟨#[119,104,105,108,101]⟩)→
 (x0=⟨#[97,115,115,101,114,116]⟩→
 m5 (decide (x0=⟨#[97,115,115,101,114,116]⟩)) H K)∧
 (¬(x0=⟨#[97,115,115,101,114,116]⟩)→
 (x0=⟨#[97,115,115,117,109,101]⟩→
 m5 (decide (x0=⟨#[97,115,115,117,109,101]⟩)) H K)∧
 (¬(x0=⟨#[97,115,115,117,109,101]⟩)→
 (x0=⟨#[115,107,105,112]⟩→
 m5 (decide (x0=⟨#[115,107,105,112]⟩)) H K)∧
 (¬(x0=⟨#[115,107,105,112]⟩)→
 (x0=⟨#[105,110,112,117,116]⟩→
 m5 (decide (x0=⟨#[105,110,112,117,116]⟩)) H K)∧
 (¬(x0=⟨#[105,110,112,117,116]⟩)→
 (x0=⟨#[116,114,117,101]⟩→
 m5 (decide (x0=⟨#[116,114,117,101]⟩)) H K)∧
 (¬(x0=⟨#[116,114,117,101]⟩)→
 m5 (decide (x0=⟨#[102,97,108,115,101]⟩)) H K))))))))))
theorem a8q(x0){H K}(h:a3R x0 H K):a3Q x0 H K:=by
 refine Ct.of fun w0 w ps0 H0 R E I hR=>b9j ?_
 unfold a3R at h
 unfold F68
 have hj1:∀(o2:Bool) H w (_:Inv w0 ps0 H0 H [] w) (_:m5 o2 H K),b1U (vB o2) w R E:=by
  intro o2 H w I h
  unfold b1U
  intro _
  unfold m5 at h
  refine f7 h (fun _ h=>?_) (fun _ h=>?_)
  ·exact hR _ H _ _ I ⟨true,rfl,rfl,h⟩
  ·exact hR _ H _ _ I ⟨false,rfl,rfl,h⟩
 refine m7 fun j1 hx1=>?_
 refine a6 (K6 _ _ _ _ _) ?_
 refine d3 h (fun _ h=>?_) (fun _ h=>?_)
 ·exact hx1 _ _ (hj1 (decide (x0=⟨#[118,97,114]⟩)) H _ I h)
 ·refine a6 (K6 _ _ _ _ _) ?_
  refine d3 h (fun _ h=>?_) (fun _ h=>?_)
  ·exact hx1 _ _ (hj1 (decide (x0=⟨#[97,114,114,97,121]⟩)) H _ I h)
  ·refine a6 (K6 _ _ _ _ _) ?_
   refine d3 h (fun _ h=>?_) (fun _ h=>?_)
   ·exact hx1 _ _ (hj1 (decide (x0=⟨#[105,102]⟩)) H _ I h)
   ·refine a6 (K6 _ _ _ _ _) ?_
    refine d3 h (fun _ h=>?_) (fun _ h=>?_)
    ·exact hx1 _ _ (hj1 (decide (x0=⟨#[101,108,115,101]⟩)) H _ I h)
    ·refine a6 (K6 _ _ _ _ _) ?_
     refine d3 h (fun _ h=>?_) (fun _ h=>?_)
     ·exact hx1 _ _ (hj1 (decide (x0=⟨#[119,104,105,108,101]⟩)) H _ I h)
     ·refine a6 (K6 _ _ _ _ _) ?_
      refine d3 h (fun _ h=>?_) (fun _ h=>?_)
      ·exact hx1 _ _ (hj1 (decide (x0=⟨#[97,115,115,101,114,116]⟩)) H _ I h)
      ·refine a6 (K6 _ _ _ _ _) ?_
       refine d3 h (fun _ h=>?_) (fun _ h=>?_)
       ·exact hx1 _ _ (hj1 (decide (x0=⟨#[97,115,115,117,109,101]⟩)) H _ I h)
       ·refine a6 (K6 _ _ _ _ _) ?_
        refine d3 h (fun _ h=>?_) (fun _ h=>?_)
        ·exact hx1 _ _ (hj1 (decide (x0=⟨#[115,107,105,112]⟩)) H _ I h)
        ·refine a6 (K6 _ _ _ _ _) ?_
         refine d3 h (fun _ h=>?_) (fun _ h=>?_)
         ·exact hx1 _ _ (hj1 (decide (x0=⟨#[105,110,112,117,116]⟩)) H _ I h)
         ·refine a6 (K6 _ _ _ _ _) ?_
          refine d3 h (fun _ h=>?_) (fun _ h=>?_)
          ·exact hx1 _ _ (hj1 (decide (x0=⟨#[116,114,117,101]⟩)) H _ I h)
          ·refine a6 (K6 _ _ _ _ _) ?_
           exact hx1 _ _ (hj1 (decide (x0=⟨#[102,97,108,115,101]⟩)) H _ I h)
def a3S(x0:d4)(H:Hp)(K:f8→Hp→Prop):Prop:=
 E1 x0.B3 H (fun d e=>
 t1 x0.M7 e (fun f c=>
 ∀(b:Sl)(a:Hp),Hle c a→SlH a 1 csl b [d,f]→NewS c a 72 1 b→
 A4 b a (fun g i=>
 a1g g i (fun j k=>
 K j k))))
theorem a8r(x0){H K}(h:a3S x0 H K):a1d x0 H K:=by
 refine Ct.of fun w0 w ps0 H0 R E I hR=>b8y ?_
 unfold a3S at h
 unfold F30
 refine B2 I (cs:=(f5 x0)) rfl fun z aa b ab=>?_
 refine a0l b fun ac a=>?_
 refine g8 L1 ?_
 refine g8 L2 ?_
 refine r6 (l1 Tryd.isAgg22 a rfl) ?_
 refine r6 (l1 Tryd.isAgg23 a rfl) ?_
 refine d7 Tryd.call50 h a ?_
 rintro _ _ _ ad d _ f ⟨g,rfl,rfl,h⟩
 refine ⟨(f _ a.lt1 (Inv.Y0 (Fi:=[]) a)),?_⟩
 refine d7 Tryd.call52 h d ?_
 rintro _ _ _ ae i _ _ ⟨j,rfl,rfl,h⟩
 refine a1y (e:=72) (c:=csl) (xs:=[g,j]) i (b0J _ _ _ _ _ _) rfl rfl b0q b0r (nb rfl) fun k af ag l m ah=>?_
 obtain ⟨n,o,p,q,r⟩:=Inv.freezeN m l (by decide)
 replace h:=h k n p q r
 refine d7 Tryd.call49 h o ?_
 rintro _ _ _ ai s _ _ ⟨aj,rfl,rfl,h⟩
 refine d7 Tryd.call31 h s ?_
 rintro _ t _ ak u _ _ ⟨v,y,rfl,rfl,h⟩
 exact hR _ t _ _ (u.bring 1).drop ⟨v,y,rfl,rfl,h⟩
def a3u(x0:b8)(H:Hp)(K:Int→Hp→Prop):Prop:=
 ∀(b:Sl)(a:Hp),Hle H a→SlH a 1 o0 b [(c8.B5 (D6.mk x0))]→NewS H a 91 1 b→
 a1g b a (fun c d=>
 K c.fe d)
theorem a7J(x0){H K}(h:a3u x0 H K):a3o x0 H K:=by
 refine Ct.of fun w0 w ps0 H0 R E I hR=>b8i ?_
 unfold a3u at h
 unfold F14
 refine B2 I (cs:=(c7 x0)) rfl fun p q a r=>?_
 refine b6 (lW Tryd.isAgg41 Tryd.sizeOf41 rfl a) (a6 (a8x _ _ _ _ _ _) (a6 (a5J (D6.mk x0)) ?_))
 refine a1y (e:=91) (c:=o0) (xs:=[(c8.B5 (D6.mk x0))]) a (a6J _) rfl rfl L9 O4 (nb rfl) fun d s t f g u=>?_
 obtain ⟨i,j,k,l,m⟩:=Inv.freezeN g f (by decide)
 replace h:=h d i k l m
 refine d7 Tryd.call31 h j ?_
 rintro _ n _ v b _ _ ⟨o,y,rfl,rfl,h⟩
 refine a6 (o9 _) (a6 a0D (b6 (l1 Tryd.isAgg27 b rfl) ?_))
 exact hR _ n _ _ b.drop.drop ⟨o.fe,rfl,rfl,h⟩
def a2k(x0:b8)(x1:b8)(H:Hp)(K:Bool→Hp→Prop):Prop:=
 TG ((((decide (x0.b7=x1.b7))&&(decide (x0.M8=x1.M8)))&&(decide (x0.f4=x1.f4)))=true) (g7 x0.v7 x1.v7 H) false H (fun(a:Bool)(b:Hp)=>
 K ((((decide (x0.b7=x1.b7))&&(decide (x0.M8=x1.M8)))&&(decide (x0.f4=x1.f4)))&&a) b)
theorem a6t(x0 x1){H K}(h:a2k x0 x1 H K):a0G x0 x1 H K:=by
 refine Ct.of fun w0 w ps0 H0 R E I hR=>b8M ?_
 unfold a2k at h
 unfold F44
 refine B2 I (cs:=(c7 x0)) rfl fun m n k o=>?_
 refine B2 k (cs:=(c7 x1)) rfl fun p q b r=>?_
 refine a6 T3 (b6 (l1 Tryd.isAgg3 (b.bring 1) rfl) (a6 T3 (b6 (l1 Tryd.isAgg3 b rfl) (a6 pEq ?_))))
 refine a6 (Pu.g fun a=>by with_reducible exact a1f) ?_
 refine b6 (Ld.g fun a=>by simp only [d2 a];exact (l1 Tryd.isAgg2 (b.bring 1) rfl)) ?_
 refine a6 (Pu.g fun a=>by with_reducible exact a1f) ?_
 refine b6 (Ld.g fun a=>by simp only [d2 a];exact (l1 Tryd.isAgg2 b rfl)) ?_
 refine a6 (Pu.g fun a=>by simp only [d2 a];with_reducible exact pEq) ?_
 refine a6 (m9 _ _) ?_
 refine a6 (Pu.g fun a=>by with_reducible exact a2b) ?_
 refine b6 (Ld.g fun a=>by simp only [d2 a];exact (l1 Tryd.isAgg9 (b.bring 1) rfl)) ?_
 refine a6 (Pu.g fun a=>by with_reducible exact a2b) ?_
 refine b6 (Ld.g fun a=>by simp only [d2 a];exact (l1 Tryd.isAgg9 b rfl)) ?_
 refine a6 (Pu.g fun a=>by simp only [d2 a];with_reducible exact (K6 _ _ _ _ _)) ?_
 refine a6 (m9 _ _) ?_
 refine a6 (Pu.g fun a=>by with_reducible exact I0) ?_
 refine b6 (Ld.g fun a=>by simp only [d2 a];exact (l1 Tryd.isAgg39 (b.bring 1) rfl)) ?_
 refine a6 (Pu.g fun a=>by with_reducible exact I0) ?_
 refine b6 (Ld.g fun a=>by simp only [d2 a];exact (l1 Tryd.isAgg39 b rfl)) ?_
 refine M5 [] (fun c:Bool=>(vB c)) h b (fun f h=>?_) fun c d l e i j h=>?_
 ·have a:=f
  simp only [d2 a]
  refine d7 Tryd.call43 h b ?_
  rintro _ d _ l e j i ⟨c,rfl,rfl,h⟩
  exact ⟨c,d,rfl,e,i,j,h⟩
 refine a6 (m9 _ _) ?_
 exact hR _ d _ _ e.drop.drop ⟨((((decide (x0.b7=x1.b7))&&(decide (x0.M8=x1.M8)))&&(decide (x0.f4=x1.f4)))&&c),rfl,rfl,h⟩
def o3(H:Hp)(K:Bool→Hp→Prop):Prop:=
 K true H
def o4(a2l:Sl)(a6j:Sl)(a6k:Int)(E0:Int)(H:Hp)(n2:Int→Hp→Prop)(K:Bool→Hp→Prop):Prop:=
 (E0 < a6k→
 (0:Int)≤E0∧(E0:Int) < a6j.n∧∃a:b9,EltH H a6j E0 4 (c9 a)∧
 (0:Int)≤E0∧(E0:Int) < a2l.n∧∃b:b9,EltH H a2l E0 4 (c9 b)∧
 a0H a b H (fun c d=>
 ((!c)=true→
 K false d)∧
 ((!c)=false→
 n2 (IntKind.wrap .i64 (E0+1)) d)))∧
 (¬(E0 < a6k)→
 o3 H K)
def p6(x0:Sl)(x1:Sl)(H:Hp)(K:Bool→Hp→Prop):Prop:=
 (¬((x0.n:Int)=(x1.n:Int))→
 K false H)∧
 ((x0.n:Int)=(x1.n:Int)→
 TL (0:Int) H fun(s:Int) H n2=>o4 x1 x0 (x0.n:Int) s H n2 K)
theorem G3(x0 x1){H K}(h:p6 x0 x1 H K):i7 x0 x1 H K:=by
 refine Ct.of fun w0 w ps0 H0 R E I hR=>b8N ?_
 unfold p6 at h
 unfold F45
 refine a6 (K2 _ _ _) (a6 (K2 _ _ _) (a6 pNe ?_))
 refine a0m h (fun _ h=>?_) (fun _ h=>?_)
 ·exact hR _ H _ _ I ⟨false,rfl,rfl,h⟩
 ·have hj1:∀H w (_:Inv w0 ps0 H0 H [] w) (_:o3 H K),b1C w R E:=by
   intro H w I h
   unfold b1C
   intro _
   unfold o3 at h
   exact hR _ H _ _ I ⟨true,rfl,rfl,h⟩
  refine m7 fun j1 hx1=>?_
  refine a6 (K2 _ _ _) ?_
  refine y6 (σ:=Int) (fun E0=>[(vi E0)]) (fun E0=>[]) h rfl I ?_
  rintro E0 H s w next2 n2 d I h hn2
  simp only [List.map_cons,List.map_nil,List.cons.injEq,and_true] at d
  have e17:=d
  simp only [e17]
  unfold b4Y
  unfold o4 at h
  refine a6 pLs ?_
  refine d3 h (fun _ h=>?_) (fun _ h=>?_)
  ·obtain ⟨j,k,e,a,h⟩:=h
   obtain ⟨t,u,l,a⟩:=a
   refine a6 (Y2 l _ _ _ _ j k) (b6 (ldA (vs:=(c9 e)) Tryd.isAgg77 Tryd.sizeOf77 rfl (I.atH a)) ?_)
   refine u4 I Tryd.zeroValue77 (cs:=[(vi 0),(vi 0),(nS),(nS)]) rfl fun v y m z=>?_
   refine D5 m Tryd.sizeOf77 (vs:=(c9 e)) fun aa f ab=>?_
   obtain ⟨n,o,g,b,h⟩:=h
   obtain ⟨ac,ad,p,b⟩:=b
   refine a6 (Y2 p _ _ _ _ n o) (b6 (ldA (vs:=(c9 g)) Tryd.isAgg77 Tryd.sizeOf77 rfl (f.atH b)) ?_)
   refine u4 f Tryd.zeroValue77 (cs:=[(vi 0),(vi 0),(nS),(nS)]) rfl fun ae af q ag=>?_
   refine D5 q Tryd.sizeOf77 (vs:=(c9 g)) fun ah c ai=>?_
   refine b6 (lW Tryd.isAgg77 Tryd.sizeOf77 rfl (c.bring 1)) (b6 (lW Tryd.isAgg77 Tryd.sizeOf77 rfl c) ?_)
   refine d7 Tryd.call46 h c ?_
   rintro _ r _ aj i _ _ ⟨ak,rfl,rfl,h⟩
   refine a6 (G1 _) ?_
   refine f7 h (fun _ h=>?_) (fun _ h=>?_)
   ·exact hR _ r _ _ i.drop.drop ⟨false,rfl,rfl,h⟩
   ·refine a6 pAd ?_
    exact hn2 (IntKind.wrap .i64 (E0+1)) _ _ h i.drop.drop
  ·exact hx1 _ _ (hj1 H _ I h)
def a1j(H:Hp)(K:Bool→Hp→Prop):Prop:=
 O9 H (fun k l=>
 a2V k l (fun a b m=>
 O9 m (fun n o=>
 a2W n o (fun c d f=>
 TG (((((decide (b=0))&&(decide (d=0)))&&(decide (a=3)))&&(decide (c=5)))=true) (a3o (b8.mk 1 (-1) ⟨#[]⟩ (Sl.mk none 0 0)) f) 0 f (fun(e:Int)(g:Hp)=>
 TG ((((((decide (b=0))&&(decide (d=0)))&&(decide (a=3)))&&(decide (c=5)))&&(decide (e=30)))=true) (O9 g) (d4.mk (Sl.mk none 0 0) (Sl.mk none 0 0)) g (fun(p:d4)(i:Hp)=>
 TG ((((((decide (b=0))&&(decide (d=0)))&&(decide (a=3)))&&(decide (c=5)))&&(decide (e=30)))=true) (O9 i) (d4.mk (Sl.mk none 0 0) (Sl.mk none 0 0)) i (fun(q:d4)(j:Hp)=>
 TG ((((((decide (b=0))&&(decide (d=0)))&&(decide (a=3)))&&(decide (c=5)))&&(decide (e=30)))=true) (a2X p q j) false j (fun(r:Bool)(s:Hp)=>
 K ((((((decide (b=0))&&(decide (d=0)))&&(decide (a=3)))&&(decide (c=5)))&&(decide (e=30)))&&r) s))))))))
theorem a5q{H K}(h:a1j H K):a3g H K:=by
 refine Ct.of fun w0 w ps0 H0 R E I hR=>b9R ?_
 unfold a1j at h
 unfold F4
 refine d7 Tryd.call12 h I ?_
 rintro _ _ _ ap ai _ _ ⟨aq,rfl,rfl,h⟩
 refine d7 Tryd.call11 h ai ?_
 rintro _ _ _ ar aj _ _ ⟨m,n,rfl,rfl,h⟩
 refine a6 (B8 _ _ (vi m) rfl) (a6 (B8 _ _ (vi n) rfl) ?_)
 refine d7 Tryd.call12 h aj ?_
 rintro _ _ _ au ak _ _ ⟨av,rfl,rfl,h⟩
 refine d7 Tryd.call13 h ak ?_
 rintro _ _ _ aw o _ _ ⟨p,q,rfl,rfl,h⟩
 refine a6 (B8 _ _ (vi p) rfl) (a6 (B8 _ _ (vi q) rfl) (a6 pEq ?_))
 simp only [q9]
 refine a6 (Pu.g fun a=>by simp only [d2 a];with_reducible exact pEq) ?_
 refine a6 (m9 _ _) ?_
 simp only [q9]
 refine a6 (Pu.g fun a=>by simp only [d2 a];with_reducible exact pEq) ?_
 refine a6 (m9 _ _) ?_
 simp only [q9]
 refine a6 (Pu.g fun a=>by simp only [d2 a];with_reducible exact pEq) ?_
 refine a6 (m9 _ _) ?_
 refine a6 (Pu.g fun a=>by with_reducible exact (b0f _ _)) ?_
 refine M5 [] (fun b:Int=>(vi b)) h o (fun r h=>?_) fun b s al d t u h=>?_
 ·have a:=r
  simp only [d2 a]
  refine d7 Tryd.call14 h o ?_
  rintro _ s _ al d u t ⟨b,rfl,rfl,h⟩
  exact ⟨b,s,rfl,d,t,u,h⟩
 refine a6 (Pu.g fun a=>by simp only [d2 a];with_reducible exact pEq) ?_
 refine a6 (m9 _ _) ?_
 refine M5 [] (fun e:d4=>(Value.agg (f5 e).toArray)) h d (fun v h=>?_) fun e y am f z aa h=>?_
 ·have a:=v
  refine d7 Tryd.call12 h d ?_
  rintro _ y _ am f aa z ⟨e,rfl,rfl,h⟩
  exact ⟨e,y,rfl,f,z,aa,h⟩
 refine M5 [] (fun i:d4=>(Value.agg (f5 i).toArray)) h f (fun ab h=>?_) fun i ac an j ad ae h=>?_
 ·have a:=ab
  refine d7 Tryd.call12 h f ?_
  rintro _ ac _ an j ae ad ⟨i,rfl,rfl,h⟩
  exact ⟨i,ac,rfl,j,ad,ae,h⟩
 refine M5 [] (fun c:Bool=>(vB c)) h j (fun af h=>?_) fun c k ao l ag ah h=>?_
 ·have a:=af
  simp only [d2 a]
  refine d7 Tryd.call8 h j ?_
  rintro _ k _ ao l ah ag ⟨c,rfl,rfl,h⟩
  exact ⟨c,k,rfl,l,ag,ah,h⟩
 refine a6 (m9 _ _) ?_
 exact hR _ k _ _ l ⟨((((((decide (n=0))&&(decide (q=0)))&&(decide (m=3)))&&(decide (p=5)))&&(decide (b=30)))&&c),rfl,rfl,h⟩
def a2m(x0:b8)(H:Hp)(K:b8→Hp→Prop):Prop:=
 r8 x0.v7 H (fun a b=>
 K (b8.mk x0.b7 x0.M8 x0.f4 a) b)
theorem a6u(x0){H K}(h:a2m x0 H K):a2h x0 H K:=by
 refine Ct.of fun w0 w ps0 H0 R E I hR=>b8B ?_
 unfold a2m at h
 unfold F33
 refine B2 I (cs:=(c7 x0)) rfl fun i j e k=>?_
 refine u4 e Tryd.zeroValue41 (cs:=[(vi 0),(vi 0),(eS),(nS)]) rfl fun l m b n=>?_
 refine a6 I0 (b6 (l1 Tryd.isAgg39 (b.bring 1) rfl) ?_)
 refine d7 Tryd.call32 h b ?_
 rintro _ f _ p g _ _ ⟨a,rfl,rfl,h⟩
 refine a6 I0 ?_
 refine N2 (g.bring 1) Tryd.sizeOf39 fun q c r=>?_
 refine b6 (ldA Tryd.isAgg41 Tryd.sizeOf41 rfl (c.at1 (o:=0) (vs:=[(vi x0.b7),(vi x0.M8),(Value.string x0.f4),(vs a)]) (nb rfl) rfl)) ?_
 refine D5 (c.bring 1) Tryd.sizeOf41 (vs:=[(vi x0.b7),(vi x0.M8),(Value.string x0.f4),(vs a)]) fun s d t=>?_
 refine a2T Tryd.isAgg41 Tryd.sizeOf41 rfl d ?_
 exact hR _ f _ _ d.drop.drop ⟨(b8.mk x0.b7 x0.M8 x0.f4 a),rfl,rfl,h⟩
def V3(a:c6)(a5K:Int)(S5:a7)(H:Hp)(n5:(Int×a7)→Hp→Prop)(K:a7→Hp→Prop):Prop:=
 (((decide (a5K < (a.A8.n:Int)))&&S5.fok)=true→
 (0:Int)≤a5K∧(a5K:Int) < a.A8.n∧∃b:c6,EltH H a.A8 a5K 6 (c5 b)∧
 N6 S5 b H (fun c d=>
 n5 ((IntKind.wrap .i64 (a5K+1)),c) d))∧
 (((decide (a5K < (a.A8.n:Int)))&&S5.fok)=false→
 K S5 H)
def P3(a3Z:a7)(a:c6)(H:Hp)(K:a7→Hp→Prop):Prop:=
 TL ((0,a3Z):Int×a7) H fun(s:Int×a7) H n5=>V3 a s.1 s.2 H n5 K
def V4(a:c6)(a5L:Int)(a1k:a7)(H:Hp)(n6:(Int×a7)→Hp→Prop)(K:a7→Hp→Prop):Prop:=
 (((decide (a5L < (a.B1.n:Int)))&&a1k.fok)=true→
 (0:Int)≤a5L∧(a5L:Int) < a.B1.n∧∃b:c6,EltH H a.B1 a5L 6 (c5 b)∧
 N6 a1k b H (fun c d=>
 n6 ((IntKind.wrap .i64 (a5L+1)),c) d))∧
 (((decide (a5L < (a.B1.n:Int)))&&a1k.fok)=false→
 P3 a1k a H K)
def P4(a0J:a7)(a:c6)(H:Hp)(K:a7→Hp→Prop):Prop:=
 TL ((0,a0J):Int×a7) H fun(s:Int×a7) H n6=>V4 a s.1 s.2 H n6 K
def V5(a:c6)(Z2:Int)(a1l:a7)(H:Hp)(n7:(Int×a7)→Hp→Prop)(K:a7→Hp→Prop):Prop:=
 (((decide (Z2 < (a.d5.n:Int)))&&a1l.fok)=true→
 (0:Int)≤Z2∧(Z2:Int) < a.d5.n∧∃b:b8,EltH H a.d5 Z2 4 (c7 b)∧
 N5 a1l b H (fun c d=>
 n7 ((IntKind.wrap .i64 (Z2+1)),c) d))∧
 (((decide (Z2 < (a.d5.n:Int)))&&a1l.fok)=false→
 P4 a1l a H K)
def P5(a3j:a7)(a:c6)(H:Hp)(K:a7→Hp→Prop):Prop:=
 TL ((0,a3j):Int×a7) H fun(s:Int×a7) H n7=>V5 a s.1 s.2 H n7 K
def V6(a:c6)(Z3:Int)(a5r:a7)(H:Hp)(n8:(Int×a7)→Hp→Prop)(K:a7→Hp→Prop):Prop:=
 (((decide (Z3 < (a.m8.n:Int)))&&a5r.fok)=true→
 (0:Int)≤Z3∧(Z3:Int) < a.m8.n∧∃b:b9,EltH H a.m8 Z3 4 (c9 b)∧
 S6 a5r b H (fun c d=>
 n8 ((IntKind.wrap .i64 (Z3+1)),c) d))∧
 (((decide (Z3 < (a.m8.n:Int)))&&a5r.fok)=false→
 P5 a5r a H K)
def t8(o2:Int)(a1i:Int)(a:c6)(O7:a7)(H:Hp)(K:a7→Hp→Prop):Prop:=
 N4 O7 a.f4 ((decide (a.b7=1))||(decide (a.b7=2))) H (fun b c=>
 TL ((0,(a7.mk ((((b.fok&&(decide ((a.d5.n:Int)=o2)))&&(decide ((a.m8.n:Int)=a1i)))&&(((decide ((a.B1.n:Int)=0))||(decide (a.b7=3)))||(decide (a.b7=4))))&&((decide ((a.A8.n:Int)=0))||(decide (a.b7=3)))) b.fnames)):Int×a7) c fun(s:Int×a7) H n8=>V6 a s.1 s.2 H n8 K)
def A5(b5V:Int)(b9B:Int)(b6I:Int)(a7Y:Bool)(a:c6)(b3A:a7)(H:Hp)(K:a7→Hp→Prop):Prop:=
 (a7Y=true→
 t8 b5V 1 a b3A H K)∧
 (a7Y=false→
 (b6I=7→
 t8 b5V b9B a b3A H K)∧
 (¬(b6I=7)→
 t8 b5V b9B a (a7.mk false b3A.fnames) H K))
def Z4(x0:a7)(x1:c6)(H:Hp)(K:a7→Hp→Prop):Prop:=
 (x1.b7=1→
 t8 1 0 x1 x0 H K)∧
 (¬(x1.b7=1)→
 (x1.b7=2→
 t8 2 0 x1 x0 H K)∧
 (¬(x1.b7=2)→
 (x1.b7=3→
 A5 0 0 x1.b7 (decide (x1.b7=3)) x1 x0 H K)∧
 (¬(x1.b7=3)→
 (x1.b7=4→
 A5 0 0 x1.b7 (decide (x1.b7=4)) x1 x0 H K)∧
 (¬(x1.b7=4)→
 (x1.b7=5→
 A5 0 0 x1.b7 (decide (x1.b7=5)) x1 x0 H K)∧
 (¬(x1.b7=5)→
 A5 0 0 x1.b7 (decide (x1.b7=6)) x1 x0 H K)))))
theorem a4y(x0 x1){H K}(h:Z4 x0 x1 H K):N6 x0 x1 H K:=by
 intro g0
 refine Ct.of fun w0 w ps0 H0 R E I hR=>b8p ?_
 unfold Z4 at h
 unfold F21
 refine B2 I (cs:=(c5 x1)) rfl fun d au f av=>?_
 have hj1:∀(o2:Int)(a1i:Int)(O7:a7) H w (_:Inv w0 ps0 H0 H [bx d 49 (c5 x1),bx g0 55 (f9 O7)] w) (_:t8 o2 a1i x1 O7 H K),b0V (Value.pointer (some ⟨g0,0,none⟩)) (Value.pointer (some ⟨d,0,none⟩)) (vi o2) (vi a1i) w R E:=by
  intro o2 a1i O7 H w I h
  unfold b0V
  intro _
  unfold t8 at h
  refine a6 a0C (b6 (l1 Tryd.isAgg9 I rfl) (a6 S4 (b6 (l1 Tryd.isAgg3 I rfl) (a6 pEq ?_))))
  refine a6 (Pu.g fun a=>by with_reducible exact S4) ?_
  refine b6 (Ld.g fun a=>by simp only [d2 a];exact (l1 Tryd.isAgg3 I rfl)) ?_
  refine a6 (Pu.g fun a=>by simp only [d2 a];with_reducible exact pEq) ?_
  refine a6 (D3 _ _) ?_
  refine d7 Tryd.call20 (h g0) (I.bring 1) ?_
  rintro _ aw _ ax c _ _ ⟨ay,rfl,rfl,h⟩
  refine a6 (o9 _) (a6 D7 (b6 (l1 Tryd.isAgg4 c rfl) ?_))
  refine a6 (Pu.g fun a=>by with_reducible exact D8) ?_
  refine b6 (Ld.g fun a=>by simp only [d2 a];exact (l1 Tryd.isAgg39 (c.bring 1) rfl)) ?_
  refine a6 (Pu.g fun a=>by simp only [d2 a];with_reducible exact (B0 _ _ _)) ?_
  simp only [q9]
  refine a6 (Pu.g fun a=>by simp only [d2 a];with_reducible exact pEq) ?_
  refine a6 (m9 _ _) ?_
  refine a6 (Pu.g fun a=>by with_reducible exact G7) ?_
  refine b6 (Ld.g fun a=>by simp only [d2 a];exact (l1 Tryd.isAgg47 (c.bring 1) rfl)) ?_
  refine a6 (Pu.g fun a=>by simp only [d2 a];with_reducible exact (K2 _ _ _)) ?_
  simp only [q9]
  refine a6 (Pu.g fun a=>by simp only [d2 a];with_reducible exact pEq) ?_
  refine a6 (m9 _ _) ?_
  refine a6 (Pu.g fun a=>by with_reducible exact P2) ?_
  refine b6 (Ld.g fun a=>by simp only [d2 a];exact (l1 Tryd.isAgg23 (c.bring 1) rfl)) ?_
  refine a6 (Pu.g fun a=>by simp only [d2 a];with_reducible exact (J6 _ _ _)) ?_
  refine a6 (Pu.g fun a=>by simp only [d2 a];with_reducible exact pEq) ?_
  simp only [q9,a3C]
  refine a6 (Pu.e (a0R _ _ _) (Pu.g fun hb=>by obtain ⟨a,b⟩:=a1Z hb;with_reducible exact S4)) ?_
  refine b6 (Ld.e (a0R _ _ _) (Ld.g fun hb=>by obtain ⟨a,b⟩:=a1Z hb;simp only [d2 hb];exact (l1 Tryd.isAgg3 (c.bring 1) rfl))) ?_
  refine a6 (Pu.e (a0R _ _ _) (Pu.g fun hb=>by obtain ⟨a,b⟩:=a1Z hb;simp only [d2 hb];with_reducible exact pEq)) ?_
  refine a6 (Pu.g fun a=>by simp only [d2 a,a7D a];with_reducible exact (D3 _ _)) ?_
  simp only [a3C]
  refine a6 (Pu.e (a0R _ _ _) (Pu.g fun hb=>by obtain ⟨a,b⟩:=a1Z hb;with_reducible exact S4)) ?_
  refine b6 (Ld.e (a0R _ _ _) (Ld.g fun hb=>by obtain ⟨a,b⟩:=a1Z hb;simp only [d2 hb];exact (l1 Tryd.isAgg3 (c.bring 1) rfl))) ?_
  refine a6 (Pu.e (a0R _ _ _) (Pu.g fun hb=>by obtain ⟨a,b⟩:=a1Z hb;simp only [d2 hb];with_reducible exact pEq)) ?_
  refine a6 (Pu.g fun a=>by simp only [d2 a,a7D a];with_reducible exact (D3 _ _)) ?_
  refine a6 (m9 _ _) ?_
  refine a6 (Pu.g fun a=>by with_reducible exact O0) ?_
  refine b6 (Ld.g fun a=>by simp only [d2 a];exact (l1 Tryd.isAgg23 (c.bring 1) rfl)) ?_
  refine a6 (Pu.g fun a=>by simp only [d2 a];with_reducible exact (J6 _ _ _)) ?_
  refine a6 (Pu.g fun a=>by simp only [d2 a];with_reducible exact pEq) ?_
  simp only [q9,a3C]
  refine a6 (Pu.e (a0R _ _ _) (Pu.g fun hb=>by obtain ⟨a,b⟩:=a1Z hb;with_reducible exact S4)) ?_
  refine b6 (Ld.e (a0R _ _ _) (Ld.g fun hb=>by obtain ⟨a,b⟩:=a1Z hb;simp only [d2 hb];exact (l1 Tryd.isAgg3 (c.bring 1) rfl))) ?_
  refine a6 (Pu.e (a0R _ _ _) (Pu.g fun hb=>by obtain ⟨a,b⟩:=a1Z hb;simp only [d2 hb];with_reducible exact pEq)) ?_
  refine a6 (Pu.g fun a=>by simp only [d2 a,a7D a];with_reducible exact (D3 _ _)) ?_
  refine a6 (m9 _ _) (a6 (o9 _) (a6 D7 ?_))
  refine N2 c Tryd.sizeOf4 fun az q ba=>?_
  have hj2:∀(a3j:a7) H w (_:Inv w0 ps0 H0 H [bx g0 55 (f9 a3j),bx d 49 (c5 x1)] w) (_:P5 a3j x1 H K),b0U (Value.pointer (some ⟨g0,0,none⟩)) (Value.pointer (some ⟨d,0,none⟩)) w R E:=by
   intro a3j H w I h
   unfold b0U
   intro _
   unfold P5 at h
   have hj3:∀(a0J:a7) H w (_:Inv w0 ps0 H0 H [bx g0 55 (f9 a0J),bx d 49 (c5 x1)] w) (_:P4 a0J x1 H K),b0T (Value.pointer (some ⟨g0,0,none⟩)) (Value.pointer (some ⟨d,0,none⟩)) w R E:=by
    intro a0J H w I h
    unfold b0T
    intro _
    unfold P4 at h
    have hj4:∀(a3Z:a7) H w (_:Inv w0 ps0 H0 H [bx g0 55 (f9 a3Z),bx d 49 (c5 x1)] w) (_:P3 a3Z x1 H K),b0S (Value.pointer (some ⟨g0,0,none⟩)) (Value.pointer (some ⟨d,0,none⟩)) w R E:=by
     intro a3Z H w I h
     unfold b0S
     intro _
     unfold P3 at h
     refine y6 (σ:=Int×a7) (fun (a5K,S5)=>[(vi a5K)]) (fun (a5K,S5)=>[bx g0 55 (f9 S5),bx d 49 (c5 x1)]) h rfl ((I.bring 1).bring 1) ?_
     rintro ⟨a5K,S5⟩ H bb w next5 n5 i I h hn5
     dsimp only at i I h
     simp only [List.map_cons,List.map_nil,List.cons.injEq,and_true] at i
     have e9:=i
     simp only [e9]
     unfold b4y
     unfold V3 at h
     refine a6 O0 (b6 (l1 Tryd.isAgg23 (I.bring 1) rfl) (a6 (J6 _ _ _) (a6 pLs ?_)))
     simp only [q9]
     refine a6 (Pu.g fun a=>by simp only [d2 a];with_reducible exact (o9 _)) ?_
     refine a6 (Pu.g fun a=>by simp only [d2 a];with_reducible exact D7) ?_
     refine b6 (Ld.g fun a=>by simp only [d2 a];exact (l1 Tryd.isAgg4 I rfl)) ?_
     refine a6 (m9 _ _) ?_
     refine f7 h (fun _ h=>?_) (fun _ h=>?_)
     ·refine a6 O0 (b6 (l1 Tryd.isAgg23 (I.bring 1) rfl) ?_)
      obtain ⟨r,s,t,j,h⟩:=h
      obtain ⟨bc,bd,u,j⟩:=j
      refine a6 (J4 u _ _ _ _ r s) (b6 (ldA (vs:=(c5 t)) Tryd.isAgg49 Tryd.sizeOf49 rfl (I.atH j)) ?_)
      refine d7 Tryd.call21 (h g0) I ?_
      rintro _ _ _ be v _ _ ⟨y,rfl,rfl,h⟩
      refine a6 pAd ?_
      exact hn5 ((IntKind.wrap .i64 (a5K+1)),y) _ _ h ((v.bring 1).bring 1)
     ·exact hR _ H _ _ (I.bring 1).drop ⟨S5,rfl,rfl,h⟩
    refine m7 fun j4 hx4=>?_
    refine y6 (σ:=Int×a7) (fun (a5L,a1k)=>[(vi a5L)]) (fun (a5L,a1k)=>[bx g0 55 (f9 a1k),bx d 49 (c5 x1)]) h rfl ((I.bring 1).bring 1) ?_
    rintro ⟨a5L,a1k⟩ H bf w next6 n6 k I h hn6
    dsimp only at k I h
    simp only [List.map_cons,List.map_nil,List.cons.injEq,and_true] at k
    have e8:=k
    simp only [e8]
    unfold b4z
    unfold V4 at h
    refine a6 P2 (b6 (l1 Tryd.isAgg23 (I.bring 1) rfl) (a6 (J6 _ _ _) (a6 pLs ?_)))
    simp only [q9]
    refine a6 (Pu.g fun a=>by simp only [d2 a];with_reducible exact (o9 _)) ?_
    refine a6 (Pu.g fun a=>by simp only [d2 a];with_reducible exact D7) ?_
    refine b6 (Ld.g fun a=>by simp only [d2 a];exact (l1 Tryd.isAgg4 I rfl)) ?_
    refine a6 (m9 _ _) ?_
    refine f7 h (fun _ h=>?_) (fun _ h=>?_)
    ·refine a6 P2 (b6 (l1 Tryd.isAgg23 (I.bring 1) rfl) ?_)
     obtain ⟨z,aa,ab,l,h⟩:=h
     obtain ⟨bg,bh,ac,l⟩:=l
     refine a6 (J4 ac _ _ _ _ z aa) (b6 (ldA (vs:=(c5 ab)) Tryd.isAgg49 Tryd.sizeOf49 rfl (I.atH l)) ?_)
     refine d7 Tryd.call21 (h g0) I ?_
     rintro _ _ _ bi ad _ _ ⟨ae,rfl,rfl,h⟩
     refine a6 pAd ?_
     exact hn6 ((IntKind.wrap .i64 (a5L+1)),ae) _ _ h ((ad.bring 1).bring 1)
    ·exact hx4 _ _ (hj4 a1k H _ ((I.bring 1).bring 1) h)
   refine m7 fun j3 hx3=>?_
   refine y6 (σ:=Int×a7) (fun (Z2,a1l)=>[(vi Z2)]) (fun (Z2,a1l)=>[bx g0 55 (f9 a1l),bx d 49 (c5 x1)]) h rfl ((I.bring 1).bring 1) ?_
   rintro ⟨Z2,a1l⟩ H bj w next7 n7 m I h hn7
   dsimp only at m I h
   simp only [List.map_cons,List.map_nil,List.cons.injEq,and_true] at m
   have e7:=m
   simp only [e7]
   unfold b4A
   unfold V5 at h
   refine a6 D8 (b6 (l1 Tryd.isAgg39 (I.bring 1) rfl) (a6 (B0 _ _ _) (a6 pLs ?_)))
   simp only [q9]
   refine a6 (Pu.g fun a=>by simp only [d2 a];with_reducible exact (o9 _)) ?_
   refine a6 (Pu.g fun a=>by simp only [d2 a];with_reducible exact D7) ?_
   refine b6 (Ld.g fun a=>by simp only [d2 a];exact (l1 Tryd.isAgg4 I rfl)) ?_
   refine a6 (m9 _ _) ?_
   refine f7 h (fun _ h=>?_) (fun _ h=>?_)
   ·refine a6 D8 (b6 (l1 Tryd.isAgg39 (I.bring 1) rfl) ?_)
    obtain ⟨af,ag,ah,n,h⟩:=h
    obtain ⟨bk,bl,ai,n⟩:=n
    refine a6 (O3 ai _ _ _ _ af ag) (b6 (ldA (vs:=(c7 ah)) Tryd.isAgg41 Tryd.sizeOf41 rfl (I.atH n)) ?_)
    refine d7 Tryd.call40 (h g0) I ?_
    rintro _ _ _ bm aj _ _ ⟨ak,rfl,rfl,h⟩
    refine a6 pAd ?_
    exact hn7 ((IntKind.wrap .i64 (Z2+1)),ak) _ _ h ((aj.bring 1).bring 1)
   ·exact hx3 _ _ (hj3 a1l H _ ((I.bring 1).bring 1) h)
  refine m7 fun j2 hx2=>?_
  refine y6 (σ:=Int×a7) (fun (Z3,a5r)=>[(vi Z3)]) (fun (Z3,a5r)=>[bx g0 55 (f9 a5r),bx d 49 (c5 x1)]) h rfl ((q.bring 1).bring 1) ?_
  rintro ⟨Z3,a5r⟩ H bn w next8 n8 o I h hn8
  dsimp only at o I h
  simp only [List.map_cons,List.map_nil,List.cons.injEq,and_true] at o
  have e6:=o
  simp only [e6]
  unfold b4B
  unfold V6 at h
  refine a6 G7 (b6 (l1 Tryd.isAgg47 (I.bring 1) rfl) (a6 (K2 _ _ _) (a6 pLs ?_)))
  simp only [q9]
  refine a6 (Pu.g fun a=>by simp only [d2 a];with_reducible exact (o9 _)) ?_
  refine a6 (Pu.g fun a=>by simp only [d2 a];with_reducible exact D7) ?_
  refine b6 (Ld.g fun a=>by simp only [d2 a];exact (l1 Tryd.isAgg4 I rfl)) ?_
  refine a6 (m9 _ _) ?_
  refine f7 h (fun _ h=>?_) (fun _ h=>?_)
  ·refine a6 G7 (b6 (l1 Tryd.isAgg47 (I.bring 1) rfl) ?_)
   obtain ⟨al,am,an,p,h⟩:=h
   obtain ⟨bo,bp,ao,p⟩:=p
   refine a6 (Y2 ao _ _ _ _ al am) (b6 (ldA (vs:=(c9 an)) Tryd.isAgg77 Tryd.sizeOf77 rfl (I.atH p)) ?_)
   refine d7 Tryd.call39 (h g0) I ?_
   rintro _ _ _ bq ap _ _ ⟨aq,rfl,rfl,h⟩
   refine a6 pAd ?_
   exact hn8 ((IntKind.wrap .i64 (Z3+1)),aq) _ _ h ((ap.bring 1).bring 1)
  ·exact hx2 _ _ (hj2 a5r H _ ((I.bring 1).bring 1) h)
 refine m7 fun j1 hx1=>?_
 refine a6 S4 (b6 (l1 Tryd.isAgg3 f rfl) (a6 pEq ?_))
 refine d3 h (fun _ h=>?_) (fun _ h=>?_)
 ·exact hx1 _ _ (hj1 1 0 x0 H _ ((f.bring 1).bring 1) h)
 ·refine a6 pEq ?_
  refine d3 h (fun _ h=>?_) (fun _ h=>?_)
  ·exact hx1 _ _ (hj1 2 0 x0 H _ ((f.bring 1).bring 1) h)
  ·have hj9:∀(a7Y:Bool) H w (_:Inv w0 ps0 H0 H [bx d 49 (c5 x1),bx g0 55 (f9 x0)] w) (_:A5 0 0 x1.b7 a7Y x1 x0 H K),b0W (Value.pointer (some ⟨g0,0,none⟩)) (Value.pointer (some ⟨d,0,none⟩)) (vi 0) (vi 0) (vi x1.b7) (vB a7Y) w j1 R E:=by
    intro a7Y H w I h
    unfold b0W
    intro _
    unfold A5 at h
    refine f7 h (fun _ h=>?_) (fun _ h=>?_)
    ·exact hx1 _ _ (hj1 0 1 x0 H _ ((I.bring 1).bring 1) h)
    ·refine a6 pEq ?_
     refine d3 h (fun _ h=>?_) (fun _ h=>?_)
     ·exact hx1 _ _ (hj1 0 0 x0 H _ ((I.bring 1).bring 1) h)
     ·refine a6 (o9 _) (a6 D7 ?_)
      refine N2 (I.bring 1) Tryd.sizeOf4 fun br ar bs=>?_
      exact hx1 _ _ (hj1 0 0 (a7.mk false x0.fnames) H _ (ar.bring 1) h)
   refine m7 fun j9 hx9=>?_
   refine a6 pEq ?_
   refine d3 h (fun _ h=>?_) (fun _ h=>?_)
   ·exact hx9 _ _ (hj9 (decide (x1.b7=3)) H _ ((f.bring 1).bring 1) h)
   ·refine a6 pEq ?_
    refine d3 h (fun _ h=>?_) (fun _ h=>?_)
    ·exact hx9 _ _ (hj9 (decide (x1.b7=4)) H _ ((f.bring 1).bring 1) h)
    ·refine a6 pEq ?_
     refine d3 h (fun _ h=>?_) (fun _ h=>?_)
     ·exact hx9 _ _ (hj9 (decide (x1.b7=5)) H _ ((f.bring 1).bring 1) h)
     ·refine a6 pEq ?_
      exact hx9 _ _ (hj9 (decide (x1.b7=6)) H _ ((f.bring 1).bring 1) h)
def a1Q(x0:d4)(H:Hp)(K:Bool→Hp→Prop):Prop:=
 U9 x0 H (fun a b=>
 K (decide (a.fbad=0)) b)
theorem a6a(x0){H K}(h:a1Q x0 H K):a0j x0 H K:=by
 refine Ct.of fun w0 w ps0 H0 R E I hR=>b8r ?_
 unfold a1Q at h
 unfold F23
 refine B2 I (cs:=(f5 x0)) rfl fun e f a g=>?_
 refine b6 (lW Tryd.isAgg25 Tryd.sizeOf25 rfl a) ?_
 refine d7 Tryd.call19 h a ?_
 rintro _ b _ i c _ _ ⟨d,rfl,rfl,h⟩
 refine a6 b2L (a6 pEq ?_)
 exact hR _ b _ _ c.drop ⟨(decide (d.fbad=0)),rfl,rfl,h⟩
def R1(a:b8)(b:b8)(H:Hp)(K:Bool→Hp→Prop):Prop:=
 K true H
def X5(b:b8)(a:b8)(C5:Int)(H:Hp)(n2:Int→Hp→Prop)(K:Bool→Hp→Prop):Prop:=
 (C5 < (a.v7.n:Int)→
 (0:Int)≤C5∧(C5:Int) < a.v7.n∧∃c:b8,EltH H a.v7 C5 4 (c7 c)∧
 (0:Int)≤C5∧(C5:Int) < b.v7.n∧∃d:b8,EltH H b.v7 C5 4 (c7 d)∧
 O5 c d H (fun e f=>
 ((!e)=true→
 K false f)∧
 ((!e)=false→
 n2 (IntKind.wrap .i64 (C5+1)) f)))∧
 (¬(C5 < (a.v7.n:Int))→
 R1 b a H K)
def a0r(x0:b8)(x1:b8)(H:Hp)(K:Bool→Hp→Prop):Prop:=
 (((((!decide (x0.b7=x1.b7))||(!decide (x0.M8=x1.M8)))||(!decide (x0.f4=x1.f4)))||(!decide ((x0.v7.n:Int)=(x1.v7.n:Int))))=true→
 K false H)∧
 (((((!decide (x0.b7=x1.b7))||(!decide (x0.M8=x1.M8)))||(!decide (x0.f4=x1.f4)))||(!decide ((x0.v7.n:Int)=(x1.v7.n:Int))))=false→
 TL (0:Int) H fun(s:Int) H n2=>X5 x1 x0 s H n2 K)
theorem a4J(x0 x1){H K}(h:a0r x0 x1 H K):O5 x0 x1 H K:=by
 refine Ct.of fun w0 w ps0 H0 R E I hR=>b8K ?_
 unfold a0r at h
 unfold F42
 refine B2 I (cs:=(c7 x0)) rfl fun f v l y=>?_
 refine B2 l (cs:=(c7 x1)) rfl fun i z b aa=>?_
 refine a6 T3 (b6 (l1 Tryd.isAgg3 (b.bring 1) rfl) (a6 T3 (b6 (l1 Tryd.isAgg3 b rfl) (a6 pNe ?_))))
 refine a6 (Pu.g fun a=>by with_reducible exact a1f) ?_
 refine b6 (Ld.g fun a=>by simp only [d2 a];exact (l1 Tryd.isAgg2 (b.bring 1) rfl)) ?_
 refine a6 (Pu.g fun a=>by with_reducible exact a1f) ?_
 refine b6 (Ld.g fun a=>by simp only [d2 a];exact (l1 Tryd.isAgg2 b rfl)) ?_
 refine a6 (Pu.g fun a=>by simp only [d2 a];with_reducible exact pNe) ?_
 refine a6 (D3 _ _) ?_
 refine a6 (Pu.g fun a=>by with_reducible exact a2b) ?_
 refine b6 (Ld.g fun a=>by simp only [d2 a];exact (l1 Tryd.isAgg9 (b.bring 1) rfl)) ?_
 refine a6 (Pu.g fun a=>by with_reducible exact a2b) ?_
 refine b6 (Ld.g fun a=>by simp only [d2 a];exact (l1 Tryd.isAgg9 b rfl)) ?_
 refine a6 (Pu.g fun a=>by simp only [d2 a];with_reducible exact (b0C _ _ _ _ _)) ?_
 refine a6 (D3 _ _) ?_
 refine a6 (Pu.g fun a=>by with_reducible exact I0) ?_
 refine b6 (Ld.g fun a=>by simp only [d2 a];exact (l1 Tryd.isAgg39 (b.bring 1) rfl)) ?_
 refine a6 (Pu.g fun a=>by simp only [d2 a];with_reducible exact (B0 _ _ _)) ?_
 refine a6 (Pu.g fun a=>by with_reducible exact I0) ?_
 refine b6 (Ld.g fun a=>by simp only [d2 a];exact (l1 Tryd.isAgg39 b rfl)) ?_
 refine a6 (Pu.g fun a=>by simp only [d2 a];with_reducible exact (B0 _ _ _)) ?_
 refine a6 (Pu.g fun a=>by simp only [d2 a];with_reducible exact pNe) ?_
 refine a6 (D3 _ _) ?_
 refine f7 h (fun _ h=>?_) (fun _ h=>?_)
 ·exact hR _ H _ _ b.drop.drop ⟨false,rfl,rfl,h⟩
 ·have hj1:∀H w (_:Inv w0 ps0 H0 H [bx i 41 (c7 x1),bx f 41 (c7 x0)] w) (_:R1 x1 x0 H K),b1A w R E:=by
   intro H w I h
   unfold b1A
   intro _
   unfold R1 at h
   exact hR _ H _ _ I.drop.drop ⟨true,rfl,rfl,h⟩
  refine m7 fun j1 hx1=>?_
  refine y6 (σ:=Int) (fun C5=>[(vi C5)]) (fun C5=>[bx i 41 (c7 x1),bx f 41 (c7 x0)]) h rfl ((b.bring 1).bring 1) ?_
  rintro C5 H ab w next2 n2 j I h hn2
  simp only [List.map_cons,List.map_nil,List.cons.injEq,and_true] at j
  have e5:=j
  simp only [e5]
  unfold b4W
  unfold X5 at h
  refine a6 I0 (b6 (l1 Tryd.isAgg39 (I.bring 1) rfl) (a6 (B0 _ _ _) (a6 pLs ?_)))
  refine d3 h (fun _ h=>?_) (fun _ h=>?_)
  ·refine a0l I fun ac c=>?_
   refine g8 I0 ?_
   refine g8 I0 ?_
   refine r6 (l1 Tryd.isAgg39 (c.bring 1) rfl) ?_
   obtain ⟨m,n,o,d,h⟩:=h
   obtain ⟨ad,ae,p,d⟩:=d
   refine g8 (O3 p _ _ _ _ m n) ?_
   refine r6 (ldA (vs:=(c7 o)) Tryd.isAgg41 Tryd.sizeOf41 rfl (c.atH d)) ?_
   refine r6 (l1 Tryd.isAgg39 c rfl) ?_
   obtain ⟨q,r,s,e,h⟩:=h
   obtain ⟨af,ag,t,e⟩:=e
   refine g8 (O3 t _ _ _ _ q r) ?_
   refine r6 (ldA (vs:=(c7 s)) Tryd.isAgg41 Tryd.sizeOf41 rfl (c.atH e)) ?_
   refine d7 Tryd.call42 h c ?_
   rintro _ u _ ah k _ _ ⟨ai,rfl,rfl,h⟩
   refine g8 (G1 _) ?_
   refine f7 h (fun _ h=>?_) (fun _ h=>?_)
   ·exact hR _ u _ _ k.drop.drop ⟨false,rfl,rfl,h⟩
   ·refine a6 pAd ?_
    exact hn2 (IntKind.wrap .i64 (C5+1)) _ _ h ((k.bring 1).bring 1)
  ·exact hx1 _ _ (hj1 H _ ((I.bring 1).bring 1) h)
def R2(a:b9)(b:b9)(H:Hp)(K:Bool→Hp→Prop):Prop:=
 K true H
def X6(b:b9)(a:b9)(Q9:Int)(H:Hp)(n3:Int→Hp→Prop)(K:Bool→Hp→Prop):Prop:=
 (Q9 < (a.q6.n:Int)→
 (0:Int)≤Q9∧(Q9:Int) < a.q6.n∧∃c:b9,EltH H a.q6 Q9 4 (c9 c)∧
 (0:Int)≤Q9∧(Q9:Int) < b.q6.n∧∃d:b9,EltH H b.q6 Q9 4 (c9 d)∧
 T4 c d H (fun e f=>
 ((!e)=true→
 K false f)∧
 ((!e)=false→
 n3 (IntKind.wrap .i64 (Q9+1)) f)))∧
 (¬(Q9 < (a.q6.n:Int))→
 R2 b a H K)
def R3(a:b9)(b:b9)(H:Hp)(K:Bool→Hp→Prop):Prop:=
 TL (0:Int) H fun(s:Int) H n3=>X6 a b s H n3 K
def X7(b:b9)(a:b9)(U7:Int)(H:Hp)(n4:Int→Hp→Prop)(K:Bool→Hp→Prop):Prop:=
 (U7 < (a.d5.n:Int)→
 (0:Int)≤U7∧(U7:Int) < a.d5.n∧∃c:b8,EltH H a.d5 U7 4 (c7 c)∧
 (0:Int)≤U7∧(U7:Int) < b.d5.n∧∃d:b8,EltH H b.d5 U7 4 (c7 d)∧
 O5 c d H (fun e f=>
 ((!e)=true→
 K false f)∧
 ((!e)=false→
 n4 (IntKind.wrap .i64 (U7+1)) f)))∧
 (¬(U7 < (a.d5.n:Int))→
 R3 b a H K)
def a0s(x0:b9)(x1:b9)(H:Hp)(K:Bool→Hp→Prop):Prop:=
 (((((!decide (x0.b7=x1.b7))||(!decide (x0.fOp=x1.fOp)))||(!decide ((x0.d5.n:Int)=(x1.d5.n:Int))))||(!decide ((x0.q6.n:Int)=(x1.q6.n:Int))))=true→
 K false H)∧
 (((((!decide (x0.b7=x1.b7))||(!decide (x0.fOp=x1.fOp)))||(!decide ((x0.d5.n:Int)=(x1.d5.n:Int))))||(!decide ((x0.q6.n:Int)=(x1.q6.n:Int))))=false→
 TL (0:Int) H fun(s:Int) H n4=>X7 x1 x0 s H n4 K)
theorem a4K(x0 x1){H K}(h:a0s x0 x1 H K):T4 x0 x1 H K:=by
 refine Ct.of fun w0 w ps0 H0 R E I hR=>b8J ?_
 unfold a0s at h
 unfold F41
 refine B2 I (cs:=(c9 x0)) rfl fun c al q am=>?_
 refine B2 q (cs:=(c9 x1)) rfl fun d an b ao=>?_
 refine a6 a1e (b6 (l1 Tryd.isAgg3 (b.bring 1) rfl) (a6 a1e (b6 (l1 Tryd.isAgg3 b rfl) (a6 pNe ?_))))
 refine a6 (Pu.g fun a=>by with_reducible exact Y3) ?_
 refine b6 (Ld.g fun a=>by simp only [d2 a];exact (l1 Tryd.isAgg3 (b.bring 1) rfl)) ?_
 refine a6 (Pu.g fun a=>by with_reducible exact Y3) ?_
 refine b6 (Ld.g fun a=>by simp only [d2 a];exact (l1 Tryd.isAgg3 b rfl)) ?_
 refine a6 (Pu.g fun a=>by simp only [d2 a];with_reducible exact pNe) ?_
 refine a6 (D3 _ _) ?_
 refine a6 (Pu.g fun a=>by with_reducible exact G8) ?_
 refine b6 (Ld.g fun a=>by simp only [d2 a];exact (l1 Tryd.isAgg39 (b.bring 1) rfl)) ?_
 refine a6 (Pu.g fun a=>by simp only [d2 a];with_reducible exact (B0 _ _ _)) ?_
 refine a6 (Pu.g fun a=>by with_reducible exact G8) ?_
 refine b6 (Ld.g fun a=>by simp only [d2 a];exact (l1 Tryd.isAgg39 b rfl)) ?_
 refine a6 (Pu.g fun a=>by simp only [d2 a];with_reducible exact (B0 _ _ _)) ?_
 refine a6 (Pu.g fun a=>by simp only [d2 a];with_reducible exact pNe) ?_
 refine a6 (D3 _ _) ?_
 refine a6 (Pu.g fun a=>by with_reducible exact G9) ?_
 refine b6 (Ld.g fun a=>by simp only [d2 a];exact (l1 Tryd.isAgg47 (b.bring 1) rfl)) ?_
 refine a6 (Pu.g fun a=>by simp only [d2 a];with_reducible exact (K2 _ _ _)) ?_
 refine a6 (Pu.g fun a=>by with_reducible exact G9) ?_
 refine b6 (Ld.g fun a=>by simp only [d2 a];exact (l1 Tryd.isAgg47 b rfl)) ?_
 refine a6 (Pu.g fun a=>by simp only [d2 a];with_reducible exact (K2 _ _ _)) ?_
 refine a6 (Pu.g fun a=>by simp only [d2 a];with_reducible exact pNe) ?_
 refine a6 (D3 _ _) ?_
 refine f7 h (fun _ h=>?_) (fun _ h=>?_)
 ·exact hR _ H _ _ b.drop.drop ⟨false,rfl,rfl,h⟩
 ·have hj1:∀H w (_:Inv w0 ps0 H0 H [bx d 77 (c9 x1),bx c 77 (c9 x0)] w) (_:R3 x1 x0 H K),b1z (Value.pointer (some ⟨c,0,none⟩)) (Value.pointer (some ⟨d,0,none⟩)) w R E:=by
   intro H w I h
   unfold b1z
   intro _
   unfold R3 at h
   have hj2:∀H w (_:Inv w0 ps0 H0 H [bx d 77 (c9 x1),bx c 77 (c9 x0)] w) (_:R2 x1 x0 H K),b1y w R E:=by
    intro H w I h
    unfold b1y
    intro _
    unfold R2 at h
    exact hR _ H _ _ I.drop.drop ⟨true,rfl,rfl,h⟩
   refine m7 fun j2 hx2=>?_
   refine y6 (σ:=Int) (fun Q9=>[(vi Q9)]) (fun Q9=>[bx d 77 (c9 x1),bx c 77 (c9 x0)]) h rfl ((I.bring 1).bring 1) ?_
   rintro Q9 H ap w next3 n3 m I h hn3
   simp only [List.map_cons,List.map_nil,List.cons.injEq,and_true] at m
   have e6:=m
   simp only [e6]
   unfold b4U
   unfold X6 at h
   refine a6 G9 (b6 (l1 Tryd.isAgg47 (I.bring 1) rfl) (a6 (K2 _ _ _) (a6 pLs ?_)))
   refine d3 h (fun _ h=>?_) (fun _ h=>?_)
   ·refine a0l I fun aq e=>?_
    refine g8 G9 ?_
    refine g8 G9 ?_
    refine r6 (l1 Tryd.isAgg47 (e.bring 1) rfl) ?_
    obtain ⟨r,s,t,i,h⟩:=h
    obtain ⟨ar,au,u,i⟩:=i
    refine g8 (Y2 u _ _ _ _ r s) ?_
    refine r6 (ldA (vs:=(c9 t)) Tryd.isAgg77 Tryd.sizeOf77 rfl (e.atH i)) ?_
    refine r6 (l1 Tryd.isAgg47 e rfl) ?_
    obtain ⟨v,y,z,j,h⟩:=h
    obtain ⟨av,aw,aa,j⟩:=j
    refine g8 (Y2 aa _ _ _ _ v y) ?_
    refine r6 (ldA (vs:=(c9 z)) Tryd.isAgg77 Tryd.sizeOf77 rfl (e.atH j)) ?_
    refine d7 Tryd.call41 h e ?_
    rintro _ ab _ ax n _ _ ⟨ay,rfl,rfl,h⟩
    refine g8 (G1 _) ?_
    refine f7 h (fun _ h=>?_) (fun _ h=>?_)
    ·exact hR _ ab _ _ n.drop.drop ⟨false,rfl,rfl,h⟩
    ·refine a6 pAd ?_
     exact hn3 (IntKind.wrap .i64 (Q9+1)) _ _ h ((n.bring 1).bring 1)
   ·exact hx2 _ _ (hj2 H _ ((I.bring 1).bring 1) h)
  refine m7 fun j1 hx1=>?_
  refine y6 (σ:=Int) (fun U7=>[(vi U7)]) (fun U7=>[bx d 77 (c9 x1),bx c 77 (c9 x0)]) h rfl ((b.bring 1).bring 1) ?_
  rintro U7 H az w next4 n4 o I h hn4
  simp only [List.map_cons,List.map_nil,List.cons.injEq,and_true] at o
  have e5:=o
  simp only [e5]
  unfold b4V
  unfold X7 at h
  refine a6 G8 (b6 (l1 Tryd.isAgg39 (I.bring 1) rfl) (a6 (B0 _ _ _) (a6 pLs ?_)))
  refine d3 h (fun _ h=>?_) (fun _ h=>?_)
  ·refine a0l I fun ba f=>?_
   refine g8 G8 ?_
   refine g8 G8 ?_
   refine r6 (l1 Tryd.isAgg39 (f.bring 1) rfl) ?_
   obtain ⟨ac,ad,ae,k,h⟩:=h
   obtain ⟨bb,bc,af,k⟩:=k
   refine g8 (O3 af _ _ _ _ ac ad) ?_
   refine r6 (ldA (vs:=(c7 ae)) Tryd.isAgg41 Tryd.sizeOf41 rfl (f.atH k)) ?_
   refine r6 (l1 Tryd.isAgg39 f rfl) ?_
   obtain ⟨ag,ah,ai,l,h⟩:=h
   obtain ⟨bd,be,aj,l⟩:=l
   refine g8 (O3 aj _ _ _ _ ag ah) ?_
   refine r6 (ldA (vs:=(c7 ai)) Tryd.isAgg41 Tryd.sizeOf41 rfl (f.atH l)) ?_
   refine d7 Tryd.call42 h f ?_
   rintro _ ak _ bf p _ _ ⟨bg,rfl,rfl,h⟩
   refine g8 (G1 _) ?_
   refine f7 h (fun _ h=>?_) (fun _ h=>?_)
   ·exact hR _ ak _ _ p.drop.drop ⟨false,rfl,rfl,h⟩
   ·refine a6 pAd ?_
    exact hn4 (IntKind.wrap .i64 (U7+1)) _ _ h ((p.bring 1).bring 1)
  ·exact hx1 _ _ (hj1 H _ ((I.bring 1).bring 1) h)
def R4(c:Int)(d:Int)(e:ByteArray)(f:(List b8))(g:b8)(i:b8)(H:Hp)(K:b8→Hp→Prop):Prop:=
 ∀(b:Sl)(a:Hp),Hle H a→SlH a 4 c7 b f→NewS H a 41 4 b→
 K (b8.mk c d e b) a
def R5(a:b8)(B4:Int)(c:Int)(d:Int)(e:ByteArray)(b:(List b8))(f:b8)(H:Hp)(n2:(Int×Int×Int×ByteArray×(List b8)×b8)→Hp→Prop)(K:b8→Hp→Prop):Prop:=
 (B4 < (a.v7.n:Int)→
 (0:Int)≤B4∧(B4:Int) < a.v7.n∧∃g:b8,EltH H a.v7 B4 4 (c7 g)∧
 O6 g H (fun i j=>
 (b.length+([i]:List b8).length)*57≤140737488355328∧
 n2 ((IntKind.wrap .i64 (B4+1)),c,d,e,(b++[i]),f) j))∧
 (¬(B4 < (a.v7.n:Int))→
 R4 c d e b f a H K)
def a0t(x0:b8)(H:Hp)(K:b8→Hp→Prop):Prop:=
 TL ((0,x0.b7,x0.M8,x0.f4,[],(b8.mk 0 0 ⟨#[]⟩ (Sl.mk none 0 0))):Int×Int×Int×ByteArray×(List b8)×b8) H fun(s:Int×Int×Int×ByteArray×(List b8)×b8) H n2=>R5 x0 s.1 s.2.1 s.2.2.1 s.2.2.2.1 s.2.2.2.2.1 s.2.2.2.2.2 H n2 K
theorem a4L(x0){H K}(h:a0t x0 H K):O6 x0 H K:=by
 refine Ct.of fun w0 w ps0 H0 R E I hR=>b8Q ?_
 unfold a0t at h
 unfold F48
 refine B2 I (cs:=(c7 x0)) rfl fun ai bp ao bq=>?_
 refine u4 ao Tryd.zeroValue41 (cs:=[(vi 0),(vi 0),(eS),(nS)]) rfl fun z br v bs=>?_
 refine a6 T3 (b6 (l1 Tryd.isAgg3 (v.bring 1) rfl) (a6 a1f (b6 (l1 Tryd.isAgg2 (v.bring 1) rfl) (a6 a2b ?_))))
 refine b6 (l1 Tryd.isAgg9 (v.bring 1) rfl) (a6 (a9a _ _ _) ?_)
 refine u4 v Tryd.zeroValue41 (cs:=[(vi 0),(vi 0),(eS),(nS)]) rfl fun aa bt ap bu=>?_
 refine D5 ap Tryd.sizeOf41 (vs:=[(vi x0.b7),(vi x0.M8),(Value.string x0.f4),(nS)]) fun bv aq bw=>?_
 have hj1:∀(m:Int)(p:Int)(q:ByteArray)(ab:(List b8))(ac:b8)(k:Sl)(ad:Frag) H w (_:RowL 41 4 c7 k ab ad) (_:Inv w0 ps0 H0 H [bx aa 41 [(vi m),(vi p),(Value.string q),(vs k)],bx z 41 (c7 ac),bx ai 41 (c7 x0),ad] w) (_:R4 m p q ab ac x0 H K),b1F (Value.pointer (some ⟨z,0,none⟩)) (Value.pointer (some ⟨aa,0,none⟩)) w R E:=by
  intro m p q ab ac k ad H w ar I h
  unfold b1F
  intro _
  unfold R4 at h
  refine b6 (ldA Tryd.isAgg41 Tryd.sizeOf41 rfl (I.at1 (o:=0) (vs:=[(vi m),(vi p),(Value.string q),(vs k)]) (nb rfl) rfl)) ?_
  refine D5 (I.bring 1) Tryd.sizeOf41 (vs:=[(vi m),(vi p),(Value.string q),(vs k)]) fun bz aj ca=>?_
  refine a2T Tryd.isAgg41 Tryd.sizeOf41 rfl aj ?_
  obtain ⟨ak,au,av,aw,ax⟩:=Inv.freezeN (aj.bring 3) ar (by decide)
  replace h:=h k ak av aw ax
  exact hR _ ak _ _ au.drop.drop.drop ⟨(b8.mk m p q k),rfl,rfl,h⟩
 refine m7 fun j1 hx1=>?_
 obtain ⟨ae,t,ay,az⟩:=h
 refine T1 (J:=fun n l w=>∃(s:Int×Int×Int×ByteArray×(List b8)×b8)(H:Hp)(u:Sl)(y:Frag),n=t s∧l=(match s with | (B4,f,g,i,d,j)=>[(vi B4)])∧(match s with | (B4,f,g,i,d,j)=>RowL 41 4 c7 u d y)∧(match s with | (B4,f,g,i,d,j)=>Inv w0 ps0 H0 H [bx aa 41 [(vi f),(vi g),(Value.string i),(vs u)],bx z 41 (c7 j),bx ai 41 (c7 x0),y] w)∧ae s H) ⟨_,(0,x0.b7,x0.M8,x0.f4,[],(b8.mk 0 0 ⟨#[]⟩ (Sl.mk none 0 0))),H,(Sl.mk none 0 0),[],rfl,rfl,(RowL.nil O1 O2),(((aq.nil.bring 3).bring 3).bring 3),ay⟩ ?_
 rintro cb cc w next2 ⟨⟨B4,f,g,i,d,j⟩,H,u,y,rfl,af,ag,I,ba⟩ hn2
 dsimp only at af I ag
 simp only [List.map_cons,List.map_nil,List.cons.injEq,and_true] at af
 have e4:=af
 simp only [e4]
 obtain ⟨n2,hm2,h⟩:∃n2:(Int×Int×Int×ByteArray×(List b8)×b8)→Hp→Prop,(∀s' H',n2 s' H'→ae s' H'∧t s' < t (B4,f,g,i,d,j))∧R5 x0 B4 f g i d j H n2 K:=⟨_,fun _ _ h=>h,az (B4,f,g,i,d,j) H (fun s' H'=>ae s' H'∧t s' < t (B4,f,g,i,d,j)) ba (fun _ _ a b=>⟨a,b⟩)⟩
 unfold b5b
 unfold R5 at h
 refine a6 I0 (b6 (l1 Tryd.isAgg39 (I.bring 2) rfl) (a6 (B0 _ _ _) (a6 pLs ?_)))
 refine d3 h (fun _ h=>?_) (fun _ h=>?_)
 ·refine a0l I fun cd r=>?_
  refine g8 I0 ?_
  refine g8 I0 ?_
  refine r6 (l1 Tryd.isAgg39 r rfl) ?_
  refine r6 (l1 Tryd.isAgg39 (r.bring 2) rfl) ?_
  obtain ⟨bb,bc,bd,ah,h⟩:=h
  obtain ⟨ce,cf,be,ah⟩:=ah
  refine g8 (O3 be _ _ _ _ bb bc) ?_
  refine r6 (ldA (vs:=(c7 bd)) Tryd.isAgg41 Tryd.sizeOf41 rfl (r.atH ah)) ?_
  refine d7 Tryd.call48 h r ?_
  rintro _ bf _ cg al _ bg ⟨am,rfl,rfl,h⟩
  refine ⟨(bg _ r.lt1 (Inv.Y0 (Fi:=[]) r)),?_⟩
  refine a1y (e:=41) (c:=c7) (xs:=[am]) al (a6I _ _ _ _ _ _) rfl rfl O1 O2 (nb rfl) fun ch ci cj bh an bi=>?_
  refine ⟨(bi _ al.lt1),?_⟩
  obtain ⟨bj,h⟩:=h
  refine a8Z (s:=u) (xs:=d) (an.bring 4) ag (bh.srcO ((an.bring 4).bring 1)) bj fun bk bl ck bm bn cl=>?_
  refine g8 I0 ?_
  refine N2 ((bn.bring 1).drop.bring 1) Tryd.sizeOf39 fun cm bo cn=>?_
  refine a6 pAd ?_
  exact hn2 _ _ _ (hm2 _ _ h).2 ⟨((IntKind.wrap .i64 (B4+1)),f,g,i,(d++[am]),j),bf,bk,bl,rfl,rfl,bm,((((bo.bring 1).bring 3).bring 3).bring 3),(hm2 _ _ h).1⟩
 ·exact hx1 _ _ (hj1 f g i d j u y H _ ag ((((I.bring 3).bring 3).bring 3).bring 3) h)
def a2H(x0:b8)(H:Hp)(K:c8→Hp→Prop):Prop:=
 K (c8.B5 (D6.mk x0)) H
theorem a7e(x0){H K}(h:a2H x0 H K):a4s x0 H K:=by
 refine Ct.of fun w0 w ps0 H0 R E I hR=>b9s ?_
 unfold a2H at h
 unfold F94
 refine B2 I (cs:=(c7 x0)) rfl fun b c a d=>?_
 refine b6 (lW Tryd.isAgg41 Tryd.sizeOf41 rfl a) (a6 (a8x _ _ _ _ _ _) (a6 (a5J (D6.mk x0)) ?_))
 exact hR _ H _ _ a.drop ⟨(c8.B5 (D6.mk x0)),rfl,rfl,h⟩
def a1C(x0:T2)(H:Hp)(K:Sl→Hp→Prop):Prop:=
 K (Sl.mk none 0 0) H
theorem a5M(x0){H K}(h:a1C x0 H K):a3r x0 H K:=by
 refine Ct.of fun w0 w ps0 H0 R E I hR=>b9u ?_
 unfold a1C at h
 unfold F96
 refine B2 I (cs:=(j8 x0.X2)) rfl fun b c a d=>?_
 exact hR _ H _ _ a.drop ⟨(Sl.mk none 0 0),rfl,rfl,h⟩
def a1D(x0:P0)(H:Hp)(K:Sl→Hp→Prop):Prop:=
 A9 x0.d6.m8 H (fun d e=>
 t6 x0.d6.d5 e (fun f g=>
 t1 x0.d6.B1 g (fun i j=>
 t1 x0.d6.A8 j (fun k c=>
 ∀(b:Sl)(a:Hp),Hle c a→SlH a 1 csl b [d,f,i,k]→NewS c a 72 1 b→
 A4 b a (fun l m=>
 K l m)))))
theorem a5N(x0){H K}(h:a1D x0 H K):a3s x0 H K:=by
 refine Ct.of fun w0 w ps0 H0 R E I hR=>b9w ?_
 unfold a1D at h
 unfold F98
 refine B2 I (cs:=(c5 x0.d6)) rfl fun ad ae i af=>?_
 refine a0l i fun ag a=>?_
 refine g8 L4 ?_
 refine g8 G7 ?_
 refine g8 L4 ?_
 refine g8 D8 ?_
 refine g8 L4 ?_
 refine g8 P2 ?_
 refine g8 L4 ?_
 refine g8 O0 ?_
 refine r6 (l1 Tryd.isAgg47 a rfl) ?_
 refine r6 (l1 Tryd.isAgg39 a rfl) ?_
 refine r6 (l1 Tryd.isAgg23 a rfl) ?_
 refine r6 (l1 Tryd.isAgg23 a rfl) ?_
 refine d7 Tryd.call99 h a ?_
 rintro _ _ _ ah b _ d ⟨j,rfl,rfl,h⟩
 refine ⟨(d _ a.lt1 (Inv.Y0 (Fi:=[]) a)),(d _ a.lt1 (Inv.Y0 (Fi:=[]) a)),(d _ a.lt1 (Inv.Y0 (Fi:=[]) a)),?_⟩
 refine d7 Tryd.call93 h b ?_
 rintro _ _ _ ai f _ g ⟨k,rfl,rfl,h⟩
 refine ⟨(g _ b.lt1 (Inv.Y0 (Fi:=[]) b)),(g _ b.lt1 (Inv.Y0 (Fi:=[]) b)),?_⟩
 refine d7 Tryd.call52 h f ?_
 rintro _ _ _ aj l _ m ⟨n,rfl,rfl,h⟩
 refine ⟨(m _ f.lt1 (Inv.Y0 (Fi:=[]) f)),?_⟩
 refine d7 Tryd.call52 h l ?_
 rintro _ _ _ ak o _ _ ⟨p,rfl,rfl,h⟩
 refine a1y (e:=72) (c:=csl) (xs:=[j,k,n,p]) o (b5U _ _ _ _ _ _ _ _ _ _ _ _) rfl rfl b0q b0r (nb rfl) fun q al am r s an=>?_
 obtain ⟨t,u,v,y,z⟩:=Inv.freezeN s r (by decide)
 replace h:=h q t v y z
 refine d7 Tryd.call49 h u ?_
 rintro _ aa _ ao ab _ _ ⟨ac,rfl,rfl,h⟩
 exact hR _ aa _ _ ab.drop ⟨ac,rfl,rfl,h⟩
end Go.Proofs.YtpgelfheccpejaaDoor
