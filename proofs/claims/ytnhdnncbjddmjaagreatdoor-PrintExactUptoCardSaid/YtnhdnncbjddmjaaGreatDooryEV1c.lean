/- Typed formulas of the program's functions, and the theorems that the contracts follow from them; printed by lift.py off the code. -/
import Derived.Test.YtnhdnncbjddmjaaGreatDooryEV1
namespace Go.Proofs.YtnhdnncbjddmjaaGreatDoor
open Go.RowKit
set_option maxRecDepth 100000
set_option maxHeartbeats 2000000
def v6(a8g:Bool)(a:Int)(H:Hp)(K:Int→Hp→Prop):Prop:=
 (a8g=true→
 K 3 H)∧
 (a8g=false→
 K 6 H)
def J5(a8h:Bool)(a:Int)(H:Hp)(K:Int→Hp→Prop):Prop:=
 (a8h=true→
 K 6 H)∧
 (a8h=false→
 D4 48 57 a H (fun g b=>
 (g=true→
 K 4 b)∧
 (g=false→
 (a=95→
 v6 (decide (a=95)) a b K)∧
 (¬(a=95)→
 D4 97 122 a b (fun c i=>
 (c=true→
 v6 c a i K)∧
 (c=false→
 D4 65 90 a i (fun d j=>
 (d=true→
 v6 d a j K)∧
 (d=false→
 D4 192 591 a j (fun e k=>
 (e=true→
 v6 e a k K)∧
 (e=false→
 D4 913 969 a k (fun f l=>
 (f=true→
 v6 f a l K)∧
 (f=false→
 D4 1040 1103 a l (fun m n=>
 v6 m a n K)))))))))))))
def g8(a5f:Int)(a8i:Bool)(a:Int)(H:Hp)(K:Int→Hp→Prop):Prop:=
 (a8i=true→
 K 5 H)∧
 (a8i=false→
 (a5f=215→
 J5 (decide (a5f=215)) a H K)∧
 (¬(a5f=215)→
 (a5f=247→
 J5 (decide (a5f=247)) a H K)∧
 (¬(a5f=247)→
 J5 (decide (a5f=930)) a H K)))
def J6(i7:Int)(N0:Bool)(a:Int)(H:Hp)(K:Int→Hp→Prop):Prop:=
 (N0=true→
 K 1 H)∧
 (N0=false→
 (i7=10→
 K 2 H)∧
 (¬(i7=10)→
 (i7=59→
 g8 i7 (decide (i7=59)) a H K)∧
 (¬(i7=59)→
 (i7=44→
 g8 i7 (decide (i7=44)) a H K)∧
 (¬(i7=44)→
 (i7=123→
 g8 i7 (decide (i7=123)) a H K)∧
 (¬(i7=123)→
 (i7=125→
 g8 i7 (decide (i7=125)) a H K)∧
 (¬(i7=125)→
 (i7=40→
 g8 i7 (decide (i7=40)) a H K)∧
 (¬(i7=40)→
 (i7=41→
 g8 i7 (decide (i7=41)) a H K)∧
 (¬(i7=41)→
 (i7=91→
 g8 i7 (decide (i7=91)) a H K)∧
 (¬(i7=91)→
 (i7=93→
 g8 i7 (decide (i7=93)) a H K)∧
 (¬(i7=93)→
 (i7=61→
 g8 i7 (decide (i7=61)) a H K)∧
 (¬(i7=61)→
 (i7=33→
 g8 i7 (decide (i7=33)) a H K)∧
 (¬(i7=33)→
 (i7=60→
 g8 i7 (decide (i7=60)) a H K)∧
 (¬(i7=60)→
 (i7=62→
 g8 i7 (decide (i7=62)) a H K)∧
 (¬(i7=62)→
 (i7=43→
 g8 i7 (decide (i7=43)) a H K)∧
 (¬(i7=43)→
 (i7=45→
 g8 i7 (decide (i7=45)) a H K)∧
 (¬(i7=45)→
 (i7=42→
 g8 i7 (decide (i7=42)) a H K)∧
 (¬(i7=42)→
 (i7=47→
 g8 i7 (decide (i7=47)) a H K)∧
 (¬(i7=47)→
 (i7=37→
 g8 i7 (decide (i7=37)) a H K)∧
 (¬(i7=37)→
 (i7=38→
 g8 i7 (decide (i7=38)) a H K)∧
 (¬(i7=38)→
 g8 i7 (decide (i7=124)) a H K))))))))))))))))))))
def a2G(x0:Int)(H:Hp)(K:Int→Hp→Prop):Prop:=
 (x0=32→
 J6 x0 (decide (x0=32)) x0 H K)∧
 (¬(x0=32)→
 (x0=9→
 J6 x0 (decide (x0=9)) x0 H K)∧
 (¬(x0=9)→
 J6 x0 (decide (x0=13)) x0 H K))
theorem a7C(x0){H K}(h:a2G x0 H K):a1p x0 H K:=by
 refine Ct.of fun w0 w ps0 H0 R E I hR=>b9y ?_
 unfold a2G at h
 unfold F99
 refine y7 I (cs:=[(Value.int .i32 x0)]) rfl fun a u b v=>?_
 refine b9 (l1 Tryz.isAgg21 b rfl) ?_
 have hj1:∀(N0:Bool) H w (_:Inv w0 ps0 H0 H [bx a 21 [(Value.int .i32 x0)]] w) (_:J6 x0 N0 x0 H K),b2a (Value.pointer (some ⟨a,0,none⟩)) (Value.int .i32 x0) (vB N0) w R E:=by
  intro N0 H w I h
  unfold b2a
  intro _
  unfold J6 at h
  refine g6 h (fun _ h=>?_) (fun _ h=>?_)
  ·exact hR _ H _ _ I.drop ⟨1,rfl,rfl,h⟩
  ·refine a7 pEq ?_
   refine c8 h (fun _ h=>?_) (fun _ h=>?_)
   ·exact hR _ H _ _ I.drop ⟨2,rfl,rfl,h⟩
   ·have hj2:∀(a8i:Bool) H w (_:Inv w0 ps0 H0 H [bx a 21 [(Value.int .i32 x0)]] w) (_:g8 x0 a8i x0 H K),b1Z (Value.pointer (some ⟨a,0,none⟩)) (Value.int .i32 x0) (vB a8i) w R E:=by
     intro a8i H w I h
     unfold b1Z
     intro _
     unfold g8 at h
     refine g6 h (fun _ h=>?_) (fun _ h=>?_)
     ·exact hR _ H _ _ I.drop ⟨5,rfl,rfl,h⟩
     ·have hj3:∀(a8h:Bool) H w (_:Inv w0 ps0 H0 H [bx a 21 [(Value.int .i32 x0)]] w) (_:J5 a8h x0 H K),b1Y (Value.pointer (some ⟨a,0,none⟩)) (vB a8h) w R E:=by
       intro a8h H w I h
       unfold b1Y
       intro _
       unfold J5 at h
       refine g6 h (fun _ h=>?_) (fun _ h=>?_)
       ·exact hR _ H _ _ I.drop ⟨6,rfl,rfl,h⟩
       ·refine a7 (a1O _ _ _) ?_
        refine a3K (cap:=[(Value.pointer (some ⟨a,0,none⟩))]) Tryz.call106 (h a) I ?_
        rintro _ d _ y c _ _ ⟨z,rfl,rfl,h⟩
        refine g6 h (fun _ h=>?_) (fun _ h=>?_)
        ·exact hR _ d _ _ c.drop ⟨4,rfl,rfl,h⟩
        ·have hj4:∀(a8g:Bool) H w (_:Inv w0 ps0 H0 H [bx a 21 [(Value.int .i32 x0)]] w) (_:v6 a8g x0 H K),b1X (vB a8g) w R E:=by
          intro a8g H w I h
          unfold b1X
          intro _
          unfold v6 at h
          refine g6 h (fun _ h=>?_) (fun _ h=>?_)
          ·exact hR _ H _ _ I.drop ⟨3,rfl,rfl,h⟩
          ·exact hR _ H _ _ I.drop ⟨6,rfl,rfl,h⟩
         refine k8 fun j4 hx4=>?_
         refine b9 (l1 Tryz.isAgg21 c rfl) (a7 pEq ?_)
         refine c8 h (fun _ h=>?_) (fun _ h=>?_)
         ·exact hx4 _ _ (hj4 (decide (x0=95)) d _ c h)
         ·refine a3K (cap:=[(Value.pointer (some ⟨a,0,none⟩))]) Tryz.call106 (h a) c ?_
          rintro _ j _ aa e _ _ ⟨k,rfl,rfl,h⟩
          refine g6 h (fun _ h=>?_) (fun _ h=>?_)
          ·exact hx4 _ _ (hj4 k j _ e h)
          ·refine a3K (cap:=[(Value.pointer (some ⟨a,0,none⟩))]) Tryz.call106 (h a) e ?_
           rintro _ l _ ab f _ _ ⟨m,rfl,rfl,h⟩
           refine g6 h (fun _ h=>?_) (fun _ h=>?_)
           ·exact hx4 _ _ (hj4 m l _ f h)
           ·refine a3K (cap:=[(Value.pointer (some ⟨a,0,none⟩))]) Tryz.call106 (h a) f ?_
            rintro _ n _ ac g _ _ ⟨o,rfl,rfl,h⟩
            refine g6 h (fun _ h=>?_) (fun _ h=>?_)
            ·exact hx4 _ _ (hj4 o n _ g h)
            ·refine a3K (cap:=[(Value.pointer (some ⟨a,0,none⟩))]) Tryz.call106 (h a) g ?_
             rintro _ p _ ad i _ _ ⟨q,rfl,rfl,h⟩
             refine g6 h (fun _ h=>?_) (fun _ h=>?_)
             ·exact hx4 _ _ (hj4 q p _ i h)
             ·refine a3K (cap:=[(Value.pointer (some ⟨a,0,none⟩))]) Tryz.call106 (h a) i ?_
              rintro _ r _ ae s _ _ ⟨t,rfl,rfl,h⟩
              exact hx4 _ _ (hj4 t r _ s h)
      refine k8 fun j3 hx3=>?_
      refine a7 pEq ?_
      refine c8 h (fun _ h=>?_) (fun _ h=>?_)
      ·exact hx3 _ _ (hj3 (decide (x0=215)) H _ I h)
      ·refine a7 pEq ?_
       refine c8 h (fun _ h=>?_) (fun _ h=>?_)
       ·exact hx3 _ _ (hj3 (decide (x0=247)) H _ I h)
       ·refine a7 pEq ?_
        exact hx3 _ _ (hj3 (decide (x0=930)) H _ I h)
    refine k8 fun j2 hx2=>?_
    refine a7 pEq ?_
    refine c8 h (fun _ h=>?_) (fun _ h=>?_)
    ·exact hx2 _ _ (hj2 (decide (x0=59)) H _ I h)
    ·refine a7 pEq ?_
     refine c8 h (fun _ h=>?_) (fun _ h=>?_)
     ·exact hx2 _ _ (hj2 (decide (x0=44)) H _ I h)
     ·refine a7 pEq ?_
      refine c8 h (fun _ h=>?_) (fun _ h=>?_)
      ·exact hx2 _ _ (hj2 (decide (x0=123)) H _ I h)
      ·refine a7 pEq ?_
       refine c8 h (fun _ h=>?_) (fun _ h=>?_)
       ·exact hx2 _ _ (hj2 (decide (x0=125)) H _ I h)
       ·refine a7 pEq ?_
        refine c8 h (fun _ h=>?_) (fun _ h=>?_)
        ·exact hx2 _ _ (hj2 (decide (x0=40)) H _ I h)
        ·refine a7 pEq ?_
         refine c8 h (fun _ h=>?_) (fun _ h=>?_)
         ·exact hx2 _ _ (hj2 (decide (x0=41)) H _ I h)
         ·refine a7 pEq ?_
          refine c8 h (fun _ h=>?_) (fun _ h=>?_)
          ·exact hx2 _ _ (hj2 (decide (x0=91)) H _ I h)
          ·refine a7 pEq ?_
           refine c8 h (fun _ h=>?_) (fun _ h=>?_)
           ·exact hx2 _ _ (hj2 (decide (x0=93)) H _ I h)
           ·refine a7 pEq ?_
            refine c8 h (fun _ h=>?_) (fun _ h=>?_)
            ·exact hx2 _ _ (hj2 (decide (x0=61)) H _ I h)
            ·refine a7 pEq ?_
             refine c8 h (fun _ h=>?_) (fun _ h=>?_)
             ·exact hx2 _ _ (hj2 (decide (x0=33)) H _ I h)
             ·refine a7 pEq ?_
              refine c8 h (fun _ h=>?_) (fun _ h=>?_)
              ·exact hx2 _ _ (hj2 (decide (x0=60)) H _ I h)
              ·refine a7 pEq ?_
               refine c8 h (fun _ h=>?_) (fun _ h=>?_)
               ·exact hx2 _ _ (hj2 (decide (x0=62)) H _ I h)
               ·refine a7 pEq ?_
                refine c8 h (fun _ h=>?_) (fun _ h=>?_)
                ·exact hx2 _ _ (hj2 (decide (x0=43)) H _ I h)
                ·refine a7 pEq ?_
                 refine c8 h (fun _ h=>?_) (fun _ h=>?_)
                 ·exact hx2 _ _ (hj2 (decide (x0=45)) H _ I h)
                 ·refine a7 pEq ?_
                  refine c8 h (fun _ h=>?_) (fun _ h=>?_)
                  ·exact hx2 _ _ (hj2 (decide (x0=42)) H _ I h)
                  ·refine a7 pEq ?_
                   refine c8 h (fun _ h=>?_) (fun _ h=>?_)
                   ·exact hx2 _ _ (hj2 (decide (x0=47)) H _ I h)
                   ·refine a7 pEq ?_
                    refine c8 h (fun _ h=>?_) (fun _ h=>?_)
                    ·exact hx2 _ _ (hj2 (decide (x0=37)) H _ I h)
                    ·refine a7 pEq ?_
                     refine c8 h (fun _ h=>?_) (fun _ h=>?_)
                     ·exact hx2 _ _ (hj2 (decide (x0=38)) H _ I h)
                     ·refine a7 pEq ?_
                      exact hx2 _ _ (hj2 (decide (x0=124)) H _ I h)
 refine k8 fun j1 hx1=>?_
 refine a7 pEq ?_
 refine c8 h (fun _ h=>?_) (fun _ h=>?_)
 ·exact hx1 _ _ (hj1 (decide (x0=32)) H _ b h)
 ·refine a7 pEq ?_
  refine c8 h (fun _ h=>?_) (fun _ h=>?_)
  ·exact hx1 _ _ (hj1 (decide (x0=9)) H _ b h)
  ·refine a7 pEq ?_
   exact hx1 _ _ (hj1 (decide (x0=13)) H _ b h)
def J7(a1v:Int)(H:Hp)(K:Int→Hp→Prop):Prop:=
 K a1v H
def P2(b:ByteArray)(a1Q:Int)(a:Nat)(H:Hp)(n2:(Int×Nat)→Hp→Prop)(K:Int→Hp→Prop):Prop:=
 (a < b.size→
 n2 ((IntKind.wrap .i64 (a1Q+1)),(a+(Utf8.decode b a).2)) H)∧
 (¬(a < b.size)→
 J7 a1Q H K)
def S4(x0:ByteArray)(H:Hp)(K:Int→Hp→Prop):Prop:=
 TL ((0,0):Int×Nat) H fun(s:Int×Nat) H n2=>P2 x0 s.1 s.2 H n2 K
theorem a3Q(x0){H K}(h:S4 x0 H K):R7 x0 H K:=by
 refine Ct.of fun w0 w ps0 H0 R E I hR=>b7b ?_
 unfold S4 at h
 unfold b9A
 have hj1:∀(a1v:Int) H w (_:Inv w0 ps0 H0 H [] w) (_:J7 a1v H K),a9t (vi a1v) w R E:=by
  intro a1v H w I h
  unfold a9t
  intro _
  unfold J7 at h
  exact hR _ H _ _ I ⟨a1v,rfl,rfl,h⟩
 refine k8 fun j1 hx1=>?_
 refine b2Q Tryz.underlying9 x0 I fun d i f j=>?_
 refine B2 (σ:=Int×Nat) (fun (a1Q,a)=>[(vi a1Q)]) (fun (a1Q,a)=>[itf d x0 a]) h rfl f ?_
 rintro ⟨a1Q,a⟩ H k w next2 n2 b I h hn2
 dsimp only at b I h
 simp only [List.map_cons,List.map_nil,List.cons.injEq,and_true] at b
 have e2:=b
 simp only [e2]
 unfold b2T
 unfold P2 at h
 refine b4i I (fun c l g m=>?_) (fun c=>?_)
 ·replace h:=h.1 c
  refine a7 (v8 _ _ (vB true) rfl) ?_
  refine a0P (fun e=>?_) (fun e=>by cases e)
  refine a7 pAd ?_
  exact hn2 ((IntKind.wrap .i64 (a1Q+1)),(a+(Utf8.decode x0 a).2)) _ _ h g
 ·replace h:=h.2 c
  refine a7 (v8 _ _ (vB false) rfl) ?_
  refine a0P (fun e=>by cases e) (fun e=>?_)
  exact hx1 _ _ (hj1 a1Q H _ I.drop h)
def T9(a4L:Int)(a4M:Int)(a4N:Int)(a4O:Bool)(a4P:Bool)(a3T:(List ByteArray))(H:Hp)(K:Bool→f7→(List ByteArray)→Hp→Prop):Prop:=
 K true (f7.mk a4L a4M a4N a4O a4P (Sl.mk none 0 0)) a3T H
def U0(a7M:Int)(a4j:Sl)(p5:Int)(a1q:Int)(a0l:Int)(a0m:Int)(a0o:Int)(a0p:Bool)(a0q:Bool)(V6:(List ByteArray))(H:Hp)(n2:(Int×Int×Int×Int×Bool×Bool×(List ByteArray))→Hp→Prop)(K:Bool→f7→(List ByteArray)→Hp→Prop):Prop:=
 (a1q < p5→
 (0:Int)≤a1q∧(a1q:Int) < a4j.n∧∃c:c6,EltH H a4j a1q 1 [(A8 c)]∧
 a0g (f7.mk a0l a0m a0o a0p a0q (Sl.mk none 0 0)) V6 c a7M H (fun b d e f=>
 TG ((!b)=false) (a1Z c f) (Sl.mk none 0 0) f (fun(j:Sl)(g:Hp)=>
 TG ((!b)=false) (fun k_=>Q7 j (IntKind.wrap .i64 (a7M+1)) (U4 d) e g fun k l m H_=>k_ (k,l,m) H_) (false,(U4 d),e) g (fun(a:Bool×f7×(List ByteArray))(i:Hp)=>
 (((!b)||(!a.1))=true→
 K false (f7.mk (a.2.1.fnodes) (a.2.1.fdepth) (a.2.1.fe) (a.2.1.fform) (a.2.1.fnamed) (Sl.mk none 0 0)) a.2.2 i)∧
 (((!b)||(!a.1))=false→
 n2 ((IntKind.wrap .i64 (a1q+1)),(a.2.1.fnodes),(a.2.1.fdepth),(a.2.1.fe),(a.2.1.fform),(a.2.1.fnamed),a.2.2) i)))))∧
 (¬(a1q < p5)→
 T9 a0l a0m a0o a0p a0q V6 H K)
def a1R(x0:Sl)(x1:Int)(x2:f7)(a:(List ByteArray))(H:Hp)(K:Bool→f7→(List ByteArray)→Hp→Prop):Prop:=
 TL ((0,x2.fnodes,x2.fdepth,x2.fe,x2.fform,x2.fnamed,a):Int×Int×Int×Int×Bool×Bool×(List ByteArray)) H fun(s:Int×Int×Int×Int×Bool×Bool×(List ByteArray)) H n2=>U0 x1 x0 (x0.n:Int) s.1 s.2.1 s.2.2.1 s.2.2.2.1 s.2.2.2.2.1 s.2.2.2.2.2.1 s.2.2.2.2.2.2 H n2 K
theorem a6B(x0 x1 x2 ai){H K}(h:a1R x0 x1 x2 ai H K):Q7 x0 x1 x2 ai H K:=by
 intro g2 g2b g3 az ba bb
 refine Ct.of fun w0 w ps0 H0 R E I hR=>b9d ?_
 unfold a1R at h
 unfold F60
 have hj1:∀(a4L:Int)(a4M:Int)(a4N:Int)(a4O:Bool)(a4P:Bool)(a3T:(List ByteArray))(a6s:Sl)(a6t:Frag) H w (_:RowL 9 1 j8 a6s a3T a6t) (_:Inv w0 ps0 H0 H [bx g2 66 [(Value.pointer (some ⟨g2b,0,none⟩))],bx g2b 65 [(vi a4L),(vi a4M),(vi a4N),(vB a4O),(vB a4P),(vs a6s)],bx g3 111 [(Value.func (.func 60) #[] #[(Value.pointer (some ⟨g2,0,none⟩)),(Value.pointer (some ⟨g3,0,none⟩))])],a6t] w) (_:T9 a4L a4M a4N a4O a4P a3T H K),b1K w R E:=by
  intro a4L a4M a4N a4O a4P a3T a6s a6t H w b4Y I h
  unfold b1K
  intro _
  unfold T9 at h
  exact hR _ H _ _ ((((I.bring 2).bring 3).bring 3).bring 3) ⟨true,(f7.mk a4L a4M a4N a4O a4P (Sl.mk none 0 0)),a3T,a6s,a6t,rfl,rfl,b4Y,h⟩
 refine k8 fun j1 hx1=>?_
 refine a7 (a6q _ _ _) ?_
 obtain ⟨aj,z,bc,bd⟩:=h
 refine a1B (J:=fun n l w=>∃(s:Int×Int×Int×Int×Bool×Bool×(List ByteArray))(H:Hp)(a4X:Sl)(a4Y:Frag),n=z s∧l=(match s with | (a1q,a0l,a0m,a0o,a0p,a0q,V6)=>[(vi a1q)])∧(match s with | (a1q,a0l,a0m,a0o,a0p,a0q,V6)=>RowL 9 1 j8 a4X V6 a4Y)∧(match s with | (a1q,a0l,a0m,a0o,a0p,a0q,V6)=>Inv w0 ps0 H0 H [bx g2 66 [(Value.pointer (some ⟨g2b,0,none⟩))],bx g2b 65 [(vi a0l),(vi a0m),(vi a0o),(vB a0p),(vB a0q),(vs a4X)],bx g3 111 [(Value.func (.func 60) #[] #[(Value.pointer (some ⟨g2,0,none⟩)),(Value.pointer (some ⟨g3,0,none⟩))])],a4Y] w)∧aj s H) ⟨_,(0,x2.fnodes,x2.fdepth,x2.fe,x2.fform,x2.fnamed,ai),H,az,ba,rfl,rfl,bb,((((I.bring 2).bring 3).bring 3).bring 3),bc⟩ ?_
 rintro bj bk w next2 ⟨⟨a1q,a0l,a0m,a0o,a0p,a0q,V6⟩,H,a4X,a4Y,rfl,ak,a7Q,I,be⟩ hn2
 dsimp only at ak I a7Q
 simp only [List.map_cons,List.map_nil,List.cons.injEq,and_true] at ak
 have e11:=ak
 simp only [e11]
 obtain ⟨n2,hm2,h⟩:∃n2:(Int×Int×Int×Int×Bool×Bool×(List ByteArray))→Hp→Prop,(∀s' H',n2 s' H'→aj s' H'∧z s' < z (a1q,a0l,a0m,a0o,a0p,a0q,V6))∧U0 x1 x0 (x0.n:Int) a1q a0l a0m a0o a0p a0q V6 H n2 K:=⟨_,fun _ _ h=>h,bd (a1q,a0l,a0m,a0o,a0p,a0q,V6) H (fun s' H'=>aj s' H'∧z s' < z (a1q,a0l,a0m,a0o,a0p,a0q,V6)) be (fun _ _ a b=>⟨a,b⟩)⟩
 unfold b4Q
 unfold U0 at h
 refine a7 pLs ?_
 refine c8 h (fun _ h=>?_) (fun _ h=>?_)
 ·obtain ⟨bf,bg,bh,al,h⟩:=h
  obtain ⟨bl,bm,bi,al⟩:=al
  refine a7 (b5G bi _ _ _ _ bf bg) (b9 (ld1 (v:=(A8 bh)) Tryz.isAgg92 (I.atH al)) ?_)
  refine V9 I fun bn ao=>?_
  refine l8 (l1 Tryz.isAgg66 ao rfl) ?_
  refine d3 Tryz.call61 (h g2b a4X a4Y a7Q) ((ao.bring 3).bring 2) ?_
  rintro _ ap _ aq o _ _ ⟨p,aa,am,ac,ad,rfl,rfl,ar,h⟩
  refine f6 (T5 _) ?_
  simp only [o6]
  refine f6 (Pu.g fun c=>by simp only [d9 c];with_reducible exact pAd) ?_
  refine l8 (Ld.g fun c=>by exact (l1 Tryz.isAgg111 (o.bring 3) rfl)) ?_
  refine a8X (D:=fun au u=>∃(ab:Sl)(k:Hp),au=(gv (!p) false (vs ab))∧(Inv w0 ps0 H0 k [bx g2b 65 (X9 aa ac),ad,bx g2 66 [(Value.pointer (some ⟨g2b,0,none⟩))],bx g3 111 [(Value.func (.func 60) #[] #[(Value.pointer (some ⟨g2,0,none⟩)),(Value.pointer (some ⟨g3,0,none⟩))])]] u)∧(∀i,i < aq.heap.size→¬inF [] i→u.heap[i]? = aq.heap[i]?)∧Hle ap k∧(TG ((!p)=false) (fun k_=>Q7 ab (IntKind.wrap .i64 (x1+1)) (U4 aa) am k fun m d j H_=>k_ (m,d,j) H_) (false,(U4 aa),am) k (fun(e:Bool×f7×(List ByteArray))(f:Hp)=>
 (((!p)||(!e.1))=true→
 K false (f7.mk (e.2.1.fnodes) (e.2.1.fdepth) (e.2.1.fe) (e.2.1.fform) (e.2.1.fnamed) (Sl.mk none 0 0)) e.2.2 f)∧
 (((!p)||(!e.1))=false→
 n2 ((IntKind.wrap .i64 (a1q+1)),(e.2.1.fnodes),(e.2.1.fdepth),(e.2.1.fe),(e.2.1.fform),(e.2.1.fnamed),e.2.2) f)))) (fun y=>?_) (fun y=>?_) ?_
  ·replace h:=h.1 y
   have c:=y
   simp only [d9 c]
   refine a6y o h (fun ab k u ae av an h=>?_)
   exact ⟨ab,k,by rfl,ae,an,av,h⟩
  ·exact ⟨(Sl.mk none 0 0),ap,by rw [b0D y],o,fun _ _ _=>rfl,Hle.refl _,h.2 y⟩
  ·clear h
   rintro au u ⟨ab,k,rfl,ae,an,av,h⟩
   refine ⟨(an _ (o.bring 3).lt1 (Inv.E0 (Fi:=[]) (o.bring 3))),?_⟩
   refine a8X (D:=fun aw af=>∃(m:Bool)(d:f7)(j:(List ByteArray))(f:Hp)(q:Sl)(r:Frag),aw=(gv (!p) false (vB m))∧(RowL 9 1 j8 q j r)∧(Inv w0 ps0 H0 f [bx g2 66 [(Value.pointer (some ⟨g2b,0,none⟩))],bx g2b 65 (X9 d q),r,bx g3 111 [(Value.func (.func 60) #[] #[(Value.pointer (some ⟨g2,0,none⟩)),(Value.pointer (some ⟨g3,0,none⟩))])]] af)∧(∀i,i < u.heap.size→¬inF [bx g2 66 [(Value.pointer (some ⟨g2b,0,none⟩))],bx g2b 65 (X9 aa ac),ad,bx g3 111 [(Value.func (.func 60) #[] #[(Value.pointer (some ⟨g2,0,none⟩)),(Value.pointer (some ⟨g3,0,none⟩))])]] i→af.heap[i]? = u.heap[i]?)∧Hle k f∧((((!p)||(!m))=true→
 K false (U4 d) j f)∧
 (((!p)||(!m))=false→
 n2 ((IntKind.wrap .i64 (a1q+1)),d.fnodes,d.fdepth,d.fe,d.fform,d.fnamed,j) f))) (fun t=>?_) (fun t=>?_) ?_
   ·replace h:=h.1 t
    have c:=t
    simp only [d9 c]
    refine a3K (cap:=[(Value.pointer (some ⟨g2,0,none⟩)),(Value.pointer (some ⟨g3,0,none⟩))]) Tryz.call60 (h g2 g2b g3 ac ad ar) ((((ae.bring 3).bring 2).bring 2).bring 3) ?_
    rintro _ f _ af ag ax ay ⟨m,d,j,q,r,rfl,rfl,ah,h⟩
    exact ⟨m,d,j,f,q,r,by rfl,ah,ag,ay,ax,h⟩
   ·exact ⟨false,(U4 aa),am,k,ac,ad,by rw [b0D t],ar,((((ae.bring 3).bring 2).bring 2).bring 3),fun _ _ _=>rfl,Hle.refl _,h.2 t⟩
   ·clear h
    rintro aw af ⟨m,d,j,f,q,r,rfl,ah,ag,ay,ax,h⟩
    refine f6 (Pu.g fun c=>by simp only [d9 c];with_reducible exact (T5 _)) ?_
    refine f6 (K7 _ _) ?_
    refine g6 h (fun _ h=>?_) (fun _ h=>?_)
    ·exact hR _ f _ _ ((((ag.bring 3).bring 3).bring 3).bring 3) ⟨false,(U4 d),j,q,r,rfl,rfl,ah,h⟩
    ·refine a7 pAd ?_
     exact hn2 _ _ _ (hm2 _ _ h).2 ⟨((IntKind.wrap .i64 (a1q+1)),d.fnodes,d.fdepth,d.fe,d.fform,d.fnamed,j),f,q,r,rfl,rfl,ah,((((ag.bring 2).bring 3).bring 3).bring 3),(hm2 _ _ h).1⟩
 ·exact hx1 _ _ (hj1 a0l a0m a0o a0p a0q V6 a4X a4Y H _ a7Q ((((I.bring 3).bring 3).bring 3).bring 3) h)
def a2Y(x0:d8)(H:Hp)(K:Int→Hp→Prop):Prop:=
 ∀(b:Sl)(a:Hp),Hle H a→SlH a 1 l7 b [(c6.v1 (B6.mk x0))]→NewS H a 92 1 b→
 a0z b a (fun c d=>
 K c.fe d)
theorem a7R(x0){H K}(h:a2Y x0 H K):a2Q x0 H K:=by
 refine Ct.of fun w0 w ps0 H0 R E I hR=>b8r ?_
 unfold a2Y at h
 unfold F18
 refine y7 I (cs:=(c7 x0)) rfl fun p q a r=>?_
 refine b9 (lW Tryz.isAgg36 Tryz.sizeOf36 rfl a) (a7 (a8z _ _ _ _ _ _) (a7 (a5I (B6.mk x0)) ?_))
 refine W0 (e:=92) (c:=l7) (xs:=[(c6.v1 (B6.mk x0))]) a (a6H _) rfl rfl G9 K4 (nb rfl) fun d s t f g u=>?_
 obtain ⟨i,j,k,l,m⟩:=Inv.freezeN g f (by decide)
 replace h:=h d i k l m
 refine d3 Tryz.call36 h j ?_
 rintro _ n _ v b _ _ ⟨o,y,rfl,rfl,h⟩
 refine a7 (g7 _) (a7 a3r (b9 (l1 Tryz.isAgg27 b rfl) ?_))
 exact hR _ n _ _ b.drop.drop ⟨o.fe,rfl,rfl,h⟩
def a3U(x0:c5)(a:(List Int))(H:Hp)(K:Int→Hp→Prop):Prop:=
 K (a.length:Int) H
theorem a6N(x0 a){H K}(h:a3U x0 a H K):a1Y x0 a H K:=by
 intro g0 c d b
 refine Ct.of fun w0 w ps0 H0 R E I hR=>b8B ?_
 unfold a3U at h
 unfold F29
 refine a7 (g7 _) (a7 a4c (b9 (l1 Tryz.isAgg40 I rfl) (a7 (a6X Tryz.underlying40 b) ?_)))
 exact hR _ H _ _ ((I.bring 1).bring 1) ⟨(a.length:Int),rfl,rfl,h⟩
def a2r(x0:i6)(H:Hp)(K:c6→Hp→Prop):Prop:=
 K (c6.B4 (L4.mk x0)) H
theorem a7m(x0){H K}(h:a2r x0 H K):a4g x0 H K:=by
 refine Ct.of fun w0 w ps0 H0 R E I hR=>b8Q ?_
 unfold a2r at h
 unfold F45
 refine y7 I (cs:=(d7 x0)) rfl fun b c a d=>?_
 refine b9 (lW Tryz.isAgg51 Tryz.sizeOf51 rfl a) (a7 (b0Q _ _ _ _ _ _ _ _ _ _ _ _ _ _) (a7 (b0o (L4.mk x0)) ?_))
 exact hR _ H _ _ a.drop ⟨(c6.B4 (L4.mk x0)),rfl,rfl,h⟩
def a3F(x0:l9)(H:Hp)(K:f7→Hp→Prop):Prop:=
 C0 x0.G1 H (fun d e=>
 p7 x0.Z1 e (fun f c=>
 ∀(b:Sl)(a:Hp),Hle c a→SlH a 1 csl b [d,f]→NewS c a 86 1 b→
 t7 b a (fun g i=>
 a0z g i (fun j k=>
 K j k))))
theorem a8s(x0){H K}(h:a3F x0 H K):a3B x0 H K:=by
 refine Ct.of fun w0 w ps0 H0 R E I hR=>b8t ?_
 unfold a3F at h
 unfold F20
 refine y7 I (cs:=(o8 x0)) rfl fun z aa b ab=>?_
 refine V9 b fun ac a=>?_
 refine f6 a0x ?_
 refine f6 a2i ?_
 refine l8 (l1 Tryz.isAgg22 a rfl) ?_
 refine l8 (l1 Tryz.isAgg23 a rfl) ?_
 refine d3 Tryz.call42 h a ?_
 rintro _ _ _ ad d _ f ⟨g,rfl,rfl,h⟩
 refine ⟨(f _ a.lt1 (Inv.E0 (Fi:=[]) a)),?_⟩
 refine d3 Tryz.call44 h d ?_
 rintro _ _ _ ae i _ _ ⟨j,rfl,rfl,h⟩
 refine W0 (e:=86) (c:=csl) (xs:=[g,j]) i (b0O _ _ _ _ _ _) rfl rfl b0r b0s (nb rfl) fun k af ag l m ah=>?_
 obtain ⟨n,o,p,q,r⟩:=Inv.freezeN m l (by decide)
 replace h:=h k n p q r
 refine d3 Tryz.call41 h o ?_
 rintro _ _ _ ai s _ _ ⟨aj,rfl,rfl,h⟩
 refine d3 Tryz.call36 h s ?_
 rintro _ t _ ak u _ _ ⟨v,y,rfl,rfl,h⟩
 exact hR _ t _ _ (u.bring 1).drop ⟨v,y,rfl,rfl,h⟩
def f5(i7:Bool)(H:Hp)(K:Bool→Hp→Prop):Prop:=
 (i7=true→
 K true H)∧
 (i7=false→
 K false H)
def a1i(x0:ByteArray)(H:Hp)(K:Bool→Hp→Prop):Prop:=
 (x0=⟨#[118,97,114]⟩→
 f5 (decide (x0=⟨#[118,97,114]⟩)) H K)∧
 (¬(x0=⟨#[118,97,114]⟩)→
 (x0=⟨#[97,114,114,97,121]⟩→
 f5 (decide (x0=⟨#[97,114,114,97,121]⟩)) H K)∧
 (¬(x0=⟨#[97,114,114,97,121]⟩)→
 (x0=⟨#[105,102]⟩→
 f5 (decide (x0=⟨#[105,102]⟩)) H K)∧
 (¬(x0=⟨#[105,102]⟩)→
 (x0=⟨#[101,108,115,101]⟩→
 f5 (decide (x0=⟨#[101,108,115,101]⟩)) H K)∧
 (¬(x0=⟨#[101,108,115,101]⟩)→
 (x0=⟨#[119,104,105,108,101]⟩→
 f5 (decide (x0=⟨#[119,104,105,108,101]⟩)) H K)∧
 (¬(x0=⟨#[119,104,105,108,101]⟩)→
 (x0=⟨#[97,115,115,101,114,116]⟩→
 f5 (decide (x0=⟨#[97,115,115,101,114,116]⟩)) H K)∧
 (¬(x0=⟨#[97,115,115,101,114,116]⟩)→
 (x0=⟨#[97,115,115,117,109,101]⟩→
 f5 (decide (x0=⟨#[97,115,115,117,109,101]⟩)) H K)∧
 (¬(x0=⟨#[97,115,115,117,109,101]⟩)→
 (x0=⟨#[115,107,105,112]⟩→
 f5 (decide (x0=⟨#[115,107,105,112]⟩)) H K)∧
 (¬(x0=⟨#[115,107,105,112]⟩)→
 (x0=⟨#[105,110,112,117,116]⟩→
 f5 (decide (x0=⟨#[105,110,112,117,116]⟩)) H K)∧
 (¬(x0=⟨#[105,110,112,117,116]⟩)→
 (x0=⟨#[116,114,117,101]⟩→
 f5 (decide (x0=⟨#[116,114,117,101]⟩)) H K)∧
 (¬(x0=⟨#[116,114,117,101]⟩)→
 f5 (decide (x0=⟨#[102,97,108,115,101]⟩)) H K))))))))))
theorem a5U(x0){H K}(h:a1i x0 H K):a0Y x0 H K:=by
 refine Ct.of fun w0 w ps0 H0 R E I hR=>b9n ?_
 unfold a1i at h
 unfold F77
 have hj1:∀(i7:Bool) H w (_:Inv w0 ps0 H0 H [] w) (_:f5 i7 H K),b1R (vB i7) w R E:=by
  intro i7 H w I h
  unfold b1R
  intro _
  unfold f5 at h
  refine g6 h (fun _ h=>?_) (fun _ h=>?_)
  ·exact hR _ H _ _ I ⟨true,rfl,rfl,h⟩
  ·exact hR _ H _ _ I ⟨false,rfl,rfl,h⟩
 refine k8 fun j1 hx1=>?_
 refine a7 (E9 _ _ _ _ _) ?_
 refine c8 h (fun _ h=>?_) (fun _ h=>?_)
 ·exact hx1 _ _ (hj1 (decide (x0=⟨#[118,97,114]⟩)) H _ I h)
 ·refine a7 (E9 _ _ _ _ _) ?_
  refine c8 h (fun _ h=>?_) (fun _ h=>?_)
  ·exact hx1 _ _ (hj1 (decide (x0=⟨#[97,114,114,97,121]⟩)) H _ I h)
  ·refine a7 (E9 _ _ _ _ _) ?_
   refine c8 h (fun _ h=>?_) (fun _ h=>?_)
   ·exact hx1 _ _ (hj1 (decide (x0=⟨#[105,102]⟩)) H _ I h)
   ·refine a7 (E9 _ _ _ _ _) ?_
    refine c8 h (fun _ h=>?_) (fun _ h=>?_)
    ·exact hx1 _ _ (hj1 (decide (x0=⟨#[101,108,115,101]⟩)) H _ I h)
    ·refine a7 (E9 _ _ _ _ _) ?_
     refine c8 h (fun _ h=>?_) (fun _ h=>?_)
     ·exact hx1 _ _ (hj1 (decide (x0=⟨#[119,104,105,108,101]⟩)) H _ I h)
     ·refine a7 (E9 _ _ _ _ _) ?_
      refine c8 h (fun _ h=>?_) (fun _ h=>?_)
      ·exact hx1 _ _ (hj1 (decide (x0=⟨#[97,115,115,101,114,116]⟩)) H _ I h)
      ·refine a7 (E9 _ _ _ _ _) ?_
       refine c8 h (fun _ h=>?_) (fun _ h=>?_)
       ·exact hx1 _ _ (hj1 (decide (x0=⟨#[97,115,115,117,109,101]⟩)) H _ I h)
       ·refine a7 (E9 _ _ _ _ _) ?_
        refine c8 h (fun _ h=>?_) (fun _ h=>?_)
        ·exact hx1 _ _ (hj1 (decide (x0=⟨#[115,107,105,112]⟩)) H _ I h)
        ·refine a7 (E9 _ _ _ _ _) ?_
         refine c8 h (fun _ h=>?_) (fun _ h=>?_)
         ·exact hx1 _ _ (hj1 (decide (x0=⟨#[105,110,112,117,116]⟩)) H _ I h)
         ·refine a7 (E9 _ _ _ _ _) ?_
          refine c8 h (fun _ h=>?_) (fun _ h=>?_)
          ·exact hx1 _ _ (hj1 (decide (x0=⟨#[116,114,117,101]⟩)) H _ I h)
          ·refine a7 (E9 _ _ _ _ _) ?_
           exact hx1 _ _ (hj1 (decide (x0=⟨#[102,97,108,115,101]⟩)) H _ I h)
def W8(x0:b7)(x1:Int)(H:Hp)(K:Bool→b7→Hp→Prop):Prop:=
 (¬(x0.fbad=0)→
 K false x0 H)∧
 (x0.fbad=0→
 (x0.fn=4096→
 K false (b7.mk x0.fn x0.fdepth 33) H)∧
 (¬(x0.fn=4096)→
 (64 < x1→
 K false (b7.mk x0.fn x0.fdepth 32) H)∧
 (¬(64 < x1)→
 K true (b7.mk (IntKind.wrap .i64 (x0.fn+1)) (if x1 > x0.fdepth then x1 else x0.fdepth) x0.fbad) H)))
theorem a4y(x0 x1){H K}(h:W8 x0 x1 H K):E1 x0 x1 H K:=by
 intro g0
 refine Ct.of fun w0 w ps0 H0 R E I hR=>b8U ?_
 unfold W8 at h
 unfold F51
 refine a7 (g7 _) (a7 N5 (b9 (l1 Tryz.isAgg3 I rfl) (a7 pNe ?_)))
 refine a4H h (fun _ h=>?_) (fun _ h=>?_)
 ·exact hR _ H _ _ I ⟨false,x0,rfl,rfl,h⟩
 ·refine a7 (g7 _) (a7 a7d (b9 (l1 Tryz.isAgg3 I rfl) (a7 pEq ?_)))
  refine c8 h (fun _ h=>?_) (fun _ h=>?_)
  ·refine a7 (g7 _) (a7 N5 ?_)
   refine P9 I Tryz.sizeOf3 fun e b f=>?_
   exact hR _ H _ _ b ⟨false,(b7.mk x0.fn x0.fdepth 33),rfl,rfl,h⟩
  ·refine a7 pGt ?_
   refine c8 h (fun _ h=>?_) (fun _ h=>?_)
   ·refine a7 (g7 _) (a7 N5 ?_)
    refine P9 I Tryz.sizeOf3 fun g c i=>?_
    exact hR _ H _ _ c ⟨false,(b7.mk x0.fn x0.fdepth 32),rfl,rfl,h⟩
   ·refine a7 (g7 _) (a7 a7d (b9 (l1 Tryz.isAgg3 I rfl) (a7 pAd (a7 (g7 _) ?_))))
    refine a7 a7d ?_
    refine P9 I Tryz.sizeOf3 fun j a k=>?_
    refine a7 (g7 _) (a7 a8Y (b9 (l1 Tryz.isAgg3 a rfl) (a7 (b4e _ _ _ _ _) (a7 (g7 _) ?_))))
    refine a7 a8Y ?_
    refine P9 a Tryz.sizeOf3 fun l d m=>?_
    exact hR _ H _ _ d ⟨true,(b7.mk (IntKind.wrap .i64 (x0.fn+1)) (if x1 > x0.fdepth then x1 else x0.fdepth) x0.fbad),rfl,rfl,h⟩
def S5(a1g:Int)(a:d8)(N1:Int)(O2:b7)(H:Hp)(n1:(Int×b7)→Hp→Prop)(K:b7→Hp→Prop):Prop:=
 (((decide (N1 < (a.r5.n:Int)))&&(decide (O2.fbad=0)))=true→
 (0:Int)≤N1∧(N1:Int) < a.r5.n∧∃b:d8,EltH H a.r5 N1 4 (c7 b)∧
 K1 O2 b (IntKind.wrap .i64 (a1g+1)) H (fun c d=>
 n1 ((IntKind.wrap .i64 (N1+1)),c) d))∧
 (((decide (N1 < (a.r5.n:Int)))&&(decide (O2.fbad=0)))=false→
 K O2 H)
def W9(x0:b7)(x1:d8)(x2:Int)(H:Hp)(K:b7→Hp→Prop):Prop:=
 E1 x0 x2 H (fun a b c=>
 ((!a)=true→
 K b c)∧
 ((!a)=false→
 TL ((0,b):Int×b7) c fun(s:Int×b7) H n1=>S5 x2 x1 s.1 s.2 H n1 K))
theorem a4z(x0 x1 x2){H K}(h:W9 x0 x1 x2 H K):K1 x0 x1 x2 H K:=by
 intro g0
 refine Ct.of fun w0 w ps0 H0 R E I hR=>b9m ?_
 unfold W9 at h
 unfold F76
 refine y7 I (cs:=(c7 x1)) rfl fun e q f r=>?_
 refine d3 Tryz.call51 (h g0) (f.bring 1) ?_
 rintro _ i _ s d _ _ ⟨t,j,rfl,rfl,h⟩
 refine a7 (T5 _) ?_
 refine g6 h (fun _ h=>?_) (fun _ h=>?_)
 ·exact hR _ i _ _ (d.bring 1).drop ⟨j,rfl,rfl,h⟩
 ·refine B2 (σ:=Int×b7) (fun (N1,O2)=>[(vi N1)]) (fun (N1,O2)=>[bx g0 76 (g5 O2),bx e 36 (c7 x1)]) h rfl ((d.bring 1).bring 1) ?_
  rintro ⟨N1,O2⟩ H u w next1 n1 b I h hn1
  dsimp only at b I h
  simp only [List.map_cons,List.map_nil,List.cons.injEq,and_true] at b
  have e6:=b
  simp only [e6]
  unfold b4U
  unfold S5 at h
  refine a7 G3 (b9 (l1 Tryz.isAgg34 (I.bring 1) rfl) (a7 (T6 _ _ _) (a7 pLs ?_)))
  simp only [o6]
  refine a7 (Pu.g fun a=>by simp only [d9 a];with_reducible exact (g7 _)) ?_
  refine a7 (Pu.g fun a=>by simp only [d9 a];with_reducible exact N5) ?_
  refine b9 (Ld.g fun a=>by simp only [d9 a];exact (l1 Tryz.isAgg3 I rfl)) ?_
  refine a7 (Pu.g fun a=>by simp only [d9 a];with_reducible exact pEq) ?_
  refine a7 (o7 _ _) ?_
  refine g6 h (fun _ h=>?_) (fun _ h=>?_)
  ·refine a7 G3 (b9 (l1 Tryz.isAgg34 (I.bring 1) rfl) ?_)
   obtain ⟨k,l,m,c,h⟩:=h
   obtain ⟨v,y,n,c⟩:=c
   refine a7 (B3 n _ _ _ _ k l) (b9 (ldA (vs:=(c7 m)) Tryz.isAgg36 Tryz.sizeOf36 rfl (I.atH c)) (a7 pAd ?_))
   refine d3 Tryz.call76 (h g0) I ?_
   rintro _ _ _ z o _ _ ⟨p,rfl,rfl,h⟩
   refine a7 pAd ?_
   exact hn1 ((IntKind.wrap .i64 (N1+1)),p) _ _ h ((o.bring 1).bring 1)
  ·exact hR _ H _ _ (I.bring 1).drop ⟨O2,rfl,rfl,h⟩
def S6(a1Q:Int)(a:f9)(a4m:Int)(O1:b7)(H:Hp)(n2:(Int×b7)→Hp→Prop)(K:b7→Hp→Prop):Prop:=
 (((decide (a4m < (a.o0.n:Int)))&&(decide (O1.fbad=0)))=true→
 (0:Int)≤a4m∧(a4m:Int) < a.o0.n∧∃b:f9,EltH H a.o0 a4m 4 (c9 b)∧
 O0 O1 b (IntKind.wrap .i64 (a1Q+1)) H (fun c d=>
 n2 ((IntKind.wrap .i64 (a4m+1)),c) d))∧
 (((decide (a4m < (a.o0.n:Int)))&&(decide (O1.fbad=0)))=false→
 K O1 H)
def M3(a1v:Int)(B8:b7)(a:f9)(H:Hp)(K:b7→Hp→Prop):Prop:=
 TL ((0,B8):Int×b7) H fun(s:Int×b7) H n2=>S6 a1v a s.1 s.2 H n2 K
def S7(b9R:Int)(a:f9)(a1j:Int)(a5u:b7)(H:Hp)(n3:(Int×b7)→Hp→Prop)(K:b7→Hp→Prop):Prop:=
 (((decide (a1j < (a.f0.n:Int)))&&(decide (a5u.fbad=0)))=true→
 (0:Int)≤a1j∧(a1j:Int) < a.f0.n∧∃b:d8,EltH H a.f0 a1j 4 (c7 b)∧
 K1 a5u b (IntKind.wrap .i64 (b9R+1)) H (fun c d=>
 n3 ((IntKind.wrap .i64 (a1j+1)),c) d))∧
 (((decide (a1j < (a.f0.n:Int)))&&(decide (a5u.fbad=0)))=false→
 M3 b9R a5u a H K)
def X0(x0:b7)(x1:f9)(x2:Int)(H:Hp)(K:b7→Hp→Prop):Prop:=
 E1 x0 x2 H (fun a b c=>
 ((!a)=true→
 K b c)∧
 ((!a)=false→
 TL ((0,b):Int×b7) c fun(s:Int×b7) H n3=>S7 x2 x1 s.1 s.2 H n3 K))
theorem a4A(x0 x1 x2){H K}(h:X0 x0 x1 x2 H K):O0 x0 x1 x2 H K:=by
 intro g0
 refine Ct.of fun w0 w ps0 H0 R E I hR=>b9l ?_
 unfold X0 at h
 unfold F75
 refine y7 I (cs:=(c9 x1)) rfl fun b aa j ab=>?_
 refine d3 Tryz.call51 (h g0) (j.bring 1) ?_
 rintro _ k _ ac i _ _ ⟨ad,l,rfl,rfl,h⟩
 refine a7 (T5 _) ?_
 refine g6 h (fun _ h=>?_) (fun _ h=>?_)
 ·exact hR _ k _ _ (i.bring 1).drop ⟨l,rfl,rfl,h⟩
 ·have hj1:∀(B8:b7) H w (_:Inv w0 ps0 H0 H [bx g0 76 (g5 B8),bx b 71 (c9 x1)] w) (_:M3 x2 B8 x1 H K),b1Q (Value.pointer (some ⟨g0,0,none⟩)) (vi x2) (Value.pointer (some ⟨b,0,none⟩)) w R E:=by
   intro B8 H w I h
   unfold b1Q
   intro _
   unfold M3 at h
   refine B2 (σ:=Int×b7) (fun (a4m,O1)=>[(vi a4m)]) (fun (a4m,O1)=>[bx g0 76 (g5 O1),bx b 71 (c9 x1)]) h rfl ((I.bring 1).bring 1) ?_
   rintro ⟨a4m,O1⟩ H ae w next2 n2 c I h hn2
   dsimp only at c I h
   simp only [List.map_cons,List.map_nil,List.cons.injEq,and_true] at c
   have e7:=c
   simp only [e7]
   unfold b4S
   unfold S6 at h
   refine a7 K3 (b9 (l1 Tryz.isAgg49 (I.bring 1) rfl) (a7 (a1K _ _ _) (a7 pLs ?_)))
   simp only [o6]
   refine a7 (Pu.g fun a=>by simp only [d9 a];with_reducible exact (g7 _)) ?_
   refine a7 (Pu.g fun a=>by simp only [d9 a];with_reducible exact N5) ?_
   refine b9 (Ld.g fun a=>by simp only [d9 a];exact (l1 Tryz.isAgg3 I rfl)) ?_
   refine a7 (Pu.g fun a=>by simp only [d9 a];with_reducible exact pEq) ?_
   refine a7 (o7 _ _) ?_
   refine g6 h (fun _ h=>?_) (fun _ h=>?_)
   ·refine a7 K3 (b9 (l1 Tryz.isAgg49 (I.bring 1) rfl) ?_)
    obtain ⟨m,n,o,d,h⟩:=h
    obtain ⟨af,ag,p,d⟩:=d
    refine a7 (G8 p _ _ _ _ m n) (b9 (ldA (vs:=(c9 o)) Tryz.isAgg71 Tryz.sizeOf71 rfl (I.atH d)) (a7 pAd ?_))
    refine d3 Tryz.call75 (h g0) I ?_
    rintro _ _ _ ah q _ _ ⟨r,rfl,rfl,h⟩
    refine a7 pAd ?_
    exact hn2 ((IntKind.wrap .i64 (a4m+1)),r) _ _ h ((q.bring 1).bring 1)
   ·exact hR _ H _ _ (I.bring 1).drop ⟨O1,rfl,rfl,h⟩
  refine k8 fun j1 hx1=>?_
  refine B2 (σ:=Int×b7) (fun (a1j,a5u)=>[(vi a1j)]) (fun (a1j,a5u)=>[bx g0 76 (g5 a5u),bx b 71 (c9 x1)]) h rfl ((i.bring 1).bring 1) ?_
  rintro ⟨a1j,a5u⟩ H ai w next3 n3 e I h hn3
  dsimp only at e I h
  simp only [List.map_cons,List.map_nil,List.cons.injEq,and_true] at e
  have e6:=e
  simp only [e6]
  unfold b4T
  unfold S7 at h
  refine a7 U7 (b9 (l1 Tryz.isAgg34 (I.bring 1) rfl) (a7 (T6 _ _ _) (a7 pLs ?_)))
  simp only [o6]
  refine a7 (Pu.g fun a=>by simp only [d9 a];with_reducible exact (g7 _)) ?_
  refine a7 (Pu.g fun a=>by simp only [d9 a];with_reducible exact N5) ?_
  refine b9 (Ld.g fun a=>by simp only [d9 a];exact (l1 Tryz.isAgg3 I rfl)) ?_
  refine a7 (Pu.g fun a=>by simp only [d9 a];with_reducible exact pEq) ?_
  refine a7 (o7 _ _) ?_
  refine g6 h (fun _ h=>?_) (fun _ h=>?_)
  ·refine a7 U7 (b9 (l1 Tryz.isAgg34 (I.bring 1) rfl) ?_)
   obtain ⟨s,t,u,f,h⟩:=h
   obtain ⟨aj,ak,v,f⟩:=f
   refine a7 (B3 v _ _ _ _ s t) (b9 (ldA (vs:=(c7 u)) Tryz.isAgg36 Tryz.sizeOf36 rfl (I.atH f)) (a7 pAd ?_))
   refine d3 Tryz.call76 (h g0) I ?_
   rintro _ _ _ al y _ _ ⟨z,rfl,rfl,h⟩
   refine a7 pAd ?_
   exact hn3 ((IntKind.wrap .i64 (a1j+1)),z) _ _ h ((y.bring 1).bring 1)
  ·exact hx1 _ _ (hj1 a5u H _ ((I.bring 1).bring 1) h)
def S8(c0Y:Int)(a:i6)(a3P:Int)(a0K:b7)(H:Hp)(n4:(Int×b7)→Hp→Prop)(K:b7→Hp→Prop):Prop:=
 (((decide (a3P < (a.A6.n:Int)))&&(decide (a0K.fbad=0)))=true→
 (0:Int)≤a3P∧(a3P:Int) < a.A6.n∧∃b:i6,EltH H a.A6 a3P 6 (d7 b)∧
 K2 a0K b (IntKind.wrap .i64 (c0Y+1)) H (fun c d=>
 n4 ((IntKind.wrap .i64 (a3P+1)),c) d))∧
 (((decide (a3P < (a.A6.n:Int)))&&(decide (a0K.fbad=0)))=false→
 K a0K H)
def M4(b3G:Int)(P1:b7)(a:i6)(H:Hp)(K:b7→Hp→Prop):Prop:=
 TL ((0,P1):Int×b7) H fun(s:Int×b7) H n4=>S8 b3G a s.1 s.2 H n4 K
def S9(b9S:Int)(a:i6)(a5V:Int)(N6:b7)(H:Hp)(n5:(Int×b7)→Hp→Prop)(K:b7→Hp→Prop):Prop:=
 (((decide (a5V < (a.D1.n:Int)))&&(decide (N6.fbad=0)))=true→
 (0:Int)≤a5V∧(a5V:Int) < a.D1.n∧∃b:i6,EltH H a.D1 a5V 6 (d7 b)∧
 K2 N6 b (IntKind.wrap .i64 (b9S+1)) H (fun c d=>
 n5 ((IntKind.wrap .i64 (a5V+1)),c) d))∧
 (((decide (a5V < (a.D1.n:Int)))&&(decide (N6.fbad=0)))=false→
 M4 b9S N6 a H K)
def M5(b9Q:Int)(Z5:b7)(a:i6)(H:Hp)(K:b7→Hp→Prop):Prop:=
 TL ((0,Z5):Int×b7) H fun(s:Int×b7) H n5=>S9 b9Q a s.1 s.2 H n5 K
def T0(b9T:Int)(a:i6)(a5W:Int)(a0G:b7)(H:Hp)(n6:(Int×b7)→Hp→Prop)(K:b7→Hp→Prop):Prop:=
 (((decide (a5W < (a.f0.n:Int)))&&(decide (a0G.fbad=0)))=true→
 (0:Int)≤a5W∧(a5W:Int) < a.f0.n∧∃b:d8,EltH H a.f0 a5W 4 (c7 b)∧
 K1 a0G b (IntKind.wrap .i64 (b9T+1)) H (fun c d=>
 n6 ((IntKind.wrap .i64 (a5W+1)),c) d))∧
 (((decide (a5W < (a.f0.n:Int)))&&(decide (a0G.fbad=0)))=false→
 M5 b9T a0G a H K)
def M6(a1v:Int)(B8:b7)(a:i6)(H:Hp)(K:b7→Hp→Prop):Prop:=
 TL ((0,B8):Int×b7) H fun(s:Int×b7) H n6=>T0 a1v a s.1 s.2 H n6 K
def T1(b9U:Int)(a:i6)(a5X:Int)(a0H:b7)(H:Hp)(n7:(Int×b7)→Hp→Prop)(K:b7→Hp→Prop):Prop:=
 (((decide (a5X < (a.m7.n:Int)))&&(decide (a0H.fbad=0)))=true→
 (0:Int)≤a5X∧(a5X:Int) < a.m7.n∧∃b:f9,EltH H a.m7 a5X 4 (c9 b)∧
 O0 a0H b (IntKind.wrap .i64 (b9U+1)) H (fun c d=>
 n7 ((IntKind.wrap .i64 (a5X+1)),c) d))∧
 (((decide (a5X < (a.m7.n:Int)))&&(decide (a0H.fbad=0)))=false→
 M6 b9U a0H a H K)
def X1(x0:b7)(x1:i6)(x2:Int)(H:Hp)(K:b7→Hp→Prop):Prop:=
 E1 x0 x2 H (fun a b c=>
 ((!a)=true→
 K b c)∧
 ((!a)=false→
 TL ((0,b):Int×b7) c fun(s:Int×b7) H n7=>T1 x2 x1 s.1 s.2 H n7 K))
theorem a4B(x0 x1 x2){H K}(h:X1 x0 x1 x2 H K):K2 x0 x1 x2 H K:=by
 intro g0
 refine Ct.of fun w0 w ps0 H0 R E I hR=>b8V ?_
 unfold X1 at h
 unfold F52
 refine y7 I (cs:=(d7 x1)) rfl fun b aq n ar=>?_
 refine d3 Tryz.call51 (h g0) (n.bring 1) ?_
 rintro _ o _ au m _ _ ⟨av,p,rfl,rfl,h⟩
 refine a7 (T5 _) ?_
 refine g6 h (fun _ h=>?_) (fun _ h=>?_)
 ·exact hR _ o _ _ (m.bring 1).drop ⟨p,rfl,rfl,h⟩
 ·have hj1:∀(B8:b7) H w (_:Inv w0 ps0 H0 H [bx g0 76 (g5 B8),bx b 51 (d7 x1)] w) (_:M6 x2 B8 x1 H K),b1x (Value.pointer (some ⟨g0,0,none⟩)) (vi x2) (Value.pointer (some ⟨b,0,none⟩)) w R E:=by
   intro B8 H w I h
   unfold b1x
   intro _
   unfold M6 at h
   have hj2:∀(Z5:b7) H w (_:Inv w0 ps0 H0 H [bx g0 76 (g5 Z5),bx b 51 (d7 x1)] w) (_:M5 x2 Z5 x1 H K),b1w (Value.pointer (some ⟨g0,0,none⟩)) (vi x2) (Value.pointer (some ⟨b,0,none⟩)) w R E:=by
    intro Z5 H w I h
    unfold b1w
    intro _
    unfold M5 at h
    have hj3:∀(P1:b7) H w (_:Inv w0 ps0 H0 H [bx g0 76 (g5 P1),bx b 51 (d7 x1)] w) (_:M4 x2 P1 x1 H K),b1v (Value.pointer (some ⟨g0,0,none⟩)) (vi x2) (Value.pointer (some ⟨b,0,none⟩)) w R E:=by
     intro P1 H w I h
     unfold b1v
     intro _
     unfold M4 at h
     refine B2 (σ:=Int×b7) (fun (a3P,a0K)=>[(vi a3P)]) (fun (a3P,a0K)=>[bx g0 76 (g5 a0K),bx b 51 (d7 x1)]) h rfl ((I.bring 1).bring 1) ?_
     rintro ⟨a3P,a0K⟩ H aw w next4 n4 c I h hn4
     dsimp only at c I h
     simp only [List.map_cons,List.map_nil,List.cons.injEq,and_true] at c
     have e9:=c
     simp only [e9]
     unfold b4I
     unfold S8 at h
     refine a7 R0 (b9 (l1 Tryz.isAgg23 (I.bring 1) rfl) (a7 (K8 _ _ _) (a7 pLs ?_)))
     simp only [o6]
     refine a7 (Pu.g fun a=>by simp only [d9 a];with_reducible exact (g7 _)) ?_
     refine a7 (Pu.g fun a=>by simp only [d9 a];with_reducible exact N5) ?_
     refine b9 (Ld.g fun a=>by simp only [d9 a];exact (l1 Tryz.isAgg3 I rfl)) ?_
     refine a7 (Pu.g fun a=>by simp only [d9 a];with_reducible exact pEq) ?_
     refine a7 (o7 _ _) ?_
     refine g6 h (fun _ h=>?_) (fun _ h=>?_)
     ·refine a7 R0 (b9 (l1 Tryz.isAgg23 (I.bring 1) rfl) ?_)
      obtain ⟨q,r,s,d,h⟩:=h
      obtain ⟨ax,ay,t,d⟩:=d
      refine a7 (a1P t _ _ _ _ q r) (b9 (ldA (vs:=(d7 s)) Tryz.isAgg51 Tryz.sizeOf51 rfl (I.atH d)) (a7 pAd ?_))
      refine d3 Tryz.call52 (h g0) I ?_
      rintro _ _ _ az u _ _ ⟨v,rfl,rfl,h⟩
      refine a7 pAd ?_
      exact hn4 ((IntKind.wrap .i64 (a3P+1)),v) _ _ h ((u.bring 1).bring 1)
     ·exact hR _ H _ _ (I.bring 1).drop ⟨a0K,rfl,rfl,h⟩
    refine k8 fun j3 hx3=>?_
    refine B2 (σ:=Int×b7) (fun (a5V,N6)=>[(vi a5V)]) (fun (a5V,N6)=>[bx g0 76 (g5 N6),bx b 51 (d7 x1)]) h rfl ((I.bring 1).bring 1) ?_
    rintro ⟨a5V,N6⟩ H ba w next5 n5 e I h hn5
    dsimp only at e I h
    simp only [List.map_cons,List.map_nil,List.cons.injEq,and_true] at e
    have e8:=e
    simp only [e8]
    unfold b4J
    unfold S9 at h
    refine a7 U6 (b9 (l1 Tryz.isAgg23 (I.bring 1) rfl) (a7 (K8 _ _ _) (a7 pLs ?_)))
    simp only [o6]
    refine a7 (Pu.g fun a=>by simp only [d9 a];with_reducible exact (g7 _)) ?_
    refine a7 (Pu.g fun a=>by simp only [d9 a];with_reducible exact N5) ?_
    refine b9 (Ld.g fun a=>by simp only [d9 a];exact (l1 Tryz.isAgg3 I rfl)) ?_
    refine a7 (Pu.g fun a=>by simp only [d9 a];with_reducible exact pEq) ?_
    refine a7 (o7 _ _) ?_
    refine g6 h (fun _ h=>?_) (fun _ h=>?_)
    ·refine a7 U6 (b9 (l1 Tryz.isAgg23 (I.bring 1) rfl) ?_)
     obtain ⟨y,z,aa,f,h⟩:=h
     obtain ⟨bb,bc,ab,f⟩:=f
     refine a7 (a1P ab _ _ _ _ y z) (b9 (ldA (vs:=(d7 aa)) Tryz.isAgg51 Tryz.sizeOf51 rfl (I.atH f)) (a7 pAd ?_))
     refine d3 Tryz.call52 (h g0) I ?_
     rintro _ _ _ bd ac _ _ ⟨ad,rfl,rfl,h⟩
     refine a7 pAd ?_
     exact hn5 ((IntKind.wrap .i64 (a5V+1)),ad) _ _ h ((ac.bring 1).bring 1)
    ·exact hx3 _ _ (hj3 N6 H _ ((I.bring 1).bring 1) h)
   refine k8 fun j2 hx2=>?_
   refine B2 (σ:=Int×b7) (fun (a5W,a0G)=>[(vi a5W)]) (fun (a5W,a0G)=>[bx g0 76 (g5 a0G),bx b 51 (d7 x1)]) h rfl ((I.bring 1).bring 1) ?_
   rintro ⟨a5W,a0G⟩ H be w next6 n6 i I h hn6
   dsimp only at i I h
   simp only [List.map_cons,List.map_nil,List.cons.injEq,and_true] at i
   have e7:=i
   simp only [e7]
   unfold b4K
   unfold T0 at h
   refine a7 O8 (b9 (l1 Tryz.isAgg34 (I.bring 1) rfl) (a7 (T6 _ _ _) (a7 pLs ?_)))
   simp only [o6]
   refine a7 (Pu.g fun a=>by simp only [d9 a];with_reducible exact (g7 _)) ?_
   refine a7 (Pu.g fun a=>by simp only [d9 a];with_reducible exact N5) ?_
   refine b9 (Ld.g fun a=>by simp only [d9 a];exact (l1 Tryz.isAgg3 I rfl)) ?_
   refine a7 (Pu.g fun a=>by simp only [d9 a];with_reducible exact pEq) ?_
   refine a7 (o7 _ _) ?_
   refine g6 h (fun _ h=>?_) (fun _ h=>?_)
   ·refine a7 O8 (b9 (l1 Tryz.isAgg34 (I.bring 1) rfl) ?_)
    obtain ⟨ae,af,ag,j,h⟩:=h
    obtain ⟨bf,bg,ah,j⟩:=j
    refine a7 (B3 ah _ _ _ _ ae af) (b9 (ldA (vs:=(c7 ag)) Tryz.isAgg36 Tryz.sizeOf36 rfl (I.atH j)) (a7 pAd ?_))
    refine d3 Tryz.call76 (h g0) I ?_
    rintro _ _ _ bh ai _ _ ⟨aj,rfl,rfl,h⟩
    refine a7 pAd ?_
    exact hn6 ((IntKind.wrap .i64 (a5W+1)),aj) _ _ h ((ai.bring 1).bring 1)
   ·exact hx2 _ _ (hj2 a0G H _ ((I.bring 1).bring 1) h)
  refine k8 fun j1 hx1=>?_
  refine B2 (σ:=Int×b7) (fun (a5X,a0H)=>[(vi a5X)]) (fun (a5X,a0H)=>[bx g0 76 (g5 a0H),bx b 51 (d7 x1)]) h rfl ((m.bring 1).bring 1) ?_
  rintro ⟨a5X,a0H⟩ H bi w next7 n7 k I h hn7
  dsimp only at k I h
  simp only [List.map_cons,List.map_nil,List.cons.injEq,and_true] at k
  have e6:=k
  simp only [e6]
  unfold b4L
  unfold T1 at h
  refine a7 L6 (b9 (l1 Tryz.isAgg49 (I.bring 1) rfl) (a7 (a1K _ _ _) (a7 pLs ?_)))
  simp only [o6]
  refine a7 (Pu.g fun a=>by simp only [d9 a];with_reducible exact (g7 _)) ?_
  refine a7 (Pu.g fun a=>by simp only [d9 a];with_reducible exact N5) ?_
  refine b9 (Ld.g fun a=>by simp only [d9 a];exact (l1 Tryz.isAgg3 I rfl)) ?_
  refine a7 (Pu.g fun a=>by simp only [d9 a];with_reducible exact pEq) ?_
  refine a7 (o7 _ _) ?_
  refine g6 h (fun _ h=>?_) (fun _ h=>?_)
  ·refine a7 L6 (b9 (l1 Tryz.isAgg49 (I.bring 1) rfl) ?_)
   obtain ⟨ak,al,am,l,h⟩:=h
   obtain ⟨bj,bk,an,l⟩:=l
   refine a7 (G8 an _ _ _ _ ak al) (b9 (ldA (vs:=(c9 am)) Tryz.isAgg71 Tryz.sizeOf71 rfl (I.atH l)) (a7 pAd ?_))
   refine d3 Tryz.call75 (h g0) I ?_
   rintro _ _ _ bl ao _ _ ⟨ap,rfl,rfl,h⟩
   refine a7 pAd ?_
   exact hn7 ((IntKind.wrap .i64 (a5X+1)),ap) _ _ h ((ao.bring 1).bring 1)
  ·exact hx1 _ _ (hj1 a0H H _ ((I.bring 1).bring 1) h)
def P3(a:a8)(d:b7)(e:l9)(H:Hp)(K:Int→Hp→Prop):Prop:=
 W2 a H (fun b c=>
 K b c)
def Y7(d:b7)(a:l9)(a1j:Int)(b:a8)(H:Hp)(n3:(Int×a8)→Hp→Prop)(K:Int→Hp→Prop):Prop:=
 (((decide (a1j < (a.Z1.n:Int)))&&b.fok)=true→
 (0:Int)≤a1j∧(a1j:Int) < a.Z1.n∧∃c:i6,EltH H a.Z1 a1j 6 (d7 c)∧
 K0 b c H (fun e f=>
 n3 ((IntKind.wrap .i64 (a1j+1)),e) f))∧
 (((decide (a1j < (a.Z1.n:Int)))&&b.fok)=false→
 P3 b d a H K)
def P4(a:a8)(b:b7)(c:l9)(H:Hp)(K:Int→Hp→Prop):Prop:=
 TL ((0,a):Int×a8) H fun(s:Int×a8) H n3=>Y7 b c s.1 s.2 H n3 K
def Y8(f:b7)(a:l9)(a2Z:Int)(b:a8)(H:Hp)(n4:(Int×a8)→Hp→Prop)(K:Int→Hp→Prop):Prop:=
 (a2Z < (a.G1.n:Int)→
 ∃c:G4,(b.fok=true→(0:Int)≤a2Z∧(a2Z:Int) < a.G1.n∧EltH H a.G1 a2Z 2 (u7 c))∧
 ∃d:G4,((b.fok&&(decide (0≤c.L3)))=true→(0:Int)≤a2Z∧(a2Z:Int) < a.G1.n∧EltH H a.G1 a2Z 2 (u7 d))∧
 (0:Int)≤a2Z∧(a2Z:Int) < a.G1.n∧∃e:G4,EltH H a.G1 a2Z 2 (u7 e)∧
 J8 (a8.mk ((b.fok&&(decide (0≤c.L3)))&&(decide (d.L3≤2147483647))) b.fnames) e.f4 true H (fun g i=>
 n4 ((IntKind.wrap .i64 (a2Z+1)),g) i))∧
 (¬(a2Z < (a.G1.n:Int))→
 P4 b f a H K)
def a0L(x0:l9)(H:Hp)(K:Int→Hp→Prop):Prop:=
 a0i x0 H (fun a b=>
 (¬(a.fbad=0)→
 K a.fbad b)∧
 (a.fbad=0→
 TL ((0,(a8.mk true true)):Int×a8) b fun(s:Int×a8) H n4=>Y8 a x0 s.1 s.2 H n4 K))
theorem a5v(x0){H K}(h:a0L x0 H K):a0C x0 H K:=by
 refine Ct.of fun w0 w ps0 H0 R E I hR=>b8n ?_
 unfold a0L at h
 unfold F14
 refine y7 I (cs:=(o8 x0)) rfl fun f ax aa ay=>?_
 refine b9 (lW Tryz.isAgg25 Tryz.sizeOf25 rfl aa) ?_
 refine d3 Tryz.call30 h aa ?_
 rintro _ ab _ az ac _ _ ⟨d,rfl,rfl,h⟩
 refine L1 ac Tryz.zeroValue76 (cs:=[(vi 0),(vi 0),(vi 0)]) rfl fun i ba ad bb=>?_
 refine U3 ad Tryz.sizeOf76 (vs:=(g5 d)) fun bc j bd=>?_
 refine a7 N5 (b9 (l1 Tryz.isAgg3 j rfl) (a7 pNe ?_))
 refine a4H h (fun _ h=>?_) (fun _ h=>?_)
 ·refine a7 N5 (b9 (l1 Tryz.isAgg3 j rfl) ?_)
  exact hR _ ab _ _ j.drop.drop ⟨d.fbad,rfl,rfl,h⟩
 ·refine a7 (b0m _ _) ?_
  refine L1 j Tryz.zeroValue79 (cs:=[(vB false),(vB false)]) rfl fun e be ae bf=>?_
  refine U3 ae Tryz.sizeOf79 (vs:=[(vB true),(vB true)]) fun bg af bh=>?_
  have hj1:∀(o:a8) H w (_:Inv w0 ps0 H0 H [bx e 79 (f8 o),bx i 76 (g5 d),bx f 25 (o8 x0)] w) (_:P4 o d x0 H K),b0W (Value.pointer (some ⟨f,0,none⟩)) (Value.pointer (some ⟨e,0,none⟩)) w R E:=by
   intro o H w I h
   unfold b0W
   intro _
   unfold P4 at h
   have hj2:∀(p:a8) H w (_:Inv w0 ps0 H0 H [bx e 79 (f8 p),bx i 76 (g5 d),bx f 25 (o8 x0)] w) (_:P3 p d x0 H K),b0V (Value.pointer (some ⟨e,0,none⟩)) w R E:=by
    intro p H w I h
    unfold b0V
    intro _
    unfold P3 at h
    refine b9 (lW Tryz.isAgg79 Tryz.sizeOf79 rfl I) ?_
    refine d3 Tryz.call33 h I ?_
    rintro _ ag _ bi ah _ _ ⟨ai,rfl,rfl,h⟩
    exact hR _ ag _ _ ah.drop.drop.drop ⟨ai,rfl,rfl,h⟩
   refine k8 fun j2 hx2=>?_
   refine B2 (σ:=Int×a8) (fun (a1j,l)=>[(vi a1j)]) (fun (a1j,l)=>[bx e 79 (f8 l),bx i 76 (g5 d),bx f 25 (o8 x0)]) h rfl (((I.bring 2).bring 2).bring 2) ?_
   rintro ⟨a1j,l⟩ H bj w next3 n3 q I h hn3
   dsimp only at q I h
   simp only [List.map_cons,List.map_nil,List.cons.injEq,and_true] at q
   have e6:=q
   simp only [e6]
   unfold b4r
   unfold Y7 at h
   refine a7 a2i (b9 (l1 Tryz.isAgg23 (I.bring 2) rfl) (a7 (K8 _ _ _) (a7 pLs ?_)))
   refine a7 (Pu.g fun a=>by with_reducible exact B7) ?_
   refine b9 (Ld.g fun a=>by simp only [d9 a];exact (l1 Tryz.isAgg4 I rfl)) ?_
   refine a7 (o7 _ _) ?_
   refine g6 h (fun _ h=>?_) (fun _ h=>?_)
   ·refine a7 a2i (b9 (l1 Tryz.isAgg23 (I.bring 2) rfl) ?_)
    obtain ⟨aj,ak,al,r,h⟩:=h
    obtain ⟨bk,bl,am,r⟩:=r
    refine a7 (a1P am _ _ _ _ aj ak) (b9 (ldA (vs:=(d7 al)) Tryz.isAgg51 Tryz.sizeOf51 rfl (I.atH r)) ?_)
    refine d3 Tryz.call32 (h e) I ?_
    rintro _ _ _ bm an _ _ ⟨ao,rfl,rfl,h⟩
    refine a7 pAd ?_
    exact hn3 ((IntKind.wrap .i64 (a1j+1)),ao) _ _ h (((an.bring 2).bring 2).bring 2)
   ·exact hx2 _ _ (hj2 l H _ (((I.bring 2).bring 2).bring 2) h)
  refine k8 fun j1 hx1=>?_
  refine B2 (σ:=Int×a8) (fun (a2Z,m)=>[(vi a2Z)]) (fun (a2Z,m)=>[bx e 79 (f8 m),bx i 76 (g5 d),bx f 25 (o8 x0)]) h rfl (((af.bring 2).bring 2).bring 2) ?_
  rintro ⟨a2Z,m⟩ H bn w next4 n4 s I h hn4
  dsimp only at s I h
  simp only [List.map_cons,List.map_nil,List.cons.injEq,and_true] at s
  have e5:=s
  simp only [e5]
  unfold b4s
  unfold Y8 at h
  refine a7 a0x (b9 (l1 Tryz.isAgg22 (I.bring 2) rfl) (a7 (a4V _ _ _) (a7 pLs ?_)))
  refine c8 h (fun _ h=>?_) (fun _ h=>?_)
  ·refine a7 B7 (b9 (l1 Tryz.isAgg4 I rfl) ?_)
   refine a7 (Pu.g fun a=>by with_reducible exact a0x) ?_
   refine b9 (Ld.g fun a=>by simp only [d9 a];exact (l1 Tryz.isAgg22 (I.bring 2) rfl)) ?_
   simp only [o6]
   obtain ⟨t,b,h⟩:=h
   obtain ⟨bo,bp,b⟩:=b6s b
   refine a7 (Pu.g fun hb=>by have a:=hb;simp only [d9 a];with_reducible exact (a4I (b hb).2.2.1 _ _ _ _ (b hb).1 (b hb).2.1)) ?_
   refine a7 (Pu.g fun a=>by simp only [d9 a];with_reducible exact a1J) ?_
   refine b9 (Ld.g fun hb=>by have a:=hb;simp only [d9 a];exact (ld1 (v:=(vi t.L3)) Tryz.isAgg3 ((I.atH (b hb).2.2.2).sub (k:=1) (n:=1) (nb rfl)))) ?_
   refine a7 (Pu.g fun a=>by simp only [d9 a];with_reducible exact pGe) ?_
   refine a7 (o7 _ _) ?_
   refine a7 (Pu.g fun a=>by with_reducible exact a0x) ?_
   refine b9 (Ld.g fun a=>by simp only [d9 a];exact (l1 Tryz.isAgg22 (I.bring 2) rfl)) ?_
   simp only [o6]
   obtain ⟨u,c,h⟩:=h
   obtain ⟨bq,br,c⟩:=b6s c
   refine a7 (Pu.g fun hb=>by have a:=hb;simp only [d9 a];with_reducible exact (a4I (c hb).2.2.1 _ _ _ _ (c hb).1 (c hb).2.1)) ?_
   refine a7 (Pu.g fun a=>by simp only [d9 a];with_reducible exact a1J) ?_
   refine b9 (Ld.g fun hb=>by have a:=hb;simp only [d9 a];exact (ld1 (v:=(vi u.L3)) Tryz.isAgg3 ((I.atH (c hb).2.2.2).sub (k:=1) (n:=1) (nb rfl)))) ?_
   refine a7 (Pu.g fun a=>by simp only [d9 a];with_reducible exact pLe) ?_
   refine a7 (o7 _ _) (a7 B7 ?_)
   refine P9 I Tryz.sizeOf4 fun bs y bt=>?_
   refine a7 a0x (b9 (l1 Tryz.isAgg22 (y.bring 2) rfl) ?_)
   obtain ⟨ap,aq,ar,z,h⟩:=h
   obtain ⟨bu,bv,au,z⟩:=z
   refine a7 (a4I au _ _ _ _ ap aq) (a7 a3o (b9 (ld1 (v:=(Value.string ar.f4)) Tryz.isAgg9 ((y.atH z).sub (k:=0) (n:=1) (nb rfl))) ?_))
   refine d3 Tryz.call31 (h e) y ?_
   rintro _ _ _ bw av _ _ ⟨aw,rfl,rfl,h⟩
   refine a7 pAd ?_
   exact hn4 ((IntKind.wrap .i64 (a2Z+1)),aw) _ _ h (((av.bring 2).bring 2).bring 2)
  ·exact hx1 _ _ (hj1 m H _ (((I.bring 2).bring 2).bring 2) h)
def N7(V7:(Option Addr))(a1M:(List Int))(P5:Int)(H:Hp)(K:c5→(List Int)→Hp→Prop):Prop:=
 K (c5.mk (r6.mk V7 (Sl.mk none 0 0)) (IntKind.wrap .i64 (P5-1))) a1M H
def N8(b6C:Sl)(b6D:Int)(a1W:Int)(V8:(Option Addr))(R4:(List Int))(a1D:Int)(H:Hp)(n2:(Int×(Option Addr)×(List Int)×Int)→Hp→Prop)(K:c5→(List Int)→Hp→Prop):Prop:=
 (a1W < b6D→
 (0:Int)≤a1W∧(a1W:Int) < b6C.n∧∃a:i6,EltH H b6C a1W 6 (d7 a)∧
 R2 (c5.mk (r6.mk V8 (Sl.mk none 0 0)) a1D) R4 a H (fun b c d=>
 n2 ((IntKind.wrap .i64 (a1W+1)),b.A9.faddr,c,b.fdeep) d))∧
 (¬(a1W < b6D)→
 N7 V8 R4 a1D H K)
def a0b(x0:c5)(a:(List Int))(x1:Sl)(H:Hp)(K:c5→(List Int)→Hp→Prop):Prop:=
 TL ((0,x0.A9.faddr,a,(IntKind.wrap .i64 (x0.fdeep+1))):Int×(Option Addr)×(List Int)×Int) H fun(s:Int×(Option Addr)×(List Int)×Int) H n2=>N8 x1 (x1.n:Int) s.1 s.2.1 s.2.2.1 s.2.2.2 H n2 K
theorem a4Z(x0 d x1){H K}(h:a0b x0 d x1 H K):Q0 x0 d x1 H K:=by
 intro g0 m o p
 refine Ct.of fun w0 w ps0 H0 R E I hR=>b8A ?_
 unfold a0b at h
 unfold F28
 refine a7 (g7 _) (a7 a4d (b9 (l1 Tryz.isAgg3 I rfl) (a7 pAd (a7 (g7 _) ?_))))
 refine a7 a4d ?_
 refine P9 I Tryz.sizeOf3 fun ai q aj=>?_
 have hj1:∀(V7:(Option Addr))(a1M:(List Int))(P5:Int)(a5w:Sl)(a5x:Frag) H w (_:RowL 5 1 k9 a5w a1M a5x) (_:Inv w0 ps0 H0 H [bx g0 44 [(adv g0 V7),(vs a5w),(vi P5)],a5x] w) (_:N7 V7 a1M P5 H K),b1a (Value.pointer (some ⟨g0,0,none⟩)) w R E:=by
  intro V7 a1M P5 a5w a5x H w b3H I h
  unfold b1a
  intro _
  unfold N7 at h
  refine a7 (g7 _) (a7 a4d (b9 (l1 Tryz.isAgg3 I rfl) (a7 pSu (a7 (g7 _) ?_))))
  refine a7 a4d ?_
  refine P9 I Tryz.sizeOf3 fun ak r al=>?_
  exact hR _ H _ _ ((r.bring 1).bring 1) ⟨(c5.mk (r6.mk V7 (Sl.mk none 0 0)) (IntKind.wrap .i64 (P5-1))),a1M,a5w,a5x,rfl,rfl,b3H,h⟩
 refine k8 fun j1 hx1=>?_
 refine a7 (K8 _ _ _) ?_
 obtain ⟨e,c,t,u⟩:=h
 refine a1B (J:=fun n l w=>∃(s:Int×(Option Addr)×(List Int)×Int)(H:Hp)(a4n:Sl)(a4o:Frag),n=c s∧l=(match s with | (a1W,V8,R4,a1D)=>[(vi a1W)])∧(match s with | (a1W,V8,R4,a1D)=>RowL 5 1 k9 a4n R4 a4o)∧(match s with | (a1W,V8,R4,a1D)=>Inv w0 ps0 H0 H [bx g0 44 [(adv g0 V8),(vs a4n),(vi a1D)],a4o] w)∧e s H) ⟨_,(0,x0.A9.faddr,d,(IntKind.wrap .i64 (x0.fdeep+1))),H,m,o,rfl,rfl,p,((q.bring 1).bring 1),t⟩ ?_
 rintro am an w next2 ⟨⟨a1W,V8,R4,a1D⟩,H,a4n,a4o,rfl,f,a7n,I,v⟩ hn2
 dsimp only at f I a7n
 simp only [List.map_cons,List.map_nil,List.cons.injEq,and_true] at f
 have e15:=f
 simp only [e15]
 obtain ⟨n2,hm2,h⟩:∃n2:(Int×(Option Addr)×(List Int)×Int)→Hp→Prop,(∀s' H',n2 s' H'→e s' H'∧c s' < c (a1W,V8,R4,a1D))∧N8 x1 (x1.n:Int) a1W V8 R4 a1D H n2 K:=⟨_,fun _ _ h=>h,u (a1W,V8,R4,a1D) H (fun s' H'=>e s' H'∧c s' < c (a1W,V8,R4,a1D)) v (fun _ _ a b=>⟨a,b⟩)⟩
 unfold b4x
 unfold N8 at h
 refine a7 pLs ?_
 refine c8 h (fun _ h=>?_) (fun _ h=>?_)
 ·obtain ⟨y,z,i,g,h⟩:=h
  obtain ⟨ao,ap,aa,g⟩:=g
  refine a7 (a1P aa _ _ _ _ y z) (b9 (ldA (vs:=(d7 i)) Tryz.isAgg51 Tryz.sizeOf51 rfl (I.atH g)) ?_)
  refine L1 I Tryz.zeroValue51 (cs:=[(vi 0),(eS),(nS),(nS),(nS),(nS)]) rfl fun aq ar ab au=>?_
  refine U3 ab Tryz.sizeOf51 (vs:=(d7 i)) fun av j aw=>?_
  refine b9 (lW Tryz.isAgg51 Tryz.sizeOf51 rfl j) ?_
  refine d3 Tryz.call11 (h g0 a4n a4o a7n) ((j.bring 2).bring 2) ?_
  rintro _ ac _ ax ad _ _ ⟨k,ae,af,ag,rfl,rfl,ah,h⟩
  refine a7 pAd ?_
  exact hn2 _ _ _ (hm2 _ _ h).2 ⟨((IntKind.wrap .i64 (a1W+1)),k.A9.faddr,ae,k.fdeep),ac,af,ag,rfl,rfl,ah,(((ad.bring 2).drop.bring 1).bring 1),(hm2 _ _ h).1⟩
 ·exact hx1 _ _ (hj1 V8 R4 a1D a4n a4o H _ a7n ((I.bring 1).bring 1) h)
def a1k(x0:B6)(H:Hp)(K:Sl→Hp→Prop):Prop:=
 p8 x0.m8.r5 H (fun a b=>
 K a b)
theorem a5Y(x0){H K}(h:a1k x0 H K):a2R x0 H K:=by
 refine Ct.of fun w0 w ps0 H0 R E I hR=>b7e ?_
 unfold a1k at h
 unfold b9D
 refine y7 I (cs:=(c7 x0.m8)) rfl fun e f a g=>?_
 refine a7 Z3 (a7 G3 (b9 (l1 Tryz.isAgg34 a rfl) ?_))
 refine d3 Tryz.call126 h a ?_
 rintro _ b _ i c _ _ ⟨d,rfl,rfl,h⟩
 exact hR _ b _ _ c.drop ⟨d,rfl,rfl,h⟩
def J2(N0:Bool)(b6E:Int)(a8j:Bool)(a:p6)(b:L4)(H:Hp)(K:Bool→Hp→Prop):Prop:=
 (a8j=true→
 K (N0&&(decide (a.fexprs=0∧a.fconds=1))) H)∧
 (a8j=false→
 (b6E=7→
 K (N0&&(decide (a.fexprs=0∧a.fconds=0))) H)∧
 (¬(b6E=7)→
 K false H))
def a1A(x0:L4)(H:Hp)(K:Bool→Hp→Prop):Prop:=
 (x0.d6.b8=1→
 K ((!(decide (0 < (IntKind.wrap .i64 ((x0.d6.D1.n:Int)+(x0.d6.A6.n:Int))))))&&(decide ((x0.d6.f0.n:Int)=1∧(x0.d6.m7.n:Int)=0))) H)∧
 (¬(x0.d6.b8=1)→
 (x0.d6.b8=2→
 K ((!(decide (0 < (IntKind.wrap .i64 ((x0.d6.D1.n:Int)+(x0.d6.A6.n:Int))))))&&(decide ((x0.d6.f0.n:Int)=2∧(x0.d6.m7.n:Int)=0))) H)∧
 (¬(x0.d6.b8=2)→
 (x0.d6.b8=3→
 K ((decide (x0.d6.f4=⟨#[]⟩))&&(decide ((x0.d6.f0.n:Int)=0∧(x0.d6.m7.n:Int)=1))) H)∧
 (¬(x0.d6.b8=3)→
 (x0.d6.b8=4→
 K (((decide (x0.d6.f4=⟨#[]⟩))&&(decide ((x0.d6.A6.n:Int)=0)))&&(decide ((x0.d6.f0.n:Int)=0∧(x0.d6.m7.n:Int)=1))) H)∧
 (¬(x0.d6.b8=4)→
 (x0.d6.b8=5→
 J2 ((decide (x0.d6.f4=⟨#[]⟩))&&(!(decide (0 < (IntKind.wrap .i64 ((x0.d6.D1.n:Int)+(x0.d6.A6.n:Int))))))) x0.d6.b8 (decide (x0.d6.b8=5)) (p6.mk (x0.d6.f0.n:Int) (x0.d6.m7.n:Int)) x0 H K)∧
 (¬(x0.d6.b8=5)→
 J2 ((decide (x0.d6.f4=⟨#[]⟩))&&(!(decide (0 < (IntKind.wrap .i64 ((x0.d6.D1.n:Int)+(x0.d6.A6.n:Int))))))) x0.d6.b8 (decide (x0.d6.b8=6)) (p6.mk (x0.d6.f0.n:Int) (x0.d6.m7.n:Int)) x0 H K)))))
theorem a6m(x0){H K}(h:a1A x0 H K):a1t x0 H K:=by
 refine Ct.of fun w0 w ps0 H0 R E I hR=>b7j ?_
 unfold a1A at h
 unfold b9I
 refine y7 I (cs:=(d7 x0.d6)) rfl fun e i c j=>?_
 refine a7 G7 (a7 U6 (b9 (l1 Tryz.isAgg23 c rfl) (a7 (K8 _ _ _) (a7 G7 ?_))))
 refine a7 R0 (b9 (l1 Tryz.isAgg23 c rfl) (a7 (K8 _ _ _) (a7 pAd (a7 pGt ?_))))
 refine a7 G7 (a7 O8 (b9 (l1 Tryz.isAgg34 c rfl) (a7 (T6 _ _ _) (a7 G7 ?_))))
 refine a7 L6 (b9 (l1 Tryz.isAgg49 c rfl) (a7 (a1K _ _ _) (a7 (a0R _ _) ?_)))
 refine L1 c Tryz.zeroValue181 (cs:=[(vi 0),(vi 0)]) rfl fun d k f l=>?_
 refine U3 f Tryz.sizeOf181 (vs:=[(vi (x0.d6.f0.n:Int)),(vi (x0.d6.m7.n:Int))]) fun m b p=>?_
 refine a7 G7 (a7 a0y (b9 (l1 Tryz.isAgg9 (b.bring 1) rfl) (a7 (E9 _ _ _ _ _) ?_)))
 simp only [o6]
 refine a7 (Pu.g fun a=>by simp only [d9 a];with_reducible exact (T5 _)) ?_
 refine a7 (o7 _ _) (a7 G7 (a7 U5 (b9 (l1 Tryz.isAgg3 (b.bring 1) rfl) (a7 pEq ?_))))
 refine c8 h (fun _ h=>?_) (fun _ h=>?_)
 ·refine a7 (T5 _) ?_
  refine b9 (Ld.g fun a=>by exact (ldA Tryz.isAgg181 Tryz.sizeOf181 rfl (b.at1 (o:=0) (vs:=[(vi (x0.d6.f0.n:Int)),(vi (x0.d6.m7.n:Int))]) (nb rfl) rfl))) ?_
  refine a7 (Pu.g fun a=>by with_reducible exact (a0R _ _)) ?_
  refine a7 (Pu.g fun a=>by simp only [d9 a];with_reducible exact (a3R _ _ _ _ _ _)) ?_
  refine a7 (o7 _ _) ?_
  exact hR _ H _ _ b.drop.drop ⟨((!(decide (0 < (IntKind.wrap .i64 ((x0.d6.D1.n:Int)+(x0.d6.A6.n:Int))))))&&(decide ((x0.d6.f0.n:Int)=1∧(x0.d6.m7.n:Int)=0))),rfl,rfl,h⟩
 ·refine a7 pEq ?_
  refine c8 h (fun _ h=>?_) (fun _ h=>?_)
  ·refine a7 (T5 _) ?_
   refine b9 (Ld.g fun a=>by exact (ldA Tryz.isAgg181 Tryz.sizeOf181 rfl (b.at1 (o:=0) (vs:=[(vi (x0.d6.f0.n:Int)),(vi (x0.d6.m7.n:Int))]) (nb rfl) rfl))) ?_
   refine a7 (Pu.g fun a=>by with_reducible exact (a0R _ _)) ?_
   refine a7 (Pu.g fun a=>by simp only [d9 a];with_reducible exact (a3R _ _ _ _ _ _)) ?_
   refine a7 (o7 _ _) ?_
   exact hR _ H _ _ b.drop.drop ⟨((!(decide (0 < (IntKind.wrap .i64 ((x0.d6.D1.n:Int)+(x0.d6.A6.n:Int))))))&&(decide ((x0.d6.f0.n:Int)=2∧(x0.d6.m7.n:Int)=0))),rfl,rfl,h⟩
  ·refine a7 pEq ?_
   refine c8 h (fun _ h=>?_) (fun _ h=>?_)
   ·refine a7 G7 (a7 a0y (b9 (l1 Tryz.isAgg9 (b.bring 1) rfl) (a7 (E9 _ _ _ _ _) ?_)))
    refine b9 (Ld.g fun a=>by exact (ldA Tryz.isAgg181 Tryz.sizeOf181 rfl (b.at1 (o:=0) (vs:=[(vi (x0.d6.f0.n:Int)),(vi (x0.d6.m7.n:Int))]) (nb rfl) rfl))) ?_
    refine a7 (Pu.g fun a=>by with_reducible exact (a0R _ _)) ?_
    refine a7 (Pu.g fun a=>by simp only [d9 a];with_reducible exact (a3R _ _ _ _ _ _)) ?_
    refine a7 (o7 _ _) ?_
    exact hR _ H _ _ b.drop.drop ⟨((decide (x0.d6.f4=⟨#[]⟩))&&(decide ((x0.d6.f0.n:Int)=0∧(x0.d6.m7.n:Int)=1))),rfl,rfl,h⟩
   ·refine a7 pEq ?_
    refine c8 h (fun _ h=>?_) (fun _ h=>?_)
    ·refine a7 G7 (a7 a0y (b9 (l1 Tryz.isAgg9 (b.bring 1) rfl) (a7 (E9 _ _ _ _ _) ?_)))
     refine a7 (Pu.g fun a=>by with_reducible exact G7) ?_
     refine a7 (Pu.g fun a=>by simp only [d9 a];with_reducible exact R0) ?_
     refine b9 (Ld.g fun a=>by simp only [d9 a];exact (l1 Tryz.isAgg23 (b.bring 1) rfl)) ?_
     refine a7 (Pu.g fun a=>by simp only [d9 a];with_reducible exact (K8 _ _ _)) ?_
     refine a7 (Pu.g fun a=>by simp only [d9 a];with_reducible exact pEq) ?_
     refine a7 (o7 _ _) ?_
     refine b9 (Ld.g fun a=>by exact (ldA Tryz.isAgg181 Tryz.sizeOf181 rfl (b.at1 (o:=0) (vs:=[(vi (x0.d6.f0.n:Int)),(vi (x0.d6.m7.n:Int))]) (nb rfl) rfl))) ?_
     refine a7 (Pu.g fun a=>by with_reducible exact (a0R _ _)) ?_
     refine a7 (Pu.g fun a=>by simp only [d9 a];with_reducible exact (a3R _ _ _ _ _ _)) ?_
     refine a7 (o7 _ _) ?_
     exact hR _ H _ _ b.drop.drop ⟨(((decide (x0.d6.f4=⟨#[]⟩))&&(decide ((x0.d6.A6.n:Int)=0)))&&(decide ((x0.d6.f0.n:Int)=0∧(x0.d6.m7.n:Int)=1))),rfl,rfl,h⟩
    ·have hj1:∀(a8j:Bool) H w (_:Inv w0 ps0 H0 H [bx d 181 [(vi (p6.mk (x0.d6.f0.n:Int) (x0.d6.m7.n:Int)).fexprs),(vi (p6.mk (x0.d6.f0.n:Int) (x0.d6.m7.n:Int)).fconds)],bx e 120 (d7 x0.d6)] w) (_:J2 ((decide (x0.d6.f4=⟨#[]⟩))&&(!(decide (0 < (IntKind.wrap .i64 ((x0.d6.D1.n:Int)+(x0.d6.A6.n:Int))))))) x0.d6.b8 a8j (p6.mk (x0.d6.f0.n:Int) (x0.d6.m7.n:Int)) x0 H K),a9y (Value.pointer (some ⟨d,0,none⟩)) (vB ((decide (x0.d6.f4=⟨#[]⟩))&&(!(decide (0 < (IntKind.wrap .i64 ((x0.d6.D1.n:Int)+(x0.d6.A6.n:Int)))))))) (vi x0.d6.b8) (vB a8j) w R E:=by
      intro a8j H w I h
      unfold a9y
      intro _
      unfold J2 at h
      refine g6 h (fun _ h=>?_) (fun _ h=>?_)
      ·refine b9 (Ld.g fun a=>by exact (ldA Tryz.isAgg181 Tryz.sizeOf181 rfl (I.at1 (o:=0) (vs:=[(vi (p6.mk (x0.d6.f0.n:Int) (x0.d6.m7.n:Int)).fexprs),(vi (p6.mk (x0.d6.f0.n:Int) (x0.d6.m7.n:Int)).fconds)]) (nb rfl) rfl))) ?_
       refine a7 (Pu.g fun a=>by with_reducible exact (a0R _ _)) ?_
       refine a7 (Pu.g fun a=>by simp only [d9 a];with_reducible exact (a3R _ _ _ _ _ _)) ?_
       refine a7 (o7 _ _) ?_
       exact hR _ H _ _ I.drop.drop ⟨(((decide (x0.d6.f4=⟨#[]⟩))&&(!(decide (0 < (IntKind.wrap .i64 ((x0.d6.D1.n:Int)+(x0.d6.A6.n:Int)))))))&&(decide ((p6.mk (x0.d6.f0.n:Int) (x0.d6.m7.n:Int)).fexprs=0∧(p6.mk (x0.d6.f0.n:Int) (x0.d6.m7.n:Int)).fconds=1))),rfl,rfl,h⟩
      ·refine a7 pEq ?_
       refine c8 h (fun _ h=>?_) (fun _ h=>?_)
       ·refine b9 (Ld.g fun a=>by exact (ldA Tryz.isAgg181 Tryz.sizeOf181 rfl (I.at1 (o:=0) (vs:=[(vi (p6.mk (x0.d6.f0.n:Int) (x0.d6.m7.n:Int)).fexprs),(vi (p6.mk (x0.d6.f0.n:Int) (x0.d6.m7.n:Int)).fconds)]) (nb rfl) rfl))) ?_
        refine a7 (Pu.g fun a=>by with_reducible exact (b3t)) ?_
        refine a7 (Pu.g fun a=>by simp only [d9 a];with_reducible exact (a3R _ _ _ _ _ _)) ?_
        refine a7 (o7 _ _) ?_
        exact hR _ H _ _ I.drop.drop ⟨(((decide (x0.d6.f4=⟨#[]⟩))&&(!(decide (0 < (IntKind.wrap .i64 ((x0.d6.D1.n:Int)+(x0.d6.A6.n:Int)))))))&&(decide ((p6.mk (x0.d6.f0.n:Int) (x0.d6.m7.n:Int)).fexprs=0∧(p6.mk (x0.d6.f0.n:Int) (x0.d6.m7.n:Int)).fconds=0))),rfl,rfl,h⟩
       ·exact hR _ H _ _ I.drop.drop ⟨false,rfl,rfl,h⟩
     refine k8 fun j1 hx1=>?_
     refine a7 pEq ?_
     refine c8 h (fun _ h=>?_) (fun _ h=>?_)
     ·exact hx1 _ _ (hj1 (decide (x0.d6.b8=5)) H _ ((b.bring 1).bring 1) h)
     ·refine a7 pEq ?_
      exact hx1 _ _ (hj1 (decide (x0.d6.b8=6)) H _ ((b.bring 1).bring 1) h)
def a2s(x0:f9)(H:Hp)(K:c6→Hp→Prop):Prop:=
 K (c6.E5 (L5.mk x0)) H
theorem a7o(x0){H K}(h:a2s x0 H K):a4i x0 H K:=by
 refine Ct.of fun w0 w ps0 H0 R E I hR=>b7m ?_
 unfold a2s at h
 unfold b9L
 refine y7 I (cs:=(c9 x0)) rfl fun b c a d=>?_
 refine b9 (lW Tryz.isAgg71 Tryz.sizeOf71 rfl a) (a7 (b0T _ _ _ _ _ _ _ _) (a7 (b0p (L5.mk x0)) ?_))
 exact hR _ H _ _ a.drop ⟨(c6.E5 (L5.mk x0)),rfl,rfl,h⟩
def a1l(x0:L4)(H:Hp)(K:Sl→Hp→Prop):Prop:=
 u6 x0.d6.m7 H (fun d e=>
 p8 x0.d6.f0 e (fun f g=>
 p7 x0.d6.D1 g (fun i j=>
 p7 x0.d6.A6 j (fun k c=>
 ∀(b:Sl)(a:Hp),Hle c a→SlH a 1 csl b [d,f,i,k]→NewS c a 86 1 b→
 t7 b a (fun l m=>
 K l m)))))
theorem a5Z(x0){H K}(h:a1l x0 H K):a2T x0 H K:=by
 refine Ct.of fun w0 w ps0 H0 R E I hR=>b7k ?_
 unfold a1l at h
 unfold b9J
 refine y7 I (cs:=(d7 x0.d6)) rfl fun ad ae i af=>?_
 refine V9 i fun ag a=>?_
 refine f6 G7 ?_
 refine f6 L6 ?_
 refine f6 G7 ?_
 refine f6 O8 ?_
 refine f6 G7 ?_
 refine f6 U6 ?_
 refine f6 G7 ?_
 refine f6 R0 ?_
 refine l8 (l1 Tryz.isAgg49 a rfl) ?_
 refine l8 (l1 Tryz.isAgg34 a rfl) ?_
 refine l8 (l1 Tryz.isAgg23 a rfl) ?_
 refine l8 (l1 Tryz.isAgg23 a rfl) ?_
 refine d3 Tryz.call132 h a ?_
 rintro _ _ _ ah b _ d ⟨j,rfl,rfl,h⟩
 refine ⟨(d _ a.lt1 (Inv.E0 (Fi:=[]) a)),(d _ a.lt1 (Inv.E0 (Fi:=[]) a)),(d _ a.lt1 (Inv.E0 (Fi:=[]) a)),?_⟩
 refine d3 Tryz.call126 h b ?_
 rintro _ _ _ ai f _ g ⟨k,rfl,rfl,h⟩
 refine ⟨(g _ b.lt1 (Inv.E0 (Fi:=[]) b)),(g _ b.lt1 (Inv.E0 (Fi:=[]) b)),?_⟩
 refine d3 Tryz.call44 h f ?_
 rintro _ _ _ aj l _ m ⟨n,rfl,rfl,h⟩
 refine ⟨(m _ f.lt1 (Inv.E0 (Fi:=[]) f)),?_⟩
 refine d3 Tryz.call44 h l ?_
 rintro _ _ _ ak o _ _ ⟨p,rfl,rfl,h⟩
 refine W0 (e:=86) (c:=csl) (xs:=[j,k,n,p]) o (b5H _ _ _ _ _ _ _ _ _ _ _ _) rfl rfl b0r b0s (nb rfl) fun q al am r s an=>?_
 obtain ⟨t,u,v,y,z⟩:=Inv.freezeN s r (by decide)
 replace h:=h q t v y z
 refine d3 Tryz.call41 h u ?_
 rintro _ aa _ ao ab _ _ ⟨ac,rfl,rfl,h⟩
 exact hR _ aa _ _ ab.drop ⟨ac,rfl,rfl,h⟩
end Go.Proofs.YtnhdnncbjddmjaaGreatDoor
