/- Typed formulas of the program's functions, and the theorems that the contracts follow from them; printed by lift.py off the code. -/
import Derived.Test.YtoflkliecagjcaaGreatDooryBV1
namespace Go.Proofs.YtoflkliecagjcaaGreatDoor
open Go.RowKit
set_option maxRecDepth 100000
set_option maxHeartbeats 2000000
def a6M(x0:ByteArray)(H:Hp)(K:g9→c8→Int→Hp→Prop):Prop:=
 F0 x0 H (fun a b c d=>
 K a b c d)
theorem b1i(x0){H K}(h:a6M x0 H K):X2 x0 H K:=by
 refine Ct.of fun w0 w ps0 H0 R E I hR=>d4a ?_
 refine r7 I Tryz.zeroValue25 (cs:=[(nS),(nS)]) rfl fun k l e m=>?_
 refine r7 e Tryz.zeroValue31 (cs:=[(vi 0),(vi 0)]) rfl fun n o f p=>?_
 refine g6 Tryz.call15 h f ?_
 rintro _ g _ q i _ _ ⟨b,c,d,rfl,rfl,h⟩
 refine a7 (j9 _ _ _ rfl) (a7 (j9 _ _ _ rfl) (a7 (j9 _ _ (vi d) rfl) ?_))
 refine A9 (i.bring 1) Tryz.sizeOf25 (vs:=(o7 b)) fun r j s=>?_
 refine A9 (j.bring 1) Tryz.sizeOf31 (vs:=(m8 c)) fun t a u=>?_
 refine M2 Tryz.isAgg25 Tryz.sizeOf25 rfl (a.bring 1) ?_
 refine M2 Tryz.isAgg31 Tryz.sizeOf31 rfl a ?_
 exact hR _ g _ _ a.drop.drop ⟨b,c,d,rfl,rfl,h⟩
def a4s(x0:c7)(a:(List Int))(H:Hp)(K:Bool→Hp→Prop):Prop:=
 a3J (l7 x0) a H (fun b c=>
 K (decide (65536 < b)) c)
theorem a8w(x0 a){H K}(h:a4s x0 a H K):Z1 x0 a H K:=by
 intro g0 b c d
 refine Ct.of fun w0 w ps0 H0 R E I hR=>d0l ?_
 refine a7 (q9 _) (a7 a8T ?_)
 refine g6 Tryz.call32 (h g0 b c d) ((I.bring 1).bring 1) ?_
 rintro _ e _ i f _ _ ⟨g,rfl,rfl,h⟩
 refine a7 pGt ?_
 exact hR _ e _ _ ((f.bring 1).bring 1) ⟨_,rfl,rfl,h⟩
def G7(b2Q:Bool)(a:Int)(H:Hp)(K:Int→Hp→Prop):Prop:=
 (b2Q=true→
 K 3 H)∧
 (b2Q=false→
 K 6 H)
def U9(b2R:Bool)(a:Int)(H:Hp)(K:Int→Hp→Prop):Prop:=
 (b2R=true→
 K 6 H)∧
 (b2R=false→
 M9 48 57 a H (fun g b=>
 (g=true→
 K 4 b)∧
 (g=false→
 (a=95→
 G7 (decide (a=95)) a b K)∧
 (¬(a=95)→
 M9 97 122 a b (fun c i=>
 (c=true→
 G7 c a i K)∧
 (c=false→
 M9 65 90 a i (fun d j=>
 (d=true→
 G7 d a j K)∧
 (d=false→
 M9 192 591 a j (fun e k=>
 (e=true→
 G7 e a k K)∧
 (e=false→
 M9 913 969 a k (fun f l=>
 (f=true→
 G7 f a l K)∧
 (f=false→
 M9 1040 1103 a l (fun m n=>
 G7 m a n K)))))))))))))
def q8(b4a:Int)(b2S:Bool)(a:Int)(H:Hp)(K:Int→Hp→Prop):Prop:=
 (b2S=true→
 K 5 H)∧
 (b2S=false→
 (b4a=215→
 U9 (decide (b4a=215)) a H K)∧
 (¬(b4a=215)→
 (b4a=247→
 U9 (decide (b4a=247)) a H K)∧
 (¬(b4a=247)→
 U9 (decide (b4a=930)) a H K)))
def V0(A4:Int)(Y6:Bool)(a:Int)(H:Hp)(K:Int→Hp→Prop):Prop:=
 (Y6=true→
 K 1 H)∧
 (Y6=false→
 (A4=10→
 K 2 H)∧
 (¬(A4=10)→
 (A4=59→
 q8 A4 (decide (A4=59)) a H K)∧
 (¬(A4=59)→
 (A4=44→
 q8 A4 (decide (A4=44)) a H K)∧
 (¬(A4=44)→
 (A4=123→
 q8 A4 (decide (A4=123)) a H K)∧
 (¬(A4=123)→
 (A4=125→
 q8 A4 (decide (A4=125)) a H K)∧
 (¬(A4=125)→
 (A4=40→
 q8 A4 (decide (A4=40)) a H K)∧
 (¬(A4=40)→
 (A4=41→
 q8 A4 (decide (A4=41)) a H K)∧
 (¬(A4=41)→
 (A4=91→
 q8 A4 (decide (A4=91)) a H K)∧
 (¬(A4=91)→
 (A4=93→
 q8 A4 (decide (A4=93)) a H K)∧
 (¬(A4=93)→
 (A4=61→
 q8 A4 (decide (A4=61)) a H K)∧
 (¬(A4=61)→
 (A4=33→
 q8 A4 (decide (A4=33)) a H K)∧
 (¬(A4=33)→
 (A4=60→
 q8 A4 (decide (A4=60)) a H K)∧
 (¬(A4=60)→
 (A4=62→
 q8 A4 (decide (A4=62)) a H K)∧
 (¬(A4=62)→
 (A4=43→
 q8 A4 (decide (A4=43)) a H K)∧
 (¬(A4=43)→
 (A4=45→
 q8 A4 (decide (A4=45)) a H K)∧
 (¬(A4=45)→
 (A4=42→
 q8 A4 (decide (A4=42)) a H K)∧
 (¬(A4=42)→
 (A4=47→
 q8 A4 (decide (A4=47)) a H K)∧
 (¬(A4=47)→
 (A4=37→
 q8 A4 (decide (A4=37)) a H K)∧
 (¬(A4=37)→
 (A4=38→
 q8 A4 (decide (A4=38)) a H K)∧
 (¬(A4=38)→
 q8 A4 (decide (A4=124)) a H K))))))))))))))))))))
def a7l(x0:Int)(H:Hp)(K:Int→Hp→Prop):Prop:=
 (x0=32→
 V0 x0 (decide (x0=32)) x0 H K)∧
 (¬(x0=32)→
 (x0=9→
 V0 x0 (decide (x0=9)) x0 H K)∧
 (¬(x0=9)→
 V0 x0 (decide (x0=13)) x0 H K))
theorem b1R(x0){H K}(h:a7l x0 H K):R8 x0 H K:=by
 refine Ct.of fun w0 w ps0 H0 R E I hR=>d1N ?_
 refine E9 I (cs:=[(Value.int .i32 x0)]) rfl fun a u b v=>?_
 refine b8 (l1 Tryz.isAgg21 b rfl) ?_
 have hj1:∀(Y6:Bool) H w (_:Inv w0 ps0 H0 H [bx a 21 [(Value.int .i32 x0)]] w) (_:V0 x0 Y6 x0 H K),c3M (Value.pointer (some ⟨a,0,none⟩)) (Value.int .i32 x0) (vB Y6) w R E:=by
  intro Y6 H w I h
  intro _
  refine p6 h (fun _ h=>?_) (fun _ h=>?_)
  ·exact hR _ H _ _ I.drop ⟨1,rfl,rfl,h⟩
  ·refine a7 pEq ?_
   refine j7 h (fun _ h=>?_) (fun _ h=>?_)
   ·exact hR _ H _ _ I.drop ⟨2,rfl,rfl,h⟩
   ·have hj2:∀(b2S:Bool) H w (_:Inv w0 ps0 H0 H [bx a 21 [(Value.int .i32 x0)]] w) (_:q8 x0 b2S x0 H K),c3L (Value.pointer (some ⟨a,0,none⟩)) (Value.int .i32 x0) (vB b2S) w R E:=by
     intro b2S H w I h
     intro _
     refine p6 h (fun _ h=>?_) (fun _ h=>?_)
     ·exact hR _ H _ _ I.drop ⟨5,rfl,rfl,h⟩
     ·have hj3:∀(b2R:Bool) H w (_:Inv w0 ps0 H0 H [bx a 21 [(Value.int .i32 x0)]] w) (_:U9 b2R x0 H K),c3K (Value.pointer (some ⟨a,0,none⟩)) (vB b2R) w R E:=by
       intro b2R H w I h
       intro _
       refine p6 h (fun _ h=>?_) (fun _ h=>?_)
       ·exact hR _ H _ _ I.drop ⟨6,rfl,rfl,h⟩
       ·refine a7 (Q7 _ _ _) ?_
        refine a5O (cap:=[(Value.pointer (some ⟨a,0,none⟩))]) Tryz.call124 (h a) I ?_
        rintro _ d _ y c _ _ ⟨z,rfl,rfl,h⟩
        refine p6 h (fun _ h=>?_) (fun _ h=>?_)
        ·exact hR _ d _ _ c.drop ⟨4,rfl,rfl,h⟩
        ·have hj4:∀(b2Q:Bool) H w (_:Inv w0 ps0 H0 H [bx a 21 [(Value.int .i32 x0)]] w) (_:G7 b2Q x0 H K),c3J (vB b2Q) w R E:=by
          intro b2Q H w I h
          intro _
          refine p6 h (fun _ h=>?_) (fun _ h=>?_)
          ·exact hR _ H _ _ I.drop ⟨3,rfl,rfl,h⟩
          ·exact hR _ H _ _ I.drop ⟨6,rfl,rfl,h⟩
         refine u2 fun j4 hx4=>?_
         refine b8 (l1 Tryz.isAgg21 c rfl) (a7 pEq ?_)
         refine j7 h (fun _ h=>?_) (fun _ h=>?_)
         ·exact hx4 _ _ (hj4 (decide (x0=95)) d _ c h)
         ·refine a5O (cap:=[(Value.pointer (some ⟨a,0,none⟩))]) Tryz.call124 (h a) c ?_
          rintro _ j _ aa e _ _ ⟨k,rfl,rfl,h⟩
          refine p6 h (fun _ h=>?_) (fun _ h=>?_)
          ·exact hx4 _ _ (hj4 k j _ e h)
          ·refine a5O (cap:=[(Value.pointer (some ⟨a,0,none⟩))]) Tryz.call124 (h a) e ?_
           rintro _ l _ ab f _ _ ⟨m,rfl,rfl,h⟩
           refine p6 h (fun _ h=>?_) (fun _ h=>?_)
           ·exact hx4 _ _ (hj4 m l _ f h)
           ·refine a5O (cap:=[(Value.pointer (some ⟨a,0,none⟩))]) Tryz.call124 (h a) f ?_
            rintro _ n _ ac g _ _ ⟨o,rfl,rfl,h⟩
            refine p6 h (fun _ h=>?_) (fun _ h=>?_)
            ·exact hx4 _ _ (hj4 o n _ g h)
            ·refine a5O (cap:=[(Value.pointer (some ⟨a,0,none⟩))]) Tryz.call124 (h a) g ?_
             rintro _ p _ ad i _ _ ⟨q,rfl,rfl,h⟩
             refine p6 h (fun _ h=>?_) (fun _ h=>?_)
             ·exact hx4 _ _ (hj4 q p _ i h)
             ·refine a5O (cap:=[(Value.pointer (some ⟨a,0,none⟩))]) Tryz.call124 (h a) i ?_
              rintro _ r _ ae s _ _ ⟨t,rfl,rfl,h⟩
              exact hx4 _ _ (hj4 t r _ s h)
      refine u2 fun j3 hx3=>?_
      refine a7 pEq ?_
      refine j7 h (fun _ h=>?_) (fun _ h=>?_)
      ·exact hx3 _ _ (hj3 (decide (x0=215)) H _ I h)
      ·refine a7 pEq ?_
       refine j7 h (fun _ h=>?_) (fun _ h=>?_)
       ·exact hx3 _ _ (hj3 (decide (x0=247)) H _ I h)
       ·refine a7 pEq ?_
        exact hx3 _ _ (hj3 (decide (x0=930)) H _ I h)
    refine u2 fun j2 hx2=>?_
    refine a7 pEq ?_
    refine j7 h (fun _ h=>?_) (fun _ h=>?_)
    ·exact hx2 _ _ (hj2 (decide (x0=59)) H _ I h)
    ·refine a7 pEq ?_
     refine j7 h (fun _ h=>?_) (fun _ h=>?_)
     ·exact hx2 _ _ (hj2 (decide (x0=44)) H _ I h)
     ·refine a7 pEq ?_
      refine j7 h (fun _ h=>?_) (fun _ h=>?_)
      ·exact hx2 _ _ (hj2 (decide (x0=123)) H _ I h)
      ·refine a7 pEq ?_
       refine j7 h (fun _ h=>?_) (fun _ h=>?_)
       ·exact hx2 _ _ (hj2 (decide (x0=125)) H _ I h)
       ·refine a7 pEq ?_
        refine j7 h (fun _ h=>?_) (fun _ h=>?_)
        ·exact hx2 _ _ (hj2 (decide (x0=40)) H _ I h)
        ·refine a7 pEq ?_
         refine j7 h (fun _ h=>?_) (fun _ h=>?_)
         ·exact hx2 _ _ (hj2 (decide (x0=41)) H _ I h)
         ·refine a7 pEq ?_
          refine j7 h (fun _ h=>?_) (fun _ h=>?_)
          ·exact hx2 _ _ (hj2 (decide (x0=91)) H _ I h)
          ·refine a7 pEq ?_
           refine j7 h (fun _ h=>?_) (fun _ h=>?_)
           ·exact hx2 _ _ (hj2 (decide (x0=93)) H _ I h)
           ·refine a7 pEq ?_
            refine j7 h (fun _ h=>?_) (fun _ h=>?_)
            ·exact hx2 _ _ (hj2 (decide (x0=61)) H _ I h)
            ·refine a7 pEq ?_
             refine j7 h (fun _ h=>?_) (fun _ h=>?_)
             ·exact hx2 _ _ (hj2 (decide (x0=33)) H _ I h)
             ·refine a7 pEq ?_
              refine j7 h (fun _ h=>?_) (fun _ h=>?_)
              ·exact hx2 _ _ (hj2 (decide (x0=60)) H _ I h)
              ·refine a7 pEq ?_
               refine j7 h (fun _ h=>?_) (fun _ h=>?_)
               ·exact hx2 _ _ (hj2 (decide (x0=62)) H _ I h)
               ·refine a7 pEq ?_
                refine j7 h (fun _ h=>?_) (fun _ h=>?_)
                ·exact hx2 _ _ (hj2 (decide (x0=43)) H _ I h)
                ·refine a7 pEq ?_
                 refine j7 h (fun _ h=>?_) (fun _ h=>?_)
                 ·exact hx2 _ _ (hj2 (decide (x0=45)) H _ I h)
                 ·refine a7 pEq ?_
                  refine j7 h (fun _ h=>?_) (fun _ h=>?_)
                  ·exact hx2 _ _ (hj2 (decide (x0=42)) H _ I h)
                  ·refine a7 pEq ?_
                   refine j7 h (fun _ h=>?_) (fun _ h=>?_)
                   ·exact hx2 _ _ (hj2 (decide (x0=47)) H _ I h)
                   ·refine a7 pEq ?_
                    refine j7 h (fun _ h=>?_) (fun _ h=>?_)
                    ·exact hx2 _ _ (hj2 (decide (x0=37)) H _ I h)
                    ·refine a7 pEq ?_
                     refine j7 h (fun _ h=>?_) (fun _ h=>?_)
                     ·exact hx2 _ _ (hj2 (decide (x0=38)) H _ I h)
                     ·refine a7 pEq ?_
                      exact hx2 _ _ (hj2 (decide (x0=124)) H _ I h)
 refine u2 fun j1 hx1=>?_
 refine a7 pEq ?_
 refine j7 h (fun _ h=>?_) (fun _ h=>?_)
 ·exact hx1 _ _ (hj1 (decide (x0=32)) H _ b h)
 ·refine a7 pEq ?_
  refine j7 h (fun _ h=>?_) (fun _ h=>?_)
  ·exact hx1 _ _ (hj1 (decide (x0=9)) H _ b h)
  ·refine a7 pEq ?_
   exact hx1 _ _ (hj1 (decide (x0=13)) H _ b h)
def a6N(H:Hp)(K:Bool→Hp→Prop):Prop:=
 K true H
def a4h(b:ByteArray)(a:Nat)(H:Hp)(n2:Nat→Hp→Prop)(K:Bool→Hp→Prop):Prop:=
 (a < b.size→
 a2J ((Utf8.decode b a).1:Int) H (fun c d=>
 TG ((!(!c)&&(decide (((a:Nat):Int)=0)))=true) (R8 ((Utf8.decode b a).1:Int) d) 0 d (fun(e:Int)(f:Hp)=>
 (((!c)||((decide (((a:Nat):Int)=0))&&(!decide (e=3))))=true→
 K false f)∧
 (((!c)||((decide (((a:Nat):Int)=0))&&(!decide (e=3))))=false→
 n2 (a+(Utf8.decode b a).2) f))))∧
 (¬(a < b.size)→
 a6N H K)
def a8M(x0:ByteArray)(H:Hp)(K:Bool→Hp→Prop):Prop:=
 TG ((decide (x0=⟨#[]⟩))=false) (a4o x0 H) false H (fun(a:Bool)(c:Hp)=>
 TG (((decide (x0=⟨#[]⟩))||(!a))=false) (a3C x0 c) false c (fun(b:Bool)(d:Hp)=>
 TG ((((decide (x0=⟨#[]⟩))||(!a))||b)=false) (a3D x0 d) false d (fun(e:Bool)(f:Hp)=>
 (((((decide (x0=⟨#[]⟩))||(!a))||b)||e)=true→
 K false f)∧
 (((((decide (x0=⟨#[]⟩))||(!a))||b)||e)=false→
 TL (0:Nat) f fun(s:Nat) H n2=>a4h x0 s H n2 K))))
theorem b3w(x0){H K}(h:a8M x0 H K):a3E x0 H K:=by
 refine Ct.of fun w0 w ps0 H0 R E I hR=>c8g ?_
 refine a7 (R3 _ _ _ _ _) ?_
 simp only [E5]
 refine M3 [] (fun d:Bool=>(vB d)) h I (fun a h=>by simp only [o9 a];exact N9 Tryz.call135 h I) fun d s ai f t u h=>?_
 refine a7 (Pu.g fun a=>by simp only [o9 a];with_reducible exact (T6 _)) ?_
 refine a7 (R9 _ _) ?_
 simp only [E5]
 refine M3 [] (fun i:Bool=>(vB i)) h f (fun a h=>by simp only [o9 a];exact N9 Tryz.call128 h f) fun i y aj j z aa h=>?_
 refine a7 (R9 _ _) ?_
 simp only [E5]
 refine M3 [] (fun k:Bool=>(vB k)) h j (fun a h=>by simp only [o9 a];exact N9 Tryz.call127 h j) fun k o ak l ac ad h=>?_
 refine a7 (R9 _ _) ?_
 refine p6 h (fun _ h=>?_) (fun _ h=>?_)
 ·exact hR _ o _ _ l ⟨_,rfl,rfl,h⟩
 ·have hj1:∀H w (_:Inv w0 ps0 H0 H [] w) (_:a6N H K),c0s w R E:=by
   intro H w I h
   intro _
   exact hR _ H _ _ I ⟨_,rfl,rfl,h⟩
  refine u2 fun j1 hx1=>?_
  refine b2L Tryz.underlying9 x0 l fun al aq am ar=>?_
  refine a2x (σ:=Nat) (fun c=>[]) (fun c=>[itf al x0 c]) h rfl am ?_
  rintro c H au w next2 n2 an I h hn2
  clear an
  refine b4K I (fun p av ao aw=>?_) (fun p=>?_)
  ·replace h:=h.1 p
   refine a7 (j9 _ _ (vB true) rfl) ?_
   refine W8 (fun e=>?_) (fun e=>by cases e)
   refine a7 (j9 _ _ (vi ((c:Nat):Int)) rfl) (a7 (j9 _ _ (Value.int .i32 ((Utf8.decode x0 c).1:Int)) rfl) ?_)
   refine g6 Tryz.call126 h ao ?_
   rintro _ _ _ ax ae _ _ ⟨ay,rfl,rfl,h⟩
   refine a7 (T6 _) ?_
   simp only [E5]
   refine a7 (Pu.g fun a=>by simp only [o9 a];with_reducible exact pEq) ?_
   simp only [b4J,c2O]
   refine c1E (a2X _ _ _) ?_
   refine M3 [] (fun m:Int=>(vi m)) h ae (fun af h=>?_) fun m q ap n ag ah h=>?_
   ·obtain ⟨a,b⟩:=a5Y af
    simp only [o9 af]
    refine g6 Tryz.call93 h ae ?_
    rintro _ q _ ap n ah ag ⟨m,rfl,rfl,h⟩
    exact ⟨m,q,rfl,n,ag,ah,h⟩
   refine a7 (Pu.e (a2X _ _ _) (Pu.g fun hb=>by obtain ⟨a,b⟩:=a5Y hb;simp only [o9 hb];with_reducible exact pNe)) ?_
   refine a7 (Pu.g fun a=>by simp only [o9 a,b4I a];with_reducible exact (D9 _ _)) ?_
   refine a7 (R9 _ _) ?_
   refine p6 h (fun _ h=>?_) (fun _ h=>?_)
   ·exact hR _ q _ _ n.drop ⟨_,rfl,rfl,h⟩
   ·exact hn2 (c+(Utf8.decode x0 c).2) _ _ h n
  ·replace h:=h.2 p
   refine a7 (j9 _ _ (vB false) rfl) ?_
   refine W8 (fun e=>by cases e) (fun e=>?_)
   exact hx1 _ _ (hj1 H _ I.drop h)
def a2N(x0:(List ByteArray))(x1:ByteArray)(H:Hp)(K:Bool→Hp→Prop):Prop:=
 a0V x0 x1 H (fun a b=>
 K (decide (0≤a)) b)
theorem a6z(x0 x1){H K}(h:a2N x0 x1 H K):U7 x0 x1 H K:=by
 intro sx0 Fx0 hx0
 refine Ct.of fun w0 w ps0 H0 R E I hR=>c8h ?_
 refine g6 Tryz.call136 (h sx0 Fx0 hx0) I ?_
 rintro _ a _ d b _ _ ⟨c,rfl,rfl,h⟩
 refine a7 pGe ?_
 exact hR _ a _ _ b ⟨_,rfl,rfl,h⟩
def P8(d:Int)(e:Int)(f:Int)(g:Bool)(i:Bool)(j:(List ByteArray))(H:Hp)(K:m7→Hp→Prop):Prop:=
 ∀(a:Sl)(b:Hp),Hle H b→SlH b 1 q6 a j→a.n≤a.c→
 K (m7.mk d e f g i a) b
def a6O(x0:Sl)(H:Hp)(K:m7→Hp→Prop):Prop:=
 Y4 x0 1 (m7.mk 0 0 0 false false (Sl.mk none 0 0)) [] H (fun d a b c=>
 ((!d)=true→
 P8 a.fnodes a.fdepth a.fe a.fform a.fnamed b c K)∧
 ((!d)=false→
 (a.fform=true→
 P8 a.fnodes a.fdepth 30 a.fform a.fnamed b c K)∧
 (a.fform=false→
 (a.fnamed=true→
 P8 a.fnodes a.fdepth 31 a.fform a.fnamed b c K)∧
 (a.fnamed=false→
 P8 a.fnodes a.fdepth a.fe a.fform a.fnamed b c K))))
theorem b1j(x0){H K}(h:a6O x0 H K):a2e x0 H K:=by
 refine Ct.of fun w0 w ps0 H0 R E I hR=>d0X ?_
 refine a7 (c2S) ?_
 refine E9 I (cs:=[(vi 0),(vi 0),(vi 0),(vB false),(vB false),(nS)]) rfl fun d aj y ak=>?_
 refine r7 y Tryz.zeroValue70 (cs:=[(Value.pointer none)]) rfl fun c al z am=>?_
 refine A9 z Tryz.sizeOf70 (vs:=[(Value.pointer (some ⟨d,0,none⟩))]) fun an aa ao=>?_
 refine r7 aa Tryz.zeroValue135 (cs:=[Value.nilFunc]) rfl fun f ap ab aq=>?_
 refine a7 (Q7 _ _ _) ?_
 refine A9 ab Tryz.sizeOf135 (vs:=[(Value.func (.func 74) #[] #[(Value.pointer (some ⟨c,0,none⟩)),(Value.pointer (some ⟨f,0,none⟩))])]) fun ar u au=>?_
 have hj1:∀(i:Int)(j:Int)(k:Int)(l:Bool)(m:Bool)(s:(List ByteArray))(g:Sl)(t:Frag) H w (_:RowL 9 1 q6 g s t) (_:Inv w0 ps0 H0 H [bx c 70 [(Value.pointer (some ⟨d,0,none⟩))],bx d 69 [(vi i),(vi j),(vi k),(vB l),(vB m),(vs g)],bx f 135 [(Value.func (.func 74) #[] #[(Value.pointer (some ⟨c,0,none⟩)),(Value.pointer (some ⟨f,0,none⟩))])],t] w) (_:P8 i j k l m s H K),c3l (Value.pointer (some ⟨c,0,none⟩)) w R E:=by
  intro i j k l m s g t H w ac I h
  intro _
  refine b8 (l1 Tryz.isAgg70 I rfl) ?_
  obtain ⟨v,ad,ae,af,ag⟩:=Inv.freezeC (I.bring 3) ac (by decide)
  replace h:=h g v ae af ag
  exact hR _ v _ _ (ad.drop.bring 1).drop ⟨(m7.mk i j k l m g),d,rfl,rfl,h⟩
 refine u2 fun j1 hx1=>?_
 refine b8 (l1 Tryz.isAgg135 u rfl) ?_
 refine a5O (cap:=[(Value.pointer (some ⟨c,0,none⟩)),(Value.pointer (some ⟨f,0,none⟩))]) Tryz.call74 (h c d f (Sl.mk none 0 0) ([]) (RowL.nil (e:=9) K8 K9)) ((((u.nil.bring 1).bring 1).bring 3).bring 3) ?_
 rintro _ n _ av b _ _ ⟨aw,a,o,p,q,rfl,rfl,r,h⟩
 refine a7 (T6 _) ?_
 refine p6 h (fun _ h=>?_) (fun _ h=>?_)
 ·exact hx1 _ _ (hj1 a.fnodes a.fdepth a.fe a.fform a.fnamed o p q n _ r ((((b.bring 2).bring 3).bring 3).bring 3) h)
 ·refine b8 (l1 Tryz.isAgg70 b rfl) (a7 (q9 _) (a7 b1c (b8 (l1 Tryz.isAgg4 (b.bring 1) rfl) ?_)))
  refine p6 h (fun _ h=>?_) (fun _ h=>?_)
  ·refine b8 (l1 Tryz.isAgg70 b rfl) (a7 (q9 _) (a7 a5o ?_))
   refine N7 (b.bring 1) Tryz.sizeOf27 fun ax ah ay=>?_
   exact hx1 _ _ (hj1 a.fnodes a.fdepth 30 a.fform a.fnamed o p q n _ r ((((ah.bring 2).bring 3).bring 2).bring 3) h)
  ·refine b8 (l1 Tryz.isAgg70 b rfl) (a7 (q9 _) (a7 b1d (b8 (l1 Tryz.isAgg4 (b.bring 1) rfl) ?_)))
   refine p6 h (fun _ h=>?_) (fun _ h=>?_)
   ·refine b8 (l1 Tryz.isAgg70 b rfl) (a7 (q9 _) (a7 a5o ?_))
    refine N7 (b.bring 1) Tryz.sizeOf27 fun az ai ba=>?_
    exact hx1 _ _ (hj1 a.fnodes a.fdepth 31 a.fform a.fnamed o p q n _ r ((((ai.bring 2).bring 3).bring 2).bring 3) h)
   ·exact hx1 _ _ (hj1 a.fnodes a.fdepth a.fe a.fform a.fnamed o p q n _ r ((((b.bring 2).bring 3).bring 3).bring 3) h)
def a6q(x0:g9)(H:Hp)(K:Bool→Hp→Prop):Prop:=
 a0M x0 H (fun a b=>
 K ((!decide (a=32))&&(!decide (a=33))) b)
theorem b0F(x0){H K}(h:a6q x0 H K):a1G x0 H K:=by
 refine Ct.of fun w0 w ps0 H0 R E I hR=>d0q ?_
 refine E9 I (cs:=(o7 x0)) rfl fun f i b j=>?_
 refine b8 (lW Tryz.isAgg25 Tryz.sizeOf25 rfl b) ?_
 refine g6 Tryz.call9 h b ?_
 rintro _ d _ k e _ _ ⟨c,rfl,rfl,h⟩
 refine a7 pNe ?_
 simp only [E5]
 refine a7 (Pu.g fun a=>by simp only [o9 a];with_reducible exact pNe) ?_
 refine a7 (D9 _ _) ?_
 exact hR _ d _ _ e.drop ⟨_,rfl,rfl,h⟩
def W0(H:Hp)(K:Bool→Hp→Prop):Prop:=
 K true H
def W1(b5U:Sl)(a3L:Sl)(c7t:Int)(a3i:Int)(H:Hp)(n2:Int→Hp→Prop)(K:Bool→Hp→Prop):Prop:=
 (a3i < c7t→
 (0:Int)≤a3i∧(a3i:Int) < b5U.n∧∃a:i6,EltH H b5U a3i 2 (u1 a)∧
 (0:Int)≤a3i∧(a3i:Int) < a3L.n∧∃b:i6,EltH H a3L a3i 2 (u1 b)∧
 (¬(a.o8=b.o8∧a.D4=b.D4)→
 K false H)∧
 (a.o8=b.o8∧a.D4=b.D4→
 n2 (IntKind.wrap .i64 (a3i+1)) H))∧
 (¬(a3i < c7t)→
 W0 H K)
def X6(x0:Sl)(x1:Sl)(H:Hp)(K:Bool→Hp→Prop):Prop:=
 (¬((x0.n:Int)=(x1.n:Int))→
 K false H)∧
 ((x0.n:Int)=(x1.n:Int)→
 TL (0:Int) H fun(s:Int) H n2=>W1 x0 x1 (x0.n:Int) s H n2 K)
theorem a2U(x0 x1){H K}(h:X6 x0 x1 H K):L0 x0 x1 H K:=by
 refine Ct.of fun w0 w ps0 H0 R E I hR=>d0s ?_
 refine a7 (a7Z _ _ _) (a7 (a7Z _ _ _) (a7 pNe ?_))
 refine a0S h (fun _ h=>?_) (fun _ h=>?_)
 ·exact hR _ H _ _ I ⟨_,rfl,rfl,h⟩
 ·have hj1:∀H w (_:Inv w0 ps0 H0 H [] w) (_:W0 H K),c2Y w R E:=by
   intro H w I h
   intro _
   exact hR _ H _ _ I ⟨_,rfl,rfl,h⟩
  refine u2 fun j1 hx1=>?_
  refine a7 (a7Z _ _ _) ?_
  refine a2x (σ:=Int) (fun a3i=>[(vi a3i)]) (fun a3i=>[]) h rfl I ?_
  rintro a3i H n w next2 n2 d I h hn2
  simp only [List.map_cons,List.map_nil,List.cons.injEq,and_true] at d
  have e13:=d
  simp only [e13]
  refine a7 pLs ?_
  refine j7 h (fun _ h=>?_) (fun _ h=>?_)
  ·refine T1 I fun o a=>?_
   obtain ⟨e,f,g,b,h⟩:=h
   obtain ⟨p,q,i,b⟩:=b
   refine o0 (b0Y i _ _ _ _ e f) ?_
   obtain ⟨j,k,l,c,h⟩:=h
   obtain ⟨r,s,m,c⟩:=c
   refine o0 (b0Y m _ _ _ _ j k) ?_
   refine u7 (ldA (vs:=(u1 g)) Tryz.isAgg49 Tryz.sizeOf49 rfl (a.atH b)) ?_
   refine u7 (ldA (vs:=(u1 l)) Tryz.isAgg49 Tryz.sizeOf49 rfl (a.atH c)) ?_
   refine o0 (c5z _ _ _ _ _ _) ?_
   refine a0S h (fun _ h=>?_) (fun _ h=>?_)
   ·exact hR _ H _ _ a ⟨_,rfl,rfl,h⟩
   ·refine a7 pAd ?_
    exact hn2 (IntKind.wrap .i64 (a3i+1)) _ _ h a
  ·exact hx1 _ _ (hj1 H _ I h)
def a9u(x0:a8)(x1:ByteArray)(H:Hp)(K:Bool→Hp→Prop):Prop:=
 B0 x0 H (fun a b=>
 K (((decide (a.d6=3))||(decide (a.d6=4)))&&(decide (a.E1=x1))) b)
theorem a9v(x0 x1){H K}(h:a9u x0 x1 H K):r9 x0 x1 H K:=by
 intro g0
 refine Ct.of fun w0 w ps0 H0 R E I hR=>d0M ?_
 refine g6 Tryz.call35 (h g0) I ?_
 rintro _ d _ i e _ _ ⟨c,rfl,rfl,h⟩
 refine r7 e Tryz.zeroValue88 (cs:=[(vi 0),(eS),(vi 0),(vi 0),(vi 0)]) rfl fun j k f l=>?_
 refine A9 f Tryz.sizeOf88 (vs:=(g8 c)) fun m b n=>?_
 refine a7 a4c (b8 (l1 Tryz.isAgg3 b rfl) (a7 pEq ?_))
 refine a7 (Pu.g fun a=>by with_reducible exact a4c) ?_
 refine b8 (Ld.g fun a=>by simp only [o9 a];exact (l1 Tryz.isAgg3 b rfl)) ?_
 refine a7 (Pu.g fun a=>by simp only [o9 a];with_reducible exact pEq) ?_
 refine a7 (R9 _ _) ?_
 refine a7 (Pu.g fun a=>by with_reducible exact X1) ?_
 refine b8 (Ld.g fun a=>by simp only [o9 a];exact (l1 Tryz.isAgg9 b rfl)) ?_
 simp only [E5]
 refine a7 (Pu.g fun a=>by simp only [o9 a];with_reducible exact (R3 _ _ _ _ _)) ?_
 refine a7 (D9 _ _) ?_
 exact hR _ d _ _ b.drop ⟨_,rfl,rfl,h⟩
def a6h(x0:a8)(H:Hp)(K:Bool→Hp→Prop):Prop:=
 B0 x0 H (fun a c=>
 TG (((decide (a.d6=1))||(decide (a.d6=2)))=false) (r9 x0 ⟨#[45]⟩ c) false c (fun(b:Bool)(d:Hp)=>
 TG ((((decide (a.d6=1))||(decide (a.d6=2)))||b)=false) (r9 x0 ⟨#[105,110,112,117,116]⟩ d) false d (fun(e:Bool)(f:Hp)=>
 TG (((((decide (a.d6=1))||(decide (a.d6=2)))||b)||e)=false) (r9 x0 ⟨#[40]⟩ f) false f (fun(g:Bool)(i:Hp)=>
 K (((((decide (a.d6=1))||(decide (a.d6=2)))||b)||e)||g) i))))
theorem a6i(x0){H K}(h:a6h x0 H K):E7 x0 H K:=by
 intro g0
 refine Ct.of fun w0 w ps0 H0 R E I hR=>c7Y ?_
 refine g6 Tryz.call35 (h g0) I ?_
 rintro _ _ _ ac k _ _ ⟨l,rfl,rfl,h⟩
 refine a7 a7R (a7 pEq ?_)
 simp only [E5]
 refine a7 (Pu.g fun a=>by simp only [o9 a];with_reducible exact pEq) ?_
 refine a7 (R9 _ _) ?_
 simp only [E5]
 refine M3 [bx g0 86 (b9 x0)] (fun b:Bool=>(vB b)) h k (fun a h=>by simp only [o9 a];exact N9 Tryz.call37 (h g0) k) fun b n z e o p h=>?_
 refine a7 (R9 _ _) ?_
 simp only [E5]
 refine M3 [bx g0 86 (b9 x0)] (fun c:Bool=>(vB c)) h e (fun a h=>by simp only [o9 a];exact N9 Tryz.call37 (h g0) e) fun c r aa f s t h=>?_
 refine a7 (R9 _ _) ?_
 simp only [E5]
 refine M3 [bx g0 86 (b9 x0)] (fun d:Bool=>(vB d)) h f (fun a h=>by simp only [o9 a];exact N9 Tryz.call37 (h g0) f) fun d i ab j v y h=>?_
 refine a7 (R9 _ _) ?_
 exact hR _ i _ _ j ⟨_,rfl,rfl,h⟩
def a1y(a3v:Int)(H:Hp)(K:Int→Hp→Prop):Prop:=
 K a3v H
def a1z(a3M:Int)(H:Hp)(K:Int→Hp→Prop):Prop:=
 a1y (IntKind.wrap .i64 (a3M-1)) H K
def a9w(x0:Int)(H:Hp)(K:Int→Hp→Prop):Prop:=
 (x0=6→
 a1z (IntKind.wrap .i64 (3-1)) H K)∧
 (¬(x0=6)→
 (x0=5→
 a1z 3 H K)∧
 (¬(x0=5)→
 a1y 3 H K))
theorem a9x(x0){H K}(h:a9w x0 H K):a0j x0 H K:=by
 refine Ct.of fun w0 w ps0 H0 R E I hR=>d1K ?_
 have hj1:∀(a3v:Int) H w (_:Inv w0 ps0 H0 H [] w) (_:a1y a3v H K),c3G (vi a3v) w R E:=by
  intro a3v H w I h
  intro _
  exact hR _ H _ _ I ⟨_,rfl,rfl,h⟩
 refine u2 fun j1 hx1=>?_
 have hj2:∀(a3M:Int) H w (_:Inv w0 ps0 H0 H [] w) (_:a1z a3M H K),c3H (vi a3M) w j1 R E:=by
  intro a3M H w I h
  intro _
  refine a7 pSu ?_
  exact hx1 _ _ (hj1 (IntKind.wrap .i64 (a3M-1)) H _ I h)
 refine u2 fun j2 hx2=>?_
 refine a7 pEq ?_
 refine j7 h (fun _ h=>?_) (fun _ h=>?_)
 ·refine a7 pSu ?_
  exact hx2 _ _ (hj2 (IntKind.wrap .i64 (3-1)) H _ I h)
 ·refine a7 pEq ?_
  refine j7 h (fun _ h=>?_) (fun _ h=>?_)
  ·exact hx2 _ _ (hj2 3 H _ I h)
  ·exact hx1 _ _ (hj1 3 H _ I h)
def a4V(x0:d7)(a:(List b7))(H:Hp)(K:d7→(List b7)→Hp→Prop):Prop:=
 S2 (y8 x0) a H (fun e f=>
 Y5 e f (fun b c d=>
 (b=10→
 K (d7.mk x0.fs (IntKind.wrap .i64 (x0.fn+c)) (c8.mk (IntKind.wrap .i64 (x0.fat.M8+1)) 1) (Sl.mk none 0 0)) a d)∧
 (¬(b=10)→
 K (d7.mk x0.fs (IntKind.wrap .i64 (x0.fn+c)) (c8.mk x0.fat.M8 (IntKind.wrap .i64 (x0.fat.V1+1))) (Sl.mk none 0 0)) a d)))
theorem a9y(x0 a){H K}(h:a4V x0 a H K):G9 x0 a H K:=by
 intro g0 b d e
 refine Ct.of fun w0 w ps0 H0 R E I hR=>c8l ?_
 refine g6 Tryz.call95 (h g0 b d e) ((I.bring 1).bring 1) ?_
 rintro _ n _ o k _ _ ⟨p,rfl,rfl,h⟩
 refine g6 Tryz.call89 h k ?_
 rintro _ g _ q i _ _ ⟨l,c,rfl,rfl,h⟩
 refine a7 (j9 _ _ (Value.int .i32 l) rfl) (a7 (j9 _ _ (vi c) rfl) (a7 (q9 _) (a7 W7 (b8 (l1 Tryz.isAgg3 i rfl) ?_))))
 refine a7 pAd (a7 (q9 _) (a7 W7 ?_))
 refine N7 i Tryz.sizeOf3 fun r j s=>?_
 refine a7 (q9 _) (a7 a4B (a7 b4N (b8 (l1 Tryz.isAgg3 j rfl) (a7 pAd ?_))))
 refine a7 (q9 _) (a7 a4B (a7 b4N ?_))
 refine N7 j Tryz.sizeOf3 fun t f u=>?_
 refine a7 pEq ?_
 refine j7 h (fun _ h=>?_) (fun _ h=>?_)
 ·refine a7 (q9 _) (a7 a4B (a7 c1J (b8 (l1 Tryz.isAgg3 f rfl) (a7 pAd ?_))))
  refine a7 (b7p _ _) (a7 (q9 _) (a7 a4B ?_))
  refine G4 f Tryz.sizeOf31 (vs:=[(vi (IntKind.wrap .i64 (x0.fat.M8+1))),(vi 1)]) (cs':=[(Value.string x0.fs),(vi (IntKind.wrap .i64 (x0.fn+c))),(vi (IntKind.wrap .i64 (x0.fat.M8+1))),(vi 1),(vs b)]) rfl rfl (nb rfl) rfl rfl fun v m y=>?_
  exact hR _ g _ _ ((m.bring 1).bring 1) ⟨(d7.mk x0.fs (IntKind.wrap .i64 (x0.fn+c)) (c8.mk (IntKind.wrap .i64 (x0.fat.M8+1)) 1) (Sl.mk none 0 0)),a,b,d,rfl,rfl,e,h⟩
 ·exact hR _ g _ _ ((f.bring 1).bring 1) ⟨(d7.mk x0.fs (IntKind.wrap .i64 (x0.fn+c)) (c8.mk x0.fat.M8 (IntKind.wrap .i64 (x0.fat.V1+1))) (Sl.mk none 0 0)),a,b,d,rfl,rfl,e,h⟩
def A5(Y6:Int)(t6:ByteArray)(p8:Int)(y9:c8)(C9:(List b7))(H:Hp)(K:ByteArray→d7→(List b7)→Hp→Prop):Prop:=
 (0:Int)≤Y6∧(Y6:Int)≤p8∧(p8:Int)≤t6.size∧
 K (t6.extract (Y6:Int).toNat (p8:Int).toNat) (d7.mk t6 p8 y9 (Sl.mk none 0 0)) C9 H
def A6(b3Z:Int)(Q8:Int)(C6:Bool)(s7:ByteArray)(p5:Int)(r8:c8)(p9:(List b7))(H:Hp)(n2:(Int×Bool×ByteArray×Int×c8×(List b7))→Hp→Prop)(K:ByteArray→d7→(List b7)→Hp→Prop):Prop:=
 TG (C6=true) (a0W Q8 H) false H (fun(b:Bool)(c:Hp)=>
 ((C6&&b)=true→
 G9 (d7.mk s7 p5 r8 (Sl.mk none 0 0)) p9 c (fun a d e=>
 D5 (y8 a) d e (fun f g i=>
 n2 (f,g,a.fs,a.fn,a.fat,d) i)))∧
 ((C6&&b)=false→
 A5 b3Z s7 p5 r8 p9 c K))
def M0(x0:d7)(a:(List b7))(H:Hp)(K:ByteArray→d7→(List b7)→Hp→Prop):Prop:=
 D5 (y8 x0) a H (fun b c d=>
 TL ((b,c,x0.fs,x0.fn,x0.fat,a):Int×Bool×ByteArray×Int×c8×(List b7)) d fun(s:Int×Bool×ByteArray×Int×c8×(List b7)) H n2=>A6 x0.fn s.1 s.2.1 s.2.2.1 s.2.2.2.1 s.2.2.2.2.1 s.2.2.2.2.2 H n2 K)
theorem a1p(x0 f){H K}(h:M0 x0 f H K):L6 x0 f H K:=by
 intro g0 o p q
 refine Ct.of fun w0 w ps0 H0 R E I hR=>b4T ?_
 unfold M0 at h
 unfold F94
 refine a7 (q9 _) (a7 W7 (b8 (l1 Tryz.isAgg3 I rfl) ?_))
 have hj1:∀(t6:ByteArray)(p8:Int)(y9:c8)(C9:(List b7))(T3:Sl)(N6:Frag) H w (_:RowL 88 5 g8 T3 C9 N6) (_:Inv w0 ps0 H0 H [bx g0 123 [(Value.string t6),(vi p8),(vi y9.M8),(vi y9.V1),(vs T3)],N6] w) (_:A5 x0.fn t6 p8 y9 C9 H K),a6G (Value.pointer (some ⟨g0,0,none⟩)) (vi x0.fn) w R E:=by
  intro t6 p8 y9 C9 T3 N6 H w a3w I h
  unfold a6G
  intro _
  unfold A5 at h
  refine T1 I fun au g=>?_
  refine o0 (q9 _) ?_
  refine o0 a5P ?_
  refine o0 (q9 _) ?_
  refine o0 W7 ?_
  refine u7 (l1 Tryz.isAgg9 g rfl) ?_
  refine u7 (l1 Tryz.isAgg3 g rfl) ?_
  obtain ⟨af,ag,ah,h⟩:=h
  refine o0 (b0W t6 Tryz.underlying9 af ag ah) ?_
  exact hR _ H _ _ ((g.bring 1).bring 1) ⟨(t6.extract (x0.fn:Int).toNat (p8:Int).toNat),(d7.mk t6 p8 y9 (Sl.mk none 0 0)),C9,T3,N6,rfl,rfl,a3w,h⟩
 refine u2 fun j1 hx1=>?_
 refine g6 Tryz.call64 (h g0 o p q) ((I.bring 1).bring 1) ?_
 rintro _ ai _ av aj _ _ ⟨r,t,rfl,rfl,h⟩
 refine a7 (j9 _ _ (Value.int .i32 r) rfl) (a7 (j9 _ _ (vB t) rfl) ?_)
 obtain ⟨i,c,ak,al⟩:=h
 refine R1 (J:=fun n l w=>∃(s:Int×Bool×ByteArray×Int×c8×(List b7))(H:Hp)(O8:Sl)(E8:Frag),n=c s∧l=(match s with | (Q8,C6,s7,p5,r8,p9)=>[(Value.int .i32 Q8),(vB C6)])∧(match s with | (Q8,C6,s7,p5,r8,p9)=>RowL 88 5 g8 O8 p9 E8)∧(match s with | (Q8,C6,s7,p5,r8,p9)=>Inv w0 ps0 H0 H [bx g0 123 [(Value.string s7),(vi p5),(vi r8.M8),(vi r8.V1),(vs O8)],E8] w)∧i s H) ⟨_,(r,t,x0.fs,x0.fn,x0.fat,f),ai,o,p,rfl,rfl,q,((aj.bring 1).bring 1),ak⟩ ?_
 rintro aw ax w next2 ⟨⟨Q8,C6,s7,p5,r8,p9⟩,H,O8,E8,rfl,j,Q9,I,am⟩ hn2
 dsimp only at j I Q9
 simp only [List.map_cons,List.map_nil,List.cons.injEq,and_true] at j
 obtain ⟨e6,e7⟩:=j
 simp only [e6,e7]
 obtain ⟨n2,hm2,h⟩:∃n2:(Int×Bool×ByteArray×Int×c8×(List b7))→Hp→Prop,(∀s' H',n2 s' H'→i s' H'∧c s' < c (Q8,C6,s7,p5,r8,p9))∧A6 x0.fn Q8 C6 s7 p5 r8 p9 H n2 K:=⟨_,fun _ _ h=>h,al (Q8,C6,s7,p5,r8,p9) H (fun s' H'=>i s' H'∧c s' < c (Q8,C6,s7,p5,r8,p9)) am (fun _ _ a b=>⟨a,b⟩)⟩
 unfold b2i
 unfold A6 at h
 simp only [E5]
 refine M3 [] (fun d:Bool=>(vB d)) h I (fun z h=>by simp only [o9 z];exact N9 Tryz.call96 h I) fun d k an e v y h=>?_
 refine a7 (D9 _ _) ?_
 refine p6 h (fun _ h=>?_) (fun _ h=>?_)
 ·refine g6 Tryz.call125 (h g0 O8 E8 Q9) ((e.bring 1).bring 1) ?_
  rintro _ _ _ ay ao _ _ ⟨m,ap,aa,ab,rfl,rfl,ac,h⟩
  refine g6 Tryz.call64 (h g0 aa ab ac) ((ao.bring 1).bring 1) ?_
  rintro _ aq _ az ar _ _ ⟨ad,ae,rfl,rfl,h⟩
  refine a7 (j9 _ _ (Value.int .i32 ad) rfl) (a7 (j9 _ _ (vB ae) rfl) ?_)
  exact hn2 _ _ _ (hm2 _ _ h).2 ⟨(ad,ae,m.fs,m.fn,m.fat,ap),aq,aa,ab,rfl,rfl,ac,((ar.bring 1).bring 1),(hm2 _ _ h).1⟩
 ·exact hx1 _ _ (hj1 s7 p5 r8 p9 O8 E8 k _ Q9 ((e.bring 1).bring 1) h)
def a3N(x0:Int)(H:Hp)(K:Bool→Hp→Prop):Prop:=
 R8 x0 H (fun a b=>
 K (decide (a=4)) b)
theorem a7B(x0){H K}(h:a3N x0 H K):a0Y x0 H K:=by
 refine Ct.of fun w0 w ps0 H0 R E I hR=>c8p ?_
 refine g6 Tryz.call93 h I ?_
 rintro _ a _ d b _ _ ⟨c,rfl,rfl,h⟩
 refine a7 pEq ?_
 exact hR _ a _ _ b ⟨_,rfl,rfl,h⟩
def a4t(x0:d7)(j:(List b7))(H:Hp)(K:b7→Int→d7→(List b7)→Hp→Prop):Prop:=
 L8 (y8 x0) j H (fun a c d k=>
 a8a a 10 64 k (fun l b m=>
 D5 (y8 c) d m (fun n e f=>
 okI b∧
 ((!(!isNilI b)&&(decide (1 < (a.size:Int))))=true→(0:Int)≤0∧0 < (a.size:Int))∧
 TG ((!((!isNilI b)||((decide (1 < (a.size:Int)))&&(decide (((a.get! (0:Int).toNat).toNat:Int)=48))))&&e)=true) (R8 n f) 0 f (fun(g:Int)(i:Hp)=>
 ((((!isNilI b)||((decide (1 < (a.size:Int)))&&(decide (((a.get! (0:Int).toNat).toNat:Int)=48))))||(e&&(decide (g=3))))=true→
 K (b7.mk 2 a 0 (c8.mk 0 0)) 21 (y8 c) d i)∧
 ((((!isNilI b)||((decide (1 < (a.size:Int)))&&(decide (((a.get! (0:Int).toNat).toNat:Int)=48))))||(e&&(decide (g=3))))=false→
 K (b7.mk 2 a l (c8.mk 0 0)) 0 (y8 c) d i)))))
theorem a8x(x0 q){H K}(h:a4t x0 q H K):a4p x0 q H K:=by
 intro g0 ac ad ae
 refine Ct.of fun w0 w ps0 H0 R E I hR=>d1R ?_
 refine r7 I Tryz.zeroValue88 (cs:=[(vi 0),(eS),(vi 0),(vi 0),(vi 0)]) rfl fun ao ap af aq=>?_
 refine g6 Tryz.call94 (h g0 ac ad ae) ((af.bring 2).bring 2) ?_
 rintro _ _ _ ar ag _ _ ⟨f,r,s,m,n,rfl,rfl,p,h⟩
 refine a7 (a6d _ _) ?_
 refine r7 ag Tryz.zeroValue88 (cs:=[(vi 0),(eS),(vi 0),(vi 0),(vi 0)]) rfl fun au av ah aw=>?_
 refine A9 ah Tryz.sizeOf88 (vs:=[(vi 2),(Value.string f),(vi 0),(vi 0),(vi 0)]) fun ax t ay=>?_
 refine a7 X1 (b8 (l1 Tryz.isAgg9 t rfl) ?_)
 refine g6 Tryz.call130 h t ?_
 rintro _ az _ ba ai _ _ ⟨j,aj,rfl,rfl,h⟩
 refine a7 (j9 _ _ (vi j) rfl) (a7 (j9 _ _ aj rfl) ?_)
 refine g6 Tryz.call64 (h g0 m n p) ((ai.bring 2).bring 2) ?_
 rintro _ _ _ bb d _ _ ⟨ak,al,rfl,rfl,h⟩
 refine a7 (j9 _ _ (Value.int .i32 ak) rfl) (a7 (j9 _ _ (vB al) rfl) ?_)
 obtain ⟨am,h⟩:=h
 refine a7 (c1L _ am) ?_
 refine a7 (Pu.g fun a=>by with_reducible exact X1) ?_
 refine b8 (Ld.g fun a=>by simp only [o9 a];exact (l1 Tryz.isAgg9 (d.bring 2) rfl)) ?_
 refine a7 (Pu.g fun a=>by simp only [o9 a];with_reducible exact (a6g _)) ?_
 refine a7 (Pu.g fun a=>by simp only [o9 a];with_reducible exact pGt) ?_
 simp only [E5,b4J]
 refine a7 (Pu.e (a2X _ _ _) (Pu.g fun hb=>by obtain ⟨a,b⟩:=a5Y hb;with_reducible exact X1)) ?_
 refine b8 (Ld.e (a2X _ _ _) (Ld.g fun hb=>by obtain ⟨a,b⟩:=a5Y hb;simp only [o9 hb];exact (l1 Tryz.isAgg9 (d.bring 2) rfl))) ?_
 obtain ⟨c,h⟩:=h
 refine a7 (Pu.e (a2X _ _ _) (Pu.g fun hb=>by obtain ⟨a,b⟩:=a5Y hb;simp only [o9 hb];with_reducible exact (c7U _ _ _ (c hb).1 (c hb).2))) ?_
 refine a7 (Pu.e (a2X _ _ _) (Pu.g fun hb=>by obtain ⟨a,b⟩:=a5Y hb;simp only [o9 hb];with_reducible exact pEq)) ?_
 refine a7 (Pu.g fun a=>by simp only [o9 a,b4I a];with_reducible exact (D9 _ _)) ?_
 refine a7 (R9 _ _) ?_
 simp only [E5,b4J,c2O]
 refine c1E (a2X _ _ _) ?_
 refine M3 [] (fun k:Int=>(vi k)) h d (fun u h=>?_) fun k l an i v y h=>?_
 ·obtain ⟨a,b⟩:=a5Y u
  simp only [o9 u]
  refine g6 Tryz.call93 h d ?_
  rintro _ l _ an i y v ⟨k,rfl,rfl,h⟩
  exact ⟨k,l,rfl,i,v,y,h⟩
 refine a7 (Pu.e (a2X _ _ _) (Pu.g fun hb=>by obtain ⟨a,b⟩:=a5Y hb;simp only [o9 hb];with_reducible exact pEq)) ?_
 refine a7 (Pu.g fun a=>by simp only [o9 a,b4I a];with_reducible exact (D9 _ _)) ?_
 refine a7 (R9 _ _) ?_
 refine p6 h (fun _ h=>?_) (fun _ h=>?_)
 ·refine b8 (ldA Tryz.isAgg88 Tryz.sizeOf88 rfl ((i.bring 2).at1 (o:=0) (vs:=[(vi 2),(Value.string f),(vi 0),(vi 0),(vi 0)]) (nb rfl) rfl)) ?_
  refine A9 (i.bring 3) Tryz.sizeOf88 (vs:=[(vi 2),(Value.string f),(vi 0),(vi 0),(vi 0)]) fun bc z bd=>?_
  refine M2 Tryz.isAgg88 Tryz.sizeOf88 rfl z ?_
  exact hR _ l _ _ (((z.drop.bring 2).drop.bring 1).bring 1) ⟨(b7.mk 2 f 0 (c8.mk 0 0)),21,(y8 r),s,m,n,rfl,rfl,p,h⟩
 ·refine a7 a8U ?_
  refine N7 (i.bring 2) Tryz.sizeOf2 fun be aa bf=>?_
  refine b8 (ldA Tryz.isAgg88 Tryz.sizeOf88 rfl (aa.at1 (o:=0) (vs:=[(vi 2),(Value.string f),(vi j),(vi 0),(vi 0)]) (nb rfl) rfl)) ?_
  refine A9 (aa.bring 3) Tryz.sizeOf88 (vs:=[(vi 2),(Value.string f),(vi j),(vi 0),(vi 0)]) fun bg ab bh=>?_
  refine M2 Tryz.isAgg88 Tryz.sizeOf88 rfl ab ?_
  exact hR _ l _ _ ((ab.drop.drop.bring 1).bring 1) ⟨(b7.mk 2 f j (c8.mk 0 0)),0,(y8 r),s,m,n,rfl,rfl,p,h⟩
def a2o [PanQ] (b:O5) (C7:a8) (H:Hp) (K:Int→a8→Hp→Prop):Prop:=
 D7 C7 H (fun a=>
 K 0 C7 a)
def a2p [PanQ] (C6:O5) (c:O5) (E0:Int) (V7:a8) (H:Hp) (n2:(Int×a8)→Hp→Prop) (K:Int→a8→Hp→Prop):Prop:=
 (E0 < 7→
 (0:Int)≤E0∧(E0:Int) < 7∧
 TG ((decide (0 < E0))=true) (fun k_=>t7 V7 (([C6.f0,C6.f1,C6.f2,C6.f3,C6.f4,C6.f5,C6.f6]:List ByteArray).getD (E0:Int).toNat ⟨#[]⟩) H fun d e H_=>k_ (d,e) H_) (false,V7) H (fun(a:Bool×a8)(b:Hp)=>
 (((decide (0 < E0))&&a.1)=true→
 K E0 a.2 b)∧
 (((decide (0 < E0))&&a.1)=false→
 n2 ((IntKind.wrap .i64 (E0+1)),a.2) b)))∧
 (¬(E0 < 7)→
 a2o c V7 H K)
def a3j [PanQ] (x0:a8) (H:Hp) (K:Int→a8→Hp→Prop):Prop:=
 TL ((0,x0):Int×a8) H fun(s:Int×a8) H n2=>a2p (O5.mk ⟨#[]⟩ ⟨#[60]⟩ ⟨#[60,61]⟩ ⟨#[61,61]⟩ ⟨#[33,61]⟩ ⟨#[62]⟩ ⟨#[62,61]⟩) (O5.mk ⟨#[]⟩ ⟨#[60]⟩ ⟨#[60,61]⟩ ⟨#[61,61]⟩ ⟨#[33,61]⟩ ⟨#[62]⟩ ⟨#[62,61]⟩) s.1 s.2 H n2 K
theorem a6P [PanQ] (x0:a8) {H:Hp} {K:Int→a8→Hp→Prop} (h:a3j x0 H K):a0k x0 H K:=by
 intro g0
 refine Ct.ofE fun w0 w ps0 H0 R E I hR hE=>c8v ?_
 refine a7 (a9q _ _ _ _ _ _ _) ?_
 refine r7 I Tryz.zeroValue203 (cs:=[(eS),(eS),(eS),(eS),(eS),(eS),(eS)]) rfl fun g v q y=>?_
 refine A9 q Tryz.sizeOf203 (vs:=[(eS),(Value.string ⟨#[60]⟩),(Value.string ⟨#[60,61]⟩),(Value.string ⟨#[61,61]⟩),(Value.string ⟨#[33,61]⟩),(Value.string ⟨#[62]⟩),(Value.string ⟨#[62,61]⟩)]) fun z k aa=>?_
 have hj1:∀(C7:a8) H w (_:Inv w0 ps0 H0 H [bx g 203 [(Value.string (O5.mk ⟨#[]⟩ ⟨#[60]⟩ ⟨#[60,61]⟩ ⟨#[61,61]⟩ ⟨#[33,61]⟩ ⟨#[62]⟩ ⟨#[62,61]⟩).f0),(Value.string (O5.mk ⟨#[]⟩ ⟨#[60]⟩ ⟨#[60,61]⟩ ⟨#[61,61]⟩ ⟨#[33,61]⟩ ⟨#[62]⟩ ⟨#[62,61]⟩).f1),(Value.string (O5.mk ⟨#[]⟩ ⟨#[60]⟩ ⟨#[60,61]⟩ ⟨#[61,61]⟩ ⟨#[33,61]⟩ ⟨#[62]⟩ ⟨#[62,61]⟩).f2),(Value.string (O5.mk ⟨#[]⟩ ⟨#[60]⟩ ⟨#[60,61]⟩ ⟨#[61,61]⟩ ⟨#[33,61]⟩ ⟨#[62]⟩ ⟨#[62,61]⟩).f3),(Value.string (O5.mk ⟨#[]⟩ ⟨#[60]⟩ ⟨#[60,61]⟩ ⟨#[61,61]⟩ ⟨#[33,61]⟩ ⟨#[62]⟩ ⟨#[62,61]⟩).f4),(Value.string (O5.mk ⟨#[]⟩ ⟨#[60]⟩ ⟨#[60,61]⟩ ⟨#[61,61]⟩ ⟨#[33,61]⟩ ⟨#[62]⟩ ⟨#[62,61]⟩).f5),(Value.string (O5.mk ⟨#[]⟩ ⟨#[60]⟩ ⟨#[60,61]⟩ ⟨#[61,61]⟩ ⟨#[33,61]⟩ ⟨#[62]⟩ ⟨#[62,61]⟩).f6)],bx g0 86 (b9 C7)] w) (_:a2o (O5.mk ⟨#[]⟩ ⟨#[60]⟩ ⟨#[60,61]⟩ ⟨#[61,61]⟩ ⟨#[33,61]⟩ ⟨#[62]⟩ ⟨#[62,61]⟩) C7 H K),c0x (Value.pointer (some ⟨g0,0,none⟩)) w R E:=by
  intro C7 H w I h
  intro _
  refine z7 hE Tryz.call36 (h g0) (I.bring 1) ?_
  rintro _ r _ ab s _ _ ⟨rfl,rfl,h⟩
  exact hR _ r _ _ (s.bring 1).drop ⟨0,C7,rfl,rfl,h⟩
 refine u2 fun j1 hx1=>?_
 refine b8 (ldA Tryz.isAgg203 Tryz.sizeOf203 rfl (k.at1 (o:=0) (vs:=[(eS),(Value.string ⟨#[60]⟩),(Value.string ⟨#[60,61]⟩),(Value.string ⟨#[61,61]⟩),(Value.string ⟨#[33,61]⟩),(Value.string ⟨#[62]⟩),(Value.string ⟨#[62,61]⟩)]) (nb rfl) rfl)) ?_
 refine a2x (σ:=Int×a8) (fun (E0,V7)=>[(vi E0)]) (fun (E0,V7)=>[bx g 203 [(Value.string (O5.mk ⟨#[]⟩ ⟨#[60]⟩ ⟨#[60,61]⟩ ⟨#[61,61]⟩ ⟨#[33,61]⟩ ⟨#[62]⟩ ⟨#[62,61]⟩).f0),(Value.string (O5.mk ⟨#[]⟩ ⟨#[60]⟩ ⟨#[60,61]⟩ ⟨#[61,61]⟩ ⟨#[33,61]⟩ ⟨#[62]⟩ ⟨#[62,61]⟩).f1),(Value.string (O5.mk ⟨#[]⟩ ⟨#[60]⟩ ⟨#[60,61]⟩ ⟨#[61,61]⟩ ⟨#[33,61]⟩ ⟨#[62]⟩ ⟨#[62,61]⟩).f2),(Value.string (O5.mk ⟨#[]⟩ ⟨#[60]⟩ ⟨#[60,61]⟩ ⟨#[61,61]⟩ ⟨#[33,61]⟩ ⟨#[62]⟩ ⟨#[62,61]⟩).f3),(Value.string (O5.mk ⟨#[]⟩ ⟨#[60]⟩ ⟨#[60,61]⟩ ⟨#[61,61]⟩ ⟨#[33,61]⟩ ⟨#[62]⟩ ⟨#[62,61]⟩).f4),(Value.string (O5.mk ⟨#[]⟩ ⟨#[60]⟩ ⟨#[60,61]⟩ ⟨#[61,61]⟩ ⟨#[33,61]⟩ ⟨#[62]⟩ ⟨#[62,61]⟩).f5),(Value.string (O5.mk ⟨#[]⟩ ⟨#[60]⟩ ⟨#[60,61]⟩ ⟨#[61,61]⟩ ⟨#[33,61]⟩ ⟨#[62]⟩ ⟨#[62,61]⟩).f6)],bx g0 86 (b9 V7)]) h rfl ((k.bring 1).bring 1) ?_
 rintro ⟨E0,V7⟩ H ac w next2 n2 j I h hn2
 dsimp only at j I h
 simp only [List.map_cons,List.map_nil,List.cons.injEq,and_true] at j
 have e8:=j
 simp only [e8]
 refine a7 pLs ?_
 refine j7 h (fun _ h=>?_) (fun _ h=>?_)
 ·obtain ⟨t,u,h⟩:=h
  refine a7 (c1M _ _ _ _ _ _ _ _ _ t u) (a7 pGt ?_)
  simp only [E5]
  refine b2e (D:=fun l e=>∃(d:Bool)(a:a8)(b:Hp),l=(gv (decide (0 < E0)) true (vB d))∧(Inv w0 ps0 H0 b [bx g0 86 (b9 a),bx g 203 [(Value.string (O5.mk ⟨#[]⟩ ⟨#[60]⟩ ⟨#[60,61]⟩ ⟨#[61,61]⟩ ⟨#[33,61]⟩ ⟨#[62]⟩ ⟨#[62,61]⟩).f0),(Value.string (O5.mk ⟨#[]⟩ ⟨#[60]⟩ ⟨#[60,61]⟩ ⟨#[61,61]⟩ ⟨#[33,61]⟩ ⟨#[62]⟩ ⟨#[62,61]⟩).f1),(Value.string (O5.mk ⟨#[]⟩ ⟨#[60]⟩ ⟨#[60,61]⟩ ⟨#[61,61]⟩ ⟨#[33,61]⟩ ⟨#[62]⟩ ⟨#[62,61]⟩).f2),(Value.string (O5.mk ⟨#[]⟩ ⟨#[60]⟩ ⟨#[60,61]⟩ ⟨#[61,61]⟩ ⟨#[33,61]⟩ ⟨#[62]⟩ ⟨#[62,61]⟩).f3),(Value.string (O5.mk ⟨#[]⟩ ⟨#[60]⟩ ⟨#[60,61]⟩ ⟨#[61,61]⟩ ⟨#[33,61]⟩ ⟨#[62]⟩ ⟨#[62,61]⟩).f4),(Value.string (O5.mk ⟨#[]⟩ ⟨#[60]⟩ ⟨#[60,61]⟩ ⟨#[61,61]⟩ ⟨#[33,61]⟩ ⟨#[62]⟩ ⟨#[62,61]⟩).f5),(Value.string (O5.mk ⟨#[]⟩ ⟨#[60]⟩ ⟨#[60,61]⟩ ⟨#[61,61]⟩ ⟨#[33,61]⟩ ⟨#[62]⟩ ⟨#[62,61]⟩).f6)]] e)∧(∀i,i < w.heap.size→¬inF [bx g0 86 (b9 V7)] i→e.heap[i]? = w.heap[i]?)∧Hle H b∧((((decide (0 < E0))&&d)=true→
 K E0 a b)∧
 (((decide (0 < E0))&&d)=false→
 n2 ((IntKind.wrap .i64 (E0+1)),a) b))) (fun c=>?_) (fun c=>?_) ?_
  ·replace h:=h.1 c
   have m:=c
   simp only [o9 m]
   refine g6 Tryz.call69 (h g0) (I.bring 1) ?_
   rintro _ b _ e f n p ⟨d,a,rfl,rfl,h⟩
   exact ⟨d,a,b,by rfl,f,p,n,h⟩
  ·exact ⟨false,V7,H,by rw [b5N c],(I.bring 1),fun _ _ _=>rfl,Hle.refl _,h.2 c⟩
  ·clear h
   rintro l e ⟨d,a,b,rfl,f,p,n,h⟩
   refine a7 (D9 _ _) ?_
   refine p6 h (fun _ h=>?_) (fun _ h=>?_)
   ·exact hR _ b _ _ (f.bring 1).drop ⟨E0,a,rfl,rfl,h⟩
   ·refine a7 pAd ?_
    exact hn2 ((IntKind.wrap .i64 (E0+1)),a) _ _ h (f.bring 1)
 ·exact hx1 _ _ (hj1 V7 H _ ((I.bring 1).bring 1) h)
def X3 [PanQ] (b1g:Int) (C7:a8) (o:i7) (H:Hp) (K:i7→a8→Hp→Prop):Prop:=
 Q2 C7 b1g H (fun d e f=>
 a0k e f (fun g i j=>
 Q2 i b1g j (fun k l m=>
 ∀(a:Sl)(b:Hp),Hle m b→SlH b 4 f7 a [d,k]→a.n≤a.c→
 K (i7.mk 3 g a (Sl.mk none 0 0)) l b)))
def a4F [PanQ] (x0:a8) (x1:Int) (H:Hp) (K:i7→a8→Hp→Prop):Prop:=
 P3 x0 H (fun f g=>
 ((!f)=true→
 D7 x0 g (fun t=>
 X3 x1 x0 (i7.mk 0 0 (Sl.mk none 0 0) (Sl.mk none 0 0)) t K))∧
 ((!f)=false→
 t7 x0 ⟨#[116,114,117,101]⟩ g (fun i j k=>
 (i=true→
 K (i7.mk 1 0 (Sl.mk none 0 0) (Sl.mk none 0 0)) j k)∧
 (i=false→
 t7 j ⟨#[102,97,108,115,101]⟩ k (fun l m o=>
 (l=true→
 K (i7.mk 2 0 (Sl.mk none 0 0) (Sl.mk none 0 0)) m o)∧
 (l=false→
 t7 m ⟨#[33]⟩ o (fun p a q=>
 (p=true→
 P3 a q (fun u v=>
 C8 a (IntKind.wrap .i64 (x1+1)) u v (fun y=>
 V4 a (IntKind.wrap .i64 (x1+1)) y (fun z aa ab=>
 ∀(b:Sl)(e:Hp),Hle ab e→SlH e 4 g7 b [z]→b.n≤b.c→
 K (i7.mk 4 0 (Sl.mk none 0 0) b) aa e))))∧
 (p=false→
 t7 a ⟨#[91]⟩ q (fun r d s=>
 (r=true→
 P3 d s (fun ac ad=>
 C8 d (IntKind.wrap .i64 (x1+1)) ac ad (fun ae=>
 N1 d (IntKind.wrap .i64 (x1+1)) ae (fun af ag ah=>
 C4 ag ⟨#[93]⟩ ah (fun ai aj=>
 K af ai aj)))))∧
 (r=false→
 X3 x1 d (i7.mk 0 0 (Sl.mk none 0 0) (Sl.mk none 0 0)) s K))))))))))
theorem a8Y [PanQ] (x0:a8) (x1:Int) {H:Hp} {K:i7→a8→Hp→Prop} (h:a4F x0 x1 H K):V4 x0 x1 H K:=by
 intro g0
 refine Ct.ofE fun w0 w ps0 H0 R E I hR hE=>c8d ?_
 refine r7 I Tryz.zeroValue75 (cs:=[(vi 0),(vi 0),(nS),(nS)]) rfl fun i bt ab bu=>?_
 have hj1:∀(C7:a8) H w (_:Inv w0 ps0 H0 H [bx g0 86 (b9 C7),bx i 75 [(vi (i7.mk 0 0 (Sl.mk none 0 0) (Sl.mk none 0 0)).d6),(vi (i7.mk 0 0 (Sl.mk none 0 0) (Sl.mk none 0 0)).fOp),(Value.slice (i7.mk 0 0 (Sl.mk none 0 0) (Sl.mk none 0 0)).p7.a (i7.mk 0 0 (Sl.mk none 0 0) (Sl.mk none 0 0)).p7.n (i7.mk 0 0 (Sl.mk none 0 0) (Sl.mk none 0 0)).p7.c),(Value.slice (i7.mk 0 0 (Sl.mk none 0 0) (Sl.mk none 0 0)).E6.a (i7.mk 0 0 (Sl.mk none 0 0) (Sl.mk none 0 0)).E6.n (i7.mk 0 0 (Sl.mk none 0 0) (Sl.mk none 0 0)).E6.c)]] w) (_:X3 x1 C7 (i7.mk 0 0 (Sl.mk none 0 0) (Sl.mk none 0 0)) H K),c0r (Value.pointer (some ⟨g0,0,none⟩)) (vi x1) (Value.pointer (some ⟨i,0,none⟩)) w R E:=by
  intro C7 H w I h
  intro _
  refine z7 hE Tryz.call71 (h g0) I ?_
  rintro _ _ _ bv ac _ _ ⟨j,bw,rfl,rfl,h⟩
  refine r7 ac Tryz.zeroValue39 (cs:=[(vi 0),(vi 0),(eS),(nS)]) rfl fun bz ca ad cb=>?_
  refine A9 ad Tryz.sizeOf39 (vs:=(f7 j)) fun cc ae cd=>?_
  refine z7 hE Tryz.call134 (h g0) (ae.bring 1) ?_
  rintro _ _ _ ce af _ _ ⟨k,ag,rfl,rfl,h⟩
  refine T1 af fun cf b=>?_
  refine u7 (lW Tryz.isAgg39 Tryz.sizeOf39 rfl (b.bring 1)) ?_
  refine z7 hE Tryz.call71 (h g0) b ?_
  rintro _ _ _ cg ah _ ai ⟨aj,ak,rfl,rfl,h⟩
  refine ⟨(ai _ (b.bring 1).lt1 (Inv.a1Y (Fi:=[bx g0 86 (b9 ag)]) ((b.bring 1).bring 1))),?_⟩
  refine O4 (e:=39) (c:=f7) (xs:=[j,aj]) ah (b2M _ _ _ _ _ _ _ _ _ _ _ _) rfl rfl P9 Q0 (nb rfl) fun d ch ci al am cj=>?_
  refine o0 (b4R _ _ _ _ _) ?_
  refine A9 (am.bring 3) Tryz.sizeOf75 (vs:=[(vi 3),(vi k),(vs d),(nS)]) fun ck l cl=>?_
  refine M2 Tryz.isAgg75 Tryz.sizeOf75 rfl l ?_
  obtain ⟨m,an,ao,ap,aq⟩:=Inv.freezeC (l.bring 1) al (by decide)
  replace h:=h d m ao ap aq
  exact hR _ m _ _ (an.drop.bring 1).drop ⟨(i7.mk 3 k d (Sl.mk none 0 0)),ak,rfl,rfl,h⟩
 refine u2 fun j1 hx1=>?_
 refine g6 Tryz.call133 (h g0) (ab.bring 1) ?_
 rintro _ _ _ cm o _ _ ⟨cn,rfl,rfl,h⟩
 refine a7 (T6 _) ?_
 refine p6 h (fun _ h=>?_) (fun _ h=>?_)
 ·refine z7 hE Tryz.call36 (h g0) o ?_
  rintro _ ar _ co au _ _ ⟨rfl,rfl,h⟩
  exact hx1 _ _ (hj1 x0 ar _ ((au.bring 1).bring 1) h)
 ·refine g6 Tryz.call69 (h g0) o ?_
  rintro _ av _ cp p _ _ ⟨cq,aw,rfl,rfl,h⟩
  refine p6 h (fun _ h=>?_) (fun _ h=>?_)
  ·refine a7 (b3E _) ?_
   refine A9 (p.bring 1) Tryz.sizeOf75 (vs:=[(vi 1),(vi 0),(nS),(nS)]) fun cr q ct=>?_
   refine M2 Tryz.isAgg75 Tryz.sizeOf75 rfl q ?_
   exact hR _ av _ _ q.drop ⟨(i7.mk 1 0 (Sl.mk none 0 0) (Sl.mk none 0 0)),aw,rfl,rfl,h⟩
  ·refine g6 Tryz.call69 (h g0) p ?_
   rintro _ ax _ cu r _ _ ⟨cv,ay,rfl,rfl,h⟩
   refine p6 h (fun _ h=>?_) (fun _ h=>?_)
   ·refine a7 (b3E _) ?_
    refine A9 (r.bring 1) Tryz.sizeOf75 (vs:=[(vi 2),(vi 0),(nS),(nS)]) fun cw s cx=>?_
    refine M2 Tryz.isAgg75 Tryz.sizeOf75 rfl s ?_
    exact hR _ ax _ _ s.drop ⟨(i7.mk 2 0 (Sl.mk none 0 0) (Sl.mk none 0 0)),ay,rfl,rfl,h⟩
   ·refine g6 Tryz.call69 (h g0) r ?_
    rintro _ _ _ cy t _ _ ⟨cz,da,rfl,rfl,h⟩
    refine p6 h (fun _ h=>?_) (fun _ h=>?_)
    ·refine a7 pAd ?_
     refine g6 Tryz.call133 (h g0) t ?_
     rintro _ _ _ db az _ _ ⟨dc,rfl,rfl,h⟩
     refine z7 hE Tryz.call39 (h g0) az ?_
     rintro _ _ _ dd ba _ _ ⟨rfl,rfl,h⟩
     refine a7 pAd ?_
     refine z7 hE Tryz.call106 (h g0) ba ?_
     rintro _ _ _ de bb _ _ ⟨bc,bd,rfl,rfl,h⟩
     refine O4 (e:=75) (c:=g7) (xs:=[bc]) bb (b0y _ _ _ _ _ _ _ _) rfl rfl Y8 Y9 (nb rfl) fun f df dg be bf dh=>?_
     refine a7 (b1P _ _ _ _) ?_
     refine A9 (bf.bring 2) Tryz.sizeOf75 (vs:=[(vi 4),(vi 0),(nS),(vs f)]) fun di u dj=>?_
     refine M2 Tryz.isAgg75 Tryz.sizeOf75 rfl u ?_
     obtain ⟨v,bg,bh,bi,bj⟩:=Inv.freezeC (u.bring 1) be (by decide)
     replace h:=h f v bh bi bj
     exact hR _ v _ _ bg.drop ⟨(i7.mk 4 0 (Sl.mk none 0 0) f),bd,rfl,rfl,h⟩
    ·refine g6 Tryz.call69 (h g0) t ?_
     rintro _ bk _ dk y _ _ ⟨dl,bl,rfl,rfl,h⟩
     refine p6 h (fun _ h=>?_) (fun _ h=>?_)
     ·refine a7 pAd ?_
      refine g6 Tryz.call133 (h g0) y ?_
      rintro _ _ _ dm bm _ _ ⟨dn,rfl,rfl,h⟩
      refine z7 hE Tryz.call39 (h g0) bm ?_
      rintro _ _ _ dp bn _ _ ⟨rfl,rfl,h⟩
      refine a7 pAd ?_
      refine z7 hE Tryz.call72 (h g0) bn ?_
      rintro _ _ _ dq bo _ _ ⟨g,dr,rfl,rfl,h⟩
      refine r7 bo Tryz.zeroValue75 (cs:=[(vi 0),(vi 0),(nS),(nS)]) rfl fun ds dt bp du=>?_
      refine A9 bp Tryz.sizeOf75 (vs:=(g7 g)) fun dv bq dw=>?_
      refine z7 hE Tryz.call67 (h g0) (bq.bring 1) ?_
      rintro _ br _ dx z _ _ ⟨bs,rfl,rfl,h⟩
      refine b8 (lW Tryz.isAgg75 Tryz.sizeOf75 rfl (z.bring 1)) ?_
      refine A9 (z.bring 2) Tryz.sizeOf75 (vs:=(g7 g)) fun dy aa dz=>?_
      refine M2 Tryz.isAgg75 Tryz.sizeOf75 rfl aa ?_
      exact hR _ br _ _ (aa.drop.bring 1).drop ⟨g,bs,rfl,rfl,h⟩
     ·exact hx1 _ _ (hj1 bl bk _ ((y.bring 1).bring 1) h)
def a4W(x0:L4)(H:Hp)(K:Sl→Hp→Prop):Prop:=
 B2 x0.y7.N8 H (fun a b=>
 K a b)
theorem a9z(x0){H K}(h:a4W x0 H K):a4O x0 H K:=by
 refine Ct.of fun w0 w ps0 H0 R E I hR=>c8B ?_
 refine E9 I (cs:=(f7 x0.y7)) rfl fun e f a g=>?_
 refine a7 a0d (a7 a3f (b8 (l1 Tryz.isAgg37 a rfl) ?_))
 refine g6 Tryz.call172 h a ?_
 rintro _ b _ i c _ _ ⟨d,rfl,rfl,h⟩
 exact hR _ b _ _ c.drop ⟨d,rfl,rfl,h⟩
def T9(Y6:Bool)(c7u:Int)(b2T:Bool)(a:G5)(b:V2)(H:Hp)(K:Bool→Hp→Prop):Prop:=
 (b2T=true→
 K (Y6&&(decide (a.fexprs=0∧a.fconds=1))) H)∧
 (b2T=false→
 (c7u=7→
 K (Y6&&(decide (a.fexprs=0∧a.fconds=0))) H)∧
 (¬(c7u=7)→
 K false H))
def a5G(x0:V2)(H:Hp)(K:Bool→Hp→Prop):Prop:=
 (x0.m0.d6=1→
 K ((!(decide (0 < (IntKind.wrap .i64 ((x0.m0.P5.n:Int)+(x0.m0.O6.n:Int))))))&&(decide ((x0.m0.p7.n:Int)=1∧(x0.m0.C0.n:Int)=0))) H)∧
 (¬(x0.m0.d6=1)→
 (x0.m0.d6=2→
 K ((!(decide (0 < (IntKind.wrap .i64 ((x0.m0.P5.n:Int)+(x0.m0.O6.n:Int))))))&&(decide ((x0.m0.p7.n:Int)=2∧(x0.m0.C0.n:Int)=0))) H)∧
 (¬(x0.m0.d6=2)→
 (x0.m0.d6=3→
 K ((decide (x0.m0.o8=⟨#[]⟩))&&(decide ((x0.m0.p7.n:Int)=0∧(x0.m0.C0.n:Int)=1))) H)∧
 (¬(x0.m0.d6=3)→
 (x0.m0.d6=4→
 K (((decide (x0.m0.o8=⟨#[]⟩))&&(decide ((x0.m0.O6.n:Int)=0)))&&(decide ((x0.m0.p7.n:Int)=0∧(x0.m0.C0.n:Int)=1))) H)∧
 (¬(x0.m0.d6=4)→
 (x0.m0.d6=5→
 T9 ((decide (x0.m0.o8=⟨#[]⟩))&&(!(decide (0 < (IntKind.wrap .i64 ((x0.m0.P5.n:Int)+(x0.m0.O6.n:Int))))))) x0.m0.d6 (decide (x0.m0.d6=5)) (G5.mk (x0.m0.p7.n:Int) (x0.m0.C0.n:Int)) x0 H K)∧
 (¬(x0.m0.d6=5)→
 T9 ((decide (x0.m0.o8=⟨#[]⟩))&&(!(decide (0 < (IntKind.wrap .i64 ((x0.m0.P5.n:Int)+(x0.m0.O6.n:Int))))))) x0.m0.d6 (decide (x0.m0.d6=6)) (G5.mk (x0.m0.p7.n:Int) (x0.m0.C0.n:Int)) x0 H K)))))
theorem a9R(x0){H K}(h:a5G x0 H K):a2R x0 H K:=by
 refine Ct.of fun w0 w ps0 H0 R E I hR=>c8H ?_
 refine E9 I (cs:=(k7 x0.m0)) rfl fun e i c j=>?_
 refine a7 P2 (a7 a3g (b8 (l1 Tryz.isAgg23 c rfl) (a7 (a2m _ _ _) (a7 P2 ?_))))
 refine a7 a3h (b8 (l1 Tryz.isAgg23 c rfl) (a7 (a2m _ _ _) (a7 pAd (a7 pGt ?_))))
 refine a7 P2 (a7 a0h (b8 (l1 Tryz.isAgg37 c rfl) (a7 (a4K _ _ _) (a7 P2 ?_))))
 refine a7 Z0 (b8 (l1 Tryz.isAgg52 c rfl) (a7 (a6n _ _ _) (a7 (a2s _ _) ?_)))
 refine r7 c Tryz.zeroValue236 (cs:=[(vi 0),(vi 0)]) rfl fun d k f l=>?_
 refine A9 f Tryz.sizeOf236 (vs:=[(vi (x0.m0.p7.n:Int)),(vi (x0.m0.C0.n:Int))]) fun m b p=>?_
 refine a7 P2 (a7 a2d (b8 (l1 Tryz.isAgg9 (b.bring 1) rfl) (a7 (R3 _ _ _ _ _) ?_)))
 simp only [E5]
 refine a7 (Pu.g fun a=>by simp only [o9 a];with_reducible exact (T6 _)) ?_
 refine a7 (D9 _ _) (a7 P2 (a7 W9 (b8 (l1 Tryz.isAgg3 (b.bring 1) rfl) (a7 pEq ?_))))
 refine j7 h (fun _ h=>?_) (fun _ h=>?_)
 ·refine a7 (T6 _) ?_
  refine b8 (Ld.g fun a=>by exact (ldA Tryz.isAgg236 Tryz.sizeOf236 rfl (b.at1 (o:=0) (vs:=[(vi (x0.m0.p7.n:Int)),(vi (x0.m0.C0.n:Int))]) (nb rfl) rfl))) ?_
  refine a7 (Pu.g fun a=>by with_reducible exact (a2s _ _)) ?_
  refine a7 (Pu.g fun a=>by simp only [o9 a];with_reducible exact (a6o _ _ _ _ _ _)) ?_
  refine a7 (D9 _ _) ?_
  exact hR _ H _ _ b.drop.drop ⟨_,rfl,rfl,h⟩
 ·refine a7 pEq ?_
  refine j7 h (fun _ h=>?_) (fun _ h=>?_)
  ·refine a7 (T6 _) ?_
   refine b8 (Ld.g fun a=>by exact (ldA Tryz.isAgg236 Tryz.sizeOf236 rfl (b.at1 (o:=0) (vs:=[(vi (x0.m0.p7.n:Int)),(vi (x0.m0.C0.n:Int))]) (nb rfl) rfl))) ?_
   refine a7 (Pu.g fun a=>by with_reducible exact (a2s _ _)) ?_
   refine a7 (Pu.g fun a=>by simp only [o9 a];with_reducible exact (a6o _ _ _ _ _ _)) ?_
   refine a7 (D9 _ _) ?_
   exact hR _ H _ _ b.drop.drop ⟨_,rfl,rfl,h⟩
  ·refine a7 pEq ?_
   refine j7 h (fun _ h=>?_) (fun _ h=>?_)
   ·refine a7 P2 (a7 a2d (b8 (l1 Tryz.isAgg9 (b.bring 1) rfl) (a7 (R3 _ _ _ _ _) ?_)))
    refine b8 (Ld.g fun a=>by exact (ldA Tryz.isAgg236 Tryz.sizeOf236 rfl (b.at1 (o:=0) (vs:=[(vi (x0.m0.p7.n:Int)),(vi (x0.m0.C0.n:Int))]) (nb rfl) rfl))) ?_
    refine a7 (Pu.g fun a=>by with_reducible exact (a2s _ _)) ?_
    refine a7 (Pu.g fun a=>by simp only [o9 a];with_reducible exact (a6o _ _ _ _ _ _)) ?_
    refine a7 (D9 _ _) ?_
    exact hR _ H _ _ b.drop.drop ⟨_,rfl,rfl,h⟩
   ·refine a7 pEq ?_
    refine j7 h (fun _ h=>?_) (fun _ h=>?_)
    ·refine a7 P2 (a7 a2d (b8 (l1 Tryz.isAgg9 (b.bring 1) rfl) (a7 (R3 _ _ _ _ _) ?_)))
     refine a7 (Pu.g fun a=>by with_reducible exact P2) ?_
     refine a7 (Pu.g fun a=>by simp only [o9 a];with_reducible exact a3h) ?_
     refine b8 (Ld.g fun a=>by simp only [o9 a];exact (l1 Tryz.isAgg23 (b.bring 1) rfl)) ?_
     refine a7 (Pu.g fun a=>by simp only [o9 a];with_reducible exact (a2m _ _ _)) ?_
     refine a7 (Pu.g fun a=>by simp only [o9 a];with_reducible exact pEq) ?_
     refine a7 (D9 _ _) ?_
     refine b8 (Ld.g fun a=>by exact (ldA Tryz.isAgg236 Tryz.sizeOf236 rfl (b.at1 (o:=0) (vs:=[(vi (x0.m0.p7.n:Int)),(vi (x0.m0.C0.n:Int))]) (nb rfl) rfl))) ?_
     refine a7 (Pu.g fun a=>by with_reducible exact (a2s _ _)) ?_
     refine a7 (Pu.g fun a=>by simp only [o9 a];with_reducible exact (a6o _ _ _ _ _ _)) ?_
     refine a7 (D9 _ _) ?_
     exact hR _ H _ _ b.drop.drop ⟨_,rfl,rfl,h⟩
    ·have hj1:∀(b2T:Bool) H w (_:Inv w0 ps0 H0 H [bx d 236 [(vi (G5.mk (x0.m0.p7.n:Int) (x0.m0.C0.n:Int)).fexprs),(vi (G5.mk (x0.m0.p7.n:Int) (x0.m0.C0.n:Int)).fconds)],bx e 145 (k7 x0.m0)] w) (_:T9 ((decide (x0.m0.o8=⟨#[]⟩))&&(!(decide (0 < (IntKind.wrap .i64 ((x0.m0.P5.n:Int)+(x0.m0.O6.n:Int))))))) x0.m0.d6 b2T (G5.mk (x0.m0.p7.n:Int) (x0.m0.C0.n:Int)) x0 H K),c0E (Value.pointer (some ⟨d,0,none⟩)) (vB ((decide (x0.m0.o8=⟨#[]⟩))&&(!(decide (0 < (IntKind.wrap .i64 ((x0.m0.P5.n:Int)+(x0.m0.O6.n:Int)))))))) (vi x0.m0.d6) (vB b2T) w R E:=by
      intro b2T H w I h
      intro _
      refine p6 h (fun _ h=>?_) (fun _ h=>?_)
      ·refine b8 (Ld.g fun a=>by exact (ldA Tryz.isAgg236 Tryz.sizeOf236 rfl (I.at1 (o:=0) (vs:=[(vi (G5.mk (x0.m0.p7.n:Int) (x0.m0.C0.n:Int)).fexprs),(vi (G5.mk (x0.m0.p7.n:Int) (x0.m0.C0.n:Int)).fconds)]) (nb rfl) rfl))) ?_
       refine a7 (Pu.g fun a=>by with_reducible exact (a2s _ _)) ?_
       refine a7 (Pu.g fun a=>by simp only [o9 a];with_reducible exact (a6o _ _ _ _ _ _)) ?_
       refine a7 (D9 _ _) ?_
       exact hR _ H _ _ I.drop.drop ⟨_,rfl,rfl,h⟩
      ·refine a7 pEq ?_
       refine j7 h (fun _ h=>?_) (fun _ h=>?_)
       ·refine b8 (Ld.g fun a=>by exact (ldA Tryz.isAgg236 Tryz.sizeOf236 rfl (I.at1 (o:=0) (vs:=[(vi (G5.mk (x0.m0.p7.n:Int) (x0.m0.C0.n:Int)).fexprs),(vi (G5.mk (x0.m0.p7.n:Int) (x0.m0.C0.n:Int)).fconds)]) (nb rfl) rfl))) ?_
        refine a7 (Pu.g fun a=>by with_reducible exact (c1N)) ?_
        refine a7 (Pu.g fun a=>by simp only [o9 a];with_reducible exact (a6o _ _ _ _ _ _)) ?_
        refine a7 (D9 _ _) ?_
        exact hR _ H _ _ I.drop.drop ⟨_,rfl,rfl,h⟩
       ·exact hR _ H _ _ I.drop.drop ⟨_,rfl,rfl,h⟩
     refine u2 fun j1 hx1=>?_
     refine a7 pEq ?_
     refine j7 h (fun _ h=>?_) (fun _ h=>?_)
     ·exact hx1 _ _ (hj1 (decide (x0.m0.d6=5)) H _ ((b.bring 1).bring 1) h)
     ·refine a7 pEq ?_
      exact hx1 _ _ (hj1 (decide (x0.m0.d6=6)) H _ ((b.bring 1).bring 1) h)
def K0(V5:(List d8))(H:Hp)(K:Sl→Hp→Prop):Prop:=
 ∀(G1:Sl)(a:Hp),Hle H a→SlH a 1 s8 G1 V5→G1.n≤G1.c→
 K G1 a
def K2(E0:Sl)(a4S:Int)(v7:(List d8))(u4:Int)(H:Hp)(n2:((List d8)×Int)→Hp→Prop)(K:Sl→Hp→Prop):Prop:=
 (u4 < a4S→
 (0:Int)≤u4∧(u4:Int) < E0.n∧∃a:i7,EltH H E0 u4 4 (g7 a)∧
 a6K a H (fun b c=>
 (v7.length+([b]:List d8).length)*17≤140737488355328∧
 n2 ((v7++[b]),(IntKind.wrap .i64 (u4+1))) c))∧
 (¬(u4 < a4S)→
 K0 v7 H K)
def S5(x0:Sl)(H:Hp)(K:Sl→Hp→Prop):Prop:=
 TL (([],0):(List d8)×Int) H fun(s:(List d8)×Int) H n2=>K2 x0 (x0.n:Int) s.1 s.2 H n2 K
theorem a1d(x0){H K}(h:S5 x0 H K):D8 x0 H K:=by
 refine Ct.of fun w0 w ps0 H0 R E I hR=>c8K ?_
 have hj1:∀(V5:(List d8))(G1:Sl)(Fs5j1:Frag) H w (_:RowL 107 1 s8 G1 V5 Fs5j1) (_:Inv w0 ps0 H0 H [Fs5j1] w) (_:K0 V5 H K),c0F (vs G1) w R E:=by
  intro V5 G1 Fs5j1 H w a8W I h
  intro _
  obtain ⟨j,q,r,t,u⟩:=Inv.freezeC I a8W (by decide)
  replace h:=h G1 j r t u
  exact hR _ j _ _ q ⟨_,rfl,rfl,h⟩
 refine u2 fun j1 hx1=>?_
 refine a7 (a6n _ _ _) ?_
 obtain ⟨f,d,v,y⟩:=h
 refine R1 (J:=fun n l w=>∃(s:(List d8)×Int)(H:Hp)(V6:Sl)(Fs5l2:Frag),n=d s∧l=(match s with | (v7,u4)=>[(vs V6),(vi u4)])∧(match s with | (v7,u4)=>RowL 107 1 s8 V6 v7 Fs5l2)∧(match s with | (v7,u4)=>Inv w0 ps0 H0 H [Fs5l2] w)∧f s H) ⟨_,([],0),H,(Sl.mk none 0 0),[],rfl,rfl,(RowL.nil Q1 S1),I.nil,v⟩ ?_
 rintro am an w next2 ⟨⟨v7,u4⟩,H,V6,Fs5l2,rfl,g,a2g,I,z⟩ hn2
 dsimp only at g I a2g
 simp only [List.map_cons,List.map_nil,List.cons.injEq,and_true] at g
 obtain ⟨e5,e10⟩:=g
 simp only [e5,e10]
 obtain ⟨n2,hm2,h⟩:∃n2:((List d8)×Int)→Hp→Prop,(∀s' H',n2 s' H'→f s' H'∧d s' < d (v7,u4))∧K2 x0 (x0.n:Int) v7 u4 H n2 K:=⟨_,fun _ _ h=>h,y (v7,u4) H (fun s' H'=>f s' H'∧d s' < d (v7,u4)) z (fun _ _ a b=>⟨a,b⟩)⟩
 refine a7 pLs ?_
 refine j7 h (fun _ h=>?_) (fun _ h=>?_)
 ·obtain ⟨aa,ab,k,i,h⟩:=h
  obtain ⟨ao,ap,ac,i⟩:=i
  refine a7 (a3u ac _ _ _ _ aa ab) (b8 (ldA (vs:=(g7 k)) Tryz.isAgg75 Tryz.sizeOf75 rfl (I.atH i)) ?_)
  refine r7 I Tryz.zeroValue75 (cs:=[(vi 0),(vi 0),(nS),(nS)]) rfl fun aq ar ad au=>?_
  refine A9 ad Tryz.sizeOf75 (vs:=(g7 k)) fun av m aw=>?_
  refine b8 (lW Tryz.isAgg75 Tryz.sizeOf75 rfl m) ?_
  refine g6 Tryz.call179 h m ?_
  rintro _ ae _ ax af _ _ ⟨o,rfl,rfl,h⟩
  refine O4 (e:=107) (c:=s8) (xs:=[o]) af (a9p _) rfl rfl Q1 S1 (nb rfl) fun ay az ba ag p bb=>?_
  obtain ⟨ah,h⟩:=h
  refine b0z (s:=V6) (xs:=v7) (p.bring 2) a2g (ag.srcO ((p.bring 2).bring 1)) ah fun ai aj bc ak al bd=>?_
  refine a7 pAd ?_
  exact hn2 _ _ _ (hm2 _ _ h).2 ⟨((v7++[o]),(IntKind.wrap .i64 (u4+1))),ae,ai,aj,rfl,rfl,ak,((al.bring 1).drop.bring 1).drop,(hm2 _ _ h).1⟩
 ·exact hx1 _ _ (hj1 v7 V6 Fs5l2 H _ a2g I h)
def a4X(x0:V2)(H:Hp)(K:Sl→Hp→Prop):Prop:=
 D8 x0.m0.C0 H (fun d e=>
 B2 x0.m0.p7 e (fun f g=>
 B1 x0.m0.P5 g (fun i j=>
 B1 x0.m0.O6 j (fun k l=>
 ∀(a:Sl)(b:Hp),Hle l b→SlH b 1 csl a [d,f,i,k]→a.n≤a.c→
 D1 a b (fun m o=>
 K m o)))))
theorem a9A(x0){H K}(h:a4X x0 H K):a4Q x0 H K:=by
 refine Ct.of fun w0 w ps0 H0 R E I hR=>c8I ?_
 refine E9 I (cs:=(k7 x0.m0)) rfl fun ad ae i af=>?_
 refine T1 i fun ag a=>?_
 refine o0 P2 ?_
 refine o0 Z0 ?_
 refine o0 P2 ?_
 refine o0 a0h ?_
 refine o0 P2 ?_
 refine o0 a3g ?_
 refine o0 P2 ?_
 refine o0 a3h ?_
 refine u7 (l1 Tryz.isAgg52 a rfl) ?_
 refine u7 (l1 Tryz.isAgg37 a rfl) ?_
 refine u7 (l1 Tryz.isAgg23 a rfl) ?_
 refine u7 (l1 Tryz.isAgg23 a rfl) ?_
 refine g6 Tryz.call178 h a ?_
 rintro _ _ _ ah b _ d ⟨j,rfl,rfl,h⟩
 refine ⟨(d _ a.lt1 (Inv.a1Y (Fi:=[]) a)),(d _ a.lt1 (Inv.a1Y (Fi:=[]) a)),(d _ a.lt1 (Inv.a1Y (Fi:=[]) a)),?_⟩
 refine g6 Tryz.call172 h b ?_
 rintro _ _ _ ai f _ g ⟨k,rfl,rfl,h⟩
 refine ⟨(g _ b.lt1 (Inv.a1Y (Fi:=[]) b)),(g _ b.lt1 (Inv.a1Y (Fi:=[]) b)),?_⟩
 refine g6 Tryz.call54 h f ?_
 rintro _ _ _ aj l _ m ⟨n,rfl,rfl,h⟩
 refine ⟨(m _ f.lt1 (Inv.a1Y (Fi:=[]) f)),?_⟩
 refine g6 Tryz.call54 h l ?_
 rintro _ _ _ ak o _ _ ⟨p,rfl,rfl,h⟩
 refine O4 (e:=101) (c:=csl) (xs:=[j,k,n,p]) o (c5B _ _ _ _ _ _ _ _ _ _ _ _) rfl rfl b7z b7A (nb rfl) fun q al am r s an=>?_
 obtain ⟨t,u,v,y,z⟩:=Inv.freezeC s r (by decide)
 replace h:=h q t v y z
 refine g6 Tryz.call51 h u ?_
 rintro _ aa _ ao ab _ _ ⟨ac,rfl,rfl,h⟩
 exact hR _ aa _ _ ab.drop ⟨ac,rfl,rfl,h⟩
def U0(b2U:Bool)(a:v8)(b:V3)(H:Hp)(K:Bool→Hp→Prop):Prop:=
 (b2U=true→
 K (decide (a.fexprs=0∧a.fparts=2)) H)∧
 (b2U=false→
 K false H)
def U1(a5v:Int)(b2V:Bool)(a:v8)(b:V3)(H:Hp)(K:Bool→Hp→Prop):Prop:=
 (b2V=true→
 K (decide (a.fexprs=0∧a.fparts=0)) H)∧
 (b2V=false→
 (a5v=4→
 K (decide (a.fexprs=0∧a.fparts=1)) H)∧
 (¬(a5v=4)→
 (a5v=5→
 U0 (decide (a5v=5)) a b H K)∧
 (¬(a5v=5)→
 U0 (decide (a5v=6)) a b H K)))
def a5H(x0:V3)(H:Hp)(K:Bool→Hp→Prop):Prop:=
 (x0.u6.d6=3→
 K (((decide (1≤x0.u6.fOp))&&(decide (x0.u6.fOp≤6)))&&(decide ((x0.u6.p7.n:Int)=2∧(x0.u6.E6.n:Int)=0))) H)∧
 (¬(x0.u6.d6=3)→
 (¬(x0.u6.fOp=0)→
 K false H)∧
 (x0.u6.fOp=0→
 (x0.u6.d6=1→
 U1 x0.u6.d6 (decide (x0.u6.d6=1)) (v8.mk (x0.u6.p7.n:Int) (x0.u6.E6.n:Int)) x0 H K)∧
 (¬(x0.u6.d6=1)→
 U1 x0.u6.d6 (decide (x0.u6.d6=2)) (v8.mk (x0.u6.p7.n:Int) (x0.u6.E6.n:Int)) x0 H K)))
theorem a9S(x0){H K}(h:a5H x0 H K):a2S x0 H K:=by
 refine Ct.of fun w0 w ps0 H0 R E I hR=>c8M ?_
 refine E9 I (cs:=(g7 x0.u6)) rfl fun e i d j=>?_
 refine a7 a1j (a7 a5s (b8 (l1 Tryz.isAgg37 d rfl) (a7 (a4K _ _ _) (a7 a1j ?_))))
 refine a7 a4e (b8 (l1 Tryz.isAgg52 d rfl) (a7 (a6n _ _ _) (a7 (a5t _ _) ?_)))
 refine r7 d Tryz.zeroValue242 (cs:=[(vi 0),(vi 0)]) rfl fun c k f l=>?_
 refine A9 f Tryz.sizeOf242 (vs:=[(vi (x0.u6.p7.n:Int)),(vi (x0.u6.E6.n:Int))]) fun m b p=>?_
 refine a7 a1j (a7 a4d (b8 (l1 Tryz.isAgg3 (b.bring 1) rfl) (a7 pEq ?_)))
 refine j7 h (fun _ h=>?_) (fun _ h=>?_)
 ·refine a7 a1j (a7 a5r (b8 (l1 Tryz.isAgg3 (b.bring 1) rfl) (a7 pGe ?_)))
  refine a7 (Pu.g fun a=>by with_reducible exact a1j) ?_
  refine a7 (Pu.g fun a=>by simp only [o9 a];with_reducible exact a5r) ?_
  refine b8 (Ld.g fun a=>by simp only [o9 a];exact (l1 Tryz.isAgg3 (b.bring 1) rfl)) ?_
  refine a7 (Pu.g fun a=>by simp only [o9 a];with_reducible exact pLe) ?_
  refine a7 (D9 _ _) ?_
  refine b8 (Ld.g fun a=>by exact (ldA Tryz.isAgg242 Tryz.sizeOf242 rfl (b.at1 (o:=0) (vs:=[(vi (x0.u6.p7.n:Int)),(vi (x0.u6.E6.n:Int))]) (nb rfl) rfl))) ?_
  refine a7 (Pu.g fun a=>by with_reducible exact (a5t _ _)) ?_
  refine a7 (Pu.g fun a=>by simp only [o9 a];with_reducible exact (a9X _ _ _ _ _ _)) ?_
  refine a7 (D9 _ _) ?_
  exact hR _ H _ _ b.drop.drop ⟨_,rfl,rfl,h⟩
 ·refine a7 a1j (a7 a5r (b8 (l1 Tryz.isAgg3 (b.bring 1) rfl) (a7 pNe ?_)))
  refine a0S h (fun _ h=>?_) (fun _ h=>?_)
  ·exact hR _ H _ _ b.drop.drop ⟨_,rfl,rfl,h⟩
  ·refine a7 a1j (a7 a4d (b8 (l1 Tryz.isAgg3 (b.bring 1) rfl) ?_))
   have hj1:∀(b2V:Bool) H w (_:Inv w0 ps0 H0 H [bx c 242 [(vi (v8.mk (x0.u6.p7.n:Int) (x0.u6.E6.n:Int)).fexprs),(vi (v8.mk (x0.u6.p7.n:Int) (x0.u6.E6.n:Int)).fparts)],bx e 240 (g7 x0.u6)] w) (_:U1 x0.u6.d6 b2V (v8.mk (x0.u6.p7.n:Int) (x0.u6.E6.n:Int)) x0 H K),c0H (Value.pointer (some ⟨c,0,none⟩)) (vi x0.u6.d6) (vB b2V) w R E:=by
    intro b2V H w I h
    intro _
    refine p6 h (fun _ h=>?_) (fun _ h=>?_)
    ·refine b8 (ldA Tryz.isAgg242 Tryz.sizeOf242 rfl (I.at1 (o:=0) (vs:=[(vi (v8.mk (x0.u6.p7.n:Int) (x0.u6.E6.n:Int)).fexprs),(vi (v8.mk (x0.u6.p7.n:Int) (x0.u6.E6.n:Int)).fparts)]) (nb rfl) rfl)) (a7 (c1O) (a7 (a9X _ _ _ _ _ _) ?_))
     exact hR _ H _ _ I.drop.drop ⟨_,rfl,rfl,h⟩
    ·refine a7 pEq ?_
     refine j7 h (fun _ h=>?_) (fun _ h=>?_)
     ·refine b8 (ldA Tryz.isAgg242 Tryz.sizeOf242 rfl (I.at1 (o:=0) (vs:=[(vi (v8.mk (x0.u6.p7.n:Int) (x0.u6.E6.n:Int)).fexprs),(vi (v8.mk (x0.u6.p7.n:Int) (x0.u6.E6.n:Int)).fparts)]) (nb rfl) rfl)) (a7 (a5t _ _) (a7 (a9X _ _ _ _ _ _) ?_))
      exact hR _ H _ _ I.drop.drop ⟨_,rfl,rfl,h⟩
     ·have hj2:∀(b2U:Bool) H w (_:Inv w0 ps0 H0 H [bx c 242 [(vi (v8.mk (x0.u6.p7.n:Int) (x0.u6.E6.n:Int)).fexprs),(vi (v8.mk (x0.u6.p7.n:Int) (x0.u6.E6.n:Int)).fparts)],bx e 240 (g7 x0.u6)] w) (_:U0 b2U (v8.mk (x0.u6.p7.n:Int) (x0.u6.E6.n:Int)) x0 H K),c0G (Value.pointer (some ⟨c,0,none⟩)) (vB b2U) w R E:=by
       intro b2U H w I h
       intro _
       refine p6 h (fun _ h=>?_) (fun _ h=>?_)
       ·refine b8 (ldA Tryz.isAgg242 Tryz.sizeOf242 rfl (I.at1 (o:=0) (vs:=[(vi (v8.mk (x0.u6.p7.n:Int) (x0.u6.E6.n:Int)).fexprs),(vi (v8.mk (x0.u6.p7.n:Int) (x0.u6.E6.n:Int)).fparts)]) (nb rfl) rfl)) (a7 (a5t _ _) (a7 (a9X _ _ _ _ _ _) ?_))
        exact hR _ H _ _ I.drop.drop ⟨_,rfl,rfl,h⟩
       ·exact hR _ H _ _ I.drop.drop ⟨_,rfl,rfl,h⟩
      refine u2 fun j2 hx2=>?_
      refine a7 pEq ?_
      refine j7 h (fun _ h=>?_) (fun _ h=>?_)
      ·exact hx2 _ _ (hj2 (decide (x0.u6.d6=5)) H _ ((I.bring 1).bring 1) h)
      ·refine a7 pEq ?_
       exact hx2 _ _ (hj2 (decide (x0.u6.d6=6)) H _ ((I.bring 1).bring 1) h)
   refine u2 fun j1 hx1=>?_
   refine a7 pEq ?_
   refine j7 h (fun _ h=>?_) (fun _ h=>?_)
   ·exact hx1 _ _ (hj1 (decide (x0.u6.d6=1)) H _ ((b.bring 1).bring 1) h)
   ·refine a7 pEq ?_
    exact hx1 _ _ (hj1 (decide (x0.u6.d6=2)) H _ ((b.bring 1).bring 1) h)
end Go.Proofs.YtoflkliecagjcaaGreatDoor
