/- Typed formulas of the program's functions, and the theorems that the contracts follow from them; printed by lift.py off the code. -/
import Derived.Test.YthldnpmfelniiaaDoorzWV1
namespace Go.Proofs.YthldnpmfelniiaaDoor
open Go.RowKit
set_option maxRecDepth 100000
set_option maxHeartbeats 2000000
def a3Q (x0 : l9) (H : Hp) (K : c7 → Hp → Prop) : Prop :=
 K (c7.G4 (N8.mk x0)) H
theorem b4J (x0 : l9) {w0 w : World} {ps0 : Nat → Prop} {H0 H : Hp} {K : c7 → Hp → Prop} {R : Value → World → Prop} {E : Pan} (I : Inv w0 ps0 H0 H [] w) (hR : ∀ (r0 : c7) (H' : Hp) (w' : World) (_ : Inv w0 ps0 H0 H' [] w') (_ : K r0 H'), R (A6 r0) w') (h : a3Q x0 H K) : F98 (Value.agg (d8 x0).toArray) w R E := by
 unfold a3Q at h
 unfold F98
 refine K2 I (cs := (d8 x0)) rfl fun g_2 w_3 I_4 k_5 => ?_
 refine c5 (ldA Tryd.isAgg88 Tryd.sizeOf88 rfl (I_4.at1 (o := 0) (vs := (d8 x0)) (nb rfl) rfl)) ?_
 refine a6 (c5S _ _ _ _ _ _ _ _ _ _ _ _ _ _) ?_
 refine a6 (c2V (N8.mk x0)) ?_
 exact hR (c7.G4 (N8.mk x0)) H _ I_4.drop h
theorem b5O (x0 : l9) {H : Hp} {K : c7 → Hp → Prop} (h : a3Q x0 H K) : a8O x0 H K := by
 intro w I
 refine f3a ?_
 refine b4J x0 I (fun r0 H' w' I' hk => ⟨H', _, I', r0, rfl, rfl, hk⟩) h
def B4 (a1M : (List c7)) (H : Hp) (K : Sl → Hp → Prop) : Prop :=
 ∀ (J8 : Sl) (a2x : Hp), Hle H a2x → SlH a2x 1 q6 J8 a1M → J8.n ≤ J8.c →
 K J8 a2x
def B5 (a3r : Sl) (a2y : Int) (y9 : (List c7)) (v1 : Int) (H : Hp) (n2 : ((List c7) × Int) → Hp → Prop) (K : Sl → Hp → Prop) : Prop :=
 (v1 < a2y →
 (0 : Int) ≤ v1 ∧ (v1 : Int) < a3r.n ∧ ∃ x_1 : l9, EltH H a3r v1 6 (d8 x_1) ∧
 a8O x_1 H (fun (W7 : c7) (a2z : Hp) =>
 (y9.length + ([W7] : List c7).length) * 17 ≤ 140737488355328 ∧
 n2 ((y9 ++ [W7]), (IntKind.wrap .i64 (v1 + 1))) a2z)) ∧
 (¬ (v1 < a2y) →
 B4 y9 H K)
def C7 (x0 : Sl) (H : Hp) (K : Sl → Hp → Prop) : Prop :=
 TL (([], 0) : (List c7) × Int) H fun (s : (List c7) × Int) H n2 => B5 x0 (x0.n : Int) s.1 s.2 H n2 K
theorem a2s (x0 : Sl) {w0 w : World} {ps0 : Nat → Prop} {H0 H : Hp} {K : Sl → Hp → Prop} {R : Value → World → Prop} {E : Pan} (I : Inv w0 ps0 H0 H [] w) (hR : ∀ (r0 : Sl) (H' : Hp) (w' : World) (_ : Inv w0 ps0 H0 H' [] w') (_ : K r0 H'), R (vs r0) w') (h : C7 x0 H K) : F97 (vs x0) (Value.func (.func 98) #[] #[]) w R E := by
 unfold C7 at h
 unfold F97
 have hj1 : ∀ (a1M : (List c7)) (J8 : Sl) (Fs5j1 : Frag) (H : Hp) (w : World) (_ : RowL 141 1 q6 J8 a1M Fs5j1) (_ : Inv w0 ps0 H0 H [Fs5j1] w) (_ : B4 a1M H K), c6J (vs J8) w R E := by
  intro a1M J8 Fs5j1 H w b5B I h
  unfold c6J
  intro _
  unfold B4 at h
  obtain ⟨a2x, b2t, b5C, b2u, a8R⟩ := Inv.freezeC I b5B (by decide)
  replace h := h J8 a2x b5C b2u a8R
  exact hR J8 a2x _ b2t h
 refine o3 fun j1 hx1 => ?_
 refine a6 (M5 _ _ _) ?_
 obtain ⟨a7X, a4l, b9J, b9K⟩ := h
 refine t6 (J := fun n l w => ∃ (s : (List c7) × Int) (H : Hp) (a1N : Sl) (Fs5l2 : Frag) , n = a4l s ∧ l = (match s with | (y9, v1) => [(vs a1N), (vi v1)]) ∧ (match s with | (y9, v1) => RowL 141 1 q6 a1N y9 Fs5l2) ∧ (match s with | (y9, v1) => Inv w0 ps0 H0 H [Fs5l2] w) ∧ a7X s H) ⟨_, ([], 0), H, (Sl.mk none 0 0), [], rfl, rfl, (RowL.nil Q1 V9), I.nil, b9J⟩ ?_
 rintro d9J τ_50 w next2 ⟨⟨y9, v1⟩, H, a1N, Fs5l2, rfl, a7Y, a5W, I, b9L⟩ hn2
 dsimp only at a7Y I a5W
 simp only [List.map_cons, List.map_nil, List.cons.injEq, and_true] at a7Y
 obtain ⟨e5, e10⟩ := a7Y
 simp only [e5, e10]
 obtain ⟨n2, hm2, h⟩ : ∃ n2 : ((List c7) × Int) → Hp → Prop, (∀ s' H', n2 s' H' → a7X s' H' ∧ a4l s' < a4l (y9, v1)) ∧ B5 x0 (x0.n : Int) y9 v1 H n2 K := ⟨_, fun _ _ h => h, b9K (y9, v1) H (fun s' H' => a7X s' H' ∧ a4l s' < a4l (y9, v1)) b9L (fun _ _ a b => ⟨a, b⟩)⟩
 unfold d6Z
 unfold B5 at h
 refine a6 (p6 _ _ _ _ _ _) ?_
 refine g8 (fun a4m => ?_) (fun a4m => ?_)
 ·replace h := h.1 a4m
  obtain ⟨h_4, h_5, x_1, h_7, h⟩ := h
  obtain ⟨g_2, o_3, h_6, h_7⟩ := h_7
  refine a6 (a5J h_6 _ _ _ _ h_4 h_5) ?_
  refine c5 (ldA (vs := (d8 x_1)) Tryd.isAgg88 Tryd.sizeOf88 rfl (I.atH h_7)) ?_
  refine L8 I Tryd.zeroValue88 (cs := [(vi 0), (Value.string ⟨#[]⟩), (Value.slice none 0 0), (Value.slice none 0 0), (Value.slice none 0 0), (Value.slice none 0 0)]) rfl fun g_9 o2 a5z b7M => ?_
  refine u1 a5z Tryd.sizeOf88 (vs := (d8 x_1)) (cs' := (d8 x_1)) rfl rfl (nb rfl) rfl rfl fun a0b a3N c3r => ?_
  refine c5 (ldA Tryd.isAgg88 Tryd.sizeOf88 rfl (a3N.at1 (o := 0) (vs := (d8 x_1)) (nb rfl) rfl)) ?_
  refine f7 (cap := []) (fun args w => Tryd.call98 args w) ?_
  refine m2 (Fi := []) (Fr := [bx g_9 88 (d8 x_1), Fs5l2]) a3N (h) (fun d2w a2z d2x a5M a5X d2y c7f b5D => ?_) (fun _ _ _ _ _ q => q.elim)
  obtain ⟨W7, rfl, rfl, h⟩ := b5D
  refine a5G (e := 141) (c := q6) (xs := [W7]) a5X (b8A _) rfl rfl Q1 V9 (nb rfl) fun b5E c3s y7 b2v a6x b9M => ?_
  obtain ⟨a9T, h⟩ := h
  refine b7c (s := a1N) (xs := y9) (a6x.bring 2) a5W (b2v.srcO ((a6x.bring 2).bring 1)) a9T fun b9N b7N A8 b2w a3s c7g => ?_
  refine a6 (o4 _ _ _ _ _ _) ?_
  exact hn2 _ _ _ (hm2 _ _ h).2 ⟨((y9 ++ [W7]), (IntKind.wrap .i64 (v1 + 1))), a2z, b9N, b7N, rfl, rfl, b2w, ((a3s.bring 1).drop.bring 1).drop, (hm2 _ _ h).1⟩
 ·replace h := h.2 a4m
  exact hx1 _ _ (hj1 y9 a1N Fs5l2 H _ a5W I h)
theorem a2C (x0 : Sl) {H : Hp} {K : Sl → Hp → Prop} (h : C7 x0 H K) : v6 x0 H K := by
 intro w I
 refine f2Y ?_
 refine a2s x0 I (fun r0 H' w' I' hk => ⟨H', _, I', r0, rfl, rfl, hk⟩) h
def D4 (b8N : Bool) (_cr_1j4 : Int) (H : Hp) (K : Int → Hp → Prop) : Prop :=
 (b8N = true →
 K 3 H) ∧
 (b8N = false →
 K 6 H)
def O8 (b8O : Bool) (cr_1j3 : Int) (H : Hp) (K : Int → Hp → Prop) : Prop :=
 (b8O = true →
 K 6 H) ∧
 (b8O = false →
 K6 48 57 cr_1j3 H (fun (u4 : Bool) (H_6 : Hp) =>
 (u4 = true →
 K 4 H_6) ∧
 (u4 = false →
 (cr_1j3 = 95 →
 D4 (decide (cr_1j3 = 95)) cr_1j3 H_6 K) ∧
 (¬ (cr_1j3 = 95) →
 K6 97 122 cr_1j3 H_6 (fun (W7 : Bool) (a2z : Hp) =>
 (W7 = true →
 D4 W7 cr_1j3 a2z K) ∧
 (W7 = false →
 K6 65 90 cr_1j3 a2z (fun (c1O : Bool) (d3b : Hp) =>
 (c1O = true →
 D4 c1O cr_1j3 d3b K) ∧
 (c1O = false →
 K6 192 591 cr_1j3 d3b (fun (b1q : Bool) (a9b : Hp) =>
 (b1q = true →
 D4 b1q cr_1j3 a9b K) ∧
 (b1q = false →
 K6 913 969 cr_1j3 a9b (fun (a6b : Bool) (a7A : Hp) =>
 (a6b = true →
 D4 a6b cr_1j3 a7A K) ∧
 (a6b = false →
 K6 1040 1103 cr_1j3 a7A (fun (d3c : Bool) (d9Y : Hp) =>
 D4 d3c cr_1j3 d9Y K)))))))))))))
def o0 (b5P : Int) (b8P : Bool) (cr_1j2 : Int) (H : Hp) (K : Int → Hp → Prop) : Prop :=
 (b8P = true →
 K 5 H) ∧
 (b8P = false →
 (b5P = 215 →
 O8 (decide (b5P = 215)) cr_1j2 H K) ∧
 (¬ (b5P = 215) →
 (b5P = 247 →
 O8 (decide (b5P = 247)) cr_1j2 H K) ∧
 (¬ (b5P = 247) →
 O8 (decide (b5P = 930)) cr_1j2 H K)))
def O9 (o9 : Int) (a0Q : Bool) (cr_1j1 : Int) (H : Hp) (K : Int → Hp → Prop) : Prop :=
 (a0Q = true →
 K 1 H) ∧
 (a0Q = false →
 (o9 = 10 →
 K 2 H) ∧
 (¬ (o9 = 10) →
 (o9 = 59 →
 o0 o9 (decide (o9 = 59)) cr_1j1 H K) ∧
 (¬ (o9 = 59) →
 (o9 = 44 →
 o0 o9 (decide (o9 = 44)) cr_1j1 H K) ∧
 (¬ (o9 = 44) →
 (o9 = 123 →
 o0 o9 (decide (o9 = 123)) cr_1j1 H K) ∧
 (¬ (o9 = 123) →
 (o9 = 125 →
 o0 o9 (decide (o9 = 125)) cr_1j1 H K) ∧
 (¬ (o9 = 125) →
 (o9 = 40 →
 o0 o9 (decide (o9 = 40)) cr_1j1 H K) ∧
 (¬ (o9 = 40) →
 (o9 = 41 →
 o0 o9 (decide (o9 = 41)) cr_1j1 H K) ∧
 (¬ (o9 = 41) →
 (o9 = 91 →
 o0 o9 (decide (o9 = 91)) cr_1j1 H K) ∧
 (¬ (o9 = 91) →
 (o9 = 93 →
 o0 o9 (decide (o9 = 93)) cr_1j1 H K) ∧
 (¬ (o9 = 93) →
 (o9 = 61 →
 o0 o9 (decide (o9 = 61)) cr_1j1 H K) ∧
 (¬ (o9 = 61) →
 (o9 = 33 →
 o0 o9 (decide (o9 = 33)) cr_1j1 H K) ∧
 (¬ (o9 = 33) →
 (o9 = 60 →
 o0 o9 (decide (o9 = 60)) cr_1j1 H K) ∧
 (¬ (o9 = 60) →
 (o9 = 62 →
 o0 o9 (decide (o9 = 62)) cr_1j1 H K) ∧
 (¬ (o9 = 62) →
 (o9 = 43 →
 o0 o9 (decide (o9 = 43)) cr_1j1 H K) ∧
 (¬ (o9 = 43) →
 (o9 = 45 →
 o0 o9 (decide (o9 = 45)) cr_1j1 H K) ∧
 (¬ (o9 = 45) →
 (o9 = 42 →
 o0 o9 (decide (o9 = 42)) cr_1j1 H K) ∧
 (¬ (o9 = 42) →
 (o9 = 47 →
 o0 o9 (decide (o9 = 47)) cr_1j1 H K) ∧
 (¬ (o9 = 47) →
 (o9 = 37 →
 o0 o9 (decide (o9 = 37)) cr_1j1 H K) ∧
 (¬ (o9 = 37) →
 (o9 = 38 →
 o0 o9 (decide (o9 = 38)) cr_1j1 H K) ∧
 (¬ (o9 = 38) →
 o0 o9 (decide (o9 = 124)) cr_1j1 H K))))))))))))))))))))
def a4u (x0 : Int) (H : Hp) (K : Int → Hp → Prop) : Prop :=
 (x0 = 32 →
 O9 x0 (decide (x0 = 32)) x0 H K) ∧
 (¬ (x0 = 32) →
 (x0 = 9 →
 O9 x0 (decide (x0 = 9)) x0 H K) ∧
 (¬ (x0 = 9) →
 O9 x0 (decide (x0 = 13)) x0 H K))
theorem b5Q (x0 : Int) {w0 w : World} {ps0 : Nat → Prop} {H0 H : Hp} {K : Int → Hp → Prop} {R : Value → World → Prop} {E : Pan} (I : Inv w0 ps0 H0 H [] w) (hR : ∀ (r0 : Int) (H' : Hp) (w' : World) (_ : Inv w0 ps0 H0 H' [] w') (_ : K r0 H'), R (vi r0) w') (h : a4u x0 H K) : d2d (Value.int .i32 x0) w R E := by
 unfold a4u at h
 unfold d2d
 refine K2 I (cs := [(Value.int .i32 x0)]) rfl fun g_2 w_3 I_4 k_5 => ?_
 refine c5 (ld1 Tryd.isAgg21 (I_4.at1 (o := 0) (vs := [(Value.int .i32 x0)]) (nb rfl) rfl)) ?_
 have hj1 : ∀ (a0Q : Bool) (H : Hp) (w : World) (_ : Inv w0 ps0 H0 H [bx g_2 21 [(Value.int .i32 x0)]] w) (_ : O9 x0 a0Q x0 H K), c3f (Value.pointer (some ⟨g_2, 0, none⟩)) (Value.int .i32 x0) (Value.bool a0Q) w R E := by
  intro a0Q H w I h
  unfold c3f
  intro _
  unfold O9 at h
  refine m5 (fun c0g => ?_) (fun c0g => ?_)
  ·replace h := h.1 c0g
   exact hR 1 H _ I.drop h
  ·replace h := h.2 c0g
   refine a6 (c8 _ _ _ _ _ _) ?_
   refine g8 (fun b2L => ?_) (fun b2L => ?_)
   ·replace h := h.1 b2L
    exact hR 2 H _ I.drop h
   ·replace h := h.2 b2L
    have hj2 : ∀ (b8P : Bool) (H : Hp) (w : World) (_ : Inv w0 ps0 H0 H [bx g_2 21 [(Value.int .i32 x0)]] w) (_ : o0 x0 b8P x0 H K), c3e (Value.pointer (some ⟨g_2, 0, none⟩)) (Value.int .i32 x0) (Value.bool b8P) w R E := by
     intro b8P H w I h
     unfold c3e
     intro _
     unfold o0 at h
     refine m5 (fun d9Z => ?_) (fun d9Z => ?_)
     ·replace h := h.1 d9Z
      exact hR 5 H _ I.drop h
     ·replace h := h.2 d9Z
      have hj3 : ∀ (b8O : Bool) (H : Hp) (w : World) (_ : Inv w0 ps0 H0 H [bx g_2 21 [(Value.int .i32 x0)]] w) (_ : O8 b8O x0 H K), c3d (Value.pointer (some ⟨g_2, 0, none⟩)) (Value.bool b8O) w R E := by
       intro b8O H w I h
       unfold c3d
       intro _
       unfold O8 at h
       refine m5 (fun b2M => ?_) (fun b2M => ?_)
       ·replace h := h.1 b2M
        exact hR 6 H _ I.drop h
       ·replace h := h.2 b2M
        refine a6 (b3T _ _ _) ?_
        refine f7 (cap := [(Value.pointer (some ⟨g_2, 0, none⟩))]) (fun args w => Tryd.call131 args w) ?_
        refine m2 (Fi := [bx g_2 21 [(Value.int .i32 x0)]]) (Fr := []) I (h g_2) (fun a8X H_6 a8Y w_7 I_8 a8Z k_9 a1P => ?_) (fun _ _ _ _ _ q => q.elim)
        obtain ⟨u4, rfl, rfl, h⟩ := a1P
        refine m5 (fun c0h => ?_) (fun c0h => ?_)
        ·replace h := h.1 c0h
         exact hR 4 H_6 _ I_8.drop h
        ·replace h := h.2 c0h
         have hj4 : ∀ (b8N : Bool) (H : Hp) (w : World) (_ : Inv w0 ps0 H0 H [bx g_2 21 [(Value.int .i32 x0)]] w) (_ : D4 b8N x0 H K), c3c (Value.bool b8N) w R E := by
          intro b8N H w I h
          unfold c3c
          intro _
          unfold D4 at h
          refine m5 (fun a5U => ?_) (fun a5U => ?_)
          ·replace h := h.1 a5U
           exact hR 3 H _ I.drop h
          ·replace h := h.2 a5U
           exact hR 6 H _ I.drop h
         refine o3 fun j4 hx4 => ?_
         refine c5 (ld1 Tryd.isAgg21 (I_8.at1 (o := 0) (vs := [(Value.int .i32 x0)]) (nb rfl) rfl)) ?_
         refine a6 (c8 _ _ _ _ _ _) ?_
         refine g8 (fun b9Z => ?_) (fun b9Z => ?_)
         ·replace h := h.1 b9Z
          exact hx4 _ _ (hj4 (decide (x0 = 95)) H_6 _ I_8 h)
         ·replace h := h.2 b9Z
          refine f7 (cap := [(Value.pointer (some ⟨g_2, 0, none⟩))]) (fun args w => Tryd.call131 args w) ?_
          refine m2 (Fi := [bx g_2 21 [(Value.int .i32 x0)]]) (Fr := []) I_8 (h g_2) (fun d2w a2z d2x a5M a5X d2y c7f b5D => ?_) (fun _ _ _ _ _ q => q.elim)
          obtain ⟨W7, rfl, rfl, h⟩ := b5D
          refine m5 (fun e0a => ?_) (fun e0a => ?_)
          ·replace h := h.1 e0a
           exact hx4 _ _ (hj4 W7 a2z _ a5X h)
          ·replace h := h.2 e0a
           refine f7 (cap := [(Value.pointer (some ⟨g_2, 0, none⟩))]) (fun args w => Tryd.call131 args w) ?_
           refine m2 (Fi := [bx g_2 21 [(Value.int .i32 x0)]]) (Fr := []) a5X (h g_2) (fun h7S d3b h7T v2 c0i h7U f6u h1y => ?_) (fun _ _ _ _ _ q => q.elim)
           obtain ⟨c1O, rfl, rfl, h⟩ := h1y
           refine m5 (fun e0b => ?_) (fun e0b => ?_)
           ·replace h := h.1 e0b
            exact hx4 _ _ (hj4 c1O d3b _ c0i h)
           ·replace h := h.2 e0b
            refine f7 (cap := [(Value.pointer (some ⟨g_2, 0, none⟩))]) (fun args w => Tryd.call131 args w) ?_
            refine m2 (Fi := [bx g_2 21 [(Value.int .i32 x0)]]) (Fr := []) c0i (h g_2) (fun h1z a9b h1A a8G a3s b5C c7g e0c => ?_) (fun _ _ _ _ _ q => q.elim)
            obtain ⟨b1q, rfl, rfl, h⟩ := e0c
            refine m5 (fun e0d => ?_) (fun e0d => ?_)
            ·replace h := h.1 e0d
             exact hx4 _ _ (hj4 b1q a9b _ a3s h)
            ·replace h := h.2 e0d
             refine f7 (cap := [(Value.pointer (some ⟨g_2, 0, none⟩))]) (fun args w => Tryd.call131 args w) ?_
             refine m2 (Fi := [bx g_2 21 [(Value.int .i32 x0)]]) (Fr := []) a3s (h g_2) (fun h1f a7A h1g E4 b2G h1h f6n d9U => ?_) (fun _ _ _ _ _ q => q.elim)
             obtain ⟨a6b, rfl, rfl, h⟩ := d9U
             refine m5 (fun e0e => ?_) (fun e0e => ?_)
             ·replace h := h.1 e0e
              exact hx4 _ _ (hj4 a6b a7A _ b2G h)
             ·replace h := h.2 e0e
              refine f7 (cap := [(Value.pointer (some ⟨g_2, 0, none⟩))]) (fun args w => Tryd.call131 args w) ?_
              refine m2 (Fi := [bx g_2 21 [(Value.int .i32 x0)]]) (Fr := []) b2G (h g_2) (fun h7V d9Y h7W d1U h1B h7X h7Y h1C => ?_) (fun _ _ _ _ _ q => q.elim)
              obtain ⟨d3c, rfl, rfl, h⟩ := h1C
              exact hx4 _ _ (hj4 d3c d9Y _ h1B h)
      refine o3 fun j3 hx3 => ?_
      refine a6 (c8 _ _ _ _ _ _) ?_
      refine g8 (fun b9X => ?_) (fun b9X => ?_)
      ·replace h := h.1 b9X
       exact hx3 _ _ (hj3 (decide (x0 = 215)) H _ I h)
      ·replace h := h.2 b9X
       refine a6 (c8 _ _ _ _ _ _) ?_
       refine g8 (fun b2N => ?_) (fun b2N => ?_)
       ·replace h := h.1 b2N
        exact hx3 _ _ (hj3 (decide (x0 = 247)) H _ I h)
       ·replace h := h.2 b2N
        refine a6 (c8 _ _ _ _ _ _) ?_
        exact hx3 _ _ (hj3 (decide (x0 = 930)) H _ I h)
    refine o3 fun j2 hx2 => ?_
    refine a6 (c8 _ _ _ _ _ _) ?_
    refine g8 (fun e0f => ?_) (fun e0f => ?_)
    ·replace h := h.1 e0f
     exact hx2 _ _ (hj2 (decide (x0 = 59)) H _ I h)
    ·replace h := h.2 e0f
     refine a6 (c8 _ _ _ _ _ _) ?_
     refine g8 (fun b2O => ?_) (fun b2O => ?_)
     ·replace h := h.1 b2O
      exact hx2 _ _ (hj2 (decide (x0 = 44)) H _ I h)
     ·replace h := h.2 b2O
      refine a6 (c8 _ _ _ _ _ _) ?_
      refine g8 (fun c0j => ?_) (fun c0j => ?_)
      ·replace h := h.1 c0j
       exact hx2 _ _ (hj2 (decide (x0 = 123)) H _ I h)
      ·replace h := h.2 c0j
       refine a6 (c8 _ _ _ _ _ _) ?_
       refine g8 (fun e0g => ?_) (fun e0g => ?_)
       ·replace h := h.1 e0g
        exact hx2 _ _ (hj2 (decide (x0 = 125)) H _ I h)
       ·replace h := h.2 e0g
        refine a6 (c8 _ _ _ _ _ _) ?_
        refine g8 (fun e0h => ?_) (fun e0h => ?_)
        ·replace h := h.1 e0h
         exact hx2 _ _ (hj2 (decide (x0 = 40)) H _ I h)
        ·replace h := h.2 e0h
         refine a6 (c8 _ _ _ _ _ _) ?_
         refine g8 (fun e0i => ?_) (fun e0i => ?_)
         ·replace h := h.1 e0i
          exact hx2 _ _ (hj2 (decide (x0 = 41)) H _ I h)
         ·replace h := h.2 e0i
          refine a6 (c8 _ _ _ _ _ _) ?_
          refine g8 (fun c0k => ?_) (fun c0k => ?_)
          ·replace h := h.1 c0k
           exact hx2 _ _ (hj2 (decide (x0 = 91)) H _ I h)
          ·replace h := h.2 c0k
           refine a6 (c8 _ _ _ _ _ _) ?_
           refine g8 (fun c0l => ?_) (fun c0l => ?_)
           ·replace h := h.1 c0l
            exact hx2 _ _ (hj2 (decide (x0 = 93)) H _ I h)
           ·replace h := h.2 c0l
            refine a6 (c8 _ _ _ _ _ _) ?_
            refine g8 (fun b2P => ?_) (fun b2P => ?_)
            ·replace h := h.1 b2P
             exact hx2 _ _ (hj2 (decide (x0 = 61)) H _ I h)
            ·replace h := h.2 b2P
             refine a6 (c8 _ _ _ _ _ _) ?_
             refine g8 (fun c0m => ?_) (fun c0m => ?_)
             ·replace h := h.1 c0m
              exact hx2 _ _ (hj2 (decide (x0 = 33)) H _ I h)
             ·replace h := h.2 c0m
              refine a6 (c8 _ _ _ _ _ _) ?_
              refine g8 (fun c0n => ?_) (fun c0n => ?_)
              ·replace h := h.1 c0n
               exact hx2 _ _ (hj2 (decide (x0 = 60)) H _ I h)
              ·replace h := h.2 c0n
               refine a6 (c8 _ _ _ _ _ _) ?_
               refine g8 (fun c0o => ?_) (fun c0o => ?_)
               ·replace h := h.1 c0o
                exact hx2 _ _ (hj2 (decide (x0 = 62)) H _ I h)
               ·replace h := h.2 c0o
                refine a6 (c8 _ _ _ _ _ _) ?_
                refine g8 (fun c0p => ?_) (fun c0p => ?_)
                ·replace h := h.1 c0p
                 exact hx2 _ _ (hj2 (decide (x0 = 43)) H _ I h)
                ·replace h := h.2 c0p
                 refine a6 (c8 _ _ _ _ _ _) ?_
                 refine g8 (fun b2E => ?_) (fun b2E => ?_)
                 ·replace h := h.1 b2E
                  exact hx2 _ _ (hj2 (decide (x0 = 45)) H _ I h)
                 ·replace h := h.2 b2E
                  refine a6 (c8 _ _ _ _ _ _) ?_
                  refine g8 (fun a8b => ?_) (fun a8b => ?_)
                  ·replace h := h.1 a8b
                   exact hx2 _ _ (hj2 (decide (x0 = 42)) H _ I h)
                  ·replace h := h.2 a8b
                   refine a6 (c8 _ _ _ _ _ _) ?_
                   refine g8 (fun b2Q => ?_) (fun b2Q => ?_)
                   ·replace h := h.1 b2Q
                    exact hx2 _ _ (hj2 (decide (x0 = 47)) H _ I h)
                   ·replace h := h.2 b2Q
                    refine a6 (c8 _ _ _ _ _ _) ?_
                    refine g8 (fun a6c => ?_) (fun a6c => ?_)
                    ·replace h := h.1 a6c
                     exact hx2 _ _ (hj2 (decide (x0 = 37)) H _ I h)
                    ·replace h := h.2 a6c
                     refine a6 (c8 _ _ _ _ _ _) ?_
                     refine g8 (fun b2F => ?_) (fun b2F => ?_)
                     ·replace h := h.1 b2F
                      exact hx2 _ _ (hj2 (decide (x0 = 38)) H _ I h)
                     ·replace h := h.2 b2F
                      refine a6 (c8 _ _ _ _ _ _) ?_
                      exact hx2 _ _ (hj2 (decide (x0 = 124)) H _ I h)
 refine o3 fun j1 hx1 => ?_
 refine a6 (c8 _ _ _ _ _ _) ?_
 refine g8 (fun e0j => ?_) (fun e0j => ?_)
 ·replace h := h.1 e0j
  exact hx1 _ _ (hj1 (decide (x0 = 32)) H _ I_4 h)
 ·replace h := h.2 e0j
  refine a6 (c8 _ _ _ _ _ _) ?_
  refine g8 (fun c0q => ?_) (fun c0q => ?_)
  ·replace h := h.1 c0q
   exact hx1 _ _ (hj1 (decide (x0 = 9)) H _ I_4 h)
  ·replace h := h.2 c0q
   refine a6 (c8 _ _ _ _ _ _) ?_
   exact hx1 _ _ (hj1 (decide (x0 = 13)) H _ I_4 h)
theorem b6Q (x0 : Int) {H : Hp} {K : Int → Hp → Prop} (h : a4u x0 H K) : a4r x0 H K := by
 intro w I
 refine e5Q ?_
 refine b5Q x0 I (fun r0 H' w' I' hk => ⟨H', _, I', r0, rfl, rfl, hk⟩) h
def P1 (b4c : Int) (H : Hp) (K : Int → Hp → Prop) : Prop :=
 K b4c H
def P2 (jr_1l2 : ByteArray) (a9c : Int) (ir_1l2 : Nat) (H : Hp) (n2 : (Int × Nat) → Hp → Prop) (K : Int → Hp → Prop) : Prop :=
 (ir_1l2 < jr_1l2.size →
 n2 ((IntKind.wrap .i64 (a9c + 1)), (ir_1l2 + (Utf8.decode jr_1l2 ir_1l2).2)) H) ∧
 (¬ (ir_1l2 < jr_1l2.size) →
 P1 a9c H K)
def S1 (x0 : ByteArray) (H : Hp) (K : Int → Hp → Prop) : Prop :=
 TL ((0, 0) : Int × Nat) H fun (s : Int × Nat) H n2 => P2 x0 s.1 s.2 H n2 K
theorem a7J (x0 : ByteArray) {w0 w : World} {ps0 : Nat → Prop} {H0 H : Hp} {K : Int → Hp → Prop} {R : Value → World → Prop} {E : Pan} (I : Inv w0 ps0 H0 H [] w) (hR : ∀ (r0 : Int) (H' : Hp) (w' : World) (_ : Inv w0 ps0 H0 H' [] w') (_ : K r0 H'), R (vi r0) w') (h : S1 x0 H K) : d2f (Value.string x0) w R E := by
 unfold S1 at h
 unfold d2f
 have hj1 : ∀ (b4c : Int) (H : Hp) (w : World) (_ : Inv w0 ps0 H0 H [] w) (_ : P1 b4c H K), c3h (vi b4c) w R E := by
  intro b4c H w I h
  unfold c3h
  intro _
  unfold P1 at h
  exact hR b4c H _ I h
 refine o3 fun j1 hx1 => ?_
 refine d0J Tryd.underlying9 x0 I fun g_2 w_3 I_4 k_5 => ?_
 obtain ⟨e0k, c7C, h1D, h1E⟩ := h
 refine t6 (J := fun n l w => ∃ (s : Int × Nat) (H : Hp) , n = c7C s ∧ l = (match s with | (a9c, ir_1l2) => [(vi a9c)]) ∧ (match s with | (a9c, ir_1l2) => Inv w0 ps0 H0 H [itf g_2 x0 ir_1l2] w) ∧ e0k s H) ⟨_, (0, 0), H, rfl, rfl, I_4, h1D⟩ ?_
 rintro h7Z τ_27 w next2 ⟨⟨a9c, ir_1l2⟩, H, rfl, e0l, I, h1F⟩ hn2
 dsimp only at e0l I
 simp only [List.map_cons, List.map_nil, List.cons.injEq, and_true] at e0l
 have e2 := e0l
 simp only [e2]
 obtain ⟨n2, hm2, h⟩ : ∃ n2 : (Int × Nat) → Hp → Prop, (∀ s' H', n2 s' H' → e0k s' H' ∧ c7C s' < c7C (a9c, ir_1l2)) ∧ P2 x0 a9c ir_1l2 H n2 K := ⟨_, fun _ _ h => h, h1E (a9c, ir_1l2) H (fun s' H' => e0k s' H' ∧ c7C s' < c7C (a9c, ir_1l2)) h1F (fun _ _ a b => ⟨a, b⟩)⟩
 unfold d0Q
 unfold P2 at h
 refine d6D I (fun c0e r5 b2x c3u => ?_) (fun c0e => ?_)
 ·replace h := h.1 c0e
  refine a6 (u0 _ _ _ rfl) ?_
  refine m5 (fun e => ?_) (fun e => by cases e)
  refine a6 (o4 _ _ _ _ _ _) ?_
  exact hn2 _ _ _ (hm2 _ _ h).2 ⟨((IntKind.wrap .i64 (a9c + 1)), (ir_1l2 + (Utf8.decode x0 ir_1l2).2)), H, rfl, rfl, b2x, (hm2 _ _ h).1⟩
 ·replace h := h.2 c0e
  refine a6 (u0 _ _ _ rfl) ?_
  refine m5 (fun e => by cases e) (fun e => ?_)
  exact hx1 _ _ (hj1 a9c H _ I.drop h)
theorem a8h (x0 : ByteArray) {H : Hp} {K : Int → Hp → Prop} (h : S1 x0 H K) : a1k x0 H K := by
 intro w I
 refine e5U ?_
 refine a7J x0 I (fun r0 H' w' I' hk => ⟨H', _, I', r0, rfl, rfl, hk⟩) h
def a6d (H : Hp) (K : Bool → Hp → Prop) : Prop :=
 K true H
def O4 (jr_28l2 : ByteArray) (ir_28l2 : Nat) (H : Hp) (n2 : Nat → Hp → Prop) (K : Bool → Hp → Prop) : Prop :=
 (ir_28l2 < jr_28l2.size →
 a6v ((Utf8.decode jr_28l2 ir_28l2).1 : Int) H (fun (a6e : Bool) (a6y : Hp) =>
 TG ((!(!a6e) && (decide (((ir_28l2 : Nat) : Int) = 0))) = true) (a4r ((Utf8.decode jr_28l2 ir_28l2).1 : Int) a6y) 0 a6y (fun (a3g : Int) (a2h : Hp) =>
 (((!a6e) || ((decide (((ir_28l2 : Nat) : Int) = 0)) && (!decide (a3g = 3)))) = true →
 K false a2h) ∧
 (((!a6e) || ((decide (((ir_28l2 : Nat) : Int) = 0)) && (!decide (a3g = 3)))) = false →
 n2 (ir_28l2 + (Utf8.decode jr_28l2 ir_28l2).2) a2h)))) ∧
 (¬ (ir_28l2 < jr_28l2.size) →
 a6d H K)
def a5o (x0 : ByteArray) (H : Hp) (K : Bool → Hp → Prop) : Prop :=
 TG ((decide (x0 = ⟨#[]⟩)) = false) (a6o x0 H) false H (fun (L9 : Bool) (H_1 : Hp) =>
 TG (((decide (x0 = ⟨#[]⟩)) || (!L9)) = false) (a5i x0 H_1) false H_1 (fun (u5 : Bool) (a3R : Hp) =>
 TG ((((decide (x0 = ⟨#[]⟩)) || (!L9)) || u5) = false) (a3E x0 a3R) false a3R (fun (E7 : Bool) (W1 : Hp) =>
 (((((decide (x0 = ⟨#[]⟩)) || (!L9)) || u5) || E7) = true →
 K false W1) ∧
 (((((decide (x0 = ⟨#[]⟩)) || (!L9)) || u5) || E7) = false →
 TL (0 : Nat) W1 fun (s : Nat) H n2 => O4 x0 s H n2 K))))
theorem b7Q (x0 : ByteArray) {w0 w : World} {ps0 : Nat → Prop} {H0 H : Hp} {K : Bool → Hp → Prop} {R : Value → World → Prop} {E : Pan} (I : Inv w0 ps0 H0 H [] w) (hR : ∀ (r0 : Bool) (H' : Hp) (w' : World) (_ : Inv w0 ps0 H0 H' [] w') (_ : K r0 H'), R (Value.bool r0) w') (h : a5o x0 H K) : d1Y (Value.string x0) w R E := by
 unfold a5o at h
 unfold d1Y
 refine a6 (L3 _ _ _ _ _) ?_
 try simp only [o6]
 refine a3D (D := fun v_5 w_2 => ∃ (L9 : Bool) (H_1 : Hp) , v_5 = (gv (decide (x0 = ⟨#[]⟩)) false (Value.bool L9)) ∧ (Inv w0 ps0 H0 H_1 [] w_2) ∧ (∀ i, i < w.heap.size → ¬ inF [] i → w_2.heap[i]? = w.heap[i]?) ∧ Hle H H_1 ∧ (TG (((decide (x0 = ⟨#[]⟩)) || (!L9)) = false) (a5i x0 H_1) false H_1 (fun (u5 : Bool) (a3R : Hp) =>
 TG ((((decide (x0 = ⟨#[]⟩)) || (!L9)) || u5) = false) (a3E x0 a3R) false a3R (fun (E7 : Bool) (W1 : Hp) =>
 (((((decide (x0 = ⟨#[]⟩)) || (!L9)) || u5) || E7) = true →
 K false W1) ∧
 (((((decide (x0 = ⟨#[]⟩)) || (!L9)) || u5) || E7) = false →
 TL (0 : Nat) W1 fun (s : Nat) H n2 => O4 x0 s H n2 K))))) (fun b8Q => ?_) (fun b8Q => ?_) ?_
 ·replace h := h.1 b8Q
  have a7 := b8Q
  try simp only [a8 a7]
  refine f7 (cap := []) (fun args w => Tryd.call122 args w) ?_
  refine m2 (Fi := []) (Fr := []) I (h) (fun v_5 H_1 F_6 w_2 I_3 l_8 k_4 q_7 => ?_) (fun _ _ _ _ _ q => q.elim)
  obtain ⟨L9, rfl, rfl, h⟩ := q_7
  exact ⟨L9, H_1, by first | rfl | rw [a8 b8Q], I_3, k_4, l_8, h⟩
 ·exact ⟨false, H, by first | rfl | rw [a6G b8Q], I, fun _ _ _ => rfl, Hle.refl _, h.2 b8Q⟩
 ·clear h
  rintro v_5 w_2 ⟨L9, H_1, rfl, I_3, k_4, l_8, h⟩
  refine a6 (Pu.g fun hb => by have a7 := hb; first | exact (L2 _) | (simp only [a8 a7]; exact (L2 _)) | (simp only [b8 a7, a8 a7, a8 hb, v8 a7, h7]; exact (L2 _))) ?_
  refine a6 (E6 _ _) ?_
  try simp only [o6]
  refine a3D (D := fun c7D a1j => ∃ (u5 : Bool) (a3R : Hp) , c7D = (gv ((decide (x0 = ⟨#[]⟩)) || (!L9)) false (Value.bool u5)) ∧ (Inv w0 ps0 H0 a3R [] a1j) ∧ (∀ i, i < w_2.heap.size → ¬ inF [] i → a1j.heap[i]? = w_2.heap[i]?) ∧ Hle H_1 a3R ∧ (TG ((((decide (x0 = ⟨#[]⟩)) || (!L9)) || u5) = false) (a3E x0 a3R) false a3R (fun (E7 : Bool) (W1 : Hp) =>
 (((((decide (x0 = ⟨#[]⟩)) || (!L9)) || u5) || E7) = true →
 K false W1) ∧
 (((((decide (x0 = ⟨#[]⟩)) || (!L9)) || u5) || E7) = false →
 TL (0 : Nat) W1 fun (s : Nat) H n2 => O4 x0 s H n2 K)))) (fun c3E => ?_) (fun c3E => ?_) ?_
  ·replace h := h.1 c3E
   have a7 := c3E
   try simp only [a8 a7]
   refine f7 (cap := []) (fun args w => Tryd.call123 args w) ?_
   refine m2 (Fi := []) (Fr := []) I_3 (h) (fun c7D a3R f6v a1j G9 b9W b5A c7E => ?_) (fun _ _ _ _ _ q => q.elim)
   obtain ⟨u5, rfl, rfl, h⟩ := c7E
   exact ⟨u5, a3R, by first | rfl | rw [a8 c3E], G9, b5A, b9W, h⟩
  ·exact ⟨false, H_1, by first | rfl | rw [a6G c3E], I_3, fun _ _ _ => rfl, Hle.refl _, h.2 c3E⟩
  ·clear h
   rintro c7D a1j ⟨u5, a3R, rfl, G9, b5A, b9W, h⟩
   refine a6 (E6 _ _) ?_
   try simp only [o6]
   refine a3D (D := fun b7R p7 => ∃ (E7 : Bool) (W1 : Hp) , b7R = (gv (((decide (x0 = ⟨#[]⟩)) || (!L9)) || u5) false (Value.bool E7)) ∧ (Inv w0 ps0 H0 W1 [] p7) ∧ (∀ i, i < a1j.heap.size → ¬ inF [] i → p7.heap[i]? = a1j.heap[i]?) ∧ Hle a3R W1 ∧ ((((((decide (x0 = ⟨#[]⟩)) || (!L9)) || u5) || E7) = true →
 K false W1) ∧
 (((((decide (x0 = ⟨#[]⟩)) || (!L9)) || u5) || E7) = false →
 TL (0 : Nat) W1 fun (s : Nat) H n2 => O4 x0 s H n2 K))) (fun c3F => ?_) (fun c3F => ?_) ?_
   ·replace h := h.1 c3F
    have a7 := c3F
    try simp only [a8 a7]
    refine f7 (cap := []) (fun args w => Tryd.call124 args w) ?_
    refine m2 (Fi := []) (Fr := []) G9 (h) (fun b7R W1 d3d p7 a5A c3G b7S c7F => ?_) (fun _ _ _ _ _ q => q.elim)
    obtain ⟨E7, rfl, rfl, h⟩ := c7F
    exact ⟨E7, W1, by first | rfl | rw [a8 c3F], a5A, b7S, c3G, h⟩
   ·exact ⟨false, a3R, by first | rfl | rw [a6G c3F], G9, fun _ _ _ => rfl, Hle.refl _, h.2 c3F⟩
   ·clear h
    rintro b7R p7 ⟨E7, W1, rfl, a5A, b7S, c3G, h⟩
    refine a6 (E6 _ _) ?_
    refine m5 (fun e0m => ?_) (fun e0m => ?_)
    ·replace h := h.1 e0m
     exact hR false W1 _ a5A h
    ·replace h := h.2 e0m
     have hj1 : ∀ (H : Hp) (w : World) (_ : Inv w0 ps0 H0 H [] w) (_ : a6d H K), c2Z w R E := by
      intro H w I h
      unfold c2Z
      intro _
      unfold a6d at h
      exact hR true H _ I h
     refine o3 fun j1 hx1 => ?_
     refine d0J Tryd.underlying9 x0 a5A fun d3e A7 a7Z c7j => ?_
     obtain ⟨e0n, c7G, h1G, h1H⟩ := h
     refine t6 (J := fun n l w => ∃ (s : Nat) (H : Hp) , n = c7G s ∧ l = [] ∧ Inv w0 ps0 H0 H [itf d3e x0 s] w ∧ e0n s H) ⟨_, 0, W1, rfl, rfl, a7Z, h1G⟩ ?_
     rintro h8a τ_94 w next2 ⟨ir_28l2, H, rfl, h1I, I, h1J⟩ hn2
     clear h1I
     obtain ⟨n2, hm2, h⟩ : ∃ n2 : Nat → Hp → Prop, (∀ s' H', n2 s' H' → e0n s' H' ∧ c7G s' < c7G ir_28l2) ∧ O4 x0 ir_28l2 H n2 K := ⟨_, fun _ _ h => h, h1H ir_28l2 H (fun s' H' => e0n s' H' ∧ c7G s' < c7G ir_28l2) h1J (fun _ _ a b => ⟨a, b⟩)⟩
     unfold d0N
     unfold O4 at h
     refine d6D I (fun b2N b7j h1K h8b => ?_) (fun b2N => ?_)
     ·replace h := h.1 b2N
      refine a6 (u0 _ _ _ rfl) ?_
      refine m5 (fun e => ?_) (fun e => by cases e)
      refine a6 (u0 _ _ _ rfl) ?_
      refine a6 (u0 _ _ _ rfl) ?_
      refine f7 (cap := []) (fun args w => Tryd.call125 args w) ?_
      refine m2 (Fi := []) (Fr := [itf d3e x0 (ir_28l2 + (Utf8.decode x0 ir_28l2).2)]) h1K (h) (fun b9V a6y h1L N1 b4d e0o d3f e0p => ?_) (fun _ _ _ _ _ q => q.elim)
      obtain ⟨a6e, rfl, rfl, h⟩ := e0p
      refine a6 (L2 _) ?_
      try simp only [o6]
      refine a6 (Pu.g fun hb => by have a7 := hb; first | exact (c8 _ _ _ _ _ _) | (simp only [a8 a7]; exact (c8 _ _ _ _ _ _)) | (simp only [b8 a7, a8 a7, a8 hb, v8 a7, h7]; exact (c8 _ _ _ _ _ _))) ?_
      try simp only [W3, a0C]
      try simp only [o6, W3, a3x, a2p, a0C, a3B, a3y, a3z, a3A, a3C]
      refine g5T (a4K _ _ _) ?_
      refine a3D (D := fun b7T b4e => ∃ (a3g : Int) (a2h : Hp) , b7T = (gv (!(!a6e) && (decide (((ir_28l2 : Nat) : Int) = 0))) true (vi a3g)) ∧ (Inv w0 ps0 H0 a2h [itf d3e x0 (ir_28l2 + (Utf8.decode x0 ir_28l2).2)] b4e) ∧ (∀ i, i < N1.heap.size → ¬ inF [] i → b4e.heap[i]? = N1.heap[i]?) ∧ Hle a6y a2h ∧ ((((!a6e) || ((decide (((ir_28l2 : Nat) : Int) = 0)) && (!decide (a3g = 3)))) = true →
 K false a2h) ∧
 (((!a6e) || ((decide (((ir_28l2 : Nat) : Int) = 0)) && (!decide (a3g = 3)))) = false →
 n2 (ir_28l2 + (Utf8.decode x0 ir_28l2).2) a2h))) (fun a9d => ?_) (fun a9d => ?_) ?_
      ·replace h := h.1 a9d
       obtain ⟨a7, m6⟩ := a7f a9d
       try simp only [a8 a9d]
       refine f7 (cap := []) (fun args w => Tryd.call126 args w) ?_
       refine m2 (Fi := []) (Fr := [itf d3e x0 (ir_28l2 + (Utf8.decode x0 ir_28l2).2)]) b4d (h) (fun b7T a2h f6w b4e b4f c3H c3I c7H => ?_) (fun _ _ _ _ _ q => q.elim)
       obtain ⟨a3g, rfl, rfl, h⟩ := c7H
       exact ⟨a3g, a2h, by first | rfl | rw [a8 a9d], b4f, c3I, c3H, h⟩
      ·exact ⟨0, a6y, by first | rfl | rw [a6G a9d], b4d, fun _ _ _ => rfl, Hle.refl _, h.2 a9d⟩
      ·clear h
       rintro b7T b4e ⟨a3g, a2h, rfl, b4f, c3I, c3H, h⟩
       refine a6 (Pu.e (a4K _ _ _) (Pu.g fun hb => by obtain ⟨a7, m6⟩ := a7f hb; first | exact (B8 _ _ _ _ _ _) | (simp only [a8 hb]; exact (B8 _ _ _ _ _ _)) | (simp only [b8 a7, a8 a7, b8 m6, a8 m6, a8 hb, r9 hb]; exact (B8 _ _ _ _ _ _)) | (simp only [b8 a7, a8 a7, b8 m6, a8 m6, a8 hb, d9 hb, h7]; exact (B8 _ _ _ _ _ _)))) ?_
       refine a6 (Pu.g fun hb => by have a7 := hb; first | exact (p1 _ _) | (simp only [a8 a7, a4O a7]; exact (p1 _ _)) | (simp only [b8 a7, a8 a7, a8 hb, v8 a7, h7]; exact (p1 _ _))) ?_
       refine a6 (E6 _ _) ?_
       refine m5 (fun b2O => ?_) (fun b2O => ?_)
       ·replace h := h.1 b2O
        exact hR false a2h _ b4f.drop h
       ·replace h := h.2 b2O
        exact hn2 _ _ _ (hm2 _ _ h).2 ⟨(ir_28l2 + (Utf8.decode x0 ir_28l2).2), a2h, rfl, rfl, b4f, (hm2 _ _ h).1⟩
     ·replace h := h.2 b2N
      refine a6 (u0 _ _ _ rfl) ?_
      refine m5 (fun e => by cases e) (fun e => ?_)
      exact hx1 _ _ (hj1 H _ I.drop h)
theorem b9n (x0 : ByteArray) {H : Hp} {K : Bool → Hp → Prop} (h : a5o x0 H K) : a5j x0 H K := by
 intro w I
 refine e5E ?_
 refine b7Q x0 I (fun r0 H' w' I' hk => ⟨H', _, I', r0, rfl, rfl, hk⟩) h
def a1t (a9V : Int) (a9W : Int) (a9X : Int) (a9Y : Bool) (a9Z : Bool) (a8w : (List ByteArray)) (H : Hp) (K : Bool → i5 → (List ByteArray) → Hp → Prop) : Prop :=
 K true (i5.mk a9V a9W a9X a9Y a9Z (Sl.mk none 0 0)) a8w H
def a1u (a5c : Int) (a2y : Sl) (v1 : Int) (a4v : Int) (a2D : Int) (a2E : Int) (a2F : Int) (a2G : Bool) (a2H : Bool) (a2d : (List ByteArray)) (H : Hp) (n2 : (Int × Int × Int × Int × Bool × Bool × (List ByteArray)) → Hp → Prop) (K : Bool → i5 → (List ByteArray) → Hp → Prop) : Prop :=
 (a4v < v1 →
 (0 : Int) ≤ a4v ∧ (a4v : Int) < a2y.n ∧ ∃ c7I : c7, EltH H a2y a4v 1 [(A6 c7I)] ∧
 a3o (i5.mk a2D a2E a2F a2G a2H (Sl.mk none 0 0)) a2d c7I a5c H (fun (a7P : Bool) (G6 : i5) (b1U : (List ByteArray)) (b5R : Hp) =>
 TG ((!a7P) = false) (a5x c7I b5R) (Sl.mk none 0 0) b5R (fun (b5S : Sl) (b0R : Hp) =>
 TG ((!a7P) = false) (fun k_ => a0P b5S (IntKind.wrap .i64 (a5c + 1)) (i5.mk ((G6).fnodes) ((G6).fdepth) ((G6).fe) ((G6).fform) ((G6).fnamed) (Sl.mk none 0 0)) b1U b0R fun b0z Q5 a4M H_ => k_ (b0z, Q5, a4M) H_) (false, (i5.mk ((G6).fnodes) ((G6).fdepth) ((G6).fe) ((G6).fform) ((G6).fnamed) (Sl.mk none 0 0)), b1U) b0R (fun (a1R : Bool × i5 × (List ByteArray)) (a8i : Hp) =>
 (((!a7P) || (!a1R.1)) = true →
 K false (i5.mk ((a1R.2.1).fnodes) ((a1R.2.1).fdepth) ((a1R.2.1).fe) ((a1R.2.1).fform) ((a1R.2.1).fnamed) (Sl.mk none 0 0)) a1R.2.2 a8i) ∧
 (((!a7P) || (!a1R.1)) = false →
 n2 ((IntKind.wrap .i64 (a4v + 1)), ((a1R.2.1).fnodes), ((a1R.2.1).fdepth), ((a1R.2.1).fe), ((a1R.2.1).fform), ((a1R.2.1).fnamed), a1R.2.2) a8i))))) ∧
 (¬ (a4v < v1) →
 a1t a2D a2E a2F a2G a2H a2d H K)
def a2Q (x0 : Sl) (x1 : Int) (x2 : i5) (b2m : (List ByteArray)) (H : Hp) (K : Bool → i5 → (List ByteArray) → Hp → Prop) : Prop :=
 TL ((0, x2.fnodes, x2.fdepth, x2.fe, x2.fform, x2.fnamed, b2m) : Int × Int × Int × Int × Bool × Bool × (List ByteArray)) H fun (s : Int × Int × Int × Int × Bool × Bool × (List ByteArray)) H n2 => a1u x1 x0 (x0.n : Int) s.1 s.2.1 s.2.2.1 s.2.2.2.1 s.2.2.2.2.1 s.2.2.2.2.2.1 s.2.2.2.2.2.2 H n2 K
theorem b3C (x0 : Sl) (x1 : Int) (x2 : i5) (b2m : (List ByteArray)) (g2 g2b g3 : Nat) (b3H : Sl) (b3I : Frag) (d3g : RowL 9 1 u7 b3H b2m b3I) {w0 w : World} {ps0 : Nat → Prop} {H0 H : Hp} {K : Bool → i5 → (List ByteArray) → Hp → Prop} {R : Value → World → Prop} {E : Pan} (I : Inv w0 ps0 H0 H [bx g2 93 [(Value.pointer (some ⟨g2b, 0, none⟩))], bx g2b 92 [(vi x2.fnodes), (vi x2.fdepth), (vi x2.fe), (Value.bool x2.fform), (Value.bool x2.fnamed), (vs b3H)], b3I, bx g3 139 [(Value.func (.func 89) #[] #[(Value.pointer (some ⟨g2, 0, none⟩)), (Value.pointer (some ⟨g3, 0, none⟩))])]] w) (hR : ∀ (r0 : Bool) (y0 : i5) (a7V : (List ByteArray)) (a5P : Sl) (a5Q : Frag) (H' : Hp) (w' : World) (_ : RowL 9 1 u7 a5P a7V a5Q) (_ : Inv w0 ps0 H0 H' [bx g2 93 [(Value.pointer (some ⟨g2b, 0, none⟩))], bx g2b 92 [(vi y0.fnodes), (vi y0.fdepth), (vi y0.fe), (Value.bool y0.fform), (Value.bool y0.fnamed), (vs a5P)], a5Q, bx g3 139 [(Value.func (.func 89) #[] #[(Value.pointer (some ⟨g2, 0, none⟩)), (Value.pointer (some ⟨g3, 0, none⟩))])]] w') (_ : K r0 y0 a7V H'), R (Value.bool r0) w') (h : a2Q x0 x1 x2 b2m H K) : F89 (vs x0) (vi x1) (Value.pointer (some ⟨g2, 0, none⟩)) (Value.pointer (some ⟨g3, 0, none⟩)) w R E := by
 unfold a2Q at h
 unfold F89
 have hj1 : ∀ (a9V : Int) (a9W : Int) (a9X : Int) (a9Y : Bool) (a9Z : Bool) (a8w : (List ByteArray)) (b3K : Sl) (b3L : Frag) (H : Hp) (w : World) (_ : RowL 9 1 u7 b3K a8w b3L) (_ : Inv w0 ps0 H0 H [bx g2 93 [(Value.pointer (some ⟨g2b, 0, none⟩))], bx g2b 92 [(vi a9V), (vi a9W), (vi a9X), (Value.bool a9Y), (Value.bool a9Z), (vs b3K)], bx g3 139 [(Value.func (.func 89) #[] #[(Value.pointer (some ⟨g2, 0, none⟩)), (Value.pointer (some ⟨g3, 0, none⟩))])], b3L] w) (_ : a1t a9V a9W a9X a9Y a9Z a8w H K), c6k w R E := by
  intro a9V a9W a9X a9Y a9Z a8w b3K b3L H w d7A I h
  unfold c6k
  intro _
  unfold a1t at h
  exact hR true (i5.mk a9V a9W a9X a9Y a9Z (Sl.mk none 0 0)) a8w b3K b3L H _ d7A ((((I.bring 2).bring 3).bring 3).bring 3) h
 refine o3 fun j1 hx1 => ?_
 refine a6 (b3F _ _ _) ?_
 obtain ⟨e0q, c7J, h1M, h1N⟩ := h
 refine t6 (J := fun n l w => ∃ (s : Int × Int × Int × Int × Bool × Bool × (List ByteArray)) (H : Hp) (a8x : Sl) (a8y : Frag) , n = c7J s ∧ l = (match s with | (a4v, a2D, a2E, a2F, a2G, a2H, a2d) => [(vi a4v)]) ∧ (match s with | (a4v, a2D, a2E, a2F, a2G, a2H, a2d) => RowL 9 1 u7 a8x a2d a8y) ∧ (match s with | (a4v, a2D, a2E, a2F, a2G, a2H, a2d) => Inv w0 ps0 H0 H [bx g2 93 [(Value.pointer (some ⟨g2b, 0, none⟩))], bx g2b 92 [(vi a2D), (vi a2E), (vi a2F), (Value.bool a2G), (Value.bool a2H), (vs a8x)], bx g3 139 [(Value.func (.func 89) #[] #[(Value.pointer (some ⟨g2, 0, none⟩)), (Value.pointer (some ⟨g3, 0, none⟩))])], a8y] w) ∧ e0q s H) ⟨_, (0, x2.fnodes, x2.fdepth, x2.fe, x2.fform, x2.fnamed, b2m), H, b3H, b3I, rfl, rfl, d3g, ((((I.bring 2).bring 3).bring 3).bring 3), h1M⟩ ?_
 rintro h8c τ_92 w next2 ⟨⟨a4v, a2D, a2E, a2F, a2G, a2H, a2d⟩, H, a8x, a8y, rfl, c6X, b7U, I, f6x⟩ hn2
 dsimp only at c6X I b7U
 simp only [List.map_cons, List.map_nil, List.cons.injEq, and_true] at c6X
 have e11 := c6X
 simp only [e11]
 obtain ⟨n2, hm2, h⟩ : ∃ n2 : (Int × Int × Int × Int × Bool × Bool × (List ByteArray)) → Hp → Prop, (∀ s' H', n2 s' H' → e0q s' H' ∧ c7J s' < c7J (a4v, a2D, a2E, a2F, a2G, a2H, a2d)) ∧ a1u x1 x0 (x0.n : Int) a4v a2D a2E a2F a2G a2H a2d H n2 K := ⟨_, fun _ _ h => h, h1N (a4v, a2D, a2E, a2F, a2G, a2H, a2d) H (fun s' H' => e0q s' H' ∧ c7J s' < c7J (a4v, a2D, a2E, a2F, a2G, a2H, a2d)) f6x (fun _ _ a b => ⟨a, b⟩)⟩
 unfold d6Q
 unfold a1u at h
 refine a6 (p6 _ _ _ _ _ _) ?_
 refine g8 (fun c0j => ?_) (fun c0j => ?_)
 ·replace h := h.1 c0j
  obtain ⟨e0r, c7K, c7I, c0r, h⟩ := h
  obtain ⟨h8d, h8e, e0s, c0r⟩ := c0r
  refine a6 (d9w e0s _ _ _ _ e0r c7K) ?_
  refine c5 (ld1 (v := (A6 c7I)) Tryd.isAgg141 (I.atH c0r)) ?_
  refine a5F I fun c6j f6y => ?_
  refine M2 (ld1 Tryd.isAgg93 (f6y.at1 (o := 0) (vs := [(Value.pointer (some ⟨g2b, 0, none⟩))]) (nb rfl) rfl)) ?_
  refine f7 (cap := []) (fun args w => Tryd.call90 args w) ?_
  refine m2 (Fi := [bx g2b 92 [(vi a2D), (vi a2E), (vi a2F), (Value.bool a2G), (Value.bool a2H), (vs a8x)], a8y]) (Fr := [bx g2 93 [(Value.pointer (some ⟨g2b, 0, none⟩))], bx g3 139 [(Value.func (.func 89) #[] #[(Value.pointer (some ⟨g2, 0, none⟩)), (Value.pointer (some ⟨g3, 0, none⟩))])]]) ((f6y.bring 3).bring 2) (h g2b a8x a8y b7U) (fun h1O b5R h1P M8 b5T h1Q h1R e0t => ?_) (fun _ _ _ _ _ q => q.elim)
  obtain ⟨a7P, G6, b1U, b2R, b2S, rfl, rfl, c7L, h⟩ := e0t
  refine q8 (L2 _) ?_
  try simp only [o6]
  try simp only [o6, W3, a3x, a2p, a0C, a3B, a3y, a3z, a3A, a3C]
  refine q8 (Pu.g fun hb => by have a7 := hb; first | exact (o4 _ _ _ _ _ _) | (simp only [a8 a7]; exact (o4 _ _ _ _ _ _)) | (simp only [b8 a7, a8 a7, a8 hb, v8 a7, h7]; exact (o4 _ _ _ _ _ _))) ?_
  refine M2 (Ld.g fun hb => by have a7 := hb; first | exact (ld1 Tryd.isAgg139 ((b5T.bring 3).at1 (o := 0) (vs := [(Value.func (.func 89) #[] #[(Value.pointer (some ⟨g2, 0, none⟩)), (Value.pointer (some ⟨g3, 0, none⟩))])]) (nb rfl) rfl)) | (simp only [b8 a7, a8 a7, a8 hb, a4O a7]; exact (ld1 Tryd.isAgg139 ((b5T.bring 3).at1 (o := 0) (vs := [(Value.func (.func 89) #[] #[(Value.pointer (some ⟨g2, 0, none⟩)), (Value.pointer (some ⟨g3, 0, none⟩))])]) (nb rfl) rfl))) | (simp only [b8 a7, a8 a7, a8 hb, v8 a7, h7]; exact (ld1 Tryd.isAgg139 ((b5T.bring 3).at1 (o := 0) (vs := [(Value.func (.func 89) #[] #[(Value.pointer (some ⟨g2, 0, none⟩)), (Value.pointer (some ⟨g3, 0, none⟩))])]) (nb rfl) rfl)))) ?_
  refine a3D (D := fun f6z a6K => ∃ (b5S : Sl) (b0R : Hp), f6z = (gv (!a7P) false (vs b5S)) ∧ (Inv w0 ps0 H0 b0R [bx g2b 92 [(vi ((G6).fnodes)), (vi ((G6).fdepth)), (vi ((G6).fe)), (Value.bool ((G6).fform)), (Value.bool ((G6).fnamed)), (vs b2R)], b2S, bx g2 93 [(Value.pointer (some ⟨g2b, 0, none⟩))], bx g3 139 [(Value.func (.func 89) #[] #[(Value.pointer (some ⟨g2, 0, none⟩)), (Value.pointer (some ⟨g3, 0, none⟩))])]] a6K) ∧ (∀ i, i < M8.heap.size → ¬ inF [] i → a6K.heap[i]? = M8.heap[i]?) ∧ Hle b5R b0R ∧ (TG ((!a7P) = false) (fun k_ => a0P b5S (IntKind.wrap .i64 (x1 + 1)) (i5.mk ((G6).fnodes) ((G6).fdepth) ((G6).fe) ((G6).fform) ((G6).fnamed) (Sl.mk none 0 0)) b1U b0R fun b0z Q5 a4M H_ => k_ (b0z, Q5, a4M) H_) (false, (i5.mk ((G6).fnodes) ((G6).fdepth) ((G6).fe) ((G6).fform) ((G6).fnamed) (Sl.mk none 0 0)), b1U) b0R (fun (a1R : Bool × i5 × (List ByteArray)) (a8i : Hp) =>
 (((!a7P) || (!a1R.1)) = true →
 K false (i5.mk ((a1R.2.1).fnodes) ((a1R.2.1).fdepth) ((a1R.2.1).fe) ((a1R.2.1).fform) ((a1R.2.1).fnamed) (Sl.mk none 0 0)) a1R.2.2 a8i) ∧
 (((!a7P) || (!a1R.1)) = false →
 n2 ((IntKind.wrap .i64 (a4v + 1)), ((a1R.2.1).fnodes), ((a1R.2.1).fdepth), ((a1R.2.1).fe), ((a1R.2.1).fform), ((a1R.2.1).fnamed), a1R.2.2) a8i)))) (fun b7V => ?_) (fun b7V => ?_) ?_
  ·replace h := h.1 b7V
   have a7 := b7V
   try simp only [a8 a7]
   refine b3Z b5T h (fun b5S b0R a6K c3J d3h d3i h => ?_)
   exact ⟨b5S, b0R, by first | rfl | rw [a8 b7V], c3J, d3i, d3h, h⟩
  ·exact ⟨(Sl.mk none 0 0), b5R, by first | rfl | rw [a6G b7V], b5T, fun _ _ _ => rfl, Hle.refl _, h.2 b7V⟩
  ·clear h
   rintro f6z a6K ⟨b5S, b0R, rfl, c3J, d3i, d3h, h⟩
   refine ⟨(d3i _ (b5T.bring 3).lt1 (Inv.a8D (Fi := []) (b5T.bring 3))), ?_⟩
   refine a3D (D := fun e0u c3K => ∃ (b0z : Bool) (Q5 : i5) (a4M : (List ByteArray)) (a8i : Hp) (a8j : Sl) (a8k : Frag) , e0u = (gv (!a7P) false (Value.bool b0z)) ∧ (RowL 9 1 u7 a8j a4M a8k) ∧ (Inv w0 ps0 H0 a8i [bx g2 93 [(Value.pointer (some ⟨g2b, 0, none⟩))], bx g2b 92 [(vi ((Q5).fnodes)), (vi ((Q5).fdepth)), (vi ((Q5).fe)), (Value.bool ((Q5).fform)), (Value.bool ((Q5).fnamed)), (vs a8j)], a8k, bx g3 139 [(Value.func (.func 89) #[] #[(Value.pointer (some ⟨g2, 0, none⟩)), (Value.pointer (some ⟨g3, 0, none⟩))])]] c3K) ∧ (∀ i, i < a6K.heap.size → ¬ inF [bx g2 93 [(Value.pointer (some ⟨g2b, 0, none⟩))], bx g2b 92 [(vi ((G6).fnodes)), (vi ((G6).fdepth)), (vi ((G6).fe)), (Value.bool ((G6).fform)), (Value.bool ((G6).fnamed)), (vs b2R)], b2S, bx g3 139 [(Value.func (.func 89) #[] #[(Value.pointer (some ⟨g2, 0, none⟩)), (Value.pointer (some ⟨g3, 0, none⟩))])]] i → c3K.heap[i]? = a6K.heap[i]?) ∧ Hle b0R a8i ∧ ((((!a7P) || (!b0z)) = true →
 K false (i5.mk ((Q5).fnodes) ((Q5).fdepth) ((Q5).fe) ((Q5).fform) ((Q5).fnamed) (Sl.mk none 0 0)) a4M a8i) ∧
 (((!a7P) || (!b0z)) = false →
 n2 ((IntKind.wrap .i64 (a4v + 1)), ((Q5).fnodes), ((Q5).fdepth), ((Q5).fe), ((Q5).fform), ((Q5).fnamed), a4M) a8i))) (fun c3L => ?_) (fun c3L => ?_) ?_
   ·replace h := h.1 c3L
    have a7 := c3L
    try simp only [a8 a7]
    refine f7 (cap := [(Value.pointer (some ⟨g2, 0, none⟩)), (Value.pointer (some ⟨g3, 0, none⟩))]) (fun args w => Tryd.call89 args w) ?_
    refine m2 (Fi := [bx g2 93 [(Value.pointer (some ⟨g2b, 0, none⟩))], bx g2b 92 [(vi ((G6).fnodes)), (vi ((G6).fdepth)), (vi ((G6).fe)), (Value.bool ((G6).fform)), (Value.bool ((G6).fnamed)), (vs b2R)], b2S, bx g3 139 [(Value.func (.func 89) #[] #[(Value.pointer (some ⟨g2, 0, none⟩)), (Value.pointer (some ⟨g3, 0, none⟩))])]]) (Fr := []) ((((c3J.bring 3).bring 2).bring 2).bring 3) (h g2 g2b g3 b2R b2S c7L) (fun e0u a8i h8f c3K d3j a8M f6A h1S => ?_) (fun _ _ _ _ _ q => q.elim)
    obtain ⟨b0z, Q5, a4M, a8j, a8k, rfl, rfl, b5U, h⟩ := h1S
    exact ⟨b0z, Q5, a4M, a8i, a8j, a8k, by first | rfl | rw [a8 c3L], b5U, d3j, f6A, a8M, h⟩
   ·exact ⟨false, (i5.mk ((G6).fnodes) ((G6).fdepth) ((G6).fe) ((G6).fform) ((G6).fnamed) (Sl.mk none 0 0)), b1U, b0R, b2R, b2S, by first | rfl | rw [a6G c3L], c7L, ((((c3J.bring 3).bring 2).bring 2).bring 3), fun _ _ _ => rfl, Hle.refl _, h.2 c3L⟩
   ·clear h
    rintro e0u c3K ⟨b0z, Q5, a4M, a8i, a8j, a8k, rfl, b5U, d3j, f6A, a8M, h⟩
    refine q8 (Pu.g fun hb => by have a7 := hb; first | exact (L2 _) | (simp only [a8 a7]; exact (L2 _)) | (simp only [b8 a7, a8 a7, a8 hb, v8 a7, h7]; exact (L2 _))) ?_
    refine q8 (E6 _ _) ?_
    refine m5 (fun c0l => ?_) (fun c0l => ?_)
    ·replace h := h.1 c0l
     exact hR false (i5.mk ((Q5).fnodes) ((Q5).fdepth) ((Q5).fe) ((Q5).fform) ((Q5).fnamed) (Sl.mk none 0 0)) a4M a8j a8k a8i _ b5U ((((d3j.bring 3).bring 3).bring 3).bring 3) h
    ·replace h := h.2 c0l
     refine a6 (o4 _ _ _ _ _ _) ?_
     exact hn2 _ _ _ (hm2 _ _ h).2 ⟨((IntKind.wrap .i64 (a4v + 1)), ((Q5).fnodes), ((Q5).fdepth), ((Q5).fe), ((Q5).fform), ((Q5).fnamed), a4M), a8i, a8j, a8k, rfl, rfl, b5U, ((((d3j.bring 2).bring 3).bring 3).bring 3), (hm2 _ _ h).1⟩
 ·replace h := h.2 c0j
  exact hx1 _ _ (hj1 a2D a2E a2F a2G a2H a2d a8x a8y H _ b7U ((((I.bring 3).bring 3).bring 3).bring 3) h)
theorem b4g (x0 : Sl) (x1 : Int) (x2 : i5) (b2m : (List ByteArray)) {H : Hp} {K : Bool → i5 → (List ByteArray) → Hp → Prop} (h : a2Q x0 x1 x2 b2m H K) : a0P x0 x1 x2 b2m H K := by
 intro g2 g2b g3 b3H b3I d3g w I
 refine f1r ?_
 refine b3C x0 x1 x2 b2m g2 g2b g3 b3H b3I d3g I (fun r0 y0 a7V a5P a5Q H' w' c7t I' hk => ⟨H', _, I', r0, y0, a7V, a5P, a5Q, rfl, rfl, c7t, hk⟩) h
def L1 (cr_1j1_0 : Int) (cr_1j1_1 : Int) (cr_1j1_2 : Int) (cr_1j1_3 : Bool) (cr_1j1_4 : Bool) (ccr_1j1_5 : (List ByteArray)) (H : Hp) (K : i5 → Hp → Prop) : Prop :=
 ∀ (scr_1j1_5 : Sl) (c3M : Hp), Hle H c3M → SlH c3M 1 u7 scr_1j1_5 ccr_1j1_5 → scr_1j1_5.n ≤ scr_1j1_5.c →
 K (i5.mk cr_1j1_0 cr_1j1_1 cr_1j1_2 cr_1j1_3 cr_1j1_4 scr_1j1_5) c3M
def a3S (x0 : Sl) (H : Hp) (K : i5 → Hp → Prop) : Prop :=
 a0P x0 1 (i5.mk 0 0 0 false false (Sl.mk none 0 0)) [] H (fun (d3k : Bool) (E1 : i5) (a7o : (List ByteArray)) (b5V : Hp) =>
 ((!d3k) = true →
 L1 ((E1).fnodes) ((E1).fdepth) ((E1).fe) ((E1).fform) ((E1).fnamed) a7o b5V K) ∧
 ((!d3k) = false →
 (((E1).fform) = true →
 L1 ((E1).fnodes) ((E1).fdepth) 30 ((E1).fform) ((E1).fnamed) a7o b5V K) ∧
 (((E1).fform) = false →
 (((E1).fnamed) = true →
 L1 ((E1).fnodes) ((E1).fdepth) 31 ((E1).fform) ((E1).fnamed) a7o b5V K) ∧
 (((E1).fnamed) = false →
 L1 ((E1).fnodes) ((E1).fdepth) ((E1).fe) ((E1).fform) ((E1).fnamed) a7o b5V K))))
theorem b4K (x0 : Sl) {w0 w : World} {ps0 : Nat → Prop} {H0 H : Hp} {K : i5 → Hp → Prop} {R : Value → World → Prop} {E : Pan} (I : Inv w0 ps0 H0 H [] w) (hR : ∀ (r0 : i5) (gr0 : Nat) (H' : Hp) (w' : World) (_ : Inv w0 ps0 H0 H' [bx gr0 92 (a7i r0)] w') (_ : K r0 H'), R (Value.pointer (some ⟨gr0, 0, none⟩)) w') (h : a3S x0 H K) : F57 (vs x0) w R E := by
 unfold a3S at h
 unfold F57
 refine a6 (d6I ) ?_
 refine K2 I (cs := [(vi 0), (vi 0), (vi 0), (Value.bool false), (Value.bool false), (Value.slice none 0 0)]) rfl fun g_2 w_3 I_4 k_5 => ?_
 refine L8 I_4 Tryd.zeroValue93 (cs := [(Value.pointer none)]) rfl fun g_7 w_8 I_9 d2v => ?_
 refine u1 I_9 Tryd.sizeOf93 (vs := [(Value.pointer (some ⟨g_2, 0, none⟩))]) (cs' := [(Value.pointer (some ⟨g_2, 0, none⟩))]) rfl rfl (nb rfl) rfl rfl fun a1j G9 b5A => ?_
 refine L8 G9 Tryd.zeroValue139 (cs := [Value.nilFunc]) rfl fun b5W p9 b0a d3l => ?_
 refine a6 (b3T _ _ _) ?_
 refine u1 b0a Tryd.sizeOf139 (vs := [(Value.func (.func 89) #[] #[(Value.pointer (some ⟨g_7, 0, none⟩)), (Value.pointer (some ⟨b5W, 0, none⟩))])]) (cs' := [(Value.func (.func 89) #[] #[(Value.pointer (some ⟨g_7, 0, none⟩)), (Value.pointer (some ⟨b5W, 0, none⟩))])]) rfl rfl (nb rfl) rfl rfl fun a5b d2G h1c => ?_
 have hj1 : ∀ (cr_1j1_0 : Int) (cr_1j1_1 : Int) (cr_1j1_2 : Int) (cr_1j1_3 : Bool) (cr_1j1_4 : Bool) (ccr_1j1_5 : (List ByteArray)) (scr_1j1_5 : Sl) (Fcr_1j1_5 : Frag) (H : Hp) (w : World) (_ : RowL 9 1 u7 scr_1j1_5 ccr_1j1_5 Fcr_1j1_5) (_ : Inv w0 ps0 H0 H [bx g_7 93 [(Value.pointer (some ⟨g_2, 0, none⟩))], bx g_2 92 [(vi cr_1j1_0), (vi cr_1j1_1), (vi cr_1j1_2), (Value.bool cr_1j1_3), (Value.bool cr_1j1_4), (vs scr_1j1_5)], bx b5W 139 [(Value.func (.func 89) #[] #[(Value.pointer (some ⟨g_7, 0, none⟩)), (Value.pointer (some ⟨b5W, 0, none⟩))])], Fcr_1j1_5] w) (_ : L1 cr_1j1_0 cr_1j1_1 cr_1j1_2 cr_1j1_3 cr_1j1_4 ccr_1j1_5 H K), c5Y (Value.pointer (some ⟨g_7, 0, none⟩)) w R E := by
  intro cr_1j1_0 cr_1j1_1 cr_1j1_2 cr_1j1_3 cr_1j1_4 ccr_1j1_5 scr_1j1_5 Fcr_1j1_5 H w hcr_1j1_5 I h
  unfold c5Y
  intro _
  unfold L1 at h
  refine c5 (ld1 Tryd.isAgg93 (I.at1 (o := 0) (vs := [(Value.pointer (some ⟨g_2, 0, none⟩))]) (nb rfl) rfl)) ?_
  obtain ⟨c3M, c7r, f6B, b2w, b5G⟩ := Inv.freezeC (I.bring 3) hcr_1j1_5 (by decide)
  replace h := h scr_1j1_5 c3M f6B b2w b5G
  exact hR (i5.mk cr_1j1_0 cr_1j1_1 cr_1j1_2 cr_1j1_3 cr_1j1_4 scr_1j1_5) g_2 c3M _ (c7r.drop.bring 1).drop h
 refine o3 fun j1 hx1 => ?_
 refine c5 (ld1 Tryd.isAgg139 (d2G.at1 (o := 0) (vs := [(Value.func (.func 89) #[] #[(Value.pointer (some ⟨g_7, 0, none⟩)), (Value.pointer (some ⟨b5W, 0, none⟩))])]) (nb rfl) rfl)) ?_
 refine f7 (cap := [(Value.pointer (some ⟨g_7, 0, none⟩)), (Value.pointer (some ⟨b5W, 0, none⟩))]) (fun args w => Tryd.call89 args w) ?_
 refine m2 (Fi := [bx g_7 93 [(Value.pointer (some ⟨g_2, 0, none⟩))], bx g_2 92 [(vi 0), (vi 0), (vi 0), (Value.bool false), (Value.bool false), (Value.slice (Sl.mk none 0 0).a (Sl.mk none 0 0).n (Sl.mk none 0 0).c)], [], bx b5W 139 [(Value.func (.func 89) #[] #[(Value.pointer (some ⟨g_7, 0, none⟩)), (Value.pointer (some ⟨b5W, 0, none⟩))])]]) (Fr := []) ((((d2G.nil.bring 1).bring 1).bring 3).bring 3) (h g_7 g_2 b5W (Sl.mk none 0 0) ([]) (RowL.nil (e := 9) a6q a6r)) (fun h8g b5V c3v t8 a4H h8h c7M h1T => ?_) (fun _ _ _ _ _ q => q.elim)
 obtain ⟨d3k, E1, a7o, b0b, b5X, rfl, rfl, b5Y, h⟩ := h1T
 refine a6 (L2 _) ?_
 refine m5 (fun b2T => ?_) (fun b2T => ?_)
 ·replace h := h.1 b2T
  exact hx1 _ _ (hj1 ((E1).fnodes) ((E1).fdepth) ((E1).fe) ((E1).fform) ((E1).fnamed) a7o b0b b5X b5V _ b5Y ((((a4H.bring 2).bring 3).bring 3).bring 3) h)
 ·replace h := h.2 b2T
  refine c5 (ld1 Tryd.isAgg93 (a4H.at1 (o := 0) (vs := [(Value.pointer (some ⟨g_2, 0, none⟩))]) (nb rfl) rfl)) ?_
  refine a6 (m1 _) ?_
  refine a6 b5l ?_
  refine c5 (ld1 Tryd.isAgg4 ((a4H.bring 1).at1 (o := 3) (vs := [(Value.bool ((E1).fform))]) (nb rfl) rfl)) ?_
  refine m5 (fun a4m => ?_) (fun a4m => ?_)
  ·replace h := h.1 a4m
   refine c5 (ld1 Tryd.isAgg93 (a4H.at1 (o := 0) (vs := [(Value.pointer (some ⟨g_2, 0, none⟩))]) (nb rfl) rfl)) ?_
   refine a6 (m1 _) ?_
   refine a6 a8E ?_
   refine u1 (a4H.bring 1) Tryd.sizeOf34 (vs := [(vi 30)]) (cs' := [(vi ((E1).fnodes)), (vi ((E1).fdepth)), (vi 30), (Value.bool ((E1).fform)), (Value.bool ((E1).fnamed)), (vs b0b)]) rfl rfl (nb rfl) rfl rfl fun f0S h1U h8i => ?_
   exact hx1 _ _ (hj1 ((E1).fnodes) ((E1).fdepth) 30 ((E1).fform) ((E1).fnamed) a7o b0b b5X b5V _ b5Y ((((h1U.bring 2).bring 3).bring 2).bring 3) h)
  ·replace h := h.2 a4m
   refine c5 (ld1 Tryd.isAgg93 (a4H.at1 (o := 0) (vs := [(Value.pointer (some ⟨g_2, 0, none⟩))]) (nb rfl) rfl)) ?_
   refine a6 (m1 _) ?_
   refine a6 b5m ?_
   refine c5 (ld1 Tryd.isAgg4 ((a4H.bring 1).at1 (o := 4) (vs := [(Value.bool ((E1).fnamed))]) (nb rfl) rfl)) ?_
   refine m5 (fun c0s => ?_) (fun c0s => ?_)
   ·replace h := h.1 c0s
    refine c5 (ld1 Tryd.isAgg93 (a4H.at1 (o := 0) (vs := [(Value.pointer (some ⟨g_2, 0, none⟩))]) (nb rfl) rfl)) ?_
    refine a6 (m1 _) ?_
    refine a6 a8E ?_
    refine u1 (a4H.bring 1) Tryd.sizeOf34 (vs := [(vi 31)]) (cs' := [(vi ((E1).fnodes)), (vi ((E1).fdepth)), (vi 31), (Value.bool ((E1).fform)), (Value.bool ((E1).fnamed)), (vs b0b)]) rfl rfl (nb rfl) rfl rfl fun D3 c3A f6m => ?_
    exact hx1 _ _ (hj1 ((E1).fnodes) ((E1).fdepth) 31 ((E1).fform) ((E1).fnamed) a7o b0b b5X b5V _ b5Y ((((c3A.bring 2).bring 3).bring 2).bring 3) h)
   ·replace h := h.2 c0s
    exact hx1 _ _ (hj1 ((E1).fnodes) ((E1).fdepth) ((E1).fe) ((E1).fform) ((E1).fnamed) a7o b0b b5X b5V _ b5Y ((((a4H.bring 2).bring 3).bring 3).bring 3) h)
theorem b5Z (x0 : Sl) {H : Hp} {K : i5 → Hp → Prop} (h : a3S x0 H K) : a5R x0 H K := by
 intro w I
 refine f0g ?_
 refine b4K x0 I (fun r0 gr0 H' w' I' hk => ⟨H', _, I', r0, gr0, rfl, rfl, hk⟩) h
def a5p (x0 : i7) (H : Hp) (K : i5 → Hp → Prop) : Prop :=
 I0 x0.s8 H (fun (a8S : Sl) (H_8 : Hp) =>
 v6 x0.Z8 H_8 (fun (a8T : Sl) (b7O : Hp) =>
 ∀ (a6X : Sl) (a8U : Hp), Hle b7O a8U → SlH a8U 1 csl a6X [a8S, a8T] → a6X.n ≤ a6X.c →
 B9 a6X a8U (fun (b8I : Sl) (c3t : Hp) =>
 a5R b8I c3t (fun (b6a : i5) (b2H : Hp) =>
 K b6a b2H))))
theorem b7W (x0 : i7) {w0 w : World} {ps0 : Nat → Prop} {H0 H : Hp} {K : i5 → Hp → Prop} {R : Value → World → Prop} {E : Pan} (I : Inv w0 ps0 H0 H [] w) (hR : ∀ (r0 : i5) (gr0 : Nat) (H' : Hp) (w' : World) (_ : Inv w0 ps0 H0 H' [bx gr0 92 (a7i r0)] w') (_ : K r0 H'), R (Value.pointer (some ⟨gr0, 0, none⟩)) w') (h : a5p x0 H K) : F66 (Value.agg (d5 x0).toArray) w R E := by
 unfold a5p at h
 unfold F66
 refine K2 I (cs := (d5 x0)) rfl fun g_2 w_3 I_4 k_5 => ?_
 refine a5F I_4 fun w_6 I_7 => ?_
 refine q8 F7 ?_
 refine q8 a5H ?_
 refine M2 (ld1 Tryd.isAgg22 (I_7.at1 (o := 0) (vs := [(vs x0.s8)]) (nb rfl) rfl)) ?_
 refine M2 (ld1 Tryd.isAgg23 (I_7.at1 (o := 1) (vs := [(vs x0.Z8)]) (nb rfl) rfl)) ?_
 refine f7 (cap := []) (fun args w => Tryd.call95 args w) ?_
 refine m2 (Fi := []) (Fr := [bx g_2 25 (d5 x0)]) I_7 (h) (fun f5Z H_8 f6a w_9 b5F b7P b9O c7h => ?_) (fun _ _ _ _ _ q => q.elim)
 obtain ⟨a8S, rfl, rfl, h⟩ := c7h
 refine ⟨(b9O _ I_7.lt1 (Inv.a8D (Fi := []) I_7)), ?_⟩
 refine f7 (cap := []) (fun args w => Tryd.call97 args w) ?_
 refine m2 (Fi := []) (Fr := [bx g_2 25 (d5 x0)]) b5F (h) (fun f6b b7O d2z r5 b2x f6c c3u c7i => ?_) (fun _ _ _ _ _ q => q.elim)
 obtain ⟨a8T, rfl, rfl, h⟩ := c7i
 refine a5G (e := 97) (c := csl) (xs := [a8S, a8T]) b2x (c5Q _ _ _ _ _ _) rfl rfl c4Y c4Z (nb rfl) fun a6X c3v b0P b9P a7Z c7j => ?_
 obtain ⟨a8U, d9K, b7y, b5G, d9L⟩ := Inv.freezeC a7Z b9P (by decide)
 replace h := h a6X a8U b7y b5G d9L
 refine f7 (cap := []) (fun args w => Tryd.call94 args w) ?_
 refine m2 (Fi := []) (Fr := [bx g_2 25 (d5 x0)]) d9K (h) (fun h0W c3t h0X d1T b2t c7k h0Y d9M => ?_) (fun _ _ _ _ _ q => q.elim)
 obtain ⟨b8I, rfl, rfl, h⟩ := d9M
 refine f7 (cap := []) (fun args w => Tryd.call57 args w) ?_
 refine m2 (Fi := []) (Fr := [bx g_2 25 (d5 x0)]) b2t (h) (fun f6p b2H f6q J7 b5K c3C d2L c7w => ?_) (fun _ _ _ _ _ q => q.elim)
 obtain ⟨b6a, f6C, rfl, rfl, h⟩ := c7w
 exact hR b6a f6C b2H _ (b5K.bring 1).drop h
theorem b9o (x0 : i7) {H : Hp} {K : i5 → Hp → Prop} (h : a5p x0 H K) : a7x x0 H K := by
 intro w I
 refine f1i ?_
 refine b7W x0 I (fun r0 gr0 H' w' I' hk => ⟨H', _, I', r0, gr0, rfl, rfl, hk⟩) h
def X3 (x0 : b7) (x1 : Int) (H : Hp) (K : Bool → b7 → Hp → Prop) : Prop :=
 (¬ (x0.fbad = 0) →
 K false x0 H) ∧
 (x0.fbad = 0 →
 (x0.fn = 4096 →
 K false (b7.mk x0.fn x0.fdepth 33) H) ∧
 (¬ (x0.fn = 4096) →
 (64 < x1 →
 K false (b7.mk x0.fn x0.fdepth 32) H) ∧
 (¬ (64 < x1) →
 K true (b7.mk (IntKind.wrap .i64 (x0.fn + 1)) (if x1 > x0.fdepth then x1 else x0.fdepth) x0.fbad) H)))
theorem a9e (x0 : b7) (x1 : Int) (g0 : Nat) {w0 w : World} {ps0 : Nat → Prop} {H0 H : Hp} {K : Bool → b7 → Hp → Prop} {R : Value → World → Prop} {E : Pan} (I : Inv w0 ps0 H0 H [bx g0 99 (d7 x0)] w) (hR : ∀ (r0 : Bool) (y0 : b7) (H' : Hp) (w' : World) (_ : Inv w0 ps0 H0 H' [bx g0 99 (d7 y0)] w') (_ : K r0 y0 H'), R (Value.bool r0) w') (h : X3 x0 x1 H K) : F91 (Value.pointer (some ⟨g0, 0, none⟩)) (vi x1) w R E := by
 unfold X3 at h
 unfold F91
 refine a6 (m1 _) ?_
 refine a6 y6 ?_
 refine c5 (ld1 Tryd.isAgg3 (I.at1 (o := 2) (vs := [(vi x0.fbad)]) (nb rfl) rfl)) ?_
 refine a6 (B8 _ _ _ _ _ _) ?_
 refine a3Y (fun a5U => ?_) (fun a5U => ?_)
 ·replace h := h.1 a5U
  exact hR false x0 H _ I h
 ·replace h := h.2 a5U
  refine a6 (m1 _) ?_
  refine a6 b5h ?_
  refine c5 (ld1 Tryd.isAgg3 (I.at1 (o := 0) (vs := [(vi x0.fn)]) (nb rfl) rfl)) ?_
  refine a6 (c8 _ _ _ _ _ _) ?_
  refine g8 (fun b2s => ?_) (fun b2s => ?_)
  ·replace h := h.1 b2s
   refine a6 (m1 _) ?_
   refine a6 y6 ?_
   refine u1 I Tryd.sizeOf3 (vs := [(vi 33)]) (cs' := [(vi x0.fn), (vi x0.fdepth), (vi 33)]) rfl rfl (nb rfl) rfl rfl fun w_1 I_2 k_3 => ?_
   exact hR false (b7.mk x0.fn x0.fdepth 33) H _ I_2 h
  ·replace h := h.2 b2s
   refine a6 (T7 _ _ _ _ _ _) ?_
   refine g8 (fun c0t => ?_) (fun c0t => ?_)
   ·replace h := h.1 c0t
    refine a6 (m1 _) ?_
    refine a6 y6 ?_
    refine u1 I Tryd.sizeOf3 (vs := [(vi 32)]) (cs' := [(vi x0.fn), (vi x0.fdepth), (vi 32)]) rfl rfl (nb rfl) rfl rfl fun w_4 I_5 k_6 => ?_
    exact hR false (b7.mk x0.fn x0.fdepth 32) H _ I_5 h
   ·replace h := h.2 c0t
    refine a6 (m1 _) ?_
    refine a6 b5h ?_
    refine c5 (ld1 Tryd.isAgg3 (I.at1 (o := 0) (vs := [(vi x0.fn)]) (nb rfl) rfl)) ?_
    refine a6 (o4 _ _ _ _ _ _) ?_
    refine a6 (m1 _) ?_
    refine a6 b5h ?_
    refine u1 I Tryd.sizeOf3 (vs := [(vi (IntKind.wrap .i64 (x0.fn + 1)))]) (cs' := [(vi (IntKind.wrap .i64 (x0.fn + 1))), (vi x0.fdepth), (vi x0.fbad)]) rfl rfl (nb rfl) rfl rfl fun w_7 I_8 k_9 => ?_
    refine a6 (m1 _) ?_
    refine a6 c1d ?_
    refine c5 (ld1 Tryd.isAgg3 (I_8.at1 (o := 1) (vs := [(vi x0.fdepth)]) (nb rfl) rfl)) ?_
    refine a6 (d6A _ _ _ _ _) ?_
    refine a6 (m1 _) ?_
    refine a6 c1d ?_
    refine u1 I_8 Tryd.sizeOf3 (vs := [(vi (if x1 > x0.fdepth then x1 else x0.fdepth))]) (cs' := [(vi (IntKind.wrap .i64 (x0.fn + 1))), (vi (if x1 > x0.fdepth then x1 else x0.fdepth)), (vi x0.fbad)]) rfl rfl (nb rfl) rfl rfl fun o2 a5z b7M => ?_
    exact hR true (b7.mk (IntKind.wrap .i64 (x0.fn + 1)) (if x1 > x0.fdepth then x1 else x0.fdepth) x0.fbad) H _ a5z h
theorem a9w (x0 : b7) (x1 : Int) {H : Hp} {K : Bool → b7 → Hp → Prop} (h : X3 x0 x1 H K) : L4 x0 x1 H K := by
 intro g0 w I
 refine f2b ?_
 refine a9e x0 x1 g0 I (fun r0 y0 H' w' I' hk => ⟨H', _, I', r0, y0, rfl, rfl, hk⟩) h
def X4 (cr_11j2 : b7) (_cr_6j2 : b7) (_cr_1j2 : i7) (H : Hp) (K : b7 → Hp → Prop) : Prop :=
 K cr_11j2 H
def X5 (cr_1l3 : i7) (a0R : Int) (cr_11l3 : b7) (cr_6l3 : b7) (H : Hp) (n3 : (Int × b7 × b7) → Hp → Prop) (K : b7 → Hp → Prop) : Prop :=
 (((decide (a0R < (cr_1l3.Z8.n : Int))) && (decide (cr_11l3.fbad = 0))) = true →
 (0 : Int) ≤ a0R ∧ (a0R : Int) < cr_1l3.Z8.n ∧ ∃ b6b : l9, EltH H cr_1l3.Z8 a0R 6 (d8 b6b) ∧
 P4 cr_11l3 b6b 1 H (fun (b6c : b7) (c0u : Hp) =>
 n3 ((IntKind.wrap .i64 (a0R + 1)), b6c, cr_6l3) c0u)) ∧
 (((decide (a0R < (cr_1l3.Z8.n : Int))) && (decide (cr_11l3.fbad = 0))) = false →
 X4 cr_11l3 cr_6l3 cr_1l3 H K)
def X6 (cr_11j1 : b7) (cr_6j1 : b7) (cr_1j1 : i7) (H : Hp) (K : b7 → Hp → Prop) : Prop :=
 TL ((0, cr_11j1, cr_6j1) : Int × b7 × b7) H fun (s : Int × b7 × b7) H n3 => X5 cr_1j1 s.1 s.2.1 s.2.2 H n3 K
def X7 (cr_1l4 : i7) (b0S : Int) (cr_11l4 : b7) (cr_6l4 : b7) (H : Hp) (n4 : (Int × b7 × b7) → Hp → Prop) (K : b7 → Hp → Prop) : Prop :=
 (((decide (b0S < (cr_1l4.s8.n : Int))) && (decide (cr_11l4.fbad = 0))) = true →
 L4 cr_11l4 1 H (fun (_r0_98 : Bool) (d3m : b7) (e0v : Hp) =>
 n4 ((IntKind.wrap .i64 (b0S + 1)), d3m, cr_6l4) e0v)) ∧
 (((decide (b0S < (cr_1l4.s8.n : Int))) && (decide (cr_11l4.fbad = 0))) = false →
 X6 cr_11l4 cr_6l4 cr_1l4 H K)
def a1d (x0 : i7) (H : Hp) (K : b7 → Hp → Prop) : Prop :=
 TL ((0, (b7.mk 0 0 0), (b7.mk 0 0 0)) : Int × b7 × b7) H fun (s : Int × b7 × b7) H n4 => X7 x0 s.1 s.2.1 s.2.2 H n4 K
theorem b0H (x0 : i7) {w0 w : World} {ps0 : Nat → Prop} {H0 H : Hp} {K : b7 → Hp → Prop} {R : Value → World → Prop} {E : Pan} (I : Inv w0 ps0 H0 H [] w) (hR : ∀ (r0 : b7) (H' : Hp) (w' : World) (_ : Inv w0 ps0 H0 H' [] w') (_ : K r0 H'), R (Value.agg (d7 r0).toArray) w') (h : a1d x0 H K) : F63 (Value.agg (d5 x0).toArray) w R E := by
 unfold a1d at h
 unfold F63
 refine K2 I (cs := (d5 x0)) rfl fun g_2 w_3 I_4 k_5 => ?_
 refine L8 I_4 Tryd.zeroValue99 (cs := [(vi 0), (vi 0), (vi 0)]) rfl fun g_7 w_8 I_9 d2v => ?_
 refine a6 (d6G ) ?_
 refine L8 I_9 Tryd.zeroValue99 (cs := [(vi 0), (vi 0), (vi 0)]) rfl fun b4h a0b a3N c3r => ?_
 refine u1 a3N Tryd.sizeOf99 (vs := [(vi 0), (vi 0), (vi 0)]) (cs' := [(vi 0), (vi 0), (vi 0)]) rfl rfl (nb rfl) rfl rfl fun p9 b0a d3l => ?_
 have hj1 : ∀ (cr_11j1 : b7) (cr_6j1 : b7) (H : Hp) (w : World) (_ : Inv w0 ps0 H0 H [bx b4h 99 (d7 cr_11j1), bx g_7 99 (d7 cr_6j1), bx g_2 25 (d5 x0)] w) (_ : X6 cr_11j1 cr_6j1 x0 H K), c6i (Value.pointer (some ⟨g_2, 0, none⟩)) (Value.pointer (some ⟨g_7, 0, none⟩)) (Value.pointer (some ⟨b4h, 0, none⟩)) w R E := by
  intro cr_11j1 cr_6j1 H w I h
  unfold c6i
  intro _
  unfold X6 at h
  have hj2 : ∀ (cr_11j2 : b7) (cr_6j2 : b7) (H : Hp) (w : World) (_ : Inv w0 ps0 H0 H [bx b4h 99 (d7 cr_11j2), bx g_7 99 (d7 cr_6j2), bx g_2 25 (d5 x0)] w) (_ : X4 cr_11j2 cr_6j2 x0 H K), c6h (Value.pointer (some ⟨g_7, 0, none⟩)) (Value.pointer (some ⟨b4h, 0, none⟩)) w R E := by
   intro cr_11j2 cr_6j2 H w I h
   unfold c6h
   intro _
   unfold X4 at h
   refine c5 (ldA Tryd.isAgg99 Tryd.sizeOf99 rfl (I.at1 (o := 0) (vs := (d7 cr_11j2)) (nb rfl) rfl)) ?_
   refine u1 (I.bring 1) Tryd.sizeOf99 (vs := (d7 cr_11j2)) (cs' := (d7 cr_11j2)) rfl rfl (nb rfl) rfl rfl fun E4 b2G f6n => ?_
   refine e4O Tryd.isAgg99 Tryd.sizeOf99 rfl (b2G.at1 (o := 0) (vs := (d7 cr_11j2)) (nb rfl) rfl) ?_
   exact hR cr_11j2 H _ b2G.drop.drop.drop h
  refine o3 fun j2 hx2 => ?_
  obtain ⟨c0v, b2U, e0w, e0x⟩ := h
  refine t6 (J := fun n l w => ∃ (s : Int × b7 × b7) (H : Hp) , n = b2U s ∧ l = (match s with | (a0R, cr_11l3, cr_6l3) => [(vi a0R)]) ∧ (match s with | (a0R, cr_11l3, cr_6l3) => Inv w0 ps0 H0 H [bx b4h 99 (d7 cr_11l3), bx g_7 99 (d7 cr_6l3), bx g_2 25 (d5 x0)] w) ∧ c0v s H) ⟨_, (0, cr_11j1, cr_6j1), H, rfl, rfl, (((I.bring 2).bring 2).bring 2), e0w⟩ ?_
  rintro h1V τ_78 w next3 ⟨⟨a0R, cr_11l3, cr_6l3⟩, H, rfl, a8M, I, e0y⟩ hn3
  dsimp only at a8M I
  simp only [List.map_cons, List.map_nil, List.cons.injEq, and_true] at a8M
  have e5 := a8M
  simp only [e5]
  obtain ⟨n3, hm3, h⟩ : ∃ n3 : (Int × b7 × b7) → Hp → Prop, (∀ s' H', n3 s' H' → c0v s' H' ∧ b2U s' < b2U (a0R, cr_11l3, cr_6l3)) ∧ X5 x0 a0R cr_11l3 cr_6l3 H n3 K := ⟨_, fun _ _ h => h, e0x (a0R, cr_11l3, cr_6l3) H (fun s' H' => c0v s' H' ∧ b2U s' < b2U (a0R, cr_11l3, cr_6l3)) e0y (fun _ _ a b => ⟨a, b⟩)⟩
  unfold d6O
  unfold X5 at h
  refine a6 a5H ?_
  refine c5 (ld1 Tryd.isAgg23 ((I.bring 2).at1 (o := 1) (vs := [(vs x0.Z8)]) (nb rfl) rfl)) ?_
  refine a6 (M5 _ _ _) ?_
  refine a6 (p6 _ _ _ _ _ _) ?_
  refine a6 (Pu.g fun hb => by have a7 := hb; first | exact y6 | (simp only [b8 a7, a8 a7, a8 hb, r9 a7]; exact y6) | (simp only [b8 a7, a8 a7, a8 hb, d9 a7, h7]; exact y6)) ?_
  refine c5 (Ld.g fun hb => by have a7 := hb; first | exact (ld1 Tryd.isAgg3 (I.at1 (o := 2) (vs := [(vi cr_11l3.fbad)]) (nb rfl) rfl)) | (simp only [a8 a7]; exact (ld1 Tryd.isAgg3 (I.at1 (o := 2) (vs := [(vi cr_11l3.fbad)]) (nb rfl) rfl))) | (simp only [b8 a7, a8 a7, a8 hb, d9 a7, h7]; exact (ld1 Tryd.isAgg3 (I.at1 (o := 2) (vs := [(vi cr_11l3.fbad)]) (nb rfl) rfl)))) ?_
  refine a6 (Pu.g fun hb => by have a7 := hb; first | exact (c8 _ _ _ _ _ _) | (simp only [a8 a7]; exact (c8 _ _ _ _ _ _)) | (simp only [b8 a7, a8 a7, a8 hb, d9 a7, h7]; exact (c8 _ _ _ _ _ _))) ?_
  refine a6 (p1 _ _) ?_
  refine m5 (fun a6c => ?_) (fun a6c => ?_)
  ·replace h := h.1 a6c
   refine a6 a5H ?_
   refine c5 (ld1 Tryd.isAgg23 ((I.bring 2).at1 (o := 1) (vs := [(vs x0.Z8)]) (nb rfl) rfl)) ?_
   obtain ⟨e0z, e0A, b6b, a7B, h⟩ := h
   obtain ⟨h1W, h1X, b4i, a7B⟩ := a7B
   refine a6 (a5J b4i _ _ _ _ e0z e0A) ?_
   refine c5 (ldA (vs := (d8 b6b)) Tryd.isAgg88 Tryd.sizeOf88 rfl (I.atH a7B)) ?_
   refine f7 (cap := []) (fun args w => Tryd.call92 args w) ?_
   refine m2 (Fi := [bx b4h 99 (d7 cr_11l3)]) (Fr := [bx g_7 99 (d7 cr_6l3), bx g_2 25 (d5 x0)]) I (h b4h) (fun h1Y c0u h1Z Q2 e0B d3h h2a e0C => ?_) (fun _ _ _ _ _ q => q.elim)
   obtain ⟨b6c, rfl, rfl, h⟩ := e0C
   refine a6 (o4 _ _ _ _ _ _) ?_
   exact hn3 _ _ _ (hm3 _ _ h).2 ⟨((IntKind.wrap .i64 (a0R + 1)), b6c, cr_6l3), c0u, rfl, rfl, (((e0B.bring 2).bring 2).bring 2), (hm3 _ _ h).1⟩
  ·replace h := h.2 a6c
   exact hx2 _ _ (hj2 cr_11l3 cr_6l3 H _ (((I.bring 2).bring 2).bring 2) h)
 refine o3 fun j1 hx1 => ?_
 obtain ⟨b6d, a9f, d3n, d3o⟩ := h
 refine t6 (J := fun n l w => ∃ (s : Int × b7 × b7) (H : Hp) , n = a9f s ∧ l = (match s with | (b0S, cr_11l4, cr_6l4) => [(vi b0S)]) ∧ (match s with | (b0S, cr_11l4, cr_6l4) => Inv w0 ps0 H0 H [bx b4h 99 (d7 cr_11l4), bx g_7 99 (d7 cr_6l4), bx g_2 25 (d5 x0)] w) ∧ b6d s H) ⟨_, (0, (b7.mk 0 0 0), (b7.mk 0 0 0)), H, rfl, rfl, (((b0a.bring 2).bring 2).bring 2), d3n⟩ ?_
 rintro g6S τ_105 w next4 ⟨⟨b0S, cr_11l4, cr_6l4⟩, H, rfl, b6e, I, d3p⟩ hn4
 dsimp only at b6e I
 simp only [List.map_cons, List.map_nil, List.cons.injEq, and_true] at b6e
 have e4 := b6e
 simp only [e4]
 obtain ⟨n4, hm4, h⟩ : ∃ n4 : (Int × b7 × b7) → Hp → Prop, (∀ s' H', n4 s' H' → b6d s' H' ∧ a9f s' < a9f (b0S, cr_11l4, cr_6l4)) ∧ X7 x0 b0S cr_11l4 cr_6l4 H n4 K := ⟨_, fun _ _ h => h, d3o (b0S, cr_11l4, cr_6l4) H (fun s' H' => b6d s' H' ∧ a9f s' < a9f (b0S, cr_11l4, cr_6l4)) d3p (fun _ _ a b => ⟨a, b⟩)⟩
 unfold d6P
 unfold X7 at h
 refine a6 F7 ?_
 refine c5 (ld1 Tryd.isAgg22 ((I.bring 2).at1 (o := 0) (vs := [(vs x0.s8)]) (nb rfl) rfl)) ?_
 refine a6 (Z6 _ _ _) ?_
 refine a6 (p6 _ _ _ _ _ _) ?_
 refine a6 (Pu.g fun hb => by have a7 := hb; first | exact y6 | (simp only [b8 a7, a8 a7, a8 hb, r9 a7]; exact y6) | (simp only [b8 a7, a8 a7, a8 hb, d9 a7, h7]; exact y6)) ?_
 refine c5 (Ld.g fun hb => by have a7 := hb; first | exact (ld1 Tryd.isAgg3 (I.at1 (o := 2) (vs := [(vi cr_11l4.fbad)]) (nb rfl) rfl)) | (simp only [a8 a7]; exact (ld1 Tryd.isAgg3 (I.at1 (o := 2) (vs := [(vi cr_11l4.fbad)]) (nb rfl) rfl))) | (simp only [b8 a7, a8 a7, a8 hb, d9 a7, h7]; exact (ld1 Tryd.isAgg3 (I.at1 (o := 2) (vs := [(vi cr_11l4.fbad)]) (nb rfl) rfl)))) ?_
 refine a6 (Pu.g fun hb => by have a7 := hb; first | exact (c8 _ _ _ _ _ _) | (simp only [a8 a7]; exact (c8 _ _ _ _ _ _)) | (simp only [b8 a7, a8 a7, a8 hb, d9 a7, h7]; exact (c8 _ _ _ _ _ _))) ?_
 refine a6 (p1 _ _) ?_
 refine m5 (fun c0w => ?_) (fun c0w => ?_)
 ·replace h := h.1 c0w
  refine f7 (cap := []) (fun args w => Tryd.call91 args w) ?_
  refine m2 (Fi := [bx b4h 99 (d7 cr_11l4)]) (Fr := [bx g_7 99 (d7 cr_6l4), bx g_2 25 (d5 x0)]) I (h b4h) (fun h8j e0v h2b h2c c3N f4o h8k h2d => ?_) (fun _ _ _ _ _ q => q.elim)
  obtain ⟨h5f, d3m, rfl, rfl, h⟩ := h2d
  refine a6 (o4 _ _ _ _ _ _) ?_
  exact hn4 _ _ _ (hm4 _ _ h).2 ⟨((IntKind.wrap .i64 (b0S + 1)), d3m, cr_6l4), e0v, rfl, rfl, (((c3N.bring 2).bring 2).bring 2), (hm4 _ _ h).1⟩
 ·replace h := h.2 c0w
  exact hx1 _ _ (hj1 cr_11l4 cr_6l4 H _ (((I.bring 2).bring 2).bring 2) h)
theorem b0T (x0 : i7) {H : Hp} {K : b7 → Hp → Prop} (h : a1d x0 H K) : a3p x0 H K := by
 intro w I
 refine f1e ?_
 refine b0H x0 I (fun r0 H' w' I' hk => ⟨H', _, I', r0, rfl, rfl, hk⟩) h
def a3T (x0 : m7) (H : Hp) (K : c7 → Hp → Prop) : Prop :=
 K (c7.F0 (J5.mk x0)) H
theorem b4L (x0 : m7) {w0 w : World} {ps0 : Nat → Prop} {H0 H : Hp} {K : c7 → Hp → Prop} {R : Value → World → Prop} {E : Pan} (I : Inv w0 ps0 H0 H [] w) (hR : ∀ (r0 : c7) (H' : Hp) (w' : World) (_ : Inv w0 ps0 H0 H' [] w') (_ : K r0 H'), R (A6 r0) w') (h : a3T x0 H K) : d2k (Value.agg (f6 x0).toArray) w R E := by
 unfold a3T at h
 unfold d2k
 refine K2 I (cs := (f6 x0)) rfl fun g_2 w_3 I_4 k_5 => ?_
 refine c5 (ldA Tryd.isAgg30 Tryd.sizeOf30 rfl (I_4.at1 (o := 0) (vs := (f6 x0)) (nb rfl) rfl)) ?_
 refine a6 (d0r _ _ _ _ _ _) ?_
 refine a6 (b6O (J5.mk x0)) ?_
 exact hR (c7.F0 (J5.mk x0)) H _ I_4.drop h
theorem b6f (x0 : m7) {H : Hp} {K : c7 → Hp → Prop} (h : a3T x0 H K) : a8P x0 H K := by
 intro w I
 refine e6f ?_
 refine b4L x0 I (fun r0 H' w' I' hk => ⟨H', _, I', r0, rfl, rfl, hk⟩) h
def a1S (x0 : J5) (H : Hp) (K : Sl → Hp → Prop) : Prop :=
 v7 x0.m9.u6 H (fun (u4 : Sl) (H_6 : Hp) =>
 K u4 H_6)
theorem b1r (x0 : J5) {w0 w : World} {ps0 : Nat → Prop} {H0 H : Hp} {K : Sl → Hp → Prop} {R : Value → World → Prop} {E : Pan} (I : Inv w0 ps0 H0 H [] w) (hR : ∀ (r0 : Sl) (H' : Hp) (w' : World) (_ : Inv w0 ps0 H0 H' [] w') (_ : K r0 H'), R (vs r0) w') (h : a1S x0 H K) : d2i (Value.agg (f6 x0.m9).toArray) w R E := by
 unfold a1S at h
 unfold d2i
 refine K2 I (cs := (f6 x0.m9)) rfl fun g_2 w_3 I_4 k_5 => ?_
 refine a6 O0 ?_
 refine a6 a0U ?_
 refine c5 (ld1 Tryd.isAgg28 (I_4.at1 (o := 3) (vs := [(vs x0.m9.u6)]) (nb rfl) rfl)) ?_
 refine f7 (cap := []) (fun args w => Tryd.call150 args w) ?_
 refine m2 (Fi := []) (Fr := [bx g_2 96 (f6 x0.m9)]) I_4 (h) (fun a8X H_6 a8Y w_7 I_8 a8Z k_9 a1P => ?_) (fun _ _ _ _ _ q => q.elim)
 obtain ⟨u4, rfl, rfl, h⟩ := a1P
 exact hR u4 H_6 _ I_8.drop h
theorem b2V (x0 : J5) {H : Hp} {K : Sl → Hp → Prop} (h : a1S x0 H K) : a6T x0 H K := by
 intro w I
 refine e6b ?_
 refine b1r x0 I (fun r0 H' w' I' hk => ⟨H', _, I', r0, rfl, rfl, hk⟩) h
end Go.Proofs.YthldnpmfelniiaaDoor
