/- Typed formulas of the program's functions, and the theorems that the contracts follow from them; printed by lift.py off the code. -/
import Derived.Test.YthldnpmfelniiaaDoorCV1
namespace Go.Proofs.YthldnpmfelniiaaDoor
open Go.RowKit
set_option maxRecDepth 100000
set_option maxHeartbeats 2000000
def a3m (x0 : i4) (H : Hp) (K : c8 → Hp → Prop) : Prop :=
 K (c8.F8 (M5.mk x0)) H
theorem b3B (x0 : i4) {w0 w : World} {ps0 : Nat → Prop} {H0 H : Hp} {K : c8 → Hp → Prop} {R : Value → World → Prop} {E : Pan} (I : Inv w0 ps0 H0 H [] w) (hR : ∀ (r0 : c8) (H' : Hp) (w' : World) (_ : Inv w0 ps0 H0 H' [] w') (_ : K r0 H'), R (y7 r0) w') (h : a3m x0 H K) : F98 (Value.agg (d5 x0).toArray) w R E := by
 unfold a3m at h
 unfold F98
 refine G7 I (cs := (d5 x0)) rfl fun g_2 w_3 I_4 k_5 => ?_
 refine c7 (ldA Tryd.isAgg88 Tryd.sizeOf88 rfl (I_4.at1 (o := 0) (vs := (d5 x0)) (nb rfl) rfl)) ?_
 refine a7 (c3A _ _ _ _ _ _ _ _ _ _ _ _ _ _) ?_
 refine a7 (c1a (M5.mk x0)) ?_
 exact hR (c8.F8 (M5.mk x0)) H _ I_4.drop h
theorem b4J (x0 : i4) {H : Hp} {K : c8 → Hp → Prop} (h : a3m x0 H K) : a7R x0 H K := by
 intro w I
 refine e8b ?_
 refine b3B x0 I (fun r0 H' w' I' hk => ⟨H', _, I', r0, rfl, rfl, hk⟩) h
def A0 (a1l : (List c8)) (H : Hp) (K : Sl → Hp → Prop) : Prop :=
 ∀ (I4 : Sl) (a1V : Hp), Hle H a1V → SlH a1V 1 o8 I4 a1l → I4.n ≤ I4.c →
 K I4 a1V
def A4 (a2V : Sl) (a7W : Int) (w3 : (List c8)) (t8 : Int) (H : Hp) (n2 : ((List c8) × Int) → Hp → Prop) (K : Sl → Hp → Prop) : Prop :=
 (t8 < a7W →
 (0 : Int) ≤ t8 ∧ (t8 : Int) < a2V.n ∧ ∃ x_1 : i4, EltH H a2V t8 6 (d5 x_1) ∧
 a7R x_1 H (fun (W1 : c8) (a1W : Hp) =>
 (w3.length + ([W1] : List c8).length) * 17 ≤ 140737488355328 ∧
 n2 ((w3 ++ [W1]), (IntKind.wrap .i64 (t8 + 1))) a1W)) ∧
 (¬ (t8 < a7W) →
 A0 w3 H K)
def B6 (x0 : Sl) (H : Hp) (K : Sl → Hp → Prop) : Prop :=
 TL (([], 0) : (List c8) × Int) H fun (s : (List c8) × Int) H n2 => A4 x0 (x0.n : Int) s.1 s.2 H n2 K
theorem a1O (x0 : Sl) {w0 w : World} {ps0 : Nat → Prop} {H0 H : Hp} {K : Sl → Hp → Prop} {R : Value → World → Prop} {E : Pan} (I : Inv w0 ps0 H0 H [] w) (hR : ∀ (r0 : Sl) (H' : Hp) (w' : World) (_ : Inv w0 ps0 H0 H' [] w') (_ : K r0 H'), R (vs r0) w') (h : B6 x0 H K) : F97 (vs x0) (Value.func (.func 98) #[] #[]) w R E := by
 unfold B6 at h
 unfold F97
 have hj1 : ∀ (a1l : (List c8)) (I4 : Sl) (Fs5j1 : Frag) (H : Hp) (w : World) (_ : RowL 141 1 o8 I4 a1l Fs5j1) (_ : Inv w0 ps0 H0 H [Fs5j1] w) (_ : A0 a1l H K), c4t (vs I4) w R E := by
  intro a1l I4 Fs5j1 H w b4r I h
  unfold c4t
  intro _
  unfold A0 at h
  obtain ⟨a1V, a4t, b6E, b8r, b1C⟩ := Inv.freezeC I b4r (by decide)
  replace h := h I4 a1V b6E b8r b1C
  exact hR I4 a1V _ a4t h
 refine p9 fun j1 hx1 => ?_
 refine a7 (K2 _ _ _) ?_
 obtain ⟨a6V, a3B, b8s, a4u⟩ := h
 refine v6 (J := fun n l w => ∃ (s : (List c8) × Int) (H : Hp) (a1m : Sl) (Fs5l2 : Frag) , n = a3B s ∧ l = (match s with | (w3, t8) => [(vs a1m), (vi t8)]) ∧ (match s with | (w3, t8) => RowL 141 1 o8 a1m w3 Fs5l2) ∧ (match s with | (w3, t8) => Inv w0 ps0 H0 H [Fs5l2] w) ∧ a6V s H) ⟨_, ([], 0), H, (Sl.mk none 0 0), [], rfl, rfl, (RowL.nil L6 P5), I.nil, b8s⟩ ?_
 rintro d5j τ_50 w next2 ⟨⟨w3, t8⟩, H, a1m, Fs5l2, rfl, a6W, a5k, I, b8t⟩ hn2
 dsimp only at a6W I a5k
 simp only [List.map_cons, List.map_nil, List.cons.injEq, and_true] at a6W
 obtain ⟨e5, e10⟩ := a6W
 simp only [e5, e10]
 obtain ⟨n2, hm2, h⟩ : ∃ n2 : ((List c8) × Int) → Hp → Prop, (∀ s' H', n2 s' H' → a6V s' H' ∧ a3B s' < a3B (w3, t8)) ∧ A4 x0 (x0.n : Int) w3 t8 H n2 K := ⟨_, fun _ _ h => h, a4u (w3, t8) H (fun s' H' => a6V s' H' ∧ a3B s' < a3B (w3, t8)) b8t (fun _ _ a b => ⟨a, b⟩)⟩
 unfold d3i
 unfold A4 at h
 refine a7 (r8 _ _ _ _ _ _) ?_
 refine g9 (fun a5l => ?_) (fun a5l => ?_)
 ·replace h := h.1 a5l
  obtain ⟨h_4, h_5, x_1, h_7, h⟩ := h
  obtain ⟨g_2, o_3, h_6, h_7⟩ := h_7
  refine a7 (a4q h_6 _ _ _ _ h_4 h_5) ?_
  refine c7 (ldA (vs := (d5 x_1)) Tryd.isAgg88 Tryd.sizeOf88 rfl (I.atH h_7)) ?_
  refine L5 I Tryd.zeroValue88 (cs := [(vi 0), (Value.string ⟨#[]⟩), (Value.slice none 0 0), (Value.slice none 0 0), (Value.slice none 0 0), (Value.slice none 0 0)]) rfl fun g_9 m1 a0Y a8S => ?_
  refine u1 a0Y Tryd.sizeOf88 (vs := (d5 x_1)) (cs' := (d5 x_1)) rfl rfl (nb rfl) rfl rfl fun V5 T2 b2T => ?_
  refine c7 (ldA Tryd.isAgg88 Tryd.sizeOf88 rfl (T2.at1 (o := 0) (vs := (d5 x_1)) (nb rfl) rfl)) ?_
  refine f8 (cap := []) (fun args w => Tryd.call98 args w) ?_
  refine i6 (Fi := []) (Fr := [bx g_9 88 (d5 x_1), Fs5l2]) T2 (h) (fun c9B a1W c9C a5c a4v c9D c1C b4s => ?_) (fun _ _ _ _ _ q => q.elim)
  obtain ⟨W1, rfl, rfl, h⟩ := b4s
  refine a6l (e := 141) (c := o8) (xs := [W1]) a4v (b3l _) rfl rfl L6 P5 (nb rfl) fun b4t b8u v8 b1D a4s b6C => ?_
  obtain ⟨b4u, h⟩ := h
  refine b5M (s := a1m) (xs := w3) (a4s.bring 2) a5k (b1D.srcO ((a4s.bring 2).bring 1)) b4u fun b8v b4q A8 a8U a9Q c9E => ?_
  refine a7 (q8 _ _ _ _ _ _) ?_
  exact hn2 _ _ _ (hm2 _ _ h).2 ⟨((w3 ++ [W1]), (IntKind.wrap .i64 (t8 + 1))), a1W, b8v, b4q, rfl, rfl, a8U, ((a9Q.bring 1).drop.bring 1).drop, (hm2 _ _ h).1⟩
 ·replace h := h.2 a5l
  exact hx1 _ _ (hj1 w3 a1m Fs5l2 H _ a5k I h)
theorem a2b (x0 : Sl) {H : Hp} {K : Sl → Hp → Prop} (h : B6 x0 H K) : u2 x0 H K := by
 intro w I
 refine e7Z ?_
 refine a1O x0 I (fun r0 H' w' I' hk => ⟨H', _, I', r0, rfl, rfl, hk⟩) h
def C4 (b7q : Bool) (_cr_1j4 : Int) (H : Hp) (K : Int → Hp → Prop) : Prop :=
 (b7q = true →
 K 3 H) ∧
 (b7q = false →
 K 6 H)
def N8 (b7r : Bool) (cr_1j3 : Int) (H : Hp) (K : Int → Hp → Prop) : Prop :=
 (b7r = true →
 K 6 H) ∧
 (b7r = false →
 J8 48 57 cr_1j3 H (fun (o0 : Bool) (H_6 : Hp) =>
 (o0 = true →
 K 4 H_6) ∧
 (o0 = false →
 (cr_1j3 = 95 →
 C4 (decide (cr_1j3 = 95)) cr_1j3 H_6 K) ∧
 (¬ (cr_1j3 = 95) →
 J8 97 122 cr_1j3 H_6 (fun (W1 : Bool) (a1W : Hp) =>
 (W1 = true →
 C4 W1 cr_1j3 a1W K) ∧
 (W1 = false →
 J8 65 90 cr_1j3 a1W (fun (c0f : Bool) (d0g : Hp) =>
 (c0f = true →
 C4 c0f cr_1j3 d0g K) ∧
 (c0f = false →
 J8 192 591 cr_1j3 d0g (fun (c0g : Bool) (d0h : Hp) =>
 (c0g = true →
 C4 c0g cr_1j3 d0h K) ∧
 (c0g = false →
 J8 913 969 cr_1j3 d0h (fun (a5o : Bool) (a6s : Hp) =>
 (a5o = true →
 C4 a5o cr_1j3 a6s K) ∧
 (a5o = false →
 J8 1040 1103 cr_1j3 a6s (fun (d0i : Bool) (d5M : Hp) =>
 C4 d0i cr_1j3 d5M K)))))))))))))
def m2 (b4K : Int) (b7s : Bool) (cr_1j2 : Int) (H : Hp) (K : Int → Hp → Prop) : Prop :=
 (b7s = true →
 K 5 H) ∧
 (b7s = false →
 (b4K = 215 →
 N8 (decide (b4K = 215)) cr_1j2 H K) ∧
 (¬ (b4K = 215) →
 (b4K = 247 →
 N8 (decide (b4K = 247)) cr_1j2 H K) ∧
 (¬ (b4K = 247) →
 N8 (decide (b4K = 930)) cr_1j2 H K)))
def N9 (o4 : Int) (a0Z : Bool) (cr_1j1 : Int) (H : Hp) (K : Int → Hp → Prop) : Prop :=
 (a0Z = true →
 K 1 H) ∧
 (a0Z = false →
 (o4 = 10 →
 K 2 H) ∧
 (¬ (o4 = 10) →
 (o4 = 59 →
 m2 o4 (decide (o4 = 59)) cr_1j1 H K) ∧
 (¬ (o4 = 59) →
 (o4 = 44 →
 m2 o4 (decide (o4 = 44)) cr_1j1 H K) ∧
 (¬ (o4 = 44) →
 (o4 = 123 →
 m2 o4 (decide (o4 = 123)) cr_1j1 H K) ∧
 (¬ (o4 = 123) →
 (o4 = 125 →
 m2 o4 (decide (o4 = 125)) cr_1j1 H K) ∧
 (¬ (o4 = 125) →
 (o4 = 40 →
 m2 o4 (decide (o4 = 40)) cr_1j1 H K) ∧
 (¬ (o4 = 40) →
 (o4 = 41 →
 m2 o4 (decide (o4 = 41)) cr_1j1 H K) ∧
 (¬ (o4 = 41) →
 (o4 = 91 →
 m2 o4 (decide (o4 = 91)) cr_1j1 H K) ∧
 (¬ (o4 = 91) →
 (o4 = 93 →
 m2 o4 (decide (o4 = 93)) cr_1j1 H K) ∧
 (¬ (o4 = 93) →
 (o4 = 61 →
 m2 o4 (decide (o4 = 61)) cr_1j1 H K) ∧
 (¬ (o4 = 61) →
 (o4 = 33 →
 m2 o4 (decide (o4 = 33)) cr_1j1 H K) ∧
 (¬ (o4 = 33) →
 (o4 = 60 →
 m2 o4 (decide (o4 = 60)) cr_1j1 H K) ∧
 (¬ (o4 = 60) →
 (o4 = 62 →
 m2 o4 (decide (o4 = 62)) cr_1j1 H K) ∧
 (¬ (o4 = 62) →
 (o4 = 43 →
 m2 o4 (decide (o4 = 43)) cr_1j1 H K) ∧
 (¬ (o4 = 43) →
 (o4 = 45 →
 m2 o4 (decide (o4 = 45)) cr_1j1 H K) ∧
 (¬ (o4 = 45) →
 (o4 = 42 →
 m2 o4 (decide (o4 = 42)) cr_1j1 H K) ∧
 (¬ (o4 = 42) →
 (o4 = 47 →
 m2 o4 (decide (o4 = 47)) cr_1j1 H K) ∧
 (¬ (o4 = 47) →
 (o4 = 37 →
 m2 o4 (decide (o4 = 37)) cr_1j1 H K) ∧
 (¬ (o4 = 37) →
 (o4 = 38 →
 m2 o4 (decide (o4 = 38)) cr_1j1 H K) ∧
 (¬ (o4 = 38) →
 m2 o4 (decide (o4 = 124)) cr_1j1 H K))))))))))))))))))))
def a3J (x0 : Int) (H : Hp) (K : Int → Hp → Prop) : Prop :=
 (x0 = 32 →
 N9 x0 (decide (x0 = 32)) x0 H K) ∧
 (¬ (x0 = 32) →
 (x0 = 9 →
 N9 x0 (decide (x0 = 9)) x0 H K) ∧
 (¬ (x0 = 9) →
 N9 x0 (decide (x0 = 13)) x0 H K))
theorem b4L (x0 : Int) {w0 w : World} {ps0 : Nat → Prop} {H0 H : Hp} {K : Int → Hp → Prop} {R : Value → World → Prop} {E : Pan} (I : Inv w0 ps0 H0 H [] w) (hR : ∀ (r0 : Int) (H' : Hp) (w' : World) (_ : Inv w0 ps0 H0 H' [] w') (_ : K r0 H'), R (vi r0) w') (h : a3J x0 H K) : c9g (Value.int .i32 x0) w R E := by
 unfold a3J at h
 unfold c9g
 refine G7 I (cs := [(Value.int .i32 x0)]) rfl fun g_2 w_3 I_4 k_5 => ?_
 refine c7 (ld1 Tryd.isAgg21 (I_4.at1 (o := 0) (vs := [(Value.int .i32 x0)]) (nb rfl) rfl)) ?_
 have hj1 : ∀ (a0Z : Bool) (H : Hp) (w : World) (_ : Inv w0 ps0 H0 H [bx g_2 21 [(Value.int .i32 x0)]] w) (_ : N9 x0 a0Z x0 H K), c1j (Value.pointer (some ⟨g_2, 0, none⟩)) (Value.int .i32 x0) (Value.bool a0Z) w R E := by
  intro a0Z H w I h
  unfold c1j
  intro _
  unfold N9 at h
  refine k9 (fun b8L => ?_) (fun b8L => ?_)
  ·replace h := h.1 b8L
   exact hR 1 H _ I.drop h
  ·replace h := h.2 b8L
   refine a7 (d6 _ _ _ _ _ _) ?_
   refine g9 (fun b1S => ?_) (fun b1S => ?_)
   ·replace h := h.1 b1S
    exact hR 2 H _ I.drop h
   ·replace h := h.2 b1S
    have hj2 : ∀ (b7s : Bool) (H : Hp) (w : World) (_ : Inv w0 ps0 H0 H [bx g_2 21 [(Value.int .i32 x0)]] w) (_ : m2 x0 b7s x0 H K), c1i (Value.pointer (some ⟨g_2, 0, none⟩)) (Value.int .i32 x0) (Value.bool b7s) w R E := by
     intro b7s H w I h
     unfold c1i
     intro _
     unfold m2 at h
     refine k9 (fun d5N => ?_) (fun d5N => ?_)
     ·replace h := h.1 d5N
      exact hR 5 H _ I.drop h
     ·replace h := h.2 d5N
      have hj3 : ∀ (b7r : Bool) (H : Hp) (w : World) (_ : Inv w0 ps0 H0 H [bx g_2 21 [(Value.int .i32 x0)]] w) (_ : N8 b7r x0 H K), c1h (Value.pointer (some ⟨g_2, 0, none⟩)) (Value.bool b7r) w R E := by
       intro b7r H w I h
       unfold c1h
       intro _
       unfold N8 at h
       refine k9 (fun b8M => ?_) (fun b8M => ?_)
       ·replace h := h.1 b8M
        exact hR 6 H _ I.drop h
       ·replace h := h.2 b8M
        refine a7 (b7U _ _ _) ?_
        refine f8 (cap := [(Value.pointer (some ⟨g_2, 0, none⟩))]) (fun args w => Tryd.call131 args w) ?_
        refine i6 (Fi := [bx g_2 21 [(Value.int .i32 x0)]]) (Fr := []) I (h g_2) (fun a6Q H_6 a6q w_7 I_8 a6R k_9 a0J => ?_) (fun _ _ _ _ _ q => q.elim)
        obtain ⟨o0, rfl, rfl, h⟩ := a0J
        refine k9 (fun b8N => ?_) (fun b8N => ?_)
        ·replace h := h.1 b8N
         exact hR 4 H_6 _ I_8.drop h
        ·replace h := h.2 b8N
         have hj4 : ∀ (b7q : Bool) (H : Hp) (w : World) (_ : Inv w0 ps0 H0 H [bx g_2 21 [(Value.int .i32 x0)]] w) (_ : C4 b7q x0 H K), c1g (Value.bool b7q) w R E := by
          intro b7q H w I h
          unfold c1g
          intro _
          unfold C4 at h
          refine k9 (fun a5j => ?_) (fun a5j => ?_)
          ·replace h := h.1 a5j
           exact hR 3 H _ I.drop h
          ·replace h := h.2 a5j
           exact hR 6 H _ I.drop h
         refine p9 fun j4 hx4 => ?_
         refine c7 (ld1 Tryd.isAgg21 (I_8.at1 (o := 0) (vs := [(Value.int .i32 x0)]) (nb rfl) rfl)) ?_
         refine a7 (d6 _ _ _ _ _ _) ?_
         refine g9 (fun b8F => ?_) (fun b8F => ?_)
         ·replace h := h.1 b8F
          exact hx4 _ _ (hj4 (decide (x0 = 95)) H_6 _ I_8 h)
         ·replace h := h.2 b8F
          refine f8 (cap := [(Value.pointer (some ⟨g_2, 0, none⟩))]) (fun args w => Tryd.call131 args w) ?_
          refine i6 (Fi := [bx g_2 21 [(Value.int .i32 x0)]]) (Fr := []) I_8 (h g_2) (fun c9B a1W c9C a5c a4v c9D c1C b4s => ?_) (fun _ _ _ _ _ q => q.elim)
          obtain ⟨W1, rfl, rfl, h⟩ := b4s
          refine k9 (fun d5O => ?_) (fun d5O => ?_)
          ·replace h := h.1 d5O
           exact hx4 _ _ (hj4 W1 a1W _ a4v h)
          ·replace h := h.2 d5O
           refine f8 (cap := [(Value.pointer (some ⟨g_2, 0, none⟩))]) (fun args w => Tryd.call131 args w) ?_
           refine i6 (Fi := [bx g_2 21 [(Value.int .i32 x0)]]) (Fr := []) a4v (h g_2) (fun g7t d0g g7u u6 d0j g7v g2W g2X => ?_) (fun _ _ _ _ _ q => q.elim)
           obtain ⟨c0f, rfl, rfl, h⟩ := g2X
           refine k9 (fun d5P => ?_) (fun d5P => ?_)
           ·replace h := h.1 d5P
            exact hx4 _ _ (hj4 c0f d0g _ d0j h)
           ·replace h := h.2 d5P
            refine f8 (cap := [(Value.pointer (some ⟨g_2, 0, none⟩))]) (fun args w => Tryd.call131 args w) ?_
            refine i6 (Fi := [bx g_2 21 [(Value.int .i32 x0)]]) (Fr := []) d0j (h g_2) (fun g7w d0h g7x e5A a9Q b6E c9E g2Y => ?_) (fun _ _ _ _ _ q => q.elim)
            obtain ⟨c0g, rfl, rfl, h⟩ := g2Y
            refine k9 (fun d5Q => ?_) (fun d5Q => ?_)
            ·replace h := h.1 d5Q
             exact hx4 _ _ (hj4 c0g d0h _ a9Q h)
            ·replace h := h.2 d5Q
             refine f8 (cap := [(Value.pointer (some ⟨g_2, 0, none⟩))]) (fun args w => Tryd.call131 args w) ?_
             refine i6 (Fi := [bx g_2 21 [(Value.int .i32 x0)]]) (Fr := []) a9Q (h g_2) (fun g2x a6s g2y E5 b4F g2z f1o d5A => ?_) (fun _ _ _ _ _ q => q.elim)
             obtain ⟨a5o, rfl, rfl, h⟩ := d5A
             refine k9 (fun b8O => ?_) (fun b8O => ?_)
             ·replace h := h.1 b8O
              exact hx4 _ _ (hj4 a5o a6s _ b4F h)
             ·replace h := h.2 b8O
              refine f8 (cap := [(Value.pointer (some ⟨g_2, 0, none⟩))]) (fun args w => Tryd.call131 args w) ?_
              refine i6 (Fi := [bx g_2 21 [(Value.int .i32 x0)]]) (Fr := []) b4F (h g_2) (fun g7y d5M g7z e5H g2Z d0k g7A g3a => ?_) (fun _ _ _ _ _ q => q.elim)
              obtain ⟨d0i, rfl, rfl, h⟩ := g3a
              exact hx4 _ _ (hj4 d0i d5M _ g2Z h)
      refine p9 fun j3 hx3 => ?_
      refine a7 (d6 _ _ _ _ _ _) ?_
      refine g9 (fun b8B => ?_) (fun b8B => ?_)
      ·replace h := h.1 b8B
       exact hx3 _ _ (hj3 (decide (x0 = 215)) H _ I h)
      ·replace h := h.2 b8B
       refine a7 (d6 _ _ _ _ _ _) ?_
       refine g9 (fun b8P => ?_) (fun b8P => ?_)
       ·replace h := h.1 b8P
        exact hx3 _ _ (hj3 (decide (x0 = 247)) H _ I h)
       ·replace h := h.2 b8P
        refine a7 (d6 _ _ _ _ _ _) ?_
        exact hx3 _ _ (hj3 (decide (x0 = 930)) H _ I h)
    refine p9 fun j2 hx2 => ?_
    refine a7 (d6 _ _ _ _ _ _) ?_
    refine g9 (fun d5R => ?_) (fun d5R => ?_)
    ·replace h := h.1 d5R
     exact hx2 _ _ (hj2 (decide (x0 = 59)) H _ I h)
    ·replace h := h.2 d5R
     refine a7 (d6 _ _ _ _ _ _) ?_
     refine g9 (fun b8Q => ?_) (fun b8Q => ?_)
     ·replace h := h.1 b8Q
      exact hx2 _ _ (hj2 (decide (x0 = 44)) H _ I h)
     ·replace h := h.2 b8Q
      refine a7 (d6 _ _ _ _ _ _) ?_
      refine g9 (fun b8R => ?_) (fun b8R => ?_)
      ·replace h := h.1 b8R
       exact hx2 _ _ (hj2 (decide (x0 = 123)) H _ I h)
      ·replace h := h.2 b8R
       refine a7 (d6 _ _ _ _ _ _) ?_
       refine g9 (fun d5S => ?_) (fun d5S => ?_)
       ·replace h := h.1 d5S
        exact hx2 _ _ (hj2 (decide (x0 = 125)) H _ I h)
       ·replace h := h.2 d5S
        refine a7 (d6 _ _ _ _ _ _) ?_
        refine g9 (fun d5T => ?_) (fun d5T => ?_)
        ·replace h := h.1 d5T
         exact hx2 _ _ (hj2 (decide (x0 = 40)) H _ I h)
        ·replace h := h.2 d5T
         refine a7 (d6 _ _ _ _ _ _) ?_
         refine g9 (fun d5U => ?_) (fun d5U => ?_)
         ·replace h := h.1 d5U
          exact hx2 _ _ (hj2 (decide (x0 = 41)) H _ I h)
         ·replace h := h.2 d5U
          refine a7 (d6 _ _ _ _ _ _) ?_
          refine g9 (fun d5V => ?_) (fun d5V => ?_)
          ·replace h := h.1 d5V
           exact hx2 _ _ (hj2 (decide (x0 = 91)) H _ I h)
          ·replace h := h.2 d5V
           refine a7 (d6 _ _ _ _ _ _) ?_
           refine g9 (fun b8S => ?_) (fun b8S => ?_)
           ·replace h := h.1 b8S
            exact hx2 _ _ (hj2 (decide (x0 = 93)) H _ I h)
           ·replace h := h.2 b8S
            refine a7 (d6 _ _ _ _ _ _) ?_
            refine g9 (fun b1T => ?_) (fun b1T => ?_)
            ·replace h := h.1 b1T
             exact hx2 _ _ (hj2 (decide (x0 = 61)) H _ I h)
            ·replace h := h.2 b1T
             refine a7 (d6 _ _ _ _ _ _) ?_
             refine g9 (fun b8T => ?_) (fun b8T => ?_)
             ·replace h := h.1 b8T
              exact hx2 _ _ (hj2 (decide (x0 = 33)) H _ I h)
             ·replace h := h.2 b8T
              refine a7 (d6 _ _ _ _ _ _) ?_
              refine g9 (fun b8U => ?_) (fun b8U => ?_)
              ·replace h := h.1 b8U
               exact hx2 _ _ (hj2 (decide (x0 = 60)) H _ I h)
              ·replace h := h.2 b8U
               refine a7 (d6 _ _ _ _ _ _) ?_
               refine g9 (fun b8V => ?_) (fun b8V => ?_)
               ·replace h := h.1 b8V
                exact hx2 _ _ (hj2 (decide (x0 = 62)) H _ I h)
               ·replace h := h.2 b8V
                refine a7 (d6 _ _ _ _ _ _) ?_
                refine g9 (fun b8W => ?_) (fun b8W => ?_)
                ·replace h := h.1 b8W
                 exact hx2 _ _ (hj2 (decide (x0 = 43)) H _ I h)
                ·replace h := h.2 b8W
                 refine a7 (d6 _ _ _ _ _ _) ?_
                 refine g9 (fun b1J => ?_) (fun b1J => ?_)
                 ·replace h := h.1 b1J
                  exact hx2 _ _ (hj2 (decide (x0 = 45)) H _ I h)
                 ·replace h := h.2 b1J
                  refine a7 (d6 _ _ _ _ _ _) ?_
                  refine g9 (fun a6Z => ?_) (fun a6Z => ?_)
                  ·replace h := h.1 a6Z
                   exact hx2 _ _ (hj2 (decide (x0 = 42)) H _ I h)
                  ·replace h := h.2 a6Z
                   refine a7 (d6 _ _ _ _ _ _) ?_
                   refine g9 (fun b1U => ?_) (fun b1U => ?_)
                   ·replace h := h.1 b1U
                    exact hx2 _ _ (hj2 (decide (x0 = 47)) H _ I h)
                   ·replace h := h.2 b1U
                    refine a7 (d6 _ _ _ _ _ _) ?_
                    refine g9 (fun a5q => ?_) (fun a5q => ?_)
                    ·replace h := h.1 a5q
                     exact hx2 _ _ (hj2 (decide (x0 = 37)) H _ I h)
                    ·replace h := h.2 a5q
                     refine a7 (d6 _ _ _ _ _ _) ?_
                     refine g9 (fun b1K => ?_) (fun b1K => ?_)
                     ·replace h := h.1 b1K
                      exact hx2 _ _ (hj2 (decide (x0 = 38)) H _ I h)
                     ·replace h := h.2 b1K
                      refine a7 (d6 _ _ _ _ _ _) ?_
                      exact hx2 _ _ (hj2 (decide (x0 = 124)) H _ I h)
 refine p9 fun j1 hx1 => ?_
 refine a7 (d6 _ _ _ _ _ _) ?_
 refine g9 (fun d5W => ?_) (fun d5W => ?_)
 ·replace h := h.1 d5W
  exact hx1 _ _ (hj1 (decide (x0 = 32)) H _ I_4 h)
 ·replace h := h.2 d5W
  refine a7 (d6 _ _ _ _ _ _) ?_
  refine g9 (fun b8X => ?_) (fun b8X => ?_)
  ·replace h := h.1 b8X
   exact hx1 _ _ (hj1 (decide (x0 = 9)) H _ I_4 h)
  ·replace h := h.2 b8X
   refine a7 (d6 _ _ _ _ _ _) ?_
   exact hx1 _ _ (hj1 (decide (x0 = 13)) H _ I_4 h)
theorem b5z (x0 : Int) {H : Hp} {K : Int → Hp → Prop} (h : a3J x0 H K) : a3E x0 H K := by
 intro w I
 refine e0w ?_
 refine b4L x0 I (fun r0 H' w' I' hk => ⟨H', _, I', r0, rfl, rfl, hk⟩) h
def O0 (b3a : Int) (H : Hp) (K : Int → Hp → Prop) : Prop :=
 K b3a H
def O1 (jr_1l2 : ByteArray) (a8f : Int) (ir_1l2 : Nat) (H : Hp) (n2 : (Int × Nat) → Hp → Prop) (K : Int → Hp → Prop) : Prop :=
 (ir_1l2 < jr_1l2.size →
 n2 ((IntKind.wrap .i64 (a8f + 1)), (ir_1l2 + (Utf8.decode jr_1l2 ir_1l2).2)) H) ∧
 (¬ (ir_1l2 < jr_1l2.size) →
 O0 a8f H K)
def R6 (x0 : ByteArray) (H : Hp) (K : Int → Hp → Prop) : Prop :=
 TL ((0, 0) : Int × Nat) H fun (s : Int × Nat) H n2 => O1 x0 s.1 s.2 H n2 K
theorem a6A (x0 : ByteArray) {w0 w : World} {ps0 : Nat → Prop} {H0 H : Hp} {K : Int → Hp → Prop} {R : Value → World → Prop} {E : Pan} (I : Inv w0 ps0 H0 H [] w) (hR : ∀ (r0 : Int) (H' : Hp) (w' : World) (_ : Inv w0 ps0 H0 H' [] w') (_ : K r0 H'), R (vi r0) w') (h : R6 x0 H K) : c9i (Value.string x0) w R E := by
 unfold R6 at h
 unfold c9i
 have hj1 : ∀ (b3a : Int) (H : Hp) (w : World) (_ : Inv w0 ps0 H0 H [] w) (_ : O0 b3a H K), c1l (vi b3a) w R E := by
  intro b3a H w I h
  unfold c1l
  intro _
  unfold O0 at h
  exact hR b3a H _ I h
 refine p9 fun j1 hx1 => ?_
 refine c7M Tryd.underlying9 x0 I fun g_2 w_3 I_4 k_5 => ?_
 obtain ⟨d5X, c5p, g3b, g3c⟩ := h
 refine v6 (J := fun n l w => ∃ (s : Int × Nat) (H : Hp) , n = c5p s ∧ l = (match s with | (a8f, ir_1l2) => [(vi a8f)]) ∧ (match s with | (a8f, ir_1l2) => Inv w0 ps0 H0 H [itf g_2 x0 ir_1l2] w) ∧ d5X s H) ⟨_, (0, 0), H, rfl, rfl, I_4, g3b⟩ ?_
 rintro g7B τ_27 w next2 ⟨⟨a8f, ir_1l2⟩, H, rfl, d5Y, I, g3d⟩ hn2
 dsimp only at d5Y I
 simp only [List.map_cons, List.map_nil, List.cons.injEq, and_true] at d5Y
 have e2 := d5Y
 simp only [e2]
 obtain ⟨n2, hm2, h⟩ : ∃ n2 : (Int × Nat) → Hp → Prop, (∀ s' H', n2 s' H' → d5X s' H' ∧ c5p s' < c5p (a8f, ir_1l2)) ∧ O1 x0 a8f ir_1l2 H n2 K := ⟨_, fun _ _ h => h, g3c (a8f, ir_1l2) H (fun s' H' => d5X s' H' ∧ c5p s' < c5p (a8f, ir_1l2)) g3d (fun _ _ a b => ⟨a, b⟩)⟩
 unfold c7U
 unfold O1 at h
 refine d2H I (fun b8K r6 b1E c1E => ?_) (fun b8K => ?_)
 ·replace h := h.1 b8K
  refine a7 (v7 _ _ _ rfl) ?_
  refine k9 (fun e => ?_) (fun e => by cases e)
  refine a7 (q8 _ _ _ _ _ _) ?_
  exact hn2 _ _ _ (hm2 _ _ h).2 ⟨((IntKind.wrap .i64 (a8f + 1)), (ir_1l2 + (Utf8.decode x0 ir_1l2).2)), H, rfl, rfl, b1E, (hm2 _ _ h).1⟩
 ·replace h := h.2 b8K
  refine a7 (v7 _ _ _ rfl) ?_
  refine k9 (fun e => by cases e) (fun e => ?_)
  exact hx1 _ _ (hj1 a8f H _ I.drop h)
theorem a7f (x0 : ByteArray) {H : Hp} {K : Int → Hp → Prop} (h : R6 x0 H K) : a0H x0 H K := by
 intro w I
 refine e0A ?_
 refine a6A x0 I (fun r0 H' w' I' hk => ⟨H', _, I', r0, rfl, rfl, hk⟩) h
def a5r (H : Hp) (K : Bool → Hp → Prop) : Prop :=
 K true H
def N6 (jr_28l2 : ByteArray) (ir_28l2 : Nat) (H : Hp) (n2 : Nat → Hp → Prop) (K : Bool → Hp → Prop) : Prop :=
 (ir_28l2 < jr_28l2.size →
 a5y ((Utf8.decode jr_28l2 ir_28l2).1 : Int) H (fun (a5s : Bool) (a5A : Hp) =>
 TG ((!(!a5s) && (decide (((ir_28l2 : Nat) : Int) = 0))) = true) (a3E ((Utf8.decode jr_28l2 ir_28l2).1 : Int) a5A) 0 a5A (fun (a2M : Int) (a3o : Hp) =>
 (((!a5s) || ((decide (((ir_28l2 : Nat) : Int) = 0)) && (!decide (a2M = 3)))) = true →
 K false a3o) ∧
 (((!a5s) || ((decide (((ir_28l2 : Nat) : Int) = 0)) && (!decide (a2M = 3)))) = false →
 n2 (ir_28l2 + (Utf8.decode jr_28l2 ir_28l2).2) a3o)))) ∧
 (¬ (ir_28l2 < jr_28l2.size) →
 a5r H K)
def a4G (x0 : ByteArray) (H : Hp) (K : Bool → Hp → Prop) : Prop :=
 TG ((decide (x0 = ⟨#[]⟩)) = false) (a5u x0 H) false H (fun (K1 : Bool) (H_1 : Hp) =>
 TG (((decide (x0 = ⟨#[]⟩)) || (!K1)) = false) (a4A x0 H_1) false H_1 (fun (o6 : Bool) (a1T : Hp) =>
 TG ((((decide (x0 = ⟨#[]⟩)) || (!K1)) || o6) = false) (a2X x0 a1T) false a1T (fun (C1 : Bool) (Q2 : Hp) =>
 (((((decide (x0 = ⟨#[]⟩)) || (!K1)) || o6) || C1) = true →
 K false Q2) ∧
 (((((decide (x0 = ⟨#[]⟩)) || (!K1)) || o6) || C1) = false →
 TL (0 : Nat) Q2 fun (s : Nat) H n2 => N6 x0 s H n2 K))))
theorem b6J (x0 : ByteArray) {w0 w : World} {ps0 : Nat → Prop} {H0 H : Hp} {K : Bool → Hp → Prop} {R : Value → World → Prop} {E : Pan} (I : Inv w0 ps0 H0 H [] w) (hR : ∀ (r0 : Bool) (H' : Hp) (w' : World) (_ : Inv w0 ps0 H0 H' [] w') (_ : K r0 H'), R (Value.bool r0) w') (h : a4G x0 H K) : c9a (Value.string x0) w R E := by
 unfold a4G at h
 unfold c9a
 refine a7 (F0 _ _ _ _ _) ?_
 try simp only [m9]
 refine L2 (D := fun v_5 w_2 => ∃ (K1 : Bool) (H_1 : Hp) , v_5 = (gv (decide (x0 = ⟨#[]⟩)) false (Value.bool K1)) ∧ (Inv w0 ps0 H0 H_1 [] w_2) ∧ (∀ i, i < w.heap.size → ¬ inF [] i → w_2.heap[i]? = w.heap[i]?) ∧ Hle H H_1 ∧ (TG (((decide (x0 = ⟨#[]⟩)) || (!K1)) = false) (a4A x0 H_1) false H_1 (fun (o6 : Bool) (a1T : Hp) =>
 TG ((((decide (x0 = ⟨#[]⟩)) || (!K1)) || o6) = false) (a2X x0 a1T) false a1T (fun (C1 : Bool) (Q2 : Hp) =>
 (((((decide (x0 = ⟨#[]⟩)) || (!K1)) || o6) || C1) = true →
 K false Q2) ∧
 (((((decide (x0 = ⟨#[]⟩)) || (!K1)) || o6) || C1) = false →
 TL (0 : Nat) Q2 fun (s : Nat) H n2 => N6 x0 s H n2 K))))) (fun b7t => ?_) (fun b7t => ?_) ?_
 ·replace h := h.1 b7t
  have a6 := b7t
  try simp only [a8 a6]
  refine f8 (cap := []) (fun args w => Tryd.call122 args w) ?_
  refine i6 (Fi := []) (Fr := []) I (h) (fun v_5 H_1 F_6 w_2 I_3 l_8 k_4 q_7 => ?_) (fun _ _ _ _ _ q => q.elim)
  obtain ⟨K1, rfl, rfl, h⟩ := q_7
  exact ⟨K1, H_1, by first | rfl | rw [a8 b7t], I_3, k_4, l_8, h⟩
 ·exact ⟨false, H, by first | rfl | rw [a0E b7t], I, fun _ _ _ => rfl, Hle.refl _, h.2 b7t⟩
 ·clear h
  rintro v_5 w_2 ⟨K1, H_1, rfl, I_3, k_4, l_8, h⟩
  refine a7 (Pu.g fun hb => by have a6 := hb; first | exact (I7 _) | (simp only [a8 a6]; exact (I7 _)) | (simp only [b7 a6, a8 a6, a8 hb, v1 a6, d9]; exact (I7 _))) ?_
  refine a7 (E1 _ _) ?_
  try simp only [m9]
  refine L2 (D := fun c1w Y2 => ∃ (o6 : Bool) (a1T : Hp) , c1w = (gv ((decide (x0 = ⟨#[]⟩)) || (!K1)) false (Value.bool o6)) ∧ (Inv w0 ps0 H0 a1T [] Y2) ∧ (∀ i, i < w_2.heap.size → ¬ inF [] i → Y2.heap[i]? = w_2.heap[i]?) ∧ Hle H_1 a1T ∧ (TG ((((decide (x0 = ⟨#[]⟩)) || (!K1)) || o6) = false) (a2X x0 a1T) false a1T (fun (C1 : Bool) (Q2 : Hp) =>
 (((((decide (x0 = ⟨#[]⟩)) || (!K1)) || o6) || C1) = true →
 K false Q2) ∧
 (((((decide (x0 = ⟨#[]⟩)) || (!K1)) || o6) || C1) = false →
 TL (0 : Nat) Q2 fun (s : Nat) H n2 => N6 x0 s H n2 K)))) (fun c1L => ?_) (fun c1L => ?_) ?_
  ·replace h := h.1 c1L
   have a6 := c1L
   try simp only [a8 a6]
   refine f8 (cap := []) (fun args w => Tryd.call123 args w) ?_
   refine i6 (Fi := []) (Fr := []) I_3 (h) (fun c1w a1T d5c Y2 G6 b6B b4o b8l => ?_) (fun _ _ _ _ _ q => q.elim)
   obtain ⟨o6, rfl, rfl, h⟩ := b8l
   exact ⟨o6, a1T, by first | rfl | rw [a8 c1L], G6, b4o, b6B, h⟩
  ·exact ⟨false, H_1, by first | rfl | rw [a0E c1L], I_3, fun _ _ _ => rfl, Hle.refl _, h.2 c1L⟩
  ·clear h
   rintro c1w Y2 ⟨o6, a1T, rfl, G6, b4o, b6B, h⟩
   refine a7 (E1 _ _) ?_
   try simp only [m9]
   refine L2 (D := fun b4p o7 => ∃ (C1 : Bool) (Q2 : Hp) , b4p = (gv (((decide (x0 = ⟨#[]⟩)) || (!K1)) || o6) false (Value.bool C1)) ∧ (Inv w0 ps0 H0 Q2 [] o7) ∧ (∀ i, i < Y2.heap.size → ¬ inF [] i → o7.heap[i]? = Y2.heap[i]?) ∧ Hle a1T Q2 ∧ ((((((decide (x0 = ⟨#[]⟩)) || (!K1)) || o6) || C1) = true →
 K false Q2) ∧
 (((((decide (x0 = ⟨#[]⟩)) || (!K1)) || o6) || C1) = false →
 TL (0 : Nat) Q2 fun (s : Nat) H n2 => N6 x0 s H n2 K))) (fun c1M => ?_) (fun c1M => ?_) ?_
   ·replace h := h.1 c1M
    have a6 := c1M
    try simp only [a8 a6]
    refine f8 (cap := []) (fun args w => Tryd.call124 args w) ?_
    refine i6 (Fi := []) (Fr := []) G6 (h) (fun b4p Q2 c4Q o7 a3i b8m b2U b8n => ?_) (fun _ _ _ _ _ q => q.elim)
    obtain ⟨C1, rfl, rfl, h⟩ := b8n
    exact ⟨C1, Q2, by first | rfl | rw [a8 c1M], a3i, b2U, b8m, h⟩
   ·exact ⟨false, a1T, by first | rfl | rw [a0E c1M], G6, fun _ _ _ => rfl, Hle.refl _, h.2 c1M⟩
   ·clear h
    rintro b4p o7 ⟨C1, Q2, rfl, a3i, b2U, b8m, h⟩
    refine a7 (E1 _ _) ?_
    refine k9 (fun d5Z => ?_) (fun d5Z => ?_)
    ·replace h := h.1 d5Z
     exact hR false Q2 _ a3i h
    ·replace h := h.2 d5Z
     have hj1 : ∀ (H : Hp) (w : World) (_ : Inv w0 ps0 H0 H [] w) (_ : a5r H K), c1c w R E := by
      intro H w I h
      unfold c1c
      intro _
      unfold a5r at h
      exact hR true H _ I h
     refine p9 fun j1 hx1 => ?_
     refine c7M Tryd.underlying9 x0 a3i fun d0l t7 a1p b4w => ?_
     obtain ⟨d6a, c5q, g3e, g3f⟩ := h
     refine v6 (J := fun n l w => ∃ (s : Nat) (H : Hp) , n = c5q s ∧ l = [] ∧ Inv w0 ps0 H0 H [itf d0l x0 s] w ∧ d6a s H) ⟨_, 0, Q2, rfl, rfl, a1p, g3e⟩ ?_
     rintro g7C τ_94 w next2 ⟨ir_28l2, H, rfl, g3g, I, g3h⟩ hn2
     clear g3g
     obtain ⟨n2, hm2, h⟩ : ∃ n2 : Nat → Hp → Prop, (∀ s' H', n2 s' H' → d6a s' H' ∧ c5q s' < c5q ir_28l2) ∧ N6 x0 ir_28l2 H n2 K := ⟨_, fun _ _ h => h, g3f ir_28l2 H (fun s' H' => d6a s' H' ∧ c5q s' < c5q ir_28l2) g3h (fun _ _ a b => ⟨a, b⟩)⟩
     unfold c7R
     unfold N6 at h
     refine d2H I (fun b8P b6f c4T d5i => ?_) (fun b8P => ?_)
     ·replace h := h.1 b8P
      refine a7 (v7 _ _ _ rfl) ?_
      refine k9 (fun e => ?_) (fun e => by cases e)
      refine a7 (v7 _ _ _ rfl) ?_
      refine a7 (v7 _ _ _ rfl) ?_
      refine f8 (cap := []) (fun args w => Tryd.call125 args w) ?_
      refine i6 (Fi := []) (Fr := [itf d0l x0 (ir_28l2 + (Utf8.decode x0 ir_28l2).2)]) c4T (h) (fun b8A a5A g3i O8 b8Y d6b d6c d6d => ?_) (fun _ _ _ _ _ q => q.elim)
      obtain ⟨a5s, rfl, rfl, h⟩ := d6d
      refine a7 (I7 _) ?_
      try simp only [m9]
      refine a7 (Pu.g fun hb => by have a6 := hb; first | exact (d6 _ _ _ _ _ _) | (simp only [a8 a6]; exact (d6 _ _ _ _ _ _)) | (simp only [b7 a6, a8 a6, a8 hb, v1 a6, d9]; exact (d6 _ _ _ _ _ _))) ?_
      try simp only [T5, Y1]
      try simp only [m9, T5, a2v, a1f, Y1, a2z, a2w, a2x, a2y, a2A]
      refine f8b (a3X _ _ _) ?_
      refine L2 (D := fun b8Z b4M => ∃ (a2M : Int) (a3o : Hp) , b8Z = (gv (!(!a5s) && (decide (((ir_28l2 : Nat) : Int) = 0))) true (vi a2M)) ∧ (Inv w0 ps0 H0 a3o [itf d0l x0 (ir_28l2 + (Utf8.decode x0 ir_28l2).2)] b4M) ∧ (∀ i, i < O8.heap.size → ¬ inF [] i → b4M.heap[i]? = O8.heap[i]?) ∧ Hle a5A a3o ∧ ((((!a5s) || ((decide (((ir_28l2 : Nat) : Int) = 0)) && (!decide (a2M = 3)))) = true →
 K false a3o) ∧
 (((!a5s) || ((decide (((ir_28l2 : Nat) : Int) = 0)) && (!decide (a2M = 3)))) = false →
 n2 (ir_28l2 + (Utf8.decode x0 ir_28l2).2) a3o))) (fun a8g => ?_) (fun a8g => ?_) ?_
      ·replace h := h.1 a8g
       obtain ⟨a6, k8⟩ := a5Z a8g
       try simp only [a8 a8g]
       refine f8 (cap := []) (fun args w => Tryd.call126 args w) ?_
       refine i6 (Fi := []) (Fr := [itf d0l x0 (ir_28l2 + (Utf8.decode x0 ir_28l2).2)]) b8Y (h) (fun b8Z a3o g3j b4M b6K c5r c5s d6e => ?_) (fun _ _ _ _ _ q => q.elim)
       obtain ⟨a2M, rfl, rfl, h⟩ := d6e
       exact ⟨a2M, a3o, by first | rfl | rw [a8 a8g], b6K, c5s, c5r, h⟩
      ·exact ⟨0, a5A, by first | rfl | rw [a0E a8g], b8Y, fun _ _ _ => rfl, Hle.refl _, h.2 a8g⟩
      ·clear h
       rintro b8Z b4M ⟨a2M, a3o, rfl, b6K, c5s, c5r, h⟩
       refine a7 (Pu.e (a3X _ _ _) (Pu.g fun hb => by obtain ⟨a6, k8⟩ := a5Z hb; first | exact (u7 _ _ _ _ _ _) | (simp only [a8 hb]; exact (u7 _ _ _ _ _ _)) | (simp only [b7 a6, a8 a6, b7 k8, a8 k8, a8 hb, l9 hb]; exact (u7 _ _ _ _ _ _)) | (simp only [b7 a6, a8 a6, b7 k8, a8 k8, a8 hb, c9 hb, d9]; exact (u7 _ _ _ _ _ _)))) ?_
       refine a7 (Pu.g fun hb => by have a6 := hb; first | exact (k7 _ _) | (simp only [a8 a6, a4b a6]; exact (k7 _ _)) | (simp only [b7 a6, a8 a6, a8 hb, v1 a6, d9]; exact (k7 _ _))) ?_
       refine a7 (E1 _ _) ?_
       refine k9 (fun b8Q => ?_) (fun b8Q => ?_)
       ·replace h := h.1 b8Q
        exact hR false a3o _ b6K.drop h
       ·replace h := h.2 b8Q
        exact hn2 _ _ _ (hm2 _ _ h).2 ⟨(ir_28l2 + (Utf8.decode x0 ir_28l2).2), a3o, rfl, rfl, b6K, (hm2 _ _ h).1⟩
     ·replace h := h.2 b8P
      refine a7 (v7 _ _ _ rfl) ?_
      refine k9 (fun e => by cases e) (fun e => ?_)
      exact hx1 _ _ (hj1 H _ I.drop h)
theorem b7Q (x0 : ByteArray) {H : Hp} {K : Bool → Hp → Prop} (h : a4G x0 H K) : a4B x0 H K := by
 intro w I
 refine e0k ?_
 refine b6J x0 I (fun r0 H' w' I' hk => ⟨H', _, I', r0, rfl, rfl, hk⟩) h
def a0S (a8Y : Int) (a8Z : Int) (a9a : Int) (a9b : Bool) (a9c : Bool) (a7r : (List ByteArray)) (H : Hp) (K : Bool → g6 → (List ByteArray) → Hp → Prop) : Prop :=
 K true (g6.mk a8Y a8Z a9a a9b a9c (Sl.mk none 0 0)) a7r H
def a0T (a0M : Int) (a7W : Sl) (t8 : Int) (a3K : Int) (a2d : Int) (a2e : Int) (a2f : Int) (a2g : Bool) (a2h : Bool) (a1B : (List ByteArray)) (H : Hp) (n2 : (Int × Int × Int × Int × Bool × Bool × (List ByteArray)) → Hp → Prop) (K : Bool → g6 → (List ByteArray) → Hp → Prop) : Prop :=
 (a3K < t8 →
 (0 : Int) ≤ a3K ∧ (a3K : Int) < a7W.n ∧ ∃ c5t : c8, EltH H a7W a3K 1 [(y7 c5t)] ∧
 a2U (g6.mk a2d a2e a2f a2g a2h (Sl.mk none 0 0)) a1B c5t a0M H (fun (a6D : Bool) (G4 : g6) (b0K : (List ByteArray)) (b4N : Hp) =>
 TG ((!a6D) = false) (a4R c5t b4N) (Sl.mk none 0 0) b4N (fun (b4O : Sl) (a9V : Hp) =>
 TG ((!a6D) = false) (fun k_ => a0r b4O (IntKind.wrap .i64 (a0M + 1)) (g6.mk ((G4).fnodes) ((G4).fdepth) ((G4).fe) ((G4).fform) ((G4).fnamed) (Sl.mk none 0 0)) b0K a9V fun a9w Q1 a3Y H_ => k_ (a9w, Q1, a3Y) H_) (false, (g6.mk ((G4).fnodes) ((G4).fdepth) ((G4).fe) ((G4).fform) ((G4).fnamed) (Sl.mk none 0 0)), b0K) a9V (fun (a1r : Bool × g6 × (List ByteArray)) (a7g : Hp) =>
 (((!a6D) || (!a1r.1)) = true →
 K false (g6.mk ((a1r.2.1).fnodes) ((a1r.2.1).fdepth) ((a1r.2.1).fe) ((a1r.2.1).fform) ((a1r.2.1).fnamed) (Sl.mk none 0 0)) a1r.2.2 a7g) ∧
 (((!a6D) || (!a1r.1)) = false →
 n2 ((IntKind.wrap .i64 (a3K + 1)), ((a1r.2.1).fnodes), ((a1r.2.1).fdepth), ((a1r.2.1).fe), ((a1r.2.1).fform), ((a1r.2.1).fnamed), a1r.2.2) a7g))))) ∧
 (¬ (a3K < t8) →
 a0S a2d a2e a2f a2g a2h a1B H K)
def a2t (x0 : Sl) (x1 : Int) (x2 : g6) (b1o : (List ByteArray)) (H : Hp) (K : Bool → g6 → (List ByteArray) → Hp → Prop) : Prop :=
 TL ((0, x2.fnodes, x2.fdepth, x2.fe, x2.fform, x2.fnamed, b1o) : Int × Int × Int × Int × Bool × Bool × (List ByteArray)) H fun (s : Int × Int × Int × Int × Bool × Bool × (List ByteArray)) H n2 => a0T x1 x0 (x0.n : Int) s.1 s.2.1 s.2.2.1 s.2.2.2.1 s.2.2.2.2.1 s.2.2.2.2.2.1 s.2.2.2.2.2.2 H n2 K
theorem b2w (x0 : Sl) (x1 : Int) (x2 : g6) (b1o : (List ByteArray)) (g2 g2b g3 : Nat) (b2F : Sl) (b2G : Frag) (d0m : RowL 9 1 s8 b2F b1o b2G) {w0 w : World} {ps0 : Nat → Prop} {H0 H : Hp} {K : Bool → g6 → (List ByteArray) → Hp → Prop} {R : Value → World → Prop} {E : Pan} (I : Inv w0 ps0 H0 H [bx g2 93 [(Value.pointer (some ⟨g2b, 0, none⟩))], bx g2b 92 [(vi x2.fnodes), (vi x2.fdepth), (vi x2.fe), (Value.bool x2.fform), (Value.bool x2.fnamed), (vs b2F)], b2G, bx g3 139 [(Value.func (.func 89) #[] #[(Value.pointer (some ⟨g2, 0, none⟩)), (Value.pointer (some ⟨g3, 0, none⟩))])]] w) (hR : ∀ (r0 : Bool) (y0 : g6) (a6P : (List ByteArray)) (a5f : Sl) (a5g : Frag) (H' : Hp) (w' : World) (_ : RowL 9 1 s8 a5f a6P a5g) (_ : Inv w0 ps0 H0 H' [bx g2 93 [(Value.pointer (some ⟨g2b, 0, none⟩))], bx g2b 92 [(vi y0.fnodes), (vi y0.fdepth), (vi y0.fe), (Value.bool y0.fform), (Value.bool y0.fnamed), (vs a5f)], a5g, bx g3 139 [(Value.func (.func 89) #[] #[(Value.pointer (some ⟨g2, 0, none⟩)), (Value.pointer (some ⟨g3, 0, none⟩))])]] w') (_ : K r0 y0 a6P H'), R (Value.bool r0) w') (h : a2t x0 x1 x2 b1o H K) : F89 (vs x0) (vi x1) (Value.pointer (some ⟨g2, 0, none⟩)) (Value.pointer (some ⟨g3, 0, none⟩)) w R E := by
 unfold a2t at h
 unfold F89
 have hj1 : ∀ (a8Y : Int) (a8Z : Int) (a9a : Int) (a9b : Bool) (a9c : Bool) (a7r : (List ByteArray)) (b2K : Sl) (b2L : Frag) (H : Hp) (w : World) (_ : RowL 9 1 s8 b2K a7r b2L) (_ : Inv w0 ps0 H0 H [bx g2 93 [(Value.pointer (some ⟨g2b, 0, none⟩))], bx g2b 92 [(vi a8Y), (vi a8Z), (vi a9a), (Value.bool a9b), (Value.bool a9c), (vs b2K)], bx g3 139 [(Value.func (.func 89) #[] #[(Value.pointer (some ⟨g2, 0, none⟩)), (Value.pointer (some ⟨g3, 0, none⟩))])], b2L] w) (_ : a0S a8Y a8Z a9a a9b a9c a7r H K), c4e w R E := by
  intro a8Y a8Z a9a a9b a9c a7r b2K b2L H w d3J I h
  unfold c4e
  intro _
  unfold a0S at h
  exact hR true (g6.mk a8Y a8Z a9a a9b a9c (Sl.mk none 0 0)) a7r b2K b2L H _ d3J ((((I.bring 2).bring 3).bring 3).bring 3) h
 refine p9 fun j1 hx1 => ?_
 refine a7 (b2A _ _ _) ?_
 obtain ⟨d6f, c5u, g3k, g3l⟩ := h
 refine v6 (J := fun n l w => ∃ (s : Int × Int × Int × Int × Bool × Bool × (List ByteArray)) (H : Hp) (a7s : Sl) (a7t : Frag) , n = c5u s ∧ l = (match s with | (a3K, a2d, a2e, a2f, a2g, a2h, a1B) => [(vi a3K)]) ∧ (match s with | (a3K, a2d, a2e, a2f, a2g, a2h, a1B) => RowL 9 1 s8 a7s a1B a7t) ∧ (match s with | (a3K, a2d, a2e, a2f, a2g, a2h, a1B) => Inv w0 ps0 H0 H [bx g2 93 [(Value.pointer (some ⟨g2b, 0, none⟩))], bx g2b 92 [(vi a2d), (vi a2e), (vi a2f), (Value.bool a2g), (Value.bool a2h), (vs a7s)], bx g3 139 [(Value.func (.func 89) #[] #[(Value.pointer (some ⟨g2, 0, none⟩)), (Value.pointer (some ⟨g3, 0, none⟩))])], a7t] w) ∧ d6f s H) ⟨_, (0, x2.fnodes, x2.fdepth, x2.fe, x2.fform, x2.fnamed, b1o), H, b2F, b2G, rfl, rfl, d0m, ((((I.bring 2).bring 3).bring 3).bring 3), g3k⟩ ?_
 rintro g7D τ_92 w next2 ⟨⟨a3K, a2d, a2e, a2f, a2g, a2h, a1B⟩, H, a7s, a7t, rfl, c4D, b6L, I, g3m⟩ hn2
 dsimp only at c4D I b6L
 simp only [List.map_cons, List.map_nil, List.cons.injEq, and_true] at c4D
 have e11 := c4D
 simp only [e11]
 obtain ⟨n2, hm2, h⟩ : ∃ n2 : (Int × Int × Int × Int × Bool × Bool × (List ByteArray)) → Hp → Prop, (∀ s' H', n2 s' H' → d6f s' H' ∧ c5u s' < c5u (a3K, a2d, a2e, a2f, a2g, a2h, a1B)) ∧ a0T x1 x0 (x0.n : Int) a3K a2d a2e a2f a2g a2h a1B H n2 K := ⟨_, fun _ _ h => h, g3l (a3K, a2d, a2e, a2f, a2g, a2h, a1B) H (fun s' H' => d6f s' H' ∧ c5u s' < c5u (a3K, a2d, a2e, a2f, a2g, a2h, a1B)) g3m (fun _ _ a b => ⟨a, b⟩)⟩
 unfold d2Z
 unfold a0T at h
 refine a7 (r8 _ _ _ _ _ _) ?_
 refine g9 (fun b8R => ?_) (fun b8R => ?_)
 ·replace h := h.1 b8R
  obtain ⟨c5v, c5w, c5t, b9a, h⟩ := h
  obtain ⟨g7E, g7F, d6g, b9a⟩ := b9a
  refine a7 (d4L d6g _ _ _ _ c5v c5w) ?_
  refine c7 (ld1 (v := (y7 c5t)) Tryd.isAgg141 (I.atH b9a)) ?_
  refine a9L I fun d4R c9G => ?_
  refine a1b (ld1 Tryd.isAgg93 (c9G.at1 (o := 0) (vs := [(Value.pointer (some ⟨g2b, 0, none⟩))]) (nb rfl) rfl)) ?_
  refine f8 (cap := []) (fun args w => Tryd.call90 args w) ?_
  refine i6 (Fi := [bx g2b 92 [(vi a2d), (vi a2e), (vi a2f), (Value.bool a2g), (Value.bool a2h), (vs a7s)], a7t]) (Fr := [bx g2 93 [(Value.pointer (some ⟨g2b, 0, none⟩))], bx g3 139 [(Value.func (.func 89) #[] #[(Value.pointer (some ⟨g2, 0, none⟩)), (Value.pointer (some ⟨g3, 0, none⟩))])]]) ((c9G.bring 3).bring 2) (h g2b a7s a7t b6L) (fun g3n b4N g3o P7 b4P g3p g3q d6h => ?_) (fun _ _ _ _ _ q => q.elim)
  obtain ⟨a6D, G4, b0K, b1V, b1W, rfl, rfl, c5x, h⟩ := d6h
  refine D5 (I7 _) ?_
  try simp only [m9]
  try simp only [m9, T5, a2v, a1f, Y1, a2z, a2w, a2x, a2y, a2A]
  refine D5 (Pu.g fun hb => by have a6 := hb; first | exact (q8 _ _ _ _ _ _) | (simp only [a8 a6]; exact (q8 _ _ _ _ _ _)) | (simp only [b7 a6, a8 a6, a8 hb, v1 a6, d9]; exact (q8 _ _ _ _ _ _))) ?_
  refine a1b (Ld.g fun hb => by have a6 := hb; first | exact (ld1 Tryd.isAgg139 ((b4P.bring 3).at1 (o := 0) (vs := [(Value.func (.func 89) #[] #[(Value.pointer (some ⟨g2, 0, none⟩)), (Value.pointer (some ⟨g3, 0, none⟩))])]) (nb rfl) rfl)) | (simp only [b7 a6, a8 a6, a8 hb, a4b a6]; exact (ld1 Tryd.isAgg139 ((b4P.bring 3).at1 (o := 0) (vs := [(Value.func (.func 89) #[] #[(Value.pointer (some ⟨g2, 0, none⟩)), (Value.pointer (some ⟨g3, 0, none⟩))])]) (nb rfl) rfl))) | (simp only [b7 a6, a8 a6, a8 hb, v1 a6, d9]; exact (ld1 Tryd.isAgg139 ((b4P.bring 3).at1 (o := 0) (vs := [(Value.func (.func 89) #[] #[(Value.pointer (some ⟨g2, 0, none⟩)), (Value.pointer (some ⟨g3, 0, none⟩))])]) (nb rfl) rfl)))) ?_
  refine L2 (D := fun f1u b6g => ∃ (b4O : Sl) (a9V : Hp), f1u = (gv (!a6D) false (vs b4O)) ∧ (Inv w0 ps0 H0 a9V [bx g2b 92 [(vi ((G4).fnodes)), (vi ((G4).fdepth)), (vi ((G4).fe)), (Value.bool ((G4).fform)), (Value.bool ((G4).fnamed)), (vs b1V)], b1W, bx g2 93 [(Value.pointer (some ⟨g2b, 0, none⟩))], bx g3 139 [(Value.func (.func 89) #[] #[(Value.pointer (some ⟨g2, 0, none⟩)), (Value.pointer (some ⟨g3, 0, none⟩))])]] b6g) ∧ (∀ i, i < P7.heap.size → ¬ inF [] i → b6g.heap[i]? = P7.heap[i]?) ∧ Hle b4N a9V ∧ (TG ((!a6D) = false) (fun k_ => a0r b4O (IntKind.wrap .i64 (x1 + 1)) (g6.mk ((G4).fnodes) ((G4).fdepth) ((G4).fe) ((G4).fform) ((G4).fnamed) (Sl.mk none 0 0)) b0K a9V fun a9w Q1 a3Y H_ => k_ (a9w, Q1, a3Y) H_) (false, (g6.mk ((G4).fnodes) ((G4).fdepth) ((G4).fe) ((G4).fform) ((G4).fnamed) (Sl.mk none 0 0)), b0K) a9V (fun (a1r : Bool × g6 × (List ByteArray)) (a7g : Hp) =>
 (((!a6D) || (!a1r.1)) = true →
 K false (g6.mk ((a1r.2.1).fnodes) ((a1r.2.1).fdepth) ((a1r.2.1).fe) ((a1r.2.1).fform) ((a1r.2.1).fnamed) (Sl.mk none 0 0)) a1r.2.2 a7g) ∧
 (((!a6D) || (!a1r.1)) = false →
 n2 ((IntKind.wrap .i64 (a3K + 1)), ((a1r.2.1).fnodes), ((a1r.2.1).fdepth), ((a1r.2.1).fe), ((a1r.2.1).fform), ((a1r.2.1).fnamed), a1r.2.2) a7g)))) (fun b6M => ?_) (fun b6M => ?_) ?_
  ·replace h := h.1 b6M
   have a6 := b6M
   try simp only [a8 a6]
   refine b2Q b4P h (fun b4O a9V b6g d0n d0o d6i h => ?_)
   exact ⟨b4O, a9V, by first | rfl | rw [a8 b6M], d0n, d6i, d0o, h⟩
  ·exact ⟨(Sl.mk none 0 0), b4N, by first | rfl | rw [a0E b6M], b4P, fun _ _ _ => rfl, Hle.refl _, h.2 b6M⟩
  ·clear h
   rintro f1u b6g ⟨b4O, a9V, rfl, d0n, d6i, d0o, h⟩
   refine ⟨(d6i _ (b4P.bring 3).lt1 (Inv.a7y (Fi := []) (b4P.bring 3))), ?_⟩
   refine L2 (D := fun d6j d0p => ∃ (a9w : Bool) (Q1 : g6) (a3Y : (List ByteArray)) (a7g : Hp) (a7h : Sl) (a7i : Frag) , d6j = (gv (!a6D) false (Value.bool a9w)) ∧ (RowL 9 1 s8 a7h a3Y a7i) ∧ (Inv w0 ps0 H0 a7g [bx g2 93 [(Value.pointer (some ⟨g2b, 0, none⟩))], bx g2b 92 [(vi ((Q1).fnodes)), (vi ((Q1).fdepth)), (vi ((Q1).fe)), (Value.bool ((Q1).fform)), (Value.bool ((Q1).fnamed)), (vs a7h)], a7i, bx g3 139 [(Value.func (.func 89) #[] #[(Value.pointer (some ⟨g2, 0, none⟩)), (Value.pointer (some ⟨g3, 0, none⟩))])]] d0p) ∧ (∀ i, i < b6g.heap.size → ¬ inF [bx g2 93 [(Value.pointer (some ⟨g2b, 0, none⟩))], bx g2b 92 [(vi ((G4).fnodes)), (vi ((G4).fdepth)), (vi ((G4).fe)), (Value.bool ((G4).fform)), (Value.bool ((G4).fnamed)), (vs b1V)], b1W, bx g3 139 [(Value.func (.func 89) #[] #[(Value.pointer (some ⟨g2, 0, none⟩)), (Value.pointer (some ⟨g3, 0, none⟩))])]] i → d0p.heap[i]? = b6g.heap[i]?) ∧ Hle a9V a7g ∧ ((((!a6D) || (!a9w)) = true →
 K false (g6.mk ((Q1).fnodes) ((Q1).fdepth) ((Q1).fe) ((Q1).fform) ((Q1).fnamed) (Sl.mk none 0 0)) a3Y a7g) ∧
 (((!a6D) || (!a9w)) = false →
 n2 ((IntKind.wrap .i64 (a3K + 1)), ((Q1).fnodes), ((Q1).fdepth), ((Q1).fe), ((Q1).fform), ((Q1).fnamed), a3Y) a7g))) (fun c1N => ?_) (fun c1N => ?_) ?_
   ·replace h := h.1 c1N
    have a6 := c1N
    try simp only [a8 a6]
    refine f8 (cap := [(Value.pointer (some ⟨g2, 0, none⟩)), (Value.pointer (some ⟨g3, 0, none⟩))]) (fun args w => Tryd.call89 args w) ?_
    refine i6 (Fi := [bx g2 93 [(Value.pointer (some ⟨g2b, 0, none⟩))], bx g2b 92 [(vi ((G4).fnodes)), (vi ((G4).fdepth)), (vi ((G4).fe)), (Value.bool ((G4).fform)), (Value.bool ((G4).fnamed)), (vs b1V)], b1W, bx g3 139 [(Value.func (.func 89) #[] #[(Value.pointer (some ⟨g2, 0, none⟩)), (Value.pointer (some ⟨g3, 0, none⟩))])]]) (Fr := []) ((((d0n.bring 3).bring 2).bring 2).bring 3) (h g2 g2b g3 b1V b1W c5x) (fun d6j a7g g7G d0p d0q a7O f1v g3r => ?_) (fun _ _ _ _ _ q => q.elim)
    obtain ⟨a9w, Q1, a3Y, a7h, a7i, rfl, rfl, b4Q, h⟩ := g3r
    exact ⟨a9w, Q1, a3Y, a7g, a7h, a7i, by first | rfl | rw [a8 c1N], b4Q, d0q, f1v, a7O, h⟩
   ·exact ⟨false, (g6.mk ((G4).fnodes) ((G4).fdepth) ((G4).fe) ((G4).fform) ((G4).fnamed) (Sl.mk none 0 0)), b0K, a9V, b1V, b1W, by first | rfl | rw [a0E c1N], c5x, ((((d0n.bring 3).bring 2).bring 2).bring 3), fun _ _ _ => rfl, Hle.refl _, h.2 c1N⟩
   ·clear h
    rintro d6j d0p ⟨a9w, Q1, a3Y, a7g, a7h, a7i, rfl, b4Q, d0q, f1v, a7O, h⟩
    refine D5 (Pu.g fun hb => by have a6 := hb; first | exact (I7 _) | (simp only [a8 a6]; exact (I7 _)) | (simp only [b7 a6, a8 a6, a8 hb, v1 a6, d9]; exact (I7 _))) ?_
    refine D5 (E1 _ _) ?_
    refine k9 (fun b8S => ?_) (fun b8S => ?_)
    ·replace h := h.1 b8S
     exact hR false (g6.mk ((Q1).fnodes) ((Q1).fdepth) ((Q1).fe) ((Q1).fform) ((Q1).fnamed) (Sl.mk none 0 0)) a3Y a7h a7i a7g _ b4Q ((((d0q.bring 3).bring 3).bring 3).bring 3) h
    ·replace h := h.2 b8S
     refine a7 (q8 _ _ _ _ _ _) ?_
     exact hn2 _ _ _ (hm2 _ _ h).2 ⟨((IntKind.wrap .i64 (a3K + 1)), ((Q1).fnodes), ((Q1).fdepth), ((Q1).fe), ((Q1).fform), ((Q1).fnamed), a3Y), a7g, a7h, a7i, rfl, rfl, b4Q, ((((d0q.bring 2).bring 3).bring 3).bring 3), (hm2 _ _ h).1⟩
 ·replace h := h.2 b8R
  exact hx1 _ _ (hj1 a2d a2e a2f a2g a2h a1B a7s a7t H _ b6L ((((I.bring 3).bring 3).bring 3).bring 3) h)
theorem b3b (x0 : Sl) (x1 : Int) (x2 : g6) (b1o : (List ByteArray)) {H : Hp} {K : Bool → g6 → (List ByteArray) → Hp → Prop} (h : a2t x0 x1 x2 b1o H K) : a0r x0 x1 x2 b1o H K := by
 intro g2 g2b g3 b2F b2G d0m w I
 refine e6m ?_
 refine b2w x0 x1 x2 b1o g2 g2b g3 b2F b2G d0m I (fun r0 y0 a6P a5f a5g H' w' c5e I' hk => ⟨H', _, I', r0, y0, a6P, a5f, a5g, rfl, rfl, c5e, hk⟩) h
def K3 (cr_1j1_0 : Int) (cr_1j1_1 : Int) (cr_1j1_2 : Int) (cr_1j1_3 : Bool) (cr_1j1_4 : Bool) (ccr_1j1_5 : (List ByteArray)) (H : Hp) (K : g6 → Hp → Prop) : Prop :=
 ∀ (scr_1j1_5 : Sl) (c1O : Hp), Hle H c1O → SlH c1O 1 s8 scr_1j1_5 ccr_1j1_5 → scr_1j1_5.n ≤ scr_1j1_5.c →
 K (g6.mk cr_1j1_0 cr_1j1_1 cr_1j1_2 cr_1j1_3 cr_1j1_4 scr_1j1_5) c1O
def a3p (x0 : Sl) (H : Hp) (K : g6 → Hp → Prop) : Prop :=
 a0r x0 1 (g6.mk 0 0 0 false false (Sl.mk none 0 0)) [] H (fun (d0r : Bool) (D3 : g6) (a6g : (List ByteArray)) (b4R : Hp) =>
 ((!d0r) = true →
 K3 ((D3).fnodes) ((D3).fdepth) ((D3).fe) ((D3).fform) ((D3).fnamed) a6g b4R K) ∧
 ((!d0r) = false →
 (((D3).fform) = true →
 K3 ((D3).fnodes) ((D3).fdepth) 30 ((D3).fform) ((D3).fnamed) a6g b4R K) ∧
 (((D3).fform) = false →
 (((D3).fnamed) = true →
 K3 ((D3).fnodes) ((D3).fdepth) 31 ((D3).fform) ((D3).fnamed) a6g b4R K) ∧
 (((D3).fnamed) = false →
 K3 ((D3).fnodes) ((D3).fdepth) ((D3).fe) ((D3).fform) ((D3).fnamed) a6g b4R K))))
theorem b3C (x0 : Sl) {w0 w : World} {ps0 : Nat → Prop} {H0 H : Hp} {K : g6 → Hp → Prop} {R : Value → World → Prop} {E : Pan} (I : Inv w0 ps0 H0 H [] w) (hR : ∀ (r0 : g6) (gr0 : Nat) (H' : Hp) (w' : World) (_ : Inv w0 ps0 H0 H' [bx gr0 92 (a6c r0)] w') (_ : K r0 H'), R (Value.pointer (some ⟨gr0, 0, none⟩)) w') (h : a3p x0 H K) : F57 (vs x0) w R E := by
 unfold a3p at h
 unfold F57
 refine a7 (d2L ) ?_
 refine G7 I (cs := [(vi 0), (vi 0), (vi 0), (Value.bool false), (Value.bool false), (Value.slice none 0 0)]) rfl fun g_2 w_3 I_4 k_5 => ?_
 refine L5 I_4 Tryd.zeroValue93 (cs := [(Value.pointer none)]) rfl fun g_7 w_8 I_9 b6z => ?_
 refine u1 I_9 Tryd.sizeOf93 (vs := [(Value.pointer (some ⟨g_2, 0, none⟩))]) (cs' := [(Value.pointer (some ⟨g_2, 0, none⟩))]) rfl rfl (nb rfl) rfl rfl fun Y2 G6 b4o => ?_
 refine L5 G6 Tryd.zeroValue139 (cs := [Value.nilFunc]) rfl fun b4S q7 a5i d6k => ?_
 refine a7 (b7U _ _ _) ?_
 refine u1 a5i Tryd.sizeOf139 (vs := [(Value.func (.func 89) #[] #[(Value.pointer (some ⟨g_7, 0, none⟩)), (Value.pointer (some ⟨b4S, 0, none⟩))])]) (cs' := [(Value.func (.func 89) #[] #[(Value.pointer (some ⟨g_7, 0, none⟩)), (Value.pointer (some ⟨b4S, 0, none⟩))])]) rfl rfl (nb rfl) rfl rfl fun a5L b4C d5x => ?_
 have hj1 : ∀ (cr_1j1_0 : Int) (cr_1j1_1 : Int) (cr_1j1_2 : Int) (cr_1j1_3 : Bool) (cr_1j1_4 : Bool) (ccr_1j1_5 : (List ByteArray)) (scr_1j1_5 : Sl) (Fcr_1j1_5 : Frag) (H : Hp) (w : World) (_ : RowL 9 1 s8 scr_1j1_5 ccr_1j1_5 Fcr_1j1_5) (_ : Inv w0 ps0 H0 H [bx g_7 93 [(Value.pointer (some ⟨g_2, 0, none⟩))], bx g_2 92 [(vi cr_1j1_0), (vi cr_1j1_1), (vi cr_1j1_2), (Value.bool cr_1j1_3), (Value.bool cr_1j1_4), (vs scr_1j1_5)], bx b4S 139 [(Value.func (.func 89) #[] #[(Value.pointer (some ⟨g_7, 0, none⟩)), (Value.pointer (some ⟨b4S, 0, none⟩))])], Fcr_1j1_5] w) (_ : K3 cr_1j1_0 cr_1j1_1 cr_1j1_2 cr_1j1_3 cr_1j1_4 ccr_1j1_5 H K), c3T (Value.pointer (some ⟨g_7, 0, none⟩)) w R E := by
  intro cr_1j1_0 cr_1j1_1 cr_1j1_2 cr_1j1_3 cr_1j1_4 ccr_1j1_5 scr_1j1_5 Fcr_1j1_5 H w hcr_1j1_5 I h
  unfold c3T
  intro _
  unfold K3 at h
  refine c7 (ld1 Tryd.isAgg93 (I.at1 (o := 0) (vs := [(Value.pointer (some ⟨g_2, 0, none⟩))]) (nb rfl) rfl)) ?_
  obtain ⟨c1O, a7U, f1w, a8U, b1F⟩ := Inv.freezeC (I.bring 3) hcr_1j1_5 (by decide)
  replace h := h scr_1j1_5 c1O f1w a8U b1F
  exact hR (g6.mk cr_1j1_0 cr_1j1_1 cr_1j1_2 cr_1j1_3 cr_1j1_4 scr_1j1_5) g_2 c1O _ (a7U.drop.bring 1).drop h
 refine p9 fun j1 hx1 => ?_
 refine c7 (ld1 Tryd.isAgg139 (b4C.at1 (o := 0) (vs := [(Value.func (.func 89) #[] #[(Value.pointer (some ⟨g_7, 0, none⟩)), (Value.pointer (some ⟨b4S, 0, none⟩))])]) (nb rfl) rfl)) ?_
 refine f8 (cap := [(Value.pointer (some ⟨g_7, 0, none⟩)), (Value.pointer (some ⟨b4S, 0, none⟩))]) (fun args w => Tryd.call89 args w) ?_
 refine i6 (Fi := [bx g_7 93 [(Value.pointer (some ⟨g_2, 0, none⟩))], bx g_2 92 [(vi 0), (vi 0), (vi 0), (Value.bool false), (Value.bool false), (Value.slice (Sl.mk none 0 0).a (Sl.mk none 0 0).n (Sl.mk none 0 0).c)], [], bx b4S 139 [(Value.func (.func 89) #[] #[(Value.pointer (some ⟨g_7, 0, none⟩)), (Value.pointer (some ⟨b4S, 0, none⟩))])]]) (Fr := []) ((((b4C.nil.bring 1).bring 1).bring 3).bring 3) (h g_7 g_2 b4S (Sl.mk none 0 0) ([]) (RowL.nil (e := 9) a9p a9q)) (fun g7H b4R f1e r5 a9W c4Y g3s g3t => ?_) (fun _ _ _ _ _ q => q.elim)
 obtain ⟨d0r, D3, a6g, a9d, b4T, rfl, rfl, b4U, h⟩ := g3t
 refine a7 (I7 _) ?_
 refine k9 (fun b9b => ?_) (fun b9b => ?_)
 ·replace h := h.1 b9b
  exact hx1 _ _ (hj1 ((D3).fnodes) ((D3).fdepth) ((D3).fe) ((D3).fform) ((D3).fnamed) a6g a9d b4T b4R _ b4U ((((a9W.bring 2).bring 3).bring 3).bring 3) h)
 ·replace h := h.2 b9b
  refine c7 (ld1 Tryd.isAgg93 (a9W.at1 (o := 0) (vs := [(Value.pointer (some ⟨g_2, 0, none⟩))]) (nb rfl) rfl)) ?_
  refine a7 (i7 _) ?_
  refine a7 b3W ?_
  refine c7 (ld1 Tryd.isAgg4 ((a9W.bring 1).at1 (o := 3) (vs := [(Value.bool ((D3).fform))]) (nb rfl) rfl)) ?_
  refine k9 (fun a5l => ?_) (fun a5l => ?_)
  ·replace h := h.1 a5l
   refine c7 (ld1 Tryd.isAgg93 (a9W.at1 (o := 0) (vs := [(Value.pointer (some ⟨g_2, 0, none⟩))]) (nb rfl) rfl)) ?_
   refine a7 (i7 _) ?_
   refine a7 a0t ?_
   refine u1 (a9W.bring 1) Tryd.sizeOf34 (vs := [(vi 30)]) (cs' := [(vi ((D3).fnodes)), (vi ((D3).fdepth)), (vi 30), (Value.bool ((D3).fform)), (Value.bool ((D3).fnamed)), (vs a9d)]) rfl rfl (nb rfl) rfl rfl fun e5C d5n g2c => ?_
   exact hx1 _ _ (hj1 ((D3).fnodes) ((D3).fdepth) 30 ((D3).fform) ((D3).fnamed) a6g a9d b4T b4R _ b4U ((((d5n.bring 2).bring 3).bring 2).bring 3) h)
  ·replace h := h.2 a5l
   refine c7 (ld1 Tryd.isAgg93 (a9W.at1 (o := 0) (vs := [(Value.pointer (some ⟨g_2, 0, none⟩))]) (nb rfl) rfl)) ?_
   refine a7 (i7 _) ?_
   refine a7 b3X ?_
   refine c7 (ld1 Tryd.isAgg4 ((a9W.bring 1).at1 (o := 4) (vs := [(Value.bool ((D3).fnamed))]) (nb rfl) rfl)) ?_
   refine k9 (fun d6l => ?_) (fun d6l => ?_)
   ·replace h := h.1 d6l
    refine c7 (ld1 Tryd.isAgg93 (a9W.at1 (o := 0) (vs := [(Value.pointer (some ⟨g_2, 0, none⟩))]) (nb rfl) rfl)) ?_
    refine a7 (i7 _) ?_
    refine a7 a0t ?_
    refine u1 (a9W.bring 1) Tryd.sizeOf34 (vs := [(vi 31)]) (cs' := [(vi ((D3).fnodes)), (vi ((D3).fdepth)), (vi 31), (Value.bool ((D3).fform)), (Value.bool ((D3).fnamed)), (vs a9d)]) rfl rfl (nb rfl) rfl rfl fun C3 c1F g2w => ?_
    exact hx1 _ _ (hj1 ((D3).fnodes) ((D3).fdepth) 31 ((D3).fform) ((D3).fnamed) a6g a9d b4T b4R _ b4U ((((c1F.bring 2).bring 3).bring 2).bring 3) h)
   ·replace h := h.2 d6l
    exact hx1 _ _ (hj1 ((D3).fnodes) ((D3).fdepth) ((D3).fe) ((D3).fform) ((D3).fnamed) a6g a9d b4T b4R _ b4U ((((a9W.bring 2).bring 3).bring 3).bring 3) h)
theorem b4V (x0 : Sl) {H : Hp} {K : g6 → Hp → Prop} (h : a3p x0 H K) : a2Z x0 H K := by
 intro w I
 refine e4O ?_
 refine b3C x0 I (fun r0 gr0 H' w' I' hk => ⟨H', _, I', r0, gr0, rfl, rfl, hk⟩) h
def a4H (x0 : g5) (H : Hp) (K : g6 → Hp → Prop) : Prop :=
 G9 x0.D8 H (fun (a7X : Sl) (H_8 : Hp) =>
 u2 x0.P1 H_8 (fun (a7Y : Sl) (b6F : Hp) =>
 ∀ (a8V : Sl) (a7Z : Hp), Hle b6F a7Z → SlH a7Z 1 csl a8V [a7X, a7Y] → a8V.n ≤ a8V.c →
 A7 a8V a7Z (fun (K8 : Sl) (Q3 : Hp) =>
 a2Z K8 Q3 (fun (d0s : g6) (a8c : Hp) =>
 K d0s a8c))))
theorem b6N (x0 : g5) {w0 w : World} {ps0 : Nat → Prop} {H0 H : Hp} {K : g6 → Hp → Prop} {R : Value → World → Prop} {E : Pan} (I : Inv w0 ps0 H0 H [] w) (hR : ∀ (r0 : g6) (gr0 : Nat) (H' : Hp) (w' : World) (_ : Inv w0 ps0 H0 H' [bx gr0 92 (a6c r0)] w') (_ : K r0 H'), R (Value.pointer (some ⟨gr0, 0, none⟩)) w') (h : a4H x0 H K) : F66 (Value.agg (d7 x0).toArray) w R E := by
 unfold a4H at h
 unfold F66
 refine G7 I (cs := (d7 x0)) rfl fun g_2 w_3 I_4 k_5 => ?_
 refine a9L I_4 fun w_6 I_7 => ?_
 refine D5 L0 ?_
 refine D5 a0s ?_
 refine a1b (ld1 Tryd.isAgg22 (I_7.at1 (o := 0) (vs := [(vs x0.D8)]) (nb rfl) rfl)) ?_
 refine a1b (ld1 Tryd.isAgg23 (I_7.at1 (o := 1) (vs := [(vs x0.P1)]) (nb rfl) rfl)) ?_
 refine f8 (cap := []) (fun args w => Tryd.call95 args w) ?_
 refine i6 (Fi := []) (Fr := [bx g_2 25 (d7 x0)]) I_7 (h) (fun f0Z H_8 f1a w_9 b4v c1D b8w c4U => ?_) (fun _ _ _ _ _ q => q.elim)
 obtain ⟨a7X, rfl, rfl, h⟩ := c4U
 refine ⟨(b8w _ I_7.lt1 (Inv.a7y (Fi := []) I_7)), ?_⟩
 refine f8 (cap := []) (fun args w => Tryd.call97 args w) ?_
 refine i6 (Fi := []) (Fr := [bx g_2 25 (d7 x0)]) b4v (h) (fun f1b b6F f1c r6 b1E f1d c1E c4V => ?_) (fun _ _ _ _ _ q => q.elim)
 obtain ⟨a7Y, rfl, rfl, h⟩ := c4V
 refine a6l (e := 97) (c := csl) (xs := [a7X, a7Y]) b1E (c3y _ _ _ _ _ _) rfl rfl c2T c2U (nb rfl) fun a8V f1e a8R d5k a1p b4w => ?_
 obtain ⟨a7Z, d5l, b4j, b1F, b4x⟩ := Inv.freezeC a1p d5k (by decide)
 replace h := h a8V a7Z b4j b1F b4x
 refine f8 (cap := []) (fun args w => Tryd.call94 args w) ?_
 refine i6 (Fi := []) (Fr := [bx g_2 25 (d7 x0)]) d5l (h) (fun b2W Q3 c9F a7J a4t a9R b6G b4y => ?_) (fun _ _ _ _ _ q => q.elim)
 obtain ⟨K8, rfl, rfl, h⟩ := b4y
 refine f8 (cap := []) (fun args w => Tryd.call57 args w) ?_
 refine i6 (Fi := []) (Fr := [bx g_2 25 (d7 x0)]) a4t (h) (fun g2N a8c g2O I8 c5j c5k f1q d5J => ?_) (fun _ _ _ _ _ q => q.elim)
 obtain ⟨d0s, f1x, rfl, rfl, h⟩ := d5J
 exact hR d0s f1x a8c _ (c5j.bring 1).drop h
theorem b7R (x0 : g5) {H : Hp} {K : g6 → Hp → Prop} (h : a4H x0 H K) : a1A x0 H K := by
 intro w I
 refine e5V ?_
 refine b6N x0 I (fun r0 gr0 H' w' I' hk => ⟨H', _, I', r0, gr0, rfl, rfl, hk⟩) h
def a2u (x0 : i4) (x1 : i4) (H : Hp) (K : Bool → Hp → Prop) : Prop :=
 TG (((decide (x0.b9 = x1.b9)) && (decide (x0.g7 = x1.g7))) = true) (j8 x0.f9 x1.f9 H) false H (fun (y6 : Bool) (Q0 : Hp) =>
 TG ((((decide (x0.b9 = x1.b9)) && (decide (x0.g7 = x1.g7))) && y6) = true) (h8 x0.k3 x1.k3 Q0) false Q0 (fun (D7 : Bool) (Q4 : Hp) =>
 TG (((((decide (x0.b9 = x1.b9)) && (decide (x0.g7 = x1.g7))) && y6) && D7) = true) (d4 x0.u0 x1.u0 Q4) false Q4 (fun (K9 : Bool) (T3 : Hp) =>
 TG ((((((decide (x0.b9 = x1.b9)) && (decide (x0.g7 = x1.g7))) && y6) && D7) && K9) = true) (d4 x0.s7 x1.s7 T3) false T3 (fun (K8 : Bool) (Q3 : Hp) =>
 K ((((((decide (x0.b9 = x1.b9)) && (decide (x0.g7 = x1.g7))) && y6) && D7) && K9) && K8) Q3))))
theorem b2x (x0 : i4) (x1 : i4) {w0 w : World} {ps0 : Nat → Prop} {H0 H : Hp} {K : Bool → Hp → Prop} {R : Value → World → Prop} {E : Pan} (I : Inv w0 ps0 H0 H [] w) (hR : ∀ (r0 : Bool) (H' : Hp) (w' : World) (_ : Inv w0 ps0 H0 H' [] w') (_ : K r0 H'), R (Value.bool r0) w') (h : a2u x0 x1 H K) : F54 (Value.agg (d5 x0).toArray) (Value.agg (d5 x1).toArray) w R E := by
 unfold a2u at h
 unfold F54
 refine G7 I (cs := (d5 x0)) rfl fun g_2 w_3 I_4 k_5 => ?_
 refine G7 I_4 (cs := (d5 x1)) rfl fun g_7 w_8 I_9 b6z => ?_
 refine a7 y9 ?_
 refine c7 (ld1 Tryd.isAgg3 ((I_9.bring 1).at1 (o := 0) (vs := [(vi x0.b9)]) (nb rfl) rfl)) ?_
 refine a7 y9 ?_
 refine c7 (ld1 Tryd.isAgg3 (I_9.at1 (o := 0) (vs := [(vi x1.b9)]) (nb rfl) rfl)) ?_
 refine a7 (d6 _ _ _ _ _ _) ?_
 refine a7 (Pu.g fun hb => by have a6 := hb; first | exact a0u | (simp only [b7 a6, a8 a6, a8 hb, l9 a6]; exact a0u) | (simp only [b7 a6, a8 a6, a8 hb, c9 a6, d9]; exact a0u)) ?_
 refine c7 (Ld.g fun hb => by have a6 := hb; first | exact (ld1 Tryd.isAgg9 ((I_9.bring 1).at1 (o := 1) (vs := [(Value.string x0.g7)]) (nb rfl) rfl)) | (simp only [a8 a6]; exact (ld1 Tryd.isAgg9 ((I_9.bring 1).at1 (o := 1) (vs := [(Value.string x0.g7)]) (nb rfl) rfl))) | (simp only [b7 a6, a8 a6, a8 hb, c9 a6, d9]; exact (ld1 Tryd.isAgg9 ((I_9.bring 1).at1 (o := 1) (vs := [(Value.string x0.g7)]) (nb rfl) rfl)))) ?_
 refine a7 (Pu.g fun hb => by have a6 := hb; first | exact a0u | (simp only [b7 a6, a8 a6, a8 hb, l9 a6]; exact a0u) | (simp only [b7 a6, a8 a6, a8 hb, c9 a6, d9]; exact a0u)) ?_
 refine c7 (Ld.g fun hb => by have a6 := hb; first | exact (ld1 Tryd.isAgg9 (I_9.at1 (o := 1) (vs := [(Value.string x1.g7)]) (nb rfl) rfl)) | (simp only [a8 a6]; exact (ld1 Tryd.isAgg9 (I_9.at1 (o := 1) (vs := [(Value.string x1.g7)]) (nb rfl) rfl))) | (simp only [b7 a6, a8 a6, a8 hb, c9 a6, d9]; exact (ld1 Tryd.isAgg9 (I_9.at1 (o := 1) (vs := [(Value.string x1.g7)]) (nb rfl) rfl)))) ?_
 refine a7 (Pu.g fun hb => by have a6 := hb; first | exact (F0 _ _ _ _ _) | (simp only [a8 a6]; exact (F0 _ _ _ _ _)) | (simp only [b7 a6, a8 a6, a8 hb, c9 a6, d9]; exact (F0 _ _ _ _ _))) ?_
 refine a7 (k7 _ _) ?_
 refine a7 (Pu.g fun hb => by have a6 := hb; first | exact N0 | (simp only [b7 a6, a8 a6, a8 hb, l9 a6]; exact N0) | (simp only [b7 a6, a8 a6, a8 hb, c9 a6, d9]; exact N0)) ?_
 refine c7 (Ld.g fun hb => by have a6 := hb; first | exact (ld1 Tryd.isAgg28 ((I_9.bring 1).at1 (o := 2) (vs := [(vs x0.f9)]) (nb rfl) rfl)) | (simp only [a8 a6]; exact (ld1 Tryd.isAgg28 ((I_9.bring 1).at1 (o := 2) (vs := [(vs x0.f9)]) (nb rfl) rfl))) | (simp only [b7 a6, a8 a6, a8 hb, c9 a6, d9]; exact (ld1 Tryd.isAgg28 ((I_9.bring 1).at1 (o := 2) (vs := [(vs x0.f9)]) (nb rfl) rfl)))) ?_
 refine a7 (Pu.g fun hb => by have a6 := hb; first | exact N0 | (simp only [b7 a6, a8 a6, a8 hb, l9 a6]; exact N0) | (simp only [b7 a6, a8 a6, a8 hb, c9 a6, d9]; exact N0)) ?_
 refine c7 (Ld.g fun hb => by have a6 := hb; first | exact (ld1 Tryd.isAgg28 (I_9.at1 (o := 2) (vs := [(vs x1.f9)]) (nb rfl) rfl)) | (simp only [a8 a6]; exact (ld1 Tryd.isAgg28 (I_9.at1 (o := 2) (vs := [(vs x1.f9)]) (nb rfl) rfl))) | (simp only [b7 a6, a8 a6, a8 hb, c9 a6, d9]; exact (ld1 Tryd.isAgg28 (I_9.at1 (o := 2) (vs := [(vs x1.f9)]) (nb rfl) rfl)))) ?_
 refine L2 (D := fun a9O k6 => ∃ (y6 : Bool) (Q0 : Hp) , a9O = (gv ((decide (x0.b9 = x1.b9)) && (decide (x0.g7 = x1.g7))) true (Value.bool y6)) ∧ (Inv w0 ps0 H0 Q0 [bx g_7 88 (d5 x1), bx g_2 88 (d5 x0)] k6) ∧ (∀ i, i < w_8.heap.size → ¬ inF [] i → k6.heap[i]? = w_8.heap[i]?) ∧ Hle H Q0 ∧ (TG ((((decide (x0.b9 = x1.b9)) && (decide (x0.g7 = x1.g7))) && y6) = true) (h8 x0.k3 x1.k3 Q0) false Q0 (fun (D7 : Bool) (Q4 : Hp) =>
 TG (((((decide (x0.b9 = x1.b9)) && (decide (x0.g7 = x1.g7))) && y6) && D7) = true) (d4 x0.u0 x1.u0 Q4) false Q4 (fun (K9 : Bool) (T3 : Hp) =>
 TG ((((((decide (x0.b9 = x1.b9)) && (decide (x0.g7 = x1.g7))) && y6) && D7) && K9) = true) (d4 x0.s7 x1.s7 T3) false T3 (fun (K8 : Bool) (Q3 : Hp) =>
 K ((((((decide (x0.b9 = x1.b9)) && (decide (x0.g7 = x1.g7))) && y6) && D7) && K9) && K8) Q3))))) (fun c1P => ?_) (fun c1P => ?_) ?_
 ·replace h := h.1 c1P
  have a6 := c1P
  try simp only [a8 a6]
  refine f8 (cap := []) (fun args w => Tryd.call83 args w) ?_
  refine i6 (Fi := []) (Fr := [bx g_7 88 (d5 x1), bx g_2 88 (d5 x0)]) I_9 (h) (fun a9O Q0 d5a k6 a0L b1q b4m b8j => ?_) (fun _ _ _ _ _ q => q.elim)
  obtain ⟨y6, rfl, rfl, h⟩ := b8j
  exact ⟨y6, Q0, by first | rfl | rw [a8 c1P], a0L, b4m, b1q, h⟩
 ·exact ⟨false, H, by first | rfl | rw [a0E c1P], I_9, fun _ _ _ => rfl, Hle.refl _, h.2 c1P⟩
 ·clear h
  rintro a9O k6 ⟨y6, Q0, rfl, a0L, b4m, b1q, h⟩
  refine a7 (k7 _ _) ?_
  refine a7 (Pu.g fun hb => by have a6 := hb; first | exact N1 | (simp only [b7 a6, a8 a6, a8 hb, l9 a6]; exact N1) | (simp only [b7 a6, a8 a6, a8 hb, c9 a6, d9]; exact N1)) ?_
  refine c7 (Ld.g fun hb => by have a6 := hb; first | exact (ld1 Tryd.isAgg31 ((a0L.bring 1).at1 (o := 3) (vs := [(vs x0.k3)]) (nb rfl) rfl)) | (simp only [a8 a6]; exact (ld1 Tryd.isAgg31 ((a0L.bring 1).at1 (o := 3) (vs := [(vs x0.k3)]) (nb rfl) rfl))) | (simp only [b7 a6, a8 a6, a8 hb, c9 a6, d9]; exact (ld1 Tryd.isAgg31 ((a0L.bring 1).at1 (o := 3) (vs := [(vs x0.k3)]) (nb rfl) rfl)))) ?_
  refine a7 (Pu.g fun hb => by have a6 := hb; first | exact N1 | (simp only [b7 a6, a8 a6, a8 hb, l9 a6]; exact N1) | (simp only [b7 a6, a8 a6, a8 hb, c9 a6, d9]; exact N1)) ?_
  refine c7 (Ld.g fun hb => by have a6 := hb; first | exact (ld1 Tryd.isAgg31 (a0L.at1 (o := 3) (vs := [(vs x1.k3)]) (nb rfl) rfl)) | (simp only [a8 a6]; exact (ld1 Tryd.isAgg31 (a0L.at1 (o := 3) (vs := [(vs x1.k3)]) (nb rfl) rfl))) | (simp only [b7 a6, a8 a6, a8 hb, c9 a6, d9]; exact (ld1 Tryd.isAgg31 (a0L.at1 (o := 3) (vs := [(vs x1.k3)]) (nb rfl) rfl)))) ?_
  refine L2 (D := fun b1N a0q => ∃ (D7 : Bool) (Q4 : Hp) , b1N = (gv (((decide (x0.b9 = x1.b9)) && (decide (x0.g7 = x1.g7))) && y6) true (Value.bool D7)) ∧ (Inv w0 ps0 H0 Q4 [bx g_7 88 (d5 x1), bx g_2 88 (d5 x0)] a0q) ∧ (∀ i, i < k6.heap.size → ¬ inF [] i → a0q.heap[i]? = k6.heap[i]?) ∧ Hle Q0 Q4 ∧ (TG (((((decide (x0.b9 = x1.b9)) && (decide (x0.g7 = x1.g7))) && y6) && D7) = true) (d4 x0.u0 x1.u0 Q4) false Q4 (fun (K9 : Bool) (T3 : Hp) =>
 TG ((((((decide (x0.b9 = x1.b9)) && (decide (x0.g7 = x1.g7))) && y6) && D7) && K9) = true) (d4 x0.s7 x1.s7 T3) false T3 (fun (K8 : Bool) (Q3 : Hp) =>
 K ((((((decide (x0.b9 = x1.b9)) && (decide (x0.g7 = x1.g7))) && y6) && D7) && K9) && K8) Q3)))) (fun a9e => ?_) (fun a9e => ?_) ?_
  ·replace h := h.1 a9e
   have a6 := a9e
   try simp only [a8 a6]
   refine f8 (cap := []) (fun args w => Tryd.call85 args w) ?_
   refine i6 (Fi := []) (Fr := [bx g_7 88 (d5 x1), bx g_2 88 (d5 x0)]) a0L (h) (fun b1N Q4 f1p a0q a1Y a6p b4H c5g => ?_) (fun _ _ _ _ _ q => q.elim)
   obtain ⟨D7, rfl, rfl, h⟩ := c5g
   exact ⟨D7, Q4, by first | rfl | rw [a8 a9e], a1Y, b4H, a6p, h⟩
  ·exact ⟨false, Q0, by first | rfl | rw [a0E a9e], a0L, fun _ _ _ => rfl, Hle.refl _, h.2 a9e⟩
  ·clear h
   rintro b1N a0q ⟨D7, Q4, rfl, a1Y, b4H, a6p, h⟩
   refine a7 (k7 _ _) ?_
   refine a7 (Pu.g fun hb => by have a6 := hb; first | exact P4 | (simp only [b7 a6, a8 a6, a8 hb, l9 a6]; exact P4) | (simp only [b7 a6, a8 a6, a8 hb, c9 a6, d9]; exact P4)) ?_
   refine c7 (Ld.g fun hb => by have a6 := hb; first | exact (ld1 Tryd.isAgg23 ((a1Y.bring 1).at1 (o := 4) (vs := [(vs x0.u0)]) (nb rfl) rfl)) | (simp only [a8 a6]; exact (ld1 Tryd.isAgg23 ((a1Y.bring 1).at1 (o := 4) (vs := [(vs x0.u0)]) (nb rfl) rfl))) | (simp only [b7 a6, a8 a6, a8 hb, c9 a6, d9]; exact (ld1 Tryd.isAgg23 ((a1Y.bring 1).at1 (o := 4) (vs := [(vs x0.u0)]) (nb rfl) rfl)))) ?_
   refine a7 (Pu.g fun hb => by have a6 := hb; first | exact P4 | (simp only [b7 a6, a8 a6, a8 hb, l9 a6]; exact P4) | (simp only [b7 a6, a8 a6, a8 hb, c9 a6, d9]; exact P4)) ?_
   refine c7 (Ld.g fun hb => by have a6 := hb; first | exact (ld1 Tryd.isAgg23 (a1Y.at1 (o := 4) (vs := [(vs x1.u0)]) (nb rfl) rfl)) | (simp only [a8 a6]; exact (ld1 Tryd.isAgg23 (a1Y.at1 (o := 4) (vs := [(vs x1.u0)]) (nb rfl) rfl))) | (simp only [b7 a6, a8 a6, a8 hb, c9 a6, d9]; exact (ld1 Tryd.isAgg23 (a1Y.at1 (o := 4) (vs := [(vs x1.u0)]) (nb rfl) rfl)))) ?_
   refine L2 (D := fun b6O t7 => ∃ (K9 : Bool) (T3 : Hp) , b6O = (gv ((((decide (x0.b9 = x1.b9)) && (decide (x0.g7 = x1.g7))) && y6) && D7) true (Value.bool K9)) ∧ (Inv w0 ps0 H0 T3 [bx g_7 88 (d5 x1), bx g_2 88 (d5 x0)] t7) ∧ (∀ i, i < a0q.heap.size → ¬ inF [] i → t7.heap[i]? = a0q.heap[i]?) ∧ Hle Q4 T3 ∧ (TG ((((((decide (x0.b9 = x1.b9)) && (decide (x0.g7 = x1.g7))) && y6) && D7) && K9) = true) (d4 x0.s7 x1.s7 T3) false T3 (fun (K8 : Bool) (Q3 : Hp) =>
 K ((((((decide (x0.b9 = x1.b9)) && (decide (x0.g7 = x1.g7))) && y6) && D7) && K9) && K8) Q3))) (fun a4u => ?_) (fun a4u => ?_) ?_
   ·replace h := h.1 a4u
    have a6 := a4u
    try simp only [a8 a6]
    refine f8 (cap := []) (fun args w => Tryd.call53 args w) ?_
    refine i6 (Fi := []) (Fr := [bx g_7 88 (d5 x1), bx g_2 88 (d5 x0)]) a1Y (h) (fun b6O T3 f1y t7 a1p b3c b4w c5y => ?_) (fun _ _ _ _ _ q => q.elim)
    obtain ⟨K9, rfl, rfl, h⟩ := c5y
    exact ⟨K9, T3, by first | rfl | rw [a8 a4u], a1p, b4w, b3c, h⟩
   ·exact ⟨false, Q4, by first | rfl | rw [a0E a4u], a1Y, fun _ _ _ => rfl, Hle.refl _, h.2 a4u⟩
   ·clear h
    rintro b6O t7 ⟨K9, T3, rfl, a1p, b4w, b3c, h⟩
    refine a7 (k7 _ _) ?_
    refine a7 (Pu.g fun hb => by have a6 := hb; first | exact K5 | (simp only [b7 a6, a8 a6, a8 hb, l9 a6]; exact K5) | (simp only [b7 a6, a8 a6, a8 hb, c9 a6, d9]; exact K5)) ?_
    refine c7 (Ld.g fun hb => by have a6 := hb; first | exact (ld1 Tryd.isAgg23 ((a1p.bring 1).at1 (o := 5) (vs := [(vs x0.s7)]) (nb rfl) rfl)) | (simp only [a8 a6]; exact (ld1 Tryd.isAgg23 ((a1p.bring 1).at1 (o := 5) (vs := [(vs x0.s7)]) (nb rfl) rfl))) | (simp only [b7 a6, a8 a6, a8 hb, c9 a6, d9]; exact (ld1 Tryd.isAgg23 ((a1p.bring 1).at1 (o := 5) (vs := [(vs x0.s7)]) (nb rfl) rfl)))) ?_
    refine a7 (Pu.g fun hb => by have a6 := hb; first | exact K5 | (simp only [b7 a6, a8 a6, a8 hb, l9 a6]; exact K5) | (simp only [b7 a6, a8 a6, a8 hb, c9 a6, d9]; exact K5)) ?_
    refine c7 (Ld.g fun hb => by have a6 := hb; first | exact (ld1 Tryd.isAgg23 (a1p.at1 (o := 5) (vs := [(vs x1.s7)]) (nb rfl) rfl)) | (simp only [a8 a6]; exact (ld1 Tryd.isAgg23 (a1p.at1 (o := 5) (vs := [(vs x1.s7)]) (nb rfl) rfl))) | (simp only [b7 a6, a8 a6, a8 hb, c9 a6, d9]; exact (ld1 Tryd.isAgg23 (a1p.at1 (o := 5) (vs := [(vs x1.s7)]) (nb rfl) rfl)))) ?_
    refine L2 (D := fun b2W a7J => ∃ (K8 : Bool) (Q3 : Hp) , b2W = (gv (((((decide (x0.b9 = x1.b9)) && (decide (x0.g7 = x1.g7))) && y6) && D7) && K9) true (Value.bool K8)) ∧ (Inv w0 ps0 H0 Q3 [bx g_7 88 (d5 x1), bx g_2 88 (d5 x0)] a7J) ∧ (∀ i, i < t7.heap.size → ¬ inF [] i → a7J.heap[i]? = t7.heap[i]?) ∧ Hle T3 Q3 ∧ (K ((((((decide (x0.b9 = x1.b9)) && (decide (x0.g7 = x1.g7))) && y6) && D7) && K9) && K8) Q3)) (fun a9f => ?_) (fun a9f => ?_) ?_
    ·replace h := h.1 a9f
     have a6 := a9f
     try simp only [a8 a6]
     refine f8 (cap := []) (fun args w => Tryd.call53 args w) ?_
     refine i6 (Fi := []) (Fr := [bx g_7 88 (d5 x1), bx g_2 88 (d5 x0)]) a1p (h) (fun b2W Q3 c9F a7J a4t a9R b6G b4y => ?_) (fun _ _ _ _ _ q => q.elim)
     obtain ⟨K8, rfl, rfl, h⟩ := b4y
     exact ⟨K8, Q3, by first | rfl | rw [a8 a9f], a4t, b6G, a9R, h⟩
    ·exact ⟨false, T3, by first | rfl | rw [a0E a9f], a1p, fun _ _ _ => rfl, Hle.refl _, h.2 a9f⟩
    ·clear h
     rintro b2W a7J ⟨K8, Q3, rfl, a4t, b6G, a9R, h⟩
     refine a7 (k7 _ _) ?_
     exact hR ((((((decide (x0.b9 = x1.b9)) && (decide (x0.g7 = x1.g7))) && y6) && D7) && K9) && K8) Q3 _ a4t.drop.drop h
theorem b3d (x0 : i4) (x1 : i4) {H : Hp} {K : Bool → Hp → Prop} (h : a2u x0 x1 H K) : a2p x0 x1 H K := by
 intro w I
 refine e4x ?_
 refine b2x x0 x1 I (fun r0 H' w' I' hk => ⟨H', _, I', r0, rfl, rfl, hk⟩) h
def p5 (H : Hp) (K : Bool → Hp → Prop) : Prop :=
 K true H
def m4 (a0M : Sl) (b2H : Sl) (b2I : Int) (E6 : Int) (H : Hp) (n2 : Int → Hp → Prop) (K : Bool → Hp → Prop) : Prop :=
 (E6 < b2I →
 (0 : Int) ≤ E6 ∧ (E6 : Int) < b2H.n ∧ ∃ x_1 : i4, EltH H b2H E6 6 (d5 x_1) ∧
 (0 : Int) ≤ E6 ∧ (E6 : Int) < a0M.n ∧ ∃ a2F : i4, EltH H a0M E6 6 (d5 a2F) ∧
 a2p x_1 a2F H (fun (T6 : Bool) (a1E : Hp) =>
 ((!T6) = true →
 K false a1E) ∧
 ((!T6) = false →
 n2 (IntKind.wrap .i64 (E6 + 1)) a1E))) ∧
 (¬ (E6 < b2I) →
 p5 H K)
def m7 (x0 : Sl) (x1 : Sl) (H : Hp) (K : Bool → Hp → Prop) : Prop :=
 (¬ ((x0.n : Int) = (x1.n : Int)) →
 K false H) ∧
 ((x0.n : Int) = (x1.n : Int) →
 TL (0 : Int) H fun (s : Int) H n2 => m4 x1 x0 (x0.n : Int) s H n2 K)
theorem J3 (x0 : Sl) (x1 : Sl) {w0 w : World} {ps0 : Nat → Prop} {H0 H : Hp} {K : Bool → Hp → Prop} {R : Value → World → Prop} {E : Pan} (I : Inv w0 ps0 H0 H [] w) (hR : ∀ (r0 : Bool) (H' : Hp) (w' : World) (_ : Inv w0 ps0 H0 H' [] w') (_ : K r0 H'), R (Value.bool r0) w') (h : m7 x0 x1 H K) : F53 (vs x0) (vs x1) (Value.func (.func 54) #[] #[]) w R E := by
 unfold m7 at h
 unfold F53
 refine a7 (K2 _ _ _) ?_
 refine a7 (K2 _ _ _) ?_
 refine a7 (u7 _ _ _ _ _ _) ?_
 refine a2H (fun b1r => ?_) (fun b1r => ?_)
 ·replace h := h.1 b1r
  exact hR false H _ I h
 ·replace h := h.2 b1r
  have hj1 : ∀ (H : Hp) (w : World) (_ : Inv w0 ps0 H0 H [] w) (_ : p5 H K), c3O w R E := by
   intro H w I h
   unfold c3O
   intro _
   unfold p5 at h
   exact hR true H _ I h
  refine p9 fun j1 hx1 => ?_
  refine a7 (K2 _ _ _) ?_
  obtain ⟨b1s, a5R, c4J, c4K⟩ := h
  refine v6 (J := fun n l w => ∃ (s : Int) (H : Hp) , n = a5R s ∧ l = [(vi s)] ∧ Inv w0 ps0 H0 H [] w ∧ b1s s H) ⟨_, 0, H, rfl, rfl, I, c4J⟩ ?_
  rintro f0T τ_47 w next2 ⟨E6, H, rfl, b6A, I, c4L⟩ hn2
  simp only [List.map_cons, List.map_nil, List.cons.injEq, and_true] at b6A
  have e17 := b6A
  simp only [e17]
  obtain ⟨n2, hm2, h⟩ : ∃ n2 : Int → Hp → Prop, (∀ s' H', n2 s' H' → b1s s' H' ∧ a5R s' < a5R E6) ∧ m4 x1 x0 (x0.n : Int) E6 H n2 K := ⟨_, fun _ _ h => h, c4K E6 H (fun s' H' => b1s s' H' ∧ a5R s' < a5R E6) c4L (fun _ _ a b => ⟨a, b⟩)⟩
  unfold d2R
  unfold m4 at h
  refine a7 (r8 _ _ _ _ _ _) ?_
  refine g9 (fun b1t => ?_) (fun b1t => ?_)
  ·replace h := h.1 b1t
   obtain ⟨h_4, h_5, x_1, h_7, h⟩ := h
   obtain ⟨g_2, o_3, h_6, h_7⟩ := h_7
   refine a7 (a4q h_6 _ _ _ _ h_4 h_5) ?_
   refine c7 (ldA (vs := (d5 x_1)) Tryd.isAgg88 Tryd.sizeOf88 rfl (I.atH h_7)) ?_
   refine L5 I Tryd.zeroValue88 (cs := [(vi 0), (Value.string ⟨#[]⟩), (Value.slice none 0 0), (Value.slice none 0 0), (Value.slice none 0 0), (Value.slice none 0 0)]) rfl fun g_9 m1 a0Y a8S => ?_
   refine u1 a0Y Tryd.sizeOf88 (vs := (d5 x_1)) (cs' := (d5 x_1)) rfl rfl (nb rfl) rfl rfl fun V5 T2 b2T => ?_
   obtain ⟨b1u, b4n, a2F, a6S, h⟩ := h
   obtain ⟨f0U, f0V, c4M, a6S⟩ := a6S
   refine a7 (a4q c4M _ _ _ _ b1u b4n) ?_
   refine c7 (ldA (vs := (d5 a2F)) Tryd.isAgg88 Tryd.sizeOf88 rfl (T2.atH a6S)) ?_
   refine L5 T2 Tryd.zeroValue88 (cs := [(vi 0), (Value.string ⟨#[]⟩), (Value.slice none 0 0), (Value.slice none 0 0), (Value.slice none 0 0), (Value.slice none 0 0)]) rfl fun a5S a6m a8T c4N => ?_
   refine u1 a8T Tryd.sizeOf88 (vs := (d5 a2F)) (cs' := (d5 a2F)) rfl rfl (nb rfl) rfl rfl fun v8 a5T c9y => ?_
   refine c7 (ldA Tryd.isAgg88 Tryd.sizeOf88 rfl ((a5T.bring 1).at1 (o := 0) (vs := (d5 x_1)) (nb rfl) rfl)) ?_
   refine c7 (ldA Tryd.isAgg88 Tryd.sizeOf88 rfl (a5T.at1 (o := 0) (vs := (d5 a2F)) (nb rfl) rfl)) ?_
   refine f8 (cap := []) (fun args w => Tryd.call54 args w) ?_
   refine i6 (Fi := []) (Fr := [bx a5S 88 (d5 a2F), bx g_9 88 (d5 x_1)]) a5T (h) (fun c1v a1E d5b y8 a7U c4O c4P b8k => ?_) (fun _ _ _ _ _ q => q.elim)
   obtain ⟨T6, rfl, rfl, h⟩ := b8k
   refine a7 (I7 _) ?_
   refine k9 (fun a6T => ?_) (fun a6T => ?_)
   ·replace h := h.1 a6T
    exact hR false a1E _ a7U.drop.drop h
   ·replace h := h.2 a6T
    refine a7 (q8 _ _ _ _ _ _) ?_
    exact hn2 _ _ _ (hm2 _ _ h).2 ⟨(IntKind.wrap .i64 (E6 + 1)), a1E, rfl, rfl, a7U.drop.drop, (hm2 _ _ h).1⟩
  ·replace h := h.2 b1t
   exact hx1 _ _ (hj1 H _ I h)
theorem J6 (x0 : Sl) (x1 : Sl) {H : Hp} {K : Bool → Hp → Prop} (h : m7 x0 x1 H K) : d4 x0 x1 H K := by
 intro w I
 refine e4o ?_
 refine J3 x0 x1 I (fun r0 H' w' I' hk => ⟨H', _, I', r0, rfl, rfl, hk⟩) h
def X0 (x0 : b8) (x1 : Int) (H : Hp) (K : Bool → b8 → Hp → Prop) : Prop :=
 (¬ (x0.fbad = 0) →
 K false x0 H) ∧
 (x0.fbad = 0 →
 (x0.fn = 4096 →
 K false (b8.mk x0.fn x0.fdepth 33) H) ∧
 (¬ (x0.fn = 4096) →
 (64 < x1 →
 K false (b8.mk x0.fn x0.fdepth 32) H) ∧
 (¬ (64 < x1) →
 K true (b8.mk (IntKind.wrap .i64 (x0.fn + 1)) (if x1 > x0.fdepth then x1 else x0.fdepth) x0.fbad) H)))
theorem a8h (x0 : b8) (x1 : Int) (g0 : Nat) {w0 w : World} {ps0 : Nat → Prop} {H0 H : Hp} {K : Bool → b8 → Hp → Prop} {R : Value → World → Prop} {E : Pan} (I : Inv w0 ps0 H0 H [bx g0 99 (f5 x0)] w) (hR : ∀ (r0 : Bool) (y0 : b8) (H' : Hp) (w' : World) (_ : Inv w0 ps0 H0 H' [bx g0 99 (f5 y0)] w') (_ : K r0 y0 H'), R (Value.bool r0) w') (h : X0 x0 x1 H K) : F91 (Value.pointer (some ⟨g0, 0, none⟩)) (vi x1) w R E := by
 unfold X0 at h
 unfold F91
 refine a7 (i7 _) ?_
 refine a7 u5 ?_
 refine c7 (ld1 Tryd.isAgg3 (I.at1 (o := 2) (vs := [(vi x0.fbad)]) (nb rfl) rfl)) ?_
 refine a7 (u7 _ _ _ _ _ _) ?_
 refine a2H (fun a5j => ?_) (fun a5j => ?_)
 ·replace h := h.1 a5j
  exact hR false x0 H _ I h
 ·replace h := h.2 a5j
  refine a7 (i7 _) ?_
  refine a7 b0d ?_
  refine c7 (ld1 Tryd.isAgg3 (I.at1 (o := 0) (vs := [(vi x0.fn)]) (nb rfl) rfl)) ?_
  refine a7 (d6 _ _ _ _ _ _) ?_
  refine g9 (fun b1B => ?_) (fun b1B => ?_)
  ·replace h := h.1 b1B
   refine a7 (i7 _) ?_
   refine a7 u5 ?_
   refine u1 I Tryd.sizeOf3 (vs := [(vi 33)]) (cs' := [(vi x0.fn), (vi x0.fdepth), (vi 33)]) rfl rfl (nb rfl) rfl rfl fun w_1 I_2 k_3 => ?_
   exact hR false (b8.mk x0.fn x0.fdepth 33) H _ I_2 h
  ·replace h := h.2 b1B
   refine a7 (a2W _ _ _ _ _ _) ?_
   refine g9 (fun b9c => ?_) (fun b9c => ?_)
   ·replace h := h.1 b9c
    refine a7 (i7 _) ?_
    refine a7 u5 ?_
    refine u1 I Tryd.sizeOf3 (vs := [(vi 32)]) (cs' := [(vi x0.fn), (vi x0.fdepth), (vi 32)]) rfl rfl (nb rfl) rfl rfl fun w_4 I_5 k_6 => ?_
    exact hR false (b8.mk x0.fn x0.fdepth 32) H _ I_5 h
   ·replace h := h.2 b9c
    refine a7 (i7 _) ?_
    refine a7 b0d ?_
    refine c7 (ld1 Tryd.isAgg3 (I.at1 (o := 0) (vs := [(vi x0.fn)]) (nb rfl) rfl)) ?_
    refine a7 (q8 _ _ _ _ _ _) ?_
    refine a7 (i7 _) ?_
    refine a7 b0d ?_
    refine u1 I Tryd.sizeOf3 (vs := [(vi (IntKind.wrap .i64 (x0.fn + 1)))]) (cs' := [(vi (IntKind.wrap .i64 (x0.fn + 1))), (vi x0.fdepth), (vi x0.fbad)]) rfl rfl (nb rfl) rfl rfl fun w_7 I_8 k_9 => ?_
    refine a7 (i7 _) ?_
    refine a7 b3T ?_
    refine c7 (ld1 Tryd.isAgg3 (I_8.at1 (o := 1) (vs := [(vi x0.fdepth)]) (nb rfl) rfl)) ?_
    refine a7 (d2G _ _ _ _ _) ?_
    refine a7 (i7 _) ?_
    refine a7 b3T ?_
    refine u1 I_8 Tryd.sizeOf3 (vs := [(vi (if x1 > x0.fdepth then x1 else x0.fdepth))]) (cs' := [(vi (IntKind.wrap .i64 (x0.fn + 1))), (vi (if x1 > x0.fdepth then x1 else x0.fdepth)), (vi x0.fbad)]) rfl rfl (nb rfl) rfl rfl fun m1 a0Y a8S => ?_
    exact hR true (b8.mk (IntKind.wrap .i64 (x0.fn + 1)) (if x1 > x0.fdepth then x1 else x0.fdepth) x0.fbad) H _ a0Y h
theorem a8y (x0 : b8) (x1 : Int) {H : Hp} {K : Bool → b8 → Hp → Prop} (h : X0 x0 x1 H K) : K4 x0 x1 H K := by
 intro g0 w I
 refine e7b ?_
 refine a8h x0 x1 g0 I (fun r0 y0 H' w' I' hk => ⟨H', _, I', r0, y0, rfl, rfl, hk⟩) h
def X1 (cr_11j2 : b8) (_cr_6j2 : b8) (_cr_1j2 : g5) (H : Hp) (K : b8 → Hp → Prop) : Prop :=
 K cr_11j2 H
def X2 (cr_1l3 : g5) (V8 : Int) (cr_11l3 : b8) (cr_6l3 : b8) (H : Hp) (n3 : (Int × b8 × b8) → Hp → Prop) (K : b8 → Hp → Prop) : Prop :=
 (((decide (V8 < (cr_1l3.P1.n : Int))) && (decide (cr_11l3.fbad = 0))) = true →
 (0 : Int) ≤ V8 ∧ (V8 : Int) < cr_1l3.P1.n ∧ ∃ b4W : i4, EltH H cr_1l3.P1 V8 6 (d5 b4W) ∧
 O3 cr_11l3 b4W 1 H (fun (b4X : b8) (b9d : Hp) =>
 n3 ((IntKind.wrap .i64 (V8 + 1)), b4X, cr_6l3) b9d)) ∧
 (((decide (V8 < (cr_1l3.P1.n : Int))) && (decide (cr_11l3.fbad = 0))) = false →
 X1 cr_11l3 cr_6l3 cr_1l3 H K)
def X3 (cr_11j1 : b8) (cr_6j1 : b8) (cr_1j1 : g5) (H : Hp) (K : b8 → Hp → Prop) : Prop :=
 TL ((0, cr_11j1, cr_6j1) : Int × b8 × b8) H fun (s : Int × b8 × b8) H n3 => X2 cr_1j1 s.1 s.2.1 s.2.2 H n3 K
def X4 (cr_1l4 : g5) (a1s : Int) (cr_11l4 : b8) (cr_6l4 : b8) (H : Hp) (n4 : (Int × b8 × b8) → Hp → Prop) (K : b8 → Hp → Prop) : Prop :=
 (((decide (a1s < (cr_1l4.D8.n : Int))) && (decide (cr_11l4.fbad = 0))) = true →
 K4 cr_11l4 1 H (fun (_r0_98 : Bool) (d0t : b8) (d6m : Hp) =>
 n4 ((IntKind.wrap .i64 (a1s + 1)), d0t, cr_6l4) d6m)) ∧
 (((decide (a1s < (cr_1l4.D8.n : Int))) && (decide (cr_11l4.fbad = 0))) = false →
 X3 cr_11l4 cr_6l4 cr_1l4 H K)
def a0y (x0 : g5) (H : Hp) (K : b8 → Hp → Prop) : Prop :=
 TL ((0, (b8.mk 0 0 0), (b8.mk 0 0 0)) : Int × b8 × b8) H fun (s : Int × b8 × b8) H n4 => X4 x0 s.1 s.2.1 s.2.2 H n4 K
theorem a9F (x0 : g5) {w0 w : World} {ps0 : Nat → Prop} {H0 H : Hp} {K : b8 → Hp → Prop} {R : Value → World → Prop} {E : Pan} (I : Inv w0 ps0 H0 H [] w) (hR : ∀ (r0 : b8) (H' : Hp) (w' : World) (_ : Inv w0 ps0 H0 H' [] w') (_ : K r0 H'), R (Value.agg (f5 r0).toArray) w') (h : a0y x0 H K) : F63 (Value.agg (d7 x0).toArray) w R E := by
 unfold a0y at h
 unfold F63
 refine G7 I (cs := (d7 x0)) rfl fun g_2 w_3 I_4 k_5 => ?_
 refine L5 I_4 Tryd.zeroValue99 (cs := [(vi 0), (vi 0), (vi 0)]) rfl fun g_7 w_8 I_9 b6z => ?_
 refine a7 (d2J ) ?_
 refine L5 I_9 Tryd.zeroValue99 (cs := [(vi 0), (vi 0), (vi 0)]) rfl fun b3e V5 T2 b2T => ?_
 refine u1 T2 Tryd.sizeOf99 (vs := [(vi 0), (vi 0), (vi 0)]) (cs' := [(vi 0), (vi 0), (vi 0)]) rfl rfl (nb rfl) rfl rfl fun q7 a5i d6k => ?_
 have hj1 : ∀ (cr_11j1 : b8) (cr_6j1 : b8) (H : Hp) (w : World) (_ : Inv w0 ps0 H0 H [bx b3e 99 (f5 cr_11j1), bx g_7 99 (f5 cr_6j1), bx g_2 25 (d7 x0)] w) (_ : X3 cr_11j1 cr_6j1 x0 H K), c4a (Value.pointer (some ⟨g_2, 0, none⟩)) (Value.pointer (some ⟨g_7, 0, none⟩)) (Value.pointer (some ⟨b3e, 0, none⟩)) w R E := by
  intro cr_11j1 cr_6j1 H w I h
  unfold c4a
  intro _
  unfold X3 at h
  have hj2 : ∀ (cr_11j2 : b8) (cr_6j2 : b8) (H : Hp) (w : World) (_ : Inv w0 ps0 H0 H [bx b3e 99 (f5 cr_11j2), bx g_7 99 (f5 cr_6j2), bx g_2 25 (d7 x0)] w) (_ : X1 cr_11j2 cr_6j2 x0 H K), c3Z (Value.pointer (some ⟨g_7, 0, none⟩)) (Value.pointer (some ⟨b3e, 0, none⟩)) w R E := by
   intro cr_11j2 cr_6j2 H w I h
   unfold c3Z
   intro _
   unfold X1 at h
   refine c7 (ldA Tryd.isAgg99 Tryd.sizeOf99 rfl (I.at1 (o := 0) (vs := (f5 cr_11j2)) (nb rfl) rfl)) ?_
   refine u1 (I.bring 1) Tryd.sizeOf99 (vs := (f5 cr_11j2)) (cs' := (f5 cr_11j2)) rfl rfl (nb rfl) rfl rfl fun E5 b4F f1o => ?_
   refine c7J Tryd.isAgg99 Tryd.sizeOf99 rfl (b4F.at1 (o := 0) (vs := (f5 cr_11j2)) (nb rfl) rfl) ?_
   exact hR cr_11j2 H _ b4F.drop.drop.drop h
  refine p9 fun j2 hx2 => ?_
  obtain ⟨b9e, b1X, d6n, b2V⟩ := h
  refine v6 (J := fun n l w => ∃ (s : Int × b8 × b8) (H : Hp) , n = b1X s ∧ l = (match s with | (V8, cr_11l3, cr_6l3) => [(vi V8)]) ∧ (match s with | (V8, cr_11l3, cr_6l3) => Inv w0 ps0 H0 H [bx b3e 99 (f5 cr_11l3), bx g_7 99 (f5 cr_6l3), bx g_2 25 (d7 x0)] w) ∧ b9e s H) ⟨_, (0, cr_11j1, cr_6j1), H, rfl, rfl, (((I.bring 2).bring 2).bring 2), d6n⟩ ?_
  rintro g3u τ_78 w next3 ⟨⟨V8, cr_11l3, cr_6l3⟩, H, rfl, a7O, I, d6o⟩ hn3
  dsimp only at a7O I
  simp only [List.map_cons, List.map_nil, List.cons.injEq, and_true] at a7O
  have e5 := a7O
  simp only [e5]
  obtain ⟨n3, hm3, h⟩ : ∃ n3 : (Int × b8 × b8) → Hp → Prop, (∀ s' H', n3 s' H' → b9e s' H' ∧ b1X s' < b1X (V8, cr_11l3, cr_6l3)) ∧ X2 x0 V8 cr_11l3 cr_6l3 H n3 K := ⟨_, fun _ _ h => h, b2V (V8, cr_11l3, cr_6l3) H (fun s' H' => b9e s' H' ∧ b1X s' < b1X (V8, cr_11l3, cr_6l3)) d6o (fun _ _ a b => ⟨a, b⟩)⟩
  unfold d2V
  unfold X2 at h
  refine a7 a0s ?_
  refine c7 (ld1 Tryd.isAgg23 ((I.bring 2).at1 (o := 1) (vs := [(vs x0.P1)]) (nb rfl) rfl)) ?_
  refine a7 (K2 _ _ _) ?_
  refine a7 (r8 _ _ _ _ _ _) ?_
  refine a7 (Pu.g fun hb => by have a6 := hb; first | exact u5 | (simp only [b7 a6, a8 a6, a8 hb, l9 a6]; exact u5) | (simp only [b7 a6, a8 a6, a8 hb, c9 a6, d9]; exact u5)) ?_
  refine c7 (Ld.g fun hb => by have a6 := hb; first | exact (ld1 Tryd.isAgg3 (I.at1 (o := 2) (vs := [(vi cr_11l3.fbad)]) (nb rfl) rfl)) | (simp only [a8 a6]; exact (ld1 Tryd.isAgg3 (I.at1 (o := 2) (vs := [(vi cr_11l3.fbad)]) (nb rfl) rfl))) | (simp only [b7 a6, a8 a6, a8 hb, c9 a6, d9]; exact (ld1 Tryd.isAgg3 (I.at1 (o := 2) (vs := [(vi cr_11l3.fbad)]) (nb rfl) rfl)))) ?_
  refine a7 (Pu.g fun hb => by have a6 := hb; first | exact (d6 _ _ _ _ _ _) | (simp only [a8 a6]; exact (d6 _ _ _ _ _ _)) | (simp only [b7 a6, a8 a6, a8 hb, c9 a6, d9]; exact (d6 _ _ _ _ _ _))) ?_
  refine a7 (k7 _ _) ?_
  refine k9 (fun a5q => ?_) (fun a5q => ?_)
  ·replace h := h.1 a5q
   refine a7 a0s ?_
   refine c7 (ld1 Tryd.isAgg23 ((I.bring 2).at1 (o := 1) (vs := [(vs x0.P1)]) (nb rfl) rfl)) ?_
   obtain ⟨c4Z, d6p, b4W, b4G, h⟩ := h
   obtain ⟨g3v, g3w, d6q, b4G⟩ := b4G
   refine a7 (a4q d6q _ _ _ _ c4Z d6p) ?_
   refine c7 (ldA (vs := (d5 b4W)) Tryd.isAgg88 Tryd.sizeOf88 rfl (I.atH b4G)) ?_
   refine f8 (cap := []) (fun args w => Tryd.call92 args w) ?_
   refine i6 (Fi := [bx b3e 99 (f5 cr_11l3)]) (Fr := [bx g_7 99 (f5 cr_6l3), bx g_2 25 (d7 x0)]) I (h b3e) (fun g3x b9d g3y V6 d6r d0o g3z d6s => ?_) (fun _ _ _ _ _ q => q.elim)
   obtain ⟨b4X, rfl, rfl, h⟩ := d6s
   refine a7 (q8 _ _ _ _ _ _) ?_
   exact hn3 _ _ _ (hm3 _ _ h).2 ⟨((IntKind.wrap .i64 (V8 + 1)), b4X, cr_6l3), b9d, rfl, rfl, (((d6r.bring 2).bring 2).bring 2), (hm3 _ _ h).1⟩
  ·replace h := h.2 a5q
   exact hx2 _ _ (hj2 cr_11l3 cr_6l3 H _ (((I.bring 2).bring 2).bring 2) h)
 refine p9 fun j1 hx1 => ?_
 obtain ⟨b4Y, a8i, d0u, d0v⟩ := h
 refine v6 (J := fun n l w => ∃ (s : Int × b8 × b8) (H : Hp) , n = a8i s ∧ l = (match s with | (a1s, cr_11l4, cr_6l4) => [(vi a1s)]) ∧ (match s with | (a1s, cr_11l4, cr_6l4) => Inv w0 ps0 H0 H [bx b3e 99 (f5 cr_11l4), bx g_7 99 (f5 cr_6l4), bx g_2 25 (d7 x0)] w) ∧ b4Y s H) ⟨_, (0, (b8.mk 0 0 0), (b8.mk 0 0 0)), H, rfl, rfl, (((a5i.bring 2).bring 2).bring 2), d0u⟩ ?_
 rintro f9h τ_105 w next4 ⟨⟨a1s, cr_11l4, cr_6l4⟩, H, rfl, b4Z, I, d0w⟩ hn4
 dsimp only at b4Z I
 simp only [List.map_cons, List.map_nil, List.cons.injEq, and_true] at b4Z
 have e4 := b4Z
 simp only [e4]
 obtain ⟨n4, hm4, h⟩ : ∃ n4 : (Int × b8 × b8) → Hp → Prop, (∀ s' H', n4 s' H' → b4Y s' H' ∧ a8i s' < a8i (a1s, cr_11l4, cr_6l4)) ∧ X4 x0 a1s cr_11l4 cr_6l4 H n4 K := ⟨_, fun _ _ h => h, d0v (a1s, cr_11l4, cr_6l4) H (fun s' H' => b4Y s' H' ∧ a8i s' < a8i (a1s, cr_11l4, cr_6l4)) d0w (fun _ _ a b => ⟨a, b⟩)⟩
 unfold d2W
 unfold X4 at h
 refine a7 L0 ?_
 refine c7 (ld1 Tryd.isAgg22 ((I.bring 2).at1 (o := 0) (vs := [(vs x0.D8)]) (nb rfl) rfl)) ?_
 refine a7 (a5K _ _ _) ?_
 refine a7 (r8 _ _ _ _ _ _) ?_
 refine a7 (Pu.g fun hb => by have a6 := hb; first | exact u5 | (simp only [b7 a6, a8 a6, a8 hb, l9 a6]; exact u5) | (simp only [b7 a6, a8 a6, a8 hb, c9 a6, d9]; exact u5)) ?_
 refine c7 (Ld.g fun hb => by have a6 := hb; first | exact (ld1 Tryd.isAgg3 (I.at1 (o := 2) (vs := [(vi cr_11l4.fbad)]) (nb rfl) rfl)) | (simp only [a8 a6]; exact (ld1 Tryd.isAgg3 (I.at1 (o := 2) (vs := [(vi cr_11l4.fbad)]) (nb rfl) rfl))) | (simp only [b7 a6, a8 a6, a8 hb, c9 a6, d9]; exact (ld1 Tryd.isAgg3 (I.at1 (o := 2) (vs := [(vi cr_11l4.fbad)]) (nb rfl) rfl)))) ?_
 refine a7 (Pu.g fun hb => by have a6 := hb; first | exact (d6 _ _ _ _ _ _) | (simp only [a8 a6]; exact (d6 _ _ _ _ _ _)) | (simp only [b7 a6, a8 a6, a8 hb, c9 a6, d9]; exact (d6 _ _ _ _ _ _))) ?_
 refine a7 (k7 _ _) ?_
 refine k9 (fun b9f => ?_) (fun b9f => ?_)
 ·replace h := h.1 b9f
  refine f8 (cap := []) (fun args w => Tryd.call91 args w) ?_
  refine i6 (Fi := [bx b3e 99 (f5 cr_11l4)]) (Fr := [bx g_7 99 (f5 cr_6l4), bx g_2 25 (d7 x0)]) I (h b3e) (fun g7I d6m g7J g7K g3A e9r g7L g3B => ?_) (fun _ _ _ _ _ q => q.elim)
  obtain ⟨g5V, d0t, rfl, rfl, h⟩ := g3B
  refine a7 (q8 _ _ _ _ _ _) ?_
  exact hn4 _ _ _ (hm4 _ _ h).2 ⟨((IntKind.wrap .i64 (a1s + 1)), d0t, cr_6l4), d6m, rfl, rfl, (((g3A.bring 2).bring 2).bring 2), (hm4 _ _ h).1⟩
 ·replace h := h.2 b9f
  exact hx1 _ _ (hj1 cr_11l4 cr_6l4 H _ (((I.bring 2).bring 2).bring 2) h)
theorem a9X (x0 : g5) {H : Hp} {K : b8 → Hp → Prop} (h : a0y x0 H K) : a0v x0 H K := by
 intro w I
 refine e5R ?_
 refine a9F x0 I (fun r0 H' w' I' hk => ⟨H', _, I', r0, rfl, rfl, hk⟩) h
def a3q (x0 : h9) (H : Hp) (K : c8 → Hp → Prop) : Prop :=
 K (c8.C2 (E0.mk x0)) H
theorem b3D (x0 : h9) {w0 w : World} {ps0 : Nat → Prop} {H0 H : Hp} {K : c8 → Hp → Prop} {R : Value → World → Prop} {E : Pan} (I : Inv w0 ps0 H0 H [] w) (hR : ∀ (r0 : c8) (H' : Hp) (w' : World) (_ : Inv w0 ps0 H0 H' [] w') (_ : K r0 H'), R (y7 r0) w') (h : a3q x0 H K) : c9n (Value.agg (f4 x0).toArray) w R E := by
 unfold a3q at h
 unfold c9n
 refine G7 I (cs := (f4 x0)) rfl fun g_2 w_3 I_4 k_5 => ?_
 refine c7 (ldA Tryd.isAgg30 Tryd.sizeOf30 rfl (I_4.at1 (o := 0) (vs := (f4 x0)) (nb rfl) rfl)) ?_
 refine a7 (b7V _ _ _ _ _ _) ?_
 refine a7 (a9N (E0.mk x0)) ?_
 exact hR (c8.C2 (E0.mk x0)) H _ I_4.drop h
theorem b5a (x0 : h9) {H : Hp} {K : c8 → Hp → Prop} (h : a3q x0 H K) : a7S x0 H K := by
 intro w I
 refine e0L ?_
 refine b3D x0 I (fun r0 H' w' I' hk => ⟨H', _, I', r0, rfl, rfl, hk⟩) h
def a1t (x0 : E0) (H : Hp) (K : Sl → Hp → Prop) : Prop :=
 u4 x0.m0.t1 H (fun (o0 : Sl) (H_6 : Hp) =>
 K o0 H_6)
theorem b0p (x0 : E0) {w0 w : World} {ps0 : Nat → Prop} {H0 H : Hp} {K : Sl → Hp → Prop} {R : Value → World → Prop} {E : Pan} (I : Inv w0 ps0 H0 H [] w) (hR : ∀ (r0 : Sl) (H' : Hp) (w' : World) (_ : Inv w0 ps0 H0 H' [] w') (_ : K r0 H'), R (vs r0) w') (h : a1t x0 H K) : c9l (Value.agg (f4 x0.m0).toArray) w R E := by
 unfold a1t at h
 unfold c9l
 refine G7 I (cs := (f4 x0.m0)) rfl fun g_2 w_3 I_4 k_5 => ?_
 refine a7 N2 ?_
 refine a7 M6 ?_
 refine c7 (ld1 Tryd.isAgg28 (I_4.at1 (o := 3) (vs := [(vs x0.m0.t1)]) (nb rfl) rfl)) ?_
 refine f8 (cap := []) (fun args w => Tryd.call150 args w) ?_
 refine i6 (Fi := []) (Fr := [bx g_2 96 (f4 x0.m0)]) I_4 (h) (fun a6Q H_6 a6q w_7 I_8 a6R k_9 a0J => ?_) (fun _ _ _ _ _ q => q.elim)
 obtain ⟨o0, rfl, rfl, h⟩ := a0J
 exact hR o0 H_6 _ I_8.drop h
theorem b1Y (x0 : E0) {H : Hp} {K : Sl → Hp → Prop} (h : a1t x0 H K) : a5N x0 H K := by
 intro w I
 refine e0H ?_
 refine b0p x0 I (fun r0 H' w' I' hk => ⟨H', _, I', r0, rfl, rfl, hk⟩) h
end Go.Proofs.YthldnpmfelniiaaDoor
