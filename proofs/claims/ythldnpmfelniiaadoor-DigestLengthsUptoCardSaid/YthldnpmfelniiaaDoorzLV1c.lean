/- Typed formulas of the program's functions, and the theorems that the contracts follow from them; printed by lift.py off the code. -/
import Derived.Test.YthldnpmfelniiaaDoorzLV1
namespace Go.Proofs.YthldnpmfelniiaaDoor
open Go.RowKit
set_option maxRecDepth 100000
set_option maxHeartbeats 2000000
def T9 (x0 : i8) (H : Hp) (K : b4 → Hp → Prop) : Prop :=
 K (b4.t7 (B2.mk x0)) H
theorem a6s (x0 : i8) {w0 w : World} {ps0 : Nat → Prop} {H0 H : Hp} {K : b4 → Hp → Prop} {R : Value → World → Prop} {E : Pan} (I : Inv w0 ps0 H0 H [] w) (hR : ∀ (r0 : b4) (H' : Hp) (w' : World) (_ : Inv w0 ps0 H0 H' [] w') (_ : K r0 H'), R (l8 r0) w') (h : T9 x0 H K) : F98 (Value.agg (d5 x0).toArray) w R E := by
 unfold T9 at h
 unfold F98
 refine K1 I (cs := (d5 x0)) rfl fun g_2 w_3 I_4 k_5 => ?_
 refine b7 (ldA Tryd.isAgg88 Tryd.sizeOf88 rfl (I_4.at1 (o := 0) (vs := (d5 x0)) (nb rfl) rfl)) ?_
 refine a7 (b3R _ _ _ _ _ _ _ _ _ _ _ _ _ _) ?_
 refine a7 (b1L (B2.mk x0)) ?_
 exact hR (b4.t7 (B2.mk x0)) H _ I_4.drop h
theorem a7f (x0 : i8) {H : Hp} {K : b4 → Hp → Prop} (h : T9 x0 H K) : a2P x0 H K := by
 intro w I
 refine c9O ?_
 refine a6s x0 I (fun r0 H' w' I' hk => ⟨H', _, I', r0, rfl, rfl, hk⟩) h
def m5 (N0 : (List b4)) (H : Hp) (K : Sl → Hp → Prop) : Prop :=
 ∀ (u9 : Sl) (Q2 : Hp), Hle H Q2 → SlH Q2 1 g9 u9 N0 → u9.n ≤ u9.c →
 K u9 Q2
def m6 (D3 : Sl) (a2S : Int) (k6 : (List b4)) (j7 : Int) (H : Hp) (n2 : ((List b4) × Int) → Hp → Prop) (K : Sl → Hp → Prop) : Prop :=
 (j7 < a2S →
 (0 : Int) ≤ j7 ∧ (j7 : Int) < D3.n ∧ ∃ x_1 : i8, EltH H D3 j7 6 (d5 x_1) ∧
 a2P x_1 H (fun (G8 : b4) (Q3 : Hp) =>
 (k6.length + ([G8] : List b4).length) * 17 ≤ 140737488355328 ∧
 n2 ((k6 ++ [G8]), (IntKind.wrap .i64 (j7 + 1))) Q3)) ∧
 (¬ (j7 < a2S) →
 m5 k6 H K)
def o5 (x0 : Sl) (H : Hp) (K : Sl → Hp → Prop) : Prop :=
 TL (([], 0) : (List b4) × Int) H fun (s : (List b4) × Int) H n2 => m6 x0 (x0.n : Int) s.1 s.2 H n2 K
theorem P7 (x0 : Sl) {w0 w : World} {ps0 : Nat → Prop} {H0 H : Hp} {K : Sl → Hp → Prop} {R : Value → World → Prop} {E : Pan} (I : Inv w0 ps0 H0 H [] w) (hR : ∀ (r0 : Sl) (H' : Hp) (w' : World) (_ : Inv w0 ps0 H0 H' [] w') (_ : K r0 H'), R (vs r0) w') (h : o5 x0 H K) : F97 (vs x0) (Value.func (.func 98) #[] #[]) w R E := by
 unfold o5 at h
 unfold F97
 have hj1 : ∀ (N0 : (List b4)) (u9 : Sl) (Fs5j1 : Frag) (H : Hp) (w : World) (_ : RowL 141 1 g9 u9 N0 Fs5j1) (_ : Inv w0 ps0 H0 H [Fs5j1] w) (_ : m5 N0 H K), b4n (vs u9) w R E := by
  intro N0 u9 Fs5j1 H w a6W I h
  unfold b4n
  intro _
  unfold m5 at h
  obtain ⟨Q2, a5a, a6c, a9R, a9S⟩ := Inv.freezeC I a6W (by decide)
  replace h := h u9 Q2 a6c a9R a9S
  exact hR u9 Q2 _ a5a h
 refine o8 fun j1 hx1 => ?_
 refine a7 (U4 _ _ _) ?_
 obtain ⟨a2d, V1, a9T, a9U⟩ := h
 refine y8 (J := fun n l w => ∃ (s : (List b4) × Int) (H : Hp) (N1 : Sl) (Fs5l2 : Frag) , n = V1 s ∧ l = (match s with | (k6, j7) => [(vs N1), (vi j7)]) ∧ (match s with | (k6, j7) => RowL 141 1 g9 N1 k6 Fs5l2) ∧ (match s with | (k6, j7) => Inv w0 ps0 H0 H [Fs5l2] w) ∧ a2d s H) ⟨_, ([], 0), H, (Sl.mk none 0 0), [], rfl, rfl, (RowL.nil C9 G5), I.nil, a9T⟩ ?_
 rintro c2y τ_50 w next2 ⟨⟨k6, j7⟩, H, N1, Fs5l2, rfl, a2e, a0s, I, a9V⟩ hn2
 dsimp only at a2e I a0s
 simp only [List.map_cons, List.map_nil, List.cons.injEq, and_true] at a2e
 obtain ⟨e5, e10⟩ := a2e
 simp only [e5, e10]
 obtain ⟨n2, hm2, h⟩ : ∃ n2 : ((List b4) × Int) → Hp → Prop, (∀ s' H', n2 s' H' → a2d s' H' ∧ V1 s' < V1 (k6, j7)) ∧ m6 x0 (x0.n : Int) k6 j7 H n2 K := ⟨_, fun _ _ h => h, a9U (k6, j7) H (fun s' H' => a2d s' H' ∧ V1 s' < V1 (k6, j7)) a9V (fun _ _ a b => ⟨a, b⟩)⟩
 unfold c0A
 unfold m6 at h
 refine a7 (C3 _ _ _ _ _ _) ?_
 refine d9 (fun a0t => ?_) (fun a0t => ?_)
 ·replace h := h.1 a0t
  obtain ⟨h_4, h_5, x_1, h_7, h⟩ := h
  obtain ⟨g_2, o_3, h_6, h_7⟩ := h_7
  refine a7 (a9L h_6 _ _ _ _ h_4 h_5) ?_
  refine b7 (ldA (vs := (d5 x_1)) Tryd.isAgg88 Tryd.sizeOf88 rfl (I.atH h_7)) ?_
  refine B9 I Tryd.zeroValue88 (cs := [(vi 0), (Value.string ⟨#[]⟩), (Value.slice none 0 0), (Value.slice none 0 0), (Value.slice none 0 0), (Value.slice none 0 0)]) rfl fun g_9 k8 Y3 a8p => ?_
  refine r5 Y3 Tryd.sizeOf88 (vs := (d5 x_1)) (cs' := (d5 x_1)) rfl rfl (nb rfl) rfl rfl fun a3V a0h b7Y => ?_
  refine b7 (ldA Tryd.isAgg88 Tryd.sizeOf88 rfl (a0h.at1 (o := 0) (vs := (d5 x_1)) (nb rfl) rfl)) ?_
  refine d7 (cap := []) (fun args w => Tryd.call98 args w) ?_
  refine h9 (Fi := []) (Fr := [bx g_9 88 (d5 x_1), Fs5l2]) a0h (h) (fun b7Z Q3 b8a a1x a0u b8b b4S a6X => ?_) (fun _ _ _ _ _ q => q.elim)
  obtain ⟨G8, rfl, rfl, h⟩ := a6X
  refine a1S (e := 141) (c := g9) (xs := [G8]) a0u (a8S _) rfl rfl C9 G5 (nb rfl) fun b4T b2j B5 a5b a3q b8c => ?_
  obtain ⟨a5c, h⟩ := h
  refine a7Q (s := N1) (xs := k6) (a3q.bring 2) a0s (a5b.srcO ((a3q.bring 2).bring 1)) a5c fun a9W a9X D5 a5d a3X b8d => ?_
  refine a7 (v7 _ _ _ _ _ _) ?_
  exact hn2 _ _ _ (hm2 _ _ h).2 ⟨((k6 ++ [G8]), (IntKind.wrap .i64 (j7 + 1))), Q3, a9W, a9X, rfl, rfl, a5d, ((a3X.bring 1).drop.bring 1).drop, (hm2 _ _ h).1⟩
 ·replace h := h.2 a0t
  exact hx1 _ _ (hj1 k6 N1 Fs5l2 H _ a0s I h)
theorem Q7 (x0 : Sl) {H : Hp} {K : Sl → Hp → Prop} (h : o5 x0 H K) : k3 x0 H K := by
 intro w I
 refine c9M ?_
 refine P7 x0 I (fun r0 H' w' I' hk => ⟨H', _, I', r0, rfl, rfl, hk⟩) h
def p5 (a9e : Bool) (_cr_1j4 : Int) (H : Hp) (K : Int → Hp → Prop) : Prop :=
 (a9e = true →
 K 3 H) ∧
 (a9e = false →
 K 6 H)
def B7 (a9f : Bool) (cr_1j3 : Int) (H : Hp) (K : Int → Hp → Prop) : Prop :=
 (a9f = true →
 K 6 H) ∧
 (a9f = false →
 w5 48 57 cr_1j3 H (fun (C0 : Bool) (H_6 : Hp) =>
 (C0 = true →
 K 4 H_6) ∧
 (C0 = false →
 (cr_1j3 = 95 →
 p5 (decide (cr_1j3 = 95)) cr_1j3 H_6 K) ∧
 (¬ (cr_1j3 = 95) →
 w5 97 122 cr_1j3 H_6 (fun (G8 : Bool) (Q3 : Hp) =>
 (G8 = true →
 p5 G8 cr_1j3 Q3 K) ∧
 (G8 = false →
 w5 65 90 cr_1j3 Q3 (fun (b1i : Bool) (b8q : Hp) =>
 (b1i = true →
 p5 b1i cr_1j3 b8q K) ∧
 (b1i = false →
 w5 192 591 cr_1j3 b8q (fun (b1j : Bool) (b8r : Hp) =>
 (b1j = true →
 p5 b1j cr_1j3 b8r K) ∧
 (b1j = false →
 w5 913 969 cr_1j3 b8r (fun (a0x : Bool) (a1A : Hp) =>
 (a0x = true →
 p5 a0x cr_1j3 a1A K) ∧
 (a0x = false →
 w5 1040 1103 cr_1j3 a1A (fun (b8s : Bool) (c2U : Hp) =>
 p5 b8s cr_1j3 c2U K)))))))))))))
def f6 (b0e : Int) (a9g : Bool) (cr_1j2 : Int) (H : Hp) (K : Int → Hp → Prop) : Prop :=
 (a9g = true →
 K 5 H) ∧
 (a9g = false →
 (b0e = 215 →
 B7 (decide (b0e = 215)) cr_1j2 H K) ∧
 (¬ (b0e = 215) →
 (b0e = 247 →
 B7 (decide (b0e = 247)) cr_1j2 H K) ∧
 (¬ (b0e = 247) →
 B7 (decide (b0e = 930)) cr_1j2 H K)))
def B8 (k5 : Int) (a7g : Bool) (cr_1j1 : Int) (H : Hp) (K : Int → Hp → Prop) : Prop :=
 (a7g = true →
 K 1 H) ∧
 (a7g = false →
 (k5 = 10 →
 K 2 H) ∧
 (¬ (k5 = 10) →
 (k5 = 59 →
 f6 k5 (decide (k5 = 59)) cr_1j1 H K) ∧
 (¬ (k5 = 59) →
 (k5 = 44 →
 f6 k5 (decide (k5 = 44)) cr_1j1 H K) ∧
 (¬ (k5 = 44) →
 (k5 = 123 →
 f6 k5 (decide (k5 = 123)) cr_1j1 H K) ∧
 (¬ (k5 = 123) →
 (k5 = 125 →
 f6 k5 (decide (k5 = 125)) cr_1j1 H K) ∧
 (¬ (k5 = 125) →
 (k5 = 40 →
 f6 k5 (decide (k5 = 40)) cr_1j1 H K) ∧
 (¬ (k5 = 40) →
 (k5 = 41 →
 f6 k5 (decide (k5 = 41)) cr_1j1 H K) ∧
 (¬ (k5 = 41) →
 (k5 = 91 →
 f6 k5 (decide (k5 = 91)) cr_1j1 H K) ∧
 (¬ (k5 = 91) →
 (k5 = 93 →
 f6 k5 (decide (k5 = 93)) cr_1j1 H K) ∧
 (¬ (k5 = 93) →
 (k5 = 61 →
 f6 k5 (decide (k5 = 61)) cr_1j1 H K) ∧
 (¬ (k5 = 61) →
 (k5 = 33 →
 f6 k5 (decide (k5 = 33)) cr_1j1 H K) ∧
 (¬ (k5 = 33) →
 (k5 = 60 →
 f6 k5 (decide (k5 = 60)) cr_1j1 H K) ∧
 (¬ (k5 = 60) →
 (k5 = 62 →
 f6 k5 (decide (k5 = 62)) cr_1j1 H K) ∧
 (¬ (k5 = 62) →
 (k5 = 43 →
 f6 k5 (decide (k5 = 43)) cr_1j1 H K) ∧
 (¬ (k5 = 43) →
 (k5 = 45 →
 f6 k5 (decide (k5 = 45)) cr_1j1 H K) ∧
 (¬ (k5 = 45) →
 (k5 = 42 →
 f6 k5 (decide (k5 = 42)) cr_1j1 H K) ∧
 (¬ (k5 = 42) →
 (k5 = 47 →
 f6 k5 (decide (k5 = 47)) cr_1j1 H K) ∧
 (¬ (k5 = 47) →
 (k5 = 37 →
 f6 k5 (decide (k5 = 37)) cr_1j1 H K) ∧
 (¬ (k5 = 37) →
 (k5 = 38 →
 f6 k5 (decide (k5 = 38)) cr_1j1 H K) ∧
 (¬ (k5 = 38) →
 f6 k5 (decide (k5 = 124)) cr_1j1 H K))))))))))))))))))))
def V7 (x0 : Int) (H : Hp) (K : Int → Hp → Prop) : Prop :=
 (x0 = 32 →
 B8 x0 (decide (x0 = 32)) x0 H K) ∧
 (¬ (x0 = 32) →
 (x0 = 9 →
 B8 x0 (decide (x0 = 9)) x0 H K) ∧
 (¬ (x0 = 9) →
 B8 x0 (decide (x0 = 13)) x0 H K))
theorem a7h (x0 : Int) {w0 w : World} {ps0 : Nat → Prop} {H0 H : Hp} {K : Int → Hp → Prop} {R : Value → World → Prop} {E : Pan} (I : Inv w0 ps0 H0 H [] w) (hR : ∀ (r0 : Int) (H' : Hp) (w' : World) (_ : Inv w0 ps0 H0 H' [] w') (_ : K r0 H'), R (vi r0) w') (h : V7 x0 H K) : b7D (Value.int .i32 x0) w R E := by
 unfold V7 at h
 unfold b7D
 refine K1 I (cs := [(Value.int .i32 x0)]) rfl fun g_2 w_3 I_4 k_5 => ?_
 refine b7 (ld1 Tryd.isAgg21 (I_4.at1 (o := 0) (vs := [(Value.int .i32 x0)]) (nb rfl) rfl)) ?_
 have hj1 : ∀ (a7g : Bool) (H : Hp) (w : World) (_ : Inv w0 ps0 H0 H [bx g_2 21 [(Value.int .i32 x0)]] w) (_ : B8 x0 a7g x0 H K), b1W (Value.pointer (some ⟨g_2, 0, none⟩)) (Value.int .i32 x0) (Value.bool a7g) w R E := by
  intro a7g H w I h
  unfold b1W
  intro _
  unfold B8 at h
  refine p1 (fun c2V => ?_) (fun c2V => ?_)
  ·replace h := h.1 c2V
   exact hR 1 H _ I.drop h
  ·replace h := h.2 c2V
   refine a7 (f5 _ _ _ _ _ _) ?_
   refine d9 (fun b0f => ?_) (fun b0f => ?_)
   ·replace h := h.1 b0f
    exact hR 2 H _ I.drop h
   ·replace h := h.2 b0f
    have hj2 : ∀ (a9g : Bool) (H : Hp) (w : World) (_ : Inv w0 ps0 H0 H [bx g_2 21 [(Value.int .i32 x0)]] w) (_ : f6 x0 a9g x0 H K), b1V (Value.pointer (some ⟨g_2, 0, none⟩)) (Value.int .i32 x0) (Value.bool a9g) w R E := by
     intro a9g H w I h
     unfold b1V
     intro _
     unfold f6 at h
     refine p1 (fun c2W => ?_) (fun c2W => ?_)
     ·replace h := h.1 c2W
      exact hR 5 H _ I.drop h
     ·replace h := h.2 c2W
      have hj3 : ∀ (a9f : Bool) (H : Hp) (w : World) (_ : Inv w0 ps0 H0 H [bx g_2 21 [(Value.int .i32 x0)]] w) (_ : B7 a9f x0 H K), b1U (Value.pointer (some ⟨g_2, 0, none⟩)) (Value.bool a9f) w R E := by
       intro a9f H w I h
       unfold b1U
       intro _
       unfold B7 at h
       refine p1 (fun c2X => ?_) (fun c2X => ?_)
       ·replace h := h.1 c2X
        exact hR 6 H _ I.drop h
       ·replace h := h.2 c2X
        refine a7 (a0I _ _ _) ?_
        refine d7 (cap := [(Value.pointer (some ⟨g_2, 0, none⟩))]) (fun args w => Tryd.call131 args w) ?_
        refine h9 (Fi := [bx g_2 21 [(Value.int .i32 x0)]]) (Fr := []) I (h g_2) (fun a8m H_6 a8n w_7 I_8 a8o k_9 a0Z => ?_) (fun _ _ _ _ _ q => q.elim)
        obtain ⟨C0, rfl, rfl, h⟩ := a0Z
        refine p1 (fun c2Y => ?_) (fun c2Y => ?_)
        ·replace h := h.1 c2Y
         exact hR 4 H_6 _ I_8.drop h
        ·replace h := h.2 c2Y
         have hj4 : ∀ (a9e : Bool) (H : Hp) (w : World) (_ : Inv w0 ps0 H0 H [bx g_2 21 [(Value.int .i32 x0)]] w) (_ : p5 a9e x0 H K), b1T (Value.bool a9e) w R E := by
          intro a9e H w I h
          unfold b1T
          intro _
          unfold p5 at h
          refine p1 (fun a2b => ?_) (fun a2b => ?_)
          ·replace h := h.1 a2b
           exact hR 3 H _ I.drop h
          ·replace h := h.2 a2b
           exact hR 6 H _ I.drop h
         refine o8 fun j4 hx4 => ?_
         refine b7 (ld1 Tryd.isAgg21 (I_8.at1 (o := 0) (vs := [(Value.int .i32 x0)]) (nb rfl) rfl)) ?_
         refine a7 (f5 _ _ _ _ _ _) ?_
         refine d9 (fun b0g => ?_) (fun b0g => ?_)
         ·replace h := h.1 b0g
          exact hx4 _ _ (hj4 (decide (x0 = 95)) H_6 _ I_8 h)
         ·replace h := h.2 b0g
          refine d7 (cap := [(Value.pointer (some ⟨g_2, 0, none⟩))]) (fun args w => Tryd.call131 args w) ?_
          refine h9 (Fi := [bx g_2 21 [(Value.int .i32 x0)]]) (Fr := []) I_8 (h g_2) (fun b7Z Q3 b8a a1x a0u b8b b4S a6X => ?_) (fun _ _ _ _ _ q => q.elim)
          obtain ⟨G8, rfl, rfl, h⟩ := a6X
          refine p1 (fun c2Z => ?_) (fun c2Z => ?_)
          ·replace h := h.1 c2Z
           exact hx4 _ _ (hj4 G8 Q3 _ a0u h)
          ·replace h := h.2 c2Z
           refine d7 (cap := [(Value.pointer (some ⟨g_2, 0, none⟩))]) (fun args w => Tryd.call131 args w) ?_
           refine h9 (Fi := [bx g_2 21 [(Value.int .i32 x0)]]) (Fr := []) a0u (h g_2) (fun e6n b8q e6o y7 b8t e6p e1K e1L => ?_) (fun _ _ _ _ _ q => q.elim)
           obtain ⟨b1i, rfl, rfl, h⟩ := e1L
           refine p1 (fun c3a => ?_) (fun c3a => ?_)
           ·replace h := h.1 c3a
            exact hx4 _ _ (hj4 b1i b8q _ b8t h)
           ·replace h := h.2 c3a
            refine d7 (cap := [(Value.pointer (some ⟨g_2, 0, none⟩))]) (fun args w => Tryd.call131 args w) ?_
            refine h9 (Fi := [bx g_2 21 [(Value.int .i32 x0)]]) (Fr := []) b8t (h g_2) (fun e6q b8r e6r e6s a3X a6c b8d e1M => ?_) (fun _ _ _ _ _ q => q.elim)
            obtain ⟨b1j, rfl, rfl, h⟩ := e1M
            refine p1 (fun c3b => ?_) (fun c3b => ?_)
            ·replace h := h.1 c3b
             exact hx4 _ _ (hj4 b1j b8r _ a3X h)
            ·replace h := h.2 c3b
             refine d7 (cap := [(Value.pointer (some ⟨g_2, 0, none⟩))]) (fun args w => Tryd.call131 args w) ?_
             refine h9 (Fi := [bx g_2 21 [(Value.int .i32 x0)]]) (Fr := []) a3X (h g_2) (fun e1z a1A e1A H8 b2p e1B e1C c2O => ?_) (fun _ _ _ _ _ q => q.elim)
             obtain ⟨a0x, rfl, rfl, h⟩ := c2O
             refine p1 (fun c3c => ?_) (fun c3c => ?_)
             ·replace h := h.1 c3c
              exact hx4 _ _ (hj4 a0x a1A _ b2p h)
             ·replace h := h.2 c3c
              refine d7 (cap := [(Value.pointer (some ⟨g_2, 0, none⟩))]) (fun args w => Tryd.call131 args w) ?_
              refine h9 (Fi := [bx g_2 21 [(Value.int .i32 x0)]]) (Fr := []) b2p (h g_2) (fun e6t c2U e6u e1N e1O e6v e6w e1P => ?_) (fun _ _ _ _ _ q => q.elim)
              obtain ⟨b8s, rfl, rfl, h⟩ := e1P
              exact hx4 _ _ (hj4 b8s c2U _ e1O h)
      refine o8 fun j3 hx3 => ?_
      refine a7 (f5 _ _ _ _ _ _) ?_
      refine d9 (fun b0c => ?_) (fun b0c => ?_)
      ·replace h := h.1 b0c
       exact hx3 _ _ (hj3 (decide (x0 = 215)) H _ I h)
      ·replace h := h.2 b0c
       refine a7 (f5 _ _ _ _ _ _) ?_
       refine d9 (fun b0h => ?_) (fun b0h => ?_)
       ·replace h := h.1 b0h
        exact hx3 _ _ (hj3 (decide (x0 = 247)) H _ I h)
       ·replace h := h.2 b0h
        refine a7 (f5 _ _ _ _ _ _) ?_
        exact hx3 _ _ (hj3 (decide (x0 = 930)) H _ I h)
    refine o8 fun j2 hx2 => ?_
    refine a7 (f5 _ _ _ _ _ _) ?_
    refine d9 (fun c3d => ?_) (fun c3d => ?_)
    ·replace h := h.1 c3d
     exact hx2 _ _ (hj2 (decide (x0 = 59)) H _ I h)
    ·replace h := h.2 c3d
     refine a7 (f5 _ _ _ _ _ _) ?_
     refine d9 (fun b0i => ?_) (fun b0i => ?_)
     ·replace h := h.1 b0i
      exact hx2 _ _ (hj2 (decide (x0 = 44)) H _ I h)
     ·replace h := h.2 b0i
      refine a7 (f5 _ _ _ _ _ _) ?_
      refine d9 (fun b0j => ?_) (fun b0j => ?_)
      ·replace h := h.1 b0j
       exact hx2 _ _ (hj2 (decide (x0 = 123)) H _ I h)
      ·replace h := h.2 b0j
       refine a7 (f5 _ _ _ _ _ _) ?_
       refine d9 (fun c3e => ?_) (fun c3e => ?_)
       ·replace h := h.1 c3e
        exact hx2 _ _ (hj2 (decide (x0 = 125)) H _ I h)
       ·replace h := h.2 c3e
        refine a7 (f5 _ _ _ _ _ _) ?_
        refine d9 (fun c3f => ?_) (fun c3f => ?_)
        ·replace h := h.1 c3f
         exact hx2 _ _ (hj2 (decide (x0 = 40)) H _ I h)
        ·replace h := h.2 c3f
         refine a7 (f5 _ _ _ _ _ _) ?_
         refine d9 (fun c3g => ?_) (fun c3g => ?_)
         ·replace h := h.1 c3g
          exact hx2 _ _ (hj2 (decide (x0 = 41)) H _ I h)
         ·replace h := h.2 c3g
          refine a7 (f5 _ _ _ _ _ _) ?_
          refine d9 (fun c3h => ?_) (fun c3h => ?_)
          ·replace h := h.1 c3h
           exact hx2 _ _ (hj2 (decide (x0 = 91)) H _ I h)
          ·replace h := h.2 c3h
           refine a7 (f5 _ _ _ _ _ _) ?_
           refine d9 (fun b0k => ?_) (fun b0k => ?_)
           ·replace h := h.1 b0k
            exact hx2 _ _ (hj2 (decide (x0 = 93)) H _ I h)
           ·replace h := h.2 b0k
            refine a7 (f5 _ _ _ _ _ _) ?_
            refine d9 (fun b0l => ?_) (fun b0l => ?_)
            ·replace h := h.1 b0l
             exact hx2 _ _ (hj2 (decide (x0 = 61)) H _ I h)
            ·replace h := h.2 b0l
             refine a7 (f5 _ _ _ _ _ _) ?_
             refine d9 (fun c3i => ?_) (fun c3i => ?_)
             ·replace h := h.1 c3i
              exact hx2 _ _ (hj2 (decide (x0 = 33)) H _ I h)
             ·replace h := h.2 c3i
              refine a7 (f5 _ _ _ _ _ _) ?_
              refine d9 (fun c3j => ?_) (fun c3j => ?_)
              ·replace h := h.1 c3j
               exact hx2 _ _ (hj2 (decide (x0 = 60)) H _ I h)
              ·replace h := h.2 c3j
               refine a7 (f5 _ _ _ _ _ _) ?_
               refine d9 (fun c3k => ?_) (fun c3k => ?_)
               ·replace h := h.1 c3k
                exact hx2 _ _ (hj2 (decide (x0 = 62)) H _ I h)
               ·replace h := h.2 c3k
                refine a7 (f5 _ _ _ _ _ _) ?_
                refine d9 (fun c3l => ?_) (fun c3l => ?_)
                ·replace h := h.1 c3l
                 exact hx2 _ _ (hj2 (decide (x0 = 43)) H _ I h)
                ·replace h := h.2 c3l
                 refine a7 (f5 _ _ _ _ _ _) ?_
                 refine d9 (fun a5i => ?_) (fun a5i => ?_)
                 ·replace h := h.1 a5i
                  exact hx2 _ _ (hj2 (decide (x0 = 45)) H _ I h)
                 ·replace h := h.2 a5i
                  refine a7 (f5 _ _ _ _ _ _) ?_
                  refine d9 (fun a5j => ?_) (fun a5j => ?_)
                  ·replace h := h.1 a5j
                   exact hx2 _ _ (hj2 (decide (x0 = 42)) H _ I h)
                  ·replace h := h.2 a5j
                   refine a7 (f5 _ _ _ _ _ _) ?_
                   refine d9 (fun c3m => ?_) (fun c3m => ?_)
                   ·replace h := h.1 c3m
                    exact hx2 _ _ (hj2 (decide (x0 = 47)) H _ I h)
                   ·replace h := h.2 c3m
                    refine a7 (f5 _ _ _ _ _ _) ?_
                    refine d9 (fun b0m => ?_) (fun b0m => ?_)
                    ·replace h := h.1 b0m
                     exact hx2 _ _ (hj2 (decide (x0 = 37)) H _ I h)
                    ·replace h := h.2 b0m
                     refine a7 (f5 _ _ _ _ _ _) ?_
                     refine d9 (fun b0b => ?_) (fun b0b => ?_)
                     ·replace h := h.1 b0b
                      exact hx2 _ _ (hj2 (decide (x0 = 38)) H _ I h)
                     ·replace h := h.2 b0b
                      refine a7 (f5 _ _ _ _ _ _) ?_
                      exact hx2 _ _ (hj2 (decide (x0 = 124)) H _ I h)
 refine o8 fun j1 hx1 => ?_
 refine a7 (f5 _ _ _ _ _ _) ?_
 refine d9 (fun c3n => ?_) (fun c3n => ?_)
 ·replace h := h.1 c3n
  exact hx1 _ _ (hj1 (decide (x0 = 32)) H _ I_4 h)
 ·replace h := h.2 c3n
  refine a7 (f5 _ _ _ _ _ _) ?_
  refine d9 (fun c3o => ?_) (fun c3o => ?_)
  ·replace h := h.1 c3o
   exact hx1 _ _ (hj1 (decide (x0 = 9)) H _ I_4 h)
  ·replace h := h.2 c3o
   refine a7 (f5 _ _ _ _ _ _) ?_
   exact hx1 _ _ (hj1 (decide (x0 = 13)) H _ I_4 h)
theorem a7C (x0 : Int) {H : Hp} {K : Int → Hp → Prop} (h : V7 x0 H K) : V4 x0 H K := by
 intro w I
 refine c6q ?_
 refine a7h x0 I (fun r0 H' w' I' hk => ⟨H', _, I', r0, rfl, rfl, hk⟩) h
def C1 (b2q : Int) (H : Hp) (K : Int → Hp → Prop) : Prop :=
 K b2q H
def C2 (jr_1l2 : ByteArray) (a4a : Int) (ir_1l2 : Nat) (H : Hp) (n2 : (Int × Nat) → Hp → Prop) (K : Int → Hp → Prop) : Prop :=
 (ir_1l2 < jr_1l2.size →
 n2 ((IntKind.wrap .i64 (a4a + 1)), (ir_1l2 + (Utf8.decode jr_1l2 ir_1l2).2)) H) ∧
 (¬ (ir_1l2 < jr_1l2.size) →
 C1 a4a H K)
def E1 (x0 : ByteArray) (H : Hp) (K : Int → Hp → Prop) : Prop :=
 TL ((0, 0) : Int × Nat) H fun (s : Int × Nat) H n2 => C2 x0 s.1 s.2 H n2 K
theorem a1J (x0 : ByteArray) {w0 w : World} {ps0 : Nat → Prop} {H0 H : Hp} {K : Int → Hp → Prop} {R : Value → World → Prop} {E : Pan} (I : Inv w0 ps0 H0 H [] w) (hR : ∀ (r0 : Int) (H' : Hp) (w' : World) (_ : Inv w0 ps0 H0 H' [] w') (_ : K r0 H'), R (vi r0) w') (h : E1 x0 H K) : b7F (Value.string x0) w R E := by
 unfold E1 at h
 unfold b7F
 have hj1 : ∀ (b2q : Int) (H : Hp) (w : World) (_ : Inv w0 ps0 H0 H [] w) (_ : C1 b2q H K), b1Y (vi b2q) w R E := by
  intro b2q H w I h
  unfold b1Y
  intro _
  unfold C1 at h
  exact hR b2q H _ I h
 refine o8 fun j1 hx1 => ?_
 refine b6I Tryd.underlying9 x0 I fun g_2 w_3 I_4 k_5 => ?_
 obtain ⟨c3p, b5i, e1Q, e1R⟩ := h
 refine y8 (J := fun n l w => ∃ (s : Int × Nat) (H : Hp) , n = b5i s ∧ l = (match s with | (a4a, ir_1l2) => [(vi a4a)]) ∧ (match s with | (a4a, ir_1l2) => Inv w0 ps0 H0 H [itf g_2 x0 ir_1l2] w) ∧ c3p s H) ⟨_, (0, 0), H, rfl, rfl, I_4, e1Q⟩ ?_
 rintro e6x τ_27 w next2 ⟨⟨a4a, ir_1l2⟩, H, rfl, c3q, I, e1S⟩ hn2
 dsimp only at c3q I
 simp only [List.map_cons, List.map_nil, List.cons.injEq, and_true] at c3q
 have e2 := c3q
 simp only [e2]
 obtain ⟨n2, hm2, h⟩ : ∃ n2 : (Int × Nat) → Hp → Prop, (∀ s' H', n2 s' H' → c3p s' H' ∧ b5i s' < b5i (a4a, ir_1l2)) ∧ C2 x0 a4a ir_1l2 H n2 K := ⟨_, fun _ _ h => h, e1R (a4a, ir_1l2) H (fun s' H' => c3p s' H' ∧ b5i s' < b5i (a4a, ir_1l2)) e1S (fun _ _ a b => ⟨a, b⟩)⟩
 unfold b6O
 unfold C2 at h
 refine c0p I (fun b0d s7 a6Z b4V => ?_) (fun b0d => ?_)
 ·replace h := h.1 b0d
  refine a7 (u0 _ _ _ rfl) ?_
  refine p1 (fun e => ?_) (fun e => by cases e)
  refine a7 (v7 _ _ _ _ _ _) ?_
  exact hn2 _ _ _ (hm2 _ _ h).2 ⟨((IntKind.wrap .i64 (a4a + 1)), (ir_1l2 + (Utf8.decode x0 ir_1l2).2)), H, rfl, rfl, a6Z, (hm2 _ _ h).1⟩
 ·replace h := h.2 b0d
  refine a7 (u0 _ _ _ rfl) ?_
  refine p1 (fun e => by cases e) (fun e => ?_)
  exact hx1 _ _ (hj1 a4a H _ I.drop h)
theorem a2g (x0 : ByteArray) {H : Hp} {K : Int → Hp → Prop} (h : E1 x0 H K) : L8 x0 H K := by
 intro w I
 refine c6u ?_
 refine a1J x0 I (fun r0 H' w' I' hk => ⟨H', _, I', r0, rfl, rfl, hk⟩) h
def a0y (H : Hp) (K : Bool → Hp → Prop) : Prop :=
 K true H
def B4 (jr_28l2 : ByteArray) (ir_28l2 : Nat) (H : Hp) (n2 : Nat → Hp → Prop) (K : Bool → Hp → Prop) : Prop :=
 (ir_28l2 < jr_28l2.size →
 a0N ((Utf8.decode jr_28l2 ir_28l2).1 : Int) H (fun (a7i : Bool) (b5j : Hp) =>
 TG ((!(!a7i) && (decide (((ir_28l2 : Nat) : Int) = 0))) = true) (V4 ((Utf8.decode jr_28l2 ir_28l2).1 : Int) b5j) 0 b5j (fun (a4t : Int) (a4b : Hp) =>
 (((!a7i) || ((decide (((ir_28l2 : Nat) : Int) = 0)) && (!decide (a4t = 3)))) = true →
 K false a4b) ∧
 (((!a7i) || ((decide (((ir_28l2 : Nat) : Int) = 0)) && (!decide (a4t = 3)))) = false →
 n2 (ir_28l2 + (Utf8.decode jr_28l2 ir_28l2).2) a4b)))) ∧
 (¬ (ir_28l2 < jr_28l2.size) →
 a0y H K)
def Z2 (x0 : ByteArray) (H : Hp) (K : Bool → Hp → Prop) : Prop :=
 TG ((decide (x0 = ⟨#[]⟩)) = false) (a0G x0 H) false H (fun (I1 : Bool) (H_1 : Hp) =>
 TG (((decide (x0 = ⟨#[]⟩)) || (!I1)) = false) (Y6 x0 H_1) false H_1 (fun (v1 : Bool) (a2h : Hp) =>
 TG ((((decide (x0 = ⟨#[]⟩)) || (!I1)) || v1) = false) (T1 x0 a2h) false a2h (fun (a0z : Bool) (a0Q : Hp) =>
 (((((decide (x0 = ⟨#[]⟩)) || (!I1)) || v1) || a0z) = true →
 K false a0Q) ∧
 (((((decide (x0 = ⟨#[]⟩)) || (!I1)) || v1) || a0z) = false →
 TL (0 : Nat) a0Q fun (s : Nat) H n2 => B4 x0 s H n2 K))))
theorem a8s (x0 : ByteArray) {w0 w : World} {ps0 : Nat → Prop} {H0 H : Hp} {K : Bool → Hp → Prop} {R : Value → World → Prop} {E : Pan} (I : Inv w0 ps0 H0 H [] w) (hR : ∀ (r0 : Bool) (H' : Hp) (w' : World) (_ : Inv w0 ps0 H0 H' [] w') (_ : K r0 H'), R (Value.bool r0) w') (h : Z2 x0 H K) : b7y (Value.string x0) w R E := by
 unfold Z2 at h
 unfold b7y
 refine a7 (T0 _ _ _ _ _) ?_
 try simp only [P4]
 refine a3K (D := fun v_5 w_2 => ∃ (I1 : Bool) (H_1 : Hp) , v_5 = (gv (decide (x0 = ⟨#[]⟩)) false (Value.bool I1)) ∧ (Inv w0 ps0 H0 H_1 [] w_2) ∧ (∀ i, i < w.heap.size → ¬ inF [] i → w_2.heap[i]? = w.heap[i]?) ∧ Hle H H_1 ∧ (TG (((decide (x0 = ⟨#[]⟩)) || (!I1)) = false) (Y6 x0 H_1) false H_1 (fun (v1 : Bool) (a2h : Hp) =>
 TG ((((decide (x0 = ⟨#[]⟩)) || (!I1)) || v1) = false) (T1 x0 a2h) false a2h (fun (a0z : Bool) (a0Q : Hp) =>
 (((((decide (x0 = ⟨#[]⟩)) || (!I1)) || v1) || a0z) = true →
 K false a0Q) ∧
 (((((decide (x0 = ⟨#[]⟩)) || (!I1)) || v1) || a0z) = false →
 TL (0 : Nat) a0Q fun (s : Nat) H n2 => B4 x0 s H n2 K))))) (fun a5L => ?_) (fun a5L => ?_) ?_
 ·replace h := h.1 a5L
  have b3 := a5L
  try simp only [b6 b3]
  refine d7 (cap := []) (fun args w => Tryd.call122 args w) ?_
  refine h9 (Fi := []) (Fr := []) I (h) (fun v_5 H_1 F_6 w_2 I_3 l_8 k_4 q_7 => ?_) (fun _ _ _ _ _ q => q.elim)
  obtain ⟨I1, rfl, rfl, h⟩ := q_7
  exact ⟨I1, H_1, by first | rfl | rw [b6 a5L], I_3, k_4, l_8, h⟩
 ·exact ⟨false, H, by first | rfl | rw [a6F a5L], I, fun _ _ _ => rfl, Hle.refl _, h.2 a5L⟩
 ·clear h
  rintro v_5 w_2 ⟨I1, H_1, rfl, I_3, k_4, l_8, h⟩
  refine a7 (Pu.g fun hb => by have b3 := hb; first | exact (E2 _) | (simp only [b6 b3]; exact (E2 _)) | (simp only [d4 b3, b6 b3, b6 hb, E3 b3, l9]; exact (E2 _))) ?_
  refine a7 (a1f _ _) ?_
  try simp only [P4]
  refine a3K (D := fun c3r W3 => ∃ (v1 : Bool) (a2h : Hp) , c3r = (gv ((decide (x0 = ⟨#[]⟩)) || (!I1)) false (Value.bool v1)) ∧ (Inv w0 ps0 H0 a2h [] W3) ∧ (∀ i, i < w_2.heap.size → ¬ inF [] i → W3.heap[i]? = w_2.heap[i]?) ∧ Hle H_1 a2h ∧ (TG ((((decide (x0 = ⟨#[]⟩)) || (!I1)) || v1) = false) (T1 x0 a2h) false a2h (fun (a0z : Bool) (a0Q : Hp) =>
 (((((decide (x0 = ⟨#[]⟩)) || (!I1)) || v1) || a0z) = true →
 K false a0Q) ∧
 (((((decide (x0 = ⟨#[]⟩)) || (!I1)) || v1) || a0z) = false →
 TL (0 : Nat) a0Q fun (s : Nat) H n2 => B4 x0 s H n2 K)))) (fun b2r => ?_) (fun b2r => ?_) ?_
  ·replace h := h.1 b2r
   have b3 := b2r
   try simp only [b6 b3]
   refine d7 (cap := []) (fun args w => Tryd.call123 args w) ?_
   refine h9 (Fi := []) (Fr := []) I_3 (h) (fun c3r a2h e6y W3 y9 b5e b2i e1T => ?_) (fun _ _ _ _ _ q => q.elim)
   obtain ⟨v1, rfl, rfl, h⟩ := e1T
   exact ⟨v1, a2h, by first | rfl | rw [b6 b2r], y9, b2i, b5e, h⟩
  ·exact ⟨false, H_1, by first | rfl | rw [a6F b2r], I_3, fun _ _ _ => rfl, Hle.refl _, h.2 b2r⟩
  ·clear h
   rintro c3r W3 ⟨v1, a2h, rfl, y9, b2i, b5e, h⟩
   refine a7 (a1f _ _) ?_
   try simp only [P4]
   refine a3K (D := fun c3s r6 => ∃ (a0z : Bool) (a0Q : Hp) , c3s = (gv (((decide (x0 = ⟨#[]⟩)) || (!I1)) || v1) false (Value.bool a0z)) ∧ (Inv w0 ps0 H0 a0Q [] r6) ∧ (∀ i, i < W3.heap.size → ¬ inF [] i → r6.heap[i]? = W3.heap[i]?) ∧ Hle a2h a0Q ∧ ((((((decide (x0 = ⟨#[]⟩)) || (!I1)) || v1) || a0z) = true →
 K false a0Q) ∧
 (((((decide (x0 = ⟨#[]⟩)) || (!I1)) || v1) || a0z) = false →
 TL (0 : Nat) a0Q fun (s : Nat) H n2 => B4 x0 s H n2 K))) (fun b2s => ?_) (fun b2s => ?_) ?_
   ·replace h := h.1 b2s
    have b3 := b2s
    try simp only [b6 b3]
    refine d7 (cap := []) (fun args w => Tryd.call124 args w) ?_
    refine h9 (Fi := []) (Fr := []) y9 (h) (fun c3s a0Q d3n r6 a7j d3o b8u e1U => ?_) (fun _ _ _ _ _ q => q.elim)
    obtain ⟨a0z, rfl, rfl, h⟩ := e1U
    exact ⟨a0z, a0Q, by first | rfl | rw [b6 b2s], a7j, b8u, d3o, h⟩
   ·exact ⟨false, a2h, by first | rfl | rw [a6F b2s], y9, fun _ _ _ => rfl, Hle.refl _, h.2 b2s⟩
   ·clear h
    rintro c3s r6 ⟨a0z, a0Q, rfl, a7j, b8u, d3o, h⟩
    refine a7 (a1f _ _) ?_
    refine p1 (fun c3t => ?_) (fun c3t => ?_)
    ·replace h := h.1 c3t
     exact hR false a0Q _ a7j h
    ·replace h := h.2 c3t
     have hj1 : ∀ (H : Hp) (w : World) (_ : Inv w0 ps0 H0 H [] w) (_ : a0y H K), b1P w R E := by
      intro H w I h
      unfold b1P
      intro _
      unfold a0y at h
      exact hR true H _ I h
     refine o8 fun j1 hx1 => ?_
     refine b6I Tryd.underlying9 x0 a7j fun M6 C5 a7a b8e => ?_
     obtain ⟨c3u, b5k, e1V, e1W⟩ := h
     refine y8 (J := fun n l w => ∃ (s : Nat) (H : Hp) , n = b5k s ∧ l = [] ∧ Inv w0 ps0 H0 H [itf M6 x0 s] w ∧ c3u s H) ⟨_, 0, a0Q, rfl, rfl, a7a, e1V⟩ ?_
     rintro e6z τ_94 w next2 ⟨ir_28l2, H, rfl, e1X, I, e1Y⟩ hn2
     clear e1X
     obtain ⟨n2, hm2, h⟩ : ∃ n2 : Nat → Hp → Prop, (∀ s' H', n2 s' H' → c3u s' H' ∧ b5k s' < b5k ir_28l2) ∧ B4 x0 ir_28l2 H n2 K := ⟨_, fun _ _ h => h, e1W ir_28l2 H (fun s' H' => c3u s' H' ∧ b5k s' < b5k ir_28l2) e1Y (fun _ _ a b => ⟨a, b⟩)⟩
     unfold b6L
     unfold B4 at h
     refine c0p I (fun b0h e6A e1Z e6B => ?_) (fun b0h => ?_)
     ·replace h := h.1 b0h
      refine a7 (u0 _ _ _ rfl) ?_
      refine p1 (fun e => ?_) (fun e => by cases e)
      refine a7 (u0 _ _ _ rfl) ?_
      refine a7 (u0 _ _ _ rfl) ?_
      refine d7 (cap := []) (fun args w => Tryd.call125 args w) ?_
      refine h9 (Fi := []) (Fr := [itf M6 x0 (ir_28l2 + (Utf8.decode x0 ir_28l2).2)]) e1Z (h) (fun c2L b5j e6C T4 d3p e6D e6E e2a => ?_) (fun _ _ _ _ _ q => q.elim)
      obtain ⟨a7i, rfl, rfl, h⟩ := e2a
      refine a7 (E2 _) ?_
      try simp only [P4]
      refine a7 (Pu.g fun hb => by have b3 := hb; first | exact (f5 _ _ _ _ _ _) | (simp only [b6 b3]; exact (f5 _ _ _ _ _ _)) | (simp only [d4 b3, b6 b3, b6 hb, E3 b3, l9]; exact (f5 _ _ _ _ _ _))) ?_
      try simp only [b0z, b0A]
      try simp only [P4, b0z, b3A, b3C, b0A, b3F, b3B, b3D, b3E, b3G]
      refine d7Z (a4z _ _ _) ?_
      refine a3K (D := fun c3v b8v => ∃ (a4t : Int) (a4b : Hp) , c3v = (gv (!(!a7i) && (decide (((ir_28l2 : Nat) : Int) = 0))) true (vi a4t)) ∧ (Inv w0 ps0 H0 a4b [itf M6 x0 (ir_28l2 + (Utf8.decode x0 ir_28l2).2)] b8v) ∧ (∀ i, i < T4.heap.size → ¬ inF [] i → b8v.heap[i]? = T4.heap[i]?) ∧ Hle b5j a4b ∧ ((((!a7i) || ((decide (((ir_28l2 : Nat) : Int) = 0)) && (!decide (a4t = 3)))) = true →
 K false a4b) ∧
 (((!a7i) || ((decide (((ir_28l2 : Nat) : Int) = 0)) && (!decide (a4t = 3)))) = false →
 n2 (ir_28l2 + (Utf8.decode x0 ir_28l2).2) a4b))) (fun b0n => ?_) (fun b0n => ?_) ?_
      ·replace h := h.1 b0n
       obtain ⟨b3, Q5⟩ := a8P b0n
       try simp only [b6 b0n]
       refine d7 (cap := []) (fun args w => Tryd.call126 args w) ?_
       refine h9 (Fi := []) (Fr := [itf M6 x0 (ir_28l2 + (Utf8.decode x0 ir_28l2).2)]) d3p (h) (fun c3v a4b e6F b8v b8w d3q d3r e2b => ?_) (fun _ _ _ _ _ q => q.elim)
       obtain ⟨a4t, rfl, rfl, h⟩ := e2b
       exact ⟨a4t, a4b, by first | rfl | rw [b6 b0n], b8w, d3r, d3q, h⟩
      ·exact ⟨0, b5j, by first | rfl | rw [a6F b0n], d3p, fun _ _ _ => rfl, Hle.refl _, h.2 b0n⟩
      ·clear h
       rintro c3v b8v ⟨a4t, a4b, rfl, b8w, d3r, d3q, h⟩
       refine a7 (Pu.e (a4z _ _ _) (Pu.g fun hb => by obtain ⟨b3, Q5⟩ := a8P hb; first | exact (a0D _ _ _ _ _ _) | (simp only [b6 hb]; exact (a0D _ _ _ _ _ _)) | (simp only [d4 b3, b6 b3, d4 Q5, b6 Q5, b6 hb, G7 hb]; exact (a0D _ _ _ _ _ _)) | (simp only [d4 b3, b6 b3, d4 Q5, b6 Q5, b6 hb, m0 hb, l9]; exact (a0D _ _ _ _ _ _)))) ?_
       refine a7 (Pu.g fun hb => by have b3 := hb; first | exact (J8 _ _) | (simp only [b6 b3, a4J b3]; exact (J8 _ _)) | (simp only [d4 b3, b6 b3, b6 hb, E3 b3, l9]; exact (J8 _ _))) ?_
       refine a7 (a1f _ _) ?_
       refine p1 (fun b0i => ?_) (fun b0i => ?_)
       ·replace h := h.1 b0i
        exact hR false a4b _ b8w.drop h
       ·replace h := h.2 b0i
        exact hn2 _ _ _ (hm2 _ _ h).2 ⟨(ir_28l2 + (Utf8.decode x0 ir_28l2).2), a4b, rfl, rfl, b8w, (hm2 _ _ h).1⟩
     ·replace h := h.2 b0h
      refine a7 (u0 _ _ _ rfl) ?_
      refine p1 (fun e => by cases e) (fun e => ?_)
      exact hx1 _ _ (hj1 H _ I.drop h)
theorem a9v (x0 : ByteArray) {H : Hp} {K : Bool → Hp → Prop} (h : Z2 x0 H K) : Y7 x0 H K := by
 intro w I
 refine c6e ?_
 refine a8s x0 I (fun r0 H' w' I' hk => ⟨H', _, I', r0, rfl, rfl, hk⟩) h
def M2 (a3t : Int) (a3u : Int) (a3v : Int) (a3w : Bool) (a3x : Bool) (a2p : (List ByteArray)) (H : Hp) (K : Bool → b8 → (List ByteArray) → Hp → Prop) : Prop :=
 K true (b8.mk a3t a3u a3v a3w a3x (Sl.mk none 0 0)) a2p H
def M3 (a4c : Int) (a2S : Sl) (j7 : Int) (V8 : Int) (Q8 : Int) (Q9 : Int) (R0 : Int) (R1 : Bool) (R2 : Bool) (O0 : (List ByteArray)) (H : Hp) (n2 : (Int × Int × Int × Int × Bool × Bool × (List ByteArray)) → Hp → Prop) (K : Bool → b8 → (List ByteArray) → Hp → Prop) : Prop :=
 (V8 < j7 →
 (0 : Int) ≤ V8 ∧ (V8 : Int) < a2S.n ∧ ∃ a2V : b4, EltH H a2S V8 1 [(l8 a2V)] ∧
 S9 (b8.mk Q8 Q9 R0 R1 R2 (Sl.mk none 0 0)) O0 a2V a4c H (fun (a1N : Bool) (w6 : b8) (a4G : (List ByteArray)) (b5l : Hp) =>
 TG ((!a1N) = false) (a0f a2V b5l) (Sl.mk none 0 0) b5l (fun (a7k : Sl) (a4d : Hp) =>
 TG ((!a1N) = false) (fun k_ => K0 a7k (IntKind.wrap .i64 (a4c + 1)) (b8.mk ((w6).fnodes) ((w6).fdepth) ((w6).fe) ((w6).fform) ((w6).fnamed) (Sl.mk none 0 0)) a4G a4d fun a3I D4 X2 H_ => k_ (a3I, D4, X2) H_) (false, (b8.mk ((w6).fnodes) ((w6).fdepth) ((w6).fe) ((w6).fform) ((w6).fnamed) (Sl.mk none 0 0)), a4G) a4d (fun (N4 : Bool × b8 × (List ByteArray)) (a2i : Hp) =>
 (((!a1N) || (!N4.1)) = true →
 K false (b8.mk ((N4.2.1).fnodes) ((N4.2.1).fdepth) ((N4.2.1).fe) ((N4.2.1).fform) ((N4.2.1).fnamed) (Sl.mk none 0 0)) N4.2.2 a2i) ∧
 (((!a1N) || (!N4.1)) = false →
 n2 ((IntKind.wrap .i64 (V8 + 1)), ((N4.2.1).fnodes), ((N4.2.1).fdepth), ((N4.2.1).fe), ((N4.2.1).fform), ((N4.2.1).fnamed), N4.2.2) a2i))))) ∧
 (¬ (V8 < j7) →
 M2 Q8 Q9 R0 R1 R2 O0 H K)
def R5 (x0 : Sl) (x1 : Int) (x2 : b8) (a4U : (List ByteArray)) (H : Hp) (K : Bool → b8 → (List ByteArray) → Hp → Prop) : Prop :=
 TL ((0, x2.fnodes, x2.fdepth, x2.fe, x2.fform, x2.fnamed, a4U) : Int × Int × Int × Int × Bool × Bool × (List ByteArray)) H fun (s : Int × Int × Int × Int × Bool × Bool × (List ByteArray)) H n2 => M3 x1 x0 (x0.n : Int) s.1 s.2.1 s.2.2.1 s.2.2.2.1 s.2.2.2.2.1 s.2.2.2.2.2.1 s.2.2.2.2.2.2 H n2 K
theorem a5B (x0 : Sl) (x1 : Int) (x2 : b8) (a4U : (List ByteArray)) (g2 g2b g3 : Nat) (a5I : Sl) (a5J : Frag) (b8x : RowL 9 1 r9 a5I a4U a5J) {w0 w : World} {ps0 : Nat → Prop} {H0 H : Hp} {K : Bool → b8 → (List ByteArray) → Hp → Prop} {R : Value → World → Prop} {E : Pan} (I : Inv w0 ps0 H0 H [bx g2 93 [(Value.pointer (some ⟨g2b, 0, none⟩))], bx g2b 92 [(vi x2.fnodes), (vi x2.fdepth), (vi x2.fe), (Value.bool x2.fform), (Value.bool x2.fnamed), (vs a5I)], a5J, bx g3 139 [(Value.func (.func 89) #[] #[(Value.pointer (some ⟨g2, 0, none⟩)), (Value.pointer (some ⟨g3, 0, none⟩))])]] w) (hR : ∀ (r0 : Bool) (y0 : b8) (a1Y : (List ByteArray)) (a0o : Sl) (a0p : Frag) (H' : Hp) (w' : World) (_ : RowL 9 1 r9 a0o a1Y a0p) (_ : Inv w0 ps0 H0 H' [bx g2 93 [(Value.pointer (some ⟨g2b, 0, none⟩))], bx g2b 92 [(vi y0.fnodes), (vi y0.fdepth), (vi y0.fe), (Value.bool y0.fform), (Value.bool y0.fnamed), (vs a0o)], a0p, bx g3 139 [(Value.func (.func 89) #[] #[(Value.pointer (some ⟨g2, 0, none⟩)), (Value.pointer (some ⟨g3, 0, none⟩))])]] w') (_ : K r0 y0 a1Y H'), R (Value.bool r0) w') (h : R5 x0 x1 x2 a4U H K) : F89 (vs x0) (vi x1) (Value.pointer (some ⟨g2, 0, none⟩)) (Value.pointer (some ⟨g3, 0, none⟩)) w R E := by
 unfold R5 at h
 unfold F89
 have hj1 : ∀ (a3t : Int) (a3u : Int) (a3v : Int) (a3w : Bool) (a3x : Bool) (a2p : (List ByteArray)) (a5M : Sl) (a5N : Frag) (H : Hp) (w : World) (_ : RowL 9 1 r9 a5M a2p a5N) (_ : Inv w0 ps0 H0 H [bx g2 93 [(Value.pointer (some ⟨g2b, 0, none⟩))], bx g2b 92 [(vi a3t), (vi a3u), (vi a3v), (Value.bool a3w), (Value.bool a3x), (vs a5M)], bx g3 139 [(Value.func (.func 89) #[] #[(Value.pointer (some ⟨g2, 0, none⟩)), (Value.pointer (some ⟨g3, 0, none⟩))])], a5N] w) (_ : M2 a3t a3u a3v a3w a3x a2p H K), b4b w R E := by
  intro a3t a3u a3v a3w a3x a2p a5M a5N H w c1i I h
  unfold b4b
  intro _
  unfold M2 at h
  exact hR true (b8.mk a3t a3u a3v a3w a3x (Sl.mk none 0 0)) a2p a5M a5N H _ c1i ((((I.bring 2).bring 3).bring 3).bring 3) h
 refine o8 fun j1 hx1 => ?_
 refine a7 (a5H _ _ _) ?_
 obtain ⟨c3w, b5m, e2c, e2d⟩ := h
 refine y8 (J := fun n l w => ∃ (s : Int × Int × Int × Int × Bool × Bool × (List ByteArray)) (H : Hp) (a2q : Sl) (a2r : Frag) , n = b5m s ∧ l = (match s with | (V8, Q8, Q9, R0, R1, R2, O0) => [(vi V8)]) ∧ (match s with | (V8, Q8, Q9, R0, R1, R2, O0) => RowL 9 1 r9 a2q O0 a2r) ∧ (match s with | (V8, Q8, Q9, R0, R1, R2, O0) => Inv w0 ps0 H0 H [bx g2 93 [(Value.pointer (some ⟨g2b, 0, none⟩))], bx g2b 92 [(vi Q8), (vi Q9), (vi R0), (Value.bool R1), (Value.bool R2), (vs a2q)], bx g3 139 [(Value.func (.func 89) #[] #[(Value.pointer (some ⟨g2, 0, none⟩)), (Value.pointer (some ⟨g3, 0, none⟩))])], a2r] w) ∧ c3w s H) ⟨_, (0, x2.fnodes, x2.fdepth, x2.fe, x2.fform, x2.fnamed, a4U), H, a5I, a5J, rfl, rfl, b8x, ((((I.bring 2).bring 3).bring 3).bring 3), e2c⟩ ?_
 rintro e6G τ_92 w next2 ⟨⟨V8, Q8, Q9, R0, R1, R2, O0⟩, H, a2q, a2r, rfl, b4I, a8t, I, e2e⟩ hn2
 dsimp only at b4I I a8t
 simp only [List.map_cons, List.map_nil, List.cons.injEq, and_true] at b4I
 have e11 := b4I
 simp only [e11]
 obtain ⟨n2, hm2, h⟩ : ∃ n2 : (Int × Int × Int × Int × Bool × Bool × (List ByteArray)) → Hp → Prop, (∀ s' H', n2 s' H' → c3w s' H' ∧ b5m s' < b5m (V8, Q8, Q9, R0, R1, R2, O0)) ∧ M3 x1 x0 (x0.n : Int) V8 Q8 Q9 R0 R1 R2 O0 H n2 K := ⟨_, fun _ _ h => h, e2d (V8, Q8, Q9, R0, R1, R2, O0) H (fun s' H' => c3w s' H' ∧ b5m s' < b5m (V8, Q8, Q9, R0, R1, R2, O0)) e2e (fun _ _ a b => ⟨a, b⟩)⟩
 unfold c0v
 unfold M3 at h
 refine a7 (C3 _ _ _ _ _ _) ?_
 refine d9 (fun b0j => ?_) (fun b0j => ?_)
 ·replace h := h.1 b0j
  obtain ⟨b5n, a7l, a2V, a3y, h⟩ := h
  obtain ⟨e2f, e2g, b5o, a3y⟩ := a3y
  refine a7 (c2j b5o _ _ _ _ b5n a7l) ?_
  refine b7 (ld1 (v := (l8 a2V)) Tryd.isAgg141 (I.atH a3y)) ?_
  refine a7M I fun b5g d3s => ?_
  refine Y4 (ld1 Tryd.isAgg93 (d3s.at1 (o := 0) (vs := [(Value.pointer (some ⟨g2b, 0, none⟩))]) (nb rfl) rfl)) ?_
  refine d7 (cap := []) (fun args w => Tryd.call90 args w) ?_
  refine h9 (Fi := [bx g2b 92 [(vi Q8), (vi Q9), (vi R0), (Value.bool R1), (Value.bool R2), (vs a2q)], a2r]) (Fr := [bx g2 93 [(Value.pointer (some ⟨g2b, 0, none⟩))], bx g3 139 [(Value.func (.func 89) #[] #[(Value.pointer (some ⟨g2, 0, none⟩)), (Value.pointer (some ⟨g3, 0, none⟩))])]]) ((d3s.bring 3).bring 2) (h g2b a2q a2r a8t) (fun e6H b5l e6I S7 b0o e6J e6K e2h => ?_) (fun _ _ _ _ _ q => q.elim)
  obtain ⟨a1N, w6, a4G, a5n, a5o, rfl, rfl, b5p, h⟩ := e2h
  refine u6 (E2 _) ?_
  try simp only [P4]
  try simp only [P4, b0z, b3A, b3C, b0A, b3F, b3B, b3D, b3E, b3G]
  refine u6 (Pu.g fun hb => by have b3 := hb; first | exact (v7 _ _ _ _ _ _) | (simp only [b6 b3]; exact (v7 _ _ _ _ _ _)) | (simp only [d4 b3, b6 b3, b6 hb, E3 b3, l9]; exact (v7 _ _ _ _ _ _))) ?_
  refine Y4 (Ld.g fun hb => by have b3 := hb; first | exact (ld1 Tryd.isAgg139 ((b0o.bring 3).at1 (o := 0) (vs := [(Value.func (.func 89) #[] #[(Value.pointer (some ⟨g2, 0, none⟩)), (Value.pointer (some ⟨g3, 0, none⟩))])]) (nb rfl) rfl)) | (simp only [d4 b3, b6 b3, b6 hb, a4J b3]; exact (ld1 Tryd.isAgg139 ((b0o.bring 3).at1 (o := 0) (vs := [(Value.func (.func 89) #[] #[(Value.pointer (some ⟨g2, 0, none⟩)), (Value.pointer (some ⟨g3, 0, none⟩))])]) (nb rfl) rfl))) | (simp only [d4 b3, b6 b3, b6 hb, E3 b3, l9]; exact (ld1 Tryd.isAgg139 ((b0o.bring 3).at1 (o := 0) (vs := [(Value.func (.func 89) #[] #[(Value.pointer (some ⟨g2, 0, none⟩)), (Value.pointer (some ⟨g3, 0, none⟩))])]) (nb rfl) rfl)))) ?_
  refine a3K (D := fun d3t b2t => ∃ (a7k : Sl) (a4d : Hp), d3t = (gv (!a1N) false (vs a7k)) ∧ (Inv w0 ps0 H0 a4d [bx g2b 92 [(vi ((w6).fnodes)), (vi ((w6).fdepth)), (vi ((w6).fe)), (Value.bool ((w6).fform)), (Value.bool ((w6).fnamed)), (vs a5n)], a5o, bx g2 93 [(Value.pointer (some ⟨g2b, 0, none⟩))], bx g3 139 [(Value.func (.func 89) #[] #[(Value.pointer (some ⟨g2, 0, none⟩)), (Value.pointer (some ⟨g3, 0, none⟩))])]] b2t) ∧ (∀ i, i < S7.heap.size → ¬ inF [] i → b2t.heap[i]? = S7.heap[i]?) ∧ Hle b5l a4d ∧ (TG ((!a1N) = false) (fun k_ => K0 a7k (IntKind.wrap .i64 (x1 + 1)) (b8.mk ((w6).fnodes) ((w6).fdepth) ((w6).fe) ((w6).fform) ((w6).fnamed) (Sl.mk none 0 0)) a4G a4d fun a3I D4 X2 H_ => k_ (a3I, D4, X2) H_) (false, (b8.mk ((w6).fnodes) ((w6).fdepth) ((w6).fe) ((w6).fform) ((w6).fnamed) (Sl.mk none 0 0)), a4G) a4d (fun (N4 : Bool × b8 × (List ByteArray)) (a2i : Hp) =>
 (((!a1N) || (!N4.1)) = true →
 K false (b8.mk ((N4.2.1).fnodes) ((N4.2.1).fdepth) ((N4.2.1).fe) ((N4.2.1).fform) ((N4.2.1).fnamed) (Sl.mk none 0 0)) N4.2.2 a2i) ∧
 (((!a1N) || (!N4.1)) = false →
 n2 ((IntKind.wrap .i64 (V8 + 1)), ((N4.2.1).fnodes), ((N4.2.1).fdepth), ((N4.2.1).fe), ((N4.2.1).fform), ((N4.2.1).fnamed), N4.2.2) a2i)))) (fun a8u => ?_) (fun a8u => ?_) ?_
  ·replace h := h.1 a8u
   have b3 := a8u
   try simp only [b6 b3]
   refine a6a b0o h (fun a7k a4d b2t b8y c3x c3y h => ?_)
   exact ⟨a7k, a4d, by first | rfl | rw [b6 a8u], b8y, c3y, c3x, h⟩
  ·exact ⟨(Sl.mk none 0 0), b5l, by first | rfl | rw [a6F a8u], b0o, fun _ _ _ => rfl, Hle.refl _, h.2 a8u⟩
  ·clear h
   rintro d3t b2t ⟨a7k, a4d, rfl, b8y, c3y, c3x, h⟩
   refine ⟨(c3y _ (b0o.bring 3).lt1 (Inv.a2A (Fi := []) (b0o.bring 3))), ?_⟩
   refine a3K (D := fun c3z b8z => ∃ (a3I : Bool) (D4 : b8) (X2 : (List ByteArray)) (a2i : Hp) (a2j : Sl) (a2k : Frag) , c3z = (gv (!a1N) false (Value.bool a3I)) ∧ (RowL 9 1 r9 a2j X2 a2k) ∧ (Inv w0 ps0 H0 a2i [bx g2 93 [(Value.pointer (some ⟨g2b, 0, none⟩))], bx g2b 92 [(vi ((D4).fnodes)), (vi ((D4).fdepth)), (vi ((D4).fe)), (Value.bool ((D4).fform)), (Value.bool ((D4).fnamed)), (vs a2j)], a2k, bx g3 139 [(Value.func (.func 89) #[] #[(Value.pointer (some ⟨g2, 0, none⟩)), (Value.pointer (some ⟨g3, 0, none⟩))])]] b8z) ∧ (∀ i, i < b2t.heap.size → ¬ inF [bx g2 93 [(Value.pointer (some ⟨g2b, 0, none⟩))], bx g2b 92 [(vi ((w6).fnodes)), (vi ((w6).fdepth)), (vi ((w6).fe)), (Value.bool ((w6).fform)), (Value.bool ((w6).fnamed)), (vs a5n)], a5o, bx g3 139 [(Value.func (.func 89) #[] #[(Value.pointer (some ⟨g2, 0, none⟩)), (Value.pointer (some ⟨g3, 0, none⟩))])]] i → b8z.heap[i]? = b2t.heap[i]?) ∧ Hle a4d a2i ∧ ((((!a1N) || (!a3I)) = true →
 K false (b8.mk ((D4).fnodes) ((D4).fdepth) ((D4).fe) ((D4).fform) ((D4).fnamed) (Sl.mk none 0 0)) X2 a2i) ∧
 (((!a1N) || (!a3I)) = false →
 n2 ((IntKind.wrap .i64 (V8 + 1)), ((D4).fnodes), ((D4).fdepth), ((D4).fe), ((D4).fform), ((D4).fnamed), X2) a2i))) (fun b2u => ?_) (fun b2u => ?_) ?_
   ·replace h := h.1 b2u
    have b3 := b2u
    try simp only [b6 b3]
    refine d7 (cap := [(Value.pointer (some ⟨g2, 0, none⟩)), (Value.pointer (some ⟨g3, 0, none⟩))]) (fun args w => Tryd.call89 args w) ?_
    refine h9 (Fi := [bx g2 93 [(Value.pointer (some ⟨g2b, 0, none⟩))], bx g2b 92 [(vi ((w6).fnodes)), (vi ((w6).fdepth)), (vi ((w6).fe)), (Value.bool ((w6).fform)), (Value.bool ((w6).fnamed)), (vs a5n)], a5o, bx g3 139 [(Value.func (.func 89) #[] #[(Value.pointer (some ⟨g2, 0, none⟩)), (Value.pointer (some ⟨g3, 0, none⟩))])]]) (Fr := []) ((((b8y.bring 3).bring 2).bring 2).bring 3) (h g2 g2b g3 a5n a5o b5p) (fun c3z a2i e6L b8z b8A a5Z d3u e2i => ?_) (fun _ _ _ _ _ q => q.elim)
    obtain ⟨a3I, D4, X2, a2j, a2k, rfl, rfl, a7m, h⟩ := e2i
    exact ⟨a3I, D4, X2, a2i, a2j, a2k, by first | rfl | rw [b6 b2u], a7m, b8A, d3u, a5Z, h⟩
   ·exact ⟨false, (b8.mk ((w6).fnodes) ((w6).fdepth) ((w6).fe) ((w6).fform) ((w6).fnamed) (Sl.mk none 0 0)), a4G, a4d, a5n, a5o, by first | rfl | rw [a6F b2u], b5p, ((((b8y.bring 3).bring 2).bring 2).bring 3), fun _ _ _ => rfl, Hle.refl _, h.2 b2u⟩
   ·clear h
    rintro c3z b8z ⟨a3I, D4, X2, a2i, a2j, a2k, rfl, a7m, b8A, d3u, a5Z, h⟩
    refine u6 (Pu.g fun hb => by have b3 := hb; first | exact (E2 _) | (simp only [b6 b3]; exact (E2 _)) | (simp only [d4 b3, b6 b3, b6 hb, E3 b3, l9]; exact (E2 _))) ?_
    refine u6 (a1f _ _) ?_
    refine p1 (fun b0k => ?_) (fun b0k => ?_)
    ·replace h := h.1 b0k
     exact hR false (b8.mk ((D4).fnodes) ((D4).fdepth) ((D4).fe) ((D4).fform) ((D4).fnamed) (Sl.mk none 0 0)) X2 a2j a2k a2i _ a7m ((((b8A.bring 3).bring 3).bring 3).bring 3) h
    ·replace h := h.2 b0k
     refine a7 (v7 _ _ _ _ _ _) ?_
     exact hn2 _ _ _ (hm2 _ _ h).2 ⟨((IntKind.wrap .i64 (V8 + 1)), ((D4).fnodes), ((D4).fdepth), ((D4).fe), ((D4).fform), ((D4).fnamed), X2), a2i, a2j, a2k, rfl, rfl, a7m, ((((b8A.bring 2).bring 3).bring 3).bring 3), (hm2 _ _ h).1⟩
 ·replace h := h.2 b0j
  exact hx1 _ _ (hj1 Q8 Q9 R0 R1 R2 O0 a2q a2r H _ a8t ((((I.bring 3).bring 3).bring 3).bring 3) h)
theorem a6e (x0 : Sl) (x1 : Int) (x2 : b8) (a4U : (List ByteArray)) {H : Hp} {K : Bool → b8 → (List ByteArray) → Hp → Prop} (h : R5 x0 x1 x2 a4U H K) : K0 x0 x1 x2 a4U H K := by
 intro g2 g2b g3 a5I a5J b8x w I
 refine c8Q ?_
 refine a5B x0 x1 x2 a4U g2 g2b g3 a5I a5J b8x I (fun r0 y0 a1Y a0o a0p H' w' b5h I' hk => ⟨H', _, I', r0, y0, a1Y, a0o, a0p, rfl, rfl, b5h, hk⟩) h
def y6 (cr_1j1_0 : Int) (cr_1j1_1 : Int) (cr_1j1_2 : Int) (cr_1j1_3 : Bool) (cr_1j1_4 : Bool) (ccr_1j1_5 : (List ByteArray)) (H : Hp) (K : b8 → Hp → Prop) : Prop :=
 ∀ (scr_1j1_5 : Sl) (b2v : Hp), Hle H b2v → SlH b2v 1 r9 scr_1j1_5 ccr_1j1_5 → scr_1j1_5.n ≤ scr_1j1_5.c →
 K (b8.mk cr_1j1_0 cr_1j1_1 cr_1j1_2 cr_1j1_3 cr_1j1_4 scr_1j1_5) b2v
def U0 (x0 : Sl) (H : Hp) (K : b8 → Hp → Prop) : Prop :=
 K0 x0 1 (b8.mk 0 0 0 false false (Sl.mk none 0 0)) [] H (fun (b8B : Bool) (q9 : b8) (a1t : (List ByteArray)) (a7n : Hp) =>
 ((!b8B) = true →
 y6 ((q9).fnodes) ((q9).fdepth) ((q9).fe) ((q9).fform) ((q9).fnamed) a1t a7n K) ∧
 ((!b8B) = false →
 (((q9).fform) = true →
 y6 ((q9).fnodes) ((q9).fdepth) 30 ((q9).fform) ((q9).fnamed) a1t a7n K) ∧
 (((q9).fform) = false →
 (((q9).fnamed) = true →
 y6 ((q9).fnodes) ((q9).fdepth) 31 ((q9).fform) ((q9).fnamed) a1t a7n K) ∧
 (((q9).fnamed) = false →
 y6 ((q9).fnodes) ((q9).fdepth) ((q9).fe) ((q9).fform) ((q9).fnamed) a1t a7n K))))
theorem a6t (x0 : Sl) {w0 w : World} {ps0 : Nat → Prop} {H0 H : Hp} {K : b8 → Hp → Prop} {R : Value → World → Prop} {E : Pan} (I : Inv w0 ps0 H0 H [] w) (hR : ∀ (r0 : b8) (gr0 : Nat) (H' : Hp) (w' : World) (_ : Inv w0 ps0 H0 H' [bx gr0 92 (a1o r0)] w') (_ : K r0 H'), R (Value.pointer (some ⟨gr0, 0, none⟩)) w') (h : U0 x0 H K) : F57 (vs x0) w R E := by
 unfold U0 at h
 unfold F57
 refine a7 (c0s ) ?_
 refine K1 I (cs := [(vi 0), (vi 0), (vi 0), (Value.bool false), (Value.bool false), (Value.slice none 0 0)]) rfl fun g_2 w_3 I_4 k_5 => ?_
 refine B9 I_4 Tryd.zeroValue93 (cs := [(Value.pointer none)]) rfl fun g_7 w_8 I_9 c2x => ?_
 refine r5 I_9 Tryd.sizeOf93 (vs := [(Value.pointer (some ⟨g_2, 0, none⟩))]) (cs' := [(Value.pointer (some ⟨g_2, 0, none⟩))]) rfl rfl (nb rfl) rfl rfl fun W3 y9 b2i => ?_
 refine B9 y9 Tryd.zeroValue139 (cs := [Value.nilFunc]) rfl fun a7o r7 a3p c3A => ?_
 refine a7 (a0I _ _ _) ?_
 refine r5 a3p Tryd.sizeOf139 (vs := [(Value.func (.func 89) #[] #[(Value.pointer (some ⟨g_7, 0, none⟩)), (Value.pointer (some ⟨a7o, 0, none⟩))])]) (cs' := [(Value.func (.func 89) #[] #[(Value.pointer (some ⟨g_7, 0, none⟩)), (Value.pointer (some ⟨a7o, 0, none⟩))])]) rfl rfl (nb rfl) rfl rfl fun a5Y b8m e1v => ?_
 have hj1 : ∀ (cr_1j1_0 : Int) (cr_1j1_1 : Int) (cr_1j1_2 : Int) (cr_1j1_3 : Bool) (cr_1j1_4 : Bool) (ccr_1j1_5 : (List ByteArray)) (scr_1j1_5 : Sl) (Fcr_1j1_5 : Frag) (H : Hp) (w : World) (_ : RowL 9 1 r9 scr_1j1_5 ccr_1j1_5 Fcr_1j1_5) (_ : Inv w0 ps0 H0 H [bx g_7 93 [(Value.pointer (some ⟨g_2, 0, none⟩))], bx g_2 92 [(vi cr_1j1_0), (vi cr_1j1_1), (vi cr_1j1_2), (Value.bool cr_1j1_3), (Value.bool cr_1j1_4), (vs scr_1j1_5)], bx a7o 139 [(Value.func (.func 89) #[] #[(Value.pointer (some ⟨g_7, 0, none⟩)), (Value.pointer (some ⟨a7o, 0, none⟩))])], Fcr_1j1_5] w) (_ : y6 cr_1j1_0 cr_1j1_1 cr_1j1_2 cr_1j1_3 cr_1j1_4 ccr_1j1_5 H K), b3W (Value.pointer (some ⟨g_7, 0, none⟩)) w R E := by
  intro cr_1j1_0 cr_1j1_1 cr_1j1_2 cr_1j1_3 cr_1j1_4 ccr_1j1_5 scr_1j1_5 Fcr_1j1_5 H w hcr_1j1_5 I h
  unfold b3W
  intro _
  unfold y6 at h
  refine b7 (ld1 Tryd.isAgg93 (I.at1 (o := 0) (vs := [(Value.pointer (some ⟨g_2, 0, none⟩))]) (nb rfl) rfl)) ?_
  obtain ⟨b2v, b5f, d3v, a5d, a5f⟩ := Inv.freezeC (I.bring 3) hcr_1j1_5 (by decide)
  replace h := h scr_1j1_5 b2v d3v a5d a5f
  exact hR (b8.mk cr_1j1_0 cr_1j1_1 cr_1j1_2 cr_1j1_3 cr_1j1_4 scr_1j1_5) g_2 b2v _ (b5f.drop.bring 1).drop h
 refine o8 fun j1 hx1 => ?_
 refine b7 (ld1 Tryd.isAgg139 (b8m.at1 (o := 0) (vs := [(Value.func (.func 89) #[] #[(Value.pointer (some ⟨g_7, 0, none⟩)), (Value.pointer (some ⟨a7o, 0, none⟩))])]) (nb rfl) rfl)) ?_
 refine d7 (cap := [(Value.pointer (some ⟨g_7, 0, none⟩)), (Value.pointer (some ⟨a7o, 0, none⟩))]) (fun args w => Tryd.call89 args w) ?_
 refine h9 (Fi := [bx g_7 93 [(Value.pointer (some ⟨g_2, 0, none⟩))], bx g_2 92 [(vi 0), (vi 0), (vi 0), (Value.bool false), (Value.bool false), (Value.slice (Sl.mk none 0 0).a (Sl.mk none 0 0).n (Sl.mk none 0 0).c)], [], bx a7o 139 [(Value.func (.func 89) #[] #[(Value.pointer (some ⟨g_7, 0, none⟩)), (Value.pointer (some ⟨a7o, 0, none⟩))])]]) (Fr := []) ((((b8m.nil.bring 1).bring 1).bring 3).bring 3) (h g_7 g_2 a7o (Sl.mk none 0 0) ([]) (RowL.nil (e := 9) a9z a9A)) (fun e6M a7n d3c s9 a4e e6N e2j e2k => ?_) (fun _ _ _ _ _ q => q.elim)
 obtain ⟨b8B, q9, a1t, a3z, a7p, rfl, rfl, a7q, h⟩ := e2k
 refine a7 (E2 _) ?_
 refine p1 (fun b0p => ?_) (fun b0p => ?_)
 ·replace h := h.1 b0p
  exact hx1 _ _ (hj1 ((q9).fnodes) ((q9).fdepth) ((q9).fe) ((q9).fform) ((q9).fnamed) a1t a3z a7p a7n _ a7q ((((a4e.bring 2).bring 3).bring 3).bring 3) h)
 ·replace h := h.2 b0p
  refine b7 (ld1 Tryd.isAgg93 (a4e.at1 (o := 0) (vs := [(Value.pointer (some ⟨g_2, 0, none⟩))]) (nb rfl) rfl)) ?_
  refine a7 (D7 _) ?_
  refine a7 a6L ?_
  refine b7 (ld1 Tryd.isAgg4 ((a4e.bring 1).at1 (o := 3) (vs := [(Value.bool ((q9).fform))]) (nb rfl) rfl)) ?_
  refine p1 (fun a0t => ?_) (fun a0t => ?_)
  ·replace h := h.1 a0t
   refine b7 (ld1 Tryd.isAgg93 (a4e.at1 (o := 0) (vs := [(Value.pointer (some ⟨g_2, 0, none⟩))]) (nb rfl) rfl)) ?_
   refine a7 (D7 _) ?_
   refine a7 a0k ?_
   refine r5 (a4e.bring 1) Tryd.sizeOf34 (vs := [(vi 30)]) (cs' := [(vi ((q9).fnodes)), (vi ((q9).fdepth)), (vi 30), (Value.bool ((q9).fform)), (Value.bool ((q9).fnamed)), (vs a3z)]) rfl rfl (nb rfl) rfl rfl fun e6O e2l e6P => ?_
   exact hx1 _ _ (hj1 ((q9).fnodes) ((q9).fdepth) 30 ((q9).fform) ((q9).fnamed) a1t a3z a7p a7n _ a7q ((((e2l.bring 2).bring 3).bring 2).bring 3) h)
  ·replace h := h.2 a0t
   refine b7 (ld1 Tryd.isAgg93 (a4e.at1 (o := 0) (vs := [(Value.pointer (some ⟨g_2, 0, none⟩))]) (nb rfl) rfl)) ?_
   refine a7 (D7 _) ?_
   refine a7 a6M ?_
   refine b7 (ld1 Tryd.isAgg4 ((a4e.bring 1).at1 (o := 4) (vs := [(Value.bool ((q9).fnamed))]) (nb rfl) rfl)) ?_
   refine p1 (fun c3B => ?_) (fun c3B => ?_)
   ·replace h := h.1 c3B
    refine b7 (ld1 Tryd.isAgg93 (a4e.at1 (o := 0) (vs := [(Value.pointer (some ⟨g_2, 0, none⟩))]) (nb rfl) rfl)) ?_
    refine a7 (D7 _) ?_
    refine a7 a0k ?_
    refine r5 (a4e.bring 1) Tryd.sizeOf34 (vs := [(vi 31)]) (cs' := [(vi ((q9).fnodes)), (vi ((q9).fdepth)), (vi 31), (Value.bool ((q9).fform)), (Value.bool ((q9).fnamed)), (vs a3z)]) rfl rfl (nb rfl) rfl rfl fun G6 b8o e1y => ?_
    exact hx1 _ _ (hj1 ((q9).fnodes) ((q9).fdepth) 31 ((q9).fform) ((q9).fnamed) a1t a3z a7p a7n _ a7q ((((b8o.bring 2).bring 3).bring 2).bring 3) h)
   ·replace h := h.2 c3B
    exact hx1 _ _ (hj1 ((q9).fnodes) ((q9).fdepth) ((q9).fe) ((q9).fform) ((q9).fnamed) a1t a3z a7p a7n _ a7q ((((a4e.bring 2).bring 3).bring 3).bring 3) h)
theorem a7r (x0 : Sl) {H : Hp} {K : b8 → Hp → Prop} (h : U0 x0 H K) : a0q x0 H K := by
 intro w I
 refine c8C ?_
 refine a6t x0 I (fun r0 gr0 H' w' I' hk => ⟨H', _, I', r0, gr0, rfl, rfl, hk⟩) h
def Z3 (x0 : i5) (H : Hp) (K : b8 → Hp → Prop) : Prop :=
 u5 x0.R6 H (fun (a2T : Sl) (H_8 : Hp) =>
 k3 x0.a3F H_8 (fun (a2U : Sl) (a8q : Hp) =>
 ∀ (a3r : Sl) (a5e : Hp), Hle a8q a5e → SlH a5e 1 csl a3r [a2T, a2U] → a3r.n ≤ a3r.c →
 m9 a3r a5e (fun (a8Z : Sl) (b2k : Hp) =>
 a0q a8Z b2k (fun (b8C : b8) (c3C : Hp) =>
 K b8C c3C))))
theorem a8v (x0 : i5) {w0 w : World} {ps0 : Nat → Prop} {H0 H : Hp} {K : b8 → Hp → Prop} {R : Value → World → Prop} {E : Pan} (I : Inv w0 ps0 H0 H [] w) (hR : ∀ (r0 : b8) (gr0 : Nat) (H' : Hp) (w' : World) (_ : Inv w0 ps0 H0 H' [bx gr0 92 (a1o r0)] w') (_ : K r0 H'), R (Value.pointer (some ⟨gr0, 0, none⟩)) w') (h : Z3 x0 H K) : F66 (Value.agg (f9 x0).toArray) w R E := by
 unfold Z3 at h
 unfold F66
 refine K1 I (cs := (f9 x0)) rfl fun g_2 w_3 I_4 k_5 => ?_
 refine a7M I_4 fun w_6 I_7 => ?_
 refine u6 a4j ?_
 refine u6 a6I ?_
 refine Y4 (ld1 Tryd.isAgg22 (I_7.at1 (o := 0) (vs := [(vs x0.R6)]) (nb rfl) rfl)) ?_
 refine Y4 (ld1 Tryd.isAgg23 (I_7.at1 (o := 1) (vs := [(vs x0.a3F)]) (nb rfl) rfl)) ?_
 refine d7 (cap := []) (fun args w => Tryd.call95 args w) ?_
 refine h9 (Fi := []) (Fr := [bx g_2 25 (f9 x0)]) I_7 (h) (fun d2X H_8 d2Y w_9 a6Y b2l a9Y b4U => ?_) (fun _ _ _ _ _ q => q.elim)
 obtain ⟨a2T, rfl, rfl, h⟩ := b4U
 refine ⟨(a9Y _ I_7.lt1 (Inv.a2A (Fi := []) I_7)), ?_⟩
 refine d7 (cap := []) (fun args w => Tryd.call97 args w) ?_
 refine h9 (Fi := []) (Fr := [bx g_2 25 (f9 x0)]) a6Y (h) (fun d2Z a8q d3a s7 a6Z d3b b4V b4W => ?_) (fun _ _ _ _ _ q => q.elim)
 obtain ⟨a2U, rfl, rfl, h⟩ := b4W
 refine a1S (e := 97) (c := csl) (xs := [a2T, a2U]) a6Z (b3P _ _ _ _ _ _) rfl rfl b3b b3c (nb rfl) fun a3r d3c e1h c2z a7a b8e => ?_
 obtain ⟨a5e, b4X, b4w, a5f, b4Y⟩ := Inv.freezeC a7a c2z (by decide)
 replace h := h a3r a5e b4w a5f b4Y
 refine d7 (cap := []) (fun args w => Tryd.call94 args w) ?_
 refine h9 (Fi := []) (Fr := [bx g_2 25 (f9 x0)]) b4X (h) (fun e1i b2k e1j e1k a5a b4Z e1l c2A => ?_) (fun _ _ _ _ _ q => q.elim)
 obtain ⟨a8Z, rfl, rfl, h⟩ := c2A
 refine d7 (cap := []) (fun args w => Tryd.call57 args w) ?_
 refine h9 (Fi := []) (Fr := [bx g_2 25 (f9 x0)]) a5a (h) (fun e6Q c3C e2m M5 c3D b8D e2n e2o => ?_) (fun _ _ _ _ _ q => q.elim)
 obtain ⟨b8C, d3w, rfl, rfl, h⟩ := e2o
 exact hR b8C d3w c3C _ (c3D.bring 1).drop h
theorem a9w (x0 : i5) {H : Hp} {K : b8 → Hp → Prop} (h : Z3 x0 H K) : Y8 x0 H K := by
 intro w I
 refine c8G ?_
 refine a8v x0 I (fun r0 gr0 H' w' I' hk => ⟨H', _, I', r0, gr0, rfl, rfl, hk⟩) h
def U1 (x0 : i6) (H : Hp) (K : b4 → Hp → Prop) : Prop :=
 K (b4.s6 (u7.mk x0)) H
theorem a6u (x0 : i6) {w0 w : World} {ps0 : Nat → Prop} {H0 H : Hp} {K : b4 → Hp → Prop} {R : Value → World → Prop} {E : Pan} (I : Inv w0 ps0 H0 H [] w) (hR : ∀ (r0 : b4) (H' : Hp) (w' : World) (_ : Inv w0 ps0 H0 H' [] w') (_ : K r0 H'), R (l8 r0) w') (h : U1 x0 H K) : b7K (Value.agg (c5 x0).toArray) w R E := by
 unfold U1 at h
 unfold b7K
 refine K1 I (cs := (c5 x0)) rfl fun g_2 w_3 I_4 k_5 => ?_
 refine b7 (ldA Tryd.isAgg30 Tryd.sizeOf30 rfl (I_4.at1 (o := 0) (vs := (c5 x0)) (nb rfl) rfl)) ?_
 refine a7 (b6w _ _ _ _ _ _) ?_
 refine a7 (a7z (u7.mk x0)) ?_
 exact hR (b4.s6 (u7.mk x0)) H _ I_4.drop h
theorem a7s (x0 : i6) {H : Hp} {K : b4 → Hp → Prop} (h : U1 x0 H K) : a2Q x0 H K := by
 intro w I
 refine c6F ?_
 refine a6u x0 I (fun r0 H' w' I' hk => ⟨H', _, I', r0, rfl, rfl, hk⟩) h
def N5 (x0 : u7) (H : Hp) (K : Sl → Hp → Prop) : Prop :=
 k4 x0.f4.p6 H (fun (C0 : Sl) (H_6 : Hp) =>
 K C0 H_6)
theorem a4u (x0 : u7) {w0 w : World} {ps0 : Nat → Prop} {H0 H : Hp} {K : Sl → Hp → Prop} {R : Value → World → Prop} {E : Pan} (I : Inv w0 ps0 H0 H [] w) (hR : ∀ (r0 : Sl) (H' : Hp) (w' : World) (_ : Inv w0 ps0 H0 H' [] w') (_ : K r0 H'), R (vs r0) w') (h : N5 x0 H K) : b7I (Value.agg (c5 x0.f4).toArray) w R E := by
 unfold N5 at h
 unfold b7I
 refine K1 I (cs := (c5 x0.f4)) rfl fun g_2 w_3 I_4 k_5 => ?_
 refine a7 B3 ?_
 refine a7 a1g ?_
 refine b7 (ld1 Tryd.isAgg28 (I_4.at1 (o := 3) (vs := [(vs x0.f4.p6)]) (nb rfl) rfl)) ?_
 refine d7 (cap := []) (fun args w => Tryd.call150 args w) ?_
 refine h9 (Fi := []) (Fr := [bx g_2 96 (c5 x0.f4)]) I_4 (h) (fun a8m H_6 a8n w_7 I_8 a8o k_9 a0Z => ?_) (fun _ _ _ _ _ q => q.elim)
 obtain ⟨C0, rfl, rfl, h⟩ := a0Z
 exact hR C0 H_6 _ I_8.drop h
theorem a5p (x0 : u7) {H : Hp} {K : Sl → Hp → Prop} (h : N5 x0 H K) : a0V x0 H K := by
 intro w I
 refine c6B ?_
 refine a4u x0 I (fun r0 H' w' I' hk => ⟨H', _, I', r0, rfl, rfl, hk⟩) h
end Go.Proofs.YthldnpmfelniiaaDoor
