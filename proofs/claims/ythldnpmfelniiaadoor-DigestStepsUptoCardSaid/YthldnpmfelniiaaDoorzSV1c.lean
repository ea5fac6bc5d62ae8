/- Typed formulas of the program's functions, and the theorems that the contracts follow from them; printed by lift.py off the code. -/
import Derived.Test.YthldnpmfelniiaaDoorzSV1
namespace Go.Proofs.YthldnpmfelniiaaDoor
open Go.RowKit
set_option maxRecDepth 100000
set_option maxHeartbeats 2000000
def N9 (x0 : o6) (H : Hp) (K : b3 → Hp → Prop) : Prop :=
 K (b3.q6 (w6.mk x0)) H
theorem a4m (x0 : o6) {w0 w : World} {ps0 : Nat → Prop} {H0 H : Hp} {K : b3 → Hp → Prop} {R : Value → World → Prop} {E : Pan} (I : Inv w0 ps0 H0 H [] w) (hR : ∀ (r0 : b3) (H' : Hp) (w' : World) (_ : Inv w0 ps0 H0 H' [] w') (_ : K r0 H'), R (i8 r0) w') (h : N9 x0 H K) : F98 (Value.agg (f6 x0).toArray) w R E := by
 unfold N9 at h
 unfold F98
 refine M1 I (cs := (f6 x0)) rfl fun g_2 w_3 I_4 k_5 => ?_
 refine b7 (ldA Tryd.isAgg88 Tryd.sizeOf88 rfl (I_4.at1 (o := 0) (vs := (f6 x0)) (nb rfl) rfl)) ?_
 refine a7 (b0M _ _ _ _ _ _ _ _ _ _ _ _ _ _) ?_
 refine a7 (a8N (w6.mk x0)) ?_
 exact hR (b3.q6 (w6.mk x0)) H _ I_4.drop h
theorem a5b (x0 : o6) {H : Hp} {K : b3 → Hp → Prop} (h : N9 x0 H K) : a1i x0 H K := by
 intro w I
 refine c4S ?_
 refine a4m x0 I (fun r0 H' w' I' hk => ⟨H', _, I', r0, rfl, rfl, hk⟩) h
def k4 (G3 : (List b3)) (H : Hp) (K : Sl → Hp → Prop) : Prop :=
 ∀ (s0 : Sl) (F7 : Hp), Hle H F7 → SlH F7 1 g6 s0 G3 → s0.n ≤ s0.c →
 K s0 F7
def k5 (z1 : Sl) (a1l : Int) (i4 : (List b3)) (g8 : Int) (H : Hp) (n2 : ((List b3) × Int) → Hp → Prop) (K : Sl → Hp → Prop) : Prop :=
 (g8 < a1l →
 (0 : Int) ≤ g8 ∧ (g8 : Int) < z1.n ∧ ∃ x_1 : o6, EltH H z1 g8 6 (f6 x_1) ∧
 a1i x_1 H (fun (B6 : b3) (T2 : Hp) =>
 (i4.length + ([B6] : List b3).length) * 17 ≤ 140737488355328 ∧
 n2 ((i4 ++ [B6]), (IntKind.wrap .i64 (g8 + 1))) T2)) ∧
 (¬ (g8 < a1l) →
 k4 i4 H K)
def m1 (x0 : Sl) (H : Hp) (K : Sl → Hp → Prop) : Prop :=
 TL (([], 0) : (List b3) × Int) H fun (s : (List b3) × Int) H n2 => k5 x0 (x0.n : Int) s.1 s.2 H n2 K
theorem K3 (x0 : Sl) {w0 w : World} {ps0 : Nat → Prop} {H0 H : Hp} {K : Sl → Hp → Prop} {R : Value → World → Prop} {E : Pan} (I : Inv w0 ps0 H0 H [] w) (hR : ∀ (r0 : Sl) (H' : Hp) (w' : World) (_ : Inv w0 ps0 H0 H' [] w') (_ : K r0 H'), R (vs r0) w') (h : m1 x0 H K) : F97 (vs x0) (Value.func (.func 98) #[] #[]) w R E := by
 unfold m1 at h
 unfold F97
 have hj1 : ∀ (G3 : (List b3)) (s0 : Sl) (Fs5j1 : Frag) (H : Hp) (w : World) (_ : RowL 141 1 g6 s0 G3 Fs5j1) (_ : Inv w0 ps0 H0 H [Fs5j1] w) (_ : k4 G3 H K), b1f (vs s0) w R E := by
  intro G3 s0 Fs5j1 H w a4Q I h
  unfold b1f
  intro _
  unfold k4 at h
  obtain ⟨F7, a2T, a6b, a7p, a7q⟩ := Inv.freezeC I a4Q (by decide)
  replace h := h s0 F7 a6b a7p a7q
  exact hR s0 F7 _ a2T h
 refine t7 fun j1 hx1 => ?_
 refine a7 (Q9 _ _ _) ?_
 obtain ⟨a0s, O9, a7r, a7s⟩ := h
 refine B7 (J := fun n l w => ∃ (s : (List b3) × Int) (H : Hp) (G4 : Sl) (Fs5l2 : Frag) , n = O9 s ∧ l = (match s with | (i4, g8) => [(vs G4), (vi g8)]) ∧ (match s with | (i4, g8) => RowL 141 1 g6 G4 i4 Fs5l2) ∧ (match s with | (i4, g8) => Inv w0 ps0 H0 H [Fs5l2] w) ∧ a0s s H) ⟨_, ([], 0), H, (Sl.mk none 0 0), [], rfl, rfl, (RowL.nil y9 B4), I.nil, a7r⟩ ?_
 rintro b8k τ_50 w next2 ⟨⟨i4, g8⟩, H, G4, Fs5l2, rfl, a0t, U9, I, a7t⟩ hn2
 dsimp only at a0t I U9
 simp only [List.map_cons, List.map_nil, List.cons.injEq, and_true] at a0t
 obtain ⟨e5, e10⟩ := a0t
 simp only [e5, e10]
 obtain ⟨n2, hm2, h⟩ : ∃ n2 : ((List b3) × Int) → Hp → Prop, (∀ s' H', n2 s' H' → a0s s' H' ∧ O9 s' < O9 (i4, g8)) ∧ k5 x0 (x0.n : Int) i4 g8 H n2 K := ⟨_, fun _ _ h => h, a7s (i4, g8) H (fun s' H' => a0s s' H' ∧ O9 s' < O9 (i4, g8)) a7t (fun _ _ a b => ⟨a, b⟩)⟩
 unfold b6s
 unfold k5 at h
 refine a7 (E7 _ _ _ _ _ _) ?_
 refine d8 (fun V0 => ?_) (fun V0 => ?_)
 ·replace h := h.1 V0
  obtain ⟨h_4, h_5, x_1, h_7, h⟩ := h
  obtain ⟨g_2, o_3, h_6, h_7⟩ := h_7
  refine a7 (b0J h_6 _ _ _ _ h_4 h_5) ?_
  refine b7 (ldA (vs := (f6 x_1)) Tryd.isAgg88 Tryd.sizeOf88 rfl (I.atH h_7)) ?_
  refine y8 I Tryd.zeroValue88 (cs := [(vi 0), (Value.string ⟨#[]⟩), (Value.slice none 0 0), (Value.slice none 0 0), (Value.slice none 0 0), (Value.slice none 0 0)]) rfl fun g_9 l0 a0b a9m => ?_
  refine o3 a0b Tryd.sizeOf88 (vs := (f6 x_1)) (cs' := (f6 x_1)) rfl rfl (nb rfl) rfl rfl fun a1X a2U b8l => ?_
  refine b7 (ldA Tryd.isAgg88 Tryd.sizeOf88 rfl (a2U.at1 (o := 0) (vs := (f6 x_1)) (nb rfl) rfl)) ?_
  refine d6 (cap := []) (fun args w => Tryd.call98 args w) ?_
  refine i2 (Fi := []) (Fr := [bx g_9 88 (f6 x_1), Fs5l2]) a2U (h) (fun b4o T2 b4p Z4 V1 b4q b1J a4R => ?_) (fun _ _ _ _ _ q => q.elim)
  obtain ⟨B6, rfl, rfl, h⟩ := a4R
  refine a0S (e := 141) (c := g6) (xs := [B6]) V1 (a6y _) rfl rfl y9 B4 (nb rfl) fun b1K a9n C1 a4S a1D b4r => ?_
  obtain ⟨a2V, h⟩ := h
  refine a5F (s := G4) (xs := i4) (a1D.bring 2) U9 (a4S.srcO ((a1D.bring 2).bring 1)) a2V fun a7u a7v C8 a4T a1Z b4s => ?_
  refine a7 (A6 _ _ _ _ _ _) ?_
  exact hn2 _ _ _ (hm2 _ _ h).2 ⟨((i4 ++ [B6]), (IntKind.wrap .i64 (g8 + 1))), T2, a7u, a7v, rfl, rfl, a4T, ((a1Z.bring 1).drop.bring 1).drop, (hm2 _ _ h).1⟩
 ·replace h := h.2 V0
  exact hx1 _ _ (hj1 i4 G4 Fs5l2 H _ U9 I h)
theorem L0 (x0 : Sl) {H : Hp} {K : Sl → Hp → Prop} (h : m1 x0 H K) : h7 x0 H K := by
 intro w I
 refine c4Q ?_
 refine K3 x0 I (fun r0 H' w' I' hk => ⟨H', _, I', r0, rfl, rfl, hk⟩) h
def m4 (a6K : Bool) (_cr_1j4 : Int) (H : Hp) (K : Int → Hp → Prop) : Prop :=
 (a6K = true →
 K 3 H) ∧
 (a6K = false →
 K 6 H)
def y1 (a6L : Bool) (cr_1j3 : Int) (H : Hp) (K : Int → Hp → Prop) : Prop :=
 (a6L = true →
 K 6 H) ∧
 (a6L = false →
 s7 48 57 cr_1j3 H (fun (N7 : Bool) (H_6 : Hp) =>
 (N7 = true →
 K 4 H_6) ∧
 (N7 = false →
 (cr_1j3 = 95 →
 m4 (decide (cr_1j3 = 95)) cr_1j3 H_6 K) ∧
 (¬ (cr_1j3 = 95) →
 s7 97 122 cr_1j3 H_6 (fun (B6 : Bool) (T2 : Hp) =>
 (B6 = true →
 m4 B6 cr_1j3 T2 K) ∧
 (B6 = false →
 s7 65 90 cr_1j3 T2 (fun (a8x : Bool) (b4C : Hp) =>
 (a8x = true →
 m4 a8x cr_1j3 b4C K) ∧
 (a8x = false →
 s7 192 591 cr_1j3 b4C (fun (a8y : Bool) (a3X : Hp) =>
 (a8y = true →
 m4 a8y cr_1j3 a3X K) ∧
 (a8y = false →
 s7 913 969 cr_1j3 a3X (fun (V4 : Bool) (a0d : Hp) =>
 (V4 = true →
 m4 V4 cr_1j3 a0d K) ∧
 (V4 = false →
 s7 1040 1103 cr_1j3 a0d (fun (b4D : Bool) (b8I : Hp) =>
 m4 b4D cr_1j3 b8I K)))))))))))))
def d5 (a7D : Int) (a6M : Bool) (cr_1j2 : Int) (H : Hp) (K : Int → Hp → Prop) : Prop :=
 (a6M = true →
 K 5 H) ∧
 (a6M = false →
 (a7D = 215 →
 y1 (decide (a7D = 215)) cr_1j2 H K) ∧
 (¬ (a7D = 215) →
 (a7D = 247 →
 y1 (decide (a7D = 247)) cr_1j2 H K) ∧
 (¬ (a7D = 247) →
 y1 (decide (a7D = 930)) cr_1j2 H K)))
def y2 (h9 : Int) (a5c : Bool) (cr_1j1 : Int) (H : Hp) (K : Int → Hp → Prop) : Prop :=
 (a5c = true →
 K 1 H) ∧
 (a5c = false →
 (h9 = 10 →
 K 2 H) ∧
 (¬ (h9 = 10) →
 (h9 = 59 →
 d5 h9 (decide (h9 = 59)) cr_1j1 H K) ∧
 (¬ (h9 = 59) →
 (h9 = 44 →
 d5 h9 (decide (h9 = 44)) cr_1j1 H K) ∧
 (¬ (h9 = 44) →
 (h9 = 123 →
 d5 h9 (decide (h9 = 123)) cr_1j1 H K) ∧
 (¬ (h9 = 123) →
 (h9 = 125 →
 d5 h9 (decide (h9 = 125)) cr_1j1 H K) ∧
 (¬ (h9 = 125) →
 (h9 = 40 →
 d5 h9 (decide (h9 = 40)) cr_1j1 H K) ∧
 (¬ (h9 = 40) →
 (h9 = 41 →
 d5 h9 (decide (h9 = 41)) cr_1j1 H K) ∧
 (¬ (h9 = 41) →
 (h9 = 91 →
 d5 h9 (decide (h9 = 91)) cr_1j1 H K) ∧
 (¬ (h9 = 91) →
 (h9 = 93 →
 d5 h9 (decide (h9 = 93)) cr_1j1 H K) ∧
 (¬ (h9 = 93) →
 (h9 = 61 →
 d5 h9 (decide (h9 = 61)) cr_1j1 H K) ∧
 (¬ (h9 = 61) →
 (h9 = 33 →
 d5 h9 (decide (h9 = 33)) cr_1j1 H K) ∧
 (¬ (h9 = 33) →
 (h9 = 60 →
 d5 h9 (decide (h9 = 60)) cr_1j1 H K) ∧
 (¬ (h9 = 60) →
 (h9 = 62 →
 d5 h9 (decide (h9 = 62)) cr_1j1 H K) ∧
 (¬ (h9 = 62) →
 (h9 = 43 →
 d5 h9 (decide (h9 = 43)) cr_1j1 H K) ∧
 (¬ (h9 = 43) →
 (h9 = 45 →
 d5 h9 (decide (h9 = 45)) cr_1j1 H K) ∧
 (¬ (h9 = 45) →
 (h9 = 42 →
 d5 h9 (decide (h9 = 42)) cr_1j1 H K) ∧
 (¬ (h9 = 42) →
 (h9 = 47 →
 d5 h9 (decide (h9 = 47)) cr_1j1 H K) ∧
 (¬ (h9 = 47) →
 (h9 = 37 →
 d5 h9 (decide (h9 = 37)) cr_1j1 H K) ∧
 (¬ (h9 = 37) →
 (h9 = 38 →
 d5 h9 (decide (h9 = 38)) cr_1j1 H K) ∧
 (¬ (h9 = 38) →
 d5 h9 (decide (h9 = 124)) cr_1j1 H K))))))))))))))))))))
def P4 (x0 : Int) (H : Hp) (K : Int → Hp → Prop) : Prop :=
 (x0 = 32 →
 y2 x0 (decide (x0 = 32)) x0 H K) ∧
 (¬ (x0 = 32) →
 (x0 = 9 →
 y2 x0 (decide (x0 = 9)) x0 H K) ∧
 (¬ (x0 = 9) →
 y2 x0 (decide (x0 = 13)) x0 H K))
theorem a5d (x0 : Int) {w0 w : World} {ps0 : Nat → Prop} {H0 H : Hp} {K : Int → Hp → Prop} {R : Value → World → Prop} {E : Pan} (I : Inv w0 ps0 H0 H [] w) (hR : ∀ (r0 : Int) (H' : Hp) (w' : World) (_ : Inv w0 ps0 H0 H' [] w') (_ : K r0 H'), R (vi r0) w') (h : P4 x0 H K) : b3T (Value.int .i32 x0) w R E := by
 unfold P4 at h
 unfold b3T
 refine M1 I (cs := [(Value.int .i32 x0)]) rfl fun g_2 w_3 I_4 k_5 => ?_
 refine b7 (ld1 Tryd.isAgg21 (I_4.at1 (o := 0) (vs := [(Value.int .i32 x0)]) (nb rfl) rfl)) ?_
 have hj1 : ∀ (a5c : Bool) (H : Hp) (w : World) (_ : Inv w0 ps0 H0 H [bx g_2 21 [(Value.int .i32 x0)]] w) (_ : y2 x0 a5c x0 H K), a9a (Value.pointer (some ⟨g_2, 0, none⟩)) (Value.int .i32 x0) (Value.bool a5c) w R E := by
  intro a5c H w I h
  unfold a9a
  intro _
  unfold y2 at h
  refine o4 (fun b8J => ?_) (fun b8J => ?_)
  ·replace h := h.1 b8J
   exact hR 1 H _ I.drop h
  ·replace h := h.2 b8J
   refine a7 (f4 _ _ _ _ _ _) ?_
   refine d8 (fun b8K => ?_) (fun b8K => ?_)
   ·replace h := h.1 b8K
    exact hR 2 H _ I.drop h
   ·replace h := h.2 b8K
    have hj2 : ∀ (a6M : Bool) (H : Hp) (w : World) (_ : Inv w0 ps0 H0 H [bx g_2 21 [(Value.int .i32 x0)]] w) (_ : d5 x0 a6M x0 H K), a8Z (Value.pointer (some ⟨g_2, 0, none⟩)) (Value.int .i32 x0) (Value.bool a6M) w R E := by
     intro a6M H w I h
     unfold a8Z
     intro _
     unfold d5 at h
     refine o4 (fun b8L => ?_) (fun b8L => ?_)
     ·replace h := h.1 b8L
      exact hR 5 H _ I.drop h
     ·replace h := h.2 b8L
      have hj3 : ∀ (a6L : Bool) (H : Hp) (w : World) (_ : Inv w0 ps0 H0 H [bx g_2 21 [(Value.int .i32 x0)]] w) (_ : y1 a6L x0 H K), a8Y (Value.pointer (some ⟨g_2, 0, none⟩)) (Value.bool a6L) w R E := by
       intro a6L H w I h
       unfold a8Y
       intro _
       unfold y1 at h
       refine o4 (fun b8M => ?_) (fun b8M => ?_)
       ·replace h := h.1 b8M
        exact hR 6 H _ I.drop h
       ·replace h := h.2 b8M
        refine a7 (W1 _ _ _) ?_
        refine d6 (cap := [(Value.pointer (some ⟨g_2, 0, none⟩))]) (fun args w => Tryd.call131 args w) ?_
        refine i2 (Fi := [bx g_2 21 [(Value.int .i32 x0)]]) (Fr := []) I (h g_2) (fun a9w H_6 a9x w_7 I_8 a9y k_9 a1F => ?_) (fun _ _ _ _ _ q => q.elim)
        obtain ⟨N7, rfl, rfl, h⟩ := a1F
        refine o4 (fun b8N => ?_) (fun b8N => ?_)
        ·replace h := h.1 b8N
         exact hR 4 H_6 _ I_8.drop h
        ·replace h := h.2 b8N
         have hj4 : ∀ (a6K : Bool) (H : Hp) (w : World) (_ : Inv w0 ps0 H0 H [bx g_2 21 [(Value.int .i32 x0)]] w) (_ : m4 a6K x0 H K), a8X (Value.bool a6K) w R E := by
          intro a6K H w I h
          unfold a8X
          intro _
          unfold m4 at h
          refine o4 (fun a0r => ?_) (fun a0r => ?_)
          ·replace h := h.1 a0r
           exact hR 3 H _ I.drop h
          ·replace h := h.2 a0r
           exact hR 6 H _ I.drop h
         refine t7 fun j4 hx4 => ?_
         refine b7 (ld1 Tryd.isAgg21 (I_8.at1 (o := 0) (vs := [(Value.int .i32 x0)]) (nb rfl) rfl)) ?_
         refine a7 (f4 _ _ _ _ _ _) ?_
         refine d8 (fun b8O => ?_) (fun b8O => ?_)
         ·replace h := h.1 b8O
          exact hx4 _ _ (hj4 (decide (x0 = 95)) H_6 _ I_8 h)
         ·replace h := h.2 b8O
          refine d6 (cap := [(Value.pointer (some ⟨g_2, 0, none⟩))]) (fun args w => Tryd.call131 args w) ?_
          refine i2 (Fi := [bx g_2 21 [(Value.int .i32 x0)]]) (Fr := []) I_8 (h g_2) (fun b4o T2 b4p Z4 V1 b4q b1J a4R => ?_) (fun _ _ _ _ _ q => q.elim)
          obtain ⟨B6, rfl, rfl, h⟩ := a4R
          refine o4 (fun b8P => ?_) (fun b8P => ?_)
          ·replace h := h.1 b8P
           exact hx4 _ _ (hj4 B6 T2 _ V1 h)
          ·replace h := h.2 b8P
           refine d6 (cap := [(Value.pointer (some ⟨g_2, 0, none⟩))]) (fun args w => Tryd.call131 args w) ?_
           refine i2 (Fi := [bx g_2 21 [(Value.int .i32 x0)]]) (Fr := []) V1 (h g_2) (fun d8b b4C d8c y5 c8u d8d d8e d4l => ?_) (fun _ _ _ _ _ q => q.elim)
           obtain ⟨a8x, rfl, rfl, h⟩ := d4l
           refine o4 (fun b8Q => ?_) (fun b8Q => ?_)
           ·replace h := h.1 b8Q
            exact hx4 _ _ (hj4 a8x b4C _ c8u h)
           ·replace h := h.2 b8Q
            refine d6 (cap := [(Value.pointer (some ⟨g_2, 0, none⟩))]) (fun args w => Tryd.call131 args w) ?_
            refine i2 (Fi := [bx g_2 21 [(Value.int .i32 x0)]]) (Fr := []) c8u (h g_2) (fun d8f a3X d8g d8h a1Z a6b b4s d4m => ?_) (fun _ _ _ _ _ q => q.elim)
            obtain ⟨a8y, rfl, rfl, h⟩ := d4m
            refine o4 (fun b8R => ?_) (fun b8R => ?_)
            ·replace h := h.1 b8R
             exact hx4 _ _ (hj4 a8y a3X _ a1Z h)
            ·replace h := h.2 b8R
             refine d6 (cap := [(Value.pointer (some ⟨g_2, 0, none⟩))]) (fun args w => Tryd.call131 args w) ?_
             refine i2 (Fi := [bx g_2 21 [(Value.int .i32 x0)]]) (Fr := []) a1Z (h g_2) (fun d4a a0d d4b J1 a9u d4c d4d b8C => ?_) (fun _ _ _ _ _ q => q.elim)
             obtain ⟨V4, rfl, rfl, h⟩ := b8C
             refine o4 (fun b8S => ?_) (fun b8S => ?_)
             ·replace h := h.1 b8S
              exact hx4 _ _ (hj4 V4 a0d _ a9u h)
             ·replace h := h.2 b8S
              refine d6 (cap := [(Value.pointer (some ⟨g_2, 0, none⟩))]) (fun args w => Tryd.call131 args w) ?_
              refine i2 (Fi := [bx g_2 21 [(Value.int .i32 x0)]]) (Fr := []) a9u (h g_2) (fun d8i b8I d8j d4n d4o d8k d8l d4p => ?_) (fun _ _ _ _ _ q => q.elim)
              obtain ⟨b4D, rfl, rfl, h⟩ := d4p
              exact hx4 _ _ (hj4 b4D b8I _ d4o h)
      refine t7 fun j3 hx3 => ?_
      refine a7 (f4 _ _ _ _ _ _) ?_
      refine d8 (fun a7B => ?_) (fun a7B => ?_)
      ·replace h := h.1 a7B
       exact hx3 _ _ (hj3 (decide (x0 = 215)) H _ I h)
      ·replace h := h.2 a7B
       refine a7 (f4 _ _ _ _ _ _) ?_
       refine d8 (fun a7E => ?_) (fun a7E => ?_)
       ·replace h := h.1 a7E
        exact hx3 _ _ (hj3 (decide (x0 = 247)) H _ I h)
       ·replace h := h.2 a7E
        refine a7 (f4 _ _ _ _ _ _) ?_
        exact hx3 _ _ (hj3 (decide (x0 = 930)) H _ I h)
    refine t7 fun j2 hx2 => ?_
    refine a7 (f4 _ _ _ _ _ _) ?_
    refine d8 (fun b8T => ?_) (fun b8T => ?_)
    ·replace h := h.1 b8T
     exact hx2 _ _ (hj2 (decide (x0 = 59)) H _ I h)
    ·replace h := h.2 b8T
     refine a7 (f4 _ _ _ _ _ _) ?_
     refine d8 (fun a7F => ?_) (fun a7F => ?_)
     ·replace h := h.1 a7F
      exact hx2 _ _ (hj2 (decide (x0 = 44)) H _ I h)
     ·replace h := h.2 a7F
      refine a7 (f4 _ _ _ _ _ _) ?_
      refine d8 (fun a7G => ?_) (fun a7G => ?_)
      ·replace h := h.1 a7G
       exact hx2 _ _ (hj2 (decide (x0 = 123)) H _ I h)
      ·replace h := h.2 a7G
       refine a7 (f4 _ _ _ _ _ _) ?_
       refine d8 (fun b8U => ?_) (fun b8U => ?_)
       ·replace h := h.1 b8U
        exact hx2 _ _ (hj2 (decide (x0 = 125)) H _ I h)
       ·replace h := h.2 b8U
        refine a7 (f4 _ _ _ _ _ _) ?_
        refine d8 (fun b8V => ?_) (fun b8V => ?_)
        ·replace h := h.1 b8V
         exact hx2 _ _ (hj2 (decide (x0 = 40)) H _ I h)
        ·replace h := h.2 b8V
         refine a7 (f4 _ _ _ _ _ _) ?_
         refine d8 (fun b8W => ?_) (fun b8W => ?_)
         ·replace h := h.1 b8W
          exact hx2 _ _ (hj2 (decide (x0 = 41)) H _ I h)
         ·replace h := h.2 b8W
          refine a7 (f4 _ _ _ _ _ _) ?_
          refine d8 (fun b8X => ?_) (fun b8X => ?_)
          ·replace h := h.1 b8X
           exact hx2 _ _ (hj2 (decide (x0 = 91)) H _ I h)
          ·replace h := h.2 b8X
           refine a7 (f4 _ _ _ _ _ _) ?_
           refine d8 (fun a7H => ?_) (fun a7H => ?_)
           ·replace h := h.1 a7H
            exact hx2 _ _ (hj2 (decide (x0 = 93)) H _ I h)
           ·replace h := h.2 a7H
            refine a7 (f4 _ _ _ _ _ _) ?_
            refine d8 (fun b8Y => ?_) (fun b8Y => ?_)
            ·replace h := h.1 b8Y
             exact hx2 _ _ (hj2 (decide (x0 = 61)) H _ I h)
            ·replace h := h.2 b8Y
             refine a7 (f4 _ _ _ _ _ _) ?_
             refine d8 (fun b8Z => ?_) (fun b8Z => ?_)
             ·replace h := h.1 b8Z
              exact hx2 _ _ (hj2 (decide (x0 = 33)) H _ I h)
             ·replace h := h.2 b8Z
              refine a7 (f4 _ _ _ _ _ _) ?_
              refine d8 (fun b9a => ?_) (fun b9a => ?_)
              ·replace h := h.1 b9a
               exact hx2 _ _ (hj2 (decide (x0 = 60)) H _ I h)
              ·replace h := h.2 b9a
               refine a7 (f4 _ _ _ _ _ _) ?_
               refine d8 (fun b9b => ?_) (fun b9b => ?_)
               ·replace h := h.1 b9b
                exact hx2 _ _ (hj2 (decide (x0 = 62)) H _ I h)
               ·replace h := h.2 b9b
                refine a7 (f4 _ _ _ _ _ _) ?_
                refine d8 (fun b9c => ?_) (fun b9c => ?_)
                ·replace h := h.1 b9c
                 exact hx2 _ _ (hj2 (decide (x0 = 43)) H _ I h)
                ·replace h := h.2 b9c
                 refine a7 (f4 _ _ _ _ _ _) ?_
                 refine d8 (fun a7x => ?_) (fun a7x => ?_)
                 ·replace h := h.1 a7x
                  exact hx2 _ _ (hj2 (decide (x0 = 45)) H _ I h)
                 ·replace h := h.2 a7x
                  refine a7 (f4 _ _ _ _ _ _) ?_
                  refine d8 (fun a7y => ?_) (fun a7y => ?_)
                  ·replace h := h.1 a7y
                   exact hx2 _ _ (hj2 (decide (x0 = 42)) H _ I h)
                  ·replace h := h.2 a7y
                   refine a7 (f4 _ _ _ _ _ _) ?_
                   refine d8 (fun b9d => ?_) (fun b9d => ?_)
                   ·replace h := h.1 b9d
                    exact hx2 _ _ (hj2 (decide (x0 = 47)) H _ I h)
                   ·replace h := h.2 b9d
                    refine a7 (f4 _ _ _ _ _ _) ?_
                    refine d8 (fun a7I => ?_) (fun a7I => ?_)
                    ·replace h := h.1 a7I
                     exact hx2 _ _ (hj2 (decide (x0 = 37)) H _ I h)
                    ·replace h := h.2 a7I
                     refine a7 (f4 _ _ _ _ _ _) ?_
                     refine d8 (fun a7A => ?_) (fun a7A => ?_)
                     ·replace h := h.1 a7A
                      exact hx2 _ _ (hj2 (decide (x0 = 38)) H _ I h)
                     ·replace h := h.2 a7A
                      refine a7 (f4 _ _ _ _ _ _) ?_
                      exact hx2 _ _ (hj2 (decide (x0 = 124)) H _ I h)
 refine t7 fun j1 hx1 => ?_
 refine a7 (f4 _ _ _ _ _ _) ?_
 refine d8 (fun b9e => ?_) (fun b9e => ?_)
 ·replace h := h.1 b9e
  exact hx1 _ _ (hj1 (decide (x0 = 32)) H _ I_4 h)
 ·replace h := h.2 b9e
  refine a7 (f4 _ _ _ _ _ _) ?_
  refine d8 (fun b9f => ?_) (fun b9f => ?_)
  ·replace h := h.1 b9f
   exact hx1 _ _ (hj1 (decide (x0 = 9)) H _ I_4 h)
  ·replace h := h.2 b9f
   refine a7 (f4 _ _ _ _ _ _) ?_
   exact hx1 _ _ (hj1 (decide (x0 = 13)) H _ I_4 h)
theorem a5s (x0 : Int) {H : Hp} {K : Int → Hp → Prop} (h : P4 x0 H K) : P2 x0 H K := by
 intro w I
 refine c1I ?_
 refine a5d x0 I (fun r0 H' w' I' hk => ⟨H', _, I', r0, rfl, rfl, hk⟩) h
def y3 (a9z : Int) (H : Hp) (K : Int → Hp → Prop) : Prop :=
 K a9z H
def y4 (jr_1l2 : ByteArray) (a2d : Int) (ir_1l2 : Nat) (H : Hp) (n2 : (Int × Nat) → Hp → Prop) (K : Int → Hp → Prop) : Prop :=
 (ir_1l2 < jr_1l2.size →
 n2 ((IntKind.wrap .i64 (a2d + 1)), (ir_1l2 + (Utf8.decode jr_1l2 ir_1l2).2)) H) ∧
 (¬ (ir_1l2 < jr_1l2.size) →
 y3 a2d H K)
def A4 (x0 : ByteArray) (H : Hp) (K : Int → Hp → Prop) : Prop :=
 TL ((0, 0) : Int × Nat) H fun (s : Int × Nat) H n2 => y4 x0 s.1 s.2 H n2 K
theorem a0i (x0 : ByteArray) {w0 w : World} {ps0 : Nat → Prop} {H0 H : Hp} {K : Int → Hp → Prop} {R : Value → World → Prop} {E : Pan} (I : Inv w0 ps0 H0 H [] w) (hR : ∀ (r0 : Int) (H' : Hp) (w' : World) (_ : Inv w0 ps0 H0 H' [] w') (_ : K r0 H'), R (vi r0) w') (h : A4 x0 H K) : b3V (Value.string x0) w R E := by
 unfold A4 at h
 unfold b3V
 have hj1 : ∀ (a9z : Int) (H : Hp) (w : World) (_ : Inv w0 ps0 H0 H [] w) (_ : y3 a9z H K), a9c (vi a9z) w R E := by
  intro a9z H w I h
  unfold a9c
  intro _
  unfold y3 at h
  exact hR a9z H _ I h
 refine t7 fun j1 hx1 => ?_
 refine b3g Tryd.underlying9 x0 I fun g_2 w_3 I_4 k_5 => ?_
 obtain ⟨b9g, b1Z, d4q, d4r⟩ := h
 refine B7 (J := fun n l w => ∃ (s : Int × Nat) (H : Hp) , n = b1Z s ∧ l = (match s with | (a2d, ir_1l2) => [(vi a2d)]) ∧ (match s with | (a2d, ir_1l2) => Inv w0 ps0 H0 H [itf g_2 x0 ir_1l2] w) ∧ b9g s H) ⟨_, (0, 0), H, rfl, rfl, I_4, d4q⟩ ?_
 rintro d8m τ_27 w next2 ⟨⟨a2d, ir_1l2⟩, H, rfl, b9h, I, d4s⟩ hn2
 dsimp only at b9h I
 simp only [List.map_cons, List.map_nil, List.cons.injEq, and_true] at b9h
 have e2 := b9h
 simp only [e2]
 obtain ⟨n2, hm2, h⟩ : ∃ n2 : (Int × Nat) → Hp → Prop, (∀ s' H', n2 s' H' → b9g s' H' ∧ b1Z s' < b1Z (a2d, ir_1l2)) ∧ y4 x0 a2d ir_1l2 H n2 K := ⟨_, fun _ _ h => h, d4r (a2d, ir_1l2) H (fun s' H' => b9g s' H' ∧ b1Z s' < b1Z (a2d, ir_1l2)) d4s (fun _ _ a b => ⟨a, b⟩)⟩
 unfold b3l
 unfold y4 at h
 refine b6j I (fun a7C s5 a4V b1M => ?_) (fun a7C => ?_)
 ·replace h := h.1 a7C
  refine a7 (u6 _ _ _ rfl) ?_
  refine o4 (fun e => ?_) (fun e => by cases e)
  refine a7 (A6 _ _ _ _ _ _) ?_
  exact hn2 _ _ _ (hm2 _ _ h).2 ⟨((IntKind.wrap .i64 (a2d + 1)), (ir_1l2 + (Utf8.decode x0 ir_1l2).2)), H, rfl, rfl, a4V, (hm2 _ _ h).1⟩
 ·replace h := h.2 a7C
  refine a7 (u6 _ _ _ rfl) ?_
  refine o4 (fun e => by cases e) (fun e => ?_)
  exact hx1 _ _ (hj1 a2d H _ I.drop h)
theorem a0v (x0 : ByteArray) {H : Hp} {K : Int → Hp → Prop} (h : A4 x0 H K) : E4 x0 H K := by
 intro w I
 refine c1M ?_
 refine a0i x0 I (fun r0 H' w' I' hk => ⟨H', _, I', r0, rfl, rfl, hk⟩) h
def V5 (H : Hp) (K : Bool → Hp → Prop) : Prop :=
 K true H
def w9 (jr_28l2 : ByteArray) (ir_28l2 : Nat) (H : Hp) (n2 : Nat → Hp → Prop) (K : Bool → Hp → Prop) : Prop :=
 (ir_28l2 < jr_28l2.size →
 W7 ((Utf8.decode jr_28l2 ir_28l2).1 : Int) H (fun (a5e : Bool) (b2a : Hp) =>
 TG ((!(!a5e) && (decide (((ir_28l2 : Nat) : Int) = 0))) = true) (P2 ((Utf8.decode jr_28l2 ir_28l2).1 : Int) b2a) 0 b2a (fun (a2u : Int) (a2e : Hp) =>
 (((!a5e) || ((decide (((ir_28l2 : Nat) : Int) = 0)) && (!decide (a2u = 3)))) = true →
 K false a2e) ∧
 (((!a5e) || ((decide (((ir_28l2 : Nat) : Int) = 0)) && (!decide (a2u = 3)))) = false →
 n2 (ir_28l2 + (Utf8.decode jr_28l2 ir_28l2).2) a2e)))) ∧
 (¬ (ir_28l2 < jr_28l2.size) →
 V5 H K)
def S2 (x0 : ByteArray) (H : Hp) (K : Bool → Hp → Prop) : Prop :=
 TG ((decide (x0 = ⟨#[]⟩)) = false) (V9 x0 H) false H (fun (A8 : Bool) (H_1 : Hp) =>
 TG (((decide (x0 = ⟨#[]⟩)) || (!A8)) = false) (R7 x0 H_1) false H_1 (fun (s1 : Bool) (a0w : Hp) =>
 TG ((((decide (x0 = ⟨#[]⟩)) || (!A8)) || s1) = false) (N1 x0 a0w) false a0w (fun (V6 : Bool) (W9 : Hp) =>
 (((((decide (x0 = ⟨#[]⟩)) || (!A8)) || s1) || V6) = true →
 K false W9) ∧
 (((((decide (x0 = ⟨#[]⟩)) || (!A8)) || s1) || V6) = false →
 TL (0 : Nat) W9 fun (s : Nat) H n2 => w9 x0 s H n2 K))))
theorem a6e (x0 : ByteArray) {w0 w : World} {ps0 : Nat → Prop} {H0 H : Hp} {K : Bool → Hp → Prop} {R : Value → World → Prop} {E : Pan} (I : Inv w0 ps0 H0 H [] w) (hR : ∀ (r0 : Bool) (H' : Hp) (w' : World) (_ : Inv w0 ps0 H0 H' [] w') (_ : K r0 H'), R (Value.bool r0) w') (h : S2 x0 H K) : b3N (Value.string x0) w R E := by
 unfold S2 at h
 unfold b3N
 refine a7 (N0 _ _ _ _ _) ?_
 try simp only [M9]
 refine a1R (D := fun v_5 w_2 => ∃ (A8 : Bool) (H_1 : Hp) , v_5 = (gv (decide (x0 = ⟨#[]⟩)) false (Value.bool A8)) ∧ (Inv w0 ps0 H0 H_1 [] w_2) ∧ (∀ i, i < w.heap.size → ¬ inF [] i → w_2.heap[i]? = w.heap[i]?) ∧ Hle H H_1 ∧ (TG (((decide (x0 = ⟨#[]⟩)) || (!A8)) = false) (R7 x0 H_1) false H_1 (fun (s1 : Bool) (a0w : Hp) =>
 TG ((((decide (x0 = ⟨#[]⟩)) || (!A8)) || s1) = false) (N1 x0 a0w) false a0w (fun (V6 : Bool) (W9 : Hp) =>
 (((((decide (x0 = ⟨#[]⟩)) || (!A8)) || s1) || V6) = true →
 K false W9) ∧
 (((((decide (x0 = ⟨#[]⟩)) || (!A8)) || s1) || V6) = false →
 TL (0 : Nat) W9 fun (s : Nat) H n2 => w9 x0 s H n2 K))))) (fun a3F => ?_) (fun a3F => ?_) ?_
 ·replace h := h.1 a3F
  have a8 := a3F
  try simp only [b5 a8]
  refine d6 (cap := []) (fun args w => Tryd.call122 args w) ?_
  refine i2 (Fi := []) (Fr := []) I (h) (fun v_5 H_1 F_6 w_2 I_3 l_8 k_4 q_7 => ?_) (fun _ _ _ _ _ q => q.elim)
  obtain ⟨A8, rfl, rfl, h⟩ := q_7
  exact ⟨A8, H_1, by first | rfl | rw [b5 a3F], I_3, k_4, l_8, h⟩
 ·exact ⟨false, H, by first | rfl | rw [a4x a3F], I, fun _ _ _ => rfl, Hle.refl _, h.2 a3F⟩
 ·clear h
  rintro v_5 w_2 ⟨A8, H_1, rfl, I_3, k_4, l_8, h⟩
  refine a7 (Pu.g fun hb => by have a8 := hb; first | exact (A7 _) | (simp only [b5 a8]; exact (A7 _)) | (simp only [c6 a8, b5 a8, b5 hb, F9 a8, m3]; exact (A7 _))) ?_
  refine a7 (a0Q _ _) ?_
  try simp only [M9]
  refine a1R (D := fun b9i Q0 => ∃ (s1 : Bool) (a0w : Hp) , b9i = (gv ((decide (x0 = ⟨#[]⟩)) || (!A8)) false (Value.bool s1)) ∧ (Inv w0 ps0 H0 a0w [] Q0) ∧ (∀ i, i < w_2.heap.size → ¬ inF [] i → Q0.heap[i]? = w_2.heap[i]?) ∧ Hle H_1 a0w ∧ (TG ((((decide (x0 = ⟨#[]⟩)) || (!A8)) || s1) = false) (N1 x0 a0w) false a0w (fun (V6 : Bool) (W9 : Hp) =>
 (((((decide (x0 = ⟨#[]⟩)) || (!A8)) || s1) || V6) = true →
 K false W9) ∧
 (((((decide (x0 = ⟨#[]⟩)) || (!A8)) || s1) || V6) = false →
 TL (0 : Nat) W9 fun (s : Nat) H n2 => w9 x0 s H n2 K)))) (fun a9A => ?_) (fun a9A => ?_) ?_
  ·replace h := h.1 a9A
   have a8 := a9A
   try simp only [b5 a8]
   refine d6 (cap := []) (fun args w => Tryd.call123 args w) ?_
   refine i2 (Fi := []) (Fr := []) I_3 (h) (fun b9i a0w d8n Q0 u0 b1V a9l d4t => ?_) (fun _ _ _ _ _ q => q.elim)
   obtain ⟨s1, rfl, rfl, h⟩ := d4t
   exact ⟨s1, a0w, by first | rfl | rw [b5 a9A], u0, a9l, b1V, h⟩
  ·exact ⟨false, H_1, by first | rfl | rw [a4x a9A], I_3, fun _ _ _ => rfl, Hle.refl _, h.2 a9A⟩
  ·clear h
   rintro b9i Q0 ⟨s1, a0w, rfl, u0, a9l, b1V, h⟩
   refine a7 (a0Q _ _) ?_
   try simp only [M9]
   refine a1R (D := fun b9j r7 => ∃ (V6 : Bool) (W9 : Hp) , b9j = (gv (((decide (x0 = ⟨#[]⟩)) || (!A8)) || s1) false (Value.bool V6)) ∧ (Inv w0 ps0 H0 W9 [] r7) ∧ (∀ i, i < Q0.heap.size → ¬ inF [] i → r7.heap[i]? = Q0.heap[i]?) ∧ Hle a0w W9 ∧ ((((((decide (x0 = ⟨#[]⟩)) || (!A8)) || s1) || V6) = true →
 K false W9) ∧
 (((((decide (x0 = ⟨#[]⟩)) || (!A8)) || s1) || V6) = false →
 TL (0 : Nat) W9 fun (s : Nat) H n2 => w9 x0 s H n2 K))) (fun a9B => ?_) (fun a9B => ?_) ?_
   ·replace h := h.1 a9B
    have a8 := a9B
    try simp only [b5 a8]
    refine d6 (cap := []) (fun args w => Tryd.call124 args w) ?_
    refine i2 (Fi := []) (Fr := []) u0 (h) (fun b9j W9 d8o r7 a9C c8v b9k d4u => ?_) (fun _ _ _ _ _ q => q.elim)
    obtain ⟨V6, rfl, rfl, h⟩ := d4u
    exact ⟨V6, W9, by first | rfl | rw [b5 a9B], a9C, b9k, c8v, h⟩
   ·exact ⟨false, a0w, by first | rfl | rw [a4x a9B], u0, fun _ _ _ => rfl, Hle.refl _, h.2 a9B⟩
   ·clear h
    rintro b9j r7 ⟨V6, W9, rfl, a9C, b9k, c8v, h⟩
    refine a7 (a0Q _ _) ?_
    refine o4 (fun b9l => ?_) (fun b9l => ?_)
    ·replace h := h.1 b9l
     exact hR false W9 _ a9C h
    ·replace h := h.2 b9l
     have hj1 : ∀ (H : Hp) (w : World) (_ : Inv w0 ps0 H0 H [] w) (_ : V5 H K), a8S w R E := by
      intro H w I h
      unfold a8S
      intro _
      unfold V5 at h
      exact hR true H _ I h
     refine t7 fun j1 hx1 => ?_
     refine b3g Tryd.underlying9 x0 a9C fun F8 C5 a4W b4t => ?_
     obtain ⟨b9m, b2b, d4v, d4w⟩ := h
     refine B7 (J := fun n l w => ∃ (s : Nat) (H : Hp) , n = b2b s ∧ l = [] ∧ Inv w0 ps0 H0 H [itf F8 x0 s] w ∧ b9m s H) ⟨_, 0, W9, rfl, rfl, a4W, d4v⟩ ?_
     rintro d8p τ_94 w next2 ⟨ir_28l2, H, rfl, d4x, I, d4y⟩ hn2
     clear d4x
     obtain ⟨n2, hm2, h⟩ : ∃ n2 : Nat → Hp → Prop, (∀ s' H', n2 s' H' → b9m s' H' ∧ b2b s' < b2b ir_28l2) ∧ w9 x0 ir_28l2 H n2 K := ⟨_, fun _ _ h => h, d4w ir_28l2 H (fun s' H' => b9m s' H' ∧ b2b s' < b2b ir_28l2) d4y (fun _ _ a b => ⟨a, b⟩)⟩
     unfold b3i
     unfold w9 at h
     refine b6j I (fun a7E d8q d4z d8r => ?_) (fun a7E => ?_)
     ·replace h := h.1 a7E
      refine a7 (u6 _ _ _ rfl) ?_
      refine o4 (fun e => ?_) (fun e => by cases e)
      refine a7 (u6 _ _ _ rfl) ?_
      refine a7 (u6 _ _ _ rfl) ?_
      refine d6 (cap := []) (fun args w => Tryd.call125 args w) ?_
      refine i2 (Fi := []) (Fr := [itf F8 x0 (ir_28l2 + (Utf8.decode x0 ir_28l2).2)]) d4z (h) (fun b8z b2a d8s U4 c8w d8t d8u d4A => ?_) (fun _ _ _ _ _ q => q.elim)
      obtain ⟨a5e, rfl, rfl, h⟩ := d4A
      refine a7 (A7 _) ?_
      try simp only [M9]
      refine a7 (Pu.g fun hb => by have a8 := hb; first | exact (f4 _ _ _ _ _ _) | (simp only [b5 a8]; exact (f4 _ _ _ _ _ _)) | (simp only [c6 a8, b5 a8, b5 hb, F9 a8, m3]; exact (f4 _ _ _ _ _ _))) ?_
      try simp only [b0h, b0A]
      try simp only [M9, b0h, b6c, b6e, b0A, b6h, b6d, b6f, b6g, b6i]
      refine d0Q (a2x _ _ _) ?_
      refine a1R (D := fun b9n b4E => ∃ (a2u : Int) (a2e : Hp) , b9n = (gv (!(!a5e) && (decide (((ir_28l2 : Nat) : Int) = 0))) true (vi a2u)) ∧ (Inv w0 ps0 H0 a2e [itf F8 x0 (ir_28l2 + (Utf8.decode x0 ir_28l2).2)] b4E) ∧ (∀ i, i < U4.heap.size → ¬ inF [] i → b4E.heap[i]? = U4.heap[i]?) ∧ Hle b2a a2e ∧ ((((!a5e) || ((decide (((ir_28l2 : Nat) : Int) = 0)) && (!decide (a2u = 3)))) = true →
 K false a2e) ∧
 (((!a5e) || ((decide (((ir_28l2 : Nat) : Int) = 0)) && (!decide (a2u = 3)))) = false →
 n2 (ir_28l2 + (Utf8.decode x0 ir_28l2).2) a2e))) (fun a7J => ?_) (fun a7J => ?_) ?_
      ·replace h := h.1 a7J
       obtain ⟨a8, K8⟩ := a6w a7J
       try simp only [b5 a7J]
       refine d6 (cap := []) (fun args w => Tryd.call126 args w) ?_
       refine i2 (Fi := []) (Fr := [itf F8 x0 (ir_28l2 + (Utf8.decode x0 ir_28l2).2)]) c8w (h) (fun b9n a2e d8v b4E b4F c8x c8y d4B => ?_) (fun _ _ _ _ _ q => q.elim)
       obtain ⟨a2u, rfl, rfl, h⟩ := d4B
       exact ⟨a2u, a2e, by first | rfl | rw [b5 a7J], b4F, c8y, c8x, h⟩
      ·exact ⟨0, b2a, by first | rfl | rw [a4x a7J], c8w, fun _ _ _ => rfl, Hle.refl _, h.2 a7J⟩
      ·clear h
       rintro b9n b4E ⟨a2u, a2e, rfl, b4F, c8y, c8x, h⟩
       refine a7 (Pu.e (a2x _ _ _) (Pu.g fun hb => by obtain ⟨a8, K8⟩ := a6w hb; first | exact (a0f _ _ _ _ _ _) | (simp only [b5 hb]; exact (a0f _ _ _ _ _ _)) | (simp only [c6 a8, b5 a8, c6 K8, b5 K8, b5 hb, B5 hb]; exact (a0f _ _ _ _ _ _)) | (simp only [c6 a8, b5 a8, c6 K8, b5 K8, b5 hb, k9 hb, m3]; exact (a0f _ _ _ _ _ _)))) ?_
       refine a7 (Pu.g fun hb => by have a8 := hb; first | exact (E8 _ _) | (simp only [b5 a8, a5C a8]; exact (E8 _ _)) | (simp only [c6 a8, b5 a8, b5 hb, F9 a8, m3]; exact (E8 _ _))) ?_
       refine a7 (a0Q _ _) ?_
       refine o4 (fun a7F => ?_) (fun a7F => ?_)
       ·replace h := h.1 a7F
        exact hR false a2e _ b4F.drop h
       ·replace h := h.2 a7F
        exact hn2 _ _ _ (hm2 _ _ h).2 ⟨(ir_28l2 + (Utf8.decode x0 ir_28l2).2), a2e, rfl, rfl, b4F, (hm2 _ _ h).1⟩
     ·replace h := h.2 a7E
      refine a7 (u6 _ _ _ rfl) ?_
      refine o4 (fun e => by cases e) (fun e => ?_)
      exact hx1 _ _ (hj1 H _ I.drop h)
theorem a6U (x0 : ByteArray) {H : Hp} {K : Bool → Hp → Prop} (h : S2 x0 H K) : R8 x0 H K := by
 intro w I
 refine c1w ?_
 refine a6e x0 I (fun r0 H' w' I' hk => ⟨H', _, I', r0, rfl, rfl, hk⟩) h
def F1 (a1G : Int) (a1H : Int) (a1I : Int) (a1J : Bool) (a1K : Bool) (a0F : (List ByteArray)) (H : Hp) (K : Bool → b6 → (List ByteArray) → Hp → Prop) : Prop :=
 K true (b6.mk a1G a1H a1I a1J a1K (Sl.mk none 0 0)) a0F H
def F3 (b2c : Int) (a1l : Sl) (g8 : Int) (P5 : Int) (L1 : Int) (L2 : Int) (L3 : Int) (L4 : Bool) (L5 : Bool) (I0 : (List ByteArray)) (H : Hp) (n2 : (Int × Int × Int × Int × Bool × Bool × (List ByteArray)) → Hp → Prop) (K : Bool → b6 → (List ByteArray) → Hp → Prop) : Prop :=
 (P5 < g8 →
 (0 : Int) ≤ P5 ∧ (P5 : Int) < a1l.n ∧ ∃ a1q : b3, EltH H a1l P5 1 [(i8 a1q)] ∧
 M7 (b6.mk L1 L2 L3 L4 L5 (Sl.mk none 0 0)) I0 a1q b2c H (fun (a0l : Bool) (s8 : b6) (a2E : (List ByteArray)) (b2d : Hp) =>
 TG ((!a0l) = false) (T0 a1q b2d) (Sl.mk none 0 0) b2d (fun (a5f : Sl) (a2f : Hp) =>
 TG ((!a0l) = false) (fun k_ => C9 a5f (IntKind.wrap .i64 (b2c + 1)) (b6.mk ((s8).fnodes) ((s8).fdepth) ((s8).fe) ((s8).fform) ((s8).fnamed) (Sl.mk none 0 0)) a2E a2f fun a1P z2 Q5 H_ => k_ (a1P, z2, Q5) H_) (false, (b6.mk ((s8).fnodes) ((s8).fdepth) ((s8).fe) ((s8).fform) ((s8).fnamed) (Sl.mk none 0 0)), a2E) a2f (fun (G7 : Bool × b6 × (List ByteArray)) (a0x : Hp) =>
 (((!a0l) || (!G7.1)) = true →
 K false (b6.mk ((G7.2.1).fnodes) ((G7.2.1).fdepth) ((G7.2.1).fe) ((G7.2.1).fform) ((G7.2.1).fnamed) (Sl.mk none 0 0)) G7.2.2 a0x) ∧
 (((!a0l) || (!G7.1)) = false →
 n2 ((IntKind.wrap .i64 (P5 + 1)), ((G7.2.1).fnodes), ((G7.2.1).fdepth), ((G7.2.1).fe), ((G7.2.1).fform), ((G7.2.1).fnamed), G7.2.2) a0x))))) ∧
 (¬ (P5 < g8) →
 F1 L1 L2 L3 L4 L5 I0 H K)
def L8 (x0 : Sl) (x1 : Int) (x2 : b6) (a2M : (List ByteArray)) (H : Hp) (K : Bool → b6 → (List ByteArray) → Hp → Prop) : Prop :=
 TL ((0, x2.fnodes, x2.fdepth, x2.fe, x2.fform, x2.fnamed, a2M) : Int × Int × Int × Int × Bool × Bool × (List ByteArray)) H fun (s : Int × Int × Int × Int × Bool × Bool × (List ByteArray)) H n2 => F3 x1 x0 (x0.n : Int) s.1 s.2.1 s.2.2.1 s.2.2.2.1 s.2.2.2.2.1 s.2.2.2.2.2.1 s.2.2.2.2.2.2 H n2 K
theorem a3t (x0 : Sl) (x1 : Int) (x2 : b6) (a2M : (List ByteArray)) (g2 g2b g3 : Nat) (a3C : Sl) (a3D : Frag) (b4G : RowL 9 1 p5 a3C a2M a3D) {w0 w : World} {ps0 : Nat → Prop} {H0 H : Hp} {K : Bool → b6 → (List ByteArray) → Hp → Prop} {R : Value → World → Prop} {E : Pan} (I : Inv w0 ps0 H0 H [bx g2 93 [(Value.pointer (some ⟨g2b, 0, none⟩))], bx g2b 92 [(vi x2.fnodes), (vi x2.fdepth), (vi x2.fe), (Value.bool x2.fform), (Value.bool x2.fnamed), (vs a3C)], a3D, bx g3 139 [(Value.func (.func 89) #[] #[(Value.pointer (some ⟨g2, 0, none⟩)), (Value.pointer (some ⟨g3, 0, none⟩))])]] w) (hR : ∀ (r0 : Bool) (y0 : b6) (a0q : (List ByteArray)) (U5 : Sl) (U6 : Frag) (H' : Hp) (w' : World) (_ : RowL 9 1 p5 U5 a0q U6) (_ : Inv w0 ps0 H0 H' [bx g2 93 [(Value.pointer (some ⟨g2b, 0, none⟩))], bx g2b 92 [(vi y0.fnodes), (vi y0.fdepth), (vi y0.fe), (Value.bool y0.fform), (Value.bool y0.fnamed), (vs U5)], U6, bx g3 139 [(Value.func (.func 89) #[] #[(Value.pointer (some ⟨g2, 0, none⟩)), (Value.pointer (some ⟨g3, 0, none⟩))])]] w') (_ : K r0 y0 a0q H'), R (Value.bool r0) w') (h : L8 x0 x1 x2 a2M H K) : F89 (vs x0) (vi x1) (Value.pointer (some ⟨g2, 0, none⟩)) (Value.pointer (some ⟨g3, 0, none⟩)) w R E := by
 unfold L8 at h
 unfold F89
 have hj1 : ∀ (a1G : Int) (a1H : Int) (a1I : Int) (a1J : Bool) (a1K : Bool) (a0F : (List ByteArray)) (a3G : Sl) (a3H : Frag) (H : Hp) (w : World) (_ : RowL 9 1 p5 a3G a0F a3H) (_ : Inv w0 ps0 H0 H [bx g2 93 [(Value.pointer (some ⟨g2b, 0, none⟩))], bx g2b 92 [(vi a1G), (vi a1H), (vi a1I), (Value.bool a1J), (Value.bool a1K), (vs a3G)], bx g3 139 [(Value.func (.func 89) #[] #[(Value.pointer (some ⟨g2, 0, none⟩)), (Value.pointer (some ⟨g3, 0, none⟩))])], a3H] w) (_ : F1 a1G a1H a1I a1J a1K a0F H K), b0T w R E := by
  intro a1G a1H a1I a1J a1K a0F a3G a3H H w b7i I h
  unfold b0T
  intro _
  unfold F1 at h
  exact hR true (b6.mk a1G a1H a1I a1J a1K (Sl.mk none 0 0)) a0F a3G a3H H _ b7i ((((I.bring 2).bring 3).bring 3).bring 3) h
 refine t7 fun j1 hx1 => ?_
 refine a7 (a3A _ _ _) ?_
 obtain ⟨b9o, b2e, d4C, d4D⟩ := h
 refine B7 (J := fun n l w => ∃ (s : Int × Int × Int × Int × Bool × Bool × (List ByteArray)) (H : Hp) (a0G : Sl) (a0H : Frag) , n = b2e s ∧ l = (match s with | (P5, L1, L2, L3, L4, L5, I0) => [(vi P5)]) ∧ (match s with | (P5, L1, L2, L3, L4, L5, I0) => RowL 9 1 p5 a0G I0 a0H) ∧ (match s with | (P5, L1, L2, L3, L4, L5, I0) => Inv w0 ps0 H0 H [bx g2 93 [(Value.pointer (some ⟨g2b, 0, none⟩))], bx g2b 92 [(vi L1), (vi L2), (vi L3), (Value.bool L4), (Value.bool L5), (vs a0G)], bx g3 139 [(Value.func (.func 89) #[] #[(Value.pointer (some ⟨g2, 0, none⟩)), (Value.pointer (some ⟨g3, 0, none⟩))])], a0H] w) ∧ b9o s H) ⟨_, (0, x2.fnodes, x2.fdepth, x2.fe, x2.fform, x2.fnamed, a2M), H, a3C, a3D, rfl, rfl, b4G, ((((I.bring 2).bring 3).bring 3).bring 3), d4C⟩ ?_
 rintro d8w τ_92 w next2 ⟨⟨P5, L1, L2, L3, L4, L5, I0⟩, H, a0G, a0H, rfl, b1x, a6f, I, d4E⟩ hn2
 dsimp only at b1x I a6f
 simp only [List.map_cons, List.map_nil, List.cons.injEq, and_true] at b1x
 have e11 := b1x
 simp only [e11]
 obtain ⟨n2, hm2, h⟩ : ∃ n2 : (Int × Int × Int × Int × Bool × Bool × (List ByteArray)) → Hp → Prop, (∀ s' H', n2 s' H' → b9o s' H' ∧ b2e s' < b2e (P5, L1, L2, L3, L4, L5, I0)) ∧ F3 x1 x0 (x0.n : Int) P5 L1 L2 L3 L4 L5 I0 H n2 K := ⟨_, fun _ _ h => h, d4D (P5, L1, L2, L3, L4, L5, I0) H (fun s' H' => b9o s' H' ∧ b2e s' < b2e (P5, L1, L2, L3, L4, L5, I0)) d4E (fun _ _ a b => ⟨a, b⟩)⟩
 unfold b6n
 unfold F3 at h
 refine a7 (E7 _ _ _ _ _ _) ?_
 refine d8 (fun a7G => ?_) (fun a7G => ?_)
 ·replace h := h.1 a7G
  obtain ⟨b9p, b9q, a1q, a3e, h⟩ := h
  obtain ⟨d4F, d4G, b9r, a3e⟩ := a3e
  refine a7 (b7V b9r _ _ _ _ b9p b9q) ?_
  refine b7 (ld1 (v := (i8 a1q)) Tryd.isAgg141 (I.atH a3e)) ?_
  refine a7f I fun b1X c8z => ?_
  refine T5 (ld1 Tryd.isAgg93 (c8z.at1 (o := 0) (vs := [(Value.pointer (some ⟨g2b, 0, none⟩))]) (nb rfl) rfl)) ?_
  refine d6 (cap := []) (fun args w => Tryd.call90 args w) ?_
  refine i2 (Fi := [bx g2b 92 [(vi L1), (vi L2), (vi L3), (Value.bool L4), (Value.bool L5), (vs a0G)], a0H]) (Fr := [bx g2 93 [(Value.pointer (some ⟨g2b, 0, none⟩))], bx g3 139 [(Value.func (.func 89) #[] #[(Value.pointer (some ⟨g2, 0, none⟩)), (Value.pointer (some ⟨g3, 0, none⟩))])]]) ((c8z.bring 3).bring 2) (h g2b a0G a0H a6f) (fun d8x b2d d8y U3 a7K d8z d8A d4H => ?_) (fun _ _ _ _ _ q => q.elim)
  obtain ⟨a0l, s8, a2E, a3f, a3g, rfl, rfl, b2f, h⟩ := d4H
  refine s6 (A7 _) ?_
  try simp only [M9]
  try simp only [M9, b0h, b6c, b6e, b0A, b6h, b6d, b6f, b6g, b6i]
  refine s6 (Pu.g fun hb => by have a8 := hb; first | exact (A6 _ _ _ _ _ _) | (simp only [b5 a8]; exact (A6 _ _ _ _ _ _)) | (simp only [c6 a8, b5 a8, b5 hb, F9 a8, m3]; exact (A6 _ _ _ _ _ _))) ?_
  refine T5 (Ld.g fun hb => by have a8 := hb; first | exact (ld1 Tryd.isAgg139 ((a7K.bring 3).at1 (o := 0) (vs := [(Value.func (.func 89) #[] #[(Value.pointer (some ⟨g2, 0, none⟩)), (Value.pointer (some ⟨g3, 0, none⟩))])]) (nb rfl) rfl)) | (simp only [c6 a8, b5 a8, b5 hb, a5C a8]; exact (ld1 Tryd.isAgg139 ((a7K.bring 3).at1 (o := 0) (vs := [(Value.func (.func 89) #[] #[(Value.pointer (some ⟨g2, 0, none⟩)), (Value.pointer (some ⟨g3, 0, none⟩))])]) (nb rfl) rfl))) | (simp only [c6 a8, b5 a8, b5 hb, F9 a8, m3]; exact (ld1 Tryd.isAgg139 ((a7K.bring 3).at1 (o := 0) (vs := [(Value.func (.func 89) #[] #[(Value.pointer (some ⟨g2, 0, none⟩)), (Value.pointer (some ⟨g3, 0, none⟩))])]) (nb rfl) rfl)))) ?_
  refine a1R (D := fun c8A a9D => ∃ (a5f : Sl) (a2f : Hp), c8A = (gv (!a0l) false (vs a5f)) ∧ (Inv w0 ps0 H0 a2f [bx g2b 92 [(vi ((s8).fnodes)), (vi ((s8).fdepth)), (vi ((s8).fe)), (Value.bool ((s8).fform)), (Value.bool ((s8).fnamed)), (vs a3f)], a3g, bx g2 93 [(Value.pointer (some ⟨g2b, 0, none⟩))], bx g3 139 [(Value.func (.func 89) #[] #[(Value.pointer (some ⟨g2, 0, none⟩)), (Value.pointer (some ⟨g3, 0, none⟩))])]] a9D) ∧ (∀ i, i < U3.heap.size → ¬ inF [] i → a9D.heap[i]? = U3.heap[i]?) ∧ Hle b2d a2f ∧ (TG ((!a0l) = false) (fun k_ => C9 a5f (IntKind.wrap .i64 (x1 + 1)) (b6.mk ((s8).fnodes) ((s8).fdepth) ((s8).fe) ((s8).fform) ((s8).fnamed) (Sl.mk none 0 0)) a2E a2f fun a1P z2 Q5 H_ => k_ (a1P, z2, Q5) H_) (false, (b6.mk ((s8).fnodes) ((s8).fdepth) ((s8).fe) ((s8).fform) ((s8).fnamed) (Sl.mk none 0 0)), a2E) a2f (fun (G7 : Bool × b6 × (List ByteArray)) (a0x : Hp) =>
 (((!a0l) || (!G7.1)) = true →
 K false (b6.mk ((G7.2.1).fnodes) ((G7.2.1).fdepth) ((G7.2.1).fe) ((G7.2.1).fform) ((G7.2.1).fnamed) (Sl.mk none 0 0)) G7.2.2 a0x) ∧
 (((!a0l) || (!G7.1)) = false →
 n2 ((IntKind.wrap .i64 (P5 + 1)), ((G7.2.1).fnodes), ((G7.2.1).fdepth), ((G7.2.1).fe), ((G7.2.1).fform), ((G7.2.1).fnamed), G7.2.2) a0x)))) (fun a9E => ?_) (fun a9E => ?_) ?_
  ·replace h := h.1 a9E
   have a8 := a9E
   try simp only [b5 a8]
   refine a3U a7K h (fun a5f a2f a9D b4H b9s b9t h => ?_)
   exact ⟨a5f, a2f, by first | rfl | rw [b5 a9E], b4H, b9t, b9s, h⟩
  ·exact ⟨(Sl.mk none 0 0), b2d, by first | rfl | rw [a4x a9E], a7K, fun _ _ _ => rfl, Hle.refl _, h.2 a9E⟩
  ·clear h
   rintro c8A a9D ⟨a5f, a2f, rfl, b4H, b9t, b9s, h⟩
   refine ⟨(b9t _ (a7K.bring 3).lt1 (Inv.a0R (Fi := []) (a7K.bring 3))), ?_⟩
   refine a1R (D := fun b9u b4I => ∃ (a1P : Bool) (z2 : b6) (Q5 : (List ByteArray)) (a0x : Hp) (a0y : Sl) (a0z : Frag) , b9u = (gv (!a0l) false (Value.bool a1P)) ∧ (RowL 9 1 p5 a0y Q5 a0z) ∧ (Inv w0 ps0 H0 a0x [bx g2 93 [(Value.pointer (some ⟨g2b, 0, none⟩))], bx g2b 92 [(vi ((z2).fnodes)), (vi ((z2).fdepth)), (vi ((z2).fe)), (Value.bool ((z2).fform)), (Value.bool ((z2).fnamed)), (vs a0y)], a0z, bx g3 139 [(Value.func (.func 89) #[] #[(Value.pointer (some ⟨g2, 0, none⟩)), (Value.pointer (some ⟨g3, 0, none⟩))])]] b4I) ∧ (∀ i, i < a9D.heap.size → ¬ inF [bx g2 93 [(Value.pointer (some ⟨g2b, 0, none⟩))], bx g2b 92 [(vi ((s8).fnodes)), (vi ((s8).fdepth)), (vi ((s8).fe)), (Value.bool ((s8).fform)), (Value.bool ((s8).fnamed)), (vs a3f)], a3g, bx g3 139 [(Value.func (.func 89) #[] #[(Value.pointer (some ⟨g2, 0, none⟩)), (Value.pointer (some ⟨g3, 0, none⟩))])]] i → b4I.heap[i]? = a9D.heap[i]?) ∧ Hle a2f a0x ∧ ((((!a0l) || (!a1P)) = true →
 K false (b6.mk ((z2).fnodes) ((z2).fdepth) ((z2).fe) ((z2).fform) ((z2).fnamed) (Sl.mk none 0 0)) Q5 a0x) ∧
 (((!a0l) || (!a1P)) = false →
 n2 ((IntKind.wrap .i64 (P5 + 1)), ((z2).fnodes), ((z2).fdepth), ((z2).fe), ((z2).fform), ((z2).fnamed), Q5) a0x))) (fun a9F => ?_) (fun a9F => ?_) ?_
   ·replace h := h.1 a9F
    have a8 := a9F
    try simp only [b5 a8]
    refine d6 (cap := [(Value.pointer (some ⟨g2, 0, none⟩)), (Value.pointer (some ⟨g3, 0, none⟩))]) (fun args w => Tryd.call89 args w) ?_
    refine i2 (Fi := [bx g2 93 [(Value.pointer (some ⟨g2b, 0, none⟩))], bx g2b 92 [(vi ((s8).fnodes)), (vi ((s8).fdepth)), (vi ((s8).fe)), (Value.bool ((s8).fform)), (Value.bool ((s8).fnamed)), (vs a3f)], a3g, bx g3 139 [(Value.func (.func 89) #[] #[(Value.pointer (some ⟨g2, 0, none⟩)), (Value.pointer (some ⟨g3, 0, none⟩))])]]) (Fr := []) ((((b4H.bring 3).bring 2).bring 2).bring 3) (h g2 g2b g3 a3f a3g b2f) (fun b9u a0x d8B b4I b4J a5R c8B d4I => ?_) (fun _ _ _ _ _ q => q.elim)
    obtain ⟨a1P, z2, Q5, a0y, a0z, rfl, rfl, a5g, h⟩ := d4I
    exact ⟨a1P, z2, Q5, a0x, a0y, a0z, by first | rfl | rw [b5 a9F], a5g, b4J, c8B, a5R, h⟩
   ·exact ⟨false, (b6.mk ((s8).fnodes) ((s8).fdepth) ((s8).fe) ((s8).fform) ((s8).fnamed) (Sl.mk none 0 0)), a2E, a2f, a3f, a3g, by first | rfl | rw [a4x a9F], b2f, ((((b4H.bring 3).bring 2).bring 2).bring 3), fun _ _ _ => rfl, Hle.refl _, h.2 a9F⟩
   ·clear h
    rintro b9u b4I ⟨a1P, z2, Q5, a0x, a0y, a0z, rfl, a5g, b4J, c8B, a5R, h⟩
    refine s6 (Pu.g fun hb => by have a8 := hb; first | exact (A7 _) | (simp only [b5 a8]; exact (A7 _)) | (simp only [c6 a8, b5 a8, b5 hb, F9 a8, m3]; exact (A7 _))) ?_
    refine s6 (a0Q _ _) ?_
    refine o4 (fun a7H => ?_) (fun a7H => ?_)
    ·replace h := h.1 a7H
     exact hR false (b6.mk ((z2).fnodes) ((z2).fdepth) ((z2).fe) ((z2).fform) ((z2).fnamed) (Sl.mk none 0 0)) Q5 a0y a0z a0x _ a5g ((((b4J.bring 3).bring 3).bring 3).bring 3) h
    ·replace h := h.2 a7H
     refine a7 (A6 _ _ _ _ _ _) ?_
     exact hn2 _ _ _ (hm2 _ _ h).2 ⟨((IntKind.wrap .i64 (P5 + 1)), ((z2).fnodes), ((z2).fdepth), ((z2).fe), ((z2).fform), ((z2).fnamed), Q5), a0x, a0y, a0z, rfl, rfl, a5g, ((((b4J.bring 2).bring 3).bring 3).bring 3), (hm2 _ _ h).1⟩
 ·replace h := h.2 a7G
  exact hx1 _ _ (hj1 L1 L2 L3 L4 L5 I0 a0G a0H H _ a6f ((((I.bring 3).bring 3).bring 3).bring 3) h)
theorem a3Y (x0 : Sl) (x1 : Int) (x2 : b6) (a2M : (List ByteArray)) {H : Hp} {K : Bool → b6 → (List ByteArray) → Hp → Prop} (h : L8 x0 x1 x2 a2M H K) : C9 x0 x1 x2 a2M H K := by
 intro g2 g2b g3 a3C a3D b4G w I
 refine c3U ?_
 refine a3t x0 x1 x2 a2M g2 g2b g3 a3C a3D b4G I (fun r0 y0 a0q U5 U6 H' w' b1Y I' hk => ⟨H', _, I', r0, y0, a0q, U5, U6, rfl, rfl, b1Y, hk⟩) h
def t6 (cr_1j1_0 : Int) (cr_1j1_1 : Int) (cr_1j1_2 : Int) (cr_1j1_3 : Bool) (cr_1j1_4 : Bool) (ccr_1j1_5 : (List ByteArray)) (H : Hp) (K : b6 → Hp → Prop) : Prop :=
 ∀ (scr_1j1_5 : Sl) (a9G : Hp), Hle H a9G → SlH a9G 1 p5 scr_1j1_5 ccr_1j1_5 → scr_1j1_5.n ≤ scr_1j1_5.c →
 K (b6.mk cr_1j1_0 cr_1j1_1 cr_1j1_2 cr_1j1_3 cr_1j1_4 scr_1j1_5) a9G
def O0 (x0 : Sl) (H : Hp) (K : b6 → Hp → Prop) : Prop :=
 C9 x0 1 (b6.mk 0 0 0 false false (Sl.mk none 0 0)) [] H (fun (b4K : Bool) (o2 : b6) (Z2 : (List ByteArray)) (a5h : Hp) =>
 ((!b4K) = true →
 t6 ((o2).fnodes) ((o2).fdepth) ((o2).fe) ((o2).fform) ((o2).fnamed) Z2 a5h K) ∧
 ((!b4K) = false →
 (((o2).fform) = true →
 t6 ((o2).fnodes) ((o2).fdepth) 30 ((o2).fform) ((o2).fnamed) Z2 a5h K) ∧
 (((o2).fform) = false →
 (((o2).fnamed) = true →
 t6 ((o2).fnodes) ((o2).fdepth) 31 ((o2).fform) ((o2).fnamed) Z2 a5h K) ∧
 (((o2).fnamed) = false →
 t6 ((o2).fnodes) ((o2).fdepth) ((o2).fe) ((o2).fform) ((o2).fnamed) Z2 a5h K))))
theorem a4n (x0 : Sl) {w0 w : World} {ps0 : Nat → Prop} {H0 H : Hp} {K : b6 → Hp → Prop} {R : Value → World → Prop} {E : Pan} (I : Inv w0 ps0 H0 H [] w) (hR : ∀ (r0 : b6) (gr0 : Nat) (H' : Hp) (w' : World) (_ : Inv w0 ps0 H0 H' [bx gr0 92 (Y8 r0)] w') (_ : K r0 H'), R (Value.pointer (some ⟨gr0, 0, none⟩)) w') (h : O0 x0 H K) : F57 (vs x0) w R E := by
 unfold O0 at h
 unfold F57
 refine a7 (b6l ) ?_
 refine M1 I (cs := [(vi 0), (vi 0), (vi 0), (Value.bool false), (Value.bool false), (Value.slice none 0 0)]) rfl fun g_2 w_3 I_4 k_5 => ?_
 refine y8 I_4 Tryd.zeroValue93 (cs := [(Value.pointer none)]) rfl fun g_7 w_8 I_9 c8c => ?_
 refine o3 I_9 Tryd.sizeOf93 (vs := [(Value.pointer (some ⟨g_2, 0, none⟩))]) (cs' := [(Value.pointer (some ⟨g_2, 0, none⟩))]) rfl rfl (nb rfl) rfl rfl fun Q0 u0 a9l => ?_
 refine y8 u0 Tryd.zeroValue139 (cs := [Value.nilFunc]) rfl fun a5i s4 b9v d4J => ?_
 refine a7 (W1 _ _ _) ?_
 refine o3 b9v Tryd.sizeOf139 (vs := [(Value.func (.func 89) #[] #[(Value.pointer (some ⟨g_7, 0, none⟩)), (Value.pointer (some ⟨a5i, 0, none⟩))])]) (cs' := [(Value.func (.func 89) #[] #[(Value.pointer (some ⟨g_7, 0, none⟩)), (Value.pointer (some ⟨a5i, 0, none⟩))])]) rfl rfl (nb rfl) rfl rfl fun a4H b4z d3X => ?_
 have hj1 : ∀ (cr_1j1_0 : Int) (cr_1j1_1 : Int) (cr_1j1_2 : Int) (cr_1j1_3 : Bool) (cr_1j1_4 : Bool) (ccr_1j1_5 : (List ByteArray)) (scr_1j1_5 : Sl) (Fcr_1j1_5 : Frag) (H : Hp) (w : World) (_ : RowL 9 1 p5 scr_1j1_5 ccr_1j1_5 Fcr_1j1_5) (_ : Inv w0 ps0 H0 H [bx g_7 93 [(Value.pointer (some ⟨g_2, 0, none⟩))], bx g_2 92 [(vi cr_1j1_0), (vi cr_1j1_1), (vi cr_1j1_2), (Value.bool cr_1j1_3), (Value.bool cr_1j1_4), (vs scr_1j1_5)], bx a5i 139 [(Value.func (.func 89) #[] #[(Value.pointer (some ⟨g_7, 0, none⟩)), (Value.pointer (some ⟨a5i, 0, none⟩))])], Fcr_1j1_5] w) (_ : t6 cr_1j1_0 cr_1j1_1 cr_1j1_2 cr_1j1_3 cr_1j1_4 ccr_1j1_5 H K), b0O (Value.pointer (some ⟨g_7, 0, none⟩)) w R E := by
  intro cr_1j1_0 cr_1j1_1 cr_1j1_2 cr_1j1_3 cr_1j1_4 ccr_1j1_5 scr_1j1_5 Fcr_1j1_5 H w hcr_1j1_5 I h
  unfold b0O
  intro _
  unfold t6 at h
  refine b7 (ld1 Tryd.isAgg93 (I.at1 (o := 0) (vs := [(Value.pointer (some ⟨g_2, 0, none⟩))]) (nb rfl) rfl)) ?_
  obtain ⟨a9G, b1W, d4K, a4T, b1Q⟩ := Inv.freezeC (I.bring 3) hcr_1j1_5 (by decide)
  replace h := h scr_1j1_5 a9G d4K a4T b1Q
  exact hR (b6.mk cr_1j1_0 cr_1j1_1 cr_1j1_2 cr_1j1_3 cr_1j1_4 scr_1j1_5) g_2 a9G _ (b1W.drop.bring 1).drop h
 refine t7 fun j1 hx1 => ?_
 refine b7 (ld1 Tryd.isAgg139 (b4z.at1 (o := 0) (vs := [(Value.func (.func 89) #[] #[(Value.pointer (some ⟨g_7, 0, none⟩)), (Value.pointer (some ⟨a5i, 0, none⟩))])]) (nb rfl) rfl)) ?_
 refine d6 (cap := [(Value.pointer (some ⟨g_7, 0, none⟩)), (Value.pointer (some ⟨a5i, 0, none⟩))]) (fun args w => Tryd.call89 args w) ?_
 refine i2 (Fi := [bx g_7 93 [(Value.pointer (some ⟨g_2, 0, none⟩))], bx g_2 92 [(vi 0), (vi 0), (vi 0), (Value.bool false), (Value.bool false), (Value.slice (Sl.mk none 0 0).a (Sl.mk none 0 0).n (Sl.mk none 0 0).c)], [], bx a5i 139 [(Value.func (.func 89) #[] #[(Value.pointer (some ⟨g_7, 0, none⟩)), (Value.pointer (some ⟨a5i, 0, none⟩))])]]) (Fr := []) ((((b4z.nil.bring 1).bring 1).bring 3).bring 3) (h g_7 g_2 a5i (Sl.mk none 0 0) ([]) (RowL.nil (e := 9) a6Y a6Z)) (fun d8C a5h b8n u5 a0A d8D c8C d4L => ?_) (fun _ _ _ _ _ q => q.elim)
 obtain ⟨b4K, o2, Z2, a1L, a5j, rfl, rfl, a5k, h⟩ := d4L
 refine a7 (A7 _) ?_
 refine o4 (fun b9w => ?_) (fun b9w => ?_)
 ·replace h := h.1 b9w
  exact hx1 _ _ (hj1 ((o2).fnodes) ((o2).fdepth) ((o2).fe) ((o2).fform) ((o2).fnamed) Z2 a1L a5j a5h _ a5k ((((a0A.bring 2).bring 3).bring 3).bring 3) h)
 ·replace h := h.2 b9w
  refine b7 (ld1 Tryd.isAgg93 (a0A.at1 (o := 0) (vs := [(Value.pointer (some ⟨g_2, 0, none⟩))]) (nb rfl) rfl)) ?_
  refine a7 (B9 _) ?_
  refine a7 a4C ?_
  refine b7 (ld1 Tryd.isAgg4 ((a0A.bring 1).at1 (o := 3) (vs := [(Value.bool ((o2).fform))]) (nb rfl) rfl)) ?_
  refine o4 (fun V0 => ?_) (fun V0 => ?_)
  ·replace h := h.1 V0
   refine b7 (ld1 Tryd.isAgg93 (a0A.at1 (o := 0) (vs := [(Value.pointer (some ⟨g_2, 0, none⟩))]) (nb rfl) rfl)) ?_
   refine a7 (B9 _) ?_
   refine a7 a0V ?_
   refine o3 (a0A.bring 1) Tryd.sizeOf34 (vs := [(vi 30)]) (cs' := [(vi ((o2).fnodes)), (vi ((o2).fdepth)), (vi 30), (Value.bool ((o2).fform)), (Value.bool ((o2).fnamed)), (vs a1L)]) rfl rfl (nb rfl) rfl rfl fun d8E d4M d8F => ?_
   exact hx1 _ _ (hj1 ((o2).fnodes) ((o2).fdepth) 30 ((o2).fform) ((o2).fnamed) Z2 a1L a5j a5h _ a5k ((((d4M.bring 2).bring 3).bring 2).bring 3) h)
  ·replace h := h.2 V0
   refine b7 (ld1 Tryd.isAgg93 (a0A.at1 (o := 0) (vs := [(Value.pointer (some ⟨g_2, 0, none⟩))]) (nb rfl) rfl)) ?_
   refine a7 (B9 _) ?_
   refine a7 a4D ?_
   refine b7 (ld1 Tryd.isAgg4 ((a0A.bring 1).at1 (o := 4) (vs := [(Value.bool ((o2).fnamed))]) (nb rfl) rfl)) ?_
   refine o4 (fun b9x => ?_) (fun b9x => ?_)
   ·replace h := h.1 b9x
    refine b7 (ld1 Tryd.isAgg93 (a0A.at1 (o := 0) (vs := [(Value.pointer (some ⟨g_2, 0, none⟩))]) (nb rfl) rfl)) ?_
    refine a7 (B9 _) ?_
    refine a7 a0V ?_
    refine o3 (a0A.bring 1) Tryd.sizeOf34 (vs := [(vi 31)]) (cs' := [(vi ((o2).fnodes)), (vi ((o2).fdepth)), (vi 31), (Value.bool ((o2).fform)), (Value.bool ((o2).fnamed)), (vs a1L)]) rfl rfl (nb rfl) rfl rfl fun G2 a9t c8r => ?_
    exact hx1 _ _ (hj1 ((o2).fnodes) ((o2).fdepth) 31 ((o2).fform) ((o2).fnamed) Z2 a1L a5j a5h _ a5k ((((a9t.bring 2).bring 3).bring 2).bring 3) h)
   ·replace h := h.2 b9x
    exact hx1 _ _ (hj1 ((o2).fnodes) ((o2).fdepth) ((o2).fe) ((o2).fform) ((o2).fnamed) Z2 a1L a5j a5h _ a5k ((((a0A.bring 2).bring 3).bring 3).bring 3) h)
theorem a5l (x0 : Sl) {H : Hp} {K : b6 → Hp → Prop} (h : O0 x0 H K) : U7 x0 H K := by
 intro w I
 refine c3G ?_
 refine a4n x0 I (fun r0 gr0 H' w' I' hk => ⟨H', _, I', r0, gr0, rfl, rfl, hk⟩) h
def S3 (x0 : u7) (H : Hp) (K : b6 → Hp → Prop) : Prop :=
 r8 x0.X0 H (fun (a1m : Sl) (H_8 : Hp) =>
 h7 x0.a3z H_8 (fun (a1o : Sl) (a6c : Hp) =>
 ∀ (T3 : Sl) (a2W : Hp), Hle a6c a2W → SlH a2W 1 csl T3 [a1m, a1o] → T3.n ≤ T3.c →
 k8 T3 a2W (fun (a6F : Sl) (a9o : Hp) =>
 U7 a6F a9o (fun (b4L : b6) (b9y : Hp) =>
 K b4L b9y))))
theorem a6g (x0 : u7) {w0 w : World} {ps0 : Nat → Prop} {H0 H : Hp} {K : b6 → Hp → Prop} {R : Value → World → Prop} {E : Pan} (I : Inv w0 ps0 H0 H [] w) (hR : ∀ (r0 : b6) (gr0 : Nat) (H' : Hp) (w' : World) (_ : Inv w0 ps0 H0 H' [bx gr0 92 (Y8 r0)] w') (_ : K r0 H'), R (Value.pointer (some ⟨gr0, 0, none⟩)) w') (h : S3 x0 H K) : F66 (Value.agg (p7 x0).toArray) w R E := by
 unfold S3 at h
 unfold F66
 refine M1 I (cs := (p7 x0)) rfl fun g_2 w_3 I_4 k_5 => ?_
 refine a7f I_4 fun w_6 I_7 => ?_
 refine s6 a7T ?_
 refine s6 a7V ?_
 refine T5 (ld1 Tryd.isAgg22 (I_7.at1 (o := 0) (vs := [(vs x0.X0)]) (nb rfl) rfl)) ?_
 refine T5 (ld1 Tryd.isAgg23 (I_7.at1 (o := 1) (vs := [(vs x0.a3z)]) (nb rfl) rfl)) ?_
 refine d6 (cap := []) (fun args w => Tryd.call95 args w) ?_
 refine i2 (Fi := []) (Fr := [bx g_2 25 (p7 x0)]) I_7 (h) (fun c8d H_8 c8e w_9 a4U a9p a7w b1L => ?_) (fun _ _ _ _ _ q => q.elim)
 obtain ⟨a1m, rfl, rfl, h⟩ := b1L
 refine ⟨(a7w _ I_7.lt1 (Inv.a0R (Fi := []) I_7)), ?_⟩
 refine d6 (cap := []) (fun args w => Tryd.call97 args w) ?_
 refine i2 (Fi := []) (Fr := [bx g_2 25 (p7 x0)]) a4U (h) (fun c8f a6c b8m s5 a4V c8g b1M b1N => ?_) (fun _ _ _ _ _ q => q.elim)
 obtain ⟨a1o, rfl, rfl, h⟩ := b1N
 refine a0S (e := 97) (c := csl) (xs := [a1m, a1o]) a4V (b0K _ _ _ _ _ _) rfl rfl b0i b0j (nb rfl) fun T3 b8n c8h b1O a4W b4t => ?_
 obtain ⟨a2W, b1P, b1o, b1Q, b1R⟩ := Inv.freezeC a4W b1O (by decide)
 replace h := h T3 a2W b1o b1Q b1R
 refine d6 (cap := []) (fun args w => Tryd.call94 args w) ?_
 refine i2 (Fi := []) (Fr := [bx g_2 25 (p7 x0)]) b1P (h) (fun d3G a9o d3H d3I a2T d3J d3K b8o => ?_) (fun _ _ _ _ _ q => q.elim)
 obtain ⟨a6F, rfl, rfl, h⟩ := b8o
 refine d6 (cap := []) (fun args w => Tryd.call57 args w) ?_
 refine i2 (Fi := []) (Fr := [bx g_2 25 (p7 x0)]) a2T (h) (fun d8G b9y d4N P9 b9z d8H d4O d4P => ?_) (fun _ _ _ _ _ q => q.elim)
 obtain ⟨b4L, c8D, rfl, rfl, h⟩ := d4P
 exact hR b4L c8D b9y _ (b9z.bring 1).drop h
theorem a6V (x0 : u7) {H : Hp} {K : b6 → Hp → Prop} (h : S3 x0 H K) : Z9 x0 H K := by
 intro w I
 refine c3K ?_
 refine a6g x0 I (fun r0 gr0 H' w' I' hk => ⟨H', _, I', r0, gr0, rfl, rfl, hk⟩) h
def O1 (x0 : o5) (H : Hp) (K : b3 → Hp → Prop) : Prop :=
 K (b3.p6 (r9.mk x0)) H
theorem a4o (x0 : o5) {w0 w : World} {ps0 : Nat → Prop} {H0 H : Hp} {K : b3 → Hp → Prop} {R : Value → World → Prop} {E : Pan} (I : Inv w0 ps0 H0 H [] w) (hR : ∀ (r0 : b3) (H' : Hp) (w' : World) (_ : Inv w0 ps0 H0 H' [] w') (_ : K r0 H'), R (i8 r0) w') (h : O1 x0 H K) : b4a (Value.agg (c9 x0).toArray) w R E := by
 unfold O1 at h
 unfold b4a
 refine M1 I (cs := (c9 x0)) rfl fun g_2 w_3 I_4 k_5 => ?_
 refine b7 (ldA Tryd.isAgg30 Tryd.sizeOf30 rfl (I_4.at1 (o := 0) (vs := (c9 x0)) (nb rfl) rfl)) ?_
 refine a7 (b2T _ _ _ _ _ _) ?_
 refine a7 (a5r (r9.mk x0)) ?_
 exact hR (b3.p6 (r9.mk x0)) H _ I_4.drop h
theorem a5m (x0 : o5) {H : Hp} {K : b3 → Hp → Prop} (h : O1 x0 H K) : a1j x0 H K := by
 intro w I
 refine c1X ?_
 refine a4o x0 I (fun r0 H' w' I' hk => ⟨H', _, I', r0, rfl, rfl, hk⟩) h
def G8 (x0 : r9) (H : Hp) (K : Sl → Hp → Prop) : Prop :=
 h8 x0.d4.q8 H (fun (N7 : Sl) (H_6 : Hp) =>
 K N7 H_6)
theorem a2v (x0 : r9) {w0 w : World} {ps0 : Nat → Prop} {H0 H : Hp} {K : Sl → Hp → Prop} {R : Value → World → Prop} {E : Pan} (I : Inv w0 ps0 H0 H [] w) (hR : ∀ (r0 : Sl) (H' : Hp) (w' : World) (_ : Inv w0 ps0 H0 H' [] w') (_ : K r0 H'), R (vs r0) w') (h : G8 x0 H K) : b3Y (Value.agg (c9 x0.d4).toArray) w R E := by
 unfold G8 at h
 unfold b3Y
 refine M1 I (cs := (c9 x0.d4)) rfl fun g_2 w_3 I_4 k_5 => ?_
 refine a7 w8 ?_
 refine a7 a2i ?_
 refine b7 (ld1 Tryd.isAgg28 (I_4.at1 (o := 3) (vs := [(vs x0.d4.q8)]) (nb rfl) rfl)) ?_
 refine d6 (cap := []) (fun args w => Tryd.call150 args w) ?_
 refine i2 (Fi := []) (Fr := [bx g_2 96 (c9 x0.d4)]) I_4 (h) (fun a9w H_6 a9x w_7 I_8 a9y k_9 a1F => ?_) (fun _ _ _ _ _ q => q.elim)
 obtain ⟨N7, rfl, rfl, h⟩ := a1F
 exact hR N7 H_6 _ I_8.drop h
theorem a3h (x0 : r9) {H : Hp} {K : Sl → Hp → Prop} (h : G8 x0 H K) : X7 x0 H K := by
 intro w I
 refine c1T ?_
 refine a2v x0 I (fun r0 H' w' I' hk => ⟨H', _, I', r0, rfl, rfl, hk⟩) h
end Go.Proofs.YthldnpmfelniiaaDoor
