/- Typed formulas of the program's functions, and the theorems that the contracts follow from them; printed by lift.py off the code. -/
import Derived.Test.YthldnpmfelniiaaDoorzVV1
namespace Go.Proofs.YthldnpmfelniiaaDoor
open Go.RowKit
set_option maxRecDepth 100000
set_option maxHeartbeats 2000000
def S8 (x0 : q8) (H : Hp) (K : a8 → Hp → Prop) : Prop :=
 K (a8.u6 (C1.mk x0)) H
theorem a5H (x0 : q8) {w0 w : World} {ps0 : Nat → Prop} {H0 H : Hp} {K : a8 → Hp → Prop} {R : Value → World → Prop} {E : Pan} (I : Inv w0 ps0 H0 H [] w) (hR : ∀ (r0 : a8) (H' : Hp) (w' : World) (_ : Inv w0 ps0 H0 H' [] w') (_ : K r0 H'), R (m3 r0) w') (h : S8 x0 H K) : F98 (Value.agg (g8 x0).toArray) w R E := by
 unfold S8 at h
 unfold F98
 refine J2 I (cs := (g8 x0)) rfl fun g_2 w_3 I_4 k_5 => ?_
 refine b9 (ldA Tryd.isAgg88 Tryd.sizeOf88 rfl (I_4.at1 (o := 0) (vs := (g8 x0)) (nb rfl) rfl)) ?_
 refine a6 (b3p _ _ _ _ _ _ _ _ _ _ _ _ _ _) ?_
 refine a6 (b1e (C1.mk x0)) ?_
 exact hR (a8.u6 (C1.mk x0)) H _ I_4.drop h
theorem a6B (x0 : q8) {H : Hp} {K : a8 → Hp → Prop} (h : S8 x0 H K) : a2j x0 H K := by
 intro w I
 refine c9b ?_
 refine a5H x0 I (fun r0 H' w' I' hk => ⟨H', _, I', r0, rfl, rfl, hk⟩) h
def o0 (N0 : (List a8)) (H : Hp) (K : Sl → Hp → Prop) : Prop :=
 ∀ (z2 : Sl) (P0 : Hp), Hle H P0 → SlH P0 1 h8 z2 N0 → z2.n ≤ z2.c →
 K z2 P0
def o2 (R7 : Sl) (P1 : Int) (m0 : (List a8)) (j7 : Int) (H : Hp) (n2 : ((List a8) × Int) → Hp → Prop) (K : Sl → Hp → Prop) : Prop :=
 (j7 < P1 →
 (0 : Int) ≤ j7 ∧ (j7 : Int) < R7.n ∧ ∃ x_1 : q8, EltH H R7 j7 6 (g8 x_1) ∧
 a2j x_1 H (fun (G6 : a8) (X8 : Hp) =>
 (m0.length + ([G6] : List a8).length) * 17 ≤ 140737488355328 ∧
 n2 ((m0 ++ [G6]), (IntKind.wrap .i64 (j7 + 1))) X8)) ∧
 (¬ (j7 < P1) →
 o0 m0 H K)
def p9 (x0 : Sl) (H : Hp) (K : Sl → Hp → Prop) : Prop :=
 TL (([], 0) : (List a8) × Int) H fun (s : (List a8) × Int) H n2 => o2 x0 (x0.n : Int) s.1 s.2 H n2 K
theorem O6 (x0 : Sl) {w0 w : World} {ps0 : Nat → Prop} {H0 H : Hp} {K : Sl → Hp → Prop} {R : Value → World → Prop} {E : Pan} (I : Inv w0 ps0 H0 H [] w) (hR : ∀ (r0 : Sl) (H' : Hp) (w' : World) (_ : Inv w0 ps0 H0 H' [] w') (_ : K r0 H'), R (vs r0) w') (h : p9 x0 H K) : F97 (vs x0) (Value.func (.func 98) #[] #[]) w R E := by
 unfold p9 at h
 unfold F97
 have hj1 : ∀ (N0 : (List a8)) (z2 : Sl) (Fs5j1 : Frag) (H : Hp) (w : World) (_ : RowL 141 1 h8 z2 N0 Fs5j1) (_ : Inv w0 ps0 H0 H [Fs5j1] w) (_ : o0 N0 H K), b3E (vs z2) w R E := by
  intro N0 z2 Fs5j1 H w a6q I h
  unfold b3E
  intro _
  unfold o0 at h
  obtain ⟨P0, a4p, a7G, a4q, a3u⟩ := Inv.freezeC I a6q (by decide)
  replace h := h z2 P0 a7G a4q a3u
  exact hR z2 P0 _ a4p h
 refine u4 fun j1 hx1 => ?_
 refine a6 (T2 _ _ _) ?_
 obtain ⟨a1H, T9, a9e, a9f⟩ := h
 refine F7 (J := fun n l w => ∃ (s : (List a8) × Int) (H : Hp) (N1 : Sl) (Fs5l2 : Frag) , n = T9 s ∧ l = (match s with | (m0, j7) => [(vs N1), (vi j7)]) ∧ (match s with | (m0, j7) => RowL 141 1 h8 N1 m0 Fs5l2) ∧ (match s with | (m0, j7) => Inv w0 ps0 H0 H [Fs5l2] w) ∧ a1H s H) ⟨_, ([], 0), H, (Sl.mk none 0 0), [], rfl, rfl, (RowL.nil D5 F8), I.nil, a9e⟩ ?_
 rintro c1s τ_50 w next2 ⟨⟨m0, j7⟩, H, N1, Fs5l2, rfl, a1I, Z3, I, a9g⟩ hn2
 dsimp only at a1I I Z3
 simp only [List.map_cons, List.map_nil, List.cons.injEq, and_true] at a1I
 obtain ⟨e5, e10⟩ := a1I
 simp only [e5, e10]
 obtain ⟨n2, hm2, h⟩ : ∃ n2 : ((List a8) × Int) → Hp → Prop, (∀ s' H', n2 s' H' → a1H s' H' ∧ T9 s' < T9 (m0, j7)) ∧ o2 x0 (x0.n : Int) m0 j7 H n2 K := ⟨_, fun _ _ h => h, a9f (m0, j7) H (fun s' H' => a1H s' H' ∧ T9 s' < T9 (m0, j7)) a9g (fun _ _ a b => ⟨a, b⟩)⟩
 unfold b9b
 unfold o2 at h
 refine a6 (D1 _ _ _ _ _ _) ?_
 refine d8 (fun Z4 => ?_) (fun Z4 => ?_)
 ·replace h := h.1 Z4
  obtain ⟨h_4, h_5, x_1, h_7, h⟩ := h
  obtain ⟨g_2, o_3, h_6, h_7⟩ := h_7
  refine a6 (b3m h_6 _ _ _ _ h_4 h_5) ?_
  refine b9 (ldA (vs := (g8 x_1)) Tryd.isAgg88 Tryd.sizeOf88 rfl (I.atH h_7)) ?_
  refine F6 I Tryd.zeroValue88 (cs := [(vi 0), (Value.string ⟨#[]⟩), (Value.slice none 0 0), (Value.slice none 0 0), (Value.slice none 0 0), (Value.slice none 0 0)]) rfl fun g_9 l9 a2D b4h => ?_
  refine t6 a2D Tryd.sizeOf88 (vs := (g8 x_1)) (cs' := (g8 x_1)) rfl rfl (nb rfl) rfl rfl fun a0z a4r c1t => ?_
  refine b9 (ldA Tryd.isAgg88 Tryd.sizeOf88 rfl (a4r.at1 (o := 0) (vs := (g8 x_1)) (nb rfl) rfl)) ?_
  refine d6 (cap := []) (fun args w => Tryd.call98 args w) ?_
  refine i7 (Fi := []) (Fr := [bx g_9 88 (g8 x_1), Fs5l2]) a4r (h) (fun b7b X8 b7c a1h a0N b7d b7e a6r => ?_) (fun _ _ _ _ _ q => q.elim)
  obtain ⟨G6, rfl, rfl, h⟩ := a6r
  refine a1A (e := 141) (c := h8) (xs := [G6]) a0N (a8f _) rfl rfl D5 F8 (nb rfl) fun b4i b1D D8 a6s a2E b7f => ?_
  obtain ⟨a6t, h⟩ := h
  refine a7p (s := N1) (xs := m0) (a2E.bring 2) Z3 (a6s.srcO ((a2E.bring 2).bring 1)) a6t fun a9h a9i D9 a6u a3v b7g => ?_
  refine a6 (B2 _ _ _ _ _ _) ?_
  exact hn2 _ _ _ (hm2 _ _ h).2 ⟨((m0 ++ [G6]), (IntKind.wrap .i64 (j7 + 1))), X8, a9h, a9i, rfl, rfl, a6u, ((a3v.bring 1).drop.bring 1).drop, (hm2 _ _ h).1⟩
 ·replace h := h.2 Z4
  exact hx1 _ _ (hj1 m0 N1 Fs5l2 H _ Z3 I h)
theorem P5 (x0 : Sl) {H : Hp} {K : Sl → Hp → Prop} (h : p9 x0 H K) : j8 x0 H K := by
 intro w I
 refine c8Z ?_
 refine O6 x0 I (fun r0 H' w' I' hk => ⟨H', _, I', r0, rfl, rfl, hk⟩) h
def r5 (a8t : Bool) (_cr_1j4 : Int) (H : Hp) (K : Int → Hp → Prop) : Prop :=
 (a8t = true →
 K 3 H) ∧
 (a8t = false →
 K 6 H)
def C5 (a8u : Bool) (cr_1j3 : Int) (H : Hp) (K : Int → Hp → Prop) : Prop :=
 (a8u = true →
 K 6 H) ∧
 (a8u = false →
 z8 48 57 cr_1j3 H (fun (D4 : Bool) (H_6 : Hp) =>
 (D4 = true →
 K 4 H_6) ∧
 (D4 = false →
 (cr_1j3 = 95 →
 r5 (decide (cr_1j3 = 95)) cr_1j3 H_6 K) ∧
 (¬ (cr_1j3 = 95) →
 z8 97 122 cr_1j3 H_6 (fun (G6 : Bool) (X8 : Hp) =>
 (G6 = true →
 r5 G6 cr_1j3 X8 K) ∧
 (G6 = false →
 z8 65 90 cr_1j3 X8 (fun (b0E : Bool) (b7p : Hp) =>
 (b0E = true →
 r5 b0E cr_1j3 b7p K) ∧
 (b0E = false →
 z8 192 591 cr_1j3 b7p (fun (b0F : Bool) (b7q : Hp) =>
 (b0F = true →
 r5 b0F cr_1j3 b7q K) ∧
 (b0F = false →
 z8 913 969 cr_1j3 b7q (fun (Z7 : Bool) (a1k : Hp) =>
 (Z7 = true →
 r5 Z7 cr_1j3 a1k K) ∧
 (Z7 = false →
 z8 1040 1103 cr_1j3 a1k (fun (b7r : Bool) (c1S : Hp) =>
 r5 b7r cr_1j3 c1S K)))))))))))))
def f8 (a9w : Int) (a8v : Bool) (cr_1j2 : Int) (H : Hp) (K : Int → Hp → Prop) : Prop :=
 (a8v = true →
 K 5 H) ∧
 (a8v = false →
 (a9w = 215 →
 C5 (decide (a9w = 215)) cr_1j2 H K) ∧
 (¬ (a9w = 215) →
 (a9w = 247 →
 C5 (decide (a9w = 247)) cr_1j2 H K) ∧
 (¬ (a9w = 247) →
 C5 (decide (a9w = 930)) cr_1j2 H K)))
def C6 (l7 : Int) (a4z : Bool) (cr_1j1 : Int) (H : Hp) (K : Int → Hp → Prop) : Prop :=
 (a4z = true →
 K 1 H) ∧
 (a4z = false →
 (l7 = 10 →
 K 2 H) ∧
 (¬ (l7 = 10) →
 (l7 = 59 →
 f8 l7 (decide (l7 = 59)) cr_1j1 H K) ∧
 (¬ (l7 = 59) →
 (l7 = 44 →
 f8 l7 (decide (l7 = 44)) cr_1j1 H K) ∧
 (¬ (l7 = 44) →
 (l7 = 123 →
 f8 l7 (decide (l7 = 123)) cr_1j1 H K) ∧
 (¬ (l7 = 123) →
 (l7 = 125 →
 f8 l7 (decide (l7 = 125)) cr_1j1 H K) ∧
 (¬ (l7 = 125) →
 (l7 = 40 →
 f8 l7 (decide (l7 = 40)) cr_1j1 H K) ∧
 (¬ (l7 = 40) →
 (l7 = 41 →
 f8 l7 (decide (l7 = 41)) cr_1j1 H K) ∧
 (¬ (l7 = 41) →
 (l7 = 91 →
 f8 l7 (decide (l7 = 91)) cr_1j1 H K) ∧
 (¬ (l7 = 91) →
 (l7 = 93 →
 f8 l7 (decide (l7 = 93)) cr_1j1 H K) ∧
 (¬ (l7 = 93) →
 (l7 = 61 →
 f8 l7 (decide (l7 = 61)) cr_1j1 H K) ∧
 (¬ (l7 = 61) →
 (l7 = 33 →
 f8 l7 (decide (l7 = 33)) cr_1j1 H K) ∧
 (¬ (l7 = 33) →
 (l7 = 60 →
 f8 l7 (decide (l7 = 60)) cr_1j1 H K) ∧
 (¬ (l7 = 60) →
 (l7 = 62 →
 f8 l7 (decide (l7 = 62)) cr_1j1 H K) ∧
 (¬ (l7 = 62) →
 (l7 = 43 →
 f8 l7 (decide (l7 = 43)) cr_1j1 H K) ∧
 (¬ (l7 = 43) →
 (l7 = 45 →
 f8 l7 (decide (l7 = 45)) cr_1j1 H K) ∧
 (¬ (l7 = 45) →
 (l7 = 42 →
 f8 l7 (decide (l7 = 42)) cr_1j1 H K) ∧
 (¬ (l7 = 42) →
 (l7 = 47 →
 f8 l7 (decide (l7 = 47)) cr_1j1 H K) ∧
 (¬ (l7 = 47) →
 (l7 = 37 →
 f8 l7 (decide (l7 = 37)) cr_1j1 H K) ∧
 (¬ (l7 = 37) →
 (l7 = 38 →
 f8 l7 (decide (l7 = 38)) cr_1j1 H K) ∧
 (¬ (l7 = 38) →
 f8 l7 (decide (l7 = 124)) cr_1j1 H K))))))))))))))))))))
def U2 (x0 : Int) (H : Hp) (K : Int → Hp → Prop) : Prop :=
 (x0 = 32 →
 C6 x0 (decide (x0 = 32)) x0 H K) ∧
 (¬ (x0 = 32) →
 (x0 = 9 →
 C6 x0 (decide (x0 = 9)) x0 H K) ∧
 (¬ (x0 = 9) →
 C6 x0 (decide (x0 = 13)) x0 H K))
theorem a6C (x0 : Int) {w0 w : World} {ps0 : Nat → Prop} {H0 H : Hp} {K : Int → Hp → Prop} {R : Value → World → Prop} {E : Pan} (I : Inv w0 ps0 H0 H [] w) (hR : ∀ (r0 : Int) (H' : Hp) (w' : World) (_ : Inv w0 ps0 H0 H' [] w') (_ : K r0 H'), R (vi r0) w') (h : U2 x0 H K) : b6G (Value.int .i32 x0) w R E := by
 unfold U2 at h
 unfold b6G
 refine J2 I (cs := [(Value.int .i32 x0)]) rfl fun g_2 w_3 I_4 k_5 => ?_
 refine b9 (ld1 Tryd.isAgg21 (I_4.at1 (o := 0) (vs := [(Value.int .i32 x0)]) (nb rfl) rfl)) ?_
 have hj1 : ∀ (a4z : Bool) (H : Hp) (w : World) (_ : Inv w0 ps0 H0 H [bx g_2 21 [(Value.int .i32 x0)]] w) (_ : C6 x0 a4z x0 H K), b1q (Value.pointer (some ⟨g_2, 0, none⟩)) (Value.int .i32 x0) (Value.bool a4z) w R E := by
  intro a4z H w I h
  unfold b1q
  intro _
  unfold C6 at h
  refine p5 (fun c1T => ?_) (fun c1T => ?_)
  ·replace h := h.1 c1T
   exact hR 1 H _ I.drop h
  ·replace h := h.2 c1T
   refine a6 (g7 _ _ _ _ _ _) ?_
   refine d8 (fun c1U => ?_) (fun c1U => ?_)
   ·replace h := h.1 c1U
    exact hR 2 H _ I.drop h
   ·replace h := h.2 c1U
    have hj2 : ∀ (a8v : Bool) (H : Hp) (w : World) (_ : Inv w0 ps0 H0 H [bx g_2 21 [(Value.int .i32 x0)]] w) (_ : f8 x0 a8v x0 H K), b1p (Value.pointer (some ⟨g_2, 0, none⟩)) (Value.int .i32 x0) (Value.bool a8v) w R E := by
     intro a8v H w I h
     unfold b1p
     intro _
     unfold f8 at h
     refine p5 (fun c1V => ?_) (fun c1V => ?_)
     ·replace h := h.1 c1V
      exact hR 5 H _ I.drop h
     ·replace h := h.2 c1V
      have hj3 : ∀ (a8u : Bool) (H : Hp) (w : World) (_ : Inv w0 ps0 H0 H [bx g_2 21 [(Value.int .i32 x0)]] w) (_ : C5 a8u x0 H K), b1o (Value.pointer (some ⟨g_2, 0, none⟩)) (Value.bool a8u) w R E := by
       intro a8u H w I h
       unfold b1o
       intro _
       unfold C5 at h
       refine p5 (fun a9x => ?_) (fun a9x => ?_)
       ·replace h := h.1 a9x
        exact hR 6 H _ I.drop h
       ·replace h := h.2 a9x
        refine a6 (a5k _ _ _) ?_
        refine d6 (cap := [(Value.pointer (some ⟨g_2, 0, none⟩))]) (fun args w => Tryd.call131 args w) ?_
        refine i7 (Fi := [bx g_2 21 [(Value.int .i32 x0)]]) (Fr := []) I (h g_2) (fun a9s H_6 a9t w_7 I_8 a9u k_9 a1K => ?_) (fun _ _ _ _ _ q => q.elim)
        obtain ⟨D4, rfl, rfl, h⟩ := a1K
        refine p5 (fun c1W => ?_) (fun c1W => ?_)
        ·replace h := h.1 c1W
         exact hR 4 H_6 _ I_8.drop h
        ·replace h := h.2 c1W
         have hj4 : ∀ (a8t : Bool) (H : Hp) (w : World) (_ : Inv w0 ps0 H0 H [bx g_2 21 [(Value.int .i32 x0)]] w) (_ : r5 a8t x0 H K), b1n (Value.bool a8t) w R E := by
          intro a8t H w I h
          unfold b1n
          intro _
          unfold r5 at h
          refine p5 (fun a1G => ?_) (fun a1G => ?_)
          ·replace h := h.1 a1G
           exact hR 3 H _ I.drop h
          ·replace h := h.2 a1G
           exact hR 6 H _ I.drop h
         refine u4 fun j4 hx4 => ?_
         refine b9 (ld1 Tryd.isAgg21 (I_8.at1 (o := 0) (vs := [(Value.int .i32 x0)]) (nb rfl) rfl)) ?_
         refine a6 (g7 _ _ _ _ _ _) ?_
         refine d8 (fun c1X => ?_) (fun c1X => ?_)
         ·replace h := h.1 c1X
          exact hx4 _ _ (hj4 (decide (x0 = 95)) H_6 _ I_8 h)
         ·replace h := h.2 c1X
          refine d6 (cap := [(Value.pointer (some ⟨g_2, 0, none⟩))]) (fun args w => Tryd.call131 args w) ?_
          refine i7 (Fi := [bx g_2 21 [(Value.int .i32 x0)]]) (Fr := []) I_8 (h g_2) (fun b7b X8 b7c a1h a0N b7d b7e a6r => ?_) (fun _ _ _ _ _ q => q.elim)
          obtain ⟨G6, rfl, rfl, h⟩ := a6r
          refine p5 (fun c1Y => ?_) (fun c1Y => ?_)
          ·replace h := h.1 c1Y
           exact hx4 _ _ (hj4 G6 X8 _ a0N h)
          ·replace h := h.2 c1Y
           refine d6 (cap := [(Value.pointer (some ⟨g_2, 0, none⟩))]) (fun args w => Tryd.call131 args w) ?_
           refine i7 (Fi := [bx g_2 21 [(Value.int .i32 x0)]]) (Fr := []) a0N (h g_2) (fun e3H b7p e3I B1 b4r e3J e0d e0e => ?_) (fun _ _ _ _ _ q => q.elim)
           obtain ⟨b0E, rfl, rfl, h⟩ := e0e
           refine p5 (fun c1Z => ?_) (fun c1Z => ?_)
           ·replace h := h.1 c1Z
            exact hx4 _ _ (hj4 b0E b7p _ b4r h)
           ·replace h := h.2 c1Z
            refine d6 (cap := [(Value.pointer (some ⟨g_2, 0, none⟩))]) (fun args w => Tryd.call131 args w) ?_
            refine i7 (Fi := [bx g_2 21 [(Value.int .i32 x0)]]) (Fr := []) b4r (h g_2) (fun e3K b7q e3L b4s a3v a7G b7g e0f => ?_) (fun _ _ _ _ _ q => q.elim)
            obtain ⟨b0F, rfl, rfl, h⟩ := e0f
            refine p5 (fun c2a => ?_) (fun c2a => ?_)
            ·replace h := h.1 c2a
             exact hx4 _ _ (hj4 b0F b7q _ a3v h)
            ·replace h := h.2 c2a
             refine d6 (cap := [(Value.pointer (some ⟨g_2, 0, none⟩))]) (fun args w => Tryd.call131 args w) ?_
             refine i7 (Fi := [bx g_2 21 [(Value.int .i32 x0)]]) (Fr := []) a3v (h g_2) (fun d9S a1k d9T L4 a7I d9U d9V c1L => ?_) (fun _ _ _ _ _ q => q.elim)
             obtain ⟨Z7, rfl, rfl, h⟩ := c1L
             refine p5 (fun c2b => ?_) (fun c2b => ?_)
             ·replace h := h.1 c2b
              exact hx4 _ _ (hj4 Z7 a1k _ a7I h)
             ·replace h := h.2 c2b
              refine d6 (cap := [(Value.pointer (some ⟨g_2, 0, none⟩))]) (fun args w => Tryd.call131 args w) ?_
              refine i7 (Fi := [bx g_2 21 [(Value.int .i32 x0)]]) (Fr := []) a7I (h g_2) (fun e3M c1S e3N e3O e0g e3P e3Q e0h => ?_) (fun _ _ _ _ _ q => q.elim)
              obtain ⟨b7r, rfl, rfl, h⟩ := e0h
              exact hx4 _ _ (hj4 b7r c1S _ e0g h)
      refine u4 fun j3 hx3 => ?_
      refine a6 (g7 _ _ _ _ _ _) ?_
      refine d8 (fun a9r => ?_) (fun a9r => ?_)
      ·replace h := h.1 a9r
       exact hx3 _ _ (hj3 (decide (x0 = 215)) H _ I h)
      ·replace h := h.2 a9r
       refine a6 (g7 _ _ _ _ _ _) ?_
       refine d8 (fun a4A => ?_) (fun a4A => ?_)
       ·replace h := h.1 a4A
        exact hx3 _ _ (hj3 (decide (x0 = 247)) H _ I h)
       ·replace h := h.2 a4A
        refine a6 (g7 _ _ _ _ _ _) ?_
        exact hx3 _ _ (hj3 (decide (x0 = 930)) H _ I h)
    refine u4 fun j2 hx2 => ?_
    refine a6 (g7 _ _ _ _ _ _) ?_
    refine d8 (fun c2c => ?_) (fun c2c => ?_)
    ·replace h := h.1 c2c
     exact hx2 _ _ (hj2 (decide (x0 = 59)) H _ I h)
    ·replace h := h.2 c2c
     refine a6 (g7 _ _ _ _ _ _) ?_
     refine d8 (fun a4B => ?_) (fun a4B => ?_)
     ·replace h := h.1 a4B
      exact hx2 _ _ (hj2 (decide (x0 = 44)) H _ I h)
     ·replace h := h.2 a4B
      refine a6 (g7 _ _ _ _ _ _) ?_
      refine d8 (fun a9y => ?_) (fun a9y => ?_)
      ·replace h := h.1 a9y
       exact hx2 _ _ (hj2 (decide (x0 = 123)) H _ I h)
      ·replace h := h.2 a9y
       refine a6 (g7 _ _ _ _ _ _) ?_
       refine d8 (fun c2d => ?_) (fun c2d => ?_)
       ·replace h := h.1 c2d
        exact hx2 _ _ (hj2 (decide (x0 = 125)) H _ I h)
       ·replace h := h.2 c2d
        refine a6 (g7 _ _ _ _ _ _) ?_
        refine d8 (fun c2e => ?_) (fun c2e => ?_)
        ·replace h := h.1 c2e
         exact hx2 _ _ (hj2 (decide (x0 = 40)) H _ I h)
        ·replace h := h.2 c2e
         refine a6 (g7 _ _ _ _ _ _) ?_
         refine d8 (fun c2f => ?_) (fun c2f => ?_)
         ·replace h := h.1 c2f
          exact hx2 _ _ (hj2 (decide (x0 = 41)) H _ I h)
         ·replace h := h.2 c2f
          refine a6 (g7 _ _ _ _ _ _) ?_
          refine d8 (fun a9z => ?_) (fun a9z => ?_)
          ·replace h := h.1 a9z
           exact hx2 _ _ (hj2 (decide (x0 = 91)) H _ I h)
          ·replace h := h.2 a9z
           refine a6 (g7 _ _ _ _ _ _) ?_
           refine d8 (fun a9A => ?_) (fun a9A => ?_)
           ·replace h := h.1 a9A
            exact hx2 _ _ (hj2 (decide (x0 = 93)) H _ I h)
           ·replace h := h.2 a9A
            refine a6 (g7 _ _ _ _ _ _) ?_
            refine d8 (fun c2g => ?_) (fun c2g => ?_)
            ·replace h := h.1 c2g
             exact hx2 _ _ (hj2 (decide (x0 = 61)) H _ I h)
            ·replace h := h.2 c2g
             refine a6 (g7 _ _ _ _ _ _) ?_
             refine d8 (fun c2h => ?_) (fun c2h => ?_)
             ·replace h := h.1 c2h
              exact hx2 _ _ (hj2 (decide (x0 = 33)) H _ I h)
             ·replace h := h.2 c2h
              refine a6 (g7 _ _ _ _ _ _) ?_
              refine d8 (fun c2i => ?_) (fun c2i => ?_)
              ·replace h := h.1 c2i
               exact hx2 _ _ (hj2 (decide (x0 = 60)) H _ I h)
              ·replace h := h.2 c2i
               refine a6 (g7 _ _ _ _ _ _) ?_
               refine d8 (fun c2j => ?_) (fun c2j => ?_)
               ·replace h := h.1 c2j
                exact hx2 _ _ (hj2 (decide (x0 = 62)) H _ I h)
               ·replace h := h.2 c2j
                refine a6 (g7 _ _ _ _ _ _) ?_
                refine d8 (fun c2k => ?_) (fun c2k => ?_)
                ·replace h := h.1 c2k
                 exact hx2 _ _ (hj2 (decide (x0 = 43)) H _ I h)
                ·replace h := h.2 c2k
                 refine a6 (g7 _ _ _ _ _ _) ?_
                 refine d8 (fun a9n => ?_) (fun a9n => ?_)
                 ·replace h := h.1 a9n
                  exact hx2 _ _ (hj2 (decide (x0 = 45)) H _ I h)
                 ·replace h := h.2 a9n
                  refine a6 (g7 _ _ _ _ _ _) ?_
                  refine d8 (fun a9o => ?_) (fun a9o => ?_)
                  ·replace h := h.1 a9o
                   exact hx2 _ _ (hj2 (decide (x0 = 42)) H _ I h)
                  ·replace h := h.2 a9o
                   refine a6 (g7 _ _ _ _ _ _) ?_
                   refine d8 (fun c2l => ?_) (fun c2l => ?_)
                   ·replace h := h.1 c2l
                    exact hx2 _ _ (hj2 (decide (x0 = 47)) H _ I h)
                   ·replace h := h.2 c2l
                    refine a6 (g7 _ _ _ _ _ _) ?_
                    refine d8 (fun c2m => ?_) (fun c2m => ?_)
                    ·replace h := h.1 c2m
                     exact hx2 _ _ (hj2 (decide (x0 = 37)) H _ I h)
                    ·replace h := h.2 c2m
                     refine a6 (g7 _ _ _ _ _ _) ?_
                     refine d8 (fun a9q => ?_) (fun a9q => ?_)
                     ·replace h := h.1 a9q
                      exact hx2 _ _ (hj2 (decide (x0 = 38)) H _ I h)
                     ·replace h := h.2 a9q
                      refine a6 (g7 _ _ _ _ _ _) ?_
                      exact hx2 _ _ (hj2 (decide (x0 = 124)) H _ I h)
 refine u4 fun j1 hx1 => ?_
 refine a6 (g7 _ _ _ _ _ _) ?_
 refine d8 (fun c2n => ?_) (fun c2n => ?_)
 ·replace h := h.1 c2n
  exact hx1 _ _ (hj1 (decide (x0 = 32)) H _ I_4 h)
 ·replace h := h.2 c2n
  refine a6 (g7 _ _ _ _ _ _) ?_
  refine d8 (fun c2o => ?_) (fun c2o => ?_)
  ·replace h := h.1 c2o
   exact hx1 _ _ (hj1 (decide (x0 = 9)) H _ I_4 h)
  ·replace h := h.2 c2o
   refine a6 (g7 _ _ _ _ _ _) ?_
   exact hx1 _ _ (hj1 (decide (x0 = 13)) H _ I_4 h)
theorem a7d (x0 : Int) {H : Hp} {K : Int → Hp → Prop} (h : U2 x0 H K) : U0 x0 H K := by
 intro w I
 refine c5t ?_
 refine a6C x0 I (fun r0 H' w' I' hk => ⟨H', _, I', r0, rfl, rfl, hk⟩) h
def C8 (b1L : Int) (H : Hp) (K : Int → Hp → Prop) : Prop :=
 K b1L H
def C9 (jr_1l2 : ByteArray) (a3y : Int) (ir_1l2 : Nat) (H : Hp) (n2 : (Int × Nat) → Hp → Prop) (K : Int → Hp → Prop) : Prop :=
 (ir_1l2 < jr_1l2.size →
 n2 ((IntKind.wrap .i64 (a3y + 1)), (ir_1l2 + (Utf8.decode jr_1l2 ir_1l2).2)) H) ∧
 (¬ (ir_1l2 < jr_1l2.size) →
 C8 a3y H K)
def E4 (x0 : ByteArray) (H : Hp) (K : Int → Hp → Prop) : Prop :=
 TL ((0, 0) : Int × Nat) H fun (s : Int × Nat) H n2 => C9 x0 s.1 s.2 H n2 K
theorem a1t (x0 : ByteArray) {w0 w : World} {ps0 : Nat → Prop} {H0 H : Hp} {K : Int → Hp → Prop} {R : Value → World → Prop} {E : Pan} (I : Inv w0 ps0 H0 H [] w) (hR : ∀ (r0 : Int) (H' : Hp) (w' : World) (_ : Inv w0 ps0 H0 H' [] w') (_ : K r0 H'), R (vi r0) w') (h : E4 x0 H K) : b6K (Value.string x0) w R E := by
 unfold E4 at h
 unfold b6K
 have hj1 : ∀ (b1L : Int) (H : Hp) (w : World) (_ : Inv w0 ps0 H0 H [] w) (_ : C8 b1L H K), b1s (vi b1L) w R E := by
  intro b1L H w I h
  unfold b1s
  intro _
  unfold C8 at h
  exact hR b1L H _ I h
 refine u4 fun j1 hx1 => ?_
 refine b5I Tryd.underlying9 x0 I fun g_2 w_3 I_4 k_5 => ?_
 obtain ⟨c2p, b4t, e0i, e0j⟩ := h
 refine F7 (J := fun n l w => ∃ (s : Int × Nat) (H : Hp) , n = b4t s ∧ l = (match s with | (a3y, ir_1l2) => [(vi a3y)]) ∧ (match s with | (a3y, ir_1l2) => Inv w0 ps0 H0 H [itf g_2 x0 ir_1l2] w) ∧ c2p s H) ⟨_, (0, 0), H, rfl, rfl, I_4, e0i⟩ ?_
 rintro e3R τ_27 w next2 ⟨⟨a3y, ir_1l2⟩, H, rfl, c2q, I, e0k⟩ hn2
 dsimp only at c2q I
 simp only [List.map_cons, List.map_nil, List.cons.injEq, and_true] at c2q
 have e2 := c2q
 simp only [e2]
 obtain ⟨n2, hm2, h⟩ : ∃ n2 : (Int × Nat) → Hp → Prop, (∀ s' H', n2 s' H' → c2p s' H' ∧ b4t s' < b4t (a3y, ir_1l2)) ∧ C9 x0 a3y ir_1l2 H n2 K := ⟨_, fun _ _ h => h, e0j (a3y, ir_1l2) H (fun s' H' => c2p s' H' ∧ b4t s' < b4t (a3y, ir_1l2)) e0k (fun _ _ a b => ⟨a, b⟩)⟩
 unfold b5P
 unfold C9 at h
 refine b8Q I (fun a9v t8 a4s b1F => ?_) (fun a9v => ?_)
 ·replace h := h.1 a9v
  refine a6 (i8 _ _ _ rfl) ?_
  refine p5 (fun e => ?_) (fun e => by cases e)
  refine a6 (B2 _ _ _ _ _ _) ?_
  exact hn2 _ _ _ (hm2 _ _ h).2 ⟨((IntKind.wrap .i64 (a3y + 1)), (ir_1l2 + (Utf8.decode x0 ir_1l2).2)), H, rfl, rfl, a4s, (hm2 _ _ h).1⟩
 ·replace h := h.2 a9v
  refine a6 (i8 _ _ _ rfl) ?_
  refine p5 (fun e => by cases e) (fun e => ?_)
  exact hx1 _ _ (hj1 a3y H _ I.drop h)
theorem a1L (x0 : ByteArray) {H : Hp} {K : Int → Hp → Prop} (h : E4 x0 H K) : L5 x0 H K := by
 intro w I
 refine c5x ?_
 refine a1t x0 I (fun r0 H' w' I' hk => ⟨H', _, I', r0, rfl, rfl, hk⟩) h
def Z8 (H : Hp) (K : Bool → Hp → Prop) : Prop :=
 K true H
def C3 (jr_28l2 : ByteArray) (ir_28l2 : Nat) (H : Hp) (n2 : Nat → Hp → Prop) (K : Bool → Hp → Prop) : Prop :=
 (ir_28l2 < jr_28l2.size →
 a0p ((Utf8.decode jr_28l2 ir_28l2).1 : Int) H (fun (a6D : Bool) (b4u : Hp) =>
 TG ((!(!a6D) && (decide (((ir_28l2 : Nat) : Int) = 0))) = true) (U0 ((Utf8.decode jr_28l2 ir_28l2).1 : Int) b4u) 0 b4u (fun (a3K : Int) (a1l : Hp) =>
 (((!a6D) || ((decide (((ir_28l2 : Nat) : Int) = 0)) && (!decide (a3K = 3)))) = true →
 K false a1l) ∧
 (((!a6D) || ((decide (((ir_28l2 : Nat) : Int) = 0)) && (!decide (a3K = 3)))) = false →
 n2 (ir_28l2 + (Utf8.decode jr_28l2 ir_28l2).2) a1l)))) ∧
 (¬ (ir_28l2 < jr_28l2.size) →
 Z8 H K)
def W6 (x0 : ByteArray) (H : Hp) (K : Bool → Hp → Prop) : Prop :=
 TG ((decide (x0 = ⟨#[]⟩)) = false) (a0k x0 H) false H (fun (J5 : Bool) (H_1 : Hp) =>
 TG (((decide (x0 = ⟨#[]⟩)) || (!J5)) = false) (W1 x0 H_1) false H_1 (fun (z6 : Bool) (a1M : Hp) =>
 TG ((((decide (x0 = ⟨#[]⟩)) || (!J5)) || z6) = false) (S2 x0 a1M) false a1M (fun (Z9 : Bool) (a0r : Hp) =>
 (((((decide (x0 = ⟨#[]⟩)) || (!J5)) || z6) || Z9) = true →
 K false a0r) ∧
 (((((decide (x0 = ⟨#[]⟩)) || (!J5)) || z6) || Z9) = false →
 TL (0 : Nat) a0r fun (s : Nat) H n2 => C3 x0 s H n2 K))))
theorem a7J (x0 : ByteArray) {w0 w : World} {ps0 : Nat → Prop} {H0 H : Hp} {K : Bool → Hp → Prop} {R : Value → World → Prop} {E : Pan} (I : Inv w0 ps0 H0 H [] w) (hR : ∀ (r0 : Bool) (H' : Hp) (w' : World) (_ : Inv w0 ps0 H0 H' [] w') (_ : K r0 H'), R (Value.bool r0) w') (h : W6 x0 H K) : b6B (Value.string x0) w R E := by
 unfold W6 at h
 unfold b6B
 refine a6 (Q9 _ _ _ _ _) ?_
 try simp only [K6]
 refine a3g (D := fun v_5 w_2 => ∃ (J5 : Bool) (H_1 : Hp) , v_5 = (gv (decide (x0 = ⟨#[]⟩)) false (Value.bool J5)) ∧ (Inv w0 ps0 H0 H_1 [] w_2) ∧ (∀ i, i < w.heap.size → ¬ inF [] i → w_2.heap[i]? = w.heap[i]?) ∧ Hle H H_1 ∧ (TG (((decide (x0 = ⟨#[]⟩)) || (!J5)) = false) (W1 x0 H_1) false H_1 (fun (z6 : Bool) (a1M : Hp) =>
 TG ((((decide (x0 = ⟨#[]⟩)) || (!J5)) || z6) = false) (S2 x0 a1M) false a1M (fun (Z9 : Bool) (a0r : Hp) =>
 (((((decide (x0 = ⟨#[]⟩)) || (!J5)) || z6) || Z9) = true →
 K false a0r) ∧
 (((((decide (x0 = ⟨#[]⟩)) || (!J5)) || z6) || Z9) = false →
 TL (0 : Nat) a0r fun (s : Nat) H n2 => C3 x0 s H n2 K))))) (fun a8w => ?_) (fun a8w => ?_) ?_
 ·replace h := h.1 a8w
  have a7 := a8w
  try simp only [b5 a7]
  refine d6 (cap := []) (fun args w => Tryd.call122 args w) ?_
  refine i7 (Fi := []) (Fr := []) I (h) (fun v_5 H_1 F_6 w_2 I_3 l_8 k_4 q_7 => ?_) (fun _ _ _ _ _ q => q.elim)
  obtain ⟨J5, rfl, rfl, h⟩ := q_7
  exact ⟨J5, H_1, by first | rfl | rw [b5 a8w], I_3, k_4, l_8, h⟩
 ·exact ⟨false, H, by first | rfl | rw [a5U a8w], I, fun _ _ _ => rfl, Hle.refl _, h.2 a8w⟩
 ·clear h
  rintro v_5 w_2 ⟨J5, H_1, rfl, I_3, k_4, l_8, h⟩
  refine a6 (Pu.g fun hb => by have a7 := hb; first | exact (E0 _) | (simp only [b5 a7]; exact (E0 _)) | (simp only [c8 a7, b5 a7, b5 hb, E6 a7, m4]; exact (E0 _))) ?_
  refine a6 (a0s _ _) ?_
  try simp only [K6]
  refine a3g (D := fun c2r O8 => ∃ (z6 : Bool) (a1M : Hp) , c2r = (gv ((decide (x0 = ⟨#[]⟩)) || (!J5)) false (Value.bool z6)) ∧ (Inv w0 ps0 H0 a1M [] O8) ∧ (∀ i, i < w_2.heap.size → ¬ inF [] i → O8.heap[i]? = w_2.heap[i]?) ∧ Hle H_1 a1M ∧ (TG ((((decide (x0 = ⟨#[]⟩)) || (!J5)) || z6) = false) (S2 x0 a1M) false a1M (fun (Z9 : Bool) (a0r : Hp) =>
 (((((decide (x0 = ⟨#[]⟩)) || (!J5)) || z6) || Z9) = true →
 K false a0r) ∧
 (((((decide (x0 = ⟨#[]⟩)) || (!J5)) || z6) || Z9) = false →
 TL (0 : Nat) a0r fun (s : Nat) H n2 => C3 x0 s H n2 K)))) (fun b1M => ?_) (fun b1M => ?_) ?_
  ·replace h := h.1 b1M
   have a7 := b1M
   try simp only [b5 a7]
   refine d6 (cap := []) (fun args w => Tryd.call123 args w) ?_
   refine i7 (Fi := []) (Fr := []) I_3 (h) (fun c2r a1M e3S O8 A5 b4o a9c e0l => ?_) (fun _ _ _ _ _ q => q.elim)
   obtain ⟨z6, rfl, rfl, h⟩ := e0l
   exact ⟨z6, a1M, by first | rfl | rw [b5 b1M], A5, a9c, b4o, h⟩
  ·exact ⟨false, H_1, by first | rfl | rw [a5U b1M], I_3, fun _ _ _ => rfl, Hle.refl _, h.2 b1M⟩
  ·clear h
   rintro c2r O8 ⟨z6, a1M, rfl, A5, a9c, b4o, h⟩
   refine a6 (a0s _ _) ?_
   try simp only [K6]
   refine a3g (D := fun c2s u0 => ∃ (Z9 : Bool) (a0r : Hp) , c2s = (gv (((decide (x0 = ⟨#[]⟩)) || (!J5)) || z6) false (Value.bool Z9)) ∧ (Inv w0 ps0 H0 a0r [] u0) ∧ (∀ i, i < O8.heap.size → ¬ inF [] i → u0.heap[i]? = O8.heap[i]?) ∧ Hle a1M a0r ∧ ((((((decide (x0 = ⟨#[]⟩)) || (!J5)) || z6) || Z9) = true →
 K false a0r) ∧
 (((((decide (x0 = ⟨#[]⟩)) || (!J5)) || z6) || Z9) = false →
 TL (0 : Nat) a0r fun (s : Nat) H n2 => C3 x0 s H n2 K))) (fun b1N => ?_) (fun b1N => ?_) ?_
   ·replace h := h.1 b1N
    have a7 := b1N
    try simp only [b5 a7]
    refine d6 (cap := []) (fun args w => Tryd.call124 args w) ?_
    refine i7 (Fi := []) (Fr := []) A5 (h) (fun c2s a0r e3T u0 b7s d2N d2O e0m => ?_) (fun _ _ _ _ _ q => q.elim)
    obtain ⟨Z9, rfl, rfl, h⟩ := e0m
    exact ⟨Z9, a0r, by first | rfl | rw [b5 b1N], b7s, d2O, d2N, h⟩
   ·exact ⟨false, a1M, by first | rfl | rw [a5U b1N], A5, fun _ _ _ => rfl, Hle.refl _, h.2 b1N⟩
   ·clear h
    rintro c2s u0 ⟨Z9, a0r, rfl, b7s, d2O, d2N, h⟩
    refine a6 (a0s _ _) ?_
    refine p5 (fun c2t => ?_) (fun c2t => ?_)
    ·replace h := h.1 c2t
     exact hR false a0r _ b7s h
    ·replace h := h.2 c2t
     have hj1 : ∀ (H : Hp) (w : World) (_ : Inv w0 ps0 H0 H [] w) (_ : Z8 H K), b1j w R E := by
      intro H w I h
      unfold b1j
      intro _
      unfold Z8 at h
      exact hR true H _ I h
     refine u4 fun j1 hx1 => ?_
     refine b5I Tryd.underlying9 x0 b7s fun b7t E7 b4l d2z => ?_
     obtain ⟨c2u, b4v, e0n, e0o⟩ := h
     refine F7 (J := fun n l w => ∃ (s : Nat) (H : Hp) , n = b4v s ∧ l = [] ∧ Inv w0 ps0 H0 H [itf b7t x0 s] w ∧ c2u s H) ⟨_, 0, a0r, rfl, rfl, b4l, e0n⟩ ?_
     rintro e3U τ_94 w next2 ⟨ir_28l2, H, rfl, e0p, I, e0q⟩ hn2
     clear e0p
     obtain ⟨n2, hm2, h⟩ : ∃ n2 : Nat → Hp → Prop, (∀ s' H', n2 s' H' → c2u s' H' ∧ b4v s' < b4v ir_28l2) ∧ C3 x0 ir_28l2 H n2 K := ⟨_, fun _ _ h => h, e0o ir_28l2 H (fun s' H' => c2u s' H' ∧ b4v s' < b4v ir_28l2) e0q (fun _ _ a b => ⟨a, b⟩)⟩
     unfold b5M
     unfold C3 at h
     refine b8Q I (fun a4A b7u e0r e3V => ?_) (fun a4A => ?_)
     ·replace h := h.1 a4A
      refine a6 (i8 _ _ _ rfl) ?_
      refine p5 (fun e => ?_) (fun e => by cases e)
      refine a6 (i8 _ _ _ rfl) ?_
      refine a6 (i8 _ _ _ rfl) ?_
      refine d6 (cap := []) (fun args w => Tryd.call125 args w) ?_
      refine i7 (Fi := []) (Fr := [itf b7t x0 (ir_28l2 + (Utf8.decode x0 ir_28l2).2)]) e0r (h) (fun c1I b4u e3W a0m b4w e3X e0s e0t => ?_) (fun _ _ _ _ _ q => q.elim)
      obtain ⟨a6D, rfl, rfl, h⟩ := e0t
      refine a6 (E0 _) ?_
      try simp only [K6]
      refine a6 (Pu.g fun hb => by have a7 := hb; first | exact (g7 _ _ _ _ _ _) | (simp only [b5 a7]; exact (g7 _ _ _ _ _ _)) | (simp only [c8 a7, b5 a7, b5 hb, E6 a7, m4]; exact (g7 _ _ _ _ _ _))) ?_
      try simp only [a9Y, a9Z]
      try simp only [K6, a9Y, b2X, b2Z, a9Z, b3c, b2Y, b3a, b3b, b3d]
      refine d6M (a3Q _ _ _) ?_
      refine a3g (D := fun b7v a9B => ∃ (a3K : Int) (a1l : Hp) , b7v = (gv (!(!a6D) && (decide (((ir_28l2 : Nat) : Int) = 0))) true (vi a3K)) ∧ (Inv w0 ps0 H0 a1l [itf b7t x0 (ir_28l2 + (Utf8.decode x0 ir_28l2).2)] a9B) ∧ (∀ i, i < a0m.heap.size → ¬ inF [] i → a9B.heap[i]? = a0m.heap[i]?) ∧ Hle b4u a1l ∧ ((((!a6D) || ((decide (((ir_28l2 : Nat) : Int) = 0)) && (!decide (a3K = 3)))) = true →
 K false a1l) ∧
 (((!a6D) || ((decide (((ir_28l2 : Nat) : Int) = 0)) && (!decide (a3K = 3)))) = false →
 n2 (ir_28l2 + (Utf8.decode x0 ir_28l2).2) a1l))) (fun a9C => ?_) (fun a9C => ?_) ?_
      ·replace h := h.1 a9C
       obtain ⟨a7, P3⟩ := a8b a9C
       try simp only [b5 a9C]
       refine d6 (cap := []) (fun args w => Tryd.call126 args w) ?_
       refine i7 (Fi := []) (Fr := [itf b7t x0 (ir_28l2 + (Utf8.decode x0 ir_28l2).2)]) b4w (h) (fun b7v a1l e0u a9B b1O c2v c2w c2x => ?_) (fun _ _ _ _ _ q => q.elim)
       obtain ⟨a3K, rfl, rfl, h⟩ := c2x
       exact ⟨a3K, a1l, by first | rfl | rw [b5 a9C], b1O, c2w, c2v, h⟩
      ·exact ⟨0, b4u, by first | rfl | rw [a5U a9C], b4w, fun _ _ _ => rfl, Hle.refl _, h.2 a9C⟩
      ·clear h
       rintro b7v a9B ⟨a3K, a1l, rfl, b1O, c2w, c2v, h⟩
       refine a6 (Pu.e (a3Q _ _ _) (Pu.g fun hb => by obtain ⟨a7, P3⟩ := a8b hb; first | exact (T6 _ _ _ _ _ _) | (simp only [b5 hb]; exact (T6 _ _ _ _ _ _)) | (simp only [c8 a7, b5 a7, c8 P3, b5 P3, b5 hb, G2 hb]; exact (T6 _ _ _ _ _ _)) | (simp only [c8 a7, b5 a7, c8 P3, b5 P3, b5 hb, m5 hb, m4]; exact (T6 _ _ _ _ _ _)))) ?_
       refine a6 (Pu.g fun hb => by have a7 := hb; first | exact (K1 _ _) | (simp only [b5 a7, a5B a7]; exact (K1 _ _)) | (simp only [c8 a7, b5 a7, b5 hb, E6 a7, m4]; exact (K1 _ _))) ?_
       refine a6 (a0s _ _) ?_
       refine p5 (fun a4B => ?_) (fun a4B => ?_)
       ·replace h := h.1 a4B
        exact hR false a1l _ b1O.drop h
       ·replace h := h.2 a4B
        exact hn2 _ _ _ (hm2 _ _ h).2 ⟨(ir_28l2 + (Utf8.decode x0 ir_28l2).2), a1l, rfl, rfl, b1O, (hm2 _ _ h).1⟩
     ·replace h := h.2 a4A
      refine a6 (i8 _ _ _ rfl) ?_
      refine p5 (fun e => by cases e) (fun e => ?_)
      exact hx1 _ _ (hj1 H _ I.drop h)
theorem a8F (x0 : ByteArray) {H : Hp} {K : Bool → Hp → Prop} (h : W6 x0 H K) : W2 x0 H K := by
 intro w I
 refine c5h ?_
 refine a7J x0 I (fun r0 H' w' I' hk => ⟨H', _, I', r0, rfl, rfl, hk⟩) h
def M1 (a2H : Int) (a2I : Int) (a2J : Int) (a2K : Bool) (a2L : Bool) (a1U : (List ByteArray)) (H : Hp) (K : Bool → b7 → (List ByteArray) → Hp → Prop) : Prop :=
 K true (b7.mk a2H a2I a2J a2K a2L (Sl.mk none 0 0)) a1U H
def M2 (b4x : Int) (P1 : Sl) (j7 : Int) (U3 : Int) (P6 : Int) (P7 : Int) (P8 : Int) (P9 : Bool) (Q0 : Bool) (N7 : (List ByteArray)) (H : Hp) (n2 : (Int × Int × Int × Int × Bool × Bool × (List ByteArray)) → Hp → Prop) (K : Bool → b7 → (List ByteArray) → Hp → Prop) : Prop :=
 (U3 < j7 →
 (0 : Int) ≤ U3 ∧ (U3 : Int) < P1.n ∧ ∃ b4y : a8, EltH H P1 U3 1 [(m3 b4y)] ∧
 R6 (b7.mk P6 P7 P8 P9 Q0 (Sl.mk none 0 0)) N7 b4y b4x H (fun (a1w : Bool) (A0 : b7) (a3X : (List ByteArray)) (b4z : Hp) =>
 TG ((!a1w) = false) (X6 b4y b4z) (Sl.mk none 0 0) b4z (fun (a6E : Sl) (a3z : Hp) =>
 TG ((!a1w) = false) (fun k_ => K9 a6E (IntKind.wrap .i64 (b4x + 1)) (b7.mk ((A0).fnodes) ((A0).fdepth) ((A0).fe) ((A0).fform) ((A0).fnamed) (Sl.mk none 0 0)) a3X a3z fun a3d D7 V1 H_ => k_ (a3d, D7, V1) H_) (false, (b7.mk ((A0).fnodes) ((A0).fdepth) ((A0).fe) ((A0).fform) ((A0).fnamed) (Sl.mk none 0 0)), a3X) a3z (fun (N4 : Bool × b7 × (List ByteArray)) (a1N : Hp) =>
 (((!a1w) || (!N4.1)) = true →
 K false (b7.mk ((N4.2.1).fnodes) ((N4.2.1).fdepth) ((N4.2.1).fe) ((N4.2.1).fform) ((N4.2.1).fnamed) (Sl.mk none 0 0)) N4.2.2 a1N) ∧
 (((!a1w) || (!N4.1)) = false →
 n2 ((IntKind.wrap .i64 (U3 + 1)), ((N4.2.1).fnodes), ((N4.2.1).fdepth), ((N4.2.1).fe), ((N4.2.1).fform), ((N4.2.1).fnamed), N4.2.2) a1N))))) ∧
 (¬ (U3 < j7) →
 M1 P6 P7 P8 P9 Q0 N7 H K)
def Q6 (x0 : Sl) (x1 : Int) (x2 : b7) (a4i : (List ByteArray)) (H : Hp) (K : Bool → b7 → (List ByteArray) → Hp → Prop) : Prop :=
 TL ((0, x2.fnodes, x2.fdepth, x2.fe, x2.fform, x2.fnamed, a4i) : Int × Int × Int × Int × Bool × Bool × (List ByteArray)) H fun (s : Int × Int × Int × Int × Bool × Bool × (List ByteArray)) H n2 => M2 x1 x0 (x0.n : Int) s.1 s.2.1 s.2.2.1 s.2.2.2.1 s.2.2.2.2.1 s.2.2.2.2.2.1 s.2.2.2.2.2.2 H n2 K
theorem a4U (x0 : Sl) (x1 : Int) (x2 : b7) (a4i : (List ByteArray)) (g2 g2b g3 : Nat) (a5a : Sl) (a5b : Frag) (b7w : RowL 9 1 o8 a5a a4i a5b) {w0 w : World} {ps0 : Nat → Prop} {H0 H : Hp} {K : Bool → b7 → (List ByteArray) → Hp → Prop} {R : Value → World → Prop} {E : Pan} (I : Inv w0 ps0 H0 H [bx g2 93 [(Value.pointer (some ⟨g2b, 0, none⟩))], bx g2b 92 [(vi x2.fnodes), (vi x2.fdepth), (vi x2.fe), (Value.bool x2.fform), (Value.bool x2.fnamed), (vs a5a)], a5b, bx g3 139 [(Value.func (.func 89) #[] #[(Value.pointer (some ⟨g2, 0, none⟩)), (Value.pointer (some ⟨g3, 0, none⟩))])]] w) (hR : ∀ (r0 : Bool) (y0 : b7) (a1E : (List ByteArray)) (Y7 : Sl) (Y8 : Frag) (H' : Hp) (w' : World) (_ : RowL 9 1 o8 Y7 a1E Y8) (_ : Inv w0 ps0 H0 H' [bx g2 93 [(Value.pointer (some ⟨g2b, 0, none⟩))], bx g2b 92 [(vi y0.fnodes), (vi y0.fdepth), (vi y0.fe), (Value.bool y0.fform), (Value.bool y0.fnamed), (vs Y7)], Y8, bx g3 139 [(Value.func (.func 89) #[] #[(Value.pointer (some ⟨g2, 0, none⟩)), (Value.pointer (some ⟨g3, 0, none⟩))])]] w') (_ : K r0 y0 a1E H'), R (Value.bool r0) w') (h : Q6 x0 x1 x2 a4i H K) : F89 (vs x0) (vi x1) (Value.pointer (some ⟨g2, 0, none⟩)) (Value.pointer (some ⟨g3, 0, none⟩)) w R E := by
 unfold Q6 at h
 unfold F89
 have hj1 : ∀ (a2H : Int) (a2I : Int) (a2J : Int) (a2K : Bool) (a2L : Bool) (a1U : (List ByteArray)) (a5d : Sl) (a5e : Frag) (H : Hp) (w : World) (_ : RowL 9 1 o8 a5d a1U a5e) (_ : Inv w0 ps0 H0 H [bx g2 93 [(Value.pointer (some ⟨g2b, 0, none⟩))], bx g2b 92 [(vi a2H), (vi a2I), (vi a2J), (Value.bool a2K), (Value.bool a2L), (vs a5d)], bx g3 139 [(Value.func (.func 89) #[] #[(Value.pointer (some ⟨g2, 0, none⟩)), (Value.pointer (some ⟨g3, 0, none⟩))])], a5e] w) (_ : M1 a2H a2I a2J a2K a2L a1U H K), b3s w R E := by
  intro a2H a2I a2J a2K a2L a1U a5d a5e H w b9Q I h
  unfold b3s
  intro _
  unfold M1 at h
  exact hR true (b7.mk a2H a2I a2J a2K a2L (Sl.mk none 0 0)) a1U a5d a5e H _ b9Q ((((I.bring 2).bring 3).bring 3).bring 3) h
 refine u4 fun j1 hx1 => ?_
 refine a6 (a4W _ _ _) ?_
 obtain ⟨c2y, b4A, e0v, e0w⟩ := h
 refine F7 (J := fun n l w => ∃ (s : Int × Int × Int × Int × Bool × Bool × (List ByteArray)) (H : Hp) (a1V : Sl) (a1W : Frag) , n = b4A s ∧ l = (match s with | (U3, P6, P7, P8, P9, Q0, N7) => [(vi U3)]) ∧ (match s with | (U3, P6, P7, P8, P9, Q0, N7) => RowL 9 1 o8 a1V N7 a1W) ∧ (match s with | (U3, P6, P7, P8, P9, Q0, N7) => Inv w0 ps0 H0 H [bx g2 93 [(Value.pointer (some ⟨g2b, 0, none⟩))], bx g2b 92 [(vi P6), (vi P7), (vi P8), (Value.bool P9), (Value.bool Q0), (vs a1V)], bx g3 139 [(Value.func (.func 89) #[] #[(Value.pointer (some ⟨g2, 0, none⟩)), (Value.pointer (some ⟨g3, 0, none⟩))])], a1W] w) ∧ c2y s H) ⟨_, (0, x2.fnodes, x2.fdepth, x2.fe, x2.fform, x2.fnamed, a4i), H, a5a, a5b, rfl, rfl, b7w, ((((I.bring 2).bring 3).bring 3).bring 3), e0v⟩ ?_
 rintro e3Y τ_92 w next2 ⟨⟨U3, P6, P7, P8, P9, Q0, N7⟩, H, a1V, a1W, rfl, b3X, a7K, I, d2P⟩ hn2
 dsimp only at b3X I a7K
 simp only [List.map_cons, List.map_nil, List.cons.injEq, and_true] at b3X
 have e11 := b3X
 simp only [e11]
 obtain ⟨n2, hm2, h⟩ : ∃ n2 : (Int × Int × Int × Int × Bool × Bool × (List ByteArray)) → Hp → Prop, (∀ s' H', n2 s' H' → c2y s' H' ∧ b4A s' < b4A (U3, P6, P7, P8, P9, Q0, N7)) ∧ M2 x1 x0 (x0.n : Int) U3 P6 P7 P8 P9 Q0 N7 H n2 K := ⟨_, fun _ _ h => h, e0w (U3, P6, P7, P8, P9, Q0, N7) H (fun s' H' => c2y s' H' ∧ b4A s' < b4A (U3, P6, P7, P8, P9, Q0, N7)) d2P (fun _ _ a b => ⟨a, b⟩)⟩
 unfold b8W
 unfold M2 at h
 refine a6 (D1 _ _ _ _ _ _) ?_
 refine d8 (fun a9y => ?_) (fun a9y => ?_)
 ·replace h := h.1 a9y
  obtain ⟨e0x, e0y, b4y, b4B, h⟩ := h
  obtain ⟨e3Z, e4a, e0z, b4B⟩ := b4B
  refine a6 (c1g e0z _ _ _ _ e0x e0y) ?_
  refine b9 (ld1 (v := (m3 b4y)) Tryd.isAgg141 (I.atH b4B)) ?_
  refine a1z I fun d9W d2Q => ?_
  refine G1 (ld1 Tryd.isAgg93 (d2Q.at1 (o := 0) (vs := [(Value.pointer (some ⟨g2b, 0, none⟩))]) (nb rfl) rfl)) ?_
  refine d6 (cap := []) (fun args w => Tryd.call90 args w) ?_
  refine i7 (Fi := [bx g2b 92 [(vi P6), (vi P7), (vi P8), (Value.bool P9), (Value.bool Q0), (vs a1V)], a1W]) (Fr := [bx g2 93 [(Value.pointer (some ⟨g2b, 0, none⟩))], bx g3 139 [(Value.func (.func 89) #[] #[(Value.pointer (some ⟨g2, 0, none⟩)), (Value.pointer (some ⟨g3, 0, none⟩))])]]) ((d2Q.bring 3).bring 2) (h g2b a1V a1W a7K) (fun e4b b4z e4c X5 a9D e4d e4e e0A => ?_) (fun _ _ _ _ _ q => q.elim)
  obtain ⟨a1w, A0, a3X, a4C, a4D, rfl, rfl, b4C, h⟩ := e0A
  refine j6 (E0 _) ?_
  try simp only [K6]
  try simp only [K6, a9Y, b2X, b2Z, a9Z, b3c, b2Y, b3a, b3b, b3d]
  refine j6 (Pu.g fun hb => by have a7 := hb; first | exact (B2 _ _ _ _ _ _) | (simp only [b5 a7]; exact (B2 _ _ _ _ _ _)) | (simp only [c8 a7, b5 a7, b5 hb, E6 a7, m4]; exact (B2 _ _ _ _ _ _))) ?_
  refine G1 (Ld.g fun hb => by have a7 := hb; first | exact (ld1 Tryd.isAgg139 ((a9D.bring 3).at1 (o := 0) (vs := [(Value.func (.func 89) #[] #[(Value.pointer (some ⟨g2, 0, none⟩)), (Value.pointer (some ⟨g3, 0, none⟩))])]) (nb rfl) rfl)) | (simp only [c8 a7, b5 a7, b5 hb, a5B a7]; exact (ld1 Tryd.isAgg139 ((a9D.bring 3).at1 (o := 0) (vs := [(Value.func (.func 89) #[] #[(Value.pointer (some ⟨g2, 0, none⟩)), (Value.pointer (some ⟨g3, 0, none⟩))])]) (nb rfl) rfl))) | (simp only [c8 a7, b5 a7, b5 hb, E6 a7, m4]; exact (ld1 Tryd.isAgg139 ((a9D.bring 3).at1 (o := 0) (vs := [(Value.func (.func 89) #[] #[(Value.pointer (some ⟨g2, 0, none⟩)), (Value.pointer (some ⟨g3, 0, none⟩))])]) (nb rfl) rfl)))) ?_
  refine a3g (D := fun d2R a1O => ∃ (a6E : Sl) (a3z : Hp), d2R = (gv (!a1w) false (vs a6E)) ∧ (Inv w0 ps0 H0 a3z [bx g2b 92 [(vi ((A0).fnodes)), (vi ((A0).fdepth)), (vi ((A0).fe)), (Value.bool ((A0).fform)), (Value.bool ((A0).fnamed)), (vs a4C)], a4D, bx g2 93 [(Value.pointer (some ⟨g2b, 0, none⟩))], bx g3 139 [(Value.func (.func 89) #[] #[(Value.pointer (some ⟨g2, 0, none⟩)), (Value.pointer (some ⟨g3, 0, none⟩))])]] a1O) ∧ (∀ i, i < X5.heap.size → ¬ inF [] i → a1O.heap[i]? = X5.heap[i]?) ∧ Hle b4z a3z ∧ (TG ((!a1w) = false) (fun k_ => K9 a6E (IntKind.wrap .i64 (x1 + 1)) (b7.mk ((A0).fnodes) ((A0).fdepth) ((A0).fe) ((A0).fform) ((A0).fnamed) (Sl.mk none 0 0)) a3X a3z fun a3d D7 V1 H_ => k_ (a3d, D7, V1) H_) (false, (b7.mk ((A0).fnodes) ((A0).fdepth) ((A0).fe) ((A0).fform) ((A0).fnamed) (Sl.mk none 0 0)), a3X) a3z (fun (N4 : Bool × b7 × (List ByteArray)) (a1N : Hp) =>
 (((!a1w) || (!N4.1)) = true →
 K false (b7.mk ((N4.2.1).fnodes) ((N4.2.1).fdepth) ((N4.2.1).fe) ((N4.2.1).fform) ((N4.2.1).fnamed) (Sl.mk none 0 0)) N4.2.2 a1N) ∧
 (((!a1w) || (!N4.1)) = false →
 n2 ((IntKind.wrap .i64 (U3 + 1)), ((N4.2.1).fnodes), ((N4.2.1).fdepth), ((N4.2.1).fe), ((N4.2.1).fform), ((N4.2.1).fnamed), N4.2.2) a1N)))) (fun b1P => ?_) (fun b1P => ?_) ?_
  ·replace h := h.1 b1P
   have a7 := b1P
   try simp only [b5 a7]
   refine a5r a9D h (fun a6E a3z a1O b1Q d2S b7x h => ?_)
   exact ⟨a6E, a3z, by first | rfl | rw [b5 b1P], b1Q, b7x, d2S, h⟩
  ·exact ⟨(Sl.mk none 0 0), b4z, by first | rfl | rw [a5U b1P], a9D, fun _ _ _ => rfl, Hle.refl _, h.2 b1P⟩
  ·clear h
   rintro d2R a1O ⟨a6E, a3z, rfl, b1Q, b7x, d2S, h⟩
   refine ⟨(b7x _ (a9D.bring 3).lt1 (Inv.a1Y (Fi := []) (a9D.bring 3))), ?_⟩
   refine a3g (D := fun c2z b1R => ∃ (a3d : Bool) (D7 : b7) (V1 : (List ByteArray)) (a1N : Hp) (a1P : Sl) (a1Q : Frag) , c2z = (gv (!a1w) false (Value.bool a3d)) ∧ (RowL 9 1 o8 a1P V1 a1Q) ∧ (Inv w0 ps0 H0 a1N [bx g2 93 [(Value.pointer (some ⟨g2b, 0, none⟩))], bx g2b 92 [(vi ((D7).fnodes)), (vi ((D7).fdepth)), (vi ((D7).fe)), (Value.bool ((D7).fform)), (Value.bool ((D7).fnamed)), (vs a1P)], a1Q, bx g3 139 [(Value.func (.func 89) #[] #[(Value.pointer (some ⟨g2, 0, none⟩)), (Value.pointer (some ⟨g3, 0, none⟩))])]] b1R) ∧ (∀ i, i < a1O.heap.size → ¬ inF [bx g2 93 [(Value.pointer (some ⟨g2b, 0, none⟩))], bx g2b 92 [(vi ((A0).fnodes)), (vi ((A0).fdepth)), (vi ((A0).fe)), (Value.bool ((A0).fform)), (Value.bool ((A0).fnamed)), (vs a4C)], a4D, bx g3 139 [(Value.func (.func 89) #[] #[(Value.pointer (some ⟨g2, 0, none⟩)), (Value.pointer (some ⟨g3, 0, none⟩))])]] i → b1R.heap[i]? = a1O.heap[i]?) ∧ Hle a3z a1N ∧ ((((!a1w) || (!a3d)) = true →
 K false (b7.mk ((D7).fnodes) ((D7).fdepth) ((D7).fe) ((D7).fform) ((D7).fnamed) (Sl.mk none 0 0)) V1 a1N) ∧
 (((!a1w) || (!a3d)) = false →
 n2 ((IntKind.wrap .i64 (U3 + 1)), ((D7).fnodes), ((D7).fdepth), ((D7).fe), ((D7).fform), ((D7).fnamed), V1) a1N))) (fun b1S => ?_) (fun b1S => ?_) ?_
   ·replace h := h.1 b1S
    have a7 := b1S
    try simp only [b5 a7]
    refine d6 (cap := [(Value.pointer (some ⟨g2, 0, none⟩)), (Value.pointer (some ⟨g3, 0, none⟩))]) (fun args w => Tryd.call89 args w) ?_
    refine i7 (Fi := [bx g2 93 [(Value.pointer (some ⟨g2b, 0, none⟩))], bx g2b 92 [(vi ((A0).fnodes)), (vi ((A0).fdepth)), (vi ((A0).fe)), (Value.bool ((A0).fform)), (Value.bool ((A0).fnamed)), (vs a4C)], a4D, bx g3 139 [(Value.func (.func 89) #[] #[(Value.pointer (some ⟨g2, 0, none⟩)), (Value.pointer (some ⟨g3, 0, none⟩))])]]) (Fr := []) ((((b1Q.bring 3).bring 2).bring 2).bring 3) (h g2 g2b g3 a4C a4D b4C) (fun c2z a1N e4f b1R b7y b6M d2T e0B => ?_) (fun _ _ _ _ _ q => q.elim)
    obtain ⟨a3d, D7, V1, a1P, a1Q, rfl, rfl, a6F, h⟩ := e0B
    exact ⟨a3d, D7, V1, a1N, a1P, a1Q, by first | rfl | rw [b5 b1S], a6F, b7y, d2T, b6M, h⟩
   ·exact ⟨false, (b7.mk ((A0).fnodes) ((A0).fdepth) ((A0).fe) ((A0).fform) ((A0).fnamed) (Sl.mk none 0 0)), a3X, a3z, a4C, a4D, by first | rfl | rw [a5U b1S], b4C, ((((b1Q.bring 3).bring 2).bring 2).bring 3), fun _ _ _ => rfl, Hle.refl _, h.2 b1S⟩
   ·clear h
    rintro c2z b1R ⟨a3d, D7, V1, a1N, a1P, a1Q, rfl, a6F, b7y, d2T, b6M, h⟩
    refine j6 (Pu.g fun hb => by have a7 := hb; first | exact (E0 _) | (simp only [b5 a7]; exact (E0 _)) | (simp only [c8 a7, b5 a7, b5 hb, E6 a7, m4]; exact (E0 _))) ?_
    refine j6 (a0s _ _) ?_
    refine p5 (fun a9A => ?_) (fun a9A => ?_)
    ·replace h := h.1 a9A
     exact hR false (b7.mk ((D7).fnodes) ((D7).fdepth) ((D7).fe) ((D7).fform) ((D7).fnamed) (Sl.mk none 0 0)) V1 a1P a1Q a1N _ a6F ((((b7y.bring 3).bring 3).bring 3).bring 3) h
    ·replace h := h.2 a9A
     refine a6 (B2 _ _ _ _ _ _) ?_
     exact hn2 _ _ _ (hm2 _ _ h).2 ⟨((IntKind.wrap .i64 (U3 + 1)), ((D7).fnodes), ((D7).fdepth), ((D7).fe), ((D7).fform), ((D7).fnamed), V1), a1N, a1P, a1Q, rfl, rfl, a6F, ((((b7y.bring 2).bring 3).bring 3).bring 3), (hm2 _ _ h).1⟩
 ·replace h := h.2 a9y
  exact hx1 _ _ (hj1 P6 P7 P8 P9 Q0 N7 a1V a1W H _ a7K ((((I.bring 3).bring 3).bring 3).bring 3) h)
theorem a5u (x0 : Sl) (x1 : Int) (x2 : b7) (a4i : (List ByteArray)) {H : Hp} {K : Bool → b7 → (List ByteArray) → Hp → Prop} (h : Q6 x0 x1 x2 a4i H K) : K9 x0 x1 x2 a4i H K := by
 intro g2 g2b g3 a5a a5b b7w w I
 refine c8e ?_
 refine a4U x0 x1 x2 a4i g2 g2b g3 a5a a5b b7w I (fun r0 y0 a1E Y7 Y8 H' w' b4q I' hk => ⟨H', _, I', r0, y0, a1E, Y7, Y8, rfl, rfl, b4q, hk⟩) h
def A7 (cr_1j1_0 : Int) (cr_1j1_1 : Int) (cr_1j1_2 : Int) (cr_1j1_3 : Bool) (cr_1j1_4 : Bool) (ccr_1j1_5 : (List ByteArray)) (H : Hp) (K : b7 → Hp → Prop) : Prop :=
 ∀ (scr_1j1_5 : Sl) (b1T : Hp), Hle H b1T → SlH b1T 1 o8 scr_1j1_5 ccr_1j1_5 → scr_1j1_5.n ≤ scr_1j1_5.c →
 K (b7.mk cr_1j1_0 cr_1j1_1 cr_1j1_2 cr_1j1_3 cr_1j1_4 scr_1j1_5) b1T
def S9 (x0 : Sl) (H : Hp) (K : b7 → Hp → Prop) : Prop :=
 K9 x0 1 (b7.mk 0 0 0 false false (Sl.mk none 0 0)) [] H (fun (b7z : Bool) (t1 : b7) (a1d : (List ByteArray)) (a6G : Hp) =>
 ((!b7z) = true →
 A7 ((t1).fnodes) ((t1).fdepth) ((t1).fe) ((t1).fform) ((t1).fnamed) a1d a6G K) ∧
 ((!b7z) = false →
 (((t1).fform) = true →
 A7 ((t1).fnodes) ((t1).fdepth) 30 ((t1).fform) ((t1).fnamed) a1d a6G K) ∧
 (((t1).fform) = false →
 (((t1).fnamed) = true →
 A7 ((t1).fnodes) ((t1).fdepth) 31 ((t1).fform) ((t1).fnamed) a1d a6G K) ∧
 (((t1).fnamed) = false →
 A7 ((t1).fnodes) ((t1).fdepth) ((t1).fe) ((t1).fform) ((t1).fnamed) a1d a6G K))))
theorem a5I (x0 : Sl) {w0 w : World} {ps0 : Nat → Prop} {H0 H : Hp} {K : b7 → Hp → Prop} {R : Value → World → Prop} {E : Pan} (I : Inv w0 ps0 H0 H [] w) (hR : ∀ (r0 : b7) (gr0 : Nat) (H' : Hp) (w' : World) (_ : Inv w0 ps0 H0 H' [bx gr0 92 (a0X r0)] w') (_ : K r0 H'), R (Value.pointer (some ⟨gr0, 0, none⟩)) w') (h : S9 x0 H K) : F57 (vs x0) w R E := by
 unfold S9 at h
 unfold F57
 refine a6 (b8U ) ?_
 refine J2 I (cs := [(vi 0), (vi 0), (vi 0), (Value.bool false), (Value.bool false), (Value.slice none 0 0)]) rfl fun g_2 w_3 I_4 k_5 => ?_
 refine F6 I_4 Tryd.zeroValue93 (cs := [(Value.pointer none)]) rfl fun g_7 w_8 I_9 d2r => ?_
 refine t6 I_9 Tryd.sizeOf93 (vs := [(Value.pointer (some ⟨g_2, 0, none⟩))]) (cs' := [(Value.pointer (some ⟨g_2, 0, none⟩))]) rfl rfl (nb rfl) rfl rfl fun O8 A5 a9c => ?_
 refine F6 A5 Tryd.zeroValue139 (cs := [Value.nilFunc]) rfl fun a6H r7 a4E d2U => ?_
 refine a6 (a5k _ _ _) ?_
 refine t6 a4E Tryd.sizeOf139 (vs := [(Value.func (.func 89) #[] #[(Value.pointer (some ⟨g_7, 0, none⟩)), (Value.pointer (some ⟨a6H, 0, none⟩))])]) (cs' := [(Value.func (.func 89) #[] #[(Value.pointer (some ⟨g_7, 0, none⟩)), (Value.pointer (some ⟨a6H, 0, none⟩))])]) rfl rfl (nb rfl) rfl rfl fun a2A b7n d9P => ?_
 have hj1 : ∀ (cr_1j1_0 : Int) (cr_1j1_1 : Int) (cr_1j1_2 : Int) (cr_1j1_3 : Bool) (cr_1j1_4 : Bool) (ccr_1j1_5 : (List ByteArray)) (scr_1j1_5 : Sl) (Fcr_1j1_5 : Frag) (H : Hp) (w : World) (_ : RowL 9 1 o8 scr_1j1_5 ccr_1j1_5 Fcr_1j1_5) (_ : Inv w0 ps0 H0 H [bx g_7 93 [(Value.pointer (some ⟨g_2, 0, none⟩))], bx g_2 92 [(vi cr_1j1_0), (vi cr_1j1_1), (vi cr_1j1_2), (Value.bool cr_1j1_3), (Value.bool cr_1j1_4), (vs scr_1j1_5)], bx a6H 139 [(Value.func (.func 89) #[] #[(Value.pointer (some ⟨g_7, 0, none⟩)), (Value.pointer (some ⟨a6H, 0, none⟩))])], Fcr_1j1_5] w) (_ : A7 cr_1j1_0 cr_1j1_1 cr_1j1_2 cr_1j1_3 cr_1j1_4 ccr_1j1_5 H K), b3r (Value.pointer (some ⟨g_7, 0, none⟩)) w R E := by
  intro cr_1j1_0 cr_1j1_1 cr_1j1_2 cr_1j1_3 cr_1j1_4 ccr_1j1_5 scr_1j1_5 Fcr_1j1_5 H w hcr_1j1_5 I h
  unfold b3r
  intro _
  unfold A7 at h
  refine b9 (ld1 Tryd.isAgg93 (I.at1 (o := 0) (vs := [(Value.pointer (some ⟨g_2, 0, none⟩))]) (nb rfl) rfl)) ?_
  obtain ⟨b1T, b4p, e0C, a6u, b4m⟩ := Inv.freezeC (I.bring 3) hcr_1j1_5 (by decide)
  replace h := h scr_1j1_5 b1T e0C a6u b4m
  exact hR (b7.mk cr_1j1_0 cr_1j1_1 cr_1j1_2 cr_1j1_3 cr_1j1_4 scr_1j1_5) g_2 b1T _ (b4p.drop.bring 1).drop h
 refine u4 fun j1 hx1 => ?_
 refine b9 (ld1 Tryd.isAgg139 (b7n.at1 (o := 0) (vs := [(Value.func (.func 89) #[] #[(Value.pointer (some ⟨g_7, 0, none⟩)), (Value.pointer (some ⟨a6H, 0, none⟩))])]) (nb rfl) rfl)) ?_
 refine d6 (cap := [(Value.pointer (some ⟨g_7, 0, none⟩)), (Value.pointer (some ⟨a6H, 0, none⟩))]) (fun args w => Tryd.call89 args w) ?_
 refine i7 (Fi := [bx g_7 93 [(Value.pointer (some ⟨g_2, 0, none⟩))], bx g_2 92 [(vi 0), (vi 0), (vi 0), (Value.bool false), (Value.bool false), (Value.slice (Sl.mk none 0 0).a (Sl.mk none 0 0).n (Sl.mk none 0 0).c)], [], bx a6H 139 [(Value.func (.func 89) #[] #[(Value.pointer (some ⟨g_7, 0, none⟩)), (Value.pointer (some ⟨a6H, 0, none⟩))])]]) (Fr := []) ((((b7n.nil.bring 1).bring 1).bring 3).bring 3) (h g_7 g_2 a6H (Sl.mk none 0 0) ([]) (RowL.nil (e := 9) a2X a2Y)) (fun e4g a6G d2y v7 a2r e4h d2V e0D => ?_) (fun _ _ _ _ _ q => q.elim)
 obtain ⟨b7z, t1, a1d, a2M, a6I, rfl, rfl, a6J, h⟩ := e0D
 refine a6 (E0 _) ?_
 refine p5 (fun c2A => ?_) (fun c2A => ?_)
 ·replace h := h.1 c2A
  exact hx1 _ _ (hj1 ((t1).fnodes) ((t1).fdepth) ((t1).fe) ((t1).fform) ((t1).fnamed) a1d a2M a6I a6G _ a6J ((((a2r.bring 2).bring 3).bring 3).bring 3) h)
 ·replace h := h.2 c2A
  refine b9 (ld1 Tryd.isAgg93 (a2r.at1 (o := 0) (vs := [(Value.pointer (some ⟨g_2, 0, none⟩))]) (nb rfl) rfl)) ?_
  refine a6 (A9 _) ?_
  refine a6 a6i ?_
  refine b9 (ld1 Tryd.isAgg4 ((a2r.bring 1).at1 (o := 3) (vs := [(Value.bool ((t1).fform))]) (nb rfl) rfl)) ?_
  refine p5 (fun Z4 => ?_) (fun Z4 => ?_)
  ·replace h := h.1 Z4
   refine b9 (ld1 Tryd.isAgg93 (a2r.at1 (o := 0) (vs := [(Value.pointer (some ⟨g_2, 0, none⟩))]) (nb rfl) rfl)) ?_
   refine a6 (A9 _) ?_
   refine a6 a2b ?_
   refine t6 (a2r.bring 1) Tryd.sizeOf34 (vs := [(vi 30)]) (cs' := [(vi ((t1).fnodes)), (vi ((t1).fdepth)), (vi 30), (Value.bool ((t1).fform)), (Value.bool ((t1).fnamed)), (vs a2M)]) rfl rfl (nb rfl) rfl rfl fun e4i e0E e4j => ?_
   exact hx1 _ _ (hj1 ((t1).fnodes) ((t1).fdepth) 30 ((t1).fform) ((t1).fnamed) a1d a2M a6I a6G _ a6J ((((e0E.bring 2).bring 3).bring 2).bring 3) h)
  ·replace h := h.2 Z4
   refine b9 (ld1 Tryd.isAgg93 (a2r.at1 (o := 0) (vs := [(Value.pointer (some ⟨g_2, 0, none⟩))]) (nb rfl) rfl)) ?_
   refine a6 (A9 _) ?_
   refine a6 a6j ?_
   refine b9 (ld1 Tryd.isAgg4 ((a2r.bring 1).at1 (o := 4) (vs := [(Value.bool ((t1).fnamed))]) (nb rfl) rfl)) ?_
   refine p5 (fun c2B => ?_) (fun c2B => ?_)
   ·replace h := h.1 c2B
    refine b9 (ld1 Tryd.isAgg93 (a2r.at1 (o := 0) (vs := [(Value.pointer (some ⟨g_2, 0, none⟩))]) (nb rfl) rfl)) ?_
    refine a6 (A9 _) ?_
    refine a6 a2b ?_
    refine t6 (a2r.bring 1) Tryd.sizeOf34 (vs := [(vi 31)]) (cs' := [(vi ((t1).fnodes)), (vi ((t1).fdepth)), (vi 31), (Value.bool ((t1).fform)), (Value.bool ((t1).fnamed)), (vs a2M)]) rfl rfl (nb rfl) rfl rfl fun K3 b1J d2K => ?_
    exact hx1 _ _ (hj1 ((t1).fnodes) ((t1).fdepth) 31 ((t1).fform) ((t1).fnamed) a1d a2M a6I a6G _ a6J ((((b1J.bring 2).bring 3).bring 2).bring 3) h)
   ·replace h := h.2 c2B
    exact hx1 _ _ (hj1 ((t1).fnodes) ((t1).fdepth) ((t1).fe) ((t1).fform) ((t1).fnamed) a1d a2M a6I a6G _ a6J ((((a2r.bring 2).bring 3).bring 3).bring 3) h)
theorem a6K (x0 : Sl) {H : Hp} {K : b7 → Hp → Prop} (h : S9 x0 H K) : Y9 x0 H K := by
 intro w I
 refine c7R ?_
 refine a5I x0 I (fun r0 gr0 H' w' I' hk => ⟨H', _, I', r0, gr0, rfl, rfl, hk⟩) h
def W7 (x0 : i6) (H : Hp) (K : b7 → Hp → Prop) : Prop :=
 y6 x0.L8 H (fun (a2m : Sl) (H_8 : Hp) =>
 j8 x0.L1 H_8 (fun (a2o : Sl) (a7H : Hp) =>
 ∀ (a2F : Sl) (a2p : Hp), Hle a7H a2p → SlH a2p 1 csl a2F [a2m, a2o] → a2F.n ≤ a2F.c →
 o6 a2F a2p (fun (a8o : Sl) (b1E : Hp) =>
 Y9 a8o b1E (fun (b2K : b7) (a9E : Hp) =>
 K b2K a9E))))
theorem a7L (x0 : i6) {w0 w : World} {ps0 : Nat → Prop} {H0 H : Hp} {K : b7 → Hp → Prop} {R : Value → World → Prop} {E : Pan} (I : Inv w0 ps0 H0 H [] w) (hR : ∀ (r0 : b7) (gr0 : Nat) (H' : Hp) (w' : World) (_ : Inv w0 ps0 H0 H' [bx gr0 92 (a0X r0)] w') (_ : K r0 H'), R (Value.pointer (some ⟨gr0, 0, none⟩)) w') (h : W7 x0 H K) : F66 (Value.agg (d9 x0).toArray) w R E := by
 unfold W7 at h
 unfold F66
 refine J2 I (cs := (d9 x0)) rfl fun g_2 w_3 I_4 k_5 => ?_
 refine a1z I_4 fun w_6 I_7 => ?_
 refine j6 a1Z ?_
 refine j6 a0R ?_
 refine G1 (ld1 Tryd.isAgg22 (I_7.at1 (o := 0) (vs := [(vs x0.L8)]) (nb rfl) rfl)) ?_
 refine G1 (ld1 Tryd.isAgg23 (I_7.at1 (o := 1) (vs := [(vs x0.L1)]) (nb rfl) rfl)) ?_
 refine d6 (cap := []) (fun args w => Tryd.call95 args w) ?_
 refine i7 (Fi := []) (Fr := [bx g_2 25 (d9 x0)]) I_7 (h) (fun d2s H_8 d2t w_9 a6v d2u a9j b4j => ?_) (fun _ _ _ _ _ q => q.elim)
 obtain ⟨a2m, rfl, rfl, h⟩ := b4j
 refine ⟨(a9j _ I_7.lt1 (Inv.a1Y (Fi := []) I_7)), ?_⟩
 refine d6 (cap := []) (fun args w => Tryd.call97 args w) ?_
 refine i7 (Fi := []) (Fr := [bx g_2 25 (d9 x0)]) a6v (h) (fun d2v a7H d2w t8 a4s d2x b1F b4k => ?_) (fun _ _ _ _ _ q => q.elim)
 obtain ⟨a2o, rfl, rfl, h⟩ := b4k
 refine a1A (e := 97) (c := csl) (xs := [a2m, a2o]) a4s (b3n _ _ _ _ _ _) rfl rfl b2E b2F (nb rfl) fun a2F d2y d9A c1u b4l d2z => ?_
 obtain ⟨a2p, c1v, b3R, b4m, c1w⟩ := Inv.freezeC b4l c1u (by decide)
 replace h := h a2F a2p b3R b4m c1w
 refine d6 (cap := []) (fun args w => Tryd.call94 args w) ?_
 refine i7 (Fi := []) (Fr := [bx g_2 25 (d9 x0)]) c1v (h) (fun d9B b1E d9C d2A a4p d9D d9E c1x => ?_) (fun _ _ _ _ _ q => q.elim)
 obtain ⟨a8o, rfl, rfl, h⟩ := c1x
 refine d6 (cap := []) (fun args w => Tryd.call57 args w) ?_
 refine i7 (Fi := []) (Fr := [bx g_2 25 (d9 x0)]) a4p (h) (fun e0F a9E e0G R0 a7M e0H c2C c2D => ?_) (fun _ _ _ _ _ q => q.elim)
 obtain ⟨b2K, d2W, rfl, rfl, h⟩ := c2D
 exact hR b2K d2W a9E _ (a7M.bring 1).drop h
theorem a8G (x0 : i6) {H : Hp} {K : b7 → Hp → Prop} (h : W7 x0 H K) : a1j x0 H K := by
 intro w I
 refine c7V ?_
 refine a7L x0 I (fun r0 gr0 H' w' I' hk => ⟨H', _, I', r0, gr0, rfl, rfl, hk⟩) h
def T0 (x0 : q7) (H : Hp) (K : a8 → Hp → Prop) : Prop :=
 K (a8.u1 (y9.mk x0)) H
theorem a5J (x0 : q7) {w0 w : World} {ps0 : Nat → Prop} {H0 H : Hp} {K : a8 → Hp → Prop} {R : Value → World → Prop} {E : Pan} (I : Inv w0 ps0 H0 H [] w) (hR : ∀ (r0 : a8) (H' : Hp) (w' : World) (_ : Inv w0 ps0 H0 H' [] w') (_ : K r0 H'), R (m3 r0) w') (h : T0 x0 H K) : b6Q (Value.agg (d4 x0).toArray) w R E := by
 unfold T0 at h
 unfold b6Q
 refine J2 I (cs := (d4 x0)) rfl fun g_2 w_3 I_4 k_5 => ?_
 refine b9 (ldA Tryd.isAgg30 Tryd.sizeOf30 rfl (I_4.at1 (o := 0) (vs := (d4 x0)) (nb rfl) rfl)) ?_
 refine a6 (b5t _ _ _ _ _ _) ?_
 refine a6 (a7c (y9.mk x0)) ?_
 exact hR (a8.u1 (y9.mk x0)) H _ I_4.drop h
theorem a6L (x0 : q7) {H : Hp} {K : a8 → Hp → Prop} (h : T0 x0 H K) : a2k x0 H K := by
 intro w I
 refine c5I ?_
 refine a5J x0 I (fun r0 H' w' I' hk => ⟨H', _, I', r0, rfl, rfl, hk⟩) h
def N5 (x0 : y9) (H : Hp) (K : Sl → Hp → Prop) : Prop :=
 j9 x0.f5.y8 H (fun (D4 : Sl) (H_6 : Hp) =>
 K D4 H_6)
theorem a3L (x0 : y9) {w0 w : World} {ps0 : Nat → Prop} {H0 H : Hp} {K : Sl → Hp → Prop} {R : Value → World → Prop} {E : Pan} (I : Inv w0 ps0 H0 H [] w) (hR : ∀ (r0 : Sl) (H' : Hp) (w' : World) (_ : Inv w0 ps0 H0 H' [] w') (_ : K r0 H'), R (vs r0) w') (h : N5 x0 H K) : b6O (Value.agg (d4 x0.f5).toArray) w R E := by
 unfold N5 at h
 unfold b6O
 refine J2 I (cs := (d4 x0.f5)) rfl fun g_2 w_3 I_4 k_5 => ?_
 refine a6 C2 ?_
 refine a6 a5Y ?_
 refine b9 (ld1 Tryd.isAgg28 (I_4.at1 (o := 3) (vs := [(vs x0.f5.y8)]) (nb rfl) rfl)) ?_
 refine d6 (cap := []) (fun args w => Tryd.call150 args w) ?_
 refine i7 (Fi := []) (Fr := [bx g_2 96 (d4 x0.f5)]) I_4 (h) (fun a9s H_6 a9t w_7 I_8 a9u k_9 a1K => ?_) (fun _ _ _ _ _ q => q.elim)
 obtain ⟨D4, rfl, rfl, h⟩ := a1K
 exact hR D4 H_6 _ I_8.drop h
theorem a4F (x0 : y9) {H : Hp} {K : Sl → Hp → Prop} (h : N5 x0 H K) : a0J x0 H K := by
 intro w I
 refine c5E ?_
 refine a3L x0 I (fun r0 H' w' I' hk => ⟨H', _, I', r0, rfl, rfl, hk⟩) h
end Go.Proofs.YthldnpmfelniiaaDoor
