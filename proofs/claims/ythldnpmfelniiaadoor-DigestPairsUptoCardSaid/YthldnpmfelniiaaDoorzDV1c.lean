/- Typed formulas of the program's functions, and the theorems that the contracts follow from them; printed by lift.py off the code. -/
import Derived.Test.YthldnpmfelniiaaDoorzDV1
namespace Go.Proofs.YthldnpmfelniiaaDoor
open Go.RowKit
set_option maxRecDepth 100000
set_option maxHeartbeats 2000000
def a1w (x0 : g8) (H : Hp) (K : b9 → Hp → Prop) : Prop :=
 K (b9.D6 (L2.mk x0)) H
theorem b1m (x0 : g8) {w0 w : World} {ps0 : Nat → Prop} {H0 H : Hp} {K : b9 → Hp → Prop} {R : Value → World → Prop} {E : Pan} (I : Inv w0 ps0 H0 H [] w) (hR : ∀ (r0 : b9) (H' : Hp) (w' : World) (_ : Inv w0 ps0 H0 H' [] w') (_ : K r0 H'), R (u2 r0) w') (h : a1w x0 H K) : F98 (Value.agg (b8 x0).toArray) w R E := by
 unfold a1w at h
 unfold F98
 refine D8 I (cs := (b8 x0)) rfl fun g_2 w_3 I_4 k_5 => ?_
 refine b7 (ldA Tryd.isAgg88 Tryd.sizeOf88 rfl (I_4.at1 (o := 0) (vs := (b8 x0)) (nb rfl) rfl)) ?_
 refine a8 (b9N _ _ _ _ _ _ _ _ _ _ _ _ _ _) ?_
 refine a8 (b7L (L2.mk x0)) ?_
 exact hR (b9.D6 (L2.mk x0)) H _ I_4.drop h
theorem b2u (x0 : g8) {H : Hp} {K : b9 → Hp → Prop} (h : a1w x0 H K) : a6j x0 H K := by
 intro w I
 refine e2S ?_
 refine b1m x0 I (fun r0 H' w' I' hk => ⟨H', _, I', r0, rfl, rfl, hk⟩) h
def w5 (Y1 : (List b9)) (H : Hp) (K : Sl → Hp → Prop) : Prop :=
 ∀ (F7 : Sl) (a0s : Hp), Hle H a0s → SlH a0s 1 m6 F7 Y1 → F7.n ≤ F7.c →
 K F7 a0s
def w6 (N2 : Sl) (a6o : Int) (s7 : (List b9)) (p6 : Int) (H : Hp) (n2 : ((List b9) × Int) → Hp → Prop) (K : Sl → Hp → Prop) : Prop :=
 (p6 < a6o →
 (0 : Int) ≤ p6 ∧ (p6 : Int) < N2.n ∧ ∃ x_1 : g8, EltH H N2 p6 6 (b8 x_1) ∧
 a6j x_1 H (fun (R4 : b9) (a2R : Hp) =>
 (s7.length + ([R4] : List b9).length) * 17 ≤ 140737488355328 ∧
 n2 ((s7 ++ [R4]), (IntKind.wrap .i64 (p6 + 1))) a2R)) ∧
 (¬ (p6 < a6o) →
 w5 s7 H K)
def z8 (x0 : Sl) (H : Hp) (K : Sl → Hp → Prop) : Prop :=
 TL (([], 0) : (List b9) × Int) H fun (s : (List b9) × Int) H n2 => w6 x0 (x0.n : Int) s.1 s.2 H n2 K
theorem a0o (x0 : Sl) {w0 w : World} {ps0 : Nat → Prop} {H0 H : Hp} {K : Sl → Hp → Prop} {R : Value → World → Prop} {E : Pan} (I : Inv w0 ps0 H0 H [] w) (hR : ∀ (r0 : Sl) (H' : Hp) (w' : World) (_ : Inv w0 ps0 H0 H' [] w') (_ : K r0 H'), R (vs r0) w') (h : z8 x0 H K) : F97 (vs x0) (Value.func (.func 98) #[] #[]) w R E := by
 unfold z8 at h
 unfold F97
 have hj1 : ∀ (Y1 : (List b9)) (F7 : Sl) (Fs5j1 : Frag) (H : Hp) (w : World) (_ : RowL 141 1 m6 F7 Y1 Fs5j1) (_ : Inv w0 ps0 H0 H [Fs5j1] w) (_ : w5 Y1 H K), c1d (vs F7) w R E := by
  intro Y1 F7 Fs5j1 H w b1W I h
  unfold c1d
  intro _
  unfold w5 at h
  obtain ⟨a0s, a1Z, b4d, b1X, a6W⟩ := Inv.freezeC I b1W (by decide)
  replace h := h F7 a0s b4d b1X a6W
  exact hR F7 a0s _ a1Z h
 refine t7 fun j1 hx1 => ?_
 refine a8 (M6 _ _ _) ?_
 obtain ⟨a5g, a1H, b5J, a2x⟩ := h
 refine y9 (J := fun n l w => ∃ (s : (List b9) × Int) (H : Hp) (Y2 : Sl) (Fs5l2 : Frag) , n = a1H s ∧ l = (match s with | (s7, p6) => [(vs Y2), (vi p6)]) ∧ (match s with | (s7, p6) => RowL 141 1 m6 Y2 s7 Fs5l2) ∧ (match s with | (s7, p6) => Inv w0 ps0 H0 H [Fs5l2] w) ∧ a5g s H) ⟨_, ([], 0), H, (Sl.mk none 0 0), [], rfl, rfl, (RowL.nil N0 R1), I.nil, b5J⟩ ?_
 rintro d1l τ_50 w next2 ⟨⟨s7, p6⟩, H, Y2, Fs5l2, rfl, a5h, a3i, I, b5K⟩ hn2
 dsimp only at a5h I a3i
 simp only [List.map_cons, List.map_nil, List.cons.injEq, and_true] at a5h
 obtain ⟨e5, e10⟩ := a5h
 simp only [e5, e10]
 obtain ⟨n2, hm2, h⟩ : ∃ n2 : ((List b9) × Int) → Hp → Prop, (∀ s' H', n2 s' H' → a5g s' H' ∧ a1H s' < a1H (s7, p6)) ∧ w6 x0 (x0.n : Int) s7 p6 H n2 K := ⟨_, fun _ _ h => h, a2x (s7, p6) H (fun s' H' => a5g s' H' ∧ a1H s' < a1H (s7, p6)) b5K (fun _ _ a b => ⟨a, b⟩)⟩
 unfold c8Z
 unfold w6 at h
 refine a8 (C4 _ _ _ _ _ _) ?_
 refine h9 (fun a3j => ?_) (fun a3j => ?_)
 ·replace h := h.1 a3j
  obtain ⟨h_4, h_5, x_1, h_7, h⟩ := h
  obtain ⟨g_2, o_3, h_6, h_7⟩ := h_7
  refine a8 (a2W h_6 _ _ _ _ h_4 h_5) ?_
  refine b7 (ldA (vs := (b8 x_1)) Tryd.isAgg88 Tryd.sizeOf88 rfl (I.atH h_7)) ?_
  refine C1 I Tryd.zeroValue88 (cs := [(vi 0), (Value.string ⟨#[]⟩), (Value.slice none 0 0), (Value.slice none 0 0), (Value.slice none 0 0), (Value.slice none 0 0)]) rfl fun g_9 k9 a1q b0x => ?_
  refine o8 a1q Tryd.sizeOf88 (vs := (b8 x_1)) (cs' := (b8 x_1)) rfl rfl (nb rfl) rfl rfl fun a2N a1Y b5D => ?_
  refine b7 (ldA Tryd.isAgg88 Tryd.sizeOf88 rfl (a1Y.at1 (o := 0) (vs := (b8 x_1)) (nb rfl) rfl)) ?_
  refine d7 (cap := []) (fun args w => Tryd.call98 args w) ?_
  refine i6 (Fi := []) (Fr := [bx g_9 88 (b8 x_1), Fs5l2]) a1Y (h) (fun c5L a2R c5M a3J a3k c5N c1L b1Y => ?_) (fun _ _ _ _ _ q => q.elim)
  obtain ⟨R4, rfl, rfl, h⟩ := b1Y
  refine a6N (e := 141) (c := m6) (xs := [R4]) a3k (b4G _) rfl rfl N0 R1 (nb rfl) fun b5L b8l u7 b1Z a6X c5O => ?_
  obtain ⟨b2a, h⟩ := h
  refine b3j (s := Y2) (xs := s7) (a6X.bring 2) a3i (b1Z.srcO ((a6X.bring 2).bring 1)) b2a fun b5M b5N v2 b2b a7N c5P => ?_
  refine a8 (s6 _ _ _ _ _ _) ?_
  exact hn2 _ _ _ (hm2 _ _ h).2 ⟨((s7 ++ [R4]), (IntKind.wrap .i64 (p6 + 1))), a2R, b5M, b5N, rfl, rfl, b2b, ((a7N.bring 1).drop.bring 1).drop, (hm2 _ _ h).1⟩
 ·replace h := h.2 a3j
  exact hx1 _ _ (hj1 s7 Y2 Fs5l2 H _ a3i I h)
theorem a0x (x0 : Sl) {H : Hp} {K : Sl → Hp → Prop} (h : z8 x0 H K) : q9 x0 H K := by
 intro w I
 refine e2Q ?_
 refine a0o x0 I (fun r0 H' w' I' hk => ⟨H', _, I', r0, rfl, rfl, hk⟩) h
def B0 (b4X : Bool) (_cr_1j4 : Int) (H : Hp) (K : Int → Hp → Prop) : Prop :=
 (b4X = true →
 K 3 H) ∧
 (b4X = false →
 K 6 H)
def M0 (b4Y : Bool) (cr_1j3 : Int) (H : Hp) (K : Int → Hp → Prop) : Prop :=
 (b4Y = true →
 K 6 H) ∧
 (b4Y = false →
 G8 48 57 cr_1j3 H (fun (E3 : Bool) (H_6 : Hp) =>
 (E3 = true →
 K 4 H_6) ∧
 (E3 = false →
 (cr_1j3 = 95 →
 B0 (decide (cr_1j3 = 95)) cr_1j3 H_6 K) ∧
 (¬ (cr_1j3 = 95) →
 G8 97 122 cr_1j3 H_6 (fun (R4 : Bool) (a2R : Hp) =>
 (R4 = true →
 B0 R4 cr_1j3 a2R K) ∧
 (R4 = false →
 G8 65 90 cr_1j3 a2R (fun (b7k : Bool) (c6t : Hp) =>
 (b7k = true →
 B0 b7k cr_1j3 c6t K) ∧
 (b7k = false →
 G8 192 591 cr_1j3 c6t (fun (b7l : Bool) (c6u : Hp) =>
 (b7l = true →
 B0 b7l cr_1j3 c6u K) ∧
 (b7l = false →
 G8 913 969 cr_1j3 c6u (fun (a3p : Bool) (a4x : Hp) =>
 (a3p = true →
 B0 a3p cr_1j3 a4x K) ∧
 (a3p = false →
 G8 1040 1103 cr_1j3 a4x (fun (c6v : Bool) (d1S : Hp) =>
 B0 c6v cr_1j3 d1S K)))))))))))))
def i8 (b6a : Int) (b4Z : Bool) (cr_1j2 : Int) (H : Hp) (K : Int → Hp → Prop) : Prop :=
 (b4Z = true →
 K 5 H) ∧
 (b4Z = false →
 (b6a = 215 →
 M0 (decide (b6a = 215)) cr_1j2 H K) ∧
 (¬ (b6a = 215) →
 (b6a = 247 →
 M0 (decide (b6a = 247)) cr_1j2 H K) ∧
 (¬ (b6a = 247) →
 M0 (decide (b6a = 930)) cr_1j2 H K)))
def M1 (r6 : Int) (b2v : Bool) (cr_1j1 : Int) (H : Hp) (K : Int → Hp → Prop) : Prop :=
 (b2v = true →
 K 1 H) ∧
 (b2v = false →
 (r6 = 10 →
 K 2 H) ∧
 (¬ (r6 = 10) →
 (r6 = 59 →
 i8 r6 (decide (r6 = 59)) cr_1j1 H K) ∧
 (¬ (r6 = 59) →
 (r6 = 44 →
 i8 r6 (decide (r6 = 44)) cr_1j1 H K) ∧
 (¬ (r6 = 44) →
 (r6 = 123 →
 i8 r6 (decide (r6 = 123)) cr_1j1 H K) ∧
 (¬ (r6 = 123) →
 (r6 = 125 →
 i8 r6 (decide (r6 = 125)) cr_1j1 H K) ∧
 (¬ (r6 = 125) →
 (r6 = 40 →
 i8 r6 (decide (r6 = 40)) cr_1j1 H K) ∧
 (¬ (r6 = 40) →
 (r6 = 41 →
 i8 r6 (decide (r6 = 41)) cr_1j1 H K) ∧
 (¬ (r6 = 41) →
 (r6 = 91 →
 i8 r6 (decide (r6 = 91)) cr_1j1 H K) ∧
 (¬ (r6 = 91) →
 (r6 = 93 →
 i8 r6 (decide (r6 = 93)) cr_1j1 H K) ∧
 (¬ (r6 = 93) →
 (r6 = 61 →
 i8 r6 (decide (r6 = 61)) cr_1j1 H K) ∧
 (¬ (r6 = 61) →
 (r6 = 33 →
 i8 r6 (decide (r6 = 33)) cr_1j1 H K) ∧
 (¬ (r6 = 33) →
 (r6 = 60 →
 i8 r6 (decide (r6 = 60)) cr_1j1 H K) ∧
 (¬ (r6 = 60) →
 (r6 = 62 →
 i8 r6 (decide (r6 = 62)) cr_1j1 H K) ∧
 (¬ (r6 = 62) →
 (r6 = 43 →
 i8 r6 (decide (r6 = 43)) cr_1j1 H K) ∧
 (¬ (r6 = 43) →
 (r6 = 45 →
 i8 r6 (decide (r6 = 45)) cr_1j1 H K) ∧
 (¬ (r6 = 45) →
 (r6 = 42 →
 i8 r6 (decide (r6 = 42)) cr_1j1 H K) ∧
 (¬ (r6 = 42) →
 (r6 = 47 →
 i8 r6 (decide (r6 = 47)) cr_1j1 H K) ∧
 (¬ (r6 = 47) →
 (r6 = 37 →
 i8 r6 (decide (r6 = 37)) cr_1j1 H K) ∧
 (¬ (r6 = 37) →
 (r6 = 38 →
 i8 r6 (decide (r6 = 38)) cr_1j1 H K) ∧
 (¬ (r6 = 38) →
 i8 r6 (decide (r6 = 124)) cr_1j1 H K))))))))))))))))))))
def a1N (x0 : Int) (H : Hp) (K : Int → Hp → Prop) : Prop :=
 (x0 = 32 →
 M1 x0 (decide (x0 = 32)) x0 H K) ∧
 (¬ (x0 = 32) →
 (x0 = 9 →
 M1 x0 (decide (x0 = 9)) x0 H K) ∧
 (¬ (x0 = 9) →
 M1 x0 (decide (x0 = 13)) x0 H K))
theorem b2w (x0 : Int) {w0 w : World} {ps0 : Nat → Prop} {H0 H : Hp} {K : Int → Hp → Prop} {R : Value → World → Prop} {E : Pan} (I : Inv w0 ps0 H0 H [] w) (hR : ∀ (r0 : Int) (H' : Hp) (w' : World) (_ : Inv w0 ps0 H0 H' [] w') (_ : K r0 H'), R (vi r0) w') (h : a1N x0 H K) : c5b (Value.int .i32 x0) w R E := by
 unfold a1N at h
 unfold c5b
 refine D8 I (cs := [(Value.int .i32 x0)]) rfl fun g_2 w_3 I_4 k_5 => ?_
 refine b7 (ld1 Tryd.isAgg21 (I_4.at1 (o := 0) (vs := [(Value.int .i32 x0)]) (nb rfl) rfl)) ?_
 have hj1 : ∀ (b2v : Bool) (H : Hp) (w : World) (_ : Inv w0 ps0 H0 H [bx g_2 21 [(Value.int .i32 x0)]] w) (_ : M1 x0 b2v x0 H K), b7W (Value.pointer (some ⟨g_2, 0, none⟩)) (Value.int .i32 x0) (Value.bool b2v) w R E := by
  intro b2v H w I h
  unfold b7W
  intro _
  unfold M1 at h
  refine m5 (fun d1T => ?_) (fun d1T => ?_)
  ·replace h := h.1 d1T
   exact hR 1 H _ I.drop h
  ·replace h := h.2 d1T
   refine a8 (f7 _ _ _ _ _ _) ?_
   refine h9 (fun d1U => ?_) (fun d1U => ?_)
   ·replace h := h.1 d1U
    exact hR 2 H _ I.drop h
   ·replace h := h.2 d1U
    have hj2 : ∀ (b4Z : Bool) (H : Hp) (w : World) (_ : Inv w0 ps0 H0 H [bx g_2 21 [(Value.int .i32 x0)]] w) (_ : i8 x0 b4Z x0 H K), b7V (Value.pointer (some ⟨g_2, 0, none⟩)) (Value.int .i32 x0) (Value.bool b4Z) w R E := by
     intro b4Z H w I h
     unfold b7V
     intro _
     unfold i8 at h
     refine m5 (fun d1V => ?_) (fun d1V => ?_)
     ·replace h := h.1 d1V
      exact hR 5 H _ I.drop h
     ·replace h := h.2 d1V
      have hj3 : ∀ (b4Y : Bool) (H : Hp) (w : World) (_ : Inv w0 ps0 H0 H [bx g_2 21 [(Value.int .i32 x0)]] w) (_ : M0 b4Y x0 H K), b7U (Value.pointer (some ⟨g_2, 0, none⟩)) (Value.bool b4Y) w R E := by
       intro b4Y H w I h
       unfold b7U
       intro _
       unfold M0 at h
       refine m5 (fun d1W => ?_) (fun d1W => ?_)
       ·replace h := h.1 d1W
        exact hR 6 H _ I.drop h
       ·replace h := h.2 d1W
        refine a8 (a3D _ _ _) ?_
        refine d7 (cap := [(Value.pointer (some ⟨g_2, 0, none⟩))]) (fun args w => Tryd.call131 args w) ?_
        refine i6 (Fi := [bx g_2 21 [(Value.int .i32 x0)]]) (Fr := []) I (h g_2) (fun a7K H_6 a7L w_7 I_8 a7M k_9 a1f => ?_) (fun _ _ _ _ _ q => q.elim)
        obtain ⟨E3, rfl, rfl, h⟩ := a1f
        refine m5 (fun d1X => ?_) (fun d1X => ?_)
        ·replace h := h.1 d1X
         exact hR 4 H_6 _ I_8.drop h
        ·replace h := h.2 d1X
         have hj4 : ∀ (b4X : Bool) (H : Hp) (w : World) (_ : Inv w0 ps0 H0 H [bx g_2 21 [(Value.int .i32 x0)]] w) (_ : B0 b4X x0 H K), b7T (Value.bool b4X) w R E := by
          intro b4X H w I h
          unfold b7T
          intro _
          unfold B0 at h
          refine m5 (fun a3h => ?_) (fun a3h => ?_)
          ·replace h := h.1 a3h
           exact hR 3 H _ I.drop h
          ·replace h := h.2 a3h
           exact hR 6 H _ I.drop h
         refine t7 fun j4 hx4 => ?_
         refine b7 (ld1 Tryd.isAgg21 (I_8.at1 (o := 0) (vs := [(Value.int .i32 x0)]) (nb rfl) rfl)) ?_
         refine a8 (f7 _ _ _ _ _ _) ?_
         refine h9 (fun b5U => ?_) (fun b5U => ?_)
         ·replace h := h.1 b5U
          exact hx4 _ _ (hj4 (decide (x0 = 95)) H_6 _ I_8 h)
         ·replace h := h.2 b5U
          refine d7 (cap := [(Value.pointer (some ⟨g_2, 0, none⟩))]) (fun args w => Tryd.call131 args w) ?_
          refine i6 (Fi := [bx g_2 21 [(Value.int .i32 x0)]]) (Fr := []) I_8 (h g_2) (fun c5L a2R c5M a3J a3k c5N c1L b1Y => ?_) (fun _ _ _ _ _ q => q.elim)
          obtain ⟨R4, rfl, rfl, h⟩ := b1Y
          refine m5 (fun b6b => ?_) (fun b6b => ?_)
          ·replace h := h.1 b6b
           exact hx4 _ _ (hj4 R4 a2R _ a3k h)
          ·replace h := h.2 b6b
           refine d7 (cap := [(Value.pointer (some ⟨g_2, 0, none⟩))]) (fun args w => Tryd.call131 args w) ?_
           refine i6 (Fi := [bx g_2 21 [(Value.int .i32 x0)]]) (Fr := []) a3k (h g_2) (fun f8n c6t f8o u4 e6j f8p f8q f3T => ?_) (fun _ _ _ _ _ q => q.elim)
           obtain ⟨b7k, rfl, rfl, h⟩ := f3T
           refine m5 (fun b6c => ?_) (fun b6c => ?_)
           ·replace h := h.1 b6c
            exact hx4 _ _ (hj4 b7k c6t _ e6j h)
           ·replace h := h.2 b6c
            refine d7 (cap := [(Value.pointer (some ⟨g_2, 0, none⟩))]) (fun args w => Tryd.call131 args w) ?_
            refine i6 (Fi := [bx g_2 21 [(Value.int .i32 x0)]]) (Fr := []) e6j (h g_2) (fun f8r c6u f8s d9K a7N b4d c5P f3U => ?_) (fun _ _ _ _ _ q => q.elim)
            obtain ⟨b7l, rfl, rfl, h⟩ := f3U
            refine m5 (fun b6d => ?_) (fun b6d => ?_)
            ·replace h := h.1 b6d
             exact hx4 _ _ (hj4 b7l c6u _ a7N h)
            ·replace h := h.2 b6d
             refine d7 (cap := [(Value.pointer (some ⟨g_2, 0, none⟩))]) (fun args w => Tryd.call131 args w) ?_
             refine i6 (Fi := [bx g_2 21 [(Value.int .i32 x0)]]) (Fr := []) a7N (h g_2) (fun f3t a4x f3u I0 b2i f3v e6a d1x => ?_) (fun _ _ _ _ _ q => q.elim)
             obtain ⟨a3p, rfl, rfl, h⟩ := d1x
             refine m5 (fun d1Y => ?_) (fun d1Y => ?_)
             ·replace h := h.1 d1Y
              exact hx4 _ _ (hj4 a3p a4x _ b2i h)
             ·replace h := h.2 d1Y
              refine d7 (cap := [(Value.pointer (some ⟨g_2, 0, none⟩))]) (fun args w => Tryd.call131 args w) ?_
              refine i6 (Fi := [bx g_2 21 [(Value.int .i32 x0)]]) (Fr := []) b2i (h g_2) (fun f8t d1S f8u d0N f3V f8v f8w f3W => ?_) (fun _ _ _ _ _ q => q.elim)
              obtain ⟨c6v, rfl, rfl, h⟩ := f3W
              exact hx4 _ _ (hj4 c6v d1S _ f3V h)
      refine t7 fun j3 hx3 => ?_
      refine a8 (f7 _ _ _ _ _ _) ?_
      refine h9 (fun b5T => ?_) (fun b5T => ?_)
      ·replace h := h.1 b5T
       exact hx3 _ _ (hj3 (decide (x0 = 215)) H _ I h)
      ·replace h := h.2 b5T
       refine a8 (f7 _ _ _ _ _ _) ?_
       refine h9 (fun b6e => ?_) (fun b6e => ?_)
       ·replace h := h.1 b6e
        exact hx3 _ _ (hj3 (decide (x0 = 247)) H _ I h)
       ·replace h := h.2 b6e
        refine a8 (f7 _ _ _ _ _ _) ?_
        exact hx3 _ _ (hj3 (decide (x0 = 930)) H _ I h)
    refine t7 fun j2 hx2 => ?_
    refine a8 (f7 _ _ _ _ _ _) ?_
    refine h9 (fun d1Z => ?_) (fun d1Z => ?_)
    ·replace h := h.1 d1Z
     exact hx2 _ _ (hj2 (decide (x0 = 59)) H _ I h)
    ·replace h := h.2 d1Z
     refine a8 (f7 _ _ _ _ _ _) ?_
     refine h9 (fun b6f => ?_) (fun b6f => ?_)
     ·replace h := h.1 b6f
      exact hx2 _ _ (hj2 (decide (x0 = 44)) H _ I h)
     ·replace h := h.2 b6f
      refine a8 (f7 _ _ _ _ _ _) ?_
      refine h9 (fun b6g => ?_) (fun b6g => ?_)
      ·replace h := h.1 b6g
       exact hx2 _ _ (hj2 (decide (x0 = 123)) H _ I h)
      ·replace h := h.2 b6g
       refine a8 (f7 _ _ _ _ _ _) ?_
       refine h9 (fun d2a => ?_) (fun d2a => ?_)
       ·replace h := h.1 d2a
        exact hx2 _ _ (hj2 (decide (x0 = 125)) H _ I h)
       ·replace h := h.2 d2a
        refine a8 (f7 _ _ _ _ _ _) ?_
        refine h9 (fun d2b => ?_) (fun d2b => ?_)
        ·replace h := h.1 d2b
         exact hx2 _ _ (hj2 (decide (x0 = 40)) H _ I h)
        ·replace h := h.2 d2b
         refine a8 (f7 _ _ _ _ _ _) ?_
         refine h9 (fun d2c => ?_) (fun d2c => ?_)
         ·replace h := h.1 d2c
          exact hx2 _ _ (hj2 (decide (x0 = 41)) H _ I h)
         ·replace h := h.2 d2c
          refine a8 (f7 _ _ _ _ _ _) ?_
          refine h9 (fun d2d => ?_) (fun d2d => ?_)
          ·replace h := h.1 d2d
           exact hx2 _ _ (hj2 (decide (x0 = 91)) H _ I h)
          ·replace h := h.2 d2d
           refine a8 (f7 _ _ _ _ _ _) ?_
           refine h9 (fun a9n => ?_) (fun a9n => ?_)
           ·replace h := h.1 a9n
            exact hx2 _ _ (hj2 (decide (x0 = 93)) H _ I h)
           ·replace h := h.2 a9n
            refine a8 (f7 _ _ _ _ _ _) ?_
            refine h9 (fun d2e => ?_) (fun d2e => ?_)
            ·replace h := h.1 d2e
             exact hx2 _ _ (hj2 (decide (x0 = 61)) H _ I h)
            ·replace h := h.2 d2e
             refine a8 (f7 _ _ _ _ _ _) ?_
             refine h9 (fun d2f => ?_) (fun d2f => ?_)
             ·replace h := h.1 d2f
              exact hx2 _ _ (hj2 (decide (x0 = 33)) H _ I h)
             ·replace h := h.2 d2f
              refine a8 (f7 _ _ _ _ _ _) ?_
              refine h9 (fun d2g => ?_) (fun d2g => ?_)
              ·replace h := h.1 d2g
               exact hx2 _ _ (hj2 (decide (x0 = 60)) H _ I h)
              ·replace h := h.2 d2g
               refine a8 (f7 _ _ _ _ _ _) ?_
               refine h9 (fun d2h => ?_) (fun d2h => ?_)
               ·replace h := h.1 d2h
                exact hx2 _ _ (hj2 (decide (x0 = 62)) H _ I h)
               ·replace h := h.2 d2h
                refine a8 (f7 _ _ _ _ _ _) ?_
                refine h9 (fun b5I => ?_) (fun b5I => ?_)
                ·replace h := h.1 b5I
                 exact hx2 _ _ (hj2 (decide (x0 = 43)) H _ I h)
                ·replace h := h.2 b5I
                 refine a8 (f7 _ _ _ _ _ _) ?_
                 refine h9 (fun b5Q => ?_) (fun b5Q => ?_)
                 ·replace h := h.1 b5Q
                  exact hx2 _ _ (hj2 (decide (x0 = 45)) H _ I h)
                 ·replace h := h.2 b5Q
                  refine a8 (f7 _ _ _ _ _ _) ?_
                  refine h9 (fun b5R => ?_) (fun b5R => ?_)
                  ·replace h := h.1 b5R
                   exact hx2 _ _ (hj2 (decide (x0 = 42)) H _ I h)
                  ·replace h := h.2 b5R
                   refine a8 (f7 _ _ _ _ _ _) ?_
                   refine h9 (fun d2i => ?_) (fun d2i => ?_)
                   ·replace h := h.1 d2i
                    exact hx2 _ _ (hj2 (decide (x0 = 47)) H _ I h)
                   ·replace h := h.2 d2i
                    refine a8 (f7 _ _ _ _ _ _) ?_
                    refine h9 (fun a3r => ?_) (fun a3r => ?_)
                    ·replace h := h.1 a3r
                     exact hx2 _ _ (hj2 (decide (x0 = 37)) H _ I h)
                    ·replace h := h.2 a3r
                     refine a8 (f7 _ _ _ _ _ _) ?_
                     refine h9 (fun b5S => ?_) (fun b5S => ?_)
                     ·replace h := h.1 b5S
                      exact hx2 _ _ (hj2 (decide (x0 = 38)) H _ I h)
                     ·replace h := h.2 b5S
                      refine a8 (f7 _ _ _ _ _ _) ?_
                      exact hx2 _ _ (hj2 (decide (x0 = 124)) H _ I h)
 refine t7 fun j1 hx1 => ?_
 refine a8 (f7 _ _ _ _ _ _) ?_
 refine h9 (fun b6h => ?_) (fun b6h => ?_)
 ·replace h := h.1 b6h
  exact hx1 _ _ (hj1 (decide (x0 = 32)) H _ I_4 h)
 ·replace h := h.2 b6h
  refine a8 (f7 _ _ _ _ _ _) ?_
  refine h9 (fun d2j => ?_) (fun d2j => ?_)
  ·replace h := h.1 d2j
   exact hx1 _ _ (hj1 (decide (x0 = 9)) H _ I_4 h)
  ·replace h := h.2 d2j
   refine a8 (f7 _ _ _ _ _ _) ?_
   exact hx1 _ _ (hj1 (decide (x0 = 13)) H _ I_4 h)
theorem b2W (x0 : Int) {H : Hp} {K : Int → Hp → Prop} (h : a1N x0 H K) : a1L x0 H K := by
 intro w I
 refine d5M ?_
 refine b2w x0 I (fun r0 H' w' I' hk => ⟨H', _, I', r0, rfl, rfl, hk⟩) h
def M2 (b0D : Int) (H : Hp) (K : Int → Hp → Prop) : Prop :=
 K b0D H
def M3 (jr_1l2 : ByteArray) (a6w : Int) (ir_1l2 : Nat) (H : Hp) (n2 : (Int × Nat) → Hp → Prop) (K : Int → Hp → Prop) : Prop :=
 (ir_1l2 < jr_1l2.size →
 n2 ((IntKind.wrap .i64 (a6w + 1)), (ir_1l2 + (Utf8.decode jr_1l2 ir_1l2).2)) H) ∧
 (¬ (ir_1l2 < jr_1l2.size) →
 M2 a6w H K)
def P5 (x0 : ByteArray) (H : Hp) (K : Int → Hp → Prop) : Prop :=
 TL ((0, 0) : Int × Nat) H fun (s : Int × Nat) H n2 => M3 x0 s.1 s.2 H n2 K
theorem a4G (x0 : ByteArray) {w0 w : World} {ps0 : Nat → Prop} {H0 H : Hp} {K : Int → Hp → Prop} {R : Value → World → Prop} {E : Pan} (I : Inv w0 ps0 H0 H [] w) (hR : ∀ (r0 : Int) (H' : Hp) (w' : World) (_ : Inv w0 ps0 H0 H' [] w') (_ : K r0 H'), R (vi r0) w') (h : P5 x0 H K) : c5d (Value.string x0) w R E := by
 unfold P5 at h
 unfold c5d
 have hj1 : ∀ (b0D : Int) (H : Hp) (w : World) (_ : Inv w0 ps0 H0 H [] w) (_ : M2 b0D H K), b7Y (vi b0D) w R E := by
  intro b0D H w I h
  unfold b7Y
  intro _
  unfold M2 at h
  exact hR b0D H _ I h
 refine t7 fun j1 hx1 => ?_
 refine c3M Tryd.underlying9 x0 I fun g_2 w_3 I_4 k_5 => ?_
 obtain ⟨d2k, c2k, f3X, f3Y⟩ := h
 refine y9 (J := fun n l w => ∃ (s : Int × Nat) (H : Hp) , n = c2k s ∧ l = (match s with | (a6w, ir_1l2) => [(vi a6w)]) ∧ (match s with | (a6w, ir_1l2) => Inv w0 ps0 H0 H [itf g_2 x0 ir_1l2] w) ∧ d2k s H) ⟨_, (0, 0), H, rfl, rfl, I_4, f3X⟩ ?_
 rintro f8x τ_27 w next2 ⟨⟨a6w, ir_1l2⟩, H, rfl, d2l, I, f3Z⟩ hn2
 dsimp only at d2l I
 simp only [List.map_cons, List.map_nil, List.cons.injEq, and_true] at d2l
 have e2 := d2l
 simp only [e2]
 obtain ⟨n2, hm2, h⟩ : ∃ n2 : (Int × Nat) → Hp → Prop, (∀ s' H', n2 s' H' → d2k s' H' ∧ c2k s' < c2k (a6w, ir_1l2)) ∧ M3 x0 a6w ir_1l2 H n2 K := ⟨_, fun _ _ h => h, f3Y (a6w, ir_1l2) H (fun s' H' => d2k s' H' ∧ c2k s' < c2k (a6w, ir_1l2)) f3Z (fun _ _ a b => ⟨a, b⟩)⟩
 unfold c3Y
 unfold M3 at h
 refine c8a I (fun b5Z p9 b2d c1N => ?_) (fun b5Z => ?_)
 ·replace h := h.1 b5Z
  refine a8 (r8 _ _ _ rfl) ?_
  refine m5 (fun e => ?_) (fun e => by cases e)
  refine a8 (s6 _ _ _ _ _ _) ?_
  exact hn2 _ _ _ (hm2 _ _ h).2 ⟨((IntKind.wrap .i64 (a6w + 1)), (ir_1l2 + (Utf8.decode x0 ir_1l2).2)), H, rfl, rfl, b2d, (hm2 _ _ h).1⟩
 ·replace h := h.2 b5Z
  refine a8 (r8 _ _ _ rfl) ?_
  refine m5 (fun e => by cases e) (fun e => ?_)
  exact hx1 _ _ (hj1 a6w H _ I.drop h)
theorem a5n (x0 : ByteArray) {H : Hp} {K : Int → Hp → Prop} (h : P5 x0 H K) : W6 x0 H K := by
 intro w I
 refine d5Q ?_
 refine a4G x0 I (fun r0 H' w' I' hk => ⟨H', _, I', r0, rfl, rfl, hk⟩) h
def a3s (H : Hp) (K : Bool → Hp → Prop) : Prop :=
 K true H
def L8 (jr_28l2 : ByteArray) (ir_28l2 : Nat) (H : Hp) (n2 : Nat → Hp → Prop) (K : Bool → Hp → Prop) : Prop :=
 (ir_28l2 < jr_28l2.size →
 a3K ((Utf8.decode jr_28l2 ir_28l2).1 : Int) H (fun (b2x : Bool) (c2l : Hp) =>
 TG ((!(!b2x) && (decide (((ir_28l2 : Nat) : Int) = 0))) = true) (a1L ((Utf8.decode jr_28l2 ir_28l2).1 : Int) c2l) 0 c2l (fun (a8i : Int) (a7Q : Hp) =>
 (((!b2x) || ((decide (((ir_28l2 : Nat) : Int) = 0)) && (!decide (a8i = 3)))) = true →
 K false a7Q) ∧
 (((!b2x) || ((decide (((ir_28l2 : Nat) : Int) = 0)) && (!decide (a8i = 3)))) = false →
 n2 (ir_28l2 + (Utf8.decode jr_28l2 ir_28l2).2) a7Q)))) ∧
 (¬ (ir_28l2 < jr_28l2.size) →
 a3s H K)
def a2E (x0 : ByteArray) (H : Hp) (K : Bool → Hp → Prop) : Prop :=
 TG ((decide (x0 = ⟨#[]⟩)) = false) (a3B x0 H) false H (fun (T4 : Bool) (H_1 : Hp) =>
 TG (((decide (x0 = ⟨#[]⟩)) || (!T4)) = false) (a2z x0 H_1) false H_1 (fun (F8 : Bool) (a5o : Hp) =>
 TG ((((decide (x0 = ⟨#[]⟩)) || (!T4)) || F8) = false) (a1i x0 a5o) false a5o (fun (a3t : Bool) (a3N : Hp) =>
 (((((decide (x0 = ⟨#[]⟩)) || (!T4)) || F8) || a3t) = true →
 K false a3N) ∧
 (((((decide (x0 = ⟨#[]⟩)) || (!T4)) || F8) || a3t) = false →
 TL (0 : Nat) a3N fun (s : Nat) H n2 => L8 x0 s H n2 K))))
theorem b4j (x0 : ByteArray) {w0 w : World} {ps0 : Nat → Prop} {H0 H : Hp} {K : Bool → Hp → Prop} {R : Value → World → Prop} {E : Pan} (I : Inv w0 ps0 H0 H [] w) (hR : ∀ (r0 : Bool) (H' : Hp) (w' : World) (_ : Inv w0 ps0 H0 H' [] w') (_ : K r0 H'), R (Value.bool r0) w') (h : a2E x0 H K) : c4W (Value.string x0) w R E := by
 unfold a2E at h
 unfold c4W
 refine a8 (T0 _ _ _ _ _) ?_
 try simp only [J1]
 refine R3 (D := fun v_5 w_2 => ∃ (T4 : Bool) (H_1 : Hp) , v_5 = (gv (decide (x0 = ⟨#[]⟩)) false (Value.bool T4)) ∧ (Inv w0 ps0 H0 H_1 [] w_2) ∧ (∀ i, i < w.heap.size → ¬ inF [] i → w_2.heap[i]? = w.heap[i]?) ∧ Hle H H_1 ∧ (TG (((decide (x0 = ⟨#[]⟩)) || (!T4)) = false) (a2z x0 H_1) false H_1 (fun (F8 : Bool) (a5o : Hp) =>
 TG ((((decide (x0 = ⟨#[]⟩)) || (!T4)) || F8) = false) (a1i x0 a5o) false a5o (fun (a3t : Bool) (a3N : Hp) =>
 (((((decide (x0 = ⟨#[]⟩)) || (!T4)) || F8) || a3t) = true →
 K false a3N) ∧
 (((((decide (x0 = ⟨#[]⟩)) || (!T4)) || F8) || a3t) = false →
 TL (0 : Nat) a3N fun (s : Nat) H n2 => L8 x0 s H n2 K))))) (fun b0b => ?_) (fun b0b => ?_) ?_
 ·replace h := h.1 b0b
  have a7 := b0b
  try simp only [b3 a7]
  refine d7 (cap := []) (fun args w => Tryd.call122 args w) ?_
  refine i6 (Fi := []) (Fr := []) I (h) (fun v_5 H_1 F_6 w_2 I_3 l_8 k_4 q_7 => ?_) (fun _ _ _ _ _ q => q.elim)
  obtain ⟨T4, rfl, rfl, h⟩ := q_7
  exact ⟨T4, H_1, by first | rfl | rw [b3 b0b], I_3, k_4, l_8, h⟩
 ·exact ⟨false, H, by first | rfl | rw [a0X b0b], I, fun _ _ _ => rfl, Hle.refl _, h.2 b0b⟩
 ·clear h
  rintro v_5 w_2 ⟨T4, H_1, rfl, I_3, k_4, l_8, h⟩
  refine a8 (Pu.g fun hb => by have a7 := hb; first | exact (p7 _) | (simp only [b3 a7]; exact (p7 _)) | (simp only [b5 a7, b3 a7, b3 hb, i4 a7, d6]; exact (p7 _))) ?_
  refine a8 (U3 _ _) ?_
  try simp only [J1]
  refine R3 (D := fun d2m a1m => ∃ (F8 : Bool) (a5o : Hp) , d2m = (gv ((decide (x0 = ⟨#[]⟩)) || (!T4)) false (Value.bool F8)) ∧ (Inv w0 ps0 H0 a5o [] a1m) ∧ (∀ i, i < w_2.heap.size → ¬ inF [] i → a1m.heap[i]? = w_2.heap[i]?) ∧ Hle H_1 a5o ∧ (TG ((((decide (x0 = ⟨#[]⟩)) || (!T4)) || F8) = false) (a1i x0 a5o) false a5o (fun (a3t : Bool) (a3N : Hp) =>
 (((((decide (x0 = ⟨#[]⟩)) || (!T4)) || F8) || a3t) = true →
 K false a3N) ∧
 (((((decide (x0 = ⟨#[]⟩)) || (!T4)) || F8) || a3t) = false →
 TL (0 : Nat) a3N fun (s : Nat) H n2 => L8 x0 s H n2 K)))) (fun b8t => ?_) (fun b8t => ?_) ?_
  ·replace h := h.1 b8t
   have a7 := b8t
   try simp only [b3 a7]
   refine d7 (cap := []) (fun args w => Tryd.call123 args w) ?_
   refine i6 (Fi := []) (Fr := []) I_3 (h) (fun d2m a5o f8y a1m C3 c1X b8k f4a => ?_) (fun _ _ _ _ _ q => q.elim)
   obtain ⟨F8, rfl, rfl, h⟩ := f4a
   exact ⟨F8, a5o, by first | rfl | rw [b3 b8t], C3, b8k, c1X, h⟩
  ·exact ⟨false, H_1, by first | rfl | rw [a0X b8t], I_3, fun _ _ _ => rfl, Hle.refl _, h.2 b8t⟩
  ·clear h
   rintro d2m a1m ⟨F8, a5o, rfl, C3, b8k, c1X, h⟩
   refine a8 (U3 _ _) ?_
   try simp only [J1]
   refine R3 (D := fun d2n o9 => ∃ (a3t : Bool) (a3N : Hp) , d2n = (gv (((decide (x0 = ⟨#[]⟩)) || (!T4)) || F8) false (Value.bool a3t)) ∧ (Inv w0 ps0 H0 a3N [] o9) ∧ (∀ i, i < a1m.heap.size → ¬ inF [] i → o9.heap[i]? = a1m.heap[i]?) ∧ Hle a5o a3N ∧ ((((((decide (x0 = ⟨#[]⟩)) || (!T4)) || F8) || a3t) = true →
 K false a3N) ∧
 (((((decide (x0 = ⟨#[]⟩)) || (!T4)) || F8) || a3t) = false →
 TL (0 : Nat) a3N fun (s : Nat) H n2 => L8 x0 s H n2 K))) (fun b8u => ?_) (fun b8u => ?_) ?_
   ·replace h := h.1 b8u
    have a7 := b8u
    try simp only [b3 a7]
    refine d7 (cap := []) (fun args w => Tryd.call124 args w) ?_
    refine i6 (Fi := []) (Fr := []) C3 (h) (fun d2n a3N f8z o9 b8v e6k d2o f4b => ?_) (fun _ _ _ _ _ q => q.elim)
    obtain ⟨a3t, rfl, rfl, h⟩ := f4b
    exact ⟨a3t, a3N, by first | rfl | rw [b3 b8u], b8v, d2o, e6k, h⟩
   ·exact ⟨false, a5o, by first | rfl | rw [a0X b8u], C3, fun _ _ _ => rfl, Hle.refl _, h.2 b8u⟩
   ·clear h
    rintro d2n o9 ⟨a3t, a3N, rfl, b8v, d2o, e6k, h⟩
    refine a8 (U3 _ _) ?_
    refine m5 (fun d2p => ?_) (fun d2p => ?_)
    ·replace h := h.1 d2p
     exact hR false a3N _ b8v h
    ·replace h := h.2 d2p
     have hj1 : ∀ (H : Hp) (w : World) (_ : Inv w0 ps0 H0 H [] w) (_ : a3s H K), b7P w R E := by
      intro H w I h
      unfold b7P
      intro _
      unfold a3s at h
      exact hR true H _ I h
     refine t7 fun j1 hx1 => ?_
     refine c3M Tryd.underlying9 x0 b8v fun X9 o5 L9 a4g => ?_
     obtain ⟨d2q, c2m, f4c, f4d⟩ := h
     refine y9 (J := fun n l w => ∃ (s : Nat) (H : Hp) , n = c2m s ∧ l = [] ∧ Inv w0 ps0 H0 H [itf X9 x0 s] w ∧ d2q s H) ⟨_, 0, a3N, rfl, rfl, L9, f4c⟩ ?_
     rintro f8A τ_94 w next2 ⟨ir_28l2, H, rfl, f4e, I, f4f⟩ hn2
     clear f4e
     obtain ⟨n2, hm2, h⟩ : ∃ n2 : Nat → Hp → Prop, (∀ s' H', n2 s' H' → d2q s' H' ∧ c2m s' < c2m ir_28l2) ∧ L8 x0 ir_28l2 H n2 K := ⟨_, fun _ _ h => h, f4d ir_28l2 H (fun s' H' => d2q s' H' ∧ c2m s' < c2m ir_28l2) f4f (fun _ _ a b => ⟨a, b⟩)⟩
     unfold c3V
     unfold L8 at h
     refine c8a I (fun b6e b0s f4g f8B => ?_) (fun b6e => ?_)
     ·replace h := h.1 b6e
      refine a8 (r8 _ _ _ rfl) ?_
      refine m5 (fun e => ?_) (fun e => by cases e)
      refine a8 (r8 _ _ _ rfl) ?_
      refine a8 (r8 _ _ _ rfl) ?_
      refine d7 (cap := []) (fun args w => Tryd.call125 args w) ?_
      refine i6 (Fi := []) (Fr := [itf X9 x0 (ir_28l2 + (Utf8.decode x0 ir_28l2).2)]) f4g (h) (fun d1u c2l f8C W5 e6l f8D f8E f4h => ?_) (fun _ _ _ _ _ q => q.elim)
      obtain ⟨b2x, rfl, rfl, h⟩ := f4h
      refine a8 (p7 _) ?_
      try simp only [J1]
      refine a8 (Pu.g fun hb => by have a7 := hb; first | exact (f7 _ _ _ _ _ _) | (simp only [b3 a7]; exact (f7 _ _ _ _ _ _)) | (simp only [b5 a7, b3 a7, b3 hb, i4 a7, d6]; exact (f7 _ _ _ _ _ _))) ?_
      try simp only [a9Q, a8y]
      try simp only [J1, a9Q, b0R, b0T, a8y, b0W, b0S, b0U, b0V, b0X]
      refine e9b (a8n _ _ _) ?_
      refine R3 (D := fun d2r b3J => ∃ (a8i : Int) (a7Q : Hp) , d2r = (gv (!(!b2x) && (decide (((ir_28l2 : Nat) : Int) = 0))) true (vi a8i)) ∧ (Inv w0 ps0 H0 a7Q [itf X9 x0 (ir_28l2 + (Utf8.decode x0 ir_28l2).2)] b3J) ∧ (∀ i, i < W5.heap.size → ¬ inF [] i → b3J.heap[i]? = W5.heap[i]?) ∧ Hle c2l a7Q ∧ ((((!b2x) || ((decide (((ir_28l2 : Nat) : Int) = 0)) && (!decide (a8i = 3)))) = true →
 K false a7Q) ∧
 (((!b2x) || ((decide (((ir_28l2 : Nat) : Int) = 0)) && (!decide (a8i = 3)))) = false →
 n2 (ir_28l2 + (Utf8.decode x0 ir_28l2).2) a7Q))) (fun b6i => ?_) (fun b6i => ?_) ?_
      ·replace h := h.1 b6i
       obtain ⟨a7, a0v⟩ := b4E b6i
       try simp only [b3 b6i]
       refine d7 (cap := []) (fun args w => Tryd.call126 args w) ?_
       refine i6 (Fi := []) (Fr := [itf X9 x0 (ir_28l2 + (Utf8.decode x0 ir_28l2).2)]) e6l (h) (fun d2r a7Q f8F b3J c6w e6m e6n f4i => ?_) (fun _ _ _ _ _ q => q.elim)
       obtain ⟨a8i, rfl, rfl, h⟩ := f4i
       exact ⟨a8i, a7Q, by first | rfl | rw [b3 b6i], c6w, e6n, e6m, h⟩
      ·exact ⟨0, c2l, by first | rfl | rw [a0X b6i], e6l, fun _ _ _ => rfl, Hle.refl _, h.2 b6i⟩
      ·clear h
       rintro d2r b3J ⟨a8i, a7Q, rfl, c6w, e6n, e6m, h⟩
       refine a8 (Pu.e (a8n _ _ _) (Pu.g fun hb => by obtain ⟨a7, a0v⟩ := b4E hb; first | exact (t1 _ _ _ _ _ _) | (simp only [b3 hb]; exact (t1 _ _ _ _ _ _)) | (simp only [b5 a7, b3 a7, b5 a0v, b3 a0v, b3 hb, q8 hb]; exact (t1 _ _ _ _ _ _)) | (simp only [b5 a7, b3 a7, b5 a0v, b3 a0v, b3 hb, d9 hb, d6]; exact (t1 _ _ _ _ _ _)))) ?_
       refine a8 (Pu.g fun hb => by have a7 := hb; first | exact (u5 _ _) | (simp only [b3 a7, J2 a7]; exact (u5 _ _)) | (simp only [b5 a7, b3 a7, b3 hb, i4 a7, d6]; exact (u5 _ _))) ?_
       refine a8 (U3 _ _) ?_
       refine m5 (fun b6f => ?_) (fun b6f => ?_)
       ·replace h := h.1 b6f
        exact hR false a7Q _ c6w.drop h
       ·replace h := h.2 b6f
        exact hn2 _ _ _ (hm2 _ _ h).2 ⟨(ir_28l2 + (Utf8.decode x0 ir_28l2).2), a7Q, rfl, rfl, c6w, (hm2 _ _ h).1⟩
     ·replace h := h.2 b6e
      refine a8 (r8 _ _ _ rfl) ?_
      refine m5 (fun e => by cases e) (fun e => ?_)
      exact hx1 _ _ (hj1 H _ I.drop h)
theorem b5j (x0 : ByteArray) {H : Hp} {K : Bool → Hp → Prop} (h : a2E x0 H K) : a2A x0 H K := by
 intro w I
 refine d5A ?_
 refine b4j x0 I (fun r0 H' w' I' hk => ⟨H', _, I', r0, rfl, rfl, hk⟩) h
def X3 (a7b : Int) (a7c : Int) (a7d : Int) (a7e : Bool) (a7f : Bool) (a5z : (List ByteArray)) (H : Hp) (K : Bool → f4 → (List ByteArray) → Hp → Prop) : Prop :=
 K true (f4.mk a7b a7c a7d a7e a7f (Sl.mk none 0 0)) a5z H
def X4 (a2w : Int) (a6o : Sl) (p6 : Int) (a1O : Int) (a0y : Int) (a0z : Int) (a0A : Int) (a0B : Bool) (a0C : Bool) (Z0 : (List ByteArray)) (H : Hp) (n2 : (Int × Int × Int × Int × Bool × Bool × (List ByteArray)) → Hp → Prop) (K : Bool → f4 → (List ByteArray) → Hp → Prop) : Prop :=
 (a1O < p6 →
 (0 : Int) ≤ a1O ∧ (a1O : Int) < a6o.n ∧ ∃ a6x : b9, EltH H a6o a1O 1 [(u2 a6x)] ∧
 a1d (f4.mk a0y a0z a0A a0B a0C (Sl.mk none 0 0)) Z0 a6x a2w H (fun (a4N : Bool) (G9 : f4) (a8w : (List ByteArray)) (c2n : Hp) =>
 TG ((!a4N) = false) (a2P a6x c2n) (Sl.mk none 0 0) c2n (fun (b2y : Sl) (a7R : Hp) =>
 TG ((!a4N) = false) (fun k_ => U9 b2y (IntKind.wrap .i64 (a2w + 1)) (f4.mk ((G9).fnodes) ((G9).fdepth) ((G9).fe) ((G9).fform) ((G9).fnamed) (Sl.mk none 0 0)) a8w a7R fun a7o N3 a2e H_ => k_ (a7o, N3, a2e) H_) (false, (f4.mk ((G9).fnodes) ((G9).fdepth) ((G9).fe) ((G9).fform) ((G9).fnamed) (Sl.mk none 0 0)), a8w) a7R (fun (Y5 : Bool × f4 × (List ByteArray)) (a5p : Hp) =>
 (((!a4N) || (!Y5.1)) = true →
 K false (f4.mk ((Y5.2.1).fnodes) ((Y5.2.1).fdepth) ((Y5.2.1).fe) ((Y5.2.1).fform) ((Y5.2.1).fnamed) (Sl.mk none 0 0)) Y5.2.2 a5p) ∧
 (((!a4N) || (!Y5.1)) = false →
 n2 ((IntKind.wrap .i64 (a1O + 1)), ((Y5.2.1).fnodes), ((Y5.2.1).fdepth), ((Y5.2.1).fe), ((Y5.2.1).fform), ((Y5.2.1).fnamed), Y5.2.2) a5p))))) ∧
 (¬ (a1O < p6) →
 X3 a0y a0z a0A a0B a0C Z0 H K)
def a0K (x0 : Sl) (x1 : Int) (x2 : f4) (a8W : (List ByteArray)) (H : Hp) (K : Bool → f4 → (List ByteArray) → Hp → Prop) : Prop :=
 TL ((0, x2.fnodes, x2.fdepth, x2.fe, x2.fform, x2.fnamed, a8W) : Int × Int × Int × Int × Bool × Bool × (List ByteArray)) H fun (s : Int × Int × Int × Int × Bool × Bool × (List ByteArray)) H n2 => X4 x1 x0 (x0.n : Int) s.1 s.2.1 s.2.2.1 s.2.2.2.1 s.2.2.2.2.1 s.2.2.2.2.2.1 s.2.2.2.2.2.2 H n2 K
theorem a9J (x0 : Sl) (x1 : Int) (x2 : f4) (a8W : (List ByteArray)) (g2 g2b g3 : Nat) (a9W : Sl) (a9X : Frag) (c6x : RowL 9 1 C9 a9W a8W a9X) {w0 w : World} {ps0 : Nat → Prop} {H0 H : Hp} {K : Bool → f4 → (List ByteArray) → Hp → Prop} {R : Value → World → Prop} {E : Pan} (I : Inv w0 ps0 H0 H [bx g2 93 [(Value.pointer (some ⟨g2b, 0, none⟩))], bx g2b 92 [(vi x2.fnodes), (vi x2.fdepth), (vi x2.fe), (Value.bool x2.fform), (Value.bool x2.fnamed), (vs a9W)], a9X, bx g3 139 [(Value.func (.func 89) #[] #[(Value.pointer (some ⟨g2, 0, none⟩)), (Value.pointer (some ⟨g3, 0, none⟩))])]] w) (hR : ∀ (r0 : Bool) (y0 : f4) (a4W : (List ByteArray)) (a3b : Sl) (a3d : Frag) (H' : Hp) (w' : World) (_ : RowL 9 1 C9 a3b a4W a3d) (_ : Inv w0 ps0 H0 H' [bx g2 93 [(Value.pointer (some ⟨g2b, 0, none⟩))], bx g2b 92 [(vi y0.fnodes), (vi y0.fdepth), (vi y0.fe), (Value.bool y0.fform), (Value.bool y0.fnamed), (vs a3b)], a3d, bx g3 139 [(Value.func (.func 89) #[] #[(Value.pointer (some ⟨g2, 0, none⟩)), (Value.pointer (some ⟨g3, 0, none⟩))])]] w') (_ : K r0 y0 a4W H'), R (Value.bool r0) w') (h : a0K x0 x1 x2 a8W H K) : F89 (vs x0) (vi x1) (Value.pointer (some ⟨g2, 0, none⟩)) (Value.pointer (some ⟨g3, 0, none⟩)) w R E := by
 unfold a0K at h
 unfold F89
 have hj1 : ∀ (a7b : Int) (a7c : Int) (a7d : Int) (a7e : Bool) (a7f : Bool) (a5z : (List ByteArray)) (b0c : Sl) (b0d : Frag) (H : Hp) (w : World) (_ : RowL 9 1 C9 b0c a5z b0d) (_ : Inv w0 ps0 H0 H [bx g2 93 [(Value.pointer (some ⟨g2b, 0, none⟩))], bx g2b 92 [(vi a7b), (vi a7c), (vi a7d), (Value.bool a7e), (Value.bool a7f), (vs b0c)], bx g3 139 [(Value.func (.func 89) #[] #[(Value.pointer (some ⟨g2, 0, none⟩)), (Value.pointer (some ⟨g3, 0, none⟩))])], b0d] w) (_ : X3 a7b a7c a7d a7e a7f a5z H K), c0H w R E := by
  intro a7b a7c a7d a7e a7f a5z b0c b0d H w c9E I h
  unfold c0H
  intro _
  unfold X3 at h
  exact hR true (f4.mk a7b a7c a7d a7e a7f (Sl.mk none 0 0)) a5z b0c b0d H _ c9E ((((I.bring 2).bring 3).bring 3).bring 3) h
 refine t7 fun j1 hx1 => ?_
 refine a8 (a9R _ _ _) ?_
 obtain ⟨d2s, c2o, f4j, f4k⟩ := h
 refine y9 (J := fun n l w => ∃ (s : Int × Int × Int × Int × Bool × Bool × (List ByteArray)) (H : Hp) (a5A : Sl) (a5B : Frag) , n = c2o s ∧ l = (match s with | (a1O, a0y, a0z, a0A, a0B, a0C, Z0) => [(vi a1O)]) ∧ (match s with | (a1O, a0y, a0z, a0A, a0B, a0C, Z0) => RowL 9 1 C9 a5A Z0 a5B) ∧ (match s with | (a1O, a0y, a0z, a0A, a0B, a0C, Z0) => Inv w0 ps0 H0 H [bx g2 93 [(Value.pointer (some ⟨g2b, 0, none⟩))], bx g2b 92 [(vi a0y), (vi a0z), (vi a0A), (Value.bool a0B), (Value.bool a0C), (vs a5A)], bx g3 139 [(Value.func (.func 89) #[] #[(Value.pointer (some ⟨g2, 0, none⟩)), (Value.pointer (some ⟨g3, 0, none⟩))])], a5B] w) ∧ d2s s H) ⟨_, (0, x2.fnodes, x2.fdepth, x2.fe, x2.fform, x2.fnamed, a8W), H, a9W, a9X, rfl, rfl, c6x, ((((I.bring 2).bring 3).bring 3).bring 3), f4j⟩ ?_
 rintro f8G τ_92 w next2 ⟨⟨a1O, a0y, a0z, a0A, a0B, a0C, Z0⟩, H, a5A, a5B, rfl, c1t, b4k, I, f4l⟩ hn2
 dsimp only at c1t I b4k
 simp only [List.map_cons, List.map_nil, List.cons.injEq, and_true] at c1t
 have e11 := c1t
 simp only [e11]
 obtain ⟨n2, hm2, h⟩ : ∃ n2 : (Int × Int × Int × Int × Bool × Bool × (List ByteArray)) → Hp → Prop, (∀ s' H', n2 s' H' → d2s s' H' ∧ c2o s' < c2o (a1O, a0y, a0z, a0A, a0B, a0C, Z0)) ∧ X4 x1 x0 (x0.n : Int) a1O a0y a0z a0A a0B a0C Z0 H n2 K := ⟨_, fun _ _ h => h, f4k (a1O, a0y, a0z, a0A, a0B, a0C, Z0) H (fun s' H' => d2s s' H' ∧ c2o s' < c2o (a1O, a0y, a0z, a0A, a0B, a0C, Z0)) f4l (fun _ _ a b => ⟨a, b⟩)⟩
 unfold c8Q
 unfold X4 at h
 refine a8 (C4 _ _ _ _ _ _) ?_
 refine h9 (fun b6g => ?_) (fun b6g => ?_)
 ·replace h := h.1 b6g
  obtain ⟨b6j, b2z, a6x, a9o, h⟩ := h
  obtain ⟨f4m, f4n, b6k, a9o⟩ := a9o
  refine a8 (d0A b6k _ _ _ _ b6j b2z) ?_
  refine b7 (ld1 (v := (u2 a6x)) Tryd.isAgg141 (I.atH a9o)) ?_
  refine a4O I fun b5B e6o => ?_
  refine E8 (ld1 Tryd.isAgg93 (e6o.at1 (o := 0) (vs := [(Value.pointer (some ⟨g2b, 0, none⟩))]) (nb rfl) rfl)) ?_
  refine d7 (cap := []) (fun args w => Tryd.call90 args w) ?_
  refine i6 (Fi := [bx g2b 92 [(vi a0y), (vi a0z), (vi a0A), (Value.bool a0B), (Value.bool a0C), (vs a5A)], a5B]) (Fr := [bx g2 93 [(Value.pointer (some ⟨g2b, 0, none⟩))], bx g3 139 [(Value.func (.func 89) #[] #[(Value.pointer (some ⟨g2, 0, none⟩)), (Value.pointer (some ⟨g3, 0, none⟩))])]]) ((e6o.bring 3).bring 2) (h g2b a5A a5B b4k) (fun f8H c2n f8I O0 b6l f8J f8K f4o => ?_) (fun _ _ _ _ _ q => q.elim)
  obtain ⟨a4N, G9, a8w, a9p, a9q, rfl, rfl, c2p, h⟩ := f4o
  refine o3 (p7 _) ?_
  try simp only [J1]
  try simp only [J1, a9Q, b0R, b0T, a8y, b0W, b0S, b0U, b0V, b0X]
  refine o3 (Pu.g fun hb => by have a7 := hb; first | exact (s6 _ _ _ _ _ _) | (simp only [b3 a7]; exact (s6 _ _ _ _ _ _)) | (simp only [b5 a7, b3 a7, b3 hb, i4 a7, d6]; exact (s6 _ _ _ _ _ _))) ?_
  refine E8 (Ld.g fun hb => by have a7 := hb; first | exact (ld1 Tryd.isAgg139 ((b6l.bring 3).at1 (o := 0) (vs := [(Value.func (.func 89) #[] #[(Value.pointer (some ⟨g2, 0, none⟩)), (Value.pointer (some ⟨g3, 0, none⟩))])]) (nb rfl) rfl)) | (simp only [b5 a7, b3 a7, b3 hb, J2 a7]; exact (ld1 Tryd.isAgg139 ((b6l.bring 3).at1 (o := 0) (vs := [(Value.func (.func 89) #[] #[(Value.pointer (some ⟨g2, 0, none⟩)), (Value.pointer (some ⟨g3, 0, none⟩))])]) (nb rfl) rfl))) | (simp only [b5 a7, b3 a7, b3 hb, i4 a7, d6]; exact (ld1 Tryd.isAgg139 ((b6l.bring 3).at1 (o := 0) (vs := [(Value.func (.func 89) #[] #[(Value.pointer (some ⟨g2, 0, none⟩)), (Value.pointer (some ⟨g3, 0, none⟩))])]) (nb rfl) rfl)))) ?_
  refine R3 (D := fun e6p b3G => ∃ (b2y : Sl) (a7R : Hp), e6p = (gv (!a4N) false (vs b2y)) ∧ (Inv w0 ps0 H0 a7R [bx g2b 92 [(vi ((G9).fnodes)), (vi ((G9).fdepth)), (vi ((G9).fe)), (Value.bool ((G9).fform)), (Value.bool ((G9).fnamed)), (vs a9p)], a9q, bx g2 93 [(Value.pointer (some ⟨g2b, 0, none⟩))], bx g3 139 [(Value.func (.func 89) #[] #[(Value.pointer (some ⟨g2, 0, none⟩)), (Value.pointer (some ⟨g3, 0, none⟩))])]] b3G) ∧ (∀ i, i < O0.heap.size → ¬ inF [] i → b3G.heap[i]? = O0.heap[i]?) ∧ Hle c2n a7R ∧ (TG ((!a4N) = false) (fun k_ => U9 b2y (IntKind.wrap .i64 (x1 + 1)) (f4.mk ((G9).fnodes) ((G9).fdepth) ((G9).fe) ((G9).fform) ((G9).fnamed) (Sl.mk none 0 0)) a8w a7R fun a7o N3 a2e H_ => k_ (a7o, N3, a2e) H_) (false, (f4.mk ((G9).fnodes) ((G9).fdepth) ((G9).fe) ((G9).fform) ((G9).fnamed) (Sl.mk none 0 0)), a8w) a7R (fun (Y5 : Bool × f4 × (List ByteArray)) (a5p : Hp) =>
 (((!a4N) || (!Y5.1)) = true →
 K false (f4.mk ((Y5.2.1).fnodes) ((Y5.2.1).fdepth) ((Y5.2.1).fe) ((Y5.2.1).fform) ((Y5.2.1).fnamed) (Sl.mk none 0 0)) Y5.2.2 a5p) ∧
 (((!a4N) || (!Y5.1)) = false →
 n2 ((IntKind.wrap .i64 (a1O + 1)), ((Y5.2.1).fnodes), ((Y5.2.1).fdepth), ((Y5.2.1).fe), ((Y5.2.1).fform), ((Y5.2.1).fnamed), Y5.2.2) a5p)))) (fun b8w => ?_) (fun b8w => ?_) ?_
  ·replace h := h.1 b8w
   have a7 := b8w
   try simp only [b3 a7]
   refine b0u b6l h (fun b2y a7R b3G c6y b4l d2t h => ?_)
   exact ⟨b2y, a7R, by first | rfl | rw [b3 b8w], c6y, d2t, b4l, h⟩
  ·exact ⟨(Sl.mk none 0 0), c2n, by first | rfl | rw [a0X b8w], b6l, fun _ _ _ => rfl, Hle.refl _, h.2 b8w⟩
  ·clear h
   rintro e6p b3G ⟨b2y, a7R, rfl, c6y, d2t, b4l, h⟩
   refine ⟨(d2t _ (b6l.bring 3).lt1 (Inv.a5M (Fi := []) (b6l.bring 3))), ?_⟩
   refine R3 (D := fun d2u c6z => ∃ (a7o : Bool) (N3 : f4) (a2e : (List ByteArray)) (a5p : Hp) (a5q : Sl) (a5r : Frag) , d2u = (gv (!a4N) false (Value.bool a7o)) ∧ (RowL 9 1 C9 a5q a2e a5r) ∧ (Inv w0 ps0 H0 a5p [bx g2 93 [(Value.pointer (some ⟨g2b, 0, none⟩))], bx g2b 92 [(vi ((N3).fnodes)), (vi ((N3).fdepth)), (vi ((N3).fe)), (Value.bool ((N3).fform)), (Value.bool ((N3).fnamed)), (vs a5q)], a5r, bx g3 139 [(Value.func (.func 89) #[] #[(Value.pointer (some ⟨g2, 0, none⟩)), (Value.pointer (some ⟨g3, 0, none⟩))])]] c6z) ∧ (∀ i, i < b3G.heap.size → ¬ inF [bx g2 93 [(Value.pointer (some ⟨g2b, 0, none⟩))], bx g2b 92 [(vi ((G9).fnodes)), (vi ((G9).fdepth)), (vi ((G9).fe)), (Value.bool ((G9).fform)), (Value.bool ((G9).fnamed)), (vs a9p)], a9q, bx g3 139 [(Value.func (.func 89) #[] #[(Value.pointer (some ⟨g2, 0, none⟩)), (Value.pointer (some ⟨g3, 0, none⟩))])]] i → c6z.heap[i]? = b3G.heap[i]?) ∧ Hle a7R a5p ∧ ((((!a4N) || (!a7o)) = true →
 K false (f4.mk ((N3).fnodes) ((N3).fdepth) ((N3).fe) ((N3).fform) ((N3).fnamed) (Sl.mk none 0 0)) a2e a5p) ∧
 (((!a4N) || (!a7o)) = false →
 n2 ((IntKind.wrap .i64 (a1O + 1)), ((N3).fnodes), ((N3).fdepth), ((N3).fe), ((N3).fform), ((N3).fnamed), a2e) a5p))) (fun b8x => ?_) (fun b8x => ?_) ?_
   ·replace h := h.1 b8x
    have a7 := b8x
    try simp only [b3 a7]
    refine d7 (cap := [(Value.pointer (some ⟨g2, 0, none⟩)), (Value.pointer (some ⟨g3, 0, none⟩))]) (fun args w => Tryd.call89 args w) ?_
    refine i6 (Fi := [bx g2 93 [(Value.pointer (some ⟨g2b, 0, none⟩))], bx g2b 92 [(vi ((G9).fnodes)), (vi ((G9).fdepth)), (vi ((G9).fe)), (Value.bool ((G9).fform)), (Value.bool ((G9).fnamed)), (vs a9p)], a9q, bx g3 139 [(Value.func (.func 89) #[] #[(Value.pointer (some ⟨g2, 0, none⟩)), (Value.pointer (some ⟨g3, 0, none⟩))])]]) (Fr := []) ((((c6y.bring 3).bring 2).bring 2).bring 3) (h g2 g2b g3 a9p a9q c2p) (fun d2u a5p f8L c6z c6A a2Z e6q f4p => ?_) (fun _ _ _ _ _ q => q.elim)
    obtain ⟨a7o, N3, a2e, a5q, a5r, rfl, rfl, b2A, h⟩ := f4p
    exact ⟨a7o, N3, a2e, a5p, a5q, a5r, by first | rfl | rw [b3 b8x], b2A, c6A, e6q, a2Z, h⟩
   ·exact ⟨false, (f4.mk ((G9).fnodes) ((G9).fdepth) ((G9).fe) ((G9).fform) ((G9).fnamed) (Sl.mk none 0 0)), a8w, a7R, a9p, a9q, by first | rfl | rw [a0X b8x], c2p, ((((c6y.bring 3).bring 2).bring 2).bring 3), fun _ _ _ => rfl, Hle.refl _, h.2 b8x⟩
   ·clear h
    rintro d2u c6z ⟨a7o, N3, a2e, a5p, a5q, a5r, rfl, b2A, c6A, e6q, a2Z, h⟩
    refine o3 (Pu.g fun hb => by have a7 := hb; first | exact (p7 _) | (simp only [b3 a7]; exact (p7 _)) | (simp only [b5 a7, b3 a7, b3 hb, i4 a7, d6]; exact (p7 _))) ?_
    refine o3 (U3 _ _) ?_
    refine m5 (fun a9n => ?_) (fun a9n => ?_)
    ·replace h := h.1 a9n
     exact hR false (f4.mk ((N3).fnodes) ((N3).fdepth) ((N3).fe) ((N3).fform) ((N3).fnamed) (Sl.mk none 0 0)) a2e a5q a5r a5p _ b2A ((((c6A.bring 3).bring 3).bring 3).bring 3) h
    ·replace h := h.2 a9n
     refine a8 (s6 _ _ _ _ _ _) ?_
     exact hn2 _ _ _ (hm2 _ _ h).2 ⟨((IntKind.wrap .i64 (a1O + 1)), ((N3).fnodes), ((N3).fdepth), ((N3).fe), ((N3).fform), ((N3).fnamed), a2e), a5p, a5q, a5r, rfl, rfl, b2A, ((((c6A.bring 2).bring 3).bring 3).bring 3), (hm2 _ _ h).1⟩
 ·replace h := h.2 b6g
  exact hx1 _ _ (hj1 a0y a0z a0A a0B a0C Z0 a5A a5B H _ b4k ((((I.bring 3).bring 3).bring 3).bring 3) h)
theorem b0E (x0 : Sl) (x1 : Int) (x2 : f4) (a8W : (List ByteArray)) {H : Hp} {K : Bool → f4 → (List ByteArray) → Hp → Prop} (h : a0K x0 x1 x2 a8W H K) : U9 x0 x1 x2 a8W H K := by
 intro g2 g2b g3 a9W a9X c6x w I
 refine e1e ?_
 refine a9J x0 x1 x2 a8W g2 g2b g3 a9W a9X c6x I (fun r0 y0 a4W a3b a3d H' w' c1Y I' hk => ⟨H', _, I', r0, y0, a4W, a3b, a3d, rfl, rfl, c1Y, hk⟩) h
def I1 (cr_1j1_0 : Int) (cr_1j1_1 : Int) (cr_1j1_2 : Int) (cr_1j1_3 : Bool) (cr_1j1_4 : Bool) (ccr_1j1_5 : (List ByteArray)) (H : Hp) (K : f4 → Hp → Prop) : Prop :=
 ∀ (scr_1j1_5 : Sl) (b8y : Hp), Hle H b8y → SlH b8y 1 C9 scr_1j1_5 ccr_1j1_5 → scr_1j1_5.n ≤ scr_1j1_5.c →
 K (f4.mk cr_1j1_0 cr_1j1_1 cr_1j1_2 cr_1j1_3 cr_1j1_4 scr_1j1_5) b8y
def a1x (x0 : Sl) (H : Hp) (K : f4 → Hp → Prop) : Prop :=
 U9 x0 1 (f4.mk 0 0 0 false false (Sl.mk none 0 0)) [] H (fun (c6B : Bool) (B8 : f4) (a4q : (List ByteArray)) (b2B : Hp) =>
 ((!c6B) = true →
 I1 ((B8).fnodes) ((B8).fdepth) ((B8).fe) ((B8).fform) ((B8).fnamed) a4q b2B K) ∧
 ((!c6B) = false →
 (((B8).fform) = true →
 I1 ((B8).fnodes) ((B8).fdepth) 30 ((B8).fform) ((B8).fnamed) a4q b2B K) ∧
 (((B8).fform) = false →
 (((B8).fnamed) = true →
 I1 ((B8).fnodes) ((B8).fdepth) 31 ((B8).fform) ((B8).fnamed) a4q b2B K) ∧
 (((B8).fnamed) = false →
 I1 ((B8).fnodes) ((B8).fdepth) ((B8).fe) ((B8).fform) ((B8).fnamed) a4q b2B K))))
theorem b1n (x0 : Sl) {w0 w : World} {ps0 : Nat → Prop} {H0 H : Hp} {K : f4 → Hp → Prop} {R : Value → World → Prop} {E : Pan} (I : Inv w0 ps0 H0 H [] w) (hR : ∀ (r0 : f4) (gr0 : Nat) (H' : Hp) (w' : World) (_ : Inv w0 ps0 H0 H' [bx gr0 92 (a4l r0)] w') (_ : K r0 H'), R (Value.pointer (some ⟨gr0, 0, none⟩)) w') (h : a1x x0 H K) : F57 (vs x0) w R E := by
 unfold a1x at h
 unfold F57
 refine a8 (c8d ) ?_
 refine D8 I (cs := [(vi 0), (vi 0), (vi 0), (Value.bool false), (Value.bool false), (Value.slice none 0 0)]) rfl fun g_2 w_3 I_4 k_5 => ?_
 refine C1 I_4 Tryd.zeroValue93 (cs := [(Value.pointer none)]) rfl fun g_7 w_8 I_9 a7H => ?_
 refine o8 I_9 Tryd.sizeOf93 (vs := [(Value.pointer (some ⟨g_2, 0, none⟩))]) (cs' := [(Value.pointer (some ⟨g_2, 0, none⟩))]) rfl rfl (nb rfl) rfl rfl fun a1m C3 b8k => ?_
 refine C1 C3 Tryd.zeroValue139 (cs := [Value.nilFunc]) rfl fun b2C p5 b6m d2v => ?_
 refine a8 (a3D _ _ _) ?_
 refine o8 b6m Tryd.sizeOf139 (vs := [(Value.func (.func 89) #[] #[(Value.pointer (some ⟨g_7, 0, none⟩)), (Value.pointer (some ⟨b2C, 0, none⟩))])]) (cs' := [(Value.func (.func 89) #[] #[(Value.pointer (some ⟨g_7, 0, none⟩)), (Value.pointer (some ⟨b2C, 0, none⟩))])]) rfl rfl (nb rfl) rfl rfl fun a7G b4c c5I => ?_
 have hj1 : ∀ (cr_1j1_0 : Int) (cr_1j1_1 : Int) (cr_1j1_2 : Int) (cr_1j1_3 : Bool) (cr_1j1_4 : Bool) (ccr_1j1_5 : (List ByteArray)) (scr_1j1_5 : Sl) (Fcr_1j1_5 : Frag) (H : Hp) (w : World) (_ : RowL 9 1 C9 scr_1j1_5 ccr_1j1_5 Fcr_1j1_5) (_ : Inv w0 ps0 H0 H [bx g_7 93 [(Value.pointer (some ⟨g_2, 0, none⟩))], bx g_2 92 [(vi cr_1j1_0), (vi cr_1j1_1), (vi cr_1j1_2), (Value.bool cr_1j1_3), (Value.bool cr_1j1_4), (vs scr_1j1_5)], bx b2C 139 [(Value.func (.func 89) #[] #[(Value.pointer (some ⟨g_7, 0, none⟩)), (Value.pointer (some ⟨b2C, 0, none⟩))])], Fcr_1j1_5] w) (_ : I1 cr_1j1_0 cr_1j1_1 cr_1j1_2 cr_1j1_3 cr_1j1_4 ccr_1j1_5 H K), c0l (Value.pointer (some ⟨g_7, 0, none⟩)) w R E := by
  intro cr_1j1_0 cr_1j1_1 cr_1j1_2 cr_1j1_3 cr_1j1_4 ccr_1j1_5 scr_1j1_5 Fcr_1j1_5 H w hcr_1j1_5 I h
  unfold c0l
  intro _
  unfold I1 at h
  refine b7 (ld1 Tryd.isAgg93 (I.at1 (o := 0) (vs := [(Value.pointer (some ⟨g_2, 0, none⟩))]) (nb rfl) rfl)) ?_
  obtain ⟨b8y, a6m, d1N, b2b, c1Q⟩ := Inv.freezeC (I.bring 3) hcr_1j1_5 (by decide)
  replace h := h scr_1j1_5 b8y d1N b2b c1Q
  exact hR (f4.mk cr_1j1_0 cr_1j1_1 cr_1j1_2 cr_1j1_3 cr_1j1_4 scr_1j1_5) g_2 b8y _ (a6m.drop.bring 1).drop h
 refine t7 fun j1 hx1 => ?_
 refine b7 (ld1 Tryd.isAgg139 (b4c.at1 (o := 0) (vs := [(Value.func (.func 89) #[] #[(Value.pointer (some ⟨g_7, 0, none⟩)), (Value.pointer (some ⟨b2C, 0, none⟩))])]) (nb rfl) rfl)) ?_
 refine d7 (cap := [(Value.pointer (some ⟨g_7, 0, none⟩)), (Value.pointer (some ⟨b2C, 0, none⟩))]) (fun args w => Tryd.call89 args w) ?_
 refine i6 (Fi := [bx g_7 93 [(Value.pointer (some ⟨g_2, 0, none⟩))], bx g_2 92 [(vi 0), (vi 0), (vi 0), (Value.bool false), (Value.bool false), (Value.slice (Sl.mk none 0 0).a (Sl.mk none 0 0).n (Sl.mk none 0 0).c)], [], bx b2C 139 [(Value.func (.func 89) #[] #[(Value.pointer (some ⟨g_7, 0, none⟩)), (Value.pointer (some ⟨b2C, 0, none⟩))])]]) (Fr := []) ((((b4c.nil.bring 1).bring 1).bring 3).bring 3) (h g_7 g_2 b2C (Sl.mk none 0 0) ([]) (RowL.nil (e := 9) b5n b5o)) (fun f8M b2B e5S p8 a5d f8N c5J f4q => ?_) (fun _ _ _ _ _ q => q.elim)
 obtain ⟨c6B, B8, a4q, a7g, b2D, rfl, rfl, b2E, h⟩ := f4q
 refine a8 (p7 _) ?_
 refine m5 (fun d2w => ?_) (fun d2w => ?_)
 ·replace h := h.1 d2w
  exact hx1 _ _ (hj1 ((B8).fnodes) ((B8).fdepth) ((B8).fe) ((B8).fform) ((B8).fnamed) a4q a7g b2D b2B _ b2E ((((a5d.bring 2).bring 3).bring 3).bring 3) h)
 ·replace h := h.2 d2w
  refine b7 (ld1 Tryd.isAgg93 (a5d.at1 (o := 0) (vs := [(Value.pointer (some ⟨g_2, 0, none⟩))]) (nb rfl) rfl)) ?_
  refine a8 (q6 _) ?_
  refine a8 b1G ?_
  refine b7 (ld1 Tryd.isAgg4 ((a5d.bring 1).at1 (o := 3) (vs := [(Value.bool ((B8).fform))]) (nb rfl) rfl)) ?_
  refine m5 (fun a3j => ?_) (fun a3j => ?_)
  ·replace h := h.1 a3j
   refine b7 (ld1 Tryd.isAgg93 (a5d.at1 (o := 0) (vs := [(Value.pointer (some ⟨g_2, 0, none⟩))]) (nb rfl) rfl)) ?_
   refine a8 (q6 _) ?_
   refine a8 a5R ?_
   refine o8 (a5d.bring 1) Tryd.sizeOf34 (vs := [(vi 30)]) (cs' := [(vi ((B8).fnodes)), (vi ((B8).fdepth)), (vi 30), (Value.bool ((B8).fform)), (Value.bool ((B8).fnamed)), (vs a7g)]) rfl rfl (nb rfl) rfl rfl fun d0M b6n f8O => ?_
   exact hx1 _ _ (hj1 ((B8).fnodes) ((B8).fdepth) 30 ((B8).fform) ((B8).fnamed) a4q a7g b2D b2B _ b2E ((((b6n.bring 2).bring 3).bring 2).bring 3) h)
  ·replace h := h.2 a3j
   refine b7 (ld1 Tryd.isAgg93 (a5d.at1 (o := 0) (vs := [(Value.pointer (some ⟨g_2, 0, none⟩))]) (nb rfl) rfl)) ?_
   refine a8 (q6 _) ?_
   refine a8 b1H ?_
   refine b7 (ld1 Tryd.isAgg4 ((a5d.bring 1).at1 (o := 4) (vs := [(Value.bool ((B8).fnamed))]) (nb rfl) rfl)) ?_
   refine m5 (fun d2x => ?_) (fun d2x => ?_)
   ·replace h := h.1 d2x
    refine b7 (ld1 Tryd.isAgg93 (a5d.at1 (o := 0) (vs := [(Value.pointer (some ⟨g_2, 0, none⟩))]) (nb rfl) rfl)) ?_
    refine a8 (q6 _) ?_
    refine a8 a5R ?_
    refine o8 (a5d.bring 1) Tryd.sizeOf34 (vs := [(vi 31)]) (cs' := [(vi ((B8).fnodes)), (vi ((B8).fdepth)), (vi 31), (Value.bool ((B8).fform)), (Value.bool ((B8).fnamed)), (vs a7g)]) rfl rfl (nb rfl) rfl rfl fun C7 c5W f3s => ?_
    exact hx1 _ _ (hj1 ((B8).fnodes) ((B8).fdepth) 31 ((B8).fform) ((B8).fnamed) a4q a7g b2D b2B _ b2E ((((c5W.bring 2).bring 3).bring 2).bring 3) h)
   ·replace h := h.2 d2x
    exact hx1 _ _ (hj1 ((B8).fnodes) ((B8).fdepth) ((B8).fe) ((B8).fform) ((B8).fnamed) a4q a7g b2D b2B _ b2E ((((a5d.bring 2).bring 3).bring 3).bring 3) h)
theorem b2F (x0 : Sl) {H : Hp} {K : f4 → Hp → Prop} (h : a1x x0 H K) : a3e x0 H K := by
 intro w I
 refine d8Y ?_
 refine b1n x0 I (fun r0 gr0 H' w' I' hk => ⟨H', _, I', r0, gr0, rfl, rfl, hk⟩) h
def a2F (x0 : f6) (H : Hp) (K : f4 → Hp → Prop) : Prop :=
 E4 x0.o7 H (fun (a6p : Sl) (H_8 : Hp) =>
 q9 x0.K5 H_8 (fun (a6q : Sl) (b4e : Hp) =>
 ∀ (a6Y : Sl) (a1r : Hp), Hle b4e a1r → SlH a1r 1 csl a6Y [a6p, a6q] → a6Y.n ≤ a6Y.c →
 y7 a6Y a1r (fun (J0 : Sl) (O6 : Hp) =>
 a3e J0 O6 (fun (b0e : f4) (b0C : Hp) =>
 K b0e b0C))))
theorem b4m (x0 : f6) {w0 w : World} {ps0 : Nat → Prop} {H0 H : Hp} {K : f4 → Hp → Prop} {R : Value → World → Prop} {E : Pan} (I : Inv w0 ps0 H0 H [] w) (hR : ∀ (r0 : f4) (gr0 : Nat) (H' : Hp) (w' : World) (_ : Inv w0 ps0 H0 H' [bx gr0 92 (a4l r0)] w') (_ : K r0 H'), R (Value.pointer (some ⟨gr0, 0, none⟩)) w') (h : a2F x0 H K) : F66 (Value.agg (b6 x0).toArray) w R E := by
 unfold a2F at h
 unfold F66
 refine D8 I (cs := (b6 x0)) rfl fun g_2 w_3 I_4 k_5 => ?_
 refine a4O I_4 fun w_6 I_7 => ?_
 refine o3 J9 ?_
 refine o3 M9 ?_
 refine E8 (ld1 Tryd.isAgg22 (I_7.at1 (o := 0) (vs := [(vs x0.o7)]) (nb rfl) rfl)) ?_
 refine E8 (ld1 Tryd.isAgg23 (I_7.at1 (o := 1) (vs := [(vs x0.K5)]) (nb rfl) rfl)) ?_
 refine d7 (cap := []) (fun args w => Tryd.call95 args w) ?_
 refine i6 (Fi := []) (Fr := [bx g_2 25 (b6 x0)]) I_7 (h) (fun e5N H_8 e5O w_9 b2c b8m b5O c1M => ?_) (fun _ _ _ _ _ q => q.elim)
 obtain ⟨a6p, rfl, rfl, h⟩ := c1M
 refine ⟨(b5O _ I_7.lt1 (Inv.a5M (Fi := []) I_7)), ?_⟩
 refine d7 (cap := []) (fun args w => Tryd.call97 args w) ?_
 refine i6 (Fi := []) (Fr := [bx g_2 25 (b6 x0)]) b2c (h) (fun e5P b4e e5Q p9 b2d e5R c1N c1O => ?_) (fun _ _ _ _ _ q => q.elim)
 obtain ⟨a6q, rfl, rfl, h⟩ := c1O
 refine a6N (e := 97) (c := csl) (xs := [a6p, a6q]) b2d (b9L _ _ _ _ _ _) rfl rfl b9i b9j (nb rfl) fun a6Y e5S d0K d1m L9 a4g => ?_
 obtain ⟨a1r, c1P, c1m, c1Q, d1n⟩ := Inv.freezeC L9 d1m (by decide)
 replace h := h a6Y a1r c1m c1Q d1n
 refine d7 (cap := []) (fun args w => Tryd.call94 args w) ?_
 refine i6 (Fi := []) (Fr := [bx g_2 25 (b6 x0)]) c1P (h) (fun b0A O6 c5Q a6d a1Z b4f b4g b2e => ?_) (fun _ _ _ _ _ q => q.elim)
 obtain ⟨J0, rfl, rfl, h⟩ := b2e
 refine d7 (cap := []) (fun args w => Tryd.call57 args w) ?_
 refine i6 (Fi := []) (Fr := [bx g_2 25 (b6 x0)]) a1Z (h) (fun e6d b0C d1E J6 b2l e6e d1F c2e => ?_) (fun _ _ _ _ _ q => q.elim)
 obtain ⟨b0e, e6r, rfl, rfl, h⟩ := c2e
 exact hR b0e e6r b0C _ (b2l.bring 1).drop h
theorem b5k (x0 : f6) {H : Hp} {K : f4 → Hp → Prop} (h : a2F x0 H K) : a4w x0 H K := by
 intro w I
 refine e0c ?_
 refine b4m x0 I (fun r0 gr0 H' w' I' hk => ⟨H', _, I', r0, gr0, rfl, rfl, hk⟩) h
def a0L (x0 : g8) (x1 : g8) (H : Hp) (K : Bool → Hp → Prop) : Prop :=
 TG (((decide (x0.d4 = x1.d4)) && (decide (x0.d8 = x1.d8))) = true) (h8 x0.c7 x1.c7 H) false H (fun (m7 : Bool) (E5 : Hp) =>
 TG ((((decide (x0.d4 = x1.d4)) && (decide (x0.d8 = x1.d8))) && m7) = true) (f9 x0.f5 x1.f5 E5) false E5 (fun (o4 : Bool) (C2 : Hp) =>
 TG (((((decide (x0.d4 = x1.d4)) && (decide (x0.d8 = x1.d8))) && m7) && o4) = true) (c5 x0.r9 x1.r9 C2) false C2 (fun (u6 : Bool) (C0 : Hp) =>
 TG ((((((decide (x0.d4 = x1.d4)) && (decide (x0.d8 = x1.d8))) && m7) && o4) && u6) = true) (c5 x0.o6 x1.o6 C0) false C0 (fun (J0 : Bool) (O6 : Hp) =>
 K ((((((decide (x0.d4 = x1.d4)) && (decide (x0.d8 = x1.d8))) && m7) && o4) && u6) && J0) O6))))
theorem a9K (x0 : g8) (x1 : g8) {w0 w : World} {ps0 : Nat → Prop} {H0 H : Hp} {K : Bool → Hp → Prop} {R : Value → World → Prop} {E : Pan} (I : Inv w0 ps0 H0 H [] w) (hR : ∀ (r0 : Bool) (H' : Hp) (w' : World) (_ : Inv w0 ps0 H0 H' [] w') (_ : K r0 H'), R (Value.bool r0) w') (h : a0L x0 x1 H K) : F54 (Value.agg (b8 x0).toArray) (Value.agg (b8 x1).toArray) w R E := by
 unfold a0L at h
 unfold F54
 refine D8 I (cs := (b8 x0)) rfl fun g_2 w_3 I_4 k_5 => ?_
 refine D8 I_4 (cs := (b8 x1)) rfl fun g_7 w_8 I_9 a7H => ?_
 refine a8 a0E ?_
 refine b7 (ld1 Tryd.isAgg3 ((I_9.bring 1).at1 (o := 0) (vs := [(vi x0.d4)]) (nb rfl) rfl)) ?_
 refine a8 a0E ?_
 refine b7 (ld1 Tryd.isAgg3 (I_9.at1 (o := 0) (vs := [(vi x1.d4)]) (nb rfl) rfl)) ?_
 refine a8 (f7 _ _ _ _ _ _) ?_
 refine a8 (Pu.g fun hb => by have a7 := hb; first | exact L4 | (simp only [b5 a7, b3 a7, b3 hb, q8 a7]; exact L4) | (simp only [b5 a7, b3 a7, b3 hb, d9 a7, d6]; exact L4)) ?_
 refine b7 (Ld.g fun hb => by have a7 := hb; first | exact (ld1 Tryd.isAgg9 ((I_9.bring 1).at1 (o := 1) (vs := [(Value.string x0.d8)]) (nb rfl) rfl)) | (simp only [b3 a7]; exact (ld1 Tryd.isAgg9 ((I_9.bring 1).at1 (o := 1) (vs := [(Value.string x0.d8)]) (nb rfl) rfl))) | (simp only [b5 a7, b3 a7, b3 hb, d9 a7, d6]; exact (ld1 Tryd.isAgg9 ((I_9.bring 1).at1 (o := 1) (vs := [(Value.string x0.d8)]) (nb rfl) rfl)))) ?_
 refine a8 (Pu.g fun hb => by have a7 := hb; first | exact L4 | (simp only [b5 a7, b3 a7, b3 hb, q8 a7]; exact L4) | (simp only [b5 a7, b3 a7, b3 hb, d9 a7, d6]; exact L4)) ?_
 refine b7 (Ld.g fun hb => by have a7 := hb; first | exact (ld1 Tryd.isAgg9 (I_9.at1 (o := 1) (vs := [(Value.string x1.d8)]) (nb rfl) rfl)) | (simp only [b3 a7]; exact (ld1 Tryd.isAgg9 (I_9.at1 (o := 1) (vs := [(Value.string x1.d8)]) (nb rfl) rfl))) | (simp only [b5 a7, b3 a7, b3 hb, d9 a7, d6]; exact (ld1 Tryd.isAgg9 (I_9.at1 (o := 1) (vs := [(Value.string x1.d8)]) (nb rfl) rfl)))) ?_
 refine a8 (Pu.g fun hb => by have a7 := hb; first | exact (T0 _ _ _ _ _) | (simp only [b3 a7]; exact (T0 _ _ _ _ _)) | (simp only [b5 a7, b3 a7, b3 hb, d9 a7, d6]; exact (T0 _ _ _ _ _))) ?_
 refine a8 (u5 _ _) ?_
 refine a8 (Pu.g fun hb => by have a7 := hb; first | exact F4 | (simp only [b5 a7, b3 a7, b3 hb, q8 a7]; exact F4) | (simp only [b5 a7, b3 a7, b3 hb, d9 a7, d6]; exact F4)) ?_
 refine b7 (Ld.g fun hb => by have a7 := hb; first | exact (ld1 Tryd.isAgg28 ((I_9.bring 1).at1 (o := 2) (vs := [(vs x0.c7)]) (nb rfl) rfl)) | (simp only [b3 a7]; exact (ld1 Tryd.isAgg28 ((I_9.bring 1).at1 (o := 2) (vs := [(vs x0.c7)]) (nb rfl) rfl))) | (simp only [b5 a7, b3 a7, b3 hb, d9 a7, d6]; exact (ld1 Tryd.isAgg28 ((I_9.bring 1).at1 (o := 2) (vs := [(vs x0.c7)]) (nb rfl) rfl)))) ?_
 refine a8 (Pu.g fun hb => by have a7 := hb; first | exact F4 | (simp only [b5 a7, b3 a7, b3 hb, q8 a7]; exact F4) | (simp only [b5 a7, b3 a7, b3 hb, d9 a7, d6]; exact F4)) ?_
 refine b7 (Ld.g fun hb => by have a7 := hb; first | exact (ld1 Tryd.isAgg28 (I_9.at1 (o := 2) (vs := [(vs x1.c7)]) (nb rfl) rfl)) | (simp only [b3 a7]; exact (ld1 Tryd.isAgg28 (I_9.at1 (o := 2) (vs := [(vs x1.c7)]) (nb rfl) rfl))) | (simp only [b5 a7, b3 a7, b3 hb, d9 a7, d6]; exact (ld1 Tryd.isAgg28 (I_9.at1 (o := 2) (vs := [(vs x1.c7)]) (nb rfl) rfl)))) ?_
 refine R3 (D := fun a4X k6 => ∃ (m7 : Bool) (E5 : Hp) , a4X = (gv ((decide (x0.d4 = x1.d4)) && (decide (x0.d8 = x1.d8))) true (Value.bool m7)) ∧ (Inv w0 ps0 H0 E5 [bx g_7 88 (b8 x1), bx g_2 88 (b8 x0)] k6) ∧ (∀ i, i < w_8.heap.size → ¬ inF [] i → k6.heap[i]? = w_8.heap[i]?) ∧ Hle H E5 ∧ (TG ((((decide (x0.d4 = x1.d4)) && (decide (x0.d8 = x1.d8))) && m7) = true) (f9 x0.f5 x1.f5 E5) false E5 (fun (o4 : Bool) (C2 : Hp) =>
 TG (((((decide (x0.d4 = x1.d4)) && (decide (x0.d8 = x1.d8))) && m7) && o4) = true) (c5 x0.r9 x1.r9 C2) false C2 (fun (u6 : Bool) (C0 : Hp) =>
 TG ((((((decide (x0.d4 = x1.d4)) && (decide (x0.d8 = x1.d8))) && m7) && o4) && u6) = true) (c5 x0.o6 x1.o6 C0) false C0 (fun (J0 : Bool) (O6 : Hp) =>
 K ((((((decide (x0.d4 = x1.d4)) && (decide (x0.d8 = x1.d8))) && m7) && o4) && u6) && J0) O6))))) (fun b8z => ?_) (fun b8z => ?_) ?_
 ·replace h := h.1 b8z
  have a7 := b8z
  try simp only [b3 a7]
  refine d7 (cap := []) (fun args w => Tryd.call83 args w) ?_
  refine i6 (Fi := []) (Fr := [bx g_7 88 (b8 x1), bx g_2 88 (b8 x0)]) I_9 (h) (fun a4X E5 b8i k6 L6 a7I a7J a6U => ?_) (fun _ _ _ _ _ q => q.elim)
  obtain ⟨m7, rfl, rfl, h⟩ := a6U
  exact ⟨m7, E5, by first | rfl | rw [b3 b8z], L6, a7J, a7I, h⟩
 ·exact ⟨false, H, by first | rfl | rw [a0X b8z], I_9, fun _ _ _ => rfl, Hle.refl _, h.2 b8z⟩
 ·clear h
  rintro a4X k6 ⟨m7, E5, rfl, L6, a7J, a7I, h⟩
  refine a8 (u5 _ _) ?_
  refine a8 (Pu.g fun hb => by have a7 := hb; first | exact F5 | (simp only [b5 a7, b3 a7, b3 hb, q8 a7]; exact F5) | (simp only [b5 a7, b3 a7, b3 hb, d9 a7, d6]; exact F5)) ?_
  refine b7 (Ld.g fun hb => by have a7 := hb; first | exact (ld1 Tryd.isAgg31 ((L6.bring 1).at1 (o := 3) (vs := [(vs x0.f5)]) (nb rfl) rfl)) | (simp only [b3 a7]; exact (ld1 Tryd.isAgg31 ((L6.bring 1).at1 (o := 3) (vs := [(vs x0.f5)]) (nb rfl) rfl))) | (simp only [b5 a7, b3 a7, b3 hb, d9 a7, d6]; exact (ld1 Tryd.isAgg31 ((L6.bring 1).at1 (o := 3) (vs := [(vs x0.f5)]) (nb rfl) rfl)))) ?_
  refine a8 (Pu.g fun hb => by have a7 := hb; first | exact F5 | (simp only [b5 a7, b3 a7, b3 hb, q8 a7]; exact F5) | (simp only [b5 a7, b3 a7, b3 hb, d9 a7, d6]; exact F5)) ?_
  refine b7 (Ld.g fun hb => by have a7 := hb; first | exact (ld1 Tryd.isAgg31 (L6.at1 (o := 3) (vs := [(vs x1.f5)]) (nb rfl) rfl)) | (simp only [b3 a7]; exact (ld1 Tryd.isAgg31 (L6.at1 (o := 3) (vs := [(vs x1.f5)]) (nb rfl) rfl))) | (simp only [b5 a7, b3 a7, b3 hb, d9 a7, d6]; exact (ld1 Tryd.isAgg31 (L6.at1 (o := 3) (vs := [(vs x1.f5)]) (nb rfl) rfl)))) ?_
  refine R3 (D := fun a4h N5 => ∃ (o4 : Bool) (C2 : Hp) , a4h = (gv (((decide (x0.d4 = x1.d4)) && (decide (x0.d8 = x1.d8))) && m7) true (Value.bool o4)) ∧ (Inv w0 ps0 H0 C2 [bx g_7 88 (b8 x1), bx g_2 88 (b8 x0)] N5) ∧ (∀ i, i < k6.heap.size → ¬ inF [] i → N5.heap[i]? = k6.heap[i]?) ∧ Hle E5 C2 ∧ (TG (((((decide (x0.d4 = x1.d4)) && (decide (x0.d8 = x1.d8))) && m7) && o4) = true) (c5 x0.r9 x1.r9 C2) false C2 (fun (u6 : Bool) (C0 : Hp) =>
 TG ((((((decide (x0.d4 = x1.d4)) && (decide (x0.d8 = x1.d8))) && m7) && o4) && u6) = true) (c5 x0.o6 x1.o6 C0) false C0 (fun (J0 : Bool) (O6 : Hp) =>
 K ((((((decide (x0.d4 = x1.d4)) && (decide (x0.d8 = x1.d8))) && m7) && o4) && u6) && J0) O6)))) (fun a7h => ?_) (fun a7h => ?_) ?_
  ·replace h := h.1 a7h
   have a7 := a7h
   try simp only [b3 a7]
   refine d7 (cap := []) (fun args w => Tryd.call85 args w) ?_
   refine i6 (Fi := []) (Fr := [bx g_7 88 (b8 x1), bx g_2 88 (b8 x0)]) L6 (h) (fun a4h C2 c2a N5 E1 a3W a6s a9i => ?_) (fun _ _ _ _ _ q => q.elim)
   obtain ⟨o4, rfl, rfl, h⟩ := a9i
   exact ⟨o4, C2, by first | rfl | rw [b3 a7h], E1, a6s, a3W, h⟩
  ·exact ⟨false, E5, by first | rfl | rw [a0X a7h], L6, fun _ _ _ => rfl, Hle.refl _, h.2 a7h⟩
  ·clear h
   rintro a4h N5 ⟨o4, C2, rfl, E1, a6s, a3W, h⟩
   refine a8 (u5 _ _) ?_
   refine a8 (Pu.g fun hb => by have a7 := hb; first | exact K2 | (simp only [b5 a7, b3 a7, b3 hb, q8 a7]; exact K2) | (simp only [b5 a7, b3 a7, b3 hb, d9 a7, d6]; exact K2)) ?_
   refine b7 (Ld.g fun hb => by have a7 := hb; first | exact (ld1 Tryd.isAgg23 ((E1.bring 1).at1 (o := 4) (vs := [(vs x0.r9)]) (nb rfl) rfl)) | (simp only [b3 a7]; exact (ld1 Tryd.isAgg23 ((E1.bring 1).at1 (o := 4) (vs := [(vs x0.r9)]) (nb rfl) rfl))) | (simp only [b5 a7, b3 a7, b3 hb, d9 a7, d6]; exact (ld1 Tryd.isAgg23 ((E1.bring 1).at1 (o := 4) (vs := [(vs x0.r9)]) (nb rfl) rfl)))) ?_
   refine a8 (Pu.g fun hb => by have a7 := hb; first | exact K2 | (simp only [b5 a7, b3 a7, b3 hb, q8 a7]; exact K2) | (simp only [b5 a7, b3 a7, b3 hb, d9 a7, d6]; exact K2)) ?_
   refine b7 (Ld.g fun hb => by have a7 := hb; first | exact (ld1 Tryd.isAgg23 (E1.at1 (o := 4) (vs := [(vs x1.r9)]) (nb rfl) rfl)) | (simp only [b3 a7]; exact (ld1 Tryd.isAgg23 (E1.at1 (o := 4) (vs := [(vs x1.r9)]) (nb rfl) rfl))) | (simp only [b5 a7, b3 a7, b3 hb, d9 a7, d6]; exact (ld1 Tryd.isAgg23 (E1.at1 (o := 4) (vs := [(vs x1.r9)]) (nb rfl) rfl)))) ?_
   refine R3 (D := fun a4y o5 => ∃ (u6 : Bool) (C0 : Hp) , a4y = (gv ((((decide (x0.d4 = x1.d4)) && (decide (x0.d8 = x1.d8))) && m7) && o4) true (Value.bool u6)) ∧ (Inv w0 ps0 H0 C0 [bx g_7 88 (b8 x1), bx g_2 88 (b8 x0)] o5) ∧ (∀ i, i < N5.heap.size → ¬ inF [] i → o5.heap[i]? = N5.heap[i]?) ∧ Hle C2 C0 ∧ (TG ((((((decide (x0.d4 = x1.d4)) && (decide (x0.d8 = x1.d8))) && m7) && o4) && u6) = true) (c5 x0.o6 x1.o6 C0) false C0 (fun (J0 : Bool) (O6 : Hp) =>
 K ((((((decide (x0.d4 = x1.d4)) && (decide (x0.d8 = x1.d8))) && m7) && o4) && u6) && J0) O6))) (fun a2x => ?_) (fun a2x => ?_) ?_
   ·replace h := h.1 a2x
    have a7 := a2x
    try simp only [b3 a7]
    refine d7 (cap := []) (fun args w => Tryd.call53 args w) ?_
    refine i6 (Fi := []) (Fr := [bx g_7 88 (b8 x1), bx g_2 88 (b8 x0)]) E1 (h) (fun a4y C0 c6C o5 L9 a7S a4g b2G => ?_) (fun _ _ _ _ _ q => q.elim)
    obtain ⟨u6, rfl, rfl, h⟩ := b2G
    exact ⟨u6, C0, by first | rfl | rw [b3 a2x], L9, a4g, a7S, h⟩
   ·exact ⟨false, C2, by first | rfl | rw [a0X a2x], E1, fun _ _ _ => rfl, Hle.refl _, h.2 a2x⟩
   ·clear h
    rintro a4y o5 ⟨u6, C0, rfl, L9, a4g, a7S, h⟩
    refine a8 (u5 _ _) ?_
    refine a8 (Pu.g fun hb => by have a7 := hb; first | exact F6 | (simp only [b5 a7, b3 a7, b3 hb, q8 a7]; exact F6) | (simp only [b5 a7, b3 a7, b3 hb, d9 a7, d6]; exact F6)) ?_
    refine b7 (Ld.g fun hb => by have a7 := hb; first | exact (ld1 Tryd.isAgg23 ((L9.bring 1).at1 (o := 5) (vs := [(vs x0.o6)]) (nb rfl) rfl)) | (simp only [b3 a7]; exact (ld1 Tryd.isAgg23 ((L9.bring 1).at1 (o := 5) (vs := [(vs x0.o6)]) (nb rfl) rfl))) | (simp only [b5 a7, b3 a7, b3 hb, d9 a7, d6]; exact (ld1 Tryd.isAgg23 ((L9.bring 1).at1 (o := 5) (vs := [(vs x0.o6)]) (nb rfl) rfl)))) ?_
    refine a8 (Pu.g fun hb => by have a7 := hb; first | exact F6 | (simp only [b5 a7, b3 a7, b3 hb, q8 a7]; exact F6) | (simp only [b5 a7, b3 a7, b3 hb, d9 a7, d6]; exact F6)) ?_
    refine b7 (Ld.g fun hb => by have a7 := hb; first | exact (ld1 Tryd.isAgg23 (L9.at1 (o := 5) (vs := [(vs x1.o6)]) (nb rfl) rfl)) | (simp only [b3 a7]; exact (ld1 Tryd.isAgg23 (L9.at1 (o := 5) (vs := [(vs x1.o6)]) (nb rfl) rfl))) | (simp only [b5 a7, b3 a7, b3 hb, d9 a7, d6]; exact (ld1 Tryd.isAgg23 (L9.at1 (o := 5) (vs := [(vs x1.o6)]) (nb rfl) rfl)))) ?_
    refine R3 (D := fun b0A a6d => ∃ (J0 : Bool) (O6 : Hp) , b0A = (gv (((((decide (x0.d4 = x1.d4)) && (decide (x0.d8 = x1.d8))) && m7) && o4) && u6) true (Value.bool J0)) ∧ (Inv w0 ps0 H0 O6 [bx g_7 88 (b8 x1), bx g_2 88 (b8 x0)] a6d) ∧ (∀ i, i < o5.heap.size → ¬ inF [] i → a6d.heap[i]? = o5.heap[i]?) ∧ Hle C0 O6 ∧ (K ((((((decide (x0.d4 = x1.d4)) && (decide (x0.d8 = x1.d8))) && m7) && o4) && u6) && J0) O6)) (fun a7i => ?_) (fun a7i => ?_) ?_
    ·replace h := h.1 a7i
     have a7 := a7i
     try simp only [b3 a7]
     refine d7 (cap := []) (fun args w => Tryd.call53 args w) ?_
     refine i6 (Fi := []) (Fr := [bx g_7 88 (b8 x1), bx g_2 88 (b8 x0)]) L9 (h) (fun b0A O6 c5Q a6d a1Z b4f b4g b2e => ?_) (fun _ _ _ _ _ q => q.elim)
     obtain ⟨J0, rfl, rfl, h⟩ := b2e
     exact ⟨J0, O6, by first | rfl | rw [b3 a7i], a1Z, b4g, b4f, h⟩
    ·exact ⟨false, C0, by first | rfl | rw [a0X a7i], L9, fun _ _ _ => rfl, Hle.refl _, h.2 a7i⟩
    ·clear h
     rintro b0A a6d ⟨J0, O6, rfl, a1Z, b4g, b4f, h⟩
     refine a8 (u5 _ _) ?_
     exact hR ((((((decide (x0.d4 = x1.d4)) && (decide (x0.d8 = x1.d8))) && m7) && o4) && u6) && J0) O6 _ a1Z.drop.drop h
theorem b0F (x0 : g8) (x1 : g8) {H : Hp} {K : Bool → Hp → Prop} (h : a0L x0 x1 H K) : a0H x0 x1 H K := by
 intro w I
 refine d7W ?_
 refine a9K x0 x1 I (fun r0 H' w' I' hk => ⟨H', _, I', r0, rfl, rfl, hk⟩) h
def l9 (H : Hp) (K : Bool → Hp → Prop) : Prop :=
 K true H
def j7 (a2w : Sl) (a9Y : Sl) (a9Z : Int) (D2 : Int) (H : Hp) (n2 : Int → Hp → Prop) (K : Bool → Hp → Prop) : Prop :=
 (D2 < a9Z →
 (0 : Int) ≤ D2 ∧ (D2 : Int) < a9Y.n ∧ ∃ x_1 : g8, EltH H a9Y D2 6 (b8 x_1) ∧
 (0 : Int) ≤ D2 ∧ (D2 : Int) < a2w.n ∧ ∃ a0Q : g8, EltH H a2w D2 6 (b8 a0Q) ∧
 a0H x_1 a0Q H (fun (Q1 : Bool) (Z6 : Hp) =>
 ((!Q1) = true →
 K false Z6) ∧
 ((!Q1) = false →
 n2 (IntKind.wrap .i64 (D2 + 1)) Z6))) ∧
 (¬ (D2 < a9Z) →
 l9 H K)
def k4 (x0 : Sl) (x1 : Sl) (H : Hp) (K : Bool → Hp → Prop) : Prop :=
 (¬ ((x0.n : Int) = (x1.n : Int)) →
 K false H) ∧
 ((x0.n : Int) = (x1.n : Int) →
 TL (0 : Int) H fun (s : Int) H n2 => j7 x1 x0 (x0.n : Int) s H n2 K)
theorem G3 (x0 : Sl) (x1 : Sl) {w0 w : World} {ps0 : Nat → Prop} {H0 H : Hp} {K : Bool → Hp → Prop} {R : Value → World → Prop} {E : Pan} (I : Inv w0 ps0 H0 H [] w) (hR : ∀ (r0 : Bool) (H' : Hp) (w' : World) (_ : Inv w0 ps0 H0 H' [] w') (_ : K r0 H'), R (Value.bool r0) w') (h : k4 x0 x1 H K) : F53 (vs x0) (vs x1) (Value.func (.func 54) #[] #[]) w R E := by
 unfold k4 at h
 unfold F53
 refine a8 (M6 _ _ _) ?_
 refine a8 (M6 _ _ _) ?_
 refine a8 (t1 _ _ _ _ _ _) ?_
 refine a2L (fun a8X => ?_) (fun a8X => ?_)
 ·replace h := h.1 a8X
  exact hR false H _ I h
 ·replace h := h.2 a8X
  have hj1 : ∀ (H : Hp) (w : World) (_ : Inv w0 ps0 H0 H [] w) (_ : l9 H K), b9X w R E := by
   intro H w I h
   unfold b9X
   intro _
   unfold l9 at h
   exact hR true H _ I h
  refine t7 fun j1 hx1 => ?_
  refine a8 (M6 _ _ _) ?_
  obtain ⟨a8Y, a4e, c1z, c1A⟩ := h
  refine y9 (J := fun n l w => ∃ (s : Int) (H : Hp) , n = a4e s ∧ l = [(vi s)] ∧ Inv w0 ps0 H0 H [] w ∧ a8Y s H) ⟨_, 0, H, rfl, rfl, I, c1z⟩ ?_
  rintro e5D τ_47 w next2 ⟨D2, H, rfl, b3Z, I, c1B⟩ hn2
  simp only [List.map_cons, List.map_nil, List.cons.injEq, and_true] at b3Z
  have e17 := b3Z
  simp only [e17]
  obtain ⟨n2, hm2, h⟩ : ∃ n2 : Int → Hp → Prop, (∀ s' H', n2 s' H' → a8Y s' H' ∧ a4e s' < a4e D2) ∧ j7 x1 x0 (x0.n : Int) D2 H n2 K := ⟨_, fun _ _ h => h, c1A D2 H (fun s' H' => a8Y s' H' ∧ a4e s' < a4e D2) c1B (fun _ _ a b => ⟨a, b⟩)⟩
  unfold c8n
  unfold j7 at h
  refine a8 (C4 _ _ _ _ _ _) ?_
  refine h9 (fun a8Z => ?_) (fun a8Z => ?_)
  ·replace h := h.1 a8Z
   obtain ⟨h_4, h_5, x_1, h_7, h⟩ := h
   obtain ⟨g_2, o_3, h_6, h_7⟩ := h_7
   refine a8 (a2W h_6 _ _ _ _ h_4 h_5) ?_
   refine b7 (ldA (vs := (b8 x_1)) Tryd.isAgg88 Tryd.sizeOf88 rfl (I.atH h_7)) ?_
   refine C1 I Tryd.zeroValue88 (cs := [(vi 0), (Value.string ⟨#[]⟩), (Value.slice none 0 0), (Value.slice none 0 0), (Value.slice none 0 0), (Value.slice none 0 0)]) rfl fun g_9 k9 a1q b0x => ?_
   refine o8 a1q Tryd.sizeOf88 (vs := (b8 x_1)) (cs' := (b8 x_1)) rfl rfl (nb rfl) rfl rfl fun a2N a1Y b5D => ?_
   obtain ⟨a4Y, c1C, a0Q, a6V, h⟩ := h
   obtain ⟨e5E, e5F, c1D, a6V⟩ := a6V
   refine a8 (a2W c1D _ _ _ _ a4Y c1C) ?_
   refine b7 (ldA (vs := (b8 a0Q)) Tryd.isAgg88 Tryd.sizeOf88 rfl (a1Y.atH a6V)) ?_
   refine C1 a1Y Tryd.zeroValue88 (cs := [(vi 0), (Value.string ⟨#[]⟩), (Value.slice none 0 0), (Value.slice none 0 0), (Value.slice none 0 0), (Value.slice none 0 0)]) rfl fun c1E a8Q b5E d0W => ?_
   refine o8 b5E Tryd.sizeOf88 (vs := (b8 a0Q)) (cs' := (b8 a0Q)) rfl rfl (nb rfl) rfl rfl fun u7 a4f c5s => ?_
   refine b7 (ldA Tryd.isAgg88 Tryd.sizeOf88 rfl ((a4f.bring 1).at1 (o := 0) (vs := (b8 x_1)) (nb rfl) rfl)) ?_
   refine b7 (ldA Tryd.isAgg88 Tryd.sizeOf88 rfl (a4f.at1 (o := 0) (vs := (b8 a0Q)) (nb rfl) rfl)) ?_
   refine d7 (cap := []) (fun args w => Tryd.call54 args w) ?_
   refine i6 (Fi := []) (Fr := [bx c1E 88 (b8 a0Q), bx g_9 88 (b8 x_1)]) a4f (h) (fun b8j Z6 d0X y8 a6m c1F c1G b5F => ?_) (fun _ _ _ _ _ q => q.elim)
   obtain ⟨Q1, rfl, rfl, h⟩ := b5F
   refine a8 (p7 _) ?_
   refine m5 (fun a4Z => ?_) (fun a4Z => ?_)
   ·replace h := h.1 a4Z
    exact hR false Z6 _ a6m.drop.drop h
   ·replace h := h.2 a4Z
    refine a8 (s6 _ _ _ _ _ _) ?_
    exact hn2 _ _ _ (hm2 _ _ h).2 ⟨(IntKind.wrap .i64 (D2 + 1)), Z6, rfl, rfl, a6m.drop.drop, (hm2 _ _ h).1⟩
  ·replace h := h.2 a8Z
   exact hx1 _ _ (hj1 H _ I h)
theorem G6 (x0 : Sl) (x1 : Sl) {H : Hp} {K : Bool → Hp → Prop} (h : k4 x0 x1 H K) : c5 x0 x1 H K := by
 intro w I
 refine d7S ?_
 refine G3 x0 x1 I (fun r0 H' w' I' hk => ⟨H', _, I', r0, rfl, rfl, hk⟩) h
def S4 (x0 : b4) (x1 : Int) (H : Hp) (K : Bool → b4 → Hp → Prop) : Prop :=
 (¬ (x0.fbad = 0) →
 K false x0 H) ∧
 (x0.fbad = 0 →
 (x0.fn = 4096 →
 K false (b4.mk x0.fn x0.fdepth 33) H) ∧
 (¬ (x0.fn = 4096) →
 (64 < x1 →
 K false (b4.mk x0.fn x0.fdepth 32) H) ∧
 (¬ (64 < x1) →
 K true (b4.mk (IntKind.wrap .i64 (x0.fn + 1)) (if x1 > x0.fdepth then x1 else x0.fdepth) x0.fbad) H)))
theorem a6y (x0 : b4) (x1 : Int) (g0 : Nat) {w0 w : World} {ps0 : Nat → Prop} {H0 H : Hp} {K : Bool → b4 → Hp → Prop} {R : Value → World → Prop} {E : Pan} (I : Inv w0 ps0 H0 H [bx g0 99 (d5 x0)] w) (hR : ∀ (r0 : Bool) (y0 : b4) (H' : Hp) (w' : World) (_ : Inv w0 ps0 H0 H' [bx g0 99 (d5 y0)] w') (_ : K r0 y0 H'), R (Value.bool r0) w') (h : S4 x0 x1 H K) : F91 (Value.pointer (some ⟨g0, 0, none⟩)) (vi x1) w R E := by
 unfold S4 at h
 unfold F91
 refine a8 (q6 _) ?_
 refine a8 u1 ?_
 refine b7 (ld1 Tryd.isAgg3 (I.at1 (o := 2) (vs := [(vi x0.fbad)]) (nb rfl) rfl)) ?_
 refine a8 (t1 _ _ _ _ _ _) ?_
 refine a2L (fun a3h => ?_) (fun a3h => ?_)
 ·replace h := h.1 a3h
  exact hR false x0 H _ I h
 ·replace h := h.2 a3h
  refine a8 (q6 _) ?_
  refine a8 b1D ?_
  refine b7 (ld1 Tryd.isAgg3 (I.at1 (o := 0) (vs := [(vi x0.fn)]) (nb rfl) rfl)) ?_
  refine a8 (f7 _ _ _ _ _ _) ?_
  refine h9 (fun a9f => ?_) (fun a9f => ?_)
  ·replace h := h.1 a9f
   refine a8 (q6 _) ?_
   refine a8 u1 ?_
   refine o8 I Tryd.sizeOf3 (vs := [(vi 33)]) (cs' := [(vi x0.fn), (vi x0.fdepth), (vi 33)]) rfl rfl (nb rfl) rfl rfl fun w_1 I_2 k_3 => ?_
   exact hR false (b4.mk x0.fn x0.fdepth 33) H _ I_2 h
  ·replace h := h.2 a9f
   refine a8 (b0P _ _ _ _ _ _) ?_
   refine h9 (fun d2y => ?_) (fun d2y => ?_)
   ·replace h := h.1 d2y
    refine a8 (q6 _) ?_
    refine a8 u1 ?_
    refine o8 I Tryd.sizeOf3 (vs := [(vi 32)]) (cs' := [(vi x0.fn), (vi x0.fdepth), (vi 32)]) rfl rfl (nb rfl) rfl rfl fun w_4 I_5 k_6 => ?_
    exact hR false (b4.mk x0.fn x0.fdepth 32) H _ I_5 h
   ·replace h := h.2 d2y
    refine a8 (q6 _) ?_
    refine a8 b1D ?_
    refine b7 (ld1 Tryd.isAgg3 (I.at1 (o := 0) (vs := [(vi x0.fn)]) (nb rfl) rfl)) ?_
    refine a8 (s6 _ _ _ _ _ _) ?_
    refine a8 (q6 _) ?_
    refine a8 b1D ?_
    refine o8 I Tryd.sizeOf3 (vs := [(vi (IntKind.wrap .i64 (x0.fn + 1)))]) (cs' := [(vi (IntKind.wrap .i64 (x0.fn + 1))), (vi x0.fdepth), (vi x0.fbad)]) rfl rfl (nb rfl) rfl rfl fun w_7 I_8 k_9 => ?_
    refine a8 (q6 _) ?_
    refine a8 b6B ?_
    refine b7 (ld1 Tryd.isAgg3 (I_8.at1 (o := 1) (vs := [(vi x0.fdepth)]) (nb rfl) rfl)) ?_
    refine a8 (c7Z _ _ _ _ _) ?_
    refine a8 (q6 _) ?_
    refine a8 b6B ?_
    refine o8 I_8 Tryd.sizeOf3 (vs := [(vi (if x1 > x0.fdepth then x1 else x0.fdepth))]) (cs' := [(vi (IntKind.wrap .i64 (x0.fn + 1))), (vi (if x1 > x0.fdepth then x1 else x0.fdepth)), (vi x0.fbad)]) rfl rfl (nb rfl) rfl rfl fun k9 a1q b0x => ?_
    exact hR true (b4.mk (IntKind.wrap .i64 (x0.fn + 1)) (if x1 > x0.fdepth then x1 else x0.fdepth) x0.fbad) H _ a1q h
theorem a6I (x0 : b4) (x1 : Int) {H : Hp} {K : Bool → b4 → Hp → Prop} (h : S4 x0 x1 H K) : I8 x0 x1 H K := by
 intro g0 w I
 refine e1R ?_
 refine a6y x0 x1 g0 I (fun r0 y0 H' w' I' hk => ⟨H', _, I', r0, y0, rfl, rfl, hk⟩) h
def S5 (cr_11j2 : b4) (_cr_6j2 : b4) (_cr_1j2 : f6) (H : Hp) (K : b4 → Hp → Prop) : Prop :=
 K cr_11j2 H
def S6 (cr_1l3 : f6) (a5s : Int) (cr_11l3 : b4) (cr_6l3 : b4) (H : Hp) (n3 : (Int × b4 × b4) → Hp → Prop) (K : b4 → Hp → Prop) : Prop :=
 (((decide (a5s < (cr_1l3.K5.n : Int))) && (decide (cr_11l3.fbad = 0))) = true →
 (0 : Int) ≤ a5s ∧ (a5s : Int) < cr_1l3.K5.n ∧ ∃ b2H : g8, EltH H cr_1l3.K5 a5s 6 (b8 b2H) ∧
 M5 cr_11l3 b2H 1 H (fun (b0f : b4) (a9r : Hp) =>
 n3 ((IntKind.wrap .i64 (a5s + 1)), b0f, cr_6l3) a9r)) ∧
 (((decide (a5s < (cr_1l3.K5.n : Int))) && (decide (cr_11l3.fbad = 0))) = false →
 S5 cr_11l3 cr_6l3 cr_1l3 H K)
def S7 (cr_11j1 : b4) (cr_6j1 : b4) (cr_1j1 : f6) (H : Hp) (K : b4 → Hp → Prop) : Prop :=
 TL ((0, cr_11j1, cr_6j1) : Int × b4 × b4) H fun (s : Int × b4 × b4) H n3 => S6 cr_1j1 s.1 s.2.1 s.2.2 H n3 K
def S8 (cr_1l4 : f6) (a7T : Int) (cr_11l4 : b4) (cr_6l4 : b4) (H : Hp) (n4 : (Int × b4 × b4) → Hp → Prop) (K : b4 → Hp → Prop) : Prop :=
 (((decide (a7T < (cr_1l4.o7.n : Int))) && (decide (cr_11l4.fbad = 0))) = true →
 I8 cr_11l4 1 H (fun (_r0_98 : Bool) (c6D : b4) (d2z : Hp) =>
 n4 ((IntKind.wrap .i64 (a7T + 1)), c6D, cr_6l4) d2z)) ∧
 (((decide (a7T < (cr_1l4.o7.n : Int))) && (decide (cr_11l4.fbad = 0))) = false →
 S7 cr_11l4 cr_6l4 cr_1l4 H K)
def V1 (x0 : f6) (H : Hp) (K : b4 → Hp → Prop) : Prop :=
 TL ((0, (b4.mk 0 0 0), (b4.mk 0 0 0)) : Int × b4 × b4) H fun (s : Int × b4 × b4) H n4 => S8 x0 s.1 s.2.1 s.2.2 H n4 K
theorem a7B (x0 : f6) {w0 w : World} {ps0 : Nat → Prop} {H0 H : Hp} {K : b4 → Hp → Prop} {R : Value → World → Prop} {E : Pan} (I : Inv w0 ps0 H0 H [] w) (hR : ∀ (r0 : b4) (H' : Hp) (w' : World) (_ : Inv w0 ps0 H0 H' [] w') (_ : K r0 H'), R (Value.agg (d5 r0).toArray) w') (h : V1 x0 H K) : F63 (Value.agg (b6 x0).toArray) w R E := by
 unfold V1 at h
 unfold F63
 refine D8 I (cs := (b6 x0)) rfl fun g_2 w_3 I_4 k_5 => ?_
 refine C1 I_4 Tryd.zeroValue99 (cs := [(vi 0), (vi 0), (vi 0)]) rfl fun g_7 w_8 I_9 a7H => ?_
 refine a8 (c8b ) ?_
 refine C1 I_9 Tryd.zeroValue99 (cs := [(vi 0), (vi 0), (vi 0)]) rfl fun b0G a2N a1Y b5D => ?_
 refine o8 a1Y Tryd.sizeOf99 (vs := [(vi 0), (vi 0), (vi 0)]) (cs' := [(vi 0), (vi 0), (vi 0)]) rfl rfl (nb rfl) rfl rfl fun p5 b6m d2v => ?_
 have hj1 : ∀ (cr_11j1 : b4) (cr_6j1 : b4) (H : Hp) (w : World) (_ : Inv w0 ps0 H0 H [bx b0G 99 (d5 cr_11j1), bx g_7 99 (d5 cr_6j1), bx g_2 25 (b6 x0)] w) (_ : S7 cr_11j1 cr_6j1 x0 H K), c0w (Value.pointer (some ⟨g_2, 0, none⟩)) (Value.pointer (some ⟨g_7, 0, none⟩)) (Value.pointer (some ⟨b0G, 0, none⟩)) w R E := by
  intro cr_11j1 cr_6j1 H w I h
  unfold c0w
  intro _
  unfold S7 at h
  have hj2 : ∀ (cr_11j2 : b4) (cr_6j2 : b4) (H : Hp) (w : World) (_ : Inv w0 ps0 H0 H [bx b0G 99 (d5 cr_11j2), bx g_7 99 (d5 cr_6j2), bx g_2 25 (b6 x0)] w) (_ : S5 cr_11j2 cr_6j2 x0 H K), c0u (Value.pointer (some ⟨g_7, 0, none⟩)) (Value.pointer (some ⟨b0G, 0, none⟩)) w R E := by
   intro cr_11j2 cr_6j2 H w I h
   unfold c0u
   intro _
   unfold S5 at h
   refine b7 (ldA Tryd.isAgg99 Tryd.sizeOf99 rfl (I.at1 (o := 0) (vs := (d5 cr_11j2)) (nb rfl) rfl)) ?_
   refine o8 (I.bring 1) Tryd.sizeOf99 (vs := (d5 cr_11j2)) (cs' := (d5 cr_11j2)) rfl rfl (nb rfl) rfl rfl fun I0 b2i e6a => ?_
   refine d4n Tryd.isAgg99 Tryd.sizeOf99 rfl (b2i.at1 (o := 0) (vs := (d5 cr_11j2)) (nb rfl) rfl) ?_
   exact hR cr_11j2 H _ b2i.drop.drop.drop h
  refine t7 fun j2 hx2 => ?_
  obtain ⟨a5t, a1I, b6o, b6p⟩ := h
  refine y9 (J := fun n l w => ∃ (s : Int × b4 × b4) (H : Hp) , n = a1I s ∧ l = (match s with | (a5s, cr_11l3, cr_6l3) => [(vi a5s)]) ∧ (match s with | (a5s, cr_11l3, cr_6l3) => Inv w0 ps0 H0 H [bx b0G 99 (d5 cr_11l3), bx g_7 99 (d5 cr_6l3), bx g_2 25 (b6 x0)] w) ∧ a5t s H) ⟨_, (0, cr_11j1, cr_6j1), H, rfl, rfl, (((I.bring 2).bring 2).bring 2), b6o⟩ ?_
  rintro d2A τ_78 w next3 ⟨⟨a5s, cr_11l3, cr_6l3⟩, H, rfl, a2Z, I, b6q⟩ hn3
  dsimp only at a2Z I
  simp only [List.map_cons, List.map_nil, List.cons.injEq, and_true] at a2Z
  have e5 := a2Z
  simp only [e5]
  obtain ⟨n3, hm3, h⟩ : ∃ n3 : (Int × b4 × b4) → Hp → Prop, (∀ s' H', n3 s' H' → a5t s' H' ∧ a1I s' < a1I (a5s, cr_11l3, cr_6l3)) ∧ S6 x0 a5s cr_11l3 cr_6l3 H n3 K := ⟨_, fun _ _ h => h, b6p (a5s, cr_11l3, cr_6l3) H (fun s' H' => a5t s' H' ∧ a1I s' < a1I (a5s, cr_11l3, cr_6l3)) b6q (fun _ _ a b => ⟨a, b⟩)⟩
  unfold c8y
  unfold S6 at h
  refine a8 M9 ?_
  refine b7 (ld1 Tryd.isAgg23 ((I.bring 2).at1 (o := 1) (vs := [(vs x0.K5)]) (nb rfl) rfl)) ?_
  refine a8 (M6 _ _ _) ?_
  refine a8 (C4 _ _ _ _ _ _) ?_
  refine a8 (Pu.g fun hb => by have a7 := hb; first | exact u1 | (simp only [b5 a7, b3 a7, b3 hb, q8 a7]; exact u1) | (simp only [b5 a7, b3 a7, b3 hb, d9 a7, d6]; exact u1)) ?_
  refine b7 (Ld.g fun hb => by have a7 := hb; first | exact (ld1 Tryd.isAgg3 (I.at1 (o := 2) (vs := [(vi cr_11l3.fbad)]) (nb rfl) rfl)) | (simp only [b3 a7]; exact (ld1 Tryd.isAgg3 (I.at1 (o := 2) (vs := [(vi cr_11l3.fbad)]) (nb rfl) rfl))) | (simp only [b5 a7, b3 a7, b3 hb, d9 a7, d6]; exact (ld1 Tryd.isAgg3 (I.at1 (o := 2) (vs := [(vi cr_11l3.fbad)]) (nb rfl) rfl)))) ?_
  refine a8 (Pu.g fun hb => by have a7 := hb; first | exact (f7 _ _ _ _ _ _) | (simp only [b3 a7]; exact (f7 _ _ _ _ _ _)) | (simp only [b5 a7, b3 a7, b3 hb, d9 a7, d6]; exact (f7 _ _ _ _ _ _))) ?_
  refine a8 (u5 _ _) ?_
  refine m5 (fun a3r => ?_) (fun a3r => ?_)
  ·replace h := h.1 a3r
   refine a8 M9 ?_
   refine b7 (ld1 Tryd.isAgg23 ((I.bring 2).at1 (o := 1) (vs := [(vs x0.K5)]) (nb rfl) rfl)) ?_
   obtain ⟨b5H, c2q, b2H, b2j, h⟩ := h
   obtain ⟨f4r, f4s, d2B, b2j⟩ := b2j
   refine a8 (a2W d2B _ _ _ _ b5H c2q) ?_
   refine b7 (ldA (vs := (b8 b2H)) Tryd.isAgg88 Tryd.sizeOf88 rfl (I.atH b2j)) ?_
   refine d7 (cap := []) (fun args w => Tryd.call92 args w) ?_
   refine i6 (Fi := [bx b0G 99 (d5 cr_11l3)]) (Fr := [bx g_7 99 (d5 cr_6l3), bx g_2 25 (b6 x0)]) I (h b0G) (fun e6s a9r e6t R2 b4n b4l d2C c2r => ?_) (fun _ _ _ _ _ q => q.elim)
   obtain ⟨b0f, rfl, rfl, h⟩ := c2r
   refine a8 (s6 _ _ _ _ _ _) ?_
   exact hn3 _ _ _ (hm3 _ _ h).2 ⟨((IntKind.wrap .i64 (a5s + 1)), b0f, cr_6l3), a9r, rfl, rfl, (((b4n.bring 2).bring 2).bring 2), (hm3 _ _ h).1⟩
  ·replace h := h.2 a3r
   exact hx2 _ _ (hj2 cr_11l3 cr_6l3 H _ (((I.bring 2).bring 2).bring 2) h)
 refine t7 fun j1 hx1 => ?_
 obtain ⟨c6E, b7m, f0z, f0A⟩ := h
 refine y9 (J := fun n l w => ∃ (s : Int × b4 × b4) (H : Hp) , n = b7m s ∧ l = (match s with | (a7T, cr_11l4, cr_6l4) => [(vi a7T)]) ∧ (match s with | (a7T, cr_11l4, cr_6l4) => Inv w0 ps0 H0 H [bx b0G 99 (d5 cr_11l4), bx g_7 99 (d5 cr_6l4), bx g_2 25 (b6 x0)] w) ∧ c6E s H) ⟨_, (0, (b4.mk 0 0 0), (b4.mk 0 0 0)), H, rfl, rfl, (((b6m.bring 2).bring 2).bring 2), f0z⟩ ?_
 rintro f6e τ_105 w next4 ⟨⟨a7T, cr_11l4, cr_6l4⟩, H, rfl, c6F, I, f0B⟩ hn4
 dsimp only at c6F I
 simp only [List.map_cons, List.map_nil, List.cons.injEq, and_true] at c6F
 have e4 := c6F
 simp only [e4]
 obtain ⟨n4, hm4, h⟩ : ∃ n4 : (Int × b4 × b4) → Hp → Prop, (∀ s' H', n4 s' H' → c6E s' H' ∧ b7m s' < b7m (a7T, cr_11l4, cr_6l4)) ∧ S8 x0 a7T cr_11l4 cr_6l4 H n4 K := ⟨_, fun _ _ h => h, f0A (a7T, cr_11l4, cr_6l4) H (fun s' H' => c6E s' H' ∧ b7m s' < b7m (a7T, cr_11l4, cr_6l4)) f0B (fun _ _ a b => ⟨a, b⟩)⟩
 unfold c8z
 unfold S8 at h
 refine a8 J9 ?_
 refine b7 (ld1 Tryd.isAgg22 ((I.bring 2).at1 (o := 0) (vs := [(vs x0.o7)]) (nb rfl) rfl)) ?_
 refine a8 (X0 _ _ _) ?_
 refine a8 (C4 _ _ _ _ _ _) ?_
 refine a8 (Pu.g fun hb => by have a7 := hb; first | exact u1 | (simp only [b5 a7, b3 a7, b3 hb, q8 a7]; exact u1) | (simp only [b5 a7, b3 a7, b3 hb, d9 a7, d6]; exact u1)) ?_
 refine b7 (Ld.g fun hb => by have a7 := hb; first | exact (ld1 Tryd.isAgg3 (I.at1 (o := 2) (vs := [(vi cr_11l4.fbad)]) (nb rfl) rfl)) | (simp only [b3 a7]; exact (ld1 Tryd.isAgg3 (I.at1 (o := 2) (vs := [(vi cr_11l4.fbad)]) (nb rfl) rfl))) | (simp only [b5 a7, b3 a7, b3 hb, d9 a7, d6]; exact (ld1 Tryd.isAgg3 (I.at1 (o := 2) (vs := [(vi cr_11l4.fbad)]) (nb rfl) rfl)))) ?_
 refine a8 (Pu.g fun hb => by have a7 := hb; first | exact (f7 _ _ _ _ _ _) | (simp only [b3 a7]; exact (f7 _ _ _ _ _ _)) | (simp only [b5 a7, b3 a7, b3 hb, d9 a7, d6]; exact (f7 _ _ _ _ _ _))) ?_
 refine a8 (u5 _ _) ?_
 refine m5 (fun d2D => ?_) (fun d2D => ?_)
 ·replace h := h.1 d2D
  refine d7 (cap := []) (fun args w => Tryd.call91 args w) ?_
  refine i6 (Fi := [bx b0G 99 (d5 cr_11l4)]) (Fr := [bx g_7 99 (d5 cr_6l4), bx g_2 25 (b6 x0)]) I (h b0G) (fun f8P d2z f8Q f8R f4t e4a f8S f4u => ?_) (fun _ _ _ _ _ q => q.elim)
  obtain ⟨f6f, c6D, rfl, rfl, h⟩ := f4u
  refine a8 (s6 _ _ _ _ _ _) ?_
  exact hn4 _ _ _ (hm4 _ _ h).2 ⟨((IntKind.wrap .i64 (a7T + 1)), c6D, cr_6l4), d2z, rfl, rfl, (((f4t.bring 2).bring 2).bring 2), (hm4 _ _ h).1⟩
 ·replace h := h.2 d2D
  exact hx1 _ _ (hj1 cr_11l4 cr_6l4 H _ (((I.bring 2).bring 2).bring 2) h)
theorem a7U (x0 : f6) {H : Hp} {K : b4 → Hp → Prop} (h : V1 x0 H K) : a1e x0 H K := by
 intro w I
 refine d9Y ?_
 refine a7B x0 I (fun r0 H' w' I' hk => ⟨H', _, I', r0, rfl, rfl, hk⟩) h
def a1y (x0 : h7) (H : Hp) (K : b9 → Hp → Prop) : Prop :=
 K (b9.D1 (E9.mk x0)) H
theorem b1o (x0 : h7) {w0 w : World} {ps0 : Nat → Prop} {H0 H : Hp} {K : b9 → Hp → Prop} {R : Value → World → Prop} {E : Pan} (I : Inv w0 ps0 H0 H [] w) (hR : ∀ (r0 : b9) (H' : Hp) (w' : World) (_ : Inv w0 ps0 H0 H' [] w') (_ : K r0 H'), R (u2 r0) w') (h : a1y x0 H K) : c5i (Value.agg (c8 x0).toArray) w R E := by
 unfold a1y at h
 unfold c5i
 refine D8 I (cs := (c8 x0)) rfl fun g_2 w_3 I_4 k_5 => ?_
 refine b7 (ldA Tryd.isAgg30 Tryd.sizeOf30 rfl (I_4.at1 (o := 0) (vs := (c8 x0)) (nb rfl) rfl)) ?_
 refine a8 (c3x _ _ _ _ _ _) ?_
 refine a8 (b2V (E9.mk x0)) ?_
 exact hR (b9.D1 (E9.mk x0)) H _ I_4.drop h
theorem b2I (x0 : h7) {H : Hp} {K : b9 → Hp → Prop} (h : a1y x0 H K) : a6k x0 H K := by
 intro w I
 refine d6b ?_
 refine b1o x0 I (fun r0 H' w' I' hk => ⟨H', _, I', r0, rfl, rfl, hk⟩) h
def Y6 (x0 : E9) (H : Hp) (K : Sl → Hp → Prop) : Prop :=
 r5 x0.i7.m9 H (fun (E3 : Sl) (H_6 : Hp) =>
 K E3 H_6)
theorem a8j (x0 : E9) {w0 w : World} {ps0 : Nat → Prop} {H0 H : Hp} {K : Sl → Hp → Prop} {R : Value → World → Prop} {E : Pan} (I : Inv w0 ps0 H0 H [] w) (hR : ∀ (r0 : Sl) (H' : Hp) (w' : World) (_ : Inv w0 ps0 H0 H' [] w') (_ : K r0 H'), R (vs r0) w') (h : Y6 x0 H K) : c5g (Value.agg (c8 x0.i7).toArray) w R E := by
 unfold Y6 at h
 unfold c5g
 refine D8 I (cs := (c8 x0.i7)) rfl fun g_2 w_3 I_4 k_5 => ?_
 refine a8 L5 ?_
 refine a8 F0 ?_
 refine b7 (ld1 Tryd.isAgg28 (I_4.at1 (o := 3) (vs := [(vs x0.i7.m9)]) (nb rfl) rfl)) ?_
 refine d7 (cap := []) (fun args w => Tryd.call150 args w) ?_
 refine i6 (Fi := []) (Fr := [bx g_2 96 (c8 x0.i7)]) I_4 (h) (fun a7K H_6 a7L w_7 I_8 a7M k_9 a1f => ?_) (fun _ _ _ _ _ q => q.elim)
 obtain ⟨E3, rfl, rfl, h⟩ := a1f
 exact hR E3 H_6 _ I_8.drop h
theorem a9s (x0 : E9) {H : Hp} {K : Sl → Hp → Prop} (h : Y6 x0 H K) : a4a x0 H K := by
 intro w I
 refine d5X ?_
 refine a8j x0 I (fun r0 H' w' I' hk => ⟨H', _, I', r0, rfl, rfl, hk⟩) h
end Go.Proofs.YthldnpmfelniiaaDoor
