/- Typed formulas of the program's functions, and the theorems that the contracts follow from them; printed by lift.py off the code. -/
import Derived.Test.YthldnpmfelniiaaDoorzXV1
namespace Go.Proofs.YthldnpmfelniiaaDoor
open Go.RowKit
set_option maxRecDepth 100000
set_option maxHeartbeats 2000000
def a2W (x0 : i5) (H : Hp) (K : c8 → Hp → Prop) : Prop :=
 K (c8.C9 (K4.mk x0)) H
theorem b3h (x0 : i5) {w0 w : World} {ps0 : Nat → Prop} {H0 H : Hp} {K : c8 → Hp → Prop} {R : Value → World → Prop} {E : Pan} (I : Inv w0 ps0 H0 H [] w) (hR : ∀ (r0 : c8) (H' : Hp) (w' : World) (_ : Inv w0 ps0 H0 H' [] w') (_ : K r0 H'), R (u0 r0) w') (h : a2W x0 H K) : F98 (Value.agg (d6 x0).toArray) w R E := by
 unfold a2W at h
 unfold F98
 refine J4 I (cs := (d6 x0)) rfl fun g_2 w_3 I_4 k_5 => ?_
 refine c5 (ldA Tryd.isAgg88 Tryd.sizeOf88 rfl (I_4.at1 (o := 0) (vs := (d6 x0)) (nb rfl) rfl)) ?_
 refine a7 (c2X _ _ _ _ _ _ _ _ _ _ _ _ _ _) ?_
 refine a7 (c0K (K4.mk x0)) ?_
 exact hR (c8.C9 (K4.mk x0)) H _ I_4.drop h
theorem b4h (x0 : i5) {H : Hp} {K : c8 → Hp → Prop} (h : a2W x0 H K) : a7T x0 H K := by
 intro w I
 refine e8b ?_
 refine b3h x0 I (fun r0 H' w' I' hk => ⟨H', _, I', r0, rfl, rfl, hk⟩) h
def u7 (S3 : (List c8)) (H : Hp) (K : Sl → Hp → Prop) : Prop :=
 ∀ (C0 : Sl) (a1O : Hp), Hle H a1O → SlH a1O 1 m7 C0 S3 → C0.n ≤ C0.c →
 K C0 a1O
def u9 (N2 : Sl) (a7W : Int) (p6 : (List c8)) (q9 : Int) (H : Hp) (n2 : ((List c8) × Int) → Hp → Prop) (K : Sl → Hp → Prop) : Prop :=
 (q9 < a7W →
 (0 : Int) ≤ q9 ∧ (q9 : Int) < N2.n ∧ ∃ x_1 : i5, EltH H N2 q9 6 (d6 x_1) ∧
 a7T x_1 H (fun (N0 : c8) (a2R : Hp) =>
 (p6.length + ([N0] : List c8).length) * 17 ≤ 140737488355328 ∧
 n2 ((p6 ++ [N0]), (IntKind.wrap .i64 (q9 + 1))) a2R)) ∧
 (¬ (q9 < a7W) →
 u7 p6 H K)
def y9 (x0 : Sl) (H : Hp) (K : Sl → Hp → Prop) : Prop :=
 TL (([], 0) : (List c8) × Int) H fun (s : (List c8) × Int) H n2 => u9 x0 (x0.n : Int) s.1 s.2 H n2 K
theorem a1J (x0 : Sl) {w0 w : World} {ps0 : Nat → Prop} {H0 H : Hp} {K : Sl → Hp → Prop} {R : Value → World → Prop} {E : Pan} (I : Inv w0 ps0 H0 H [] w) (hR : ∀ (r0 : Sl) (H' : Hp) (w' : World) (_ : Inv w0 ps0 H0 H' [] w') (_ : K r0 H'), R (vs r0) w') (h : y9 x0 H K) : F97 (vs x0) (Value.func (.func 98) #[] #[]) w R E := by
 unfold y9 at h
 unfold F97
 have hj1 : ∀ (S3 : (List c8)) (C0 : Sl) (Fs5j1 : Frag) (H : Hp) (w : World) (_ : RowL 141 1 m7 C0 S3 Fs5j1) (_ : Inv w0 ps0 H0 H [Fs5j1] w) (_ : u7 S3 H K), c3T (vs C0) w R E := by
  intro S3 C0 Fs5j1 H w b0h I h
  unfold c3T
  intro _
  unfold u7 at h
  obtain ⟨a1O, a8X, b5X, b7O, b3Q⟩ := Inv.freezeC I b0h (by decide)
  replace h := h C0 a1O b5X b7O b3Q
  exact hR C0 a1O _ a8X h
 refine m6 fun j1 hx1 => ?_
 refine a7 (D6 _ _ _) ?_
 obtain ⟨a6L, a3p, b7P, b7Q⟩ := h
 refine p9 (J := fun n l w => ∃ (s : (List c8) × Int) (H : Hp) (S4 : Sl) (Fs5l2 : Frag) , n = a3p s ∧ l = (match s with | (p6, q9) => [(vs S4), (vi q9)]) ∧ (match s with | (p6, q9) => RowL 141 1 m7 S4 p6 Fs5l2) ∧ (match s with | (p6, q9) => Inv w0 ps0 H0 H [Fs5l2] w) ∧ a6L s H) ⟨_, ([], 0), H, (Sl.mk none 0 0), [], rfl, rfl, (RowL.nil N1 R2), I.nil, b7P⟩ ?_
 rintro d6f τ_50 w next2 ⟨⟨p6, q9⟩, H, S4, Fs5l2, rfl, a5Q, a2S, I, b5Y⟩ hn2
 dsimp only at a5Q I a2S
 simp only [List.map_cons, List.map_nil, List.cons.injEq, and_true] at a5Q
 obtain ⟨e5, e10⟩ := a5Q
 simp only [e5, e10]
 obtain ⟨n2, hm2, h⟩ : ∃ n2 : ((List c8) × Int) → Hp → Prop, (∀ s' H', n2 s' H' → a6L s' H' ∧ a3p s' < a3p (p6, q9)) ∧ u9 x0 (x0.n : Int) p6 q9 H n2 K := ⟨_, fun _ _ h => h, b7Q (p6, q9) H (fun s' H' => a6L s' H' ∧ a3p s' < a3p (p6, q9)) b5Y (fun _ _ a b => ⟨a, b⟩)⟩
 unfold d3K
 unfold u9 at h
 refine a7 (o2 _ _ _ _ _ _) ?_
 refine g6 (fun a4Y => ?_) (fun a4Y => ?_)
 ·replace h := h.1 a4Y
  obtain ⟨h_4, h_5, x_1, h_7, h⟩ := h
  obtain ⟨g_2, o_3, h_6, h_7⟩ := h_7
  refine a7 (a4O h_6 _ _ _ _ h_4 h_5) ?_
  refine c5 (ldA (vs := (d6 x_1)) Tryd.isAgg88 Tryd.sizeOf88 rfl (I.atH h_7)) ?_
  refine G4 I Tryd.zeroValue88 (cs := [(vi 0), (Value.string ⟨#[]⟩), (Value.slice none 0 0), (Value.slice none 0 0), (Value.slice none 0 0), (Value.slice none 0 0)]) rfl fun g_9 m2 a3q b3R => ?_
  refine p7 a3q Tryd.sizeOf88 (vs := (d6 x_1)) (cs' := (d6 x_1)) rfl rfl (nb rfl) rfl rfl fun a2K a3r c1d => ?_
  refine c5 (ldA Tryd.isAgg88 Tryd.sizeOf88 rfl (a3r.at1 (o := 0) (vs := (d6 x_1)) (nb rfl) rfl)) ?_
  refine f6 (cap := []) (fun args w => Tryd.call98 args w) ?_
  refine i6 (Fi := []) (Fr := [bx g_9 88 (d6 x_1), Fs5l2]) a3r (h) (fun c4x a2R c4y a4G a3s c4z b7R b1g => ?_) (fun _ _ _ _ _ q => q.elim)
  obtain ⟨N0, rfl, rfl, h⟩ := b1g
  refine a5y (e := 141) (c := m7) (xs := [N0]) a3s (b6K _) rfl rfl N1 R2 (nb rfl) fun c4A b5Z w9 b1h a5C b7S => ?_
  obtain ⟨b3S, h⟩ := h
  refine b5h (s := S4) (xs := p6) (a5C.bring 2) a2S (b1h.srcO ((a5C.bring 2).bring 1)) b3S fun b7T b6a z7 a8Y a9N c9E => ?_
  refine a7 (m4 _ _ _ _ _ _) ?_
  exact hn2 _ _ _ (hm2 _ _ h).2 ⟨((p6 ++ [N0]), (IntKind.wrap .i64 (q9 + 1))), a2R, b7T, b6a, rfl, rfl, a8Y, ((a9N.bring 1).drop.bring 1).drop, (hm2 _ _ h).1⟩
 ·replace h := h.2 a4Y
  exact hx1 _ _ (hj1 p6 S4 Fs5l2 H _ a2S I h)
theorem a1R (x0 : Sl) {H : Hp} {K : Sl → Hp → Prop} (h : y9 x0 H K) : r8 x0 H K := by
 intro w I
 refine e7Z ?_
 refine a1J x0 I (fun r0 H' w' I' hk => ⟨H', _, I', r0, rfl, rfl, hk⟩) h
def A4 (b6W : Bool) (_cr_1j4 : Int) (H : Hp) (K : Int → Hp → Prop) : Prop :=
 (b6W = true →
 K 3 H) ∧
 (b6W = false →
 K 6 H)
def L4 (b6X : Bool) (cr_1j3 : Int) (H : Hp) (K : Int → Hp → Prop) : Prop :=
 (b6X = true →
 K 6 H) ∧
 (b6X = false →
 F8 48 57 cr_1j3 H (fun (o9 : Bool) (H_6 : Hp) =>
 (o9 = true →
 K 4 H_6) ∧
 (o9 = false →
 (cr_1j3 = 95 →
 A4 (decide (cr_1j3 = 95)) cr_1j3 H_6 K) ∧
 (¬ (cr_1j3 = 95) →
 F8 97 122 cr_1j3 H_6 (fun (N0 : Bool) (a2R : Hp) =>
 (N0 = true →
 A4 N0 cr_1j3 a2R K) ∧
 (N0 = false →
 F8 65 90 cr_1j3 a2R (fun (b9P : Bool) (d0l : Hp) =>
 (b9P = true →
 A4 b9P cr_1j3 d0l K) ∧
 (b9P = false →
 F8 192 591 cr_1j3 d0l (fun (b9Q : Bool) (d0m : Hp) =>
 (b9Q = true →
 A4 b9Q cr_1j3 d0m K) ∧
 (b9Q = false →
 F8 913 969 cr_1j3 d0m (fun (a5c : Bool) (a6o : Hp) =>
 (a5c = true →
 A4 a5c cr_1j3 a6o K) ∧
 (a5c = false →
 F8 1040 1103 cr_1j3 a6o (fun (d0n : Bool) (d6B : Hp) =>
 A4 d0n cr_1j3 d6B K)))))))))))))
def k7 (b4i : Int) (b6Y : Bool) (cr_1j2 : Int) (H : Hp) (K : Int → Hp → Prop) : Prop :=
 (b6Y = true →
 K 5 H) ∧
 (b6Y = false →
 (b4i = 215 →
 L4 (decide (b4i = 215)) cr_1j2 H K) ∧
 (¬ (b4i = 215) →
 (b4i = 247 →
 L4 (decide (b4i = 247)) cr_1j2 H K) ∧
 (¬ (b4i = 247) →
 L4 (decide (b4i = 930)) cr_1j2 H K)))
def L5 (m0 : Int) (a0Q : Bool) (cr_1j1 : Int) (H : Hp) (K : Int → Hp → Prop) : Prop :=
 (a0Q = true →
 K 1 H) ∧
 (a0Q = false →
 (m0 = 10 →
 K 2 H) ∧
 (¬ (m0 = 10) →
 (m0 = 59 →
 k7 m0 (decide (m0 = 59)) cr_1j1 H K) ∧
 (¬ (m0 = 59) →
 (m0 = 44 →
 k7 m0 (decide (m0 = 44)) cr_1j1 H K) ∧
 (¬ (m0 = 44) →
 (m0 = 123 →
 k7 m0 (decide (m0 = 123)) cr_1j1 H K) ∧
 (¬ (m0 = 123) →
 (m0 = 125 →
 k7 m0 (decide (m0 = 125)) cr_1j1 H K) ∧
 (¬ (m0 = 125) →
 (m0 = 40 →
 k7 m0 (decide (m0 = 40)) cr_1j1 H K) ∧
 (¬ (m0 = 40) →
 (m0 = 41 →
 k7 m0 (decide (m0 = 41)) cr_1j1 H K) ∧
 (¬ (m0 = 41) →
 (m0 = 91 →
 k7 m0 (decide (m0 = 91)) cr_1j1 H K) ∧
 (¬ (m0 = 91) →
 (m0 = 93 →
 k7 m0 (decide (m0 = 93)) cr_1j1 H K) ∧
 (¬ (m0 = 93) →
 (m0 = 61 →
 k7 m0 (decide (m0 = 61)) cr_1j1 H K) ∧
 (¬ (m0 = 61) →
 (m0 = 33 →
 k7 m0 (decide (m0 = 33)) cr_1j1 H K) ∧
 (¬ (m0 = 33) →
 (m0 = 60 →
 k7 m0 (decide (m0 = 60)) cr_1j1 H K) ∧
 (¬ (m0 = 60) →
 (m0 = 62 →
 k7 m0 (decide (m0 = 62)) cr_1j1 H K) ∧
 (¬ (m0 = 62) →
 (m0 = 43 →
 k7 m0 (decide (m0 = 43)) cr_1j1 H K) ∧
 (¬ (m0 = 43) →
 (m0 = 45 →
 k7 m0 (decide (m0 = 45)) cr_1j1 H K) ∧
 (¬ (m0 = 45) →
 (m0 = 42 →
 k7 m0 (decide (m0 = 42)) cr_1j1 H K) ∧
 (¬ (m0 = 42) →
 (m0 = 47 →
 k7 m0 (decide (m0 = 47)) cr_1j1 H K) ∧
 (¬ (m0 = 47) →
 (m0 = 37 →
 k7 m0 (decide (m0 = 37)) cr_1j1 H K) ∧
 (¬ (m0 = 37) →
 (m0 = 38 →
 k7 m0 (decide (m0 = 38)) cr_1j1 H K) ∧
 (¬ (m0 = 38) →
 k7 m0 (decide (m0 = 124)) cr_1j1 H K))))))))))))))))))))
def a3B (x0 : Int) (H : Hp) (K : Int → Hp → Prop) : Prop :=
 (x0 = 32 →
 L5 x0 (decide (x0 = 32)) x0 H K) ∧
 (¬ (x0 = 32) →
 (x0 = 9 →
 L5 x0 (decide (x0 = 9)) x0 H K) ∧
 (¬ (x0 = 9) →
 L5 x0 (decide (x0 = 13)) x0 H K))
theorem b4j (x0 : Int) {w0 w : World} {ps0 : Nat → Prop} {H0 H : Hp} {K : Int → Hp → Prop} {R : Value → World → Prop} {E : Pan} (I : Inv w0 ps0 H0 H [] w) (hR : ∀ (r0 : Int) (H' : Hp) (w' : World) (_ : Inv w0 ps0 H0 H' [] w') (_ : K r0 H'), R (vi r0) w') (h : a3B x0 H K) : c9m (Value.int .i32 x0) w R E := by
 unfold a3B at h
 unfold c9m
 refine J4 I (cs := [(Value.int .i32 x0)]) rfl fun g_2 w_3 I_4 k_5 => ?_
 refine c5 (ld1 Tryd.isAgg21 (I_4.at1 (o := 0) (vs := [(Value.int .i32 x0)]) (nb rfl) rfl)) ?_
 have hj1 : ∀ (a0Q : Bool) (H : Hp) (w : World) (_ : Inv w0 ps0 H0 H [bx g_2 21 [(Value.int .i32 x0)]] w) (_ : L5 x0 a0Q x0 H K), c0S (Value.pointer (some ⟨g_2, 0, none⟩)) (Value.int .i32 x0) (Value.bool a0Q) w R E := by
  intro a0Q H w I h
  unfold c0S
  intro _
  unfold L5 at h
  refine k8 (fun d6C => ?_) (fun d6C => ?_)
  ·replace h := h.1 d6C
   exact hR 1 H _ I.drop h
  ·replace h := h.2 d6C
   refine a7 (d4 _ _ _ _ _ _) ?_
   refine g6 (fun d6D => ?_) (fun d6D => ?_)
   ·replace h := h.1 d6D
    exact hR 2 H _ I.drop h
   ·replace h := h.2 d6D
    have hj2 : ∀ (b6Y : Bool) (H : Hp) (w : World) (_ : Inv w0 ps0 H0 H [bx g_2 21 [(Value.int .i32 x0)]] w) (_ : k7 x0 b6Y x0 H K), c0R (Value.pointer (some ⟨g_2, 0, none⟩)) (Value.int .i32 x0) (Value.bool b6Y) w R E := by
     intro b6Y H w I h
     unfold c0R
     intro _
     unfold k7 at h
     refine k8 (fun d6E => ?_) (fun d6E => ?_)
     ·replace h := h.1 d6E
      exact hR 5 H _ I.drop h
     ·replace h := h.2 d6E
      have hj3 : ∀ (b6X : Bool) (H : Hp) (w : World) (_ : Inv w0 ps0 H0 H [bx g_2 21 [(Value.int .i32 x0)]] w) (_ : L4 b6X x0 H K), c0Q (Value.pointer (some ⟨g_2, 0, none⟩)) (Value.bool b6X) w R E := by
       intro b6X H w I h
       unfold c0Q
       intro _
       unfold L4 at h
       refine k8 (fun b8n => ?_) (fun b8n => ?_)
       ·replace h := h.1 b8n
        exact hR 6 H _ I.drop h
       ·replace h := h.2 b8n
        refine a7 (a5s _ _ _) ?_
        refine f6 (cap := [(Value.pointer (some ⟨g_2, 0, none⟩))]) (fun args w => Tryd.call131 args w) ?_
        refine i6 (Fi := [bx g_2 21 [(Value.int .i32 x0)]]) (Fr := []) I (h g_2) (fun a5D H_6 a5E w_7 I_8 a4J k_9 R3 => ?_) (fun _ _ _ _ _ q => q.elim)
        obtain ⟨o9, rfl, rfl, h⟩ := R3
        refine k8 (fun b8o => ?_) (fun b8o => ?_)
        ·replace h := h.1 b8o
         exact hR 4 H_6 _ I_8.drop h
        ·replace h := h.2 b8o
         have hj4 : ∀ (b6W : Bool) (H : Hp) (w : World) (_ : Inv w0 ps0 H0 H [bx g_2 21 [(Value.int .i32 x0)]] w) (_ : A4 b6W x0 H K), c0P (Value.bool b6W) w R E := by
          intro b6W H w I h
          unfold c0P
          intro _
          unfold A4 at h
          refine k8 (fun a4X => ?_) (fun a4X => ?_)
          ·replace h := h.1 a4X
           exact hR 3 H _ I.drop h
          ·replace h := h.2 a4X
           exact hR 6 H _ I.drop h
         refine m6 fun j4 hx4 => ?_
         refine c5 (ld1 Tryd.isAgg21 (I_8.at1 (o := 0) (vs := [(Value.int .i32 x0)]) (nb rfl) rfl)) ?_
         refine a7 (d4 _ _ _ _ _ _) ?_
         refine g6 (fun b8f => ?_) (fun b8f => ?_)
         ·replace h := h.1 b8f
          exact hx4 _ _ (hj4 (decide (x0 = 95)) H_6 _ I_8 h)
         ·replace h := h.2 b8f
          refine f6 (cap := [(Value.pointer (some ⟨g_2, 0, none⟩))]) (fun args w => Tryd.call131 args w) ?_
          refine i6 (Fi := [bx g_2 21 [(Value.int .i32 x0)]]) (Fr := []) I_8 (h g_2) (fun c4x a2R c4y a4G a3s c4z b7R b1g => ?_) (fun _ _ _ _ _ q => q.elim)
          obtain ⟨N0, rfl, rfl, h⟩ := b1g
          refine k8 (fun d6F => ?_) (fun d6F => ?_)
          ·replace h := h.1 d6F
           exact hx4 _ _ (hj4 N0 a2R _ a3s h)
          ·replace h := h.2 d6F
           refine f6 (cap := [(Value.pointer (some ⟨g_2, 0, none⟩))]) (fun args w => Tryd.call131 args w) ?_
           refine i6 (Fi := [bx g_2 21 [(Value.int .i32 x0)]]) (Fr := []) a3s (h g_2) (fun h1r d0l h1s u1 f1o h1t h1u g5i => ?_) (fun _ _ _ _ _ q => q.elim)
           obtain ⟨b9P, rfl, rfl, h⟩ := g5i
           refine k8 (fun b8p => ?_) (fun b8p => ?_)
           ·replace h := h.1 b8p
            exact hx4 _ _ (hj4 b9P d0l _ f1o h)
           ·replace h := h.2 b8p
            refine f6 (cap := [(Value.pointer (some ⟨g_2, 0, none⟩))]) (fun args w => Tryd.call131 args w) ?_
            refine i6 (Fi := [bx g_2 21 [(Value.int .i32 x0)]]) (Fr := []) f1o (h g_2) (fun h1v d0m g5j e5R a9N b5X c9E g5k => ?_) (fun _ _ _ _ _ q => q.elim)
            obtain ⟨b9Q, rfl, rfl, h⟩ := g5k
            refine k8 (fun d6G => ?_) (fun d6G => ?_)
            ·replace h := h.1 d6G
             exact hx4 _ _ (hj4 b9Q d0m _ a9N h)
            ·replace h := h.2 d6G
             refine f6 (cap := [(Value.pointer (some ⟨g_2, 0, none⟩))]) (fun args w => Tryd.call131 args w) ?_
             refine i6 (Fi := [bx g_2 21 [(Value.int .i32 x0)]]) (Fr := []) a9N (h g_2) (fun g4S a6o g4T B9 b3Z g4U f1h d6r => ?_) (fun _ _ _ _ _ q => q.elim)
             obtain ⟨a5c, rfl, rfl, h⟩ := d6r
             refine k8 (fun d6H => ?_) (fun d6H => ?_)
             ·replace h := h.1 d6H
              exact hx4 _ _ (hj4 a5c a6o _ b3Z h)
             ·replace h := h.2 d6H
              refine f6 (cap := [(Value.pointer (some ⟨g_2, 0, none⟩))]) (fun args w => Tryd.call131 args w) ?_
              refine i6 (Fi := [bx g_2 21 [(Value.int .i32 x0)]]) (Fr := []) b3Z (h g_2) (fun h1w d6B h1x d5U g5l h1y h1z g5m => ?_) (fun _ _ _ _ _ q => q.elim)
              obtain ⟨d0n, rfl, rfl, h⟩ := g5m
              exact hx4 _ _ (hj4 d0n d6B _ g5l h)
      refine m6 fun j3 hx3 => ?_
      refine a7 (d4 _ _ _ _ _ _) ?_
      refine g6 (fun b8c => ?_) (fun b8c => ?_)
      ·replace h := h.1 b8c
       exact hx3 _ _ (hj3 (decide (x0 = 215)) H _ I h)
      ·replace h := h.2 b8c
       refine a7 (d4 _ _ _ _ _ _) ?_
       refine g6 (fun b8q => ?_) (fun b8q => ?_)
       ·replace h := h.1 b8q
        exact hx3 _ _ (hj3 (decide (x0 = 247)) H _ I h)
       ·replace h := h.2 b8q
        refine a7 (d4 _ _ _ _ _ _) ?_
        exact hx3 _ _ (hj3 (decide (x0 = 930)) H _ I h)
    refine m6 fun j2 hx2 => ?_
    refine a7 (d4 _ _ _ _ _ _) ?_
    refine g6 (fun d6I => ?_) (fun d6I => ?_)
    ·replace h := h.1 d6I
     exact hx2 _ _ (hj2 (decide (x0 = 59)) H _ I h)
    ·replace h := h.2 d6I
     refine a7 (d4 _ _ _ _ _ _) ?_
     refine g6 (fun b8r => ?_) (fun b8r => ?_)
     ·replace h := h.1 b8r
      exact hx2 _ _ (hj2 (decide (x0 = 44)) H _ I h)
     ·replace h := h.2 b8r
      refine a7 (d4 _ _ _ _ _ _) ?_
      refine g6 (fun b8s => ?_) (fun b8s => ?_)
      ·replace h := h.1 b8s
       exact hx2 _ _ (hj2 (decide (x0 = 123)) H _ I h)
      ·replace h := h.2 b8s
       refine a7 (d4 _ _ _ _ _ _) ?_
       refine g6 (fun d6J => ?_) (fun d6J => ?_)
       ·replace h := h.1 d6J
        exact hx2 _ _ (hj2 (decide (x0 = 125)) H _ I h)
       ·replace h := h.2 d6J
        refine a7 (d4 _ _ _ _ _ _) ?_
        refine g6 (fun b8t => ?_) (fun b8t => ?_)
        ·replace h := h.1 b8t
         exact hx2 _ _ (hj2 (decide (x0 = 40)) H _ I h)
        ·replace h := h.2 b8t
         refine a7 (d4 _ _ _ _ _ _) ?_
         refine g6 (fun d6K => ?_) (fun d6K => ?_)
         ·replace h := h.1 d6K
          exact hx2 _ _ (hj2 (decide (x0 = 41)) H _ I h)
         ·replace h := h.2 d6K
          refine a7 (d4 _ _ _ _ _ _) ?_
          refine g6 (fun b8u => ?_) (fun b8u => ?_)
          ·replace h := h.1 b8u
           exact hx2 _ _ (hj2 (decide (x0 = 91)) H _ I h)
          ·replace h := h.2 b8u
           refine a7 (d4 _ _ _ _ _ _) ?_
           refine g6 (fun b1o => ?_) (fun b1o => ?_)
           ·replace h := h.1 b1o
            exact hx2 _ _ (hj2 (decide (x0 = 93)) H _ I h)
           ·replace h := h.2 b1o
            refine a7 (d4 _ _ _ _ _ _) ?_
            refine g6 (fun b8v => ?_) (fun b8v => ?_)
            ·replace h := h.1 b8v
             exact hx2 _ _ (hj2 (decide (x0 = 61)) H _ I h)
            ·replace h := h.2 b8v
             refine a7 (d4 _ _ _ _ _ _) ?_
             refine g6 (fun b8w => ?_) (fun b8w => ?_)
             ·replace h := h.1 b8w
              exact hx2 _ _ (hj2 (decide (x0 = 33)) H _ I h)
             ·replace h := h.2 b8w
              refine a7 (d4 _ _ _ _ _ _) ?_
              refine g6 (fun b8x => ?_) (fun b8x => ?_)
              ·replace h := h.1 b8x
               exact hx2 _ _ (hj2 (decide (x0 = 60)) H _ I h)
              ·replace h := h.2 b8x
               refine a7 (d4 _ _ _ _ _ _) ?_
               refine g6 (fun b8y => ?_) (fun b8y => ?_)
               ·replace h := h.1 b8y
                exact hx2 _ _ (hj2 (decide (x0 = 62)) H _ I h)
               ·replace h := h.2 b8y
                refine a7 (d4 _ _ _ _ _ _) ?_
                refine g6 (fun b8z => ?_) (fun b8z => ?_)
                ·replace h := h.1 b8z
                 exact hx2 _ _ (hj2 (decide (x0 = 43)) H _ I h)
                ·replace h := h.2 b8z
                 refine a7 (d4 _ _ _ _ _ _) ?_
                 refine g6 (fun a6N => ?_) (fun a6N => ?_)
                 ·replace h := h.1 a6N
                  exact hx2 _ _ (hj2 (decide (x0 = 45)) H _ I h)
                 ·replace h := h.2 a6N
                  refine a7 (d4 _ _ _ _ _ _) ?_
                  refine g6 (fun a6O => ?_) (fun a6O => ?_)
                  ·replace h := h.1 a6O
                   exact hx2 _ _ (hj2 (decide (x0 = 42)) H _ I h)
                  ·replace h := h.2 a6O
                   refine a7 (d4 _ _ _ _ _ _) ?_
                   refine g6 (fun b1p => ?_) (fun b1p => ?_)
                   ·replace h := h.1 b1p
                    exact hx2 _ _ (hj2 (decide (x0 = 47)) H _ I h)
                   ·replace h := h.2 b1p
                    refine a7 (d4 _ _ _ _ _ _) ?_
                    refine g6 (fun a3t => ?_) (fun a3t => ?_)
                    ·replace h := h.1 a3t
                     exact hx2 _ _ (hj2 (decide (x0 = 37)) H _ I h)
                    ·replace h := h.2 a3t
                     refine a7 (d4 _ _ _ _ _ _) ?_
                     refine g6 (fun b1j => ?_) (fun b1j => ?_)
                     ·replace h := h.1 b1j
                      exact hx2 _ _ (hj2 (decide (x0 = 38)) H _ I h)
                     ·replace h := h.2 b1j
                      refine a7 (d4 _ _ _ _ _ _) ?_
                      exact hx2 _ _ (hj2 (decide (x0 = 124)) H _ I h)
 refine m6 fun j1 hx1 => ?_
 refine a7 (d4 _ _ _ _ _ _) ?_
 refine g6 (fun d6L => ?_) (fun d6L => ?_)
 ·replace h := h.1 d6L
  exact hx1 _ _ (hj1 (decide (x0 = 32)) H _ I_4 h)
 ·replace h := h.2 d6L
  refine a7 (d4 _ _ _ _ _ _) ?_
  refine g6 (fun b8A => ?_) (fun b8A => ?_)
  ·replace h := h.1 b8A
   exact hx1 _ _ (hj1 (decide (x0 = 9)) H _ I_4 h)
  ·replace h := h.2 b8A
   refine a7 (d4 _ _ _ _ _ _) ?_
   exact hx1 _ _ (hj1 (decide (x0 = 13)) H _ I_4 h)
theorem b4T (x0 : Int) {H : Hp} {K : Int → Hp → Prop} (h : a3B x0 H K) : a3A x0 H K := by
 intro w I
 refine e1M ?_
 refine b4j x0 I (fun r0 H' w' I' hk => ⟨H', _, I', r0, rfl, rfl, hk⟩) h
def L9 (b2H : Int) (H : Hp) (K : Int → Hp → Prop) : Prop :=
 K b2H H
def M0 (jr_1l2 : ByteArray) (a8g : Int) (ir_1l2 : Nat) (H : Hp) (n2 : (Int × Nat) → Hp → Prop) (K : Int → Hp → Prop) : Prop :=
 (ir_1l2 < jr_1l2.size →
 n2 ((IntKind.wrap .i64 (a8g + 1)), (ir_1l2 + (Utf8.decode jr_1l2 ir_1l2).2)) H) ∧
 (¬ (ir_1l2 < jr_1l2.size) →
 L9 a8g H K)
def O8 (x0 : ByteArray) (H : Hp) (K : Int → Hp → Prop) : Prop :=
 TL ((0, 0) : Int × Nat) H fun (s : Int × Nat) H n2 => M0 x0 s.1 s.2 H n2 K
theorem a6v (x0 : ByteArray) {w0 w : World} {ps0 : Nat → Prop} {H0 H : Hp} {K : Int → Hp → Prop} {R : Value → World → Prop} {E : Pan} (I : Inv w0 ps0 H0 H [] w) (hR : ∀ (r0 : Int) (H' : Hp) (w' : World) (_ : Inv w0 ps0 H0 H' [] w') (_ : K r0 H'), R (vi r0) w') (h : O8 x0 H K) : c9o (Value.string x0) w R E := by
 unfold O8 at h
 unfold c9o
 have hj1 : ∀ (b2H : Int) (H : Hp) (w : World) (_ : Inv w0 ps0 H0 H [] w) (_ : L9 b2H H K), c0U (vi b2H) w R E := by
  intro b2H H w I h
  unfold c0U
  intro _
  unfold L9 at h
  exact hR b2H H _ I h
 refine m6 fun j1 hx1 => ?_
 refine c8c Tryd.underlying9 x0 I fun g_2 w_3 I_4 k_5 => ?_
 obtain ⟨d6M, c4T, g5n, g5o⟩ := h
 refine p9 (J := fun n l w => ∃ (s : Int × Nat) (H : Hp) , n = c4T s ∧ l = (match s with | (a8g, ir_1l2) => [(vi a8g)]) ∧ (match s with | (a8g, ir_1l2) => Inv w0 ps0 H0 H [itf g_2 x0 ir_1l2] w) ∧ d6M s H) ⟨_, (0, 0), H, rfl, rfl, I_4, g5n⟩ ?_
 rintro h1A τ_27 w next2 ⟨⟨a8g, ir_1l2⟩, H, rfl, d6N, I, g5p⟩ hn2
 dsimp only at d6N I
 simp only [List.map_cons, List.map_nil, List.cons.injEq, and_true] at d6N
 have e2 := d6N
 simp only [e2]
 obtain ⟨n2, hm2, h⟩ : ∃ n2 : (Int × Nat) → Hp → Prop, (∀ s' H', n2 s' H' → d6M s' H' ∧ c4T s' < c4T (a8g, ir_1l2)) ∧ M0 x0 a8g ir_1l2 H n2 K := ⟨_, fun _ _ h => h, g5o (a8g, ir_1l2) H (fun s' H' => d6M s' H' ∧ c4T s' < c4T (a8g, ir_1l2)) g5p (fun _ _ a b => ⟨a, b⟩)⟩
 unfold c8i
 unfold M0 at h
 refine d3r I (fun b8l p8 b3U c4C => ?_) (fun b8l => ?_)
 ·replace h := h.1 b8l
  refine a7 (r7 _ _ _ rfl) ?_
  refine k8 (fun e => ?_) (fun e => by cases e)
  refine a7 (m4 _ _ _ _ _ _) ?_
  exact hn2 _ _ _ (hm2 _ _ h).2 ⟨((IntKind.wrap .i64 (a8g + 1)), (ir_1l2 + (Utf8.decode x0 ir_1l2).2)), H, rfl, rfl, b3U, (hm2 _ _ h).1⟩
 ·replace h := h.2 b8l
  refine a7 (r7 _ _ _ rfl) ?_
  refine k8 (fun e => by cases e) (fun e => ?_)
  exact hx1 _ _ (hj1 a8g H _ I.drop h)
theorem a6V (x0 : ByteArray) {H : Hp} {K : Int → Hp → Prop} (h : O8 x0 H K) : a0w x0 H K := by
 intro w I
 refine e1Q ?_
 refine a6v x0 I (fun r0 H' w' I' hk => ⟨H', _, I', r0, rfl, rfl, hk⟩) h
def a5e (H : Hp) (K : Bool → Hp → Prop) : Prop :=
 K true H
def L2 (jr_28l2 : ByteArray) (ir_28l2 : Nat) (H : Hp) (n2 : Nat → Hp → Prop) (K : Bool → Hp → Prop) : Prop :=
 (ir_28l2 < jr_28l2.size →
 a5z ((Utf8.decode jr_28l2 ir_28l2).1 : Int) H (fun (a2u : Bool) (a5f : Hp) =>
 TG ((!(!a2u) && (decide (((ir_28l2 : Nat) : Int) = 0))) = true) (a3A ((Utf8.decode jr_28l2 ir_28l2).1 : Int) a5f) 0 a5f (fun (b0k : Int) (a9P : Hp) =>
 (((!a2u) || ((decide (((ir_28l2 : Nat) : Int) = 0)) && (!decide (b0k = 3)))) = true →
 K false a9P) ∧
 (((!a2u) || ((decide (((ir_28l2 : Nat) : Int) = 0)) && (!decide (b0k = 3)))) = false →
 n2 (ir_28l2 + (Utf8.decode jr_28l2 ir_28l2).2) a9P)))) ∧
 (¬ (ir_28l2 < jr_28l2.size) →
 a5e H K)
def a4v (x0 : ByteArray) (H : Hp) (K : Bool → Hp → Prop) : Prop :=
 TG ((decide (x0 = ⟨#[]⟩)) = false) (a5q x0 H) false H (fun (I0 : Bool) (H_1 : Hp) =>
 TG (((decide (x0 = ⟨#[]⟩)) || (!I0)) = false) (a4p x0 H_1) false H_1 (fun (q7 : Bool) (a2X : Hp) =>
 TG ((((decide (x0 = ⟨#[]⟩)) || (!I0)) || q7) = false) (a2I x0 a2X) false a2X (fun (B7 : Bool) (R4 : Hp) =>
 (((((decide (x0 = ⟨#[]⟩)) || (!I0)) || q7) || B7) = true →
 K false R4) ∧
 (((((decide (x0 = ⟨#[]⟩)) || (!I0)) || q7) || B7) = false →
 TL (0 : Nat) R4 fun (s : Nat) H n2 => L2 x0 s H n2 K))))
theorem b6f (x0 : ByteArray) {w0 w : World} {ps0 : Nat → Prop} {H0 H : Hp} {K : Bool → Hp → Prop} {R : Value → World → Prop} {E : Pan} (I : Inv w0 ps0 H0 H [] w) (hR : ∀ (r0 : Bool) (H' : Hp) (w' : World) (_ : Inv w0 ps0 H0 H' [] w') (_ : K r0 H'), R (Value.bool r0) w') (h : a4v x0 H K) : c9g (Value.string x0) w R E := by
 unfold a4v at h
 unfold c9g
 refine a7 (G8 _ _ _ _ _) ?_
 try simp only [m1]
 refine a2j (D := fun v_5 w_2 => ∃ (I0 : Bool) (H_1 : Hp) , v_5 = (gv (decide (x0 = ⟨#[]⟩)) false (Value.bool I0)) ∧ (Inv w0 ps0 H0 H_1 [] w_2) ∧ (∀ i, i < w.heap.size → ¬ inF [] i → w_2.heap[i]? = w.heap[i]?) ∧ Hle H H_1 ∧ (TG (((decide (x0 = ⟨#[]⟩)) || (!I0)) = false) (a4p x0 H_1) false H_1 (fun (q7 : Bool) (a2X : Hp) =>
 TG ((((decide (x0 = ⟨#[]⟩)) || (!I0)) || q7) = false) (a2I x0 a2X) false a2X (fun (B7 : Bool) (R4 : Hp) =>
 (((((decide (x0 = ⟨#[]⟩)) || (!I0)) || q7) || B7) = true →
 K false R4) ∧
 (((((decide (x0 = ⟨#[]⟩)) || (!I0)) || q7) || B7) = false →
 TL (0 : Nat) R4 fun (s : Nat) H n2 => L2 x0 s H n2 K))))) (fun b2k => ?_) (fun b2k => ?_) ?_
 ·replace h := h.1 b2k
  have a8 := b2k
  try simp only [b6 a8]
  refine f6 (cap := []) (fun args w => Tryd.call122 args w) ?_
  refine i6 (Fi := []) (Fr := []) I (h) (fun v_5 H_1 F_6 w_2 I_3 l_8 k_4 q_7 => ?_) (fun _ _ _ _ _ q => q.elim)
  obtain ⟨I0, rfl, rfl, h⟩ := q_7
  exact ⟨I0, H_1, by first | rfl | rw [b6 b2k], I_3, k_4, l_8, h⟩
 ·exact ⟨false, H, by first | rfl | rw [a5x b2k], I, fun _ _ _ => rfl, Hle.refl _, h.2 b2k⟩
 ·clear h
  rintro v_5 w_2 ⟨I0, H_1, rfl, I_3, k_4, l_8, h⟩
  refine a7 (Pu.g fun hb => by have a8 := hb; first | exact (G7 _) | (simp only [b6 a8]; exact (G7 _)) | (simp only [b9 a8, b6 a8, b6 hb, z8 a8, f8]; exact (G7 _))) ?_
  refine a7 (E4 _ _) ?_
  try simp only [m1]
  refine a2j (D := fun c4U a0P => ∃ (q7 : Bool) (a2X : Hp) , c4U = (gv ((decide (x0 = ⟨#[]⟩)) || (!I0)) false (Value.bool q7)) ∧ (Inv w0 ps0 H0 a2X [] a0P) ∧ (∀ i, i < w_2.heap.size → ¬ inF [] i → a0P.heap[i]? = w_2.heap[i]?) ∧ Hle H_1 a2X ∧ (TG ((((decide (x0 = ⟨#[]⟩)) || (!I0)) || q7) = false) (a2I x0 a2X) false a2X (fun (B7 : Bool) (R4 : Hp) =>
 (((((decide (x0 = ⟨#[]⟩)) || (!I0)) || q7) || B7) = true →
 K false R4) ∧
 (((((decide (x0 = ⟨#[]⟩)) || (!I0)) || q7) || B7) = false →
 TL (0 : Nat) R4 fun (s : Nat) H n2 => L2 x0 s H n2 K)))) (fun c1i => ?_) (fun c1i => ?_) ?_
  ·replace h := h.1 c1i
   have a8 := c1i
   try simp only [b6 a8]
   refine f6 (cap := []) (fun args w => Tryd.call123 args w) ?_
   refine i6 (Fi := []) (Fr := []) I_3 (h) (fun c4U a2X f1p a0P E7 b7Z b5W c4V => ?_) (fun _ _ _ _ _ q => q.elim)
   obtain ⟨q7, rfl, rfl, h⟩ := c4V
   exact ⟨q7, a2X, by first | rfl | rw [b6 c1i], E7, b5W, b7Z, h⟩
  ·exact ⟨false, H_1, by first | rfl | rw [a5x c1i], I_3, fun _ _ _ => rfl, Hle.refl _, h.2 c1i⟩
  ·clear h
   rintro c4U a0P ⟨q7, a2X, rfl, E7, b5W, b7Z, h⟩
   refine a7 (E4 _ _) ?_
   try simp only [m1]
   refine a2j (D := fun b6g o4 => ∃ (B7 : Bool) (R4 : Hp) , b6g = (gv (((decide (x0 = ⟨#[]⟩)) || (!I0)) || q7) false (Value.bool B7)) ∧ (Inv w0 ps0 H0 R4 [] o4) ∧ (∀ i, i < a0P.heap.size → ¬ inF [] i → o4.heap[i]? = a0P.heap[i]?) ∧ Hle a2X R4 ∧ ((((((decide (x0 = ⟨#[]⟩)) || (!I0)) || q7) || B7) = true →
 K false R4) ∧
 (((((decide (x0 = ⟨#[]⟩)) || (!I0)) || q7) || B7) = false →
 TL (0 : Nat) R4 fun (s : Nat) H n2 => L2 x0 s H n2 K))) (fun c1j => ?_) (fun c1j => ?_) ?_
   ·replace h := h.1 c1j
    have a8 := c1j
    try simp only [b6 a8]
    refine f6 (cap := []) (fun args w => Tryd.call124 args w) ?_
    refine i6 (Fi := []) (Fr := []) E7 (h) (fun b6g R4 f1q o4 a5g c1k b6h c4W => ?_) (fun _ _ _ _ _ q => q.elim)
    obtain ⟨B7, rfl, rfl, h⟩ := c4W
    exact ⟨B7, R4, by first | rfl | rw [b6 c1j], a5g, b6h, c1k, h⟩
   ·exact ⟨false, a2X, by first | rfl | rw [a5x c1j], E7, fun _ _ _ => rfl, Hle.refl _, h.2 c1j⟩
   ·clear h
    rintro b6g o4 ⟨B7, R4, rfl, a5g, b6h, c1k, h⟩
    refine a7 (E4 _ _) ?_
    refine k8 (fun d6O => ?_) (fun d6O => ?_)
    ·replace h := h.1 d6O
     exact hR false R4 _ a5g h
    ·replace h := h.2 d6O
     have hj1 : ∀ (H : Hp) (w : World) (_ : Inv w0 ps0 H0 H [] w) (_ : a5e H K), c0M w R E := by
      intro H w I h
      unfold c0M
      intro _
      unfold a5e at h
      exact hR true H _ I h
     refine m6 fun j1 hx1 => ?_
     refine c8c Tryd.underlying9 x0 a5g fun a0R z6 b7V d6g => ?_
     obtain ⟨d6P, c4X, g5q, g5r⟩ := h
     refine p9 (J := fun n l w => ∃ (s : Nat) (H : Hp) , n = c4X s ∧ l = [] ∧ Inv w0 ps0 H0 H [itf a0R x0 s] w ∧ d6P s H) ⟨_, 0, R4, rfl, rfl, b7V, g5q⟩ ?_
     rintro h1B τ_94 w next2 ⟨ir_28l2, H, rfl, g5s, I, g5t⟩ hn2
     clear g5s
     obtain ⟨n2, hm2, h⟩ : ∃ n2 : Nat → Hp → Prop, (∀ s' H', n2 s' H' → d6P s' H' ∧ c4X s' < c4X ir_28l2) ∧ L2 x0 ir_28l2 H n2 K := ⟨_, fun _ _ h => h, g5r ir_28l2 H (fun s' H' => d6P s' H' ∧ c4X s' < c4X ir_28l2) g5t (fun _ _ a b => ⟨a, b⟩)⟩
     unfold c8f
     unfold L2 at h
     refine d3r I (fun b8q d5W g5u h1C => ?_) (fun b8q => ?_)
     ·replace h := h.1 b8q
      refine a7 (r7 _ _ _ rfl) ?_
      refine k8 (fun e => ?_) (fun e => by cases e)
      refine a7 (r7 _ _ _ rfl) ?_
      refine a7 (r7 _ _ _ rfl) ?_
      refine f6 (cap := []) (fun args w => Tryd.call125 args w) ?_
      refine i6 (Fi := []) (Fr := [itf a0R x0 (ir_28l2 + (Utf8.decode x0 ir_28l2).2)]) g5u (h) (fun b7Y a5f g5v K8 c1l d6Q d6R d6S => ?_) (fun _ _ _ _ _ q => q.elim)
      obtain ⟨a2u, rfl, rfl, h⟩ := d6S
      refine a7 (G7 _) ?_
      try simp only [m1]
      refine a7 (Pu.g fun hb => by have a8 := hb; first | exact (d4 _ _ _ _ _ _) | (simp only [b6 a8]; exact (d4 _ _ _ _ _ _)) | (simp only [b9 a8, b6 a8, b6 hb, z8 a8, f8]; exact (d4 _ _ _ _ _ _))) ?_
      try simp only [Q8, V3]
      try simp only [m1, Q8, a2d, a0T, V3, a2h, a2e, a2f, a2g, a2i]
      refine f9L (a3P _ _ _) ?_
      refine a2j (D := fun d6T d0o => ∃ (b0k : Int) (a9P : Hp) , d6T = (gv (!(!a2u) && (decide (((ir_28l2 : Nat) : Int) = 0))) true (vi b0k)) ∧ (Inv w0 ps0 H0 a9P [itf a0R x0 (ir_28l2 + (Utf8.decode x0 ir_28l2).2)] d0o) ∧ (∀ i, i < K8.heap.size → ¬ inF [] i → d0o.heap[i]? = K8.heap[i]?) ∧ Hle a5f a9P ∧ ((((!a2u) || ((decide (((ir_28l2 : Nat) : Int) = 0)) && (!decide (b0k = 3)))) = true →
 K false a9P) ∧
 (((!a2u) || ((decide (((ir_28l2 : Nat) : Int) = 0)) && (!decide (b0k = 3)))) = false →
 n2 (ir_28l2 + (Utf8.decode x0 ir_28l2).2) a9P))) (fun b4k => ?_) (fun b4k => ?_) ?_
      ·replace h := h.1 b4k
       obtain ⟨a8, i8⟩ := a5W b4k
       try simp only [b6 b4k]
       refine f6 (cap := []) (fun args w => Tryd.call126 args w) ?_
       refine i6 (Fi := []) (Fr := [itf a0R x0 (ir_28l2 + (Utf8.decode x0 ir_28l2).2)]) c1l (h) (fun d6T a9P h1D d0o d0p f1r f1s g5w => ?_) (fun _ _ _ _ _ q => q.elim)
       obtain ⟨b0k, rfl, rfl, h⟩ := g5w
       exact ⟨b0k, a9P, by first | rfl | rw [b6 b4k], d0p, f1s, f1r, h⟩
      ·exact ⟨0, a5f, by first | rfl | rw [a5x b4k], c1l, fun _ _ _ => rfl, Hle.refl _, h.2 b4k⟩
      ·clear h
       rintro d6T d0o ⟨b0k, a9P, rfl, d0p, f1s, f1r, h⟩
       refine a7 (Pu.e (a3P _ _ _) (Pu.g fun hb => by obtain ⟨a8, i8⟩ := a5W hb; first | exact (F6 _ _ _ _ _ _) | (simp only [b6 hb]; exact (F6 _ _ _ _ _ _)) | (simp only [b9 a8, b6 a8, b9 i8, b6 i8, b6 hb, o7 hb]; exact (F6 _ _ _ _ _ _)) | (simp only [b9 a8, b6 a8, b9 i8, b6 i8, b6 hb, d8 hb, f8]; exact (F6 _ _ _ _ _ _)))) ?_
       refine a7 (Pu.g fun hb => by have a8 := hb; first | exact (m3 _ _) | (simp only [b6 a8, a5o a8]; exact (m3 _ _)) | (simp only [b9 a8, b6 a8, b6 hb, z8 a8, f8]; exact (m3 _ _))) ?_
       refine a7 (E4 _ _) ?_
       refine k8 (fun b8r => ?_) (fun b8r => ?_)
       ·replace h := h.1 b8r
        exact hR false a9P _ d0p.drop h
       ·replace h := h.2 b8r
        exact hn2 _ _ _ (hm2 _ _ h).2 ⟨(ir_28l2 + (Utf8.decode x0 ir_28l2).2), a9P, rfl, rfl, d0p, (hm2 _ _ h).1⟩
     ·replace h := h.2 b8q
      refine a7 (r7 _ _ _ rfl) ?_
      refine k8 (fun e => by cases e) (fun e => ?_)
      exact hx1 _ _ (hj1 H _ I.drop h)
theorem b7p (x0 : ByteArray) {H : Hp} {K : Bool → Hp → Prop} (h : a4v x0 H K) : a4q x0 H K := by
 intro w I
 refine e1A ?_
 refine b6f x0 I (fun r0 H' w' I' hk => ⟨H', _, I', r0, rfl, rfl, hk⟩) h
def a0H (a9b : Int) (a9c : Int) (a9d : Int) (a9e : Bool) (a9f : Bool) (a7j : (List ByteArray)) (H : Hp) (K : Bool → g7 → (List ByteArray) → Hp → Prop) : Prop :=
 K true (g7.mk a9b a9c a9d a9e a9f (Sl.mk none 0 0)) a7j H
def a0I (b1q : Int) (a7W : Sl) (q9 : Int) (a3C : Int) (a1S : Int) (a1T : Int) (a1U : Int) (a1V : Bool) (a1W : Bool) (a1m : (List ByteArray)) (H : Hp) (n2 : (Int × Int × Int × Int × Bool × Bool × (List ByteArray)) → Hp → Prop) (K : Bool → g7 → (List ByteArray) → Hp → Prop) : Prop :=
 (a3C < q9 →
 (0 : Int) ≤ a3C ∧ (a3C : Int) < a7W.n ∧ ∃ a8h : c8, EltH H a7W a3C 1 [(u0 a8h)] ∧
 a2D (g7.mk a1S a1T a1U a1V a1W (Sl.mk none 0 0)) a1m a8h b1q H (fun (a5h : Bool) (D2 : g7) (b0H : (List ByteArray)) (a9Q : Hp) =>
 TG ((!a5h) = false) (a4H a8h a9Q) (Sl.mk none 0 0) a9Q (fun (b4l : Sl) (a6p : Hp) =>
 TG ((!a5h) = false) (fun k_ => Z1 b4l (IntKind.wrap .i64 (b1q + 1)) (g7.mk ((D2).fnodes) ((D2).fdepth) ((D2).fe) ((D2).fform) ((D2).fnamed) (Sl.mk none 0 0)) b0H a6p fun a9r N3 a3Q H_ => k_ (a9r, N3, a3Q) H_) (false, (g7.mk ((D2).fnodes) ((D2).fdepth) ((D2).fe) ((D2).fform) ((D2).fnamed) (Sl.mk none 0 0)), b0H) a6p (fun (a0z : Bool × g7 × (List ByteArray)) (a6W : Hp) =>
 (((!a5h) || (!a0z.1)) = true →
 K false (g7.mk ((a0z.2.1).fnodes) ((a0z.2.1).fdepth) ((a0z.2.1).fe) ((a0z.2.1).fform) ((a0z.2.1).fnamed) (Sl.mk none 0 0)) a0z.2.2 a6W) ∧
 (((!a5h) || (!a0z.1)) = false →
 n2 ((IntKind.wrap .i64 (a3C + 1)), ((a0z.2.1).fnodes), ((a0z.2.1).fdepth), ((a0z.2.1).fe), ((a0z.2.1).fform), ((a0z.2.1).fnamed), a0z.2.2) a6W))))) ∧
 (¬ (a3C < q9) →
 a0H a1S a1T a1U a1V a1W a1m H K)
def a1Y (x0 : Sl) (x1 : Int) (x2 : g7) (b0Y : (List ByteArray)) (H : Hp) (K : Bool → g7 → (List ByteArray) → Hp → Prop) : Prop :=
 TL ((0, x2.fnodes, x2.fdepth, x2.fe, x2.fform, x2.fnamed, b0Y) : Int × Int × Int × Int × Bool × Bool × (List ByteArray)) H fun (s : Int × Int × Int × Int × Bool × Bool × (List ByteArray)) H n2 => a0I x1 x0 (x0.n : Int) s.1 s.2.1 s.2.2.1 s.2.2.2.1 s.2.2.2.2.1 s.2.2.2.2.2.1 s.2.2.2.2.2.2 H n2 K
theorem b1X (x0 : Sl) (x1 : Int) (x2 : g7) (b0Y : (List ByteArray)) (g2 g2b g3 : Nat) (b2h : Sl) (b2i : Frag) (d0q : RowL 9 1 C2 b2h b0Y b2i) {w0 w : World} {ps0 : Nat → Prop} {H0 H : Hp} {K : Bool → g7 → (List ByteArray) → Hp → Prop} {R : Value → World → Prop} {E : Pan} (I : Inv w0 ps0 H0 H [bx g2 93 [(Value.pointer (some ⟨g2b, 0, none⟩))], bx g2b 92 [(vi x2.fnodes), (vi x2.fdepth), (vi x2.fe), (Value.bool x2.fform), (Value.bool x2.fnamed), (vs b2h)], b2i, bx g3 139 [(Value.func (.func 89) #[] #[(Value.pointer (some ⟨g2, 0, none⟩)), (Value.pointer (some ⟨g3, 0, none⟩))])]] w) (hR : ∀ (r0 : Bool) (y0 : g7) (a6J : (List ByteArray)) (a4T : Sl) (a4U : Frag) (H' : Hp) (w' : World) (_ : RowL 9 1 C2 a4T a6J a4U) (_ : Inv w0 ps0 H0 H' [bx g2 93 [(Value.pointer (some ⟨g2b, 0, none⟩))], bx g2b 92 [(vi y0.fnodes), (vi y0.fdepth), (vi y0.fe), (Value.bool y0.fform), (Value.bool y0.fnamed), (vs a4T)], a4U, bx g3 139 [(Value.func (.func 89) #[] #[(Value.pointer (some ⟨g2, 0, none⟩)), (Value.pointer (some ⟨g3, 0, none⟩))])]] w') (_ : K r0 y0 a6J H'), R (Value.bool r0) w') (h : a1Y x0 x1 x2 b0Y H K) : F89 (vs x0) (vi x1) (Value.pointer (some ⟨g2, 0, none⟩)) (Value.pointer (some ⟨g3, 0, none⟩)) w R E := by
 unfold a1Y at h
 unfold F89
 have hj1 : ∀ (a9b : Int) (a9c : Int) (a9d : Int) (a9e : Bool) (a9f : Bool) (a7j : (List ByteArray)) (b2l : Sl) (b2m : Frag) (H : Hp) (w : World) (_ : RowL 9 1 C2 b2l a7j b2m) (_ : Inv w0 ps0 H0 H [bx g2 93 [(Value.pointer (some ⟨g2b, 0, none⟩))], bx g2b 92 [(vi a9b), (vi a9c), (vi a9d), (Value.bool a9e), (Value.bool a9f), (vs b2l)], bx g3 139 [(Value.func (.func 89) #[] #[(Value.pointer (some ⟨g2, 0, none⟩)), (Value.pointer (some ⟨g3, 0, none⟩))])], b2m] w) (_ : a0H a9b a9c a9d a9e a9f a7j H K), c3v w R E := by
  intro a9b a9c a9d a9e a9f a7j b2l b2m H w d4n I h
  unfold c3v
  intro _
  unfold a0H at h
  exact hR true (g7.mk a9b a9c a9d a9e a9f (Sl.mk none 0 0)) a7j b2l b2m H _ d4n ((((I.bring 2).bring 3).bring 3).bring 3) h
 refine m6 fun j1 hx1 => ?_
 refine a7 (b2f _ _ _) ?_
 obtain ⟨d6U, c4Y, g5x, g5y⟩ := h
 refine p9 (J := fun n l w => ∃ (s : Int × Int × Int × Int × Bool × Bool × (List ByteArray)) (H : Hp) (a7k : Sl) (a7l : Frag) , n = c4Y s ∧ l = (match s with | (a3C, a1S, a1T, a1U, a1V, a1W, a1m) => [(vi a3C)]) ∧ (match s with | (a3C, a1S, a1T, a1U, a1V, a1W, a1m) => RowL 9 1 C2 a7k a1m a7l) ∧ (match s with | (a3C, a1S, a1T, a1U, a1V, a1W, a1m) => Inv w0 ps0 H0 H [bx g2 93 [(Value.pointer (some ⟨g2b, 0, none⟩))], bx g2b 92 [(vi a1S), (vi a1T), (vi a1U), (Value.bool a1V), (Value.bool a1W), (vs a7k)], bx g3 139 [(Value.func (.func 89) #[] #[(Value.pointer (some ⟨g2, 0, none⟩)), (Value.pointer (some ⟨g3, 0, none⟩))])], a7l] w) ∧ d6U s H) ⟨_, (0, x2.fnodes, x2.fdepth, x2.fe, x2.fform, x2.fnamed, b0Y), H, b2h, b2i, rfl, rfl, d0q, ((((I.bring 2).bring 3).bring 3).bring 3), g5x⟩ ?_
 rintro h1E τ_92 w next2 ⟨⟨a3C, a1S, a1T, a1U, a1V, a1W, a1m⟩, H, a7k, a7l, rfl, c4h, b6i, I, g5z⟩ hn2
 dsimp only at c4h I b6i
 simp only [List.map_cons, List.map_nil, List.cons.injEq, and_true] at c4h
 have e11 := c4h
 simp only [e11]
 obtain ⟨n2, hm2, h⟩ : ∃ n2 : (Int × Int × Int × Int × Bool × Bool × (List ByteArray)) → Hp → Prop, (∀ s' H', n2 s' H' → d6U s' H' ∧ c4Y s' < c4Y (a3C, a1S, a1T, a1U, a1V, a1W, a1m)) ∧ a0I x1 x0 (x0.n : Int) a3C a1S a1T a1U a1V a1W a1m H n2 K := ⟨_, fun _ _ h => h, g5y (a3C, a1S, a1T, a1U, a1V, a1W, a1m) H (fun s' H' => d6U s' H' ∧ c4Y s' < c4Y (a3C, a1S, a1T, a1U, a1V, a1W, a1m)) g5z (fun _ _ a b => ⟨a, b⟩)⟩
 unfold d3B
 unfold a0I at h
 refine a7 (o2 _ _ _ _ _ _) ?_
 refine g6 (fun b8s => ?_) (fun b8s => ?_)
 ·replace h := h.1 b8s
  obtain ⟨d6V, c4Z, a8h, a9g, h⟩ := h
  obtain ⟨g5A, g5B, b8B, a9g⟩ := a9g
  refine a7 (d5Q b8B _ _ _ _ d6V c4Z) ?_
  refine c5 (ld1 (v := (u0 a8h)) Tryd.isAgg141 (I.atH a9g)) ?_
  refine b5e I fun b7H c5a => ?_
  refine a2J (ld1 Tryd.isAgg93 (c5a.at1 (o := 0) (vs := [(Value.pointer (some ⟨g2b, 0, none⟩))]) (nb rfl) rfl)) ?_
  refine f6 (cap := []) (fun args w => Tryd.call90 args w) ?_
  refine i6 (Fi := [bx g2b 92 [(vi a1S), (vi a1T), (vi a1U), (Value.bool a1V), (Value.bool a1W), (vs a7k)], a7l]) (Fr := [bx g2 93 [(Value.pointer (some ⟨g2b, 0, none⟩))], bx g3 139 [(Value.func (.func 89) #[] #[(Value.pointer (some ⟨g2, 0, none⟩)), (Value.pointer (some ⟨g3, 0, none⟩))])]]) ((c5a.bring 3).bring 2) (h g2b a7k a7l b6i) (fun f1t a9Q f1u H9 a9R f1v f1w c5b => ?_) (fun _ _ _ _ _ q => q.elim)
  obtain ⟨a5h, D2, b0H, b1r, b1s, rfl, rfl, c5c, h⟩ := c5b
  refine B5 (G7 _) ?_
  try simp only [m1]
  try simp only [m1, Q8, a2d, a0T, V3, a2h, a2e, a2f, a2g, a2i]
  refine B5 (Pu.g fun hb => by have a8 := hb; first | exact (m4 _ _ _ _ _ _) | (simp only [b6 a8]; exact (m4 _ _ _ _ _ _)) | (simp only [b9 a8, b6 a8, b6 hb, z8 a8, f8]; exact (m4 _ _ _ _ _ _))) ?_
  refine a2J (Ld.g fun hb => by have a8 := hb; first | exact (ld1 Tryd.isAgg139 ((a9R.bring 3).at1 (o := 0) (vs := [(Value.func (.func 89) #[] #[(Value.pointer (some ⟨g2, 0, none⟩)), (Value.pointer (some ⟨g3, 0, none⟩))])]) (nb rfl) rfl)) | (simp only [b9 a8, b6 a8, b6 hb, a5o a8]; exact (ld1 Tryd.isAgg139 ((a9R.bring 3).at1 (o := 0) (vs := [(Value.func (.func 89) #[] #[(Value.pointer (some ⟨g2, 0, none⟩)), (Value.pointer (some ⟨g3, 0, none⟩))])]) (nb rfl) rfl))) | (simp only [b9 a8, b6 a8, b6 hb, z8 a8, f8]; exact (ld1 Tryd.isAgg139 ((a9R.bring 3).at1 (o := 0) (vs := [(Value.func (.func 89) #[] #[(Value.pointer (some ⟨g2, 0, none⟩)), (Value.pointer (some ⟨g3, 0, none⟩))])]) (nb rfl) rfl)))) ?_
  refine a2j (D := fun f1x b3H => ∃ (b4l : Sl) (a6p : Hp), f1x = (gv (!a5h) false (vs b4l)) ∧ (Inv w0 ps0 H0 a6p [bx g2b 92 [(vi ((D2).fnodes)), (vi ((D2).fdepth)), (vi ((D2).fe)), (Value.bool ((D2).fform)), (Value.bool ((D2).fnamed)), (vs b1r)], b1s, bx g2 93 [(Value.pointer (some ⟨g2b, 0, none⟩))], bx g3 139 [(Value.func (.func 89) #[] #[(Value.pointer (some ⟨g2, 0, none⟩)), (Value.pointer (some ⟨g3, 0, none⟩))])]] b3H) ∧ (∀ i, i < H9.heap.size → ¬ inF [] i → b3H.heap[i]? = H9.heap[i]?) ∧ Hle a9Q a6p ∧ (TG ((!a5h) = false) (fun k_ => Z1 b4l (IntKind.wrap .i64 (x1 + 1)) (g7.mk ((D2).fnodes) ((D2).fdepth) ((D2).fe) ((D2).fform) ((D2).fnamed) (Sl.mk none 0 0)) b0H a6p fun a9r N3 a3Q H_ => k_ (a9r, N3, a3Q) H_) (false, (g7.mk ((D2).fnodes) ((D2).fdepth) ((D2).fe) ((D2).fform) ((D2).fnamed) (Sl.mk none 0 0)), b0H) a6p (fun (a0z : Bool × g7 × (List ByteArray)) (a6W : Hp) =>
 (((!a5h) || (!a0z.1)) = true →
 K false (g7.mk ((a0z.2.1).fnodes) ((a0z.2.1).fdepth) ((a0z.2.1).fe) ((a0z.2.1).fform) ((a0z.2.1).fnamed) (Sl.mk none 0 0)) a0z.2.2 a6W) ∧
 (((!a5h) || (!a0z.1)) = false →
 n2 ((IntKind.wrap .i64 (a3C + 1)), ((a0z.2.1).fnodes), ((a0z.2.1).fdepth), ((a0z.2.1).fe), ((a0z.2.1).fform), ((a0z.2.1).fnamed), a0z.2.2) a6W)))) (fun c1m => ?_) (fun c1m => ?_) ?_
  ·replace h := h.1 c1m
   have a8 := c1m
   try simp only [b6 a8]
   refine b2E a9R h (fun b4l a6p b3H c1n c5d d0r h => ?_)
   exact ⟨b4l, a6p, by first | rfl | rw [b6 c1m], c1n, d0r, c5d, h⟩
  ·exact ⟨(Sl.mk none 0 0), a9Q, by first | rfl | rw [a5x c1m], a9R, fun _ _ _ => rfl, Hle.refl _, h.2 c1m⟩
  ·clear h
   rintro f1x b3H ⟨b4l, a6p, rfl, c1n, d0r, c5d, h⟩
   refine ⟨(d0r _ (a9R.bring 3).lt1 (Inv.a7w (Fi := []) (a9R.bring 3))), ?_⟩
   refine a2j (D := fun d6W d0s => ∃ (a9r : Bool) (N3 : g7) (a3Q : (List ByteArray)) (a6W : Hp) (a6X : Sl) (a6Y : Frag) , d6W = (gv (!a5h) false (Value.bool a9r)) ∧ (RowL 9 1 C2 a6X a3Q a6Y) ∧ (Inv w0 ps0 H0 a6W [bx g2 93 [(Value.pointer (some ⟨g2b, 0, none⟩))], bx g2b 92 [(vi ((N3).fnodes)), (vi ((N3).fdepth)), (vi ((N3).fe)), (Value.bool ((N3).fform)), (Value.bool ((N3).fnamed)), (vs a6X)], a6Y, bx g3 139 [(Value.func (.func 89) #[] #[(Value.pointer (some ⟨g2, 0, none⟩)), (Value.pointer (some ⟨g3, 0, none⟩))])]] d0s) ∧ (∀ i, i < b3H.heap.size → ¬ inF [bx g2 93 [(Value.pointer (some ⟨g2b, 0, none⟩))], bx g2b 92 [(vi ((D2).fnodes)), (vi ((D2).fdepth)), (vi ((D2).fe)), (Value.bool ((D2).fform)), (Value.bool ((D2).fnamed)), (vs b1r)], b1s, bx g3 139 [(Value.func (.func 89) #[] #[(Value.pointer (some ⟨g2, 0, none⟩)), (Value.pointer (some ⟨g3, 0, none⟩))])]] i → d0s.heap[i]? = b3H.heap[i]?) ∧ Hle a6p a6W ∧ ((((!a5h) || (!a9r)) = true →
 K false (g7.mk ((N3).fnodes) ((N3).fdepth) ((N3).fe) ((N3).fform) ((N3).fnamed) (Sl.mk none 0 0)) a3Q a6W) ∧
 (((!a5h) || (!a9r)) = false →
 n2 ((IntKind.wrap .i64 (a3C + 1)), ((N3).fnodes), ((N3).fdepth), ((N3).fe), ((N3).fform), ((N3).fnamed), a3Q) a6W))) (fun c1o => ?_) (fun c1o => ?_) ?_
   ·replace h := h.1 c1o
    have a8 := c1o
    try simp only [b6 a8]
    refine f6 (cap := [(Value.pointer (some ⟨g2, 0, none⟩)), (Value.pointer (some ⟨g3, 0, none⟩))]) (fun args w => Tryd.call89 args w) ?_
    refine i6 (Fi := [bx g2 93 [(Value.pointer (some ⟨g2b, 0, none⟩))], bx g2b 92 [(vi ((D2).fnodes)), (vi ((D2).fdepth)), (vi ((D2).fe)), (Value.bool ((D2).fform)), (Value.bool ((D2).fnamed)), (vs b1r)], b1s, bx g3 139 [(Value.func (.func 89) #[] #[(Value.pointer (some ⟨g2, 0, none⟩)), (Value.pointer (some ⟨g3, 0, none⟩))])]]) (Fr := []) ((((c1n.bring 3).bring 2).bring 2).bring 3) (h g2 g2b g3 b1r b1s c5c) (fun d6W a6W h1F d0s d0t a6m f1y g5C => ?_) (fun _ _ _ _ _ q => q.elim)
    obtain ⟨a9r, N3, a3Q, a6X, a6Y, rfl, rfl, b4m, h⟩ := g5C
    exact ⟨a9r, N3, a3Q, a6W, a6X, a6Y, by first | rfl | rw [b6 c1o], b4m, d0t, f1y, a6m, h⟩
   ·exact ⟨false, (g7.mk ((D2).fnodes) ((D2).fdepth) ((D2).fe) ((D2).fform) ((D2).fnamed) (Sl.mk none 0 0)), b0H, a6p, b1r, b1s, by first | rfl | rw [a5x c1o], c5c, ((((c1n.bring 3).bring 2).bring 2).bring 3), fun _ _ _ => rfl, Hle.refl _, h.2 c1o⟩
   ·clear h
    rintro d6W d0s ⟨a9r, N3, a3Q, a6W, a6X, a6Y, rfl, b4m, d0t, f1y, a6m, h⟩
    refine B5 (Pu.g fun hb => by have a8 := hb; first | exact (G7 _) | (simp only [b6 a8]; exact (G7 _)) | (simp only [b9 a8, b6 a8, b6 hb, z8 a8, f8]; exact (G7 _))) ?_
    refine B5 (E4 _ _) ?_
    refine k8 (fun b1o => ?_) (fun b1o => ?_)
    ·replace h := h.1 b1o
     exact hR false (g7.mk ((N3).fnodes) ((N3).fdepth) ((N3).fe) ((N3).fform) ((N3).fnamed) (Sl.mk none 0 0)) a3Q a6X a6Y a6W _ b4m ((((d0t.bring 3).bring 3).bring 3).bring 3) h
    ·replace h := h.2 b1o
     refine a7 (m4 _ _ _ _ _ _) ?_
     exact hn2 _ _ _ (hm2 _ _ h).2 ⟨((IntKind.wrap .i64 (a3C + 1)), ((N3).fnodes), ((N3).fdepth), ((N3).fe), ((N3).fform), ((N3).fnamed), a3Q), a6W, a6X, a6Y, rfl, rfl, b4m, ((((d0t.bring 2).bring 3).bring 3).bring 3), (hm2 _ _ h).1⟩
 ·replace h := h.2 b8s
  exact hx1 _ _ (hj1 a1S a1T a1U a1V a1W a1m a7k a7l H _ b6i ((((I.bring 3).bring 3).bring 3).bring 3) h)
theorem b2I (x0 : Sl) (x1 : Int) (x2 : g7) (b0Y : (List ByteArray)) {H : Hp} {K : Bool → g7 → (List ByteArray) → Hp → Prop} (h : a1Y x0 x1 x2 b0Y H K) : Z1 x0 x1 x2 b0Y H K := by
 intro g2 g2b g3 b2h b2i d0q w I
 refine e6u ?_
 refine b1X x0 x1 x2 b0Y g2 g2b g3 b2h b2i d0q I (fun r0 y0 a6J a4T a4U H' w' c4N I' hk => ⟨H', _, I', r0, y0, a6J, a4T, a4U, rfl, rfl, c4N, hk⟩) h
def G3 (cr_1j1_0 : Int) (cr_1j1_1 : Int) (cr_1j1_2 : Int) (cr_1j1_3 : Bool) (cr_1j1_4 : Bool) (ccr_1j1_5 : (List ByteArray)) (H : Hp) (K : g7 → Hp → Prop) : Prop :=
 ∀ (scr_1j1_5 : Sl) (b2J : Hp), Hle H b2J → SlH b2J 1 C2 scr_1j1_5 ccr_1j1_5 → scr_1j1_5.n ≤ scr_1j1_5.c →
 K (g7.mk cr_1j1_0 cr_1j1_1 cr_1j1_2 cr_1j1_3 cr_1j1_4 scr_1j1_5) b2J
def a2Y (x0 : Sl) (H : Hp) (K : g7 → Hp → Prop) : Prop :=
 Z1 x0 1 (g7.mk 0 0 0 false false (Sl.mk none 0 0)) [] H (fun (d0u : Bool) (B1 : g7) (a6d : (List ByteArray)) (b4n : Hp) =>
 ((!d0u) = true →
 G3 ((B1).fnodes) ((B1).fdepth) ((B1).fe) ((B1).fform) ((B1).fnamed) a6d b4n K) ∧
 ((!d0u) = false →
 (((B1).fform) = true →
 G3 ((B1).fnodes) ((B1).fdepth) 30 ((B1).fform) ((B1).fnamed) a6d b4n K) ∧
 (((B1).fform) = false →
 (((B1).fnamed) = true →
 G3 ((B1).fnodes) ((B1).fdepth) 31 ((B1).fform) ((B1).fnamed) a6d b4n K) ∧
 (((B1).fnamed) = false →
 G3 ((B1).fnodes) ((B1).fdepth) ((B1).fe) ((B1).fform) ((B1).fnamed) a6d b4n K))))
theorem b3i (x0 : Sl) {w0 w : World} {ps0 : Nat → Prop} {H0 H : Hp} {K : g7 → Hp → Prop} {R : Value → World → Prop} {E : Pan} (I : Inv w0 ps0 H0 H [] w) (hR : ∀ (r0 : g7) (gr0 : Nat) (H' : Hp) (w' : World) (_ : Inv w0 ps0 H0 H' [bx gr0 92 (a5Y r0)] w') (_ : K r0 H'), R (Value.pointer (some ⟨gr0, 0, none⟩)) w') (h : a2Y x0 H K) : F57 (vs x0) w R E := by
 unfold a2Y at h
 unfold F57
 refine a7 (d3u ) ?_
 refine J4 I (cs := [(vi 0), (vi 0), (vi 0), (Value.bool false), (Value.bool false), (Value.slice none 0 0)]) rfl fun g_2 w_3 I_4 k_5 => ?_
 refine G4 I_4 Tryd.zeroValue93 (cs := [(Value.pointer none)]) rfl fun g_7 w_8 I_9 d6e => ?_
 refine p7 I_9 Tryd.sizeOf93 (vs := [(Value.pointer (some ⟨g_2, 0, none⟩))]) (cs' := [(Value.pointer (some ⟨g_2, 0, none⟩))]) rfl rfl (nb rfl) rfl rfl fun a0P E7 b5W => ?_
 refine G4 E7 Tryd.zeroValue139 (cs := [Value.nilFunc]) rfl fun b4o o6 a8i c1p => ?_
 refine a7 (a5s _ _ _) ?_
 refine p7 a8i Tryd.sizeOf139 (vs := [(Value.func (.func 89) #[] #[(Value.pointer (some ⟨g_7, 0, none⟩)), (Value.pointer (some ⟨b4o, 0, none⟩))])]) (cs' := [(Value.func (.func 89) #[] #[(Value.pointer (some ⟨g_7, 0, none⟩)), (Value.pointer (some ⟨b4o, 0, none⟩))])]) rfl rfl (nb rfl) rfl rfl fun a6I c9N g4P => ?_
 have hj1 : ∀ (cr_1j1_0 : Int) (cr_1j1_1 : Int) (cr_1j1_2 : Int) (cr_1j1_3 : Bool) (cr_1j1_4 : Bool) (ccr_1j1_5 : (List ByteArray)) (scr_1j1_5 : Sl) (Fcr_1j1_5 : Frag) (H : Hp) (w : World) (_ : RowL 9 1 C2 scr_1j1_5 ccr_1j1_5 Fcr_1j1_5) (_ : Inv w0 ps0 H0 H [bx g_7 93 [(Value.pointer (some ⟨g_2, 0, none⟩))], bx g_2 92 [(vi cr_1j1_0), (vi cr_1j1_1), (vi cr_1j1_2), (Value.bool cr_1j1_3), (Value.bool cr_1j1_4), (vs scr_1j1_5)], bx b4o 139 [(Value.func (.func 89) #[] #[(Value.pointer (some ⟨g_7, 0, none⟩)), (Value.pointer (some ⟨b4o, 0, none⟩))])], Fcr_1j1_5] w) (_ : G3 cr_1j1_0 cr_1j1_1 cr_1j1_2 cr_1j1_3 cr_1j1_4 ccr_1j1_5 H K), c3a (Value.pointer (some ⟨g_7, 0, none⟩)) w R E := by
  intro cr_1j1_0 cr_1j1_1 cr_1j1_2 cr_1j1_3 cr_1j1_4 ccr_1j1_5 scr_1j1_5 Fcr_1j1_5 H w hcr_1j1_5 I h
  unfold c3a
  intro _
  unfold G3 at h
  refine c5 (ld1 Tryd.isAgg93 (I.at1 (o := 0) (vs := [(Value.pointer (some ⟨g_2, 0, none⟩))]) (nb rfl) rfl)) ?_
  obtain ⟨b2J, b8a, g5D, a8Y, b3V⟩ := Inv.freezeC (I.bring 3) hcr_1j1_5 (by decide)
  replace h := h scr_1j1_5 b2J g5D a8Y b3V
  exact hR (g7.mk cr_1j1_0 cr_1j1_1 cr_1j1_2 cr_1j1_3 cr_1j1_4 scr_1j1_5) g_2 b2J _ (b8a.drop.bring 1).drop h
 refine m6 fun j1 hx1 => ?_
 refine c5 (ld1 Tryd.isAgg139 (c9N.at1 (o := 0) (vs := [(Value.func (.func 89) #[] #[(Value.pointer (some ⟨g_7, 0, none⟩)), (Value.pointer (some ⟨b4o, 0, none⟩))])]) (nb rfl) rfl)) ?_
 refine f6 (cap := [(Value.pointer (some ⟨g_7, 0, none⟩)), (Value.pointer (some ⟨b4o, 0, none⟩))]) (fun args w => Tryd.call89 args w) ?_
 refine i6 (Fi := [bx g_7 93 [(Value.pointer (some ⟨g_2, 0, none⟩))], bx g_2 92 [(vi 0), (vi 0), (vi 0), (Value.bool false), (Value.bool false), (Value.slice (Sl.mk none 0 0).a (Sl.mk none 0 0).n (Sl.mk none 0 0).c)], [], bx b4o 139 [(Value.func (.func 89) #[] #[(Value.pointer (some ⟨g_7, 0, none⟩)), (Value.pointer (some ⟨b4o, 0, none⟩))])]]) (Fr := []) ((((c9N.nil.bring 1).bring 1).bring 3).bring 3) (h g_7 g_2 b4o (Sl.mk none 0 0) ([]) (RowL.nil (e := 9) b7t b7u)) (fun h1G b4n f0V q6 a9S h1H g5E g5F => ?_) (fun _ _ _ _ _ q => q.elim)
 obtain ⟨d0u, B1, a6d, a9h, b4p, rfl, rfl, b4q, h⟩ := g5F
 refine a7 (G7 _) ?_
 refine k8 (fun d6X => ?_) (fun d6X => ?_)
 ·replace h := h.1 d6X
  exact hx1 _ _ (hj1 ((B1).fnodes) ((B1).fdepth) ((B1).fe) ((B1).fform) ((B1).fnamed) a6d a9h b4p b4n _ b4q ((((a9S.bring 2).bring 3).bring 3).bring 3) h)
 ·replace h := h.2 d6X
  refine c5 (ld1 Tryd.isAgg93 (a9S.at1 (o := 0) (vs := [(Value.pointer (some ⟨g_2, 0, none⟩))]) (nb rfl) rfl)) ?_
  refine a7 (j8 _) ?_
  refine a7 b3D ?_
  refine c5 (ld1 Tryd.isAgg4 ((a9S.bring 1).at1 (o := 3) (vs := [(Value.bool ((B1).fform))]) (nb rfl) rfl)) ?_
  refine k8 (fun a4Y => ?_) (fun a4Y => ?_)
  ·replace h := h.1 a4Y
   refine c5 (ld1 Tryd.isAgg93 (a9S.at1 (o := 0) (vs := [(Value.pointer (some ⟨g_2, 0, none⟩))]) (nb rfl) rfl)) ?_
   refine a7 (j8 _) ?_
   refine a7 a7A ?_
   refine p7 (a9S.bring 1) Tryd.sizeOf34 (vs := [(vi 30)]) (cs' := [(vi ((B1).fnodes)), (vi ((B1).fdepth)), (vi 30), (Value.bool ((B1).fform)), (Value.bool ((B1).fnamed)), (vs a9h)]) rfl rfl (nb rfl) rfl rfl fun e5T g5G h1I => ?_
   exact hx1 _ _ (hj1 ((B1).fnodes) ((B1).fdepth) 30 ((B1).fform) ((B1).fnamed) a6d a9h b4p b4n _ b4q ((((g5G.bring 2).bring 3).bring 2).bring 3) h)
  ·replace h := h.2 a4Y
   refine c5 (ld1 Tryd.isAgg93 (a9S.at1 (o := 0) (vs := [(Value.pointer (some ⟨g_2, 0, none⟩))]) (nb rfl) rfl)) ?_
   refine a7 (j8 _) ?_
   refine a7 b3E ?_
   refine c5 (ld1 Tryd.isAgg4 ((a9S.bring 1).at1 (o := 4) (vs := [(Value.bool ((B1).fnamed))]) (nb rfl) rfl)) ?_
   refine k8 (fun d6Y => ?_) (fun d6Y => ?_)
   ·replace h := h.1 d6Y
    refine c5 (ld1 Tryd.isAgg93 (a9S.at1 (o := 0) (vs := [(Value.pointer (some ⟨g_2, 0, none⟩))]) (nb rfl) rfl)) ?_
    refine a7 (j8 _) ?_
    refine a7 a7A ?_
    refine p7 (a9S.bring 1) Tryd.sizeOf34 (vs := [(vi 31)]) (cs' := [(vi ((B1).fnodes)), (vi ((B1).fdepth)), (vi 31), (Value.bool ((B1).fform)), (Value.bool ((B1).fnamed)), (vs a9h)]) rfl rfl (nb rfl) rfl rfl fun B8 c9Q g4R => ?_
    exact hx1 _ _ (hj1 ((B1).fnodes) ((B1).fdepth) 31 ((B1).fform) ((B1).fnamed) a6d a9h b4p b4n _ b4q ((((c9Q.bring 2).bring 3).bring 2).bring 3) h)
   ·replace h := h.2 d6Y
    exact hx1 _ _ (hj1 ((B1).fnodes) ((B1).fdepth) ((B1).fe) ((B1).fform) ((B1).fnamed) a6d a9h b4p b4n _ b4q ((((a9S.bring 2).bring 3).bring 3).bring 3) h)
theorem b4r (x0 : Sl) {H : Hp} {K : g7 → Hp → Prop} (h : a2Y x0 H K) : a4V x0 H K := by
 intro w I
 refine e5m ?_
 refine b3i x0 I (fun r0 gr0 H' w' I' hk => ⟨H', _, I', r0, gr0, rfl, rfl, hk⟩) h
def a4w (x0 : k5) (H : Hp) (K : g7 → Hp → Prop) : Prop :=
 D9 x0.D3 H (fun (a7X : Sl) (H_8 : Hp) =>
 r8 x0.a0V H_8 (fun (a7Y : Sl) (b6b : Hp) =>
 ∀ (a8Z : Sl) (a7Z : Hp), Hle b6b a7Z → SlH a7Z 1 csl a8Z [a7X, a7Y] → a8Z.n ≤ a8Z.c →
 v7 a8Z a7Z (fun (a9p : Sl) (b2G : Hp) =>
 a4V a9p b2G (fun (d0v : g7) (b8e : Hp) =>
 K d0v b8e))))
theorem b6j (x0 : k5) {w0 w : World} {ps0 : Nat → Prop} {H0 H : Hp} {K : g7 → Hp → Prop} {R : Value → World → Prop} {E : Pan} (I : Inv w0 ps0 H0 H [] w) (hR : ∀ (r0 : g7) (gr0 : Nat) (H' : Hp) (w' : World) (_ : Inv w0 ps0 H0 H' [bx gr0 92 (a5Y r0)] w') (_ : K r0 H'), R (Value.pointer (some ⟨gr0, 0, none⟩)) w') (h : a4w x0 H K) : F66 (Value.agg (f9 x0).toArray) w R E := by
 unfold a4w at h
 unfold F66
 refine J4 I (cs := (f9 x0)) rfl fun g_2 w_3 I_4 k_5 => ?_
 refine b5e I_4 fun w_6 I_7 => ?_
 refine B5 R5 ?_
 refine B5 a4M ?_
 refine a2J (ld1 Tryd.isAgg22 (I_7.at1 (o := 0) (vs := [(vs x0.D3)]) (nb rfl) rfl)) ?_
 refine a2J (ld1 Tryd.isAgg23 (I_7.at1 (o := 1) (vs := [(vs x0.a0V)]) (nb rfl) rfl)) ?_
 refine f6 (cap := []) (fun args w => Tryd.call95 args w) ?_
 refine i6 (Fi := []) (Fr := [bx g_2 25 (f9 x0)]) I_7 (h) (fun f0Q H_8 f0R w_9 b3T a8a b7U c4B => ?_) (fun _ _ _ _ _ q => q.elim)
 obtain ⟨a7X, rfl, rfl, h⟩ := c4B
 refine ⟨(b7U _ I_7.lt1 (Inv.a7w (Fi := []) I_7)), ?_⟩
 refine f6 (cap := []) (fun args w => Tryd.call97 args w) ?_
 refine i6 (Fi := []) (Fr := [bx g_2 25 (f9 x0)]) b3T (h) (fun f0S b6b f0T p8 b3U f0U c4C c4D => ?_) (fun _ _ _ _ _ q => q.elim)
 obtain ⟨a7Y, rfl, rfl, h⟩ := c4D
 refine a5y (e := 97) (c := csl) (xs := [a7X, a7Y]) b3U (c2V _ _ _ _ _ _) rfl rfl c2s c2t (nb rfl) fun a8Z f0V b2A c4E b7V d6g => ?_
 obtain ⟨a7Z, b7W, b5J, b3V, b7X⟩ := Inv.freezeC b7V c4E (by decide)
 replace h := h a8Z a7Z b5J b3V b7X
 refine f6 (cap := []) (fun args w => Tryd.call94 args w) ?_
 refine i6 (Fi := []) (Fr := [bx g_2 25 (f9 x0)]) b7W (h) (fun f0W b2G f0X b7F a8X f0Y f0Z c4F => ?_) (fun _ _ _ _ _ q => q.elim)
 obtain ⟨a9p, rfl, rfl, h⟩ := c4F
 refine f6 (cap := []) (fun args w => Tryd.call57 args w) ?_
 refine i6 (Fi := []) (Fr := [bx g_2 25 (f9 x0)]) a8X (h) (fun g5a b8e f1j E6 c4O c4P f1k d6y => ?_) (fun _ _ _ _ _ q => q.elim)
 obtain ⟨d0v, f1z, rfl, rfl, h⟩ := d6y
 exact hR d0v f1z b8e _ (c4O.bring 1).drop h
theorem b7q (x0 : k5) {H : Hp} {K : g7 → Hp → Prop} (h : a4w x0 H K) : a6n x0 H K := by
 intro w I
 refine e6l ?_
 refine b6j x0 I (fun r0 gr0 H' w' I' hk => ⟨H', _, I', r0, gr0, rfl, rfl, hk⟩) h
def T2 (x0 : b8) (x1 : Int) (H : Hp) (K : Bool → b8 → Hp → Prop) : Prop :=
 (¬ (x0.fbad = 0) →
 K false x0 H) ∧
 (x0.fbad = 0 →
 (x0.fn = 4096 →
 K false (b8.mk x0.fn x0.fdepth 33) H) ∧
 (¬ (x0.fn = 4096) →
 (64 < x1 →
 K false (b8.mk x0.fn x0.fdepth 32) H) ∧
 (¬ (64 < x1) →
 K true (b8.mk (IntKind.wrap .i64 (x0.fn + 1)) (if x1 > x0.fdepth then x1 else x0.fdepth) x0.fbad) H)))
theorem a8j (x0 : b8) (x1 : Int) (g0 : Nat) {w0 w : World} {ps0 : Nat → Prop} {H0 H : Hp} {K : Bool → b8 → Hp → Prop} {R : Value → World → Prop} {E : Pan} (I : Inv w0 ps0 H0 H [bx g0 99 (d5 x0)] w) (hR : ∀ (r0 : Bool) (y0 : b8) (H' : Hp) (w' : World) (_ : Inv w0 ps0 H0 H' [bx g0 99 (d5 y0)] w') (_ : K r0 y0 H'), R (Value.bool r0) w') (h : T2 x0 x1 H K) : F91 (Value.pointer (some ⟨g0, 0, none⟩)) (vi x1) w R E := by
 unfold T2 at h
 unfold F91
 refine a7 (j8 _) ?_
 refine a7 s7 ?_
 refine c5 (ld1 Tryd.isAgg3 (I.at1 (o := 2) (vs := [(vi x0.fbad)]) (nb rfl) rfl)) ?_
 refine a7 (F6 _ _ _ _ _ _) ?_
 refine a8O (fun a4X => ?_) (fun a4X => ?_)
 ·replace h := h.1 a4X
  exact hR false x0 H _ I h
 ·replace h := h.2 a4X
  refine a7 (j8 _) ?_
  refine a7 b3A ?_
  refine c5 (ld1 Tryd.isAgg3 (I.at1 (o := 0) (vs := [(vi x0.fn)]) (nb rfl) rfl)) ?_
  refine a7 (d4 _ _ _ _ _ _) ?_
  refine g6 (fun b1e => ?_) (fun b1e => ?_)
  ·replace h := h.1 b1e
   refine a7 (j8 _) ?_
   refine a7 s7 ?_
   refine p7 I Tryd.sizeOf3 (vs := [(vi 33)]) (cs' := [(vi x0.fn), (vi x0.fdepth), (vi 33)]) rfl rfl (nb rfl) rfl rfl fun w_1 I_2 k_3 => ?_
   exact hR false (b8.mk x0.fn x0.fdepth 33) H _ I_2 h
  ·replace h := h.2 b1e
   refine a7 (a2H _ _ _ _ _ _) ?_
   refine g6 (fun b8C => ?_) (fun b8C => ?_)
   ·replace h := h.1 b8C
    refine a7 (j8 _) ?_
    refine a7 s7 ?_
    refine p7 I Tryd.sizeOf3 (vs := [(vi 32)]) (cs' := [(vi x0.fn), (vi x0.fdepth), (vi 32)]) rfl rfl (nb rfl) rfl rfl fun w_4 I_5 k_6 => ?_
    exact hR false (b8.mk x0.fn x0.fdepth 32) H _ I_5 h
   ·replace h := h.2 b8C
    refine a7 (j8 _) ?_
    refine a7 b3A ?_
    refine c5 (ld1 Tryd.isAgg3 (I.at1 (o := 0) (vs := [(vi x0.fn)]) (nb rfl) rfl)) ?_
    refine a7 (m4 _ _ _ _ _ _) ?_
    refine a7 (j8 _) ?_
    refine a7 b3A ?_
    refine p7 I Tryd.sizeOf3 (vs := [(vi (IntKind.wrap .i64 (x0.fn + 1)))]) (cs' := [(vi (IntKind.wrap .i64 (x0.fn + 1))), (vi x0.fdepth), (vi x0.fbad)]) rfl rfl (nb rfl) rfl rfl fun w_7 I_8 k_9 => ?_
    refine a7 (j8 _) ?_
    refine a7 b8V ?_
    refine c5 (ld1 Tryd.isAgg3 (I_8.at1 (o := 1) (vs := [(vi x0.fdepth)]) (nb rfl) rfl)) ?_
    refine a7 (d3q _ _ _ _ _) ?_
    refine a7 (j8 _) ?_
    refine a7 b8V ?_
    refine p7 I_8 Tryd.sizeOf3 (vs := [(vi (if x1 > x0.fdepth then x1 else x0.fdepth))]) (cs' := [(vi (IntKind.wrap .i64 (x0.fn + 1))), (vi (if x1 > x0.fdepth then x1 else x0.fdepth)), (vi x0.fbad)]) rfl rfl (nb rfl) rfl rfl fun m2 a3q b3R => ?_
    exact hR true (b8.mk (IntKind.wrap .i64 (x0.fn + 1)) (if x1 > x0.fdepth then x1 else x0.fdepth) x0.fbad) H _ a3q h
theorem a8F (x0 : b8) (x1 : Int) {H : Hp} {K : Bool → b8 → Hp → Prop} (h : T2 x0 x1 H K) : G5 x0 x1 H K := by
 intro g0 w I
 refine e7c ?_
 refine a8j x0 x1 g0 I (fun r0 y0 H' w' I' hk => ⟨H', _, I', r0, y0, rfl, rfl, hk⟩) h
def T3 (cr_11j2 : b8) (_cr_6j2 : b8) (_cr_1j2 : k5) (H : Hp) (K : b8 → Hp → Prop) : Prop :=
 K cr_11j2 H
def T4 (cr_1l3 : k5) (a6Z : Int) (cr_11l3 : b8) (cr_6l3 : b8) (H : Hp) (n3 : (Int × b8 × b8) → Hp → Prop) (K : b8 → Hp → Prop) : Prop :=
 (((decide (a6Z < (cr_1l3.a0V.n : Int))) && (decide (cr_11l3.fbad = 0))) = true →
 (0 : Int) ≤ a6Z ∧ (a6Z : Int) < cr_1l3.a0V.n ∧ ∃ b4s : i5, EltH H cr_1l3.a0V a6Z 6 (d6 b4s) ∧
 M2 cr_11l3 b4s 1 H (fun (b2n : b8) (b1t : Hp) =>
 n3 ((IntKind.wrap .i64 (a6Z + 1)), b2n, cr_6l3) b1t)) ∧
 (((decide (a6Z < (cr_1l3.a0V.n : Int))) && (decide (cr_11l3.fbad = 0))) = false →
 T3 cr_11l3 cr_6l3 cr_1l3 H K)
def T5 (cr_11j1 : b8) (cr_6j1 : b8) (cr_1j1 : k5) (H : Hp) (K : b8 → Hp → Prop) : Prop :=
 TL ((0, cr_11j1, cr_6j1) : Int × b8 × b8) H fun (s : Int × b8 × b8) H n3 => T4 cr_1j1 s.1 s.2.1 s.2.2 H n3 K
def T6 (cr_1l4 : k5) (a9T : Int) (cr_11l4 : b8) (cr_6l4 : b8) (H : Hp) (n4 : (Int × b8 × b8) → Hp → Prop) (K : b8 → Hp → Prop) : Prop :=
 (((decide (a9T < (cr_1l4.D3.n : Int))) && (decide (cr_11l4.fbad = 0))) = true →
 G5 cr_11l4 1 H (fun (_r0_98 : Bool) (d0w : b8) (d6Z : Hp) =>
 n4 ((IntKind.wrap .i64 (a9T + 1)), d0w, cr_6l4) d6Z)) ∧
 (((decide (a9T < (cr_1l4.D3.n : Int))) && (decide (cr_11l4.fbad = 0))) = false →
 T5 cr_11l4 cr_6l4 cr_1l4 H K)
def Z9 (x0 : k5) (H : Hp) (K : b8 → Hp → Prop) : Prop :=
 TL ((0, (b8.mk 0 0 0), (b8.mk 0 0 0)) : Int × b8 × b8) H fun (s : Int × b8 × b8) H n4 => T6 x0 s.1 s.2.1 s.2.2 H n4 K
theorem a9B (x0 : k5) {w0 w : World} {ps0 : Nat → Prop} {H0 H : Hp} {K : b8 → Hp → Prop} {R : Value → World → Prop} {E : Pan} (I : Inv w0 ps0 H0 H [] w) (hR : ∀ (r0 : b8) (H' : Hp) (w' : World) (_ : Inv w0 ps0 H0 H' [] w') (_ : K r0 H'), R (Value.agg (d5 r0).toArray) w') (h : Z9 x0 H K) : F63 (Value.agg (f9 x0).toArray) w R E := by
 unfold Z9 at h
 unfold F63
 refine J4 I (cs := (f9 x0)) rfl fun g_2 w_3 I_4 k_5 => ?_
 refine G4 I_4 Tryd.zeroValue99 (cs := [(vi 0), (vi 0), (vi 0)]) rfl fun g_7 w_8 I_9 d6e => ?_
 refine a7 (d3s ) ?_
 refine G4 I_9 Tryd.zeroValue99 (cs := [(vi 0), (vi 0), (vi 0)]) rfl fun b2K a2K a3r c1d => ?_
 refine p7 a3r Tryd.sizeOf99 (vs := [(vi 0), (vi 0), (vi 0)]) (cs' := [(vi 0), (vi 0), (vi 0)]) rfl rfl (nb rfl) rfl rfl fun o6 a8i c1p => ?_
 have hj1 : ∀ (cr_11j1 : b8) (cr_6j1 : b8) (H : Hp) (w : World) (_ : Inv w0 ps0 H0 H [bx b2K 99 (d5 cr_11j1), bx g_7 99 (d5 cr_6j1), bx g_2 25 (f9 x0)] w) (_ : T5 cr_11j1 cr_6j1 x0 H K), c3s (Value.pointer (some ⟨g_2, 0, none⟩)) (Value.pointer (some ⟨g_7, 0, none⟩)) (Value.pointer (some ⟨b2K, 0, none⟩)) w R E := by
  intro cr_11j1 cr_6j1 H w I h
  unfold c3s
  intro _
  unfold T5 at h
  have hj2 : ∀ (cr_11j2 : b8) (cr_6j2 : b8) (H : Hp) (w : World) (_ : Inv w0 ps0 H0 H [bx b2K 99 (d5 cr_11j2), bx g_7 99 (d5 cr_6j2), bx g_2 25 (f9 x0)] w) (_ : T3 cr_11j2 cr_6j2 x0 H K), c3q (Value.pointer (some ⟨g_7, 0, none⟩)) (Value.pointer (some ⟨b2K, 0, none⟩)) w R E := by
   intro cr_11j2 cr_6j2 H w I h
   unfold c3q
   intro _
   unfold T3 at h
   refine c5 (ldA Tryd.isAgg99 Tryd.sizeOf99 rfl (I.at1 (o := 0) (vs := (d5 cr_11j2)) (nb rfl) rfl)) ?_
   refine p7 (I.bring 1) Tryd.sizeOf99 (vs := (d5 cr_11j2)) (cs' := (d5 cr_11j2)) rfl rfl (nb rfl) rfl rfl fun B9 b3Z f1h => ?_
   refine e0J Tryd.isAgg99 Tryd.sizeOf99 rfl (b3Z.at1 (o := 0) (vs := (d5 cr_11j2)) (nb rfl) rfl) ?_
   exact hR cr_11j2 H _ b3Z.drop.drop.drop h
  refine m6 fun j2 hx2 => ?_
  obtain ⟨b1u, a5R, c5e, c5f⟩ := h
  refine p9 (J := fun n l w => ∃ (s : Int × b8 × b8) (H : Hp) , n = a5R s ∧ l = (match s with | (a6Z, cr_11l3, cr_6l3) => [(vi a6Z)]) ∧ (match s with | (a6Z, cr_11l3, cr_6l3) => Inv w0 ps0 H0 H [bx b2K 99 (d5 cr_11l3), bx g_7 99 (d5 cr_6l3), bx g_2 25 (f9 x0)] w) ∧ b1u s H) ⟨_, (0, cr_11j1, cr_6j1), H, rfl, rfl, (((I.bring 2).bring 2).bring 2), c5e⟩ ?_
  rintro f1A τ_78 w next3 ⟨⟨a6Z, cr_11l3, cr_6l3⟩, H, rfl, a6m, I, c5g⟩ hn3
  dsimp only at a6m I
  simp only [List.map_cons, List.map_nil, List.cons.injEq, and_true] at a6m
  have e5 := a6m
  simp only [e5]
  obtain ⟨n3, hm3, h⟩ : ∃ n3 : (Int × b8 × b8) → Hp → Prop, (∀ s' H', n3 s' H' → b1u s' H' ∧ a5R s' < a5R (a6Z, cr_11l3, cr_6l3)) ∧ T4 x0 a6Z cr_11l3 cr_6l3 H n3 K := ⟨_, fun _ _ h => h, c5f (a6Z, cr_11l3, cr_6l3) H (fun s' H' => b1u s' H' ∧ a5R s' < a5R (a6Z, cr_11l3, cr_6l3)) c5g (fun _ _ a b => ⟨a, b⟩)⟩
  unfold d3z
  unfold T4 at h
  refine a7 a4M ?_
  refine c5 (ld1 Tryd.isAgg23 ((I.bring 2).at1 (o := 1) (vs := [(vs x0.a0V)]) (nb rfl) rfl)) ?_
  refine a7 (D6 _ _ _) ?_
  refine a7 (o2 _ _ _ _ _ _) ?_
  refine a7 (Pu.g fun hb => by have a8 := hb; first | exact s7 | (simp only [b9 a8, b6 a8, b6 hb, o7 a8]; exact s7) | (simp only [b9 a8, b6 a8, b6 hb, d8 a8, f8]; exact s7)) ?_
  refine c5 (Ld.g fun hb => by have a8 := hb; first | exact (ld1 Tryd.isAgg3 (I.at1 (o := 2) (vs := [(vi cr_11l3.fbad)]) (nb rfl) rfl)) | (simp only [b6 a8]; exact (ld1 Tryd.isAgg3 (I.at1 (o := 2) (vs := [(vi cr_11l3.fbad)]) (nb rfl) rfl))) | (simp only [b9 a8, b6 a8, b6 hb, d8 a8, f8]; exact (ld1 Tryd.isAgg3 (I.at1 (o := 2) (vs := [(vi cr_11l3.fbad)]) (nb rfl) rfl)))) ?_
  refine a7 (Pu.g fun hb => by have a8 := hb; first | exact (d4 _ _ _ _ _ _) | (simp only [b6 a8]; exact (d4 _ _ _ _ _ _)) | (simp only [b9 a8, b6 a8, b6 hb, d8 a8, f8]; exact (d4 _ _ _ _ _ _))) ?_
  refine a7 (m3 _ _) ?_
  refine k8 (fun a3t => ?_) (fun a3t => ?_)
  ·replace h := h.1 a3t
   refine a7 a4M ?_
   refine c5 (ld1 Tryd.isAgg23 ((I.bring 2).at1 (o := 1) (vs := [(vs x0.a0V)]) (nb rfl) rfl)) ?_
   obtain ⟨d7a, c5h, b4s, b4a, h⟩ := h
   obtain ⟨g5H, g5I, c5i, b4a⟩ := b4a
   refine a7 (a4O c5i _ _ _ _ d7a c5h) ?_
   refine c5 (ldA (vs := (d6 b4s)) Tryd.isAgg88 Tryd.sizeOf88 rfl (I.atH b4a)) ?_
   refine f6 (cap := []) (fun args w => Tryd.call92 args w) ?_
   refine i6 (Fi := [bx b2K 99 (d5 cr_11l3)]) (Fr := [bx g_7 99 (d5 cr_6l3), bx g_2 25 (f9 x0)]) I (h b2K) (fun f1B b1t f1C J7 b6k c5d d7b c5j => ?_) (fun _ _ _ _ _ q => q.elim)
   obtain ⟨b2n, rfl, rfl, h⟩ := c5j
   refine a7 (m4 _ _ _ _ _ _) ?_
   exact hn3 _ _ _ (hm3 _ _ h).2 ⟨((IntKind.wrap .i64 (a6Z + 1)), b2n, cr_6l3), b1t, rfl, rfl, (((b6k.bring 2).bring 2).bring 2), (hm3 _ _ h).1⟩
  ·replace h := h.2 a3t
   exact hx2 _ _ (hj2 cr_11l3 cr_6l3 H _ (((I.bring 2).bring 2).bring 2) h)
 refine m6 fun j1 hx1 => ?_
 obtain ⟨d0x, b9R, g0K, g0L⟩ := h
 refine p9 (J := fun n l w => ∃ (s : Int × b8 × b8) (H : Hp) , n = b9R s ∧ l = (match s with | (a9T, cr_11l4, cr_6l4) => [(vi a9T)]) ∧ (match s with | (a9T, cr_11l4, cr_6l4) => Inv w0 ps0 H0 H [bx b2K 99 (d5 cr_11l4), bx g_7 99 (d5 cr_6l4), bx g_2 25 (f9 x0)] w) ∧ d0x s H) ⟨_, (0, (b8.mk 0 0 0), (b8.mk 0 0 0)), H, rfl, rfl, (((a8i.bring 2).bring 2).bring 2), g0K⟩ ?_
 rintro g8J τ_105 w next4 ⟨⟨a9T, cr_11l4, cr_6l4⟩, H, rfl, d0y, I, g0M⟩ hn4
 dsimp only at d0y I
 simp only [List.map_cons, List.map_nil, List.cons.injEq, and_true] at d0y
 have e4 := d0y
 simp only [e4]
 obtain ⟨n4, hm4, h⟩ : ∃ n4 : (Int × b8 × b8) → Hp → Prop, (∀ s' H', n4 s' H' → d0x s' H' ∧ b9R s' < b9R (a9T, cr_11l4, cr_6l4)) ∧ T6 x0 a9T cr_11l4 cr_6l4 H n4 K := ⟨_, fun _ _ h => h, g0L (a9T, cr_11l4, cr_6l4) H (fun s' H' => d0x s' H' ∧ b9R s' < b9R (a9T, cr_11l4, cr_6l4)) g0M (fun _ _ a b => ⟨a, b⟩)⟩
 unfold d3A
 unfold T6 at h
 refine a7 R5 ?_
 refine c5 (ld1 Tryd.isAgg22 ((I.bring 2).at1 (o := 0) (vs := [(vs x0.D3)]) (nb rfl) rfl)) ?_
 refine a7 (a9x _ _ _) ?_
 refine a7 (o2 _ _ _ _ _ _) ?_
 refine a7 (Pu.g fun hb => by have a8 := hb; first | exact s7 | (simp only [b9 a8, b6 a8, b6 hb, o7 a8]; exact s7) | (simp only [b9 a8, b6 a8, b6 hb, d8 a8, f8]; exact s7)) ?_
 refine c5 (Ld.g fun hb => by have a8 := hb; first | exact (ld1 Tryd.isAgg3 (I.at1 (o := 2) (vs := [(vi cr_11l4.fbad)]) (nb rfl) rfl)) | (simp only [b6 a8]; exact (ld1 Tryd.isAgg3 (I.at1 (o := 2) (vs := [(vi cr_11l4.fbad)]) (nb rfl) rfl))) | (simp only [b9 a8, b6 a8, b6 hb, d8 a8, f8]; exact (ld1 Tryd.isAgg3 (I.at1 (o := 2) (vs := [(vi cr_11l4.fbad)]) (nb rfl) rfl)))) ?_
 refine a7 (Pu.g fun hb => by have a8 := hb; first | exact (d4 _ _ _ _ _ _) | (simp only [b6 a8]; exact (d4 _ _ _ _ _ _)) | (simp only [b9 a8, b6 a8, b6 hb, d8 a8, f8]; exact (d4 _ _ _ _ _ _))) ?_
 refine a7 (m3 _ _) ?_
 refine k8 (fun d7c => ?_) (fun d7c => ?_)
 ·replace h := h.1 d7c
  refine f6 (cap := []) (fun args w => Tryd.call91 args w) ?_
  refine i6 (Fi := [bx b2K 99 (d5 cr_11l4)]) (Fr := [bx g_7 99 (d5 cr_6l4), bx g_2 25 (f9 x0)]) I (h b2K) (fun h1J d6Z h1K h1L g5J e9o h1M g5K => ?_) (fun _ _ _ _ _ q => q.elim)
  obtain ⟨g8K, d0w, rfl, rfl, h⟩ := g5K
  refine a7 (m4 _ _ _ _ _ _) ?_
  exact hn4 _ _ _ (hm4 _ _ h).2 ⟨((IntKind.wrap .i64 (a9T + 1)), d0w, cr_6l4), d6Z, rfl, rfl, (((g5J.bring 2).bring 2).bring 2), (hm4 _ _ h).1⟩
 ·replace h := h.2 d7c
  exact hx1 _ _ (hj1 cr_11l4 cr_6l4 H _ (((I.bring 2).bring 2).bring 2) h)
theorem a9U (x0 : k5) {H : Hp} {K : b8 → Hp → Prop} (h : Z9 x0 H K) : a2E x0 H K := by
 intro w I
 refine e6h ?_
 refine a9B x0 I (fun r0 H' w' I' hk => ⟨H', _, I', r0, rfl, rfl, hk⟩) h
def a2Z (x0 : k6) (H : Hp) (K : c8 → Hp → Prop) : Prop :=
 K (c8.C3 (E5.mk x0)) H
theorem b3j (x0 : k6) {w0 w : World} {ps0 : Nat → Prop} {H0 H : Hp} {K : c8 → Hp → Prop} {R : Value → World → Prop} {E : Pan} (I : Inv w0 ps0 H0 H [] w) (hR : ∀ (r0 : c8) (H' : Hp) (w' : World) (_ : Inv w0 ps0 H0 H' [] w') (_ : K r0 H'), R (u0 r0) w') (h : a2Z x0 H K) : c9t (Value.agg (d9 x0).toArray) w R E := by
 unfold a2Z at h
 unfold c9t
 refine J4 I (cs := (d9 x0)) rfl fun g_2 w_3 I_4 k_5 => ?_
 refine c5 (ldA Tryd.isAgg30 Tryd.sizeOf30 rfl (I_4.at1 (o := 0) (vs := (d9 x0)) (nb rfl) rfl)) ?_
 refine a7 (c7O _ _ _ _ _ _) ?_
 refine a7 (b4S (E5.mk x0)) ?_
 exact hR (c8.C3 (E5.mk x0)) H _ I_4.drop h
theorem b4t (x0 : k6) {H : Hp} {K : c8 → Hp → Prop} (h : a2Z x0 H K) : a7U x0 H K := by
 intro w I
 refine e2b ?_
 refine b3j x0 I (fun r0 H' w' I' hk => ⟨H', _, I', r0, rfl, rfl, hk⟩) h
def a1e (x0 : E5) (H : Hp) (K : Sl → Hp → Prop) : Prop :=
 r9 x0.k4.o8 H (fun (o9 : Sl) (H_6 : Hp) =>
 K o9 H_6)
theorem b0l (x0 : E5) {w0 w : World} {ps0 : Nat → Prop} {H0 H : Hp} {K : Sl → Hp → Prop} {R : Value → World → Prop} {E : Pan} (I : Inv w0 ps0 H0 H [] w) (hR : ∀ (r0 : Sl) (H' : Hp) (w' : World) (_ : Inv w0 ps0 H0 H' [] w') (_ : K r0 H'), R (vs r0) w') (h : a1e x0 H K) : c9r (Value.agg (d9 x0.k4).toArray) w R E := by
 unfold a1e at h
 unfold c9r
 refine J4 I (cs := (d9 x0.k4)) rfl fun g_2 w_3 I_4 k_5 => ?_
 refine a7 K6 ?_
 refine a7 R6 ?_
 refine c5 (ld1 Tryd.isAgg28 (I_4.at1 (o := 3) (vs := [(vs x0.k4.o8)]) (nb rfl) rfl)) ?_
 refine f6 (cap := []) (fun args w => Tryd.call150 args w) ?_
 refine i6 (Fi := []) (Fr := [bx g_2 96 (d9 x0.k4)]) I_4 (h) (fun a5D H_6 a5E w_7 I_8 a4J k_9 R3 => ?_) (fun _ _ _ _ _ q => q.elim)
 obtain ⟨o9, rfl, rfl, h⟩ := R3
 exact hR o9 H_6 _ I_8.drop h
theorem b1v (x0 : E5) {H : Hp} {K : Sl → Hp → Prop} (h : a1e x0 H K) : a5M x0 H K := by
 intro w I
 refine e1X ?_
 refine b0l x0 I (fun r0 H' w' I' hk => ⟨H', _, I', r0, rfl, rfl, hk⟩) h
end Go.Proofs.YthldnpmfelniiaaDoor
