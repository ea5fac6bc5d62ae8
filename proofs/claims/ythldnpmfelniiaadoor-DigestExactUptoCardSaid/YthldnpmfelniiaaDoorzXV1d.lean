/- Typed formulas of the program's functions, and the theorems that the contracts follow from them; printed by lift.py off the code. -/
import Derived.Test.YthldnpmfelniiaaDoorzXV1
namespace Go.Proofs.YthldnpmfelniiaaDoor
open Go.RowKit
set_option maxRecDepth 100000
set_option maxHeartbeats 2000000
def v2 (S3 : (List c8)) (H : Hp) (K : Sl → Hp → Prop) : Prop :=
 ∀ (C0 : Sl) (a1O : Hp), Hle H a1O → SlH a1O 1 m7 C0 S3 → C0.n ≤ C0.c →
 K C0 a1O
def v6 (N2 : Sl) (a7W : Int) (p6 : (List c8)) (q9 : Int) (H : Hp) (n2 : ((List c8) × Int) → Hp → Prop) (K : Sl → Hp → Prop) : Prop :=
 (q9 < a7W →
 (0 : Int) ≤ q9 ∧ (q9 : Int) < N2.n ∧ ∃ x_1 : E8, EltH H N2 q9 2 (p5 x_1) ∧
 a7S x_1 H (fun (N0 : c8) (a2R : Hp) =>
 (p6.length + ([N0] : List c8).length) * 17 ≤ 140737488355328 ∧
 n2 ((p6 ++ [N0]), (IntKind.wrap .i64 (q9 + 1))) a2R)) ∧
 (¬ (q9 < a7W) →
 v2 p6 H K)
def z2 (x0 : Sl) (H : Hp) (K : Sl → Hp → Prop) : Prop :=
 TL (([], 0) : (List c8) × Int) H fun (s : (List c8) × Int) H n2 => v6 x0 (x0.n : Int) s.1 s.2 H n2 K
theorem a1K (x0 : Sl) {w0 w : World} {ps0 : Nat → Prop} {H0 H : Hp} {K : Sl → Hp → Prop} {R : Value → World → Prop} {E : Pan} (I : Inv w0 ps0 H0 H [] w) (hR : ∀ (r0 : Sl) (H' : Hp) (w' : World) (_ : Inv w0 ps0 H0 H' [] w') (_ : K r0 H'), R (vs r0) w') (h : z2 x0 H K) : F95 (vs x0) (Value.func (.func 96) #[] #[]) w R E := by
 unfold z2 at h
 unfold F95
 have hj1 : ∀ (S3 : (List c8)) (C0 : Sl) (Fs5j1 : Frag) (H : Hp) (w : World) (_ : RowL 141 1 m7 C0 S3 Fs5j1) (_ : Inv w0 ps0 H0 H [Fs5j1] w) (_ : v2 S3 H K), c3S (vs C0) w R E := by
  intro S3 C0 Fs5j1 H w b0h I h
  unfold c3S
  intro _
  unfold v2 at h
  obtain ⟨a1O, a8X, b5X, b7O, b3Q⟩ := Inv.freezeC I b0h (by decide)
  replace h := h C0 a1O b5X b7O b3Q
  exact hR C0 a1O _ a8X h
 refine m6 fun j1 hx1 => ?_
 refine a7 (a9x _ _ _) ?_
 obtain ⟨a6L, a3p, b7P, b7Q⟩ := h
 refine p9 (J := fun n l w => ∃ (s : (List c8) × Int) (H : Hp) (S4 : Sl) (Fs5l2 : Frag) , n = a3p s ∧ l = (match s with | (p6, q9) => [(vs S4), (vi q9)]) ∧ (match s with | (p6, q9) => RowL 141 1 m7 S4 p6 Fs5l2) ∧ (match s with | (p6, q9) => Inv w0 ps0 H0 H [Fs5l2] w) ∧ a6L s H) ⟨_, ([], 0), H, (Sl.mk none 0 0), [], rfl, rfl, (RowL.nil N1 R2), I.nil, b7P⟩ ?_
 rintro d6f τ_50 w next2 ⟨⟨p6, q9⟩, H, S4, Fs5l2, rfl, a5Q, a2S, I, b5Y⟩ hn2
 dsimp only at a5Q I a2S
 simp only [List.map_cons, List.map_nil, List.cons.injEq, and_true] at a5Q
 obtain ⟨e5, e10⟩ := a5Q
 simp only [e5, e10]
 obtain ⟨n2, hm2, h⟩ : ∃ n2 : ((List c8) × Int) → Hp → Prop, (∀ s' H', n2 s' H' → a6L s' H' ∧ a3p s' < a3p (p6, q9)) ∧ v6 x0 (x0.n : Int) p6 q9 H n2 K := ⟨_, fun _ _ h => h, b7Q (p6, q9) H (fun s' H' => a6L s' H' ∧ a3p s' < a3p (p6, q9)) b5Y (fun _ _ a b => ⟨a, b⟩)⟩
 unfold d3J
 unfold v6 at h
 refine a7 (o2 _ _ _ _ _ _) ?_
 refine g6 (fun a4Y => ?_) (fun a4Y => ?_)
 ·replace h := h.1 a4Y
  obtain ⟨h_4, h_5, x_1, h_7, h⟩ := h
  obtain ⟨g_2, o_3, h_6, h_7⟩ := h_7
  refine a7 (a3h h_6 _ _ _ _ h_4 h_5) ?_
  refine c5 (ldA (vs := (p5 x_1)) Tryd.isAgg67 Tryd.sizeOf67 rfl (I.atH h_7)) ?_
  refine G4 I Tryd.zeroValue67 (cs := [(Value.string ⟨#[]⟩), (vi 0)]) rfl fun g_9 m2 a3q b3R => ?_
  refine p7 a3q Tryd.sizeOf67 (vs := (p5 x_1)) (cs' := (p5 x_1)) rfl rfl (nb rfl) rfl rfl fun a2K a3r c1d => ?_
  refine c5 (ldA Tryd.isAgg67 Tryd.sizeOf67 rfl (a3r.at1 (o := 0) (vs := (p5 x_1)) (nb rfl) rfl)) ?_
  refine f6 (cap := []) (fun args w => Tryd.call96 args w) ?_
  refine i6 (Fi := []) (Fr := [bx g_9 67 (p5 x_1), Fs5l2]) a3r (h) (fun c4x a2R c4y a4G a3s c4z b7R b1g => ?_) (fun _ _ _ _ _ q => q.elim)
  obtain ⟨N0, rfl, rfl, h⟩ := b1g
  refine a5y (e := 141) (c := m7) (xs := [N0]) a3s (b6K _) rfl rfl N1 R2 (nb rfl) fun c4A b5Z w9 b1h a5C b7S => ?_
  obtain ⟨b3S, h⟩ := h
  refine b5h (s := S4) (xs := p6) (a5C.bring 2) a2S (b1h.srcO ((a5C.bring 2).bring 1)) b3S fun b7T b6a z7 a8Y a9N c9E => ?_
  refine a7 (m4 _ _ _ _ _ _) ?_
  exact hn2 _ _ _ (hm2 _ _ h).2 ⟨((p6 ++ [N0]), (IntKind.wrap .i64 (q9 + 1))), a2R, b7T, b6a, rfl, rfl, a8Y, ((a9N.bring 1).drop.bring 1).drop, (hm2 _ _ h).1⟩
 ·replace h := h.2 a4Y
  exact hx1 _ _ (hj1 p6 S4 Fs5l2 H _ a2S I h)
theorem a1X (x0 : Sl) {H : Hp} {K : Sl → Hp → Prop} (h : z2 x0 H K) : D9 x0 H K := by
 intro w I
 refine e7V ?_
 refine a1K x0 I (fun r0 H' w' I' hk => ⟨H', _, I', r0, rfl, rfl, hk⟩) h
def a3Z (x0 : c8) (H : Hp) (K : ByteArray → Bool → Hp → Prop) : Prop :=
 (x0.a8Q = true →
 K ((((x0.V6)).M8).k9) true H) ∧
 (x0.a8Q = false →
 (x0.a8R = true →
 K ((((x0.g9)).c9).k9) ((decide (((((x0.g9)).c9).c6) = 1)) || (decide (((((x0.g9)).c9).c6) = 2))) H) ∧
 (x0.a8R = false →
 (x0.a8P = true →
 K ((((x0.o3)).k4).k9) ((decide (((((x0.o3)).k4).c6) = 2)) || (decide (((((x0.o3)).k4).c6) = 4))) H) ∧
 (x0.a8P = false →
 K ⟨#[]⟩ false H)))
theorem b4U (x0 : c8) {w0 w : World} {ps0 : Nat → Prop} {H0 H : Hp} {K : ByteArray → Bool → Hp → Prop} {R : Value → World → Prop} {E : Pan} (I : Inv w0 ps0 H0 H [] w) (hR : ∀ (r0 : ByteArray) (r1 : Bool) (H' : Hp) (w' : World) (_ : Inv w0 ps0 H0 H' [] w') (_ : K r0 r1 H'), R (Value.tuple #[(Value.string r0), (Value.bool r1)]) w') (h : a3Z x0 H K) : c9f (u0 x0) w R E := by
 unfold a3Z at h
 unfold c9f
 refine a7 (c2q x0) ?_
 refine a7 (r7 _ _ _ rfl) ?_
 refine a7 (r7 _ _ _ rfl) ?_
 refine k8 (fun b8D => ?_) (fun b8D => ?_)
 ·replace h := h.1 b8D
  refine G4 I Tryd.zeroValue175 (cs := [(Value.string ⟨#[]⟩), (vi 0)]) rfl fun g_2 w_3 I_4 k_5 => ?_
  refine p7 I_4 Tryd.sizeOf175 (vs := [(Value.string ((((x0.V6)).M8).k9)), (vi ((((x0.V6)).M8).I8))]) (cs' := [(Value.string ((((x0.V6)).M8).k9)), (vi ((((x0.V6)).M8).I8))]) rfl rfl (nb rfl) rfl rfl fun w_6 I_7 k_8 => ?_
  refine a7 a6s ?_
  refine a7 b0d ?_
  refine c5 (ld1 Tryd.isAgg9 (I_7.at1 (o := 0) (vs := [(Value.string ((((x0.V6)).M8).k9))]) (nb rfl) rfl)) ?_
  exact hR ((((x0.V6)).M8).k9) true H _ I_7.drop h
 ·replace h := h.2 b8D
  refine a7 (c2r x0) ?_
  refine a7 (r7 _ _ _ rfl) ?_
  refine a7 (r7 _ _ _ rfl) ?_
  refine k8 (fun d7d => ?_) (fun d7d => ?_)
  ·replace h := h.1 d7d
   refine G4 I Tryd.zeroValue177 (cs := [(vi 0), (Value.string ⟨#[]⟩), (Value.slice none 0 0), (Value.slice none 0 0), (Value.slice none 0 0), (Value.slice none 0 0)]) rfl fun g5L a0P E7 b5W => ?_
   refine p7 E7 Tryd.sizeOf177 (vs := [(vi ((((x0.g9)).c9).c6)), (Value.string ((((x0.g9)).c9).k9)), (Value.slice ((((x0.g9)).c9).d7).a ((((x0.g9)).c9).d7).n ((((x0.g9)).c9).d7).c), (Value.slice ((((x0.g9)).c9).i4).a ((((x0.g9)).c9).i4).n ((((x0.g9)).c9).i4).c), (Value.slice ((((x0.g9)).c9).s6).a ((((x0.g9)).c9).s6).n ((((x0.g9)).c9).s6).c), (Value.slice ((((x0.g9)).c9).q8).a ((((x0.g9)).c9).q8).n ((((x0.g9)).c9).q8).c)]) (cs' := [(vi ((((x0.g9)).c9).c6)), (Value.string ((((x0.g9)).c9).k9)), (Value.slice ((((x0.g9)).c9).d7).a ((((x0.g9)).c9).d7).n ((((x0.g9)).c9).d7).c), (Value.slice ((((x0.g9)).c9).i4).a ((((x0.g9)).c9).i4).n ((((x0.g9)).c9).i4).c), (Value.slice ((((x0.g9)).c9).s6).a ((((x0.g9)).c9).s6).n ((((x0.g9)).c9).s6).c), (Value.slice ((((x0.g9)).c9).q8).a ((((x0.g9)).c9).q8).n ((((x0.g9)).c9).q8).c)]) rfl rfl (nb rfl) rfl rfl fun m5 c4L d6n => ?_
   refine b5e c4L fun a4G a3s => ?_
   refine B5 D1 ?_
   refine B5 a4P ?_
   refine B5 D1 ?_
   refine B5 B6 ?_
   refine a2J (ld1 Tryd.isAgg9 (a3s.at1 (o := 1) (vs := [(Value.string ((((x0.g9)).c9).k9))]) (nb rfl) rfl)) ?_
   refine a2J (ld1 Tryd.isAgg3 (a3s.at1 (o := 0) (vs := [(vi ((((x0.g9)).c9).c6))]) (nb rfl) rfl)) ?_
   refine B5 (d4 _ _ _ _ _ _) ?_
   refine B5 (Pu.g fun hb => by have a8 := hb; first | exact D1 | (simp only [b9 a8, b6 a8, b6 hb, a5o a8]; exact D1) | (simp only [b9 a8, b6 a8, b6 hb, z8 a8, f8]; exact D1)) ?_
   refine B5 (Pu.g fun hb => by have a8 := hb; first | exact B6 | (simp only [b6 a8]; exact B6) | (simp only [b9 a8, b6 a8, b6 hb, z8 a8, f8]; exact B6)) ?_
   refine e4K (p := (Value.pointer (some ⟨g5L, 0, none⟩))) rfl (Ld.g fun hb => by have a8 := hb; first | exact (ld1 Tryd.isAgg3 (a3s.at1 (o := 0) (vs := [(vi ((((x0.g9)).c9).c6))]) (nb rfl) rfl)) | (simp only [b6 a8]; exact (ld1 Tryd.isAgg3 (a3s.at1 (o := 0) (vs := [(vi ((((x0.g9)).c9).c6))]) (nb rfl) rfl))) | (simp only [b9 a8, b6 a8, b6 hb, z8 a8, f8]; exact (ld1 Tryd.isAgg3 (a3s.at1 (o := 0) (vs := [(vi ((((x0.g9)).c9).c6))]) (nb rfl) rfl)))) ?_
   refine B5 (Pu.g fun hb => by have a8 := hb; first | exact (d4 _ _ _ _ _ _) | (simp only [b6 a8]; exact (d4 _ _ _ _ _ _)) | (simp only [b9 a8, b6 a8, b6 hb, z8 a8, f8]; exact (d4 _ _ _ _ _ _))) ?_
   refine B5 (E4 _ _) ?_
   exact hR ((((x0.g9)).c9).k9) ((decide (((((x0.g9)).c9).c6) = 1)) || (decide (((((x0.g9)).c9).c6) = 2))) H _ a3s.drop h
  ·replace h := h.2 d7d
   refine a7 (c2Y x0) ?_
   refine a7 (r7 _ _ _ rfl) ?_
   refine a7 (r7 _ _ _ rfl) ?_
   refine k8 (fun b8E => ?_) (fun b8E => ?_)
   ·replace h := h.1 b8E
    refine G4 I Tryd.zeroValue96 (cs := [(vi 0), (vi 0), (Value.string ⟨#[]⟩), (Value.slice none 0 0)]) rfl fun f1e a8S g5M h1N => ?_
    refine p7 g5M Tryd.sizeOf96 (vs := [(vi ((((x0.o3)).k4).c6)), (vi ((((x0.o3)).k4).J6)), (Value.string ((((x0.o3)).k4).k9)), (Value.slice ((((x0.o3)).k4).o8).a ((((x0.o3)).k4).o8).n ((((x0.o3)).k4).o8).c)]) (cs' := [(vi ((((x0.o3)).k4).c6)), (vi ((((x0.o3)).k4).J6)), (Value.string ((((x0.o3)).k4).k9)), (Value.slice ((((x0.o3)).k4).o8).a ((((x0.o3)).k4).o8).n ((((x0.o3)).k4).o8).c)]) rfl rfl (nb rfl) rfl rfl fun q6 a9S g5E => ?_
    refine b5e a9S fun a8T b6l => ?_
    refine B5 K6 ?_
    refine B5 a3T ?_
    refine B5 K6 ?_
    refine B5 K5 ?_
    refine a2J (ld1 Tryd.isAgg9 (b6l.at1 (o := 2) (vs := [(Value.string ((((x0.o3)).k4).k9))]) (nb rfl) rfl)) ?_
    refine a2J (ld1 Tryd.isAgg3 (b6l.at1 (o := 0) (vs := [(vi ((((x0.o3)).k4).c6))]) (nb rfl) rfl)) ?_
    refine B5 (d4 _ _ _ _ _ _) ?_
    refine B5 (Pu.g fun hb => by have a8 := hb; first | exact K6 | (simp only [b9 a8, b6 a8, b6 hb, a5o a8]; exact K6) | (simp only [b9 a8, b6 a8, b6 hb, z8 a8, f8]; exact K6)) ?_
    refine B5 (Pu.g fun hb => by have a8 := hb; first | exact K5 | (simp only [b6 a8]; exact K5) | (simp only [b9 a8, b6 a8, b6 hb, z8 a8, f8]; exact K5)) ?_
    refine e4K (p := (Value.pointer (some ⟨f1e, 0, none⟩))) rfl (Ld.g fun hb => by have a8 := hb; first | exact (ld1 Tryd.isAgg3 (b6l.at1 (o := 0) (vs := [(vi ((((x0.o3)).k4).c6))]) (nb rfl) rfl)) | (simp only [b6 a8]; exact (ld1 Tryd.isAgg3 (b6l.at1 (o := 0) (vs := [(vi ((((x0.o3)).k4).c6))]) (nb rfl) rfl))) | (simp only [b9 a8, b6 a8, b6 hb, z8 a8, f8]; exact (ld1 Tryd.isAgg3 (b6l.at1 (o := 0) (vs := [(vi ((((x0.o3)).k4).c6))]) (nb rfl) rfl)))) ?_
    refine B5 (Pu.g fun hb => by have a8 := hb; first | exact (d4 _ _ _ _ _ _) | (simp only [b6 a8]; exact (d4 _ _ _ _ _ _)) | (simp only [b9 a8, b6 a8, b6 hb, z8 a8, f8]; exact (d4 _ _ _ _ _ _))) ?_
    refine B5 (E4 _ _) ?_
    exact hR ((((x0.o3)).k4).k9) ((decide (((((x0.o3)).k4).c6) = 2)) || (decide (((((x0.o3)).k4).c6) = 4))) H _ b6l.drop h
   ·replace h := h.2 b8E
    exact hR ⟨#[]⟩ false H _ I h
theorem b6m (x0 : c8) {H : Hp} {K : ByteArray → Bool → Hp → Prop} (h : a3Z x0 H K) : a2m x0 H K := by
 intro w I
 refine e1y ?_
 refine b4U x0 I (fun r0 r1 H' w' I' hk => ⟨H', _, I', r0, r1, rfl, rfl, hk⟩) h
def a3D (x0 : Int) (H : Hp) (K : Bool → Hp → Prop) : Prop :=
 a3A x0 H (fun (I0 : Int) (H_1 : Hp) =>
 K ((decide (I0 = 3)) || (decide (I0 = 4))) H_1)
theorem b4u (x0 : Int) {w0 w : World} {ps0 : Nat → Prop} {H0 H : Hp} {K : Bool → Hp → Prop} {R : Value → World → Prop} {E : Pan} (I : Inv w0 ps0 H0 H [] w) (hR : ∀ (r0 : Bool) (H' : Hp) (w' : World) (_ : Inv w0 ps0 H0 H' [] w') (_ : K r0 H'), R (Value.bool r0) w') (h : a3D x0 H K) : c9k (Value.int .i32 x0) w R E := by
 unfold a3D at h
 unfold c9k
 refine f6 (cap := []) (fun args w => Tryd.call126 args w) ?_
 refine i6 (Fi := []) (Fr := []) I (h) (fun v_5 H_1 F_6 w_2 I_3 l_8 k_4 q_7 => ?_) (fun _ _ _ _ _ q => q.elim)
 obtain ⟨I0, rfl, rfl, h⟩ := q_7
 refine a7 (d4 _ _ _ _ _ _) ?_
 try simp only [m1]
 refine a7 (Pu.g fun hb => by have a8 := hb; first | exact (d4 _ _ _ _ _ _) | (simp only [b6 a8]; exact (d4 _ _ _ _ _ _)) | (simp only [b9 a8, b6 a8, b6 hb, z8 a8, f8]; exact (d4 _ _ _ _ _ _))) ?_
 refine a7 (E4 _ _) ?_
 exact hR ((decide (I0 = 3)) || (decide (I0 = 4))) H_1 _ I_3 h
theorem b4V (x0 : Int) {H : Hp} {K : Bool → Hp → Prop} (h : a3D x0 H K) : a5z x0 H K := by
 intro w I
 refine e1K ?_
 refine b4u x0 I (fun r0 H' w' I' hk => ⟨H', _, I', r0, rfl, rfl, hk⟩) h
def R0 (H : Hp) (K : Int → Hp → Prop) : Prop :=
 K (-1) H
def R1 (W1 : (List ByteArray)) (b1q : ByteArray) (a4j : Int) (N2 : Int) (H : Hp) (n2 : Int → Hp → Prop) (K : Int → Hp → Prop) : Prop :=
 (N2 < a4j →
 (0 : Int) ≤ N2 ∧ ∃ x_1 : ByteArray, (W1)[(N2 : Int).toNat]? = some x_1 ∧
 (b1q = x_1 →
 K N2 H) ∧
 (¬ (b1q = x_1) →
 n2 (IntKind.wrap .i64 (N2 + 1)) H)) ∧
 (¬ (N2 < a4j) →
 R0 H K)
def W2 (x0 : (List ByteArray)) (x1 : ByteArray) (H : Hp) (K : Int → Hp → Prop) : Prop :=
 TL (0 : Int) H fun (s : Int) H n2 => R1 x0 x1 (x0.length : Int) s H n2 K
theorem a8G (x0 : (List ByteArray)) (x1 : ByteArray) (sx0 : Sl) (Fx0 : Frag) (hx0 : RowL 9 1 C2 sx0 x0 Fx0) {w0 w : World} {ps0 : Nat → Prop} {H0 H : Hp} {K : Int → Hp → Prop} {R : Value → World → Prop} {E : Pan} (I : Inv w0 ps0 H0 H [Fx0] w) (hR : ∀ (r0 : Int) (H' : Hp) (w' : World) (_ : Inv w0 ps0 H0 H' [Fx0] w') (_ : K r0 H'), R (vi r0) w') (h : W2 x0 x1 H K) : c9n (vs sx0) (Value.string x1) w R E := by
 unfold W2 at h
 unfold c9n
 have hj1 : ∀ (H : Hp) (w : World) (_ : Inv w0 ps0 H0 H [Fx0] w) (_ : R0 H K), c0T w R E := by
  intro H w I h
  unfold c0T
  intro _
  unfold R0 at h
  exact hR (-1) H _ I h
 refine m6 fun j1 hx1 => ?_
 refine a7 (c8S Tryd.underlying47 hx0) ?_
 obtain ⟨d7e, c5k, g5N, g5O⟩ := h
 refine p9 (J := fun n l w => ∃ (s : Int) (H : Hp) , n = c5k s ∧ l = [(vi s)] ∧ Inv w0 ps0 H0 H [Fx0] w ∧ d7e s H) ⟨_, 0, H, rfl, rfl, I, g5N⟩ ?_
 rintro h1O τ_15 w next2 ⟨N2, H, rfl, d6h, I, g5P⟩ hn2
 simp only [List.map_cons, List.map_nil, List.cons.injEq, and_true] at d6h
 have e8 := d6h
 simp only [e8]
 obtain ⟨n2, hm2, h⟩ : ∃ n2 : Int → Hp → Prop, (∀ s' H', n2 s' H' → d7e s' H' ∧ c5k s' < c5k N2) ∧ R1 x0 x1 (x0.length : Int) N2 H n2 K := ⟨_, fun _ _ h => h, g5O N2 H (fun s' H' => d7e s' H' ∧ c5k s' < c5k N2) g5P (fun _ _ a b => ⟨a, b⟩)⟩
 unfold c8h
 unfold R1 at h
 refine a7 (o2 _ _ _ _ _ _) ?_
 refine g6 (fun c_9 => ?_) (fun c_9 => ?_)
 ·replace h := h.1 c_9
  obtain ⟨h_3, x_1, h_4, h⟩ := h
  obtain ⟨g_2, a_6, h_5, h_7⟩ := hx0.addr h_4
  refine a7 (d5P h_5 _ _ _ _ h_3 (hx0.lt h_3 h_4)) ?_
  refine c5 (ld1 (v := (Value.string x_1)) Tryd.isAgg9 (hx0.atW I h_5 h_4)) ?_
  refine a7 (G8 _ _ _ _ _) ?_
  refine g6 (fun c_8 => ?_) (fun c_8 => ?_)
  ·replace h := h.1 c_8
   exact hR N2 H _ I h
  ·replace h := h.2 c_8
   refine a7 (m4 _ _ _ _ _ _) ?_
   exact hn2 _ _ _ (hm2 _ _ h).2 ⟨(IntKind.wrap .i64 (N2 + 1)), H, rfl, rfl, I, (hm2 _ _ h).1⟩
 ·replace h := h.2 c_9
  exact hx1 _ _ (hj1 H _ I h)
theorem a9i (x0 : (List ByteArray)) (x1 : ByteArray) {H : Hp} {K : Int → Hp → Prop} (h : W2 x0 x1 H K) : a1N x0 x1 H K := by
 intro sx0 Fx0 hx0 w I
 refine e1O ?_
 refine a8G x0 x1 sx0 Fx0 hx0 I (fun r0 H' w' I' hk => ⟨H', _, I', r0, rfl, rfl, hk⟩) h
def a3E (x0 : k5) (H : Hp) (K : Int → Hp → Prop) : Prop :=
 a6n x0 H (fun (o9 : g7) (H_6 : Hp) =>
 K o9.fe H_6)
theorem b4v (x0 : k5) {w0 w : World} {ps0 : Nat → Prop} {H0 H : Hp} {K : Int → Hp → Prop} {R : Value → World → Prop} {E : Pan} (I : Inv w0 ps0 H0 H [] w) (hR : ∀ (r0 : Int) (H' : Hp) (w' : World) (_ : Inv w0 ps0 H0 H' [] w') (_ : K r0 H'), R (vi r0) w') (h : a3E x0 H K) : F27 (Value.agg (f9 x0).toArray) w R E := by
 unfold a3E at h
 unfold F27
 refine J4 I (cs := (f9 x0)) rfl fun g_2 w_3 I_4 k_5 => ?_
 refine c5 (ldA Tryd.isAgg25 Tryd.sizeOf25 rfl (I_4.at1 (o := 0) (vs := (f9 x0)) (nb rfl) rfl)) ?_
 refine f6 (cap := []) (fun args w => Tryd.call66 args w) ?_
 refine i6 (Fi := []) (Fr := [bx g_2 25 (f9 x0)]) I_4 (h) (fun a5D H_6 a5E w_7 I_8 a4J k_9 R3 => ?_) (fun _ _ _ _ _ q => q.elim)
 obtain ⟨o9, g8h, rfl, rfl, h⟩ := R3
 refine a7 (j8 _) ?_
 refine a7 a7A ?_
 refine c5 (ld1 Tryd.isAgg34 (I_8.at1 (o := 2) (vs := [(vi o9.fe)]) (nb rfl) rfl)) ?_
 exact hR o9.fe H_6 _ I_8.drop.drop h
theorem b4W (x0 : k5) {H : Hp} {K : Int → Hp → Prop} (h : a3E x0 H K) : a5A x0 H K := by
 intro w I
 refine e4Y ?_
 refine b4v x0 I (fun r0 H' w' I' hk => ⟨H', _, I', r0, rfl, rfl, hk⟩) h
def O9 (a8g : Int) (cr_1l2 : k3) (a4j : Int) (L3 : b8) (H : Hp) (n2 : (Int × b8) → Hp → Prop) (K : b8 → Hp → Prop) : Prop :=
 (((decide (a4j < (cr_1l2.l9.n : Int))) && (decide (L3.fbad = 0))) = true →
 (0 : Int) ≤ a4j ∧ (a4j : Int) < cr_1l2.l9.n ∧ ∃ b4s : k3, EltH H cr_1l2.l9 a4j 4 (f5 b4s) ∧
 S8 L3 b4s (IntKind.wrap .i64 (a8g + 1)) H (fun (b2n : b8) (b1t : Hp) =>
 n2 ((IntKind.wrap .i64 (a4j + 1)), b2n) b1t)) ∧
 (((decide (a4j < (cr_1l2.l9.n : Int))) && (decide (L3.fbad = 0))) = false →
 K L3 H)
def P0 (b2H : Int) (F0 : b8) (cr_1j1 : k3) (H : Hp) (K : b8 → Hp → Prop) : Prop :=
 TL ((0, F0) : Int × b8) H fun (s : Int × b8) H n2 => O9 b2H cr_1j1 s.1 s.2 H n2 K
def P1 (c5l : Int) (cr_1l3 : k3) (I1 : Int) (a4a : b8) (H : Hp) (n3 : (Int × b8) → Hp → Prop) (K : b8 → Hp → Prop) : Prop :=
 (((decide (I1 < (cr_1l3.d7.n : Int))) && (decide (a4a.fbad = 0))) = true →
 (0 : Int) ≤ I1 ∧ (I1 : Int) < cr_1l3.d7.n ∧ ∃ d0z : k6, EltH H cr_1l3.d7 I1 4 (d9 d0z) ∧
 M1 a4a d0z (IntKind.wrap .i64 (c5l + 1)) H (fun (c5m : b8) (d7f : Hp) =>
 n3 ((IntKind.wrap .i64 (I1 + 1)), c5m) d7f)) ∧
 (((decide (I1 < (cr_1l3.d7.n : Int))) && (decide (a4a.fbad = 0))) = false →
 P0 c5l a4a cr_1l3 H K)
def T7 (x0 : b8) (x1 : k3) (x2 : Int) (H : Hp) (K : b8 → Hp → Prop) : Prop :=
 G5 x0 x2 H (fun (o9 : Bool) (G6 : b8) (H_6 : Hp) =>
 ((!o9) = true →
 K G6 H_6) ∧
 ((!o9) = false →
 TL ((0, G6) : Int × b8) H_6 fun (s : Int × b8) H n3 => P1 x2 x1 s.1 s.2 H n3 K))
theorem a8k (x0 : b8) (x1 : k3) (x2 : Int) (g0 : Nat) {w0 w : World} {ps0 : Nat → Prop} {H0 H : Hp} {K : b8 → Hp → Prop} {R : Value → World → Prop} {E : Pan} (I : Inv w0 ps0 H0 H [bx g0 99 (d5 x0)] w) (hR : ∀ (y0 : b8) (H' : Hp) (w' : World) (_ : Inv w0 ps0 H0 H' [bx g0 99 (d5 y0)] w') (_ : K y0 H'), R (Value.tuple #[]) w') (h : T7 x0 x1 x2 H K) : F61 (Value.pointer (some ⟨g0, 0, none⟩)) (Value.agg (f5 x1).toArray) (vi x2) w R E := by
 unfold T7 at h
 unfold F61
 refine J4 I (cs := (f5 x1)) rfl fun g_2 w_3 I_4 k_5 => ?_
 refine f6 (cap := []) (fun args w => Tryd.call91 args w) ?_
 refine i6 (Fi := [bx g0 99 (d5 x0)]) (Fr := [bx g_2 33 (f5 x1)]) (I_4.bring 1) (h g0) (fun a5D H_6 a5E w_7 I_8 a4J k_9 R3 => ?_) (fun _ _ _ _ _ q => q.elim)
 obtain ⟨o9, G6, rfl, rfl, h⟩ := R3
 refine a7 (G7 _) ?_
 refine k8 (fun b4w => ?_) (fun b4w => ?_)
 ·replace h := h.1 b4w
  exact hR G6 H_6 _ (I_8.bring 1).drop h
 ·replace h := h.2 b4w
  have hj1 : ∀ (F0 : b8) (H : Hp) (w : World) (_ : Inv w0 ps0 H0 H [bx g0 99 (d5 F0), bx g_2 33 (f5 x1)] w) (_ : P0 x2 F0 x1 H K), c3m (Value.pointer (some ⟨g0, 0, none⟩)) (vi x2) (Value.pointer (some ⟨g_2, 0, none⟩)) w R E := by
   intro F0 H w I h
   unfold c3m
   intro _
   unfold P0 at h
   obtain ⟨b1u, a5R, c5e, c5f⟩ := h
   refine p9 (J := fun n l w => ∃ (s : Int × b8) (H : Hp) , n = a5R s ∧ l = (match s with | (a4j, L3) => [(vi a4j)]) ∧ (match s with | (a4j, L3) => Inv w0 ps0 H0 H [bx g0 99 (d5 L3), bx g_2 33 (f5 x1)] w) ∧ b1u s H) ⟨_, (0, F0), H, rfl, rfl, ((I.bring 1).bring 1), c5e⟩ ?_
   rintro f1A τ_78 w next2 ⟨⟨a4j, L3⟩, H, rfl, a6m, I, c5g⟩ hn2
   dsimp only at a6m I
   simp only [List.map_cons, List.map_nil, List.cons.injEq, and_true] at a6m
   have e7 := a6m
   simp only [e7]
   obtain ⟨n2, hm2, h⟩ : ∃ n2 : (Int × b8) → Hp → Prop, (∀ s' H', n2 s' H' → b1u s' H' ∧ a5R s' < a5R (a4j, L3)) ∧ O9 x2 x1 a4j L3 H n2 K := ⟨_, fun _ _ h => h, c5f (a4j, L3) H (fun s' H' => b1u s' H' ∧ a5R s' < a5R (a4j, L3)) c5g (fun _ _ a b => ⟨a, b⟩)⟩
   unfold d3x
   unfold O9 at h
   refine a7 R8 ?_
   refine c5 (ld1 Tryd.isAgg31 ((I.bring 1).at1 (o := 3) (vs := [(vs x1.l9)]) (nb rfl) rfl)) ?_
   refine a7 (H8 _ _ _) ?_
   refine a7 (o2 _ _ _ _ _ _) ?_
   try simp only [m1]
   refine a7 (Pu.g fun hb => by have a8 := hb; first | exact (j8 _) | (simp only [b6 a8]; exact (j8 _)) | (simp only [b9 a8, b6 a8, b6 hb, d8 a8, f8]; exact (j8 _))) ?_
   refine a7 (Pu.g fun hb => by have a8 := hb; first | exact s7 | (simp only [b6 a8]; exact s7) | (simp only [b9 a8, b6 a8, b6 hb, d8 a8, f8]; exact s7)) ?_
   refine c5 (Ld.g fun hb => by have a8 := hb; first | exact (ld1 Tryd.isAgg3 (I.at1 (o := 2) (vs := [(vi L3.fbad)]) (nb rfl) rfl)) | (simp only [b6 a8]; exact (ld1 Tryd.isAgg3 (I.at1 (o := 2) (vs := [(vi L3.fbad)]) (nb rfl) rfl))) | (simp only [b9 a8, b6 a8, b6 hb, d8 a8, f8]; exact (ld1 Tryd.isAgg3 (I.at1 (o := 2) (vs := [(vi L3.fbad)]) (nb rfl) rfl)))) ?_
   refine a7 (Pu.g fun hb => by have a8 := hb; first | exact (d4 _ _ _ _ _ _) | (simp only [b6 a8]; exact (d4 _ _ _ _ _ _)) | (simp only [b9 a8, b6 a8, b6 hb, d8 a8, f8]; exact (d4 _ _ _ _ _ _))) ?_
   refine a7 (m3 _ _) ?_
   refine k8 (fun a3t => ?_) (fun a3t => ?_)
   ·replace h := h.1 a3t
    refine a7 R8 ?_
    refine c5 (ld1 Tryd.isAgg31 ((I.bring 1).at1 (o := 3) (vs := [(vs x1.l9)]) (nb rfl) rfl)) ?_
    obtain ⟨d7a, c5h, b4s, b4a, h⟩ := h
    obtain ⟨g5H, g5I, c5i, b4a⟩ := b4a
    refine a7 (a4N c5i _ _ _ _ d7a c5h) ?_
    refine c5 (ldA (vs := (f5 b4s)) Tryd.isAgg33 Tryd.sizeOf33 rfl (I.atH b4a)) ?_
    refine a7 (m4 _ _ _ _ _ _) ?_
    refine f6 (cap := []) (fun args w => Tryd.call61 args w) ?_
    refine i6 (Fi := [bx g0 99 (d5 L3)]) (Fr := [bx g_2 33 (f5 x1)]) I (h g0) (fun f1B b1t f1C J7 b6k c5d d7b c5j => ?_) (fun _ _ _ _ _ q => q.elim)
    obtain ⟨b2n, rfl, rfl, h⟩ := c5j
    refine a7 (m4 _ _ _ _ _ _) ?_
    exact hn2 _ _ _ (hm2 _ _ h).2 ⟨((IntKind.wrap .i64 (a4j + 1)), b2n), b1t, rfl, rfl, ((b6k.bring 1).bring 1), (hm2 _ _ h).1⟩
   ·replace h := h.2 a3t
    exact hR L3 H _ (I.bring 1).drop h
  refine m6 fun j1 hx1 => ?_
  obtain ⟨d0A, b9S, g0N, g0O⟩ := h
  refine p9 (J := fun n l w => ∃ (s : Int × b8) (H : Hp) , n = b9S s ∧ l = (match s with | (I1, a4a) => [(vi I1)]) ∧ (match s with | (I1, a4a) => Inv w0 ps0 H0 H [bx g0 99 (d5 a4a), bx g_2 33 (f5 x1)] w) ∧ d0A s H) ⟨_, (0, G6), H_6, rfl, rfl, ((I_8.bring 1).bring 1), g0N⟩ ?_
  rintro g8L τ_112 w next3 ⟨⟨I1, a4a⟩, H, rfl, d0B, I, g0P⟩ hn3
  dsimp only at d0B I
  simp only [List.map_cons, List.map_nil, List.cons.injEq, and_true] at d0B
  have e6 := d0B
  simp only [e6]
  obtain ⟨n3, hm3, h⟩ : ∃ n3 : (Int × b8) → Hp → Prop, (∀ s' H', n3 s' H' → d0A s' H' ∧ b9S s' < b9S (I1, a4a)) ∧ P1 x2 x1 I1 a4a H n3 K := ⟨_, fun _ _ h => h, g0O (I1, a4a) H (fun s' H' => d0A s' H' ∧ b9S s' < b9S (I1, a4a)) g0P (fun _ _ a b => ⟨a, b⟩)⟩
  unfold d3y
  unfold P1 at h
  refine a7 R7 ?_
  refine c5 (ld1 Tryd.isAgg28 ((I.bring 1).at1 (o := 2) (vs := [(vs x1.d7)]) (nb rfl) rfl)) ?_
  refine a7 (v8 _ _ _) ?_
  refine a7 (o2 _ _ _ _ _ _) ?_
  try simp only [m1]
  refine a7 (Pu.g fun hb => by have a8 := hb; first | exact (j8 _) | (simp only [b6 a8]; exact (j8 _)) | (simp only [b9 a8, b6 a8, b6 hb, d8 a8, f8]; exact (j8 _))) ?_
  refine a7 (Pu.g fun hb => by have a8 := hb; first | exact s7 | (simp only [b6 a8]; exact s7) | (simp only [b9 a8, b6 a8, b6 hb, d8 a8, f8]; exact s7)) ?_
  refine c5 (Ld.g fun hb => by have a8 := hb; first | exact (ld1 Tryd.isAgg3 (I.at1 (o := 2) (vs := [(vi a4a.fbad)]) (nb rfl) rfl)) | (simp only [b6 a8]; exact (ld1 Tryd.isAgg3 (I.at1 (o := 2) (vs := [(vi a4a.fbad)]) (nb rfl) rfl))) | (simp only [b9 a8, b6 a8, b6 hb, d8 a8, f8]; exact (ld1 Tryd.isAgg3 (I.at1 (o := 2) (vs := [(vi a4a.fbad)]) (nb rfl) rfl)))) ?_
  refine a7 (Pu.g fun hb => by have a8 := hb; first | exact (d4 _ _ _ _ _ _) | (simp only [b6 a8]; exact (d4 _ _ _ _ _ _)) | (simp only [b9 a8, b6 a8, b6 hb, d8 a8, f8]; exact (d4 _ _ _ _ _ _))) ?_
  refine a7 (m3 _ _) ?_
  refine k8 (fun d0C => ?_) (fun d0C => ?_)
  ·replace h := h.1 d0C
   refine a7 R7 ?_
   refine c5 (ld1 Tryd.isAgg28 ((I.bring 1).at1 (o := 2) (vs := [(vs x1.d7)]) (nb rfl) rfl)) ?_
   obtain ⟨d6A, b8i, d0z, b8F, h⟩ := h
   obtain ⟨h1P, h1Q, c5n, b8F⟩ := b8F
   refine a7 (a1M c5n _ _ _ _ d6A b8i) ?_
   refine c5 (ldA (vs := (d9 d0z)) Tryd.isAgg30 Tryd.sizeOf30 rfl (I.atH b8F)) ?_
   refine a7 (m4 _ _ _ _ _ _) ?_
   refine f6 (cap := []) (fun args w => Tryd.call58 args w) ?_
   refine i6 (Fi := [bx g0 99 (d5 a4a)]) (Fr := [bx g_2 33 (f5 x1)]) I (h g0) (fun g8M d7f g8N a3L g5Q g8O g8P g0Q => ?_) (fun _ _ _ _ _ q => q.elim)
   obtain ⟨c5m, rfl, rfl, h⟩ := g0Q
   refine a7 (m4 _ _ _ _ _ _) ?_
   exact hn3 _ _ _ (hm3 _ _ h).2 ⟨((IntKind.wrap .i64 (I1 + 1)), c5m), d7f, rfl, rfl, ((g5Q.bring 1).bring 1), (hm3 _ _ h).1⟩
  ·replace h := h.2 d0C
   exact hx1 _ _ (hj1 a4a H _ ((I.bring 1).bring 1) h)
theorem a8H (x0 : b8) (x1 : k3) (x2 : Int) {H : Hp} {K : b8 → Hp → Prop} (h : T7 x0 x1 x2 H K) : S8 x0 x1 x2 H K := by
 intro g0 w I
 refine e5I ?_
 refine a8k x0 x1 x2 g0 I (fun y0 H' w' I' hk => ⟨H', _, I', y0, rfl, rfl, hk⟩) h
def K2 (a0Q : Bool) (d9N : Int) (b6Z : Bool) (cr_6j1 : t7) (_cr_1j1 : K4) (H : Hp) (K : Bool → Hp → Prop) : Prop :=
 (b6Z = true →
 K (a0Q && (decide (cr_6j1.fexprs = 0 ∧ cr_6j1.fconds = 1))) H) ∧
 (b6Z = false →
 (d9N = 7 →
 K (a0Q && (decide (cr_6j1.fexprs = 0 ∧ cr_6j1.fconds = 0))) H) ∧
 (¬ (d9N = 7) →
 K false H))
def a1A (x0 : K4) (H : Hp) (K : Bool → Hp → Prop) : Prop :=
 (x0.c9.c6 = 1 →
 K ((!(decide (0 < (IntKind.wrap .i64 ((x0.c9.s6.n : Int) + (x0.c9.q8.n : Int)))))) && (decide ((x0.c9.d7.n : Int) = 1 ∧ (x0.c9.i4.n : Int) = 0))) H) ∧
 (¬ (x0.c9.c6 = 1) →
 (x0.c9.c6 = 2 →
 K ((!(decide (0 < (IntKind.wrap .i64 ((x0.c9.s6.n : Int) + (x0.c9.q8.n : Int)))))) && (decide ((x0.c9.d7.n : Int) = 2 ∧ (x0.c9.i4.n : Int) = 0))) H) ∧
 (¬ (x0.c9.c6 = 2) →
 (x0.c9.c6 = 3 →
 K ((decide (x0.c9.k9 = ⟨#[]⟩)) && (decide ((x0.c9.d7.n : Int) = 0 ∧ (x0.c9.i4.n : Int) = 1))) H) ∧
 (¬ (x0.c9.c6 = 3) →
 (x0.c9.c6 = 4 →
 K (((decide (x0.c9.k9 = ⟨#[]⟩)) && (decide ((x0.c9.q8.n : Int) = 0))) && (decide ((x0.c9.d7.n : Int) = 0 ∧ (x0.c9.i4.n : Int) = 1))) H) ∧
 (¬ (x0.c9.c6 = 4) →
 (x0.c9.c6 = 5 →
 K2 ((decide (x0.c9.k9 = ⟨#[]⟩)) && (!(decide (0 < (IntKind.wrap .i64 ((x0.c9.s6.n : Int) + (x0.c9.q8.n : Int))))))) x0.c9.c6 (decide (x0.c9.c6 = 5)) (t7.mk (x0.c9.d7.n : Int) (x0.c9.i4.n : Int)) x0 H K) ∧
 (¬ (x0.c9.c6 = 5) →
 K2 ((decide (x0.c9.k9 = ⟨#[]⟩)) && (!(decide (0 < (IntKind.wrap .i64 ((x0.c9.s6.n : Int) + (x0.c9.q8.n : Int))))))) x0.c9.c6 (decide (x0.c9.c6 = 6)) (t7.mk (x0.c9.d7.n : Int) (x0.c9.i4.n : Int)) x0 H K)))))
theorem b1w (x0 : K4) {w0 w : World} {ps0 : Nat → Prop} {H0 H : Hp} {K : Bool → Hp → Prop} {R : Value → World → Prop} {E : Pan} (I : Inv w0 ps0 H0 H [] w) (hR : ∀ (r0 : Bool) (H' : Hp) (w' : World) (_ : Inv w0 ps0 H0 H' [] w') (_ : K r0 H'), R (Value.bool r0) w') (h : a1A x0 H K) : c9B (Value.agg (d6 x0.c9).toArray) w R E := by
 unfold a1A at h
 unfold c9B
 refine J4 I (cs := (d6 x0.c9)) rfl fun g_2 w_3 I_4 k_5 => ?_
 refine a7 D1 ?_
 refine a7 V8 ?_
 refine c5 (ld1 Tryd.isAgg23 (I_4.at1 (o := 4) (vs := [(vs x0.c9.s6)]) (nb rfl) rfl)) ?_
 refine a7 (D6 _ _ _) ?_
 refine a7 D1 ?_
 refine a7 M9 ?_
 refine c5 (ld1 Tryd.isAgg23 (I_4.at1 (o := 5) (vs := [(vs x0.c9.q8)]) (nb rfl) rfl)) ?_
 refine a7 (D6 _ _ _) ?_
 refine a7 (m4 _ _ _ _ _ _) ?_
 refine a7 (a2H _ _ _ _ _ _) ?_
 refine a7 D1 ?_
 refine a7 R9 ?_
 refine c5 (ld1 Tryd.isAgg28 (I_4.at1 (o := 2) (vs := [(vs x0.c9.d7)]) (nb rfl) rfl)) ?_
 refine a7 (v8 _ _ _) ?_
 refine a7 D1 ?_
 refine a7 S1 ?_
 refine c5 (ld1 Tryd.isAgg31 (I_4.at1 (o := 3) (vs := [(vs x0.c9.i4)]) (nb rfl) rfl)) ?_
 refine a7 (H8 _ _ _) ?_
 refine a7 (C5 _ _) ?_
 refine G4 I_4 Tryd.zeroValue213 (cs := [(vi 0), (vi 0)]) rfl fun g_7 w_8 I_9 d6e => ?_
 refine p7 I_9 Tryd.sizeOf213 (vs := [(vi (x0.c9.d7.n : Int)), (vi (x0.c9.i4.n : Int))]) (cs' := [(vi (x0.c9.d7.n : Int)), (vi (x0.c9.i4.n : Int))]) rfl rfl (nb rfl) rfl rfl fun a0P E7 b5W => ?_
 refine a7 D1 ?_
 refine a7 a4P ?_
 refine c5 (ld1 Tryd.isAgg9 ((E7.bring 1).at1 (o := 1) (vs := [(Value.string x0.c9.k9)]) (nb rfl) rfl)) ?_
 refine a7 (G8 _ _ _ _ _) ?_
 try simp only [m1]
 refine a7 (Pu.g fun hb => by have a8 := hb; first | exact (G7 _) | (simp only [b6 a8]; exact (G7 _)) | (simp only [b9 a8, b6 a8, b6 hb, d8 a8, f8]; exact (G7 _))) ?_
 refine a7 (m3 _ _) ?_
 refine a7 D1 ?_
 refine a7 B6 ?_
 refine c5 (ld1 Tryd.isAgg3 ((E7.bring 1).at1 (o := 0) (vs := [(vi x0.c9.c6)]) (nb rfl) rfl)) ?_
 refine a7 (d4 _ _ _ _ _ _) ?_
 refine g6 (fun b1b => ?_) (fun b1b => ?_)
 ·replace h := h.1 b1b
  refine a7 (G7 _) ?_
  refine c5 (Ld.g fun hb => by have a8 := hb; first | exact (ldA Tryd.isAgg213 Tryd.sizeOf213 rfl (E7.at1 (o := 0) (vs := [(vi (x0.c9.d7.n : Int)), (vi (x0.c9.i4.n : Int))]) (nb rfl) rfl)) | (simp only [b9 a8, b6 a8, b6 hb, o7 a8]; exact (ldA Tryd.isAgg213 Tryd.sizeOf213 rfl (E7.at1 (o := 0) (vs := [(vi (x0.c9.d7.n : Int)), (vi (x0.c9.i4.n : Int))]) (nb rfl) rfl))) | (simp only [b9 a8, b6 a8, b6 hb, d8 a8, f8]; exact (ldA Tryd.isAgg213 Tryd.sizeOf213 rfl (E7.at1 (o := 0) (vs := [(vi (x0.c9.d7.n : Int)), (vi (x0.c9.i4.n : Int))]) (nb rfl) rfl)))) ?_
  refine a7 (Pu.g fun hb => by have a8 := hb; first | exact (C5 _ _) | (simp only [b9 a8, b6 a8, b6 hb, o7 a8]; exact (C5 _ _)) | (simp only [b9 a8, b6 a8, b6 hb, d8 a8, f8]; exact (C5 _ _))) ?_
  refine a7 (Pu.g fun hb => by have a8 := hb; first | exact (M7 _ _ _ _ _ _) | (simp only [b6 a8]; exact (M7 _ _ _ _ _ _)) | (simp only [b9 a8, b6 a8, b6 hb, d8 a8, f8]; exact (M7 _ _ _ _ _ _))) ?_
  refine a7 (m3 _ _) ?_
  exact hR ((!(decide (0 < (IntKind.wrap .i64 ((x0.c9.s6.n : Int) + (x0.c9.q8.n : Int)))))) && (decide ((x0.c9.d7.n : Int) = 1 ∧ (x0.c9.i4.n : Int) = 0))) H _ E7.drop.drop h
 ·replace h := h.2 b1b
  refine a7 (d4 _ _ _ _ _ _) ?_
  refine g6 (fun b1c => ?_) (fun b1c => ?_)
  ·replace h := h.1 b1c
   refine a7 (G7 _) ?_
   refine c5 (Ld.g fun hb => by have a8 := hb; first | exact (ldA Tryd.isAgg213 Tryd.sizeOf213 rfl (E7.at1 (o := 0) (vs := [(vi (x0.c9.d7.n : Int)), (vi (x0.c9.i4.n : Int))]) (nb rfl) rfl)) | (simp only [b9 a8, b6 a8, b6 hb, o7 a8]; exact (ldA Tryd.isAgg213 Tryd.sizeOf213 rfl (E7.at1 (o := 0) (vs := [(vi (x0.c9.d7.n : Int)), (vi (x0.c9.i4.n : Int))]) (nb rfl) rfl))) | (simp only [b9 a8, b6 a8, b6 hb, d8 a8, f8]; exact (ldA Tryd.isAgg213 Tryd.sizeOf213 rfl (E7.at1 (o := 0) (vs := [(vi (x0.c9.d7.n : Int)), (vi (x0.c9.i4.n : Int))]) (nb rfl) rfl)))) ?_
   refine a7 (Pu.g fun hb => by have a8 := hb; first | exact (C5 _ _) | (simp only [b9 a8, b6 a8, b6 hb, o7 a8]; exact (C5 _ _)) | (simp only [b9 a8, b6 a8, b6 hb, d8 a8, f8]; exact (C5 _ _))) ?_
   refine a7 (Pu.g fun hb => by have a8 := hb; first | exact (M7 _ _ _ _ _ _) | (simp only [b6 a8]; exact (M7 _ _ _ _ _ _)) | (simp only [b9 a8, b6 a8, b6 hb, d8 a8, f8]; exact (M7 _ _ _ _ _ _))) ?_
   refine a7 (m3 _ _) ?_
   exact hR ((!(decide (0 < (IntKind.wrap .i64 ((x0.c9.s6.n : Int) + (x0.c9.q8.n : Int)))))) && (decide ((x0.c9.d7.n : Int) = 2 ∧ (x0.c9.i4.n : Int) = 0))) H _ E7.drop.drop h
  ·replace h := h.2 b1c
   refine a7 (d4 _ _ _ _ _ _) ?_
   refine g6 (fun b1f => ?_) (fun b1f => ?_)
   ·replace h := h.1 b1f
    refine a7 D1 ?_
    refine a7 a4P ?_
    refine c5 (ld1 Tryd.isAgg9 ((E7.bring 1).at1 (o := 1) (vs := [(Value.string x0.c9.k9)]) (nb rfl) rfl)) ?_
    refine a7 (G8 _ _ _ _ _) ?_
    refine c5 (Ld.g fun hb => by have a8 := hb; first | exact (ldA Tryd.isAgg213 Tryd.sizeOf213 rfl (E7.at1 (o := 0) (vs := [(vi (x0.c9.d7.n : Int)), (vi (x0.c9.i4.n : Int))]) (nb rfl) rfl)) | (simp only [b9 a8, b6 a8, b6 hb, o7 a8]; exact (ldA Tryd.isAgg213 Tryd.sizeOf213 rfl (E7.at1 (o := 0) (vs := [(vi (x0.c9.d7.n : Int)), (vi (x0.c9.i4.n : Int))]) (nb rfl) rfl))) | (simp only [b9 a8, b6 a8, b6 hb, d8 a8, f8]; exact (ldA Tryd.isAgg213 Tryd.sizeOf213 rfl (E7.at1 (o := 0) (vs := [(vi (x0.c9.d7.n : Int)), (vi (x0.c9.i4.n : Int))]) (nb rfl) rfl)))) ?_
    refine a7 (Pu.g fun hb => by have a8 := hb; first | exact (C5 _ _) | (simp only [b9 a8, b6 a8, b6 hb, o7 a8]; exact (C5 _ _)) | (simp only [b9 a8, b6 a8, b6 hb, d8 a8, f8]; exact (C5 _ _))) ?_
    refine a7 (Pu.g fun hb => by have a8 := hb; first | exact (M7 _ _ _ _ _ _) | (simp only [b6 a8]; exact (M7 _ _ _ _ _ _)) | (simp only [b9 a8, b6 a8, b6 hb, d8 a8, f8]; exact (M7 _ _ _ _ _ _))) ?_
    refine a7 (m3 _ _) ?_
    exact hR ((decide (x0.c9.k9 = ⟨#[]⟩)) && (decide ((x0.c9.d7.n : Int) = 0 ∧ (x0.c9.i4.n : Int) = 1))) H _ E7.drop.drop h
   ·replace h := h.2 b1f
    refine a7 (d4 _ _ _ _ _ _) ?_
    refine g6 (fun a6K => ?_) (fun a6K => ?_)
    ·replace h := h.1 a6K
     refine a7 D1 ?_
     refine a7 a4P ?_
     refine c5 (ld1 Tryd.isAgg9 ((E7.bring 1).at1 (o := 1) (vs := [(Value.string x0.c9.k9)]) (nb rfl) rfl)) ?_
     refine a7 (G8 _ _ _ _ _) ?_
     refine a7 (Pu.g fun hb => by have a8 := hb; first | exact D1 | (simp only [b9 a8, b6 a8, b6 hb, o7 a8]; exact D1) | (simp only [b9 a8, b6 a8, b6 hb, d8 a8, f8]; exact D1)) ?_
     refine a7 (Pu.g fun hb => by have a8 := hb; first | exact M9 | (simp only [b6 a8]; exact M9) | (simp only [b9 a8, b6 a8, b6 hb, d8 a8, f8]; exact M9)) ?_
     refine c5 (Ld.g fun hb => by have a8 := hb; first | exact (ld1 Tryd.isAgg23 ((E7.bring 1).at1 (o := 5) (vs := [(vs x0.c9.q8)]) (nb rfl) rfl)) | (simp only [b6 a8]; exact (ld1 Tryd.isAgg23 ((E7.bring 1).at1 (o := 5) (vs := [(vs x0.c9.q8)]) (nb rfl) rfl))) | (simp only [b9 a8, b6 a8, b6 hb, d8 a8, f8]; exact (ld1 Tryd.isAgg23 ((E7.bring 1).at1 (o := 5) (vs := [(vs x0.c9.q8)]) (nb rfl) rfl)))) ?_
     refine a7 (Pu.g fun hb => by have a8 := hb; first | exact (D6 _ _ _) | (simp only [b6 a8]; exact (D6 _ _ _)) | (simp only [b9 a8, b6 a8, b6 hb, d8 a8, f8]; exact (D6 _ _ _))) ?_
     refine a7 (Pu.g fun hb => by have a8 := hb; first | exact (d4 _ _ _ _ _ _) | (simp only [b6 a8]; exact (d4 _ _ _ _ _ _)) | (simp only [b9 a8, b6 a8, b6 hb, d8 a8, f8]; exact (d4 _ _ _ _ _ _))) ?_
     refine a7 (m3 _ _) ?_
     refine c5 (Ld.g fun hb => by have a8 := hb; first | exact (ldA Tryd.isAgg213 Tryd.sizeOf213 rfl (E7.at1 (o := 0) (vs := [(vi (x0.c9.d7.n : Int)), (vi (x0.c9.i4.n : Int))]) (nb rfl) rfl)) | (simp only [b9 a8, b6 a8, b6 hb, o7 a8]; exact (ldA Tryd.isAgg213 Tryd.sizeOf213 rfl (E7.at1 (o := 0) (vs := [(vi (x0.c9.d7.n : Int)), (vi (x0.c9.i4.n : Int))]) (nb rfl) rfl))) | (simp only [b9 a8, b6 a8, b6 hb, d8 a8, f8]; exact (ldA Tryd.isAgg213 Tryd.sizeOf213 rfl (E7.at1 (o := 0) (vs := [(vi (x0.c9.d7.n : Int)), (vi (x0.c9.i4.n : Int))]) (nb rfl) rfl)))) ?_
     refine a7 (Pu.g fun hb => by have a8 := hb; first | exact (C5 _ _) | (simp only [b9 a8, b6 a8, b6 hb, o7 a8]; exact (C5 _ _)) | (simp only [b9 a8, b6 a8, b6 hb, d8 a8, f8]; exact (C5 _ _))) ?_
     refine a7 (Pu.g fun hb => by have a8 := hb; first | exact (M7 _ _ _ _ _ _) | (simp only [b6 a8]; exact (M7 _ _ _ _ _ _)) | (simp only [b9 a8, b6 a8, b6 hb, d8 a8, f8]; exact (M7 _ _ _ _ _ _))) ?_
     refine a7 (m3 _ _) ?_
     exact hR (((decide (x0.c9.k9 = ⟨#[]⟩)) && (decide ((x0.c9.q8.n : Int) = 0))) && (decide ((x0.c9.d7.n : Int) = 0 ∧ (x0.c9.i4.n : Int) = 1))) H _ E7.drop.drop h
    ·replace h := h.2 a6K
     have hj1 : ∀ (b6Z : Bool) (H : Hp) (w : World) (_ : Inv w0 ps0 H0 H [bx g_7 213 [(vi (t7.mk (x0.c9.d7.n : Int) (x0.c9.i4.n : Int)).fexprs), (vi (t7.mk (x0.c9.d7.n : Int) (x0.c9.i4.n : Int)).fconds)], bx g_2 177 (d6 x0.c9)] w) (_ : K2 ((decide (x0.c9.k9 = ⟨#[]⟩)) && (!(decide (0 < (IntKind.wrap .i64 ((x0.c9.s6.n : Int) + (x0.c9.q8.n : Int))))))) x0.c9.c6 b6Z (t7.mk (x0.c9.d7.n : Int) (x0.c9.i4.n : Int)) x0 H K), c1c (Value.pointer (some ⟨g_7, 0, none⟩)) (Value.bool ((decide (x0.c9.k9 = ⟨#[]⟩)) && (!(decide (0 < (IntKind.wrap .i64 ((x0.c9.s6.n : Int) + (x0.c9.q8.n : Int)))))))) (vi x0.c9.c6) (Value.bool b6Z) w R E := by
      intro b6Z H w I h
      unfold c1c
      intro _
      unfold K2 at h
      refine k8 (fun a4X => ?_) (fun a4X => ?_)
      ·replace h := h.1 a4X
       refine c5 (Ld.g fun hb => by have a8 := hb; first | exact (ldA Tryd.isAgg213 Tryd.sizeOf213 rfl (I.at1 (o := 0) (vs := [(vi (t7.mk (x0.c9.d7.n : Int) (x0.c9.i4.n : Int)).fexprs), (vi (t7.mk (x0.c9.d7.n : Int) (x0.c9.i4.n : Int)).fconds)]) (nb rfl) rfl)) | (simp only [b9 a8, b6 a8, b6 hb, o7 a8]; exact (ldA Tryd.isAgg213 Tryd.sizeOf213 rfl (I.at1 (o := 0) (vs := [(vi (t7.mk (x0.c9.d7.n : Int) (x0.c9.i4.n : Int)).fexprs), (vi (t7.mk (x0.c9.d7.n : Int) (x0.c9.i4.n : Int)).fconds)]) (nb rfl) rfl))) | (simp only [b9 a8, b6 a8, b6 hb, d8 a8, f8]; exact (ldA Tryd.isAgg213 Tryd.sizeOf213 rfl (I.at1 (o := 0) (vs := [(vi (t7.mk (x0.c9.d7.n : Int) (x0.c9.i4.n : Int)).fexprs), (vi (t7.mk (x0.c9.d7.n : Int) (x0.c9.i4.n : Int)).fconds)]) (nb rfl) rfl)))) ?_
       refine a7 (Pu.g fun hb => by have a8 := hb; first | exact (C5 _ _) | (simp only [b9 a8, b6 a8, b6 hb, o7 a8]; exact (C5 _ _)) | (simp only [b9 a8, b6 a8, b6 hb, d8 a8, f8]; exact (C5 _ _))) ?_
       refine a7 (Pu.g fun hb => by have a8 := hb; first | exact (M7 _ _ _ _ _ _) | (simp only [b6 a8]; exact (M7 _ _ _ _ _ _)) | (simp only [b9 a8, b6 a8, b6 hb, d8 a8, f8]; exact (M7 _ _ _ _ _ _))) ?_
       refine a7 (m3 _ _) ?_
       exact hR (((decide (x0.c9.k9 = ⟨#[]⟩)) && (!(decide (0 < (IntKind.wrap .i64 ((x0.c9.s6.n : Int) + (x0.c9.q8.n : Int))))))) && (decide ((t7.mk (x0.c9.d7.n : Int) (x0.c9.i4.n : Int)).fexprs = 0 ∧ (t7.mk (x0.c9.d7.n : Int) (x0.c9.i4.n : Int)).fconds = 1))) H _ I.drop.drop h
      ·replace h := h.2 a4X
       refine a7 (d4 _ _ _ _ _ _) ?_
       refine g6 (fun b1e => ?_) (fun b1e => ?_)
       ·replace h := h.1 b1e
        refine c5 (Ld.g fun hb => by have a8 := hb; first | exact (ldA Tryd.isAgg213 Tryd.sizeOf213 rfl (I.at1 (o := 0) (vs := [(vi (t7.mk (x0.c9.d7.n : Int) (x0.c9.i4.n : Int)).fexprs), (vi (t7.mk (x0.c9.d7.n : Int) (x0.c9.i4.n : Int)).fconds)]) (nb rfl) rfl)) | (simp only [b9 a8, b6 a8, b6 hb, o7 a8]; exact (ldA Tryd.isAgg213 Tryd.sizeOf213 rfl (I.at1 (o := 0) (vs := [(vi (t7.mk (x0.c9.d7.n : Int) (x0.c9.i4.n : Int)).fexprs), (vi (t7.mk (x0.c9.d7.n : Int) (x0.c9.i4.n : Int)).fconds)]) (nb rfl) rfl))) | (simp only [b9 a8, b6 a8, b6 hb, d8 a8, f8]; exact (ldA Tryd.isAgg213 Tryd.sizeOf213 rfl (I.at1 (o := 0) (vs := [(vi (t7.mk (x0.c9.d7.n : Int) (x0.c9.i4.n : Int)).fexprs), (vi (t7.mk (x0.c9.d7.n : Int) (x0.c9.i4.n : Int)).fconds)]) (nb rfl) rfl)))) ?_
        refine a7 (Pu.g fun hb => by have a8 := hb; first | exact (b3F ) | (simp only [b9 a8, b6 a8, b6 hb, o7 a8]; exact (b3F )) | (simp only [b9 a8, b6 a8, b6 hb, d8 a8, f8]; exact (b3F ))) ?_
        refine a7 (Pu.g fun hb => by have a8 := hb; first | exact (M7 _ _ _ _ _ _) | (simp only [b6 a8]; exact (M7 _ _ _ _ _ _)) | (simp only [b9 a8, b6 a8, b6 hb, d8 a8, f8]; exact (M7 _ _ _ _ _ _))) ?_
        refine a7 (m3 _ _) ?_
        exact hR (((decide (x0.c9.k9 = ⟨#[]⟩)) && (!(decide (0 < (IntKind.wrap .i64 ((x0.c9.s6.n : Int) + (x0.c9.q8.n : Int))))))) && (decide ((t7.mk (x0.c9.d7.n : Int) (x0.c9.i4.n : Int)).fexprs = 0 ∧ (t7.mk (x0.c9.d7.n : Int) (x0.c9.i4.n : Int)).fconds = 0))) H _ I.drop.drop h
       ·replace h := h.2 b1e
        exact hR false H _ I.drop.drop h
     refine m6 fun j1 hx1 => ?_
     refine a7 (d4 _ _ _ _ _ _) ?_
     refine g6 (fun b1d => ?_) (fun b1d => ?_)
     ·replace h := h.1 b1d
      exact hx1 _ _ (hj1 (decide (x0.c9.c6 = 5)) H _ ((E7.bring 1).bring 1) h)
     ·replace h := h.2 b1d
      refine a7 (d4 _ _ _ _ _ _) ?_
      exact hx1 _ _ (hj1 (decide (x0.c9.c6 = 6)) H _ ((E7.bring 1).bring 1) h)
theorem b1Y (x0 : K4) {H : Hp} {K : Bool → Hp → Prop} (h : a1A x0 H K) : a3O x0 H K := by
 intro w I
 refine e2P ?_
 refine b1w x0 I (fun r0 H' w' I' hk => ⟨H', _, I', r0, rfl, rfl, hk⟩) h
def a1f (x0 : K4) (H : Hp) (K : Sl → Hp → Prop) : Prop :=
 y6 x0.c9.i4 H (fun (a7X : Sl) (H_8 : Hp) =>
 r9 x0.c9.d7 H_8 (fun (a7Y : Sl) (b6b : Hp) =>
 r8 x0.c9.s6 b6b (fun (d0D : Sl) (f1D : Hp) =>
 r8 x0.c9.q8 f1D (fun (d0E : Sl) (b3W : Hp) =>
 ∀ (c1q : Sl) (a5F : Hp), Hle b3W a5F → SlH a5F 1 csl c1q [a7X, a7Y, d0D, d0E] → c1q.n ≤ c1q.c →
 v7 c1q a5F (fun (d0F : Sl) (d7g : Hp) =>
 K d0F d7g)))))
theorem b0m (x0 : K4) {w0 w : World} {ps0 : Nat → Prop} {H0 H : Hp} {K : Sl → Hp → Prop} {R : Value → World → Prop} {E : Pan} (I : Inv w0 ps0 H0 H [] w) (hR : ∀ (r0 : Sl) (H' : Hp) (w' : World) (_ : Inv w0 ps0 H0 H' [] w') (_ : K r0 H'), R (vs r0) w') (h : a1f x0 H K) : c9D (Value.agg (d6 x0.c9).toArray) w R E := by
 unfold a1f at h
 unfold c9D
 refine J4 I (cs := (d6 x0.c9)) rfl fun g_2 w_3 I_4 k_5 => ?_
 refine b5e I_4 fun w_6 I_7 => ?_
 refine B5 D1 ?_
 refine B5 S1 ?_
 refine B5 D1 ?_
 refine B5 R9 ?_
 refine B5 D1 ?_
 refine B5 V8 ?_
 refine B5 D1 ?_
 refine B5 M9 ?_
 refine a2J (ld1 Tryd.isAgg31 (I_7.at1 (o := 3) (vs := [(vs x0.c9.i4)]) (nb rfl) rfl)) ?_
 refine a2J (ld1 Tryd.isAgg28 (I_7.at1 (o := 2) (vs := [(vs x0.c9.d7)]) (nb rfl) rfl)) ?_
 refine a2J (ld1 Tryd.isAgg23 (I_7.at1 (o := 4) (vs := [(vs x0.c9.s6)]) (nb rfl) rfl)) ?_
 refine a2J (ld1 Tryd.isAgg23 (I_7.at1 (o := 5) (vs := [(vs x0.c9.q8)]) (nb rfl) rfl)) ?_
 refine f6 (cap := []) (fun args w => Tryd.call154 args w) ?_
 refine i6 (Fi := []) (Fr := [bx g_2 177 (d6 x0.c9)]) I_7 (h) (fun f0Q H_8 f0R w_9 b3T a8a b7U c4B => ?_) (fun _ _ _ _ _ q => q.elim)
 obtain ⟨a7X, rfl, rfl, h⟩ := c4B
 refine ⟨(b7U _ I_7.lt1 (Inv.a7w (Fi := []) I_7)), (b7U _ I_7.lt1 (Inv.a7w (Fi := []) I_7)), (b7U _ I_7.lt1 (Inv.a7w (Fi := []) I_7)), ?_⟩
 refine f6 (cap := []) (fun args w => Tryd.call150 args w) ?_
 refine i6 (Fi := []) (Fr := [bx g_2 177 (d6 x0.c9)]) b3T (h) (fun f0S b6b f0T p8 b3U f0U c4C c4D => ?_) (fun _ _ _ _ _ q => q.elim)
 obtain ⟨a7Y, rfl, rfl, h⟩ := c4D
 refine ⟨(c4C _ b3T.lt1 (Inv.a7w (Fi := []) b3T)), (c4C _ b3T.lt1 (Inv.a7w (Fi := []) b3T)), ?_⟩
 refine f6 (cap := []) (fun args w => Tryd.call97 args w) ?_
 refine i6 (Fi := []) (Fr := [bx g_2 177 (d6 x0.c9)]) b3U (h) (fun h1R f1D h1S a8T b6l f1E g5R g5S => ?_) (fun _ _ _ _ _ q => q.elim)
 obtain ⟨d0D, rfl, rfl, h⟩ := g5S
 refine ⟨(g5R _ b3U.lt1 (Inv.a7w (Fi := []) b3U)), ?_⟩
 refine f6 (cap := []) (fun args w => Tryd.call97 args w) ?_
 refine i6 (Fi := []) (Fr := [bx g_2 177 (d6 x0.c9)]) b6l (h) (fun h1T b3W h1U B3 g5T h1V h1W g5U => ?_) (fun _ _ _ _ _ q => q.elim)
 obtain ⟨d0E, rfl, rfl, h⟩ := g5U
 refine a5y (e := 97) (c := csl) (xs := [a7X, a7Y, d0D, d0E]) g5T (d5R _ _ _ _ _ _ _ _ _ _ _ _) rfl rfl c2s c2t (nb rfl) fun c1q h1X a8U d7h c4O f1k => ?_
 obtain ⟨a5F, d7i, c1r, a9g, b8G⟩ := Inv.freezeC c4O d7h (by decide)
 replace h := h c1q a5F c1r a9g b8G
 refine f6 (cap := []) (fun args w => Tryd.call94 args w) ?_
 refine i6 (Fi := []) (Fr := [bx g_2 177 (d6 x0.c9)]) d7i (h) (fun h1Y d7g h1Z b7I d7j b6e g5V g5W => ?_) (fun _ _ _ _ _ q => q.elim)
 obtain ⟨d0F, rfl, rfl, h⟩ := g5W
 exact hR d0F d7g _ d7j.drop h
theorem b1x (x0 : K4) {H : Hp} {K : Sl → Hp → Prop} (h : a1f x0 H K) : a5P x0 H K := by
 intro w I
 refine e2R ?_
 refine b0m x0 I (fun r0 H' w' I' hk => ⟨H', _, I', r0, rfl, rfl, hk⟩) h
end Go.Proofs.YthldnpmfelniiaaDoor
