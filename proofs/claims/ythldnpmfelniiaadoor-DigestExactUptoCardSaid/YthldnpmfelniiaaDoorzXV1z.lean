/- Typed formulas of the program's functions that few laws need; printed by lift.py off the code. -/
import Derived.Test.YthldnpmfelniiaaDoorzXV1
import Derived.Test.YthldnpmfelniiaaDoorzXG1z
namespace Go.Proofs.YthldnpmfelniiaaDoor
open Go.RowKit
set_option maxRecDepth 100000
set_option maxHeartbeats 2000000
def Y5 (g5Y : Int) (f5r : Int) (a5I : Int) (H : Hp) (K : Int → Int → Bool → Hp → Prop) : Prop :=
 ((((decide (a5I < f5r)) || (decide (1114111 < a5I))) || ((decide (55296 ≤ a5I)) && (decide (a5I < 57344)))) = true →
 K 65533 1 false H) ∧
 ((((decide (a5I < f5r)) || (decide (1114111 < a5I))) || ((decide (55296 ≤ a5I)) && (decide (a5I < 57344)))) = false →
 K a5I g5Y true H)
def Y6 (a9k : ByteArray) (a6q : Int) (d8j : Int) (g5Z : Int) (a6C : Int) (S5 : Int) (H : Hp) (n3 : (Int × Int) → Hp → Prop) (K : Int → Int → Bool → Hp → Prop) : Prop :=
 (S5 < d8j →
 ((decide ((a9k.size : Int) ≤ (IntKind.wrap .i64 (a6q + S5)))) = false → (0 : Int) ≤ IntKind.wrap .i64 (a6q + S5) ∧ IntKind.wrap .i64 (a6q + S5) < (a9k.size : Int)) ∧
 (((decide ((a9k.size : Int) ≤ (IntKind.wrap .i64 (a6q + S5)))) || (decide (((a9k.get! (IntKind.wrap .i64 (a6q + S5) : Int).toNat).toNat : Int) < 128))) = false → (0 : Int) ≤ IntKind.wrap .i64 (a6q + S5) ∧ IntKind.wrap .i64 (a6q + S5) < (a9k.size : Int)) ∧
 ((((decide ((a9k.size : Int) ≤ (IntKind.wrap .i64 (a6q + S5)))) || (decide (((a9k.get! (IntKind.wrap .i64 (a6q + S5) : Int).toNat).toNat : Int) < 128))) || (decide (192 ≤ ((a9k.get! (IntKind.wrap .i64 (a6q + S5) : Int).toNat).toNat : Int)))) = true →
 K 65533 1 false H) ∧
 ((((decide ((a9k.size : Int) ≤ (IntKind.wrap .i64 (a6q + S5)))) || (decide (((a9k.get! (IntKind.wrap .i64 (a6q + S5) : Int).toNat).toNat : Int) < 128))) || (decide (192 ≤ ((a9k.get! (IntKind.wrap .i64 (a6q + S5) : Int).toNat).toNat : Int)))) = false →
 (0 : Int) ≤ IntKind.wrap .i64 (a6q + S5) ∧ IntKind.wrap .i64 (a6q + S5) < (a9k.size : Int) ∧
 n3 ((IntKind.wrap .i64 ((IntKind.wrap .i64 ((IntKind.wrap .i64 (64 * a6C)) + (IntKind.wrap .i64 ((a9k.get! (IntKind.wrap .i64 (a6q + S5) : Int).toNat).toNat : Int)))) - 128)), (IntKind.wrap .i64 (S5 + 1))) H)) ∧
 (¬ (S5 < d8j) →
 Y5 d8j g5Z a6C H K)
def E9 (c9G : ByteArray) (g6a : Int) (b4B : Int) (b6w : Int) (b7d : Int) (H : Hp) (K : Int → Int → Bool → Hp → Prop) : Prop :=
 TL ((b7d, 1) : Int × Int) H fun (s : Int × Int) H n3 => Y6 c9G g6a b4B b6w s.1 s.2 H n3 K
def a1g (x0 : ByteArray) (x1 : Int) (H : Hp) (K : Int → Int → Bool → Hp → Prop) : Prop :=
 (0 : Int) ≤ x1 ∧ x1 < (x0.size : Int) ∧
 ((IntKind.wrap .i64 ((x0.get! (x1 : Int).toNat).toNat : Int)) < 128 →
 K (IntKind.wrap .i64 ((x0.get! (x1 : Int).toNat).toNat : Int)) 1 true H) ∧
 (¬ ((IntKind.wrap .i64 ((x0.get! (x1 : Int).toNat).toNat : Int)) < 128) →
 (((decide (194 ≤ (IntKind.wrap .i64 ((x0.get! (x1 : Int).toNat).toNat : Int)))) && (decide ((IntKind.wrap .i64 ((x0.get! (x1 : Int).toNat).toNat : Int)) < 224))) = true →
 E9 x0 x1 2 128 (IntKind.wrap .i64 ((IntKind.wrap .i64 ((x0.get! (x1 : Int).toNat).toNat : Int)) - 192)) H K) ∧
 (((decide (194 ≤ (IntKind.wrap .i64 ((x0.get! (x1 : Int).toNat).toNat : Int)))) && (decide ((IntKind.wrap .i64 ((x0.get! (x1 : Int).toNat).toNat : Int)) < 224))) = false →
 (((decide (224 ≤ (IntKind.wrap .i64 ((x0.get! (x1 : Int).toNat).toNat : Int)))) && (decide ((IntKind.wrap .i64 ((x0.get! (x1 : Int).toNat).toNat : Int)) < 240))) = true →
 E9 x0 x1 3 2048 (IntKind.wrap .i64 ((IntKind.wrap .i64 ((x0.get! (x1 : Int).toNat).toNat : Int)) - 224)) H K) ∧
 (((decide (224 ≤ (IntKind.wrap .i64 ((x0.get! (x1 : Int).toNat).toNat : Int)))) && (decide ((IntKind.wrap .i64 ((x0.get! (x1 : Int).toNat).toNat : Int)) < 240))) = false →
 (((decide (240 ≤ (IntKind.wrap .i64 ((x0.get! (x1 : Int).toNat).toNat : Int)))) && (decide ((IntKind.wrap .i64 ((x0.get! (x1 : Int).toNat).toNat : Int)) < 245))) = true →
 E9 x0 x1 4 65536 (IntKind.wrap .i64 ((IntKind.wrap .i64 ((x0.get! (x1 : Int).toNat).toNat : Int)) - 240)) H K) ∧
 (((decide (240 ≤ (IntKind.wrap .i64 ((x0.get! (x1 : Int).toNat).toNat : Int)))) && (decide ((IntKind.wrap .i64 ((x0.get! (x1 : Int).toNat).toNat : Int)) < 245))) = false →
 K 65533 1 false H))))
theorem b0n (x0 : ByteArray) (x1 : Int) {w0 w : World} {ps0 : Nat → Prop} {H0 H : Hp} {K : Int → Int → Bool → Hp → Prop} {R : Value → World → Prop} {E : Pan} (I : Inv w0 ps0 H0 H [] w) (hR : ∀ (r0 : Int) (r1 : Int) (r2 : Bool) (H' : Hp) (w' : World) (_ : Inv w0 ps0 H0 H' [] w') (_ : K r0 r1 r2 H'), R (Value.tuple #[(vi r0), (vi r1), (Value.bool r2)]) w') (h : a1g x0 x1 H K) : d0N (Value.string x0) (vi x1) w R E := by
 unfold a1g at h
 unfold d0N
 obtain ⟨h_1, h_2, h⟩ := h
 refine a7 (a5t _ _ _ h_1 h_2) ?_
 refine a7 (b5i _ _) ?_
 have hj1 : ∀ (b4B : Int) (b6w : Int) (b7d : Int) (H : Hp) (w : World) (_ : Inv w0 ps0 H0 H [] w) (_ : E9 x0 x1 b4B b6w b7d H K), c1y (Value.string x0) (vi x1) (vi b4B) (vi b6w) (vi b7d) w R E := by
  intro b4B b6w b7d H w I h
  unfold c1y
  intro _
  unfold E9 at h
  have hj2 : ∀ (a5I : Int) (H : Hp) (w : World) (_ : Inv w0 ps0 H0 H [] w) (_ : Y5 b4B b6w a5I H K), c1x (vi b4B) (vi b6w) (vi a5I) w R E := by
   intro a5I H w I h
   unfold c1x
   intro _
   unfold Y5 at h
   refine a7 (o2 _ _ _ _ _ _) ?_
   try simp only [m1]
   refine a7 (Pu.g fun hb => by have a8 := hb; first | exact (a2H _ _ _ _ _ _) | (simp only [b6 a8]; exact (a2H _ _ _ _ _ _)) | (simp only [b9 a8, b6 a8, b6 hb, z8 a8, f8]; exact (a2H _ _ _ _ _ _))) ?_
   refine a7 (E4 _ _) ?_
   try simp only [m1]
   refine a7 (Pu.g fun hb => by have a8 := hb; first | exact (a0B _ _ _ _ _ _) | (simp only [b6 a8]; exact (a0B _ _ _ _ _ _)) | (simp only [b9 a8, b6 a8, b6 hb, z8 a8, f8]; exact (a0B _ _ _ _ _ _))) ?_
   try simp only [Q8, V3]
   try simp only [m1, Q8, a2d, a0T, V3, a2h, a2e, a2f, a2g, a2i]
   refine a7 (Pu.e (a3P _ _ _) (Pu.g fun hb => by obtain ⟨a8, i8⟩ := a5W hb; first | exact (o2 _ _ _ _ _ _) | (simp only [b6 hb]; exact (o2 _ _ _ _ _ _)) | (simp only [b9 a8, b6 a8, b9 i8, b6 i8, b6 hb, o7 hb]; exact (o2 _ _ _ _ _ _)) | (simp only [b9 a8, b6 a8, b9 i8, b6 i8, b6 hb, d8 hb, f8]; exact (o2 _ _ _ _ _ _)))) ?_
   refine a7 (Pu.g fun hb => by have a8 := hb; first | exact (m3 _ _) | (simp only [b6 a8, a5o a8]; exact (m3 _ _)) | (simp only [b9 a8, b6 a8, b6 hb, z8 a8, f8]; exact (m3 _ _))) ?_
   refine a7 (E4 _ _) ?_
   refine k8 (fun d8k => ?_) (fun d8k => ?_)
   ·replace h := h.1 d8k
    exact hR 65533 1 false H _ I h
   ·replace h := h.2 d8k
    exact hR a5I b4B true H _ I h
  refine m6 fun j2 hx2 => ?_
  obtain ⟨d8l, c6n, g6b, g6c⟩ := h
  refine p9 (J := fun n l w => ∃ (s : Int × Int) (H : Hp) , n = c6n s ∧ l = (match s with | (a6C, S5) => [(vi a6C), (vi S5)]) ∧ (match s with | (a6C, S5) => Inv w0 ps0 H0 H [] w) ∧ d8l s H) ⟨_, (b7d, 1), H, rfl, rfl, I, g6b⟩ ?_
  rintro h2a τ_19 w next3 ⟨⟨a6C, S5⟩, H, rfl, d8m, I, g6d⟩ hn3
  dsimp only at d8m I
  simp only [List.map_cons, List.map_nil, List.cons.injEq, and_true] at d8m
  obtain ⟨e10, e11⟩ := d8m
  simp only [e10, e11]
  obtain ⟨n3, hm3, h⟩ : ∃ n3 : (Int × Int) → Hp → Prop, (∀ s' H', n3 s' H' → d8l s' H' ∧ c6n s' < c6n (a6C, S5)) ∧ Y6 x0 x1 b4B b6w a6C S5 H n3 K := ⟨_, fun _ _ h => h, g6c (a6C, S5) H (fun s' H' => d8l s' H' ∧ c6n s' < c6n (a6C, S5)) g6d (fun _ _ a b => ⟨a, b⟩)⟩
  unfold c8B
  unfold Y6 at h
  refine a7 (o2 _ _ _ _ _ _) ?_
  refine g6 (fun b8C => ?_) (fun b8C => ?_)
  ·replace h := h.1 b8C
   refine a7 (m4 _ _ _ _ _ _) ?_
   refine a7 (a6F _) ?_
   refine a7 (a0B _ _ _ _ _ _) ?_
   try simp only [m1]
   try simp only [m1, Q8, a2d, a0T, V3, a2h, a2e, a2f, a2g, a2i]
   try simp only [m1, Q8, a2d, a0T, V3, a2h, a2e, a2f, a2g, a2i]
   refine a7 (Pu.g fun hb => by have a8 := hb; first | exact (m4 _ _ _ _ _ _) | (simp only [b6 a8]; exact (m4 _ _ _ _ _ _)) | (simp only [b9 a8, b6 a8, b6 hb, z8 a8, f8]; exact (m4 _ _ _ _ _ _))) ?_
   obtain ⟨h_5, h⟩ := h
   refine a7 (Pu.g fun hb => by have a8 := hb; first | exact (a5t _ _ _ (h_5 hb).1 (h_5 hb).2) | (simp only [b6 a8]; exact (a5t _ _ _ (h_5 hb).1 (h_5 hb).2)) | (simp only [b9 a8, b6 a8, b6 hb, z8 a8, f8]; exact (a5t _ _ _ (h_5 hb).1 (h_5 hb).2))) ?_
   refine a7 (Pu.g fun hb => by have a8 := hb; first | exact (o2 _ _ _ _ _ _) | (simp only [b6 a8]; exact (o2 _ _ _ _ _ _)) | (simp only [b9 a8, b6 a8, b6 hb, z8 a8, f8]; exact (o2 _ _ _ _ _ _))) ?_
   refine a7 (E4 _ _) ?_
   try simp only [m1]
   try simp only [m1, Q8, a2d, a0T, V3, a2h, a2e, a2f, a2g, a2i]
   try simp only [m1, Q8, a2d, a0T, V3, a2h, a2e, a2f, a2g, a2i]
   refine a7 (Pu.g fun hb => by have a8 := hb; first | exact (m4 _ _ _ _ _ _) | (simp only [b6 a8]; exact (m4 _ _ _ _ _ _)) | (simp only [b9 a8, b6 a8, b6 hb, z8 a8, f8]; exact (m4 _ _ _ _ _ _))) ?_
   obtain ⟨h_8, h⟩ := h
   refine a7 (Pu.g fun hb => by have a8 := hb; first | exact (a5t _ _ _ (h_8 hb).1 (h_8 hb).2) | (simp only [b6 a8]; exact (a5t _ _ _ (h_8 hb).1 (h_8 hb).2)) | (simp only [b9 a8, b6 a8, b6 hb, z8 a8, f8]; exact (a5t _ _ _ (h_8 hb).1 (h_8 hb).2))) ?_
   refine a7 (Pu.g fun hb => by have a8 := hb; first | exact (a0B _ _ _ _ _ _) | (simp only [b6 a8]; exact (a0B _ _ _ _ _ _)) | (simp only [b9 a8, b6 a8, b6 hb, z8 a8, f8]; exact (a0B _ _ _ _ _ _))) ?_
   refine a7 (E4 _ _) ?_
   refine k8 (fun b0Z => ?_) (fun b0Z => ?_)
   ·replace h := h.1 b0Z
    exact hR 65533 1 false H _ I h
   ·replace h := h.2 b0Z
    refine a7 (b5d _ _ _ _ _ _) ?_
    refine a7 (m4 _ _ _ _ _ _) ?_
    obtain ⟨h_9, c6o, h⟩ := h
    refine a7 (a5t _ _ _ h_9 c6o) ?_
    refine a7 (b5i _ _) ?_
    refine a7 (m4 _ _ _ _ _ _) ?_
    refine a7 (a9w _ _ _ _ _ _) ?_
    refine a7 (m4 _ _ _ _ _ _) ?_
    exact hn3 _ _ _ (hm3 _ _ h).2 ⟨((IntKind.wrap .i64 ((IntKind.wrap .i64 ((IntKind.wrap .i64 (64 * a6C)) + (IntKind.wrap .i64 ((x0.get! (IntKind.wrap .i64 (x1 + S5) : Int).toNat).toNat : Int)))) - 128)), (IntKind.wrap .i64 (S5 + 1))), H, rfl, rfl, I, (hm3 _ _ h).1⟩
  ·replace h := h.2 b8C
   exact hx2 _ _ (hj2 a6C H _ I h)
 refine m6 fun j1 hx1 => ?_
 refine a7 (o2 _ _ _ _ _ _) ?_
 refine g6 (fun b8j => ?_) (fun b8j => ?_)
 ·replace h := h.1 b8j
  exact hR (IntKind.wrap .i64 ((x0.get! (x1 : Int).toNat).toNat : Int)) 1 true H _ I h
 ·replace h := h.2 b8j
  refine a7 (a0B _ _ _ _ _ _) ?_
  try simp only [m1]
  refine a7 (Pu.g fun hb => by have a8 := hb; first | exact (o2 _ _ _ _ _ _) | (simp only [b6 a8]; exact (o2 _ _ _ _ _ _)) | (simp only [b9 a8, b6 a8, b6 hb, d8 a8, f8]; exact (o2 _ _ _ _ _ _))) ?_
  refine a7 (m3 _ _) ?_
  refine k8 (fun a6U => ?_) (fun a6U => ?_)
  ·replace h := h.1 a6U
   refine a7 (a9w _ _ _ _ _ _) ?_
   exact hx1 _ _ (hj1 2 128 (IntKind.wrap .i64 ((IntKind.wrap .i64 ((x0.get! (x1 : Int).toNat).toNat : Int)) - 192)) H _ I h)
  ·replace h := h.2 a6U
   refine a7 (a0B _ _ _ _ _ _) ?_
   try simp only [m1]
   refine a7 (Pu.g fun hb => by have a8 := hb; first | exact (o2 _ _ _ _ _ _) | (simp only [b6 a8]; exact (o2 _ _ _ _ _ _)) | (simp only [b9 a8, b6 a8, b6 hb, d8 a8, f8]; exact (o2 _ _ _ _ _ _))) ?_
   refine a7 (m3 _ _) ?_
   refine k8 (fun b8m => ?_) (fun b8m => ?_)
   ·replace h := h.1 b8m
    refine a7 (a9w _ _ _ _ _ _) ?_
    exact hx1 _ _ (hj1 3 2048 (IntKind.wrap .i64 ((IntKind.wrap .i64 ((x0.get! (x1 : Int).toNat).toNat : Int)) - 224)) H _ I h)
   ·replace h := h.2 b8m
    refine a7 (a0B _ _ _ _ _ _) ?_
    try simp only [m1]
    refine a7 (Pu.g fun hb => by have a8 := hb; first | exact (o2 _ _ _ _ _ _) | (simp only [b6 a8]; exact (o2 _ _ _ _ _ _)) | (simp only [b9 a8, b6 a8, b6 hb, d8 a8, f8]; exact (o2 _ _ _ _ _ _))) ?_
    refine a7 (m3 _ _) ?_
    refine k8 (fun b8k => ?_) (fun b8k => ?_)
    ·replace h := h.1 b8k
     refine a7 (a9w _ _ _ _ _ _) ?_
     exact hx1 _ _ (hj1 4 65536 (IntKind.wrap .i64 ((IntKind.wrap .i64 ((x0.get! (x1 : Int).toNat).toNat : Int)) - 240)) H _ I h)
    ·replace h := h.2 b8k
     exact hR 65533 1 false H _ I h
theorem b1E (x0 : ByteArray) (x1 : Int) {H : Hp} {K : Int → Int → Bool → Hp → Prop} (h : a1g x0 x1 H K) : a3l x0 x1 H K := by
 intro w I
 refine e3Z ?_
 refine b0n x0 x1 I (fun r0 r1 r2 H' w' I' hk => ⟨H', _, I', r0, r1, r2, rfl, rfl, hk⟩) h
def a2p (x0 : Int) (x1 : Int) (x2 : Int) (H : Hp) (K : Bool → Hp → Prop) : Prop :=
 K ((decide (x1 ≤ x0)) && (decide (x0 ≤ x2))) H
theorem a9l (x0 : Int) (x1 : Int) (x2 : Int) {w0 w : World} {ps0 : Nat → Prop} {H0 H : Hp} {K : Bool → Hp → Prop} {R : Value → World → Prop} {E : Pan} (I : Inv w0 ps0 H0 H [] w) (hR : ∀ (r0 : Bool) (H' : Hp) (w' : World) (_ : Inv w0 ps0 H0 H' [] w') (_ : K r0 H'), R (Value.bool r0) w') (h : a2p x0 x1 x2 H K) : d0P (vi x0) (vi x1) (vi x2) w R E := by
 unfold a2p at h
 unfold d0P
 refine a7 (a0B _ _ _ _ _ _) ?_
 try simp only [m1]
 try simp only [m1, Q8, a2d, a0T, V3, a2h, a2e, a2f, a2g, a2i]
 refine a7 (Pu.g fun hb => by have a8 := hb; first | exact (a0A _ _ _ _ _ _) | (simp only [b6 a8]; exact (a0A _ _ _ _ _ _)) | (simp only [b9 a8, b6 a8, b6 hb, d8 a8, f8]; exact (a0A _ _ _ _ _ _))) ?_
 refine a7 (m3 _ _) ?_
 exact hR ((decide (x1 ≤ x0)) && (decide (x0 ≤ x2))) H _ I h
theorem a9G (x0 : Int) (x1 : Int) (x2 : Int) {H : Hp} {K : Bool → Hp → Prop} (h : a2p x0 x1 x2 H K) : o5 x0 x1 x2 H K := by
 intro w I
 refine e4d ?_
 refine a9l x0 x1 x2 I (fun r0 H' w' I' hk => ⟨H', _, I', r0, rfl, rfl, hk⟩) h
def W3 (H : Hp) (K : Int → Hp → Prop) : Prop :=
 K 6 H
def B4 (b1F : Int) (J2 : ByteArray) (L6 : Int) (H : Hp) (n2 : Int → Hp → Prop) (K : Int → Hp → Prop) : Prop :=
 (L6 < (J2.size : Int) →
 (0 : Int) ≤ L6 ∧ L6 < (J2.size : Int) ∧
 (b1F = (IntKind.wrap .i64 ((J2.get! (L6 : Int).toNat).toNat : Int)) →
 K 5 H) ∧
 (¬ (b1F = (IntKind.wrap .i64 ((J2.get! (L6 : Int).toNat).toNat : Int))) →
 n2 (IntKind.wrap .i64 (L6 + 1)) H)) ∧
 (¬ (L6 < (J2.size : Int)) →
 W3 H K)
def a0J (x0 : Int) (H : Hp) (K : Int → Hp → Prop) : Prop :=
 ((((decide (x0 = 32)) || (decide (x0 = 9))) || (decide (x0 = 13))) = true →
 K 1 H) ∧
 ((((decide (x0 = 32)) || (decide (x0 = 9))) || (decide (x0 = 13))) = false →
 (x0 = 10 →
 K 2 H) ∧
 (¬ (x0 = 10) →
 o5 x0 48 57 H (fun (I0 : Bool) (H_1 : Hp) =>
 (I0 = true →
 K 4 H_1) ∧
 (I0 = false →
 o5 x0 97 122 H_1 (fun (q7 : Bool) (a2X : Hp) =>
 TG (q7 = false) (o5 x0 65 90 a2X) false a2X (fun (B7 : Bool) (R4 : Hp) =>
 TG (((q7 || B7) || (decide (x0 = 95))) = false) (o5 x0 192 591 R4) false R4 (fun (a0d : Bool) (a7a : Hp) =>
 TG ((((q7 || B7) || (decide (x0 = 95))) || ((a0d && (!decide (x0 = 215))) && (!decide (x0 = 247)))) = false) (o5 x0 913 969 a7a) false a7a (fun (a1B : Bool) (a5G : Hp) =>
 TG (((((q7 || B7) || (decide (x0 = 95))) || ((a0d && (!decide (x0 = 215))) && (!decide (x0 = 247)))) || (a1B && (!decide (x0 = 930)))) = false) (o5 x0 1040 1103 a5G) false a5G (fun (a3F : Bool) (a4k : Hp) =>
 ((((((q7 || B7) || (decide (x0 = 95))) || ((a0d && (!decide (x0 = 215))) && (!decide (x0 = 247)))) || (a1B && (!decide (x0 = 930)))) || a3F) = true →
 K 3 a4k) ∧
 ((((((q7 || B7) || (decide (x0 = 95))) || ((a0d && (!decide (x0 = 215))) && (!decide (x0 = 247)))) || (a1B && (!decide (x0 = 930)))) || a3F) = false →
 TL (0 : Int) a4k fun (s : Int) H n2 => B4 x0 ⟨#[59, 44, 123, 125, 40, 41, 91, 93, 61, 33, 60, 62, 43, 45, 42, 47, 37, 38, 124]⟩ s H n2 K))))))))))
theorem a9V (x0 : Int) {w0 w : World} {ps0 : Nat → Prop} {H0 H : Hp} {K : Int → Hp → Prop} {R : Value → World → Prop} {E : Pan} (I : Inv w0 ps0 H0 H [] w) (hR : ∀ (r0 : Int) (H' : Hp) (w' : World) (_ : Inv w0 ps0 H0 H' [] w') (_ : K r0 H'), R (vi r0) w') (h : a0J x0 H K) : d0O (vi x0) w R E := by
 unfold a0J at h
 unfold d0O
 refine a7 (d4 _ _ _ _ _ _) ?_
 try simp only [m1]
 refine a7 (Pu.g fun hb => by have a8 := hb; first | exact (d4 _ _ _ _ _ _) | (simp only [b6 a8]; exact (d4 _ _ _ _ _ _)) | (simp only [b9 a8, b6 a8, b6 hb, z8 a8, f8]; exact (d4 _ _ _ _ _ _))) ?_
 refine a7 (E4 _ _) ?_
 try simp only [m1]
 refine a7 (Pu.g fun hb => by have a8 := hb; first | exact (d4 _ _ _ _ _ _) | (simp only [b6 a8]; exact (d4 _ _ _ _ _ _)) | (simp only [b9 a8, b6 a8, b6 hb, z8 a8, f8]; exact (d4 _ _ _ _ _ _))) ?_
 refine a7 (E4 _ _) ?_
 refine k8 (fun a6O => ?_) (fun a6O => ?_)
 ·replace h := h.1 a6O
  exact hR 1 H _ I h
 ·replace h := h.2 a6O
  refine a7 (d4 _ _ _ _ _ _) ?_
  refine g6 (fun b1p => ?_) (fun b1p => ?_)
  ·replace h := h.1 b1p
   exact hR 2 H _ I h
  ·replace h := h.2 b1p
   refine f6 (cap := []) (fun args w => Tryd.call128 args w) ?_
   refine i6 (Fi := []) (Fr := []) I (h) (fun v_5 H_1 F_6 w_2 I_3 l_8 k_4 q_7 => ?_) (fun _ _ _ _ _ q => q.elim)
   obtain ⟨I0, rfl, rfl, h⟩ := q_7
   refine k8 (fun a3t => ?_) (fun a3t => ?_)
   ·replace h := h.1 a3t
    exact hR 4 H_1 _ I_3 h
   ·replace h := h.2 a3t
    refine f6 (cap := []) (fun args w => Tryd.call128 args w) ?_
    refine i6 (Fi := []) (Fr := []) I_3 (h) (fun c4U a2X f1p a0P E7 b7Z b5W c4V => ?_) (fun _ _ _ _ _ q => q.elim)
    obtain ⟨q7, rfl, rfl, h⟩ := c4V
    try simp only [m1]
    refine a2j (D := fun b6g o4 => ∃ (B7 : Bool) (R4 : Hp) , b6g = (gv q7 false (Value.bool B7)) ∧ (Inv w0 ps0 H0 R4 [] o4) ∧ (∀ i, i < a0P.heap.size → ¬ inF [] i → o4.heap[i]? = a0P.heap[i]?) ∧ Hle a2X R4 ∧ (TG (((q7 || B7) || (decide (x0 = 95))) = false) (o5 x0 192 591 R4) false R4 (fun (a0d : Bool) (a7a : Hp) =>
 TG ((((q7 || B7) || (decide (x0 = 95))) || ((a0d && (!decide (x0 = 215))) && (!decide (x0 = 247)))) = false) (o5 x0 913 969 a7a) false a7a (fun (a1B : Bool) (a5G : Hp) =>
 TG (((((q7 || B7) || (decide (x0 = 95))) || ((a0d && (!decide (x0 = 215))) && (!decide (x0 = 247)))) || (a1B && (!decide (x0 = 930)))) = false) (o5 x0 1040 1103 a5G) false a5G (fun (a3F : Bool) (a4k : Hp) =>
 ((((((q7 || B7) || (decide (x0 = 95))) || ((a0d && (!decide (x0 = 215))) && (!decide (x0 = 247)))) || (a1B && (!decide (x0 = 930)))) || a3F) = true →
 K 3 a4k) ∧
 ((((((q7 || B7) || (decide (x0 = 95))) || ((a0d && (!decide (x0 = 215))) && (!decide (x0 = 247)))) || (a1B && (!decide (x0 = 930)))) || a3F) = false →
 TL (0 : Int) a4k fun (s : Int) H n2 => B4 x0 ⟨#[59, 44, 123, 125, 40, 41, 91, 93, 61, 33, 60, 62, 43, 45, 42, 47, 37, 38, 124]⟩ s H n2 K)))))) (fun c1A => ?_) (fun c1A => ?_) ?_
    ·replace h := h.1 c1A
     have a8 := c1A
     try simp only [b6 a8]
     refine f6 (cap := []) (fun args w => Tryd.call128 args w) ?_
     refine i6 (Fi := []) (Fr := []) E7 (h) (fun b6g R4 f1q o4 a5g c1k b6h c4W => ?_) (fun _ _ _ _ _ q => q.elim)
     obtain ⟨B7, rfl, rfl, h⟩ := c4W
     exact ⟨B7, R4, by first | rfl | rw [b6 c1A], a5g, b6h, c1k, h⟩
    ·exact ⟨false, a2X, by first | rfl | rw [a5x c1A], E7, fun _ _ _ => rfl, Hle.refl _, h.2 c1A⟩
    ·clear h
     rintro b6g o4 ⟨B7, R4, rfl, a5g, b6h, c1k, h⟩
     refine a7 (E4 _ _) ?_
     try simp only [m1]
     refine a7 (Pu.g fun hb => by have a8 := hb; first | exact (d4 _ _ _ _ _ _) | (simp only [b6 a8]; exact (d4 _ _ _ _ _ _)) | (simp only [b9 a8, b6 a8, b6 hb, z8 a8, f8]; exact (d4 _ _ _ _ _ _))) ?_
     refine a7 (E4 _ _) ?_
     try simp only [m1]
     refine a2j (D := fun d8n b2A => ∃ (a0d : Bool) (a7a : Hp) , d8n = (gv ((q7 || B7) || (decide (x0 = 95))) false (Value.bool a0d)) ∧ (Inv w0 ps0 H0 a7a [] b2A) ∧ (∀ i, i < o4.heap.size → ¬ inF [] i → b2A.heap[i]? = o4.heap[i]?) ∧ Hle R4 a7a ∧ (TG ((((q7 || B7) || (decide (x0 = 95))) || ((a0d && (!decide (x0 = 215))) && (!decide (x0 = 247)))) = false) (o5 x0 913 969 a7a) false a7a (fun (a1B : Bool) (a5G : Hp) =>
 TG (((((q7 || B7) || (decide (x0 = 95))) || ((a0d && (!decide (x0 = 215))) && (!decide (x0 = 247)))) || (a1B && (!decide (x0 = 930)))) = false) (o5 x0 1040 1103 a5G) false a5G (fun (a3F : Bool) (a4k : Hp) =>
 ((((((q7 || B7) || (decide (x0 = 95))) || ((a0d && (!decide (x0 = 215))) && (!decide (x0 = 247)))) || (a1B && (!decide (x0 = 930)))) || a3F) = true →
 K 3 a4k) ∧
 ((((((q7 || B7) || (decide (x0 = 95))) || ((a0d && (!decide (x0 = 215))) && (!decide (x0 = 247)))) || (a1B && (!decide (x0 = 930)))) || a3F) = false →
 TL (0 : Int) a4k fun (s : Int) H n2 => B4 x0 ⟨#[59, 44, 123, 125, 40, 41, 91, 93, 61, 33, 60, 62, 43, 45, 42, 47, 37, 38, 124]⟩ s H n2 K))))) (fun a6P => ?_) (fun a6P => ?_) ?_
     ·replace h := h.1 a6P
      have a8 := a6P
      try simp only [b6 a8]
      refine f6 (cap := []) (fun args w => Tryd.call128 args w) ?_
      refine i6 (Fi := []) (Fr := []) a5g (h) (fun d8n a7a b6a b2A a5C b5J b7S g6e => ?_) (fun _ _ _ _ _ q => q.elim)
      obtain ⟨a0d, rfl, rfl, h⟩ := g6e
      exact ⟨a0d, a7a, by first | rfl | rw [b6 a6P], a5C, b7S, b5J, h⟩
     ·exact ⟨false, R4, by first | rfl | rw [a5x a6P], a5g, fun _ _ _ => rfl, Hle.refl _, h.2 a6P⟩
     ·clear h
      rintro d8n b2A ⟨a0d, a7a, rfl, a5C, b7S, b5J, h⟩
      try simp only [Q8, V3]
      try simp only [m1, Q8, a2d, a0T, V3, a2h, a2e, a2f, a2g, a2i]
      refine a7 (Pu.e (a3P _ _ _) (Pu.g fun hb => by obtain ⟨a8, i8⟩ := a5W hb; first | exact (F6 _ _ _ _ _ _) | (simp only [b6 hb]; exact (F6 _ _ _ _ _ _)) | (simp only [b9 a8, b6 a8, b9 i8, b6 i8, b6 hb, o7 hb]; exact (F6 _ _ _ _ _ _)) | (simp only [b9 a8, b6 a8, b9 i8, b6 i8, b6 hb, d8 hb, f8]; exact (F6 _ _ _ _ _ _)))) ?_
      refine a7 (Pu.g fun hb => by have a8 := hb; first | exact (m3 _ _) | (simp only [b6 a8, a5o a8]; exact (m3 _ _)) | (simp only [b9 a8, b6 a8, b6 hb, z8 a8, f8]; exact (m3 _ _))) ?_
      try simp only [Q8, V3]
      try simp only [m1, Q8, a2d, a0T, V3, a2h, a2e, a2f, a2g, a2i]
      refine a7 (Pu.e (a3P _ _ _) (Pu.g fun hb => by obtain ⟨a8, i8⟩ := a5W hb; first | exact (F6 _ _ _ _ _ _) | (simp only [b6 hb]; exact (F6 _ _ _ _ _ _)) | (simp only [b9 a8, b6 a8, b9 i8, b6 i8, b6 hb, o7 hb]; exact (F6 _ _ _ _ _ _)) | (simp only [b9 a8, b6 a8, b9 i8, b6 i8, b6 hb, d8 hb, f8]; exact (F6 _ _ _ _ _ _)))) ?_
      refine a7 (Pu.g fun hb => by have a8 := hb; first | exact (m3 _ _) | (simp only [b6 a8, a5o a8]; exact (m3 _ _)) | (simp only [b9 a8, b6 a8, b6 hb, z8 a8, f8]; exact (m3 _ _))) ?_
      refine a7 (E4 _ _) ?_
      try simp only [m1]
      refine a2j (D := fun d8o w3 => ∃ (a1B : Bool) (a5G : Hp) , d8o = (gv (((q7 || B7) || (decide (x0 = 95))) || ((a0d && (!decide (x0 = 215))) && (!decide (x0 = 247)))) false (Value.bool a1B)) ∧ (Inv w0 ps0 H0 a5G [] w3) ∧ (∀ i, i < b2A.heap.size → ¬ inF [] i → w3.heap[i]? = b2A.heap[i]?) ∧ Hle a7a a5G ∧ (TG (((((q7 || B7) || (decide (x0 = 95))) || ((a0d && (!decide (x0 = 215))) && (!decide (x0 = 247)))) || (a1B && (!decide (x0 = 930)))) = false) (o5 x0 1040 1103 a5G) false a5G (fun (a3F : Bool) (a4k : Hp) =>
 ((((((q7 || B7) || (decide (x0 = 95))) || ((a0d && (!decide (x0 = 215))) && (!decide (x0 = 247)))) || (a1B && (!decide (x0 = 930)))) || a3F) = true →
 K 3 a4k) ∧
 ((((((q7 || B7) || (decide (x0 = 95))) || ((a0d && (!decide (x0 = 215))) && (!decide (x0 = 247)))) || (a1B && (!decide (x0 = 930)))) || a3F) = false →
 TL (0 : Int) a4k fun (s : Int) H n2 => B4 x0 ⟨#[59, 44, 123, 125, 40, 41, 91, 93, 61, 33, 60, 62, 43, 45, 42, 47, 37, 38, 124]⟩ s H n2 K)))) (fun c1B => ?_) (fun c1B => ?_) ?_
      ·replace h := h.1 c1B
       have a8 := c1B
       try simp only [b6 a8]
       refine f6 (cap := []) (fun args w => Tryd.call128 args w) ?_
       refine i6 (Fi := []) (Fr := []) a5C (h) (fun d8o a5G h2b w3 c1C f5s d8p g6f => ?_) (fun _ _ _ _ _ q => q.elim)
       obtain ⟨a1B, rfl, rfl, h⟩ := g6f
       exact ⟨a1B, a5G, by first | rfl | rw [b6 c1B], c1C, d8p, f5s, h⟩
      ·exact ⟨false, a7a, by first | rfl | rw [a5x c1B], a5C, fun _ _ _ => rfl, Hle.refl _, h.2 c1B⟩
      ·clear h
       rintro d8o w3 ⟨a1B, a5G, rfl, c1C, d8p, f5s, h⟩
       try simp only [Q8, V3]
       try simp only [m1, Q8, a2d, a0T, V3, a2h, a2e, a2f, a2g, a2i]
       refine a7 (Pu.e (a3P _ _ _) (Pu.g fun hb => by obtain ⟨a8, i8⟩ := a5W hb; first | exact (F6 _ _ _ _ _ _) | (simp only [b6 hb]; exact (F6 _ _ _ _ _ _)) | (simp only [b9 a8, b6 a8, b9 i8, b6 i8, b6 hb, o7 hb]; exact (F6 _ _ _ _ _ _)) | (simp only [b9 a8, b6 a8, b9 i8, b6 i8, b6 hb, d8 hb, f8]; exact (F6 _ _ _ _ _ _)))) ?_
       refine a7 (Pu.g fun hb => by have a8 := hb; first | exact (m3 _ _) | (simp only [b6 a8, a5o a8]; exact (m3 _ _)) | (simp only [b9 a8, b6 a8, b6 hb, z8 a8, f8]; exact (m3 _ _))) ?_
       refine a7 (E4 _ _) ?_
       try simp only [m1]
       refine a2j (D := fun d8q a8U => ∃ (a3F : Bool) (a4k : Hp) , d8q = (gv ((((q7 || B7) || (decide (x0 = 95))) || ((a0d && (!decide (x0 = 215))) && (!decide (x0 = 247)))) || (a1B && (!decide (x0 = 930)))) false (Value.bool a3F)) ∧ (Inv w0 ps0 H0 a4k [] a8U) ∧ (∀ i, i < w3.heap.size → ¬ inF [] i → a8U.heap[i]? = w3.heap[i]?) ∧ Hle a5G a4k ∧ (((((((q7 || B7) || (decide (x0 = 95))) || ((a0d && (!decide (x0 = 215))) && (!decide (x0 = 247)))) || (a1B && (!decide (x0 = 930)))) || a3F) = true →
 K 3 a4k) ∧
 ((((((q7 || B7) || (decide (x0 = 95))) || ((a0d && (!decide (x0 = 215))) && (!decide (x0 = 247)))) || (a1B && (!decide (x0 = 930)))) || a3F) = false →
 TL (0 : Int) a4k fun (s : Int) H n2 => B4 x0 ⟨#[59, 44, 123, 125, 40, 41, 91, 93, 61, 33, 60, 62, 43, 45, 42, 47, 37, 38, 124]⟩ s H n2 K))) (fun c1D => ?_) (fun c1D => ?_) ?_
       ·replace h := h.1 c1D
        have a8 := c1D
        try simp only [b6 a8]
        refine f6 (cap := []) (fun args w => Tryd.call128 args w) ?_
        refine i6 (Fi := []) (Fr := []) c1C (h) (fun d8q a4k h2c a8U c1E c1r d8r g6g => ?_) (fun _ _ _ _ _ q => q.elim)
        obtain ⟨a3F, rfl, rfl, h⟩ := g6g
        exact ⟨a3F, a4k, by first | rfl | rw [b6 c1D], c1E, d8r, c1r, h⟩
       ·exact ⟨false, a5G, by first | rfl | rw [a5x c1D], c1C, fun _ _ _ => rfl, Hle.refl _, h.2 c1D⟩
       ·clear h
        rintro d8q a8U ⟨a3F, a4k, rfl, c1E, d8r, c1r, h⟩
        refine a7 (E4 _ _) ?_
        refine k8 (fun b8n => ?_) (fun b8n => ?_)
        ·replace h := h.1 b8n
         exact hR 3 a4k _ c1E h
        ·replace h := h.2 b8n
         have hj1 : ∀ (H : Hp) (w : World) (_ : Inv w0 ps0 H0 H [] w) (_ : W3 H K), c1z w R E := by
          intro H w I h
          unfold c1z
          intro _
          unfold W3 at h
          exact hR 6 H _ I h
         refine m6 fun j1 hx1 => ?_
         obtain ⟨d8s, c6p, g6h, g6i⟩ := h
         refine p9 (J := fun n l w => ∃ (s : Int) (H : Hp) , n = c6p s ∧ l = [(vi s)] ∧ Inv w0 ps0 H0 H [] w ∧ d8s s H) ⟨_, 0, a4k, rfl, rfl, c1E, g6h⟩ ?_
         rintro h2d τ_64 w next2 ⟨L6, H, rfl, f5t, I, g6j⟩ hn2
         simp only [List.map_cons, List.map_nil, List.cons.injEq, and_true] at f5t
         have e4 := f5t
         simp only [e4]
         obtain ⟨n2, hm2, h⟩ : ∃ n2 : Int → Hp → Prop, (∀ s' H', n2 s' H' → d8s s' H' ∧ c6p s' < c6p L6) ∧ B4 x0 ⟨#[59, 44, 123, 125, 40, 41, 91, 93, 61, 33, 60, 62, 43, 45, 42, 47, 37, 38, 124]⟩ L6 H n2 K := ⟨_, fun _ _ h => h, g6i L6 H (fun s' H' => d8s s' H' ∧ c6p s' < c6p L6) g6j (fun _ _ a b => ⟨a, b⟩)⟩
         unfold c8C
         unfold B4 at h
         refine a7 (a6F _) ?_
         refine a7 (o2 _ _ _ _ _ _) ?_
         refine g6 (fun d8t => ?_) (fun d8t => ?_)
         ·replace h := h.1 d8t
          obtain ⟨b8G, b8d, h⟩ := h
          refine a7 (a5t _ _ _ b8G b8d) ?_
          refine a7 (b5i _ _) ?_
          refine a7 (d4 _ _ _ _ _ _) ?_
          refine g6 (fun d8u => ?_) (fun d8u => ?_)
          ·replace h := h.1 d8u
           exact hR 5 H _ I h
          ·replace h := h.2 d8u
           refine a7 (m4 _ _ _ _ _ _) ?_
           exact hn2 _ _ _ (hm2 _ _ h).2 ⟨(IntKind.wrap .i64 (L6 + 1)), H, rfl, rfl, I, (hm2 _ _ h).1⟩
         ·replace h := h.2 d8t
          exact hx1 _ _ (hj1 H _ I h)
theorem b0o (x0 : Int) {H : Hp} {K : Int → Hp → Prop} (h : a0J x0 H K) : a2O x0 H K := by
 intro w I
 refine e4b ?_
 refine a9V x0 I (fun r0 H' w' I' hk => ⟨H', _, I', r0, rfl, rfl, hk⟩) h
def h9 (m0 : Bool) (H : Hp) (K : Bool → Hp → Prop) : Prop :=
 (m0 = true →
 K true H) ∧
 (m0 = false →
 K false H)
def a1h (x0 : ByteArray) (H : Hp) (K : Bool → Hp → Prop) : Prop :=
 (x0 = ⟨#[118, 97, 114]⟩ →
 h9 (decide (x0 = ⟨#[118, 97, 114]⟩)) H K) ∧
 (¬ (x0 = ⟨#[118, 97, 114]⟩) →
 (x0 = ⟨#[97, 114, 114, 97, 121]⟩ →
 h9 (decide (x0 = ⟨#[97, 114, 114, 97, 121]⟩)) H K) ∧
 (¬ (x0 = ⟨#[97, 114, 114, 97, 121]⟩) →
 (x0 = ⟨#[105, 102]⟩ →
 h9 (decide (x0 = ⟨#[105, 102]⟩)) H K) ∧
 (¬ (x0 = ⟨#[105, 102]⟩) →
 (x0 = ⟨#[101, 108, 115, 101]⟩ →
 h9 (decide (x0 = ⟨#[101, 108, 115, 101]⟩)) H K) ∧
 (¬ (x0 = ⟨#[101, 108, 115, 101]⟩) →
 (x0 = ⟨#[119, 104, 105, 108, 101]⟩ →
 h9 (decide (x0 = ⟨#[119, 104, 105, 108, 101]⟩)) H K) ∧
 (¬ (x0 = ⟨#[119, 104, 105, 108, 101]⟩) →
 (x0 = ⟨#[97, 115, 115, 101, 114, 116]⟩ →
 h9 (decide (x0 = ⟨#[97, 115, 115, 101, 114, 116]⟩)) H K) ∧
 (¬ (x0 = ⟨#[97, 115, 115, 101, 114, 116]⟩) →
 (x0 = ⟨#[97, 115, 115, 117, 109, 101]⟩ →
 h9 (decide (x0 = ⟨#[97, 115, 115, 117, 109, 101]⟩)) H K) ∧
 (¬ (x0 = ⟨#[97, 115, 115, 117, 109, 101]⟩) →
 (x0 = ⟨#[115, 107, 105, 112]⟩ →
 h9 (decide (x0 = ⟨#[115, 107, 105, 112]⟩)) H K) ∧
 (¬ (x0 = ⟨#[115, 107, 105, 112]⟩) →
 (x0 = ⟨#[105, 110, 112, 117, 116]⟩ →
 h9 (decide (x0 = ⟨#[105, 110, 112, 117, 116]⟩)) H K) ∧
 (¬ (x0 = ⟨#[105, 110, 112, 117, 116]⟩) →
 (x0 = ⟨#[116, 114, 117, 101]⟩ →
 h9 (decide (x0 = ⟨#[116, 114, 117, 101]⟩)) H K) ∧
 (¬ (x0 = ⟨#[116, 114, 117, 101]⟩) →
 h9 (decide (x0 = ⟨#[102, 97, 108, 115, 101]⟩)) H K))))))))))
theorem b0p (x0 : ByteArray) {w0 w : World} {ps0 : Nat → Prop} {H0 H : Hp} {K : Bool → Hp → Prop} {R : Value → World → Prop} {E : Pan} (I : Inv w0 ps0 H0 H [] w) (hR : ∀ (r0 : Bool) (H' : Hp) (w' : World) (_ : Inv w0 ps0 H0 H' [] w') (_ : K r0 H'), R (Value.bool r0) w') (h : a1h x0 H K) : d0L (Value.string x0) w R E := by
 unfold a1h at h
 unfold d0L
 have hj1 : ∀ (m0 : Bool) (H : Hp) (w : World) (_ : Inv w0 ps0 H0 H [] w) (_ : h9 m0 H K), c1w (Value.bool m0) w R E := by
  intro m0 H w I h
  unfold c1w
  intro _
  unfold h9 at h
  refine k8 (fun c_1 => ?_) (fun c_1 => ?_)
  ·replace h := h.1 c_1
   exact hR true H _ I h
  ·replace h := h.2 c_1
   exact hR false H _ I h
 refine m6 fun j1 hx1 => ?_
 refine a7 (G8 _ _ _ _ _) ?_
 refine g6 (fun b0Z => ?_) (fun b0Z => ?_)
 ·replace h := h.1 b0Z
  exact hx1 _ _ (hj1 (decide (x0 = ⟨#[118, 97, 114]⟩)) H _ I h)
 ·replace h := h.2 b0Z
  refine a7 (G8 _ _ _ _ _) ?_
  refine g6 (fun b7N => ?_) (fun b7N => ?_)
  ·replace h := h.1 b7N
   exact hx1 _ _ (hj1 (decide (x0 = ⟨#[97, 114, 114, 97, 121]⟩)) H _ I h)
  ·replace h := h.2 b7N
   refine a7 (G8 _ _ _ _ _) ?_
   refine g6 (fun c_9 => ?_) (fun c_9 => ?_)
   ·replace h := h.1 c_9
    exact hx1 _ _ (hj1 (decide (x0 = ⟨#[105, 102]⟩)) H _ I h)
   ·replace h := h.2 c_9
    refine a7 (G8 _ _ _ _ _) ?_
    refine g6 (fun c_8 => ?_) (fun c_8 => ?_)
    ·replace h := h.1 c_8
     exact hx1 _ _ (hj1 (decide (x0 = ⟨#[101, 108, 115, 101]⟩)) H _ I h)
    ·replace h := h.2 c_8
     refine a7 (G8 _ _ _ _ _) ?_
     refine g6 (fun c_7 => ?_) (fun c_7 => ?_)
     ·replace h := h.1 c_7
      exact hx1 _ _ (hj1 (decide (x0 = ⟨#[119, 104, 105, 108, 101]⟩)) H _ I h)
     ·replace h := h.2 c_7
      refine a7 (G8 _ _ _ _ _) ?_
      refine g6 (fun c_6 => ?_) (fun c_6 => ?_)
      ·replace h := h.1 c_6
       exact hx1 _ _ (hj1 (decide (x0 = ⟨#[97, 115, 115, 101, 114, 116]⟩)) H _ I h)
      ·replace h := h.2 c_6
       refine a7 (G8 _ _ _ _ _) ?_
       refine g6 (fun c_5 => ?_) (fun c_5 => ?_)
       ·replace h := h.1 c_5
        exact hx1 _ _ (hj1 (decide (x0 = ⟨#[97, 115, 115, 117, 109, 101]⟩)) H _ I h)
       ·replace h := h.2 c_5
        refine a7 (G8 _ _ _ _ _) ?_
        refine g6 (fun c_4 => ?_) (fun c_4 => ?_)
        ·replace h := h.1 c_4
         exact hx1 _ _ (hj1 (decide (x0 = ⟨#[115, 107, 105, 112]⟩)) H _ I h)
        ·replace h := h.2 c_4
         refine a7 (G8 _ _ _ _ _) ?_
         refine g6 (fun c_3 => ?_) (fun c_3 => ?_)
         ·replace h := h.1 c_3
          exact hx1 _ _ (hj1 (decide (x0 = ⟨#[105, 110, 112, 117, 116]⟩)) H _ I h)
         ·replace h := h.2 c_3
          refine a7 (G8 _ _ _ _ _) ?_
          refine g6 (fun c_2 => ?_) (fun c_2 => ?_)
          ·replace h := h.1 c_2
           exact hx1 _ _ (hj1 (decide (x0 = ⟨#[116, 114, 117, 101]⟩)) H _ I h)
          ·replace h := h.2 c_2
           refine a7 (G8 _ _ _ _ _) ?_
           exact hx1 _ _ (hj1 (decide (x0 = ⟨#[102, 97, 108, 115, 101]⟩)) H _ I h)
theorem b1G (x0 : ByteArray) {H : Hp} {K : Bool → Hp → Prop} (h : a1h x0 H K) : a3m x0 H K := by
 intro w I
 refine e3X ?_
 refine b0p x0 I (fun r0 H' w' I' hk => ⟨H', _, I', r0, rfl, rfl, hk⟩) h
def Y7 (W0 : Int) (H : Hp) (K : Bool → Hp → Prop) : Prop :=
 K (decide (W0 ≤ 32)) H
def N5 (b1F : ByteArray) (J2 : Int) (L6 : Int) (H : Hp) (n2 : (Int × Int) → Hp → Prop) (K : Bool → Hp → Prop) : Prop :=
 (L6 < (b1F.size : Int) →
 a3l b1F L6 H (fun (q7 : Int) (d0R : Int) (d0S : Bool) (a2X : Hp) =>
 a2O q7 a2X (fun (B7 : Int) (R4 : Hp) =>
 (((!d0S) || ((!decide (B7 = 3)) && ((!decide (B7 = 4)) || (decide (J2 = 0))))) = true →
 K false R4) ∧
 (((!d0S) || ((!decide (B7 = 3)) && ((!decide (B7 = 4)) || (decide (J2 = 0))))) = false →
 n2 ((IntKind.wrap .i64 (J2 + 1)), (IntKind.wrap .i64 (L6 + d0R))) R4)))) ∧
 (¬ (L6 < (b1F.size : Int)) →
 Y7 J2 H K)
def a1i (x0 : ByteArray) (H : Hp) (K : Bool → Hp → Prop) : Prop :=
 TG (((decide (x0 = ⟨#[]⟩)) || (decide (128 < (x0.size : Int)))) = false) (a3m x0 H) false H (fun (I0 : Bool) (H_1 : Hp) =>
 ((((decide (x0 = ⟨#[]⟩)) || (decide (128 < (x0.size : Int)))) || I0) = true →
 K false H_1) ∧
 ((((decide (x0 = ⟨#[]⟩)) || (decide (128 < (x0.size : Int)))) || I0) = false →
 TL ((0, 0) : Int × Int) H_1 fun (s : Int × Int) H n2 => N5 x0 s.1 s.2 H n2 K))
theorem b0q (x0 : ByteArray) {w0 w : World} {ps0 : Nat → Prop} {H0 H : Hp} {K : Bool → Hp → Prop} {R : Value → World → Prop} {E : Pan} (I : Inv w0 ps0 H0 H [] w) (hR : ∀ (r0 : Bool) (H' : Hp) (w' : World) (_ : Inv w0 ps0 H0 H' [] w') (_ : K r0 H'), R (Value.bool r0) w') (h : a1i x0 H K) : F93 (Value.string x0) w R E := by
 unfold a1i at h
 unfold F93
 refine a7 (G8 _ _ _ _ _) ?_
 try simp only [m1]
 refine a7 (Pu.g fun hb => by have a8 := hb; first | exact (a6F _) | (simp only [b6 a8]; exact (a6F _)) | (simp only [b9 a8, b6 a8, b6 hb, z8 a8, f8]; exact (a6F _))) ?_
 refine a7 (Pu.g fun hb => by have a8 := hb; first | exact (a2H _ _ _ _ _ _) | (simp only [b6 a8]; exact (a2H _ _ _ _ _ _)) | (simp only [b9 a8, b6 a8, b6 hb, z8 a8, f8]; exact (a2H _ _ _ _ _ _))) ?_
 refine a7 (E4 _ _) ?_
 try simp only [m1]
 refine a2j (D := fun v_5 w_2 => ∃ (I0 : Bool) (H_1 : Hp) , v_5 = (gv ((decide (x0 = ⟨#[]⟩)) || (decide (128 < (x0.size : Int)))) false (Value.bool I0)) ∧ (Inv w0 ps0 H0 H_1 [] w_2) ∧ (∀ i, i < w.heap.size → ¬ inF [] i → w_2.heap[i]? = w.heap[i]?) ∧ Hle H H_1 ∧ (((((decide (x0 = ⟨#[]⟩)) || (decide (128 < (x0.size : Int)))) || I0) = true →
 K false H_1) ∧
 ((((decide (x0 = ⟨#[]⟩)) || (decide (128 < (x0.size : Int)))) || I0) = false →
 TL ((0, 0) : Int × Int) H_1 fun (s : Int × Int) H n2 => N5 x0 s.1 s.2 H n2 K))) (fun c1F => ?_) (fun c1F => ?_) ?_
 ·replace h := h.1 c1F
  have a8 := c1F
  try simp only [b6 a8]
  refine f6 (cap := []) (fun args w => Tryd.call117 args w) ?_
  refine i6 (Fi := []) (Fr := []) I (h) (fun v_5 H_1 F_6 w_2 I_3 l_8 k_4 q_7 => ?_) (fun _ _ _ _ _ q => q.elim)
  obtain ⟨I0, rfl, rfl, h⟩ := q_7
  exact ⟨I0, H_1, by first | rfl | rw [b6 c1F], I_3, k_4, l_8, h⟩
 ·exact ⟨false, H, by first | rfl | rw [a5x c1F], I, fun _ _ _ => rfl, Hle.refl _, h.2 c1F⟩
 ·clear h
  rintro v_5 w_2 ⟨I0, H_1, rfl, I_3, k_4, l_8, h⟩
  refine a7 (E4 _ _) ?_
  refine k8 (fun d8v => ?_) (fun d8v => ?_)
  ·replace h := h.1 d8v
   exact hR false H_1 _ I_3 h
  ·replace h := h.2 d8v
   have hj1 : ∀ (W0 : Int) (H : Hp) (w : World) (_ : Inv w0 ps0 H0 H [] w) (_ : Y7 W0 H K), c6c (vi W0) w R E := by
    intro W0 H w I h
    unfold c6c
    intro _
    unfold Y7 at h
    refine a7 (a0A _ _ _ _ _ _) ?_
    exact hR (decide (W0 ≤ 32)) H _ I h
   refine m6 fun j1 hx1 => ?_
   obtain ⟨d8w, c6q, g6k, g6l⟩ := h
   refine p9 (J := fun n l w => ∃ (s : Int × Int) (H : Hp) , n = c6q s ∧ l = (match s with | (J2, L6) => [(vi J2), (vi L6)]) ∧ (match s with | (J2, L6) => Inv w0 ps0 H0 H [] w) ∧ d8w s H) ⟨_, (0, 0), H_1, rfl, rfl, I_3, g6k⟩ ?_
   rintro h2e τ_35 w next2 ⟨⟨J2, L6⟩, H, rfl, d8x, I, g6m⟩ hn2
   dsimp only at d8x I
   simp only [List.map_cons, List.map_nil, List.cons.injEq, and_true] at d8x
   obtain ⟨e3, e4⟩ := d8x
   simp only [e3, e4]
   obtain ⟨n2, hm2, h⟩ : ∃ n2 : (Int × Int) → Hp → Prop, (∀ s' H', n2 s' H' → d8w s' H' ∧ c6q s' < c6q (J2, L6)) ∧ N5 x0 J2 L6 H n2 K := ⟨_, fun _ _ h => h, g6l (J2, L6) H (fun s' H' => d8w s' H' ∧ c6q s' < c6q (J2, L6)) g6m (fun _ _ a b => ⟨a, b⟩)⟩
   unfold d4O
   unfold N5 at h
   refine a7 (a6F _) ?_
   refine a7 (o2 _ _ _ _ _ _) ?_
   refine g6 (fun b8E => ?_) (fun b8E => ?_)
   ·replace h := h.1 b8E
    refine f6 (cap := []) (fun args w => Tryd.call118 args w) ?_
    refine i6 (Fi := []) (Fr := []) I (h) (fun c4U a2X f1p a0P E7 b7Z b5W c4V => ?_) (fun _ _ _ _ _ q => q.elim)
    obtain ⟨q7, d0R, d0S, rfl, rfl, h⟩ := c4V
    refine a7 (r7 _ _ _ rfl) ?_
    refine a7 (r7 _ _ _ rfl) ?_
    refine a7 (r7 _ _ _ rfl) ?_
    refine f6 (cap := []) (fun args w => Tryd.call119 args w) ?_
    refine i6 (Fi := []) (Fr := []) E7 (h) (fun b6g R4 f1q o4 a5g c1k b6h c4W => ?_) (fun _ _ _ _ _ q => q.elim)
    obtain ⟨B7, rfl, rfl, h⟩ := c4W
    refine a7 (G7 _) ?_
    try simp only [m1]
    refine a7 (Pu.g fun hb => by have a8 := hb; first | exact (F6 _ _ _ _ _ _) | (simp only [b6 a8]; exact (F6 _ _ _ _ _ _)) | (simp only [b9 a8, b6 a8, b6 hb, z8 a8, f8]; exact (F6 _ _ _ _ _ _))) ?_
    try simp only [Q8, V3]
    try simp only [m1, Q8, a2d, a0T, V3, a2h, a2e, a2f, a2g, a2i]
    refine a7 (Pu.e (a3P _ _ _) (Pu.g fun hb => by obtain ⟨a8, i8⟩ := a5W hb; first | exact (F6 _ _ _ _ _ _) | (simp only [b6 hb]; exact (F6 _ _ _ _ _ _)) | (simp only [b9 a8, b6 a8, b9 i8, b6 i8, b6 hb, o7 hb]; exact (F6 _ _ _ _ _ _)) | (simp only [b9 a8, b6 a8, b9 i8, b6 i8, b6 hb, d8 hb, f8]; exact (F6 _ _ _ _ _ _)))) ?_
    try simp only [Q8, a0T]
    try simp only [m1, Q8, a2d, a0T, V3, a2h, a2e, a2f, a2g, a2i]
    refine a7 (Pu.e (a2q _ _ _) (Pu.g fun hb => by obtain ⟨a6r, a4l⟩ := a3S hb; obtain ⟨a8, i8⟩ := a5W a6r; first | exact (d4 _ _ _ _ _ _) | (simp only [b6 hb]; exact (d4 _ _ _ _ _ _)) | (simp only [b9 a8, b6 a8, b9 i8, b6 i8, b9 a4l, b6 a4l, b6 hb, b6 a6r, o7 hb]; exact (d4 _ _ _ _ _ _)) | (simp only [b9 a8, b6 a8, b9 i8, b6 i8, b9 a4l, b6 a4l, b6 hb, b6 a6r, d8 hb, f8]; exact (d4 _ _ _ _ _ _)))) ?_
    refine a7 (Pu.e (a3P _ _ _) (Pu.g fun hb => by obtain ⟨a8, i8⟩ := a5W hb; first | exact (E4 _ _) | (simp only [b6 hb]; exact (E4 _ _)) | (simp only [b6 hb, o7 hb]; exact (E4 _ _)) | (simp only [b6 hb, d8 hb]; exact (E4 _ _)))) ?_
    refine a7 (Pu.g fun hb => by have a8 := hb; first | exact (m3 _ _) | (simp only [b6 a8, a5o a8]; exact (m3 _ _)) | (simp only [b9 a8, b6 a8, b6 hb, z8 a8, f8]; exact (m3 _ _))) ?_
    refine a7 (E4 _ _) ?_
    refine k8 (fun d8y => ?_) (fun d8y => ?_)
    ·replace h := h.1 d8y
     exact hR false R4 _ a5g h
    ·replace h := h.2 d8y
     refine a7 (m4 _ _ _ _ _ _) ?_
     refine a7 (m4 _ _ _ _ _ _) ?_
     exact hn2 _ _ _ (hm2 _ _ h).2 ⟨((IntKind.wrap .i64 (J2 + 1)), (IntKind.wrap .i64 (L6 + d0R))), R4, rfl, rfl, a5g, (hm2 _ _ h).1⟩
   ·replace h := h.2 b8E
    exact hx1 _ _ (hj1 J2 H _ I h)
theorem b1H (x0 : ByteArray) {H : Hp} {K : Bool → Hp → Prop} (h : a1i x0 H K) : a0Y x0 H K := by
 intro w I
 refine f4u ?_
 refine b0q x0 I (fun r0 H' w' I' hk => ⟨H', _, I', r0, rfl, rfl, hk⟩) h
def T8 (x0 : b7) (x1 : ByteArray) (x2 : Bool) (H : Hp) (K : b7 → Hp → Prop) : Prop :=
 ((!x2) = true →
 K (b7.mk (x0.fok && (decide (x1 = ⟨#[]⟩))) x0.fnames) H) ∧
 ((!x2) = false →
 TG (x0.fnames = true) (a0Y x1 H) false H (fun (a9s : Bool) (H_4 : Hp) =>
 K (b7.mk x0.fok (x0.fnames && a9s)) H_4))
theorem a8o (x0 : b7) (x1 : ByteArray) (x2 : Bool) (g0 : Nat) {w0 w : World} {ps0 : Nat → Prop} {H0 H : Hp} {K : b7 → Hp → Prop} {R : Value → World → Prop} {E : Pan} (I : Inv w0 ps0 H0 H [bx g0 102 (f4 x0)] w) (hR : ∀ (y0 : b7) (H' : Hp) (w' : World) (_ : Inv w0 ps0 H0 H' [bx g0 102 (f4 y0)] w') (_ : K y0 H'), R (Value.tuple #[]) w') (h : T8 x0 x1 x2 H K) : F64 (Value.pointer (some ⟨g0, 0, none⟩)) (Value.string x1) (Value.bool x2) w R E := by
 unfold T8 at h
 unfold F64
 refine a7 (G7 _) ?_
 refine k8 (fun a6K => ?_) (fun a6K => ?_)
 ·replace h := h.1 a6K
  refine a7 (j8 _) ?_
  refine a7 o0 ?_
  refine c5 (ld1 Tryd.isAgg4 (I.at1 (o := 0) (vs := [(Value.bool x0.fok)]) (nb rfl) rfl)) ?_
  try simp only [m1]
  refine a7 (Pu.g fun hb => by have a8 := hb; first | exact (G8 _ _ _ _ _) | (simp only [b6 a8]; exact (G8 _ _ _ _ _)) | (simp only [b9 a8, b6 a8, b6 hb, d8 a8, f8]; exact (G8 _ _ _ _ _))) ?_
  refine a7 (m3 _ _) ?_
  refine a7 (j8 _) ?_
  refine a7 o0 ?_
  refine p7 I Tryd.sizeOf4 (vs := [(Value.bool (x0.fok && (decide (x1 = ⟨#[]⟩))))]) (cs' := [(Value.bool (x0.fok && (decide (x1 = ⟨#[]⟩)))), (Value.bool x0.fnames)]) rfl rfl (nb rfl) rfl rfl fun w_1 I_2 k_3 => ?_
  exact hR (b7.mk (x0.fok && (decide (x1 = ⟨#[]⟩))) x0.fnames) H _ I_2 h
 ·replace h := h.2 a6K
  refine a7 (j8 _) ?_
  refine a7 b2z ?_
  refine c5 (ld1 Tryd.isAgg4 (I.at1 (o := 1) (vs := [(Value.bool x0.fnames)]) (nb rfl) rfl)) ?_
  try simp only [m1]
  refine a2j (D := fun v_8 w_5 => ∃ (a9s : Bool) (H_4 : Hp) , v_8 = (gv x0.fnames true (Value.bool a9s)) ∧ (Inv w0 ps0 H0 H_4 [bx g0 102 (f4 x0)] w_5) ∧ (∀ i, i < w.heap.size → ¬ inF [] i → w_5.heap[i]? = w.heap[i]?) ∧ Hle H H_4 ∧ (K (b7.mk x0.fok (x0.fnames && a9s)) H_4)) (fun c1G => ?_) (fun c1G => ?_) ?_
  ·replace h := h.1 c1G
   have a8 := c1G
   try simp only [b6 a8]
   refine f6 (cap := []) (fun args w => Tryd.call93 args w) ?_
   refine i6 (Fi := []) (Fr := [bx g0 102 (f4 x0)]) I (h) (fun v_8 H_4 F_9 w_5 I_6 c9l k_7 g6n => ?_) (fun _ _ _ _ _ q => q.elim)
   obtain ⟨a9s, rfl, rfl, h⟩ := g6n
   exact ⟨a9s, H_4, by first | rfl | rw [b6 c1G], I_6, k_7, c9l, h⟩
  ·exact ⟨false, H, by first | rfl | rw [a5x c1G], I, fun _ _ _ => rfl, Hle.refl _, h.2 c1G⟩
  ·clear h
   rintro v_8 w_5 ⟨a9s, H_4, rfl, I_6, k_7, c9l, h⟩
   refine a7 (m3 _ _) ?_
   refine a7 (j8 _) ?_
   refine a7 b2z ?_
   refine p7 I_6 Tryd.sizeOf4 (vs := [(Value.bool (x0.fnames && a9s))]) (cs' := [(Value.bool x0.fok), (Value.bool (x0.fnames && a9s))]) rfl rfl (nb rfl) rfl rfl fun a2K a3r c1d => ?_
   exact hR (b7.mk x0.fok (x0.fnames && a9s)) H_4 _ a3r h
theorem a8I (x0 : b7) (x1 : ByteArray) (x2 : Bool) {H : Hp} {K : b7 → Hp → Prop} (h : T8 x0 x1 x2 H K) : M3 x0 x1 x2 H K := by
 intro g0 w I
 refine f3J ?_
 refine a8o x0 x1 x2 g0 I (fun y0 H' w' I' hk => ⟨H', _, I', y0, rfl, rfl, hk⟩) h
def P2 (cr_1l2 : k6) (C8 : Int) (L3 : b7) (H : Hp) (n2 : (Int × b7) → Hp → Prop) (K : b7 → Hp → Prop) : Prop :=
 (((decide (C8 < (cr_1l2.o8.n : Int))) && L3.fok) = true →
 (0 : Int) ≤ C8 ∧ (C8 : Int) < cr_1l2.o8.n ∧ ∃ d0T : k6, EltH H cr_1l2.o8 C8 4 (d9 d0T) ∧
 M4 L3 d0T H (fun (d0U : b7) (d8z : Hp) =>
 n2 ((IntKind.wrap .i64 (C8 + 1)), d0U) d8z)) ∧
 (((decide (C8 < (cr_1l2.o8.n : Int))) && L3.fok) = false →
 K L3 H)
def w5 (m0 : Int) (cr_1j1 : k6) (F0 : b7) (H : Hp) (K : b7 → Hp → Prop) : Prop :=
 M3 F0 cr_1j1.k9 ((decide (cr_1j1.c6 = 2)) || (decide (cr_1j1.c6 = 4))) H (fun (G6 : b7) (H_6 : Hp) =>
 TL ((0, (b7.mk ((G6.fok && (decide ((cr_1j1.o8.n : Int) = m0))) && ((decide (cr_1j1.J6 = 0)) || ((decide (cr_1j1.c6 = 1)) && (decide (0 < cr_1j1.J6))))) G6.fnames)) : Int × b7) H_6 fun (s : Int × b7) H n2 => P2 cr_1j1 s.1 s.2 H n2 K)
def s8 (g6o : Int) (b7e : Bool) (cr_1j5 : k6) (e0e : b7) (H : Hp) (K : b7 → Hp → Prop) : Prop :=
 (b7e = true →
 w5 2 cr_1j5 e0e H K) ∧
 (b7e = false →
 w5 g6o cr_1j5 (b7.mk false e0e.fnames) H K)
def E0 (c6r : Int) (a9m : Int) (b7f : Bool) (cr_1j4 : k6) (a6f : b7) (H : Hp) (K : b7 → Hp → Prop) : Prop :=
 (b7f = true →
 w5 1 cr_1j4 a6f H K) ∧
 (b7f = false →
 (a9m = 6 →
 s8 c6r (decide (a9m = 6)) cr_1j4 a6f H K) ∧
 (¬ (a9m = 6) →
 (a9m = 7 →
 s8 c6r (decide (a9m = 7)) cr_1j4 a6f H K) ∧
 (¬ (a9m = 7) →
 (a9m = 8 →
 s8 c6r (decide (a9m = 8)) cr_1j4 a6f H K) ∧
 (¬ (a9m = 8) →
 (a9m = 9 →
 s8 c6r (decide (a9m = 9)) cr_1j4 a6f H K) ∧
 (¬ (a9m = 9) →
 s8 c6r (decide (a9m = 10)) cr_1j4 a6f H K)))))
def B2 (d8A : Int) (c1H : Int) (b7g : Bool) (cr_1j3 : k6) (a0G : b7) (H : Hp) (K : b7 → Hp → Prop) : Prop :=
 (b7g = true →
 w5 d8A cr_1j3 a0G H K) ∧
 (b7g = false →
 (c1H = 4 →
 E0 d8A c1H (decide (c1H = 4)) cr_1j3 a0G H K) ∧
 (¬ (c1H = 4) →
 E0 d8A c1H (decide (c1H = 5)) cr_1j3 a0G H K))
def T9 (x0 : b7) (x1 : k6) (H : Hp) (K : b7 → Hp → Prop) : Prop :=
 (x1.c6 = 1 →
 B2 0 x1.c6 (decide (x1.c6 = 1)) x1 x0 H K) ∧
 (¬ (x1.c6 = 1) →
 (x1.c6 = 2 →
 B2 0 x1.c6 (decide (x1.c6 = 2)) x1 x0 H K) ∧
 (¬ (x1.c6 = 2) →
 B2 0 x1.c6 (decide (x1.c6 = 3)) x1 x0 H K))
theorem a8p (x0 : b7) (x1 : k6) (g0 : Nat) {w0 w : World} {ps0 : Nat → Prop} {H0 H : Hp} {K : b7 → Hp → Prop} {R : Value → World → Prop} {E : Pan} (I : Inv w0 ps0 H0 H [bx g0 102 (f4 x0)] w) (hR : ∀ (y0 : b7) (H' : Hp) (w' : World) (_ : Inv w0 ps0 H0 H' [bx g0 102 (f4 y0)] w') (_ : K y0 H'), R (Value.tuple #[]) w') (h : T9 x0 x1 H K) : F59 (Value.pointer (some ⟨g0, 0, none⟩)) (Value.agg (d9 x1).toArray) w R E := by
 unfold T9 at h
 unfold F59
 refine J4 I (cs := (d9 x1)) rfl fun g_2 w_3 I_4 k_5 => ?_
 have hj1 : ∀ (m0 : Int) (F0 : b7) (H : Hp) (w : World) (_ : Inv w0 ps0 H0 H [bx g_2 30 (d9 x1), bx g0 102 (f4 F0)] w) (_ : w5 m0 x1 F0 H K), c5D (Value.pointer (some ⟨g0, 0, none⟩)) (Value.pointer (some ⟨g_2, 0, none⟩)) (vi m0) w R E := by
  intro m0 F0 H w I h
  unfold c5D
  intro _
  unfold w5 at h
  refine a7 a3T ?_
  refine c5 (ld1 Tryd.isAgg9 (I.at1 (o := 2) (vs := [(Value.string x1.k9)]) (nb rfl) rfl)) ?_
  refine a7 K5 ?_
  refine c5 (ld1 Tryd.isAgg3 (I.at1 (o := 0) (vs := [(vi x1.c6)]) (nb rfl) rfl)) ?_
  refine a7 (d4 _ _ _ _ _ _) ?_
  refine a7 (Pu.g fun hb => by have a8 := hb; first | exact K5 | (simp only [b9 a8, b6 a8, b6 hb, a5o a8]; exact K5) | (simp only [b9 a8, b6 a8, b6 hb, z8 a8, f8]; exact K5)) ?_
  refine c5 (Ld.g fun hb => by have a8 := hb; first | exact (ld1 Tryd.isAgg3 (I.at1 (o := 0) (vs := [(vi x1.c6)]) (nb rfl) rfl)) | (simp only [b6 a8]; exact (ld1 Tryd.isAgg3 (I.at1 (o := 0) (vs := [(vi x1.c6)]) (nb rfl) rfl))) | (simp only [b9 a8, b6 a8, b6 hb, z8 a8, f8]; exact (ld1 Tryd.isAgg3 (I.at1 (o := 0) (vs := [(vi x1.c6)]) (nb rfl) rfl)))) ?_
  refine a7 (Pu.g fun hb => by have a8 := hb; first | exact (d4 _ _ _ _ _ _) | (simp only [b6 a8]; exact (d4 _ _ _ _ _ _)) | (simp only [b9 a8, b6 a8, b6 hb, z8 a8, f8]; exact (d4 _ _ _ _ _ _))) ?_
  refine a7 (E4 _ _) ?_
  refine f6 (cap := []) (fun args w => Tryd.call64 args w) ?_
  refine i6 (Fi := [bx g0 102 (f4 F0)]) (Fr := [bx g_2 30 (d9 x1)]) (I.bring 1) (h g0) (fun a5D H_6 a5E w_7 I_8 a4J k_9 R3 => ?_) (fun _ _ _ _ _ q => q.elim)
  obtain ⟨G6, rfl, rfl, h⟩ := R3
  refine a7 (j8 _) ?_
  refine a7 o0 ?_
  refine c5 (ld1 Tryd.isAgg4 (I_8.at1 (o := 0) (vs := [(Value.bool G6.fok)]) (nb rfl) rfl)) ?_
  refine a7 (Pu.g fun hb => by have a8 := hb; first | exact R6 | (simp only [b9 a8, b6 a8, b6 hb, o7 a8]; exact R6) | (simp only [b9 a8, b6 a8, b6 hb, d8 a8, f8]; exact R6)) ?_
  refine c5 (Ld.g fun hb => by have a8 := hb; first | exact (ld1 Tryd.isAgg28 ((I_8.bring 1).at1 (o := 3) (vs := [(vs x1.o8)]) (nb rfl) rfl)) | (simp only [b6 a8]; exact (ld1 Tryd.isAgg28 ((I_8.bring 1).at1 (o := 3) (vs := [(vs x1.o8)]) (nb rfl) rfl))) | (simp only [b9 a8, b6 a8, b6 hb, d8 a8, f8]; exact (ld1 Tryd.isAgg28 ((I_8.bring 1).at1 (o := 3) (vs := [(vs x1.o8)]) (nb rfl) rfl)))) ?_
  refine a7 (Pu.g fun hb => by have a8 := hb; first | exact (v8 _ _ _) | (simp only [b6 a8]; exact (v8 _ _ _)) | (simp only [b9 a8, b6 a8, b6 hb, d8 a8, f8]; exact (v8 _ _ _))) ?_
  try simp only [m1]
  refine a7 (Pu.g fun hb => by have a8 := hb; first | exact (d4 _ _ _ _ _ _) | (simp only [b6 a8]; exact (d4 _ _ _ _ _ _)) | (simp only [b9 a8, b6 a8, b6 hb, d8 a8, f8]; exact (d4 _ _ _ _ _ _))) ?_
  refine a7 (m3 _ _) ?_
  refine a7 (Pu.g fun hb => by have a8 := hb; first | exact V7 | (simp only [b9 a8, b6 a8, b6 hb, o7 a8]; exact V7) | (simp only [b9 a8, b6 a8, b6 hb, d8 a8, f8]; exact V7)) ?_
  refine c5 (Ld.g fun hb => by have a8 := hb; first | exact (ld1 Tryd.isAgg2 ((I_8.bring 1).at1 (o := 1) (vs := [(vi x1.J6)]) (nb rfl) rfl)) | (simp only [b6 a8]; exact (ld1 Tryd.isAgg2 ((I_8.bring 1).at1 (o := 1) (vs := [(vi x1.J6)]) (nb rfl) rfl))) | (simp only [b9 a8, b6 a8, b6 hb, d8 a8, f8]; exact (ld1 Tryd.isAgg2 ((I_8.bring 1).at1 (o := 1) (vs := [(vi x1.J6)]) (nb rfl) rfl)))) ?_
  refine a7 (Pu.g fun hb => by have a8 := hb; first | exact (d4 _ _ _ _ _ _) | (simp only [b6 a8]; exact (d4 _ _ _ _ _ _)) | (simp only [b9 a8, b6 a8, b6 hb, d8 a8, f8]; exact (d4 _ _ _ _ _ _))) ?_
  try simp only [m1, Q8, a0T]
  refine a7 (Pu.e (a2q _ _ _) (Pu.g fun hb => by obtain ⟨a8, i8⟩ := a3S hb; first | exact K5 | (simp only [b9 a8, b6 a8, b9 i8, b6 i8, b6 hb, f8]; exact K5) | (simp only [b9 a8, b6 a8, b9 i8, b6 i8, b6 hb, o7 hb]; exact K5) | (simp only [b9 a8, b6 a8, b9 i8, b6 i8, b6 hb, d8 hb, f8]; exact K5))) ?_
  refine c5 (Ld.e (a2q _ _ _) (Ld.g fun hb => by obtain ⟨a8, i8⟩ := a3S hb; first | exact (ld1 Tryd.isAgg3 ((I_8.bring 1).at1 (o := 0) (vs := [(vi x1.c6)]) (nb rfl) rfl)) | (simp only [b6 hb]; exact (ld1 Tryd.isAgg3 ((I_8.bring 1).at1 (o := 0) (vs := [(vi x1.c6)]) (nb rfl) rfl))) | (simp only [b9 a8, b6 a8, b9 i8, b6 i8, b6 hb, o7 hb]; exact (ld1 Tryd.isAgg3 ((I_8.bring 1).at1 (o := 0) (vs := [(vi x1.c6)]) (nb rfl) rfl))) | (simp only [b9 a8, b6 a8, b9 i8, b6 i8, b6 hb, d8 hb, f8]; exact (ld1 Tryd.isAgg3 ((I_8.bring 1).at1 (o := 0) (vs := [(vi x1.c6)]) (nb rfl) rfl))))) ?_
  refine a7 (Pu.e (a2q _ _ _) (Pu.g fun hb => by obtain ⟨a8, i8⟩ := a3S hb; first | exact (d4 _ _ _ _ _ _) | (simp only [b6 hb]; exact (d4 _ _ _ _ _ _)) | (simp only [b9 a8, b6 a8, b9 i8, b6 i8, b6 hb, o7 hb]; exact (d4 _ _ _ _ _ _)) | (simp only [b9 a8, b6 a8, b9 i8, b6 i8, b6 hb, d8 hb, f8]; exact (d4 _ _ _ _ _ _)))) ?_
  try simp only [Q8]
  refine a7 (Pu.e (c0F _ _ _) (Pu.g fun hb => by obtain ⟨a6r, a4l⟩ := c8R hb; obtain ⟨a8, i8⟩ := a3S a6r; first | exact V7 | (simp only [b9 a8, b6 a8, b9 i8, b6 i8, b9 a4l, b6 a4l, b6 hb, b6 a6r, f8]; exact V7) | (simp only [b9 a8, b6 a8, b9 i8, b6 i8, b9 a4l, b6 a4l, b6 hb, b6 a6r, o7 hb]; exact V7) | (simp only [b9 a8, b6 a8, b9 i8, b6 i8, b9 a4l, b6 a4l, b6 hb, b6 a6r, d8 hb, f8]; exact V7))) ?_
  refine c5 (Ld.e (c0F _ _ _) (Ld.g fun hb => by obtain ⟨a6r, a4l⟩ := c8R hb; obtain ⟨a8, i8⟩ := a3S a6r; first | exact (ld1 Tryd.isAgg2 ((I_8.bring 1).at1 (o := 1) (vs := [(vi x1.J6)]) (nb rfl) rfl)) | (simp only [b6 hb]; exact (ld1 Tryd.isAgg2 ((I_8.bring 1).at1 (o := 1) (vs := [(vi x1.J6)]) (nb rfl) rfl))) | (simp only [b9 a8, b6 a8, b9 i8, b6 i8, b9 a4l, b6 a4l, b6 hb, b6 a6r, o7 hb]; exact (ld1 Tryd.isAgg2 ((I_8.bring 1).at1 (o := 1) (vs := [(vi x1.J6)]) (nb rfl) rfl))) | (simp only [b9 a8, b6 a8, b9 i8, b6 i8, b9 a4l, b6 a4l, b6 hb, b6 a6r, d8 hb, f8]; exact (ld1 Tryd.isAgg2 ((I_8.bring 1).at1 (o := 1) (vs := [(vi x1.J6)]) (nb rfl) rfl))))) ?_
  refine a7 (Pu.e (c0F _ _ _) (Pu.g fun hb => by obtain ⟨a6r, a4l⟩ := c8R hb; obtain ⟨a8, i8⟩ := a3S a6r; first | exact (a2H _ _ _ _ _ _) | (simp only [b6 hb]; exact (a2H _ _ _ _ _ _)) | (simp only [b9 a8, b6 a8, b9 i8, b6 i8, b9 a4l, b6 a4l, b6 hb, b6 a6r, o7 hb]; exact (a2H _ _ _ _ _ _)) | (simp only [b9 a8, b6 a8, b9 i8, b6 i8, b9 a4l, b6 a4l, b6 hb, b6 a6r, d8 hb, f8]; exact (a2H _ _ _ _ _ _)))) ?_
  refine a7 (Pu.e (a2q _ _ _) (Pu.g fun hb => by obtain ⟨a8, i8⟩ := a3S hb; first | exact (m3 _ _) | (simp only [b6 hb]; exact (m3 _ _)) | (simp only [b6 hb, o7 hb]; exact (m3 _ _)) | (simp only [b9 a8, b6 a8, b9 i8, b6 i8, b6 hb, d8 hb, f8]; exact (m3 _ _)))) ?_
  refine a7 (Pu.g fun hb => by have a8 := hb; first | exact (E4 _ _) | (simp only [b6 a8, o7 a8]; exact (E4 _ _)) | (simp only [b6 a8, d8 a8]; exact (E4 _ _))) ?_
  refine a7 (m3 _ _) ?_
  refine a7 (j8 _) ?_
  refine a7 o0 ?_
  refine p7 I_8 Tryd.sizeOf4 (vs := [(Value.bool ((G6.fok && (decide ((x1.o8.n : Int) = m0))) && ((decide (x1.J6 = 0)) || ((decide (x1.c6 = 1)) && (decide (0 < x1.J6))))))]) (cs' := [(Value.bool ((G6.fok && (decide ((x1.o8.n : Int) = m0))) && ((decide (x1.J6 = 0)) || ((decide (x1.c6 = 1)) && (decide (0 < x1.J6)))))), (Value.bool G6.fnames)]) rfl rfl (nb rfl) rfl rfl fun a4D b4C g6p => ?_
  obtain ⟨d8B, c6s, g6q, g6r⟩ := h
  refine p9 (J := fun n l w => ∃ (s : Int × b7) (H : Hp) , n = c6s s ∧ l = (match s with | (C8, L3) => [(vi C8)]) ∧ (match s with | (C8, L3) => Inv w0 ps0 H0 H [bx g0 102 (f4 L3), bx g_2 30 (d9 x1)] w) ∧ d8B s H) ⟨_, (0, (b7.mk ((G6.fok && (decide ((x1.o8.n : Int) = m0))) && ((decide (x1.J6 = 0)) || ((decide (x1.c6 = 1)) && (decide (0 < x1.J6))))) G6.fnames)), H_6, rfl, rfl, ((b4C.bring 1).bring 1), g6q⟩ ?_
  rintro h2f τ_65 w next2 ⟨⟨C8, L3⟩, H, rfl, d8C, I, g6s⟩ hn2
  dsimp only at d8C I
  simp only [List.map_cons, List.map_nil, List.cons.injEq, and_true] at d8C
  have e5 := d8C
  simp only [e5]
  obtain ⟨n2, hm2, h⟩ : ∃ n2 : (Int × b7) → Hp → Prop, (∀ s' H', n2 s' H' → d8B s' H' ∧ c6s s' < c6s (C8, L3)) ∧ P2 x1 C8 L3 H n2 K := ⟨_, fun _ _ h => h, g6r (C8, L3) H (fun s' H' => d8B s' H' ∧ c6s s' < c6s (C8, L3)) g6s (fun _ _ a b => ⟨a, b⟩)⟩
  unfold d4G
  unfold P2 at h
  refine a7 R6 ?_
  refine c5 (ld1 Tryd.isAgg28 ((I.bring 1).at1 (o := 3) (vs := [(vs x1.o8)]) (nb rfl) rfl)) ?_
  refine a7 (v8 _ _ _) ?_
  refine a7 (o2 _ _ _ _ _ _) ?_
  try simp only [m1]
  refine a7 (Pu.g fun hb => by have a8 := hb; first | exact (j8 _) | (simp only [b6 a8]; exact (j8 _)) | (simp only [b9 a8, b6 a8, b6 hb, d8 a8, f8]; exact (j8 _))) ?_
  refine a7 (Pu.g fun hb => by have a8 := hb; first | exact o0 | (simp only [b6 a8]; exact o0) | (simp only [b9 a8, b6 a8, b6 hb, d8 a8, f8]; exact o0)) ?_
  refine c5 (Ld.g fun hb => by have a8 := hb; first | exact (ld1 Tryd.isAgg4 (I.at1 (o := 0) (vs := [(Value.bool L3.fok)]) (nb rfl) rfl)) | (simp only [b6 a8]; exact (ld1 Tryd.isAgg4 (I.at1 (o := 0) (vs := [(Value.bool L3.fok)]) (nb rfl) rfl))) | (simp only [b9 a8, b6 a8, b6 hb, d8 a8, f8]; exact (ld1 Tryd.isAgg4 (I.at1 (o := 0) (vs := [(Value.bool L3.fok)]) (nb rfl) rfl)))) ?_
  refine a7 (m3 _ _) ?_
  refine k8 (fun d8D => ?_) (fun d8D => ?_)
  ·replace h := h.1 d8D
   refine a7 R6 ?_
   refine c5 (ld1 Tryd.isAgg28 ((I.bring 1).at1 (o := 3) (vs := [(vs x1.o8)]) (nb rfl) rfl)) ?_
   obtain ⟨b4b, b8J, d0T, c6t, h⟩ := h
   obtain ⟨h2g, h2h, d7h, c6t⟩ := c6t
   refine a7 (a1M d7h _ _ _ _ b4b b8J) ?_
   refine c5 (ldA (vs := (d9 d0T)) Tryd.isAgg30 Tryd.sizeOf30 rfl (I.atH c6t)) ?_
   refine f6 (cap := []) (fun args w => Tryd.call59 args w) ?_
   refine i6 (Fi := [bx g0 102 (f4 L3)]) (Fr := [bx g_2 30 (d9 x1)]) I (h g0) (fun h2i d8z h2j e5X d7i h2k h2l g6t => ?_) (fun _ _ _ _ _ q => q.elim)
   obtain ⟨d0U, rfl, rfl, h⟩ := g6t
   refine a7 (m4 _ _ _ _ _ _) ?_
   exact hn2 _ _ _ (hm2 _ _ h).2 ⟨((IntKind.wrap .i64 (C8 + 1)), d0U), d8z, rfl, rfl, ((d7i.bring 1).bring 1), (hm2 _ _ h).1⟩
  ·replace h := h.2 d8D
   exact hR L3 H _ (I.bring 1).drop h
 refine m6 fun j1 hx1 => ?_
 refine a7 K5 ?_
 refine c5 (ld1 Tryd.isAgg3 (I_4.at1 (o := 0) (vs := [(vi x1.c6)]) (nb rfl) rfl)) ?_
 have hj3 : ∀ (b7g : Bool) (H : Hp) (w : World) (_ : Inv w0 ps0 H0 H [bx g_2 30 (d9 x1), bx g0 102 (f4 x0)] w) (_ : B2 0 x1.c6 b7g x1 x0 H K), c5K (Value.pointer (some ⟨g0, 0, none⟩)) (Value.pointer (some ⟨g_2, 0, none⟩)) (vi 0) (vi x1.c6) (Value.bool b7g) w j1 R E := by
  intro b7g H w I h
  unfold c5K
  intro _
  unfold B2 at h
  refine k8 (fun b8x => ?_) (fun b8x => ?_)
  ·replace h := h.1 b8x
   exact hx1 _ _ (hj1 0 x0 H _ ((I.bring 1).bring 1) h)
  ·replace h := h.2 b8x
   have hj4 : ∀ (b7f : Bool) (H : Hp) (w : World) (_ : Inv w0 ps0 H0 H [bx g_2 30 (d9 x1), bx g0 102 (f4 x0)] w) (_ : E0 0 x1.c6 b7f x1 x0 H K), c5J (Value.pointer (some ⟨g0, 0, none⟩)) (Value.pointer (some ⟨g_2, 0, none⟩)) (vi 0) (vi x1.c6) (Value.bool b7f) w j1 R E := by
    intro b7f H w I h
    unfold c5J
    intro _
    unfold E0 at h
    refine k8 (fun b8z => ?_) (fun b8z => ?_)
    ·replace h := h.1 b8z
     exact hx1 _ _ (hj1 1 x0 H _ ((I.bring 1).bring 1) h)
    ·replace h := h.2 b8z
     have hj5 : ∀ (b7e : Bool) (H : Hp) (w : World) (_ : Inv w0 ps0 H0 H [bx g_2 30 (d9 x1), bx g0 102 (f4 x0)] w) (_ : s8 0 b7e x1 x0 H K), c5I (Value.pointer (some ⟨g0, 0, none⟩)) (Value.pointer (some ⟨g_2, 0, none⟩)) (vi 0) (Value.bool b7e) w j1 R E := by
      intro b7e H w I h
      unfold c5I
      intro _
      unfold s8 at h
      refine k8 (fun b1j => ?_) (fun b1j => ?_)
      ·replace h := h.1 b1j
       exact hx1 _ _ (hj1 2 x0 H _ ((I.bring 1).bring 1) h)
      ·replace h := h.2 b1j
       refine a7 (j8 _) ?_
       refine a7 o0 ?_
       refine p7 (I.bring 1) Tryd.sizeOf4 (vs := [(Value.bool false)]) (cs' := [(Value.bool false), (Value.bool x0.fnames)]) rfl rfl (nb rfl) rfl rfl fun V4 g6u h2m => ?_
       exact hx1 _ _ (hj1 0 (b7.mk false x0.fnames) H _ (g6u.bring 1) h)
     refine m6 fun j5 hx5 => ?_
     refine a7 (d4 _ _ _ _ _ _) ?_
     refine g6 (fun a6N => ?_) (fun a6N => ?_)
     ·replace h := h.1 a6N
      exact hx5 _ _ (hj5 (decide (x1.c6 = 6)) H _ ((I.bring 1).bring 1) h)
     ·replace h := h.2 a6N
      refine a7 (d4 _ _ _ _ _ _) ?_
      refine g6 (fun a6O => ?_) (fun a6O => ?_)
      ·replace h := h.1 a6O
       exact hx5 _ _ (hj5 (decide (x1.c6 = 7)) H _ ((I.bring 1).bring 1) h)
      ·replace h := h.2 a6O
       refine a7 (d4 _ _ _ _ _ _) ?_
       refine g6 (fun b1p => ?_) (fun b1p => ?_)
       ·replace h := h.1 b1p
        exact hx5 _ _ (hj5 (decide (x1.c6 = 8)) H _ ((I.bring 1).bring 1) h)
       ·replace h := h.2 b1p
        refine a7 (d4 _ _ _ _ _ _) ?_
        refine g6 (fun a3t => ?_) (fun a3t => ?_)
        ·replace h := h.1 a3t
         exact hx5 _ _ (hj5 (decide (x1.c6 = 9)) H _ ((I.bring 1).bring 1) h)
        ·replace h := h.2 a3t
         refine a7 (d4 _ _ _ _ _ _) ?_
         exact hx5 _ _ (hj5 (decide (x1.c6 = 10)) H _ ((I.bring 1).bring 1) h)
   refine m6 fun j4 hx4 => ?_
   refine a7 (d4 _ _ _ _ _ _) ?_
   refine g6 (fun b8y => ?_) (fun b8y => ?_)
   ·replace h := h.1 b8y
    exact hx4 _ _ (hj4 (decide (x1.c6 = 4)) H _ ((I.bring 1).bring 1) h)
   ·replace h := h.2 b8y
    refine a7 (d4 _ _ _ _ _ _) ?_
    exact hx4 _ _ (hj4 (decide (x1.c6 = 5)) H _ ((I.bring 1).bring 1) h)
 refine m6 fun j3 hx3 => ?_
 refine a7 (d4 _ _ _ _ _ _) ?_
 refine g6 (fun b8v => ?_) (fun b8v => ?_)
 ·replace h := h.1 b8v
  exact hx3 _ _ (hj3 (decide (x1.c6 = 1)) H _ ((I_4.bring 1).bring 1) h)
 ·replace h := h.2 b8v
  refine a7 (d4 _ _ _ _ _ _) ?_
  refine g6 (fun b8w => ?_) (fun b8w => ?_)
  ·replace h := h.1 b8w
   exact hx3 _ _ (hj3 (decide (x1.c6 = 2)) H _ ((I_4.bring 1).bring 1) h)
  ·replace h := h.2 b8w
   refine a7 (d4 _ _ _ _ _ _) ?_
   exact hx3 _ _ (hj3 (decide (x1.c6 = 3)) H _ ((I_4.bring 1).bring 1) h)
theorem a8J (x0 : b7) (x1 : k6) {H : Hp} {K : b7 → Hp → Prop} (h : T9 x0 x1 H K) : M4 x0 x1 H K := by
 intro g0 w I
 refine f2T ?_
 refine a8p x0 x1 g0 I (fun y0 H' w' I' hk => ⟨H', _, I', y0, rfl, rfl, hk⟩) h
def U0 (x0 : b7) (H : Hp) (K : Int → Hp → Prop) : Prop :=
 ((!x0.fok) = true →
 K 30 H) ∧
 ((!x0.fok) = false →
 ((!x0.fnames) = true →
 K 31 H) ∧
 ((!x0.fnames) = false →
 K 0 H))
theorem a8q (x0 : b7) {w0 w : World} {ps0 : Nat → Prop} {H0 H : Hp} {K : Int → Hp → Prop} {R : Value → World → Prop} {E : Pan} (I : Inv w0 ps0 H0 H [] w) (hR : ∀ (r0 : Int) (H' : Hp) (w' : World) (_ : Inv w0 ps0 H0 H' [] w') (_ : K r0 H'), R (vi r0) w') (h : U0 x0 H K) : F60 (Value.agg (f4 x0).toArray) w R E := by
 unfold U0 at h
 unfold F60
 refine J4 I (cs := (f4 x0)) rfl fun g_2 w_3 I_4 k_5 => ?_
 refine a7 o0 ?_
 refine c5 (ld1 Tryd.isAgg4 (I_4.at1 (o := 0) (vs := [(Value.bool x0.fok)]) (nb rfl) rfl)) ?_
 refine a7 (G7 _) ?_
 refine k8 (fun c_7 => ?_) (fun c_7 => ?_)
 ·replace h := h.1 c_7
  exact hR 30 H _ I_4.drop h
 ·replace h := h.2 c_7
  refine a7 b2z ?_
  refine c5 (ld1 Tryd.isAgg4 (I_4.at1 (o := 1) (vs := [(Value.bool x0.fnames)]) (nb rfl) rfl)) ?_
  refine a7 (G7 _) ?_
  refine k8 (fun c_6 => ?_) (fun c_6 => ?_)
  ·replace h := h.1 c_6
   exact hR 31 H _ I_4.drop h
  ·replace h := h.2 c_6
   exact hR 0 H _ I_4.drop h
theorem a8K (x0 : b7) {H : Hp} {K : Int → Hp → Prop} (h : U0 x0 H K) : a1t x0 H K := by
 intro w I
 refine f2V ?_
 refine a8q x0 I (fun r0 H' w' I' hk => ⟨H', _, I', r0, rfl, rfl, hk⟩) h
def P3 (cr_1l4 : k3) (a7b : Int) (K9 : b7) (H : Hp) (n4 : (Int × b7) → Hp → Prop) (K : b7 → Hp → Prop) : Prop :=
 (((decide (a7b < (cr_1l4.l9.n : Int))) && K9.fok) = true →
 (0 : Int) ≤ a7b ∧ (a7b : Int) < cr_1l4.l9.n ∧ ∃ d0V : k3, EltH H cr_1l4.l9 a7b 4 (f5 d0V) ∧
 S9 K9 d0V H (fun (D2 : b7) (a9Q : Hp) =>
 n4 ((IntKind.wrap .i64 (a7b + 1)), D2) a9Q)) ∧
 (((decide (a7b < (cr_1l4.l9.n : Int))) && K9.fok) = false →
 K K9 H)
def P4 (a0G : b7) (cr_1j3 : k3) (H : Hp) (K : b7 → Hp → Prop) : Prop :=
 TL ((0, a0G) : Int × b7) H fun (s : Int × b7) H n4 => P3 cr_1j3 s.1 s.2 H n4 K
def P5 (cr_1l5 : k3) (a7c : Int) (A0 : b7) (H : Hp) (n5 : (Int × b7) → Hp → Prop) (K : b7 → Hp → Prop) : Prop :=
 (((decide (a7c < (cr_1l5.d7.n : Int))) && A0.fok) = true →
 (0 : Int) ≤ a7c ∧ (a7c : Int) < cr_1l5.d7.n ∧ ∃ d0W : k6, EltH H cr_1l5.d7 a7c 4 (d9 d0W) ∧
 M4 A0 d0W H (fun (d0X : b7) (d8E : Hp) =>
 n5 ((IntKind.wrap .i64 (a7c + 1)), d0X) d8E)) ∧
 (((decide (a7c < (cr_1l5.d7.n : Int))) && A0.fok) = false →
 P4 A0 cr_1l5 H K)
def E1 (b4i : Int) (g6v : Int) (b6x : Bool) (cr_1j2 : k3) (a4u : b7) (H : Hp) (K : b7 → Hp → Prop) : Prop :=
 TL ((0, (b7.mk (((a4u.fok && b6x) && (decide ((cr_1j2.d7.n : Int) = b4i))) && (decide ((cr_1j2.l9.n : Int) = g6v))) a4u.fnames)) : Int × b7) H fun (s : Int × b7) H n5 => P5 cr_1j2 s.1 s.2 H n5 K
def s9 (m0 : Int) (a0Q : Int) (cr_1j1 : k3) (F0 : b7) (H : Hp) (K : b7 → Hp → Prop) : Prop :=
 (cr_1j1.c6 = 3 →
 E1 m0 a0Q ((decide (1 ≤ cr_1j1.fOp)) && (decide (cr_1j1.fOp ≤ 6))) cr_1j1 F0 H K) ∧
 (¬ (cr_1j1.c6 = 3) →
 E1 m0 a0Q (decide (cr_1j1.fOp = 0)) cr_1j1 F0 H K)
def E2 (f5u : Int) (g6w : Int) (b7h : Bool) (cr_1j7 : k3) (e0f : b7) (H : Hp) (K : b7 → Hp → Prop) : Prop :=
 (b7h = true →
 s9 f5u 2 cr_1j7 e0f H K) ∧
 (b7h = false →
 s9 f5u g6w cr_1j7 (b7.mk false e0f.fnames) H K)
def E3 (d0Y : Int) (d0Z : Int) (b2o : Int) (b7i : Bool) (cr_1j6 : k3) (c0f : b7) (H : Hp) (K : b7 → Hp → Prop) : Prop :=
 (b7i = true →
 s9 d0Y d0Z cr_1j6 c0f H K) ∧
 (b7i = false →
 (b2o = 3 →
 s9 2 d0Z cr_1j6 c0f H K) ∧
 (¬ (b2o = 3) →
 (b2o = 4 →
 s9 d0Y 1 cr_1j6 c0f H K) ∧
 (¬ (b2o = 4) →
 (b2o = 5 →
 E2 d0Y d0Z (decide (b2o = 5)) cr_1j6 c0f H K) ∧
 (¬ (b2o = 5) →
 E2 d0Y d0Z (decide (b2o = 6)) cr_1j6 c0f H K))))
def U1 (x0 : b7) (x1 : k3) (H : Hp) (K : b7 → Hp → Prop) : Prop :=
 (x1.c6 = 1 →
 E3 0 0 x1.c6 (decide (x1.c6 = 1)) x1 x0 H K) ∧
 (¬ (x1.c6 = 1) →
 E3 0 0 x1.c6 (decide (x1.c6 = 2)) x1 x0 H K)
theorem a8r (x0 : b7) (x1 : k3) (g0 : Nat) {w0 w : World} {ps0 : Nat → Prop} {H0 H : Hp} {K : b7 → Hp → Prop} {R : Value → World → Prop} {E : Pan} (I : Inv w0 ps0 H0 H [bx g0 102 (f4 x0)] w) (hR : ∀ (y0 : b7) (H' : Hp) (w' : World) (_ : Inv w0 ps0 H0 H' [bx g0 102 (f4 y0)] w') (_ : K y0 H'), R (Value.tuple #[]) w') (h : U1 x0 x1 H K) : F62 (Value.pointer (some ⟨g0, 0, none⟩)) (Value.agg (f5 x1).toArray) w R E := by
 unfold U1 at h
 unfold F62
 refine J4 I (cs := (f5 x1)) rfl fun g_2 w_3 I_4 k_5 => ?_
 have hj1 : ∀ (m0 : Int) (a0Q : Int) (F0 : b7) (H : Hp) (w : World) (_ : Inv w0 ps0 H0 H [bx g_2 33 (f5 x1), bx g0 102 (f4 F0)] w) (_ : s9 m0 a0Q x1 F0 H K), c5O (Value.pointer (some ⟨g0, 0, none⟩)) (Value.pointer (some ⟨g_2, 0, none⟩)) (vi m0) (vi a0Q) w R E := by
  intro m0 a0Q F0 H w I h
  unfold c5O
  intro _
  unfold s9 at h
  refine a7 Z5 ?_
  refine c5 (ld1 Tryd.isAgg3 (I.at1 (o := 1) (vs := [(vi x1.fOp)]) (nb rfl) rfl)) ?_
  refine a7 (d4 _ _ _ _ _ _) ?_
  have hj2 : ∀ (b6x : Bool) (H : Hp) (w : World) (_ : Inv w0 ps0 H0 H [bx g_2 33 (f5 x1), bx g0 102 (f4 F0)] w) (_ : E1 m0 a0Q b6x x1 F0 H K), c5M (Value.pointer (some ⟨g0, 0, none⟩)) (Value.pointer (some ⟨g_2, 0, none⟩)) (vi m0) (vi a0Q) (Value.bool b6x) w R E := by
   intro b6x H w I h
   unfold c5M
   intro _
   unfold E1 at h
   refine a7 (j8 _) ?_
   refine a7 o0 ?_
   refine c5 (ld1 Tryd.isAgg4 ((I.bring 1).at1 (o := 0) (vs := [(Value.bool F0.fok)]) (nb rfl) rfl)) ?_
   try simp only [m1]
   refine a7 (m3 _ _) ?_
   refine a7 (Pu.g fun hb => by have a8 := hb; first | exact R7 | (simp only [b9 a8, b6 a8, b6 hb, o7 a8]; exact R7) | (simp only [b9 a8, b6 a8, b6 hb, d8 a8, f8]; exact R7)) ?_
   refine c5 (Ld.g fun hb => by have a8 := hb; first | exact (ld1 Tryd.isAgg28 (I.at1 (o := 2) (vs := [(vs x1.d7)]) (nb rfl) rfl)) | (simp only [b6 a8]; exact (ld1 Tryd.isAgg28 (I.at1 (o := 2) (vs := [(vs x1.d7)]) (nb rfl) rfl))) | (simp only [b9 a8, b6 a8, b6 hb, d8 a8, f8]; exact (ld1 Tryd.isAgg28 (I.at1 (o := 2) (vs := [(vs x1.d7)]) (nb rfl) rfl)))) ?_
   refine a7 (Pu.g fun hb => by have a8 := hb; first | exact (v8 _ _ _) | (simp only [b6 a8]; exact (v8 _ _ _)) | (simp only [b9 a8, b6 a8, b6 hb, d8 a8, f8]; exact (v8 _ _ _))) ?_
   try simp only [m1]
   refine a7 (Pu.g fun hb => by have a8 := hb; first | exact (d4 _ _ _ _ _ _) | (simp only [b6 a8]; exact (d4 _ _ _ _ _ _)) | (simp only [b9 a8, b6 a8, b6 hb, d8 a8, f8]; exact (d4 _ _ _ _ _ _))) ?_
   refine a7 (m3 _ _) ?_
   refine a7 (Pu.g fun hb => by have a8 := hb; first | exact R8 | (simp only [b9 a8, b6 a8, b6 hb, o7 a8]; exact R8) | (simp only [b9 a8, b6 a8, b6 hb, d8 a8, f8]; exact R8)) ?_
   refine c5 (Ld.g fun hb => by have a8 := hb; first | exact (ld1 Tryd.isAgg31 (I.at1 (o := 3) (vs := [(vs x1.l9)]) (nb rfl) rfl)) | (simp only [b6 a8]; exact (ld1 Tryd.isAgg31 (I.at1 (o := 3) (vs := [(vs x1.l9)]) (nb rfl) rfl))) | (simp only [b9 a8, b6 a8, b6 hb, d8 a8, f8]; exact (ld1 Tryd.isAgg31 (I.at1 (o := 3) (vs := [(vs x1.l9)]) (nb rfl) rfl)))) ?_
   refine a7 (Pu.g fun hb => by have a8 := hb; first | exact (H8 _ _ _) | (simp only [b6 a8]; exact (H8 _ _ _)) | (simp only [b9 a8, b6 a8, b6 hb, d8 a8, f8]; exact (H8 _ _ _))) ?_
   try simp only [m1]
   refine a7 (Pu.g fun hb => by have a8 := hb; first | exact (d4 _ _ _ _ _ _) | (simp only [b6 a8]; exact (d4 _ _ _ _ _ _)) | (simp only [b9 a8, b6 a8, b6 hb, d8 a8, f8]; exact (d4 _ _ _ _ _ _))) ?_
   refine a7 (m3 _ _) ?_
   refine a7 (j8 _) ?_
   refine a7 o0 ?_
   refine p7 (I.bring 1) Tryd.sizeOf4 (vs := [(Value.bool (((F0.fok && b6x) && (decide ((x1.d7.n : Int) = m0))) && (decide ((x1.l9.n : Int) = a0Q))))]) (cs' := [(Value.bool (((F0.fok && b6x) && (decide ((x1.d7.n : Int) = m0))) && (decide ((x1.l9.n : Int) = a0Q)))), (Value.bool F0.fnames)]) rfl rfl (nb rfl) rfl rfl fun w_6 I_7 k_8 => ?_
   have hj3 : ∀ (a0G : b7) (H : Hp) (w : World) (_ : Inv w0 ps0 H0 H [bx g0 102 (f4 a0G), bx g_2 33 (f5 x1)] w) (_ : P4 a0G x1 H K), c5L (Value.pointer (some ⟨g0, 0, none⟩)) (Value.pointer (some ⟨g_2, 0, none⟩)) w R E := by
    intro a0G H w I h
    unfold c5L
    intro _
    unfold P4 at h
    obtain ⟨d8F, c6u, g6x, a6P⟩ := h
    refine p9 (J := fun n l w => ∃ (s : Int × b7) (H : Hp) , n = c6u s ∧ l = (match s with | (a7b, K9) => [(vi a7b)]) ∧ (match s with | (a7b, K9) => Inv w0 ps0 H0 H [bx g0 102 (f4 K9), bx g_2 33 (f5 x1)] w) ∧ d8F s H) ⟨_, (0, a0G), H, rfl, rfl, ((I.bring 1).bring 1), g6x⟩ ?_
    rintro h2n τ_72 w next4 ⟨⟨a7b, K9⟩, H, rfl, d1a, I, g6y⟩ hn4
    dsimp only at d1a I
    simp only [List.map_cons, List.map_nil, List.cons.injEq, and_true] at d1a
    have e8 := d1a
    simp only [e8]
    obtain ⟨n4, hm4, h⟩ : ∃ n4 : (Int × b7) → Hp → Prop, (∀ s' H', n4 s' H' → d8F s' H' ∧ c6u s' < c6u (a7b, K9)) ∧ P3 x1 a7b K9 H n4 K := ⟨_, fun _ _ h => h, a6P (a7b, K9) H (fun s' H' => d8F s' H' ∧ c6u s' < c6u (a7b, K9)) g6y (fun _ _ a b => ⟨a, b⟩)⟩
    unfold d4H
    unfold P3 at h
    refine a7 R8 ?_
    refine c5 (ld1 Tryd.isAgg31 ((I.bring 1).at1 (o := 3) (vs := [(vs x1.l9)]) (nb rfl) rfl)) ?_
    refine a7 (H8 _ _ _) ?_
    refine a7 (o2 _ _ _ _ _ _) ?_
    try simp only [m1]
    refine a7 (Pu.g fun hb => by have a8 := hb; first | exact (j8 _) | (simp only [b6 a8]; exact (j8 _)) | (simp only [b9 a8, b6 a8, b6 hb, d8 a8, f8]; exact (j8 _))) ?_
    refine a7 (Pu.g fun hb => by have a8 := hb; first | exact o0 | (simp only [b6 a8]; exact o0) | (simp only [b9 a8, b6 a8, b6 hb, d8 a8, f8]; exact o0)) ?_
    refine c5 (Ld.g fun hb => by have a8 := hb; first | exact (ld1 Tryd.isAgg4 (I.at1 (o := 0) (vs := [(Value.bool K9.fok)]) (nb rfl) rfl)) | (simp only [b6 a8]; exact (ld1 Tryd.isAgg4 (I.at1 (o := 0) (vs := [(Value.bool K9.fok)]) (nb rfl) rfl))) | (simp only [b9 a8, b6 a8, b6 hb, d8 a8, f8]; exact (ld1 Tryd.isAgg4 (I.at1 (o := 0) (vs := [(Value.bool K9.fok)]) (nb rfl) rfl)))) ?_
    refine a7 (m3 _ _) ?_
    refine k8 (fun b8o => ?_) (fun b8o => ?_)
    ·replace h := h.1 b8o
     refine a7 R8 ?_
     refine c5 (ld1 Tryd.isAgg31 ((I.bring 1).at1 (o := 3) (vs := [(vs x1.l9)]) (nb rfl) rfl)) ?_
     obtain ⟨b8B, a9g, d0V, b8d, h⟩ := h
     obtain ⟨h2o, h2p, b8G, b8d⟩ := b8d
     refine a7 (a4N b8G _ _ _ _ b8B a9g) ?_
     refine c5 (ldA (vs := (f5 d0V)) Tryd.isAgg33 Tryd.sizeOf33 rfl (I.atH b8d)) ?_
     refine f6 (cap := []) (fun args w => Tryd.call62 args w) ?_
     refine i6 (Fi := [bx g0 102 (f4 K9)]) (Fr := [bx g_2 33 (f5 x1)]) I (h g0) (fun f1t a9Q f1u H9 a9R f1v f1w c5b => ?_) (fun _ _ _ _ _ q => q.elim)
     obtain ⟨D2, rfl, rfl, h⟩ := c5b
     refine a7 (m4 _ _ _ _ _ _) ?_
     exact hn4 _ _ _ (hm4 _ _ h).2 ⟨((IntKind.wrap .i64 (a7b + 1)), D2), a9Q, rfl, rfl, ((a9R.bring 1).bring 1), (hm4 _ _ h).1⟩
    ·replace h := h.2 b8o
     exact hR K9 H _ (I.bring 1).drop h
   refine m6 fun j3 hx3 => ?_
   obtain ⟨b4D, a8s, d1b, d1c⟩ := h
   refine p9 (J := fun n l w => ∃ (s : Int × b7) (H : Hp) , n = a8s s ∧ l = (match s with | (a7c, A0) => [(vi a7c)]) ∧ (match s with | (a7c, A0) => Inv w0 ps0 H0 H [bx g0 102 (f4 A0), bx g_2 33 (f5 x1)] w) ∧ b4D s H) ⟨_, (0, (b7.mk (((F0.fok && b6x) && (decide ((x1.d7.n : Int) = m0))) && (decide ((x1.l9.n : Int) = a0Q))) F0.fnames)), H, rfl, rfl, ((I_7.bring 1).bring 1), d1b⟩ ?_
   rintro g1V τ_106 w next5 ⟨⟨a7c, A0⟩, H, rfl, b4E, I, d1d⟩ hn5
   dsimp only at b4E I
   simp only [List.map_cons, List.map_nil, List.cons.injEq, and_true] at b4E
   have e7 := b4E
   simp only [e7]
   obtain ⟨n5, hm5, h⟩ : ∃ n5 : (Int × b7) → Hp → Prop, (∀ s' H', n5 s' H' → b4D s' H' ∧ a8s s' < a8s (a7c, A0)) ∧ P5 x1 a7c A0 H n5 K := ⟨_, fun _ _ h => h, d1c (a7c, A0) H (fun s' H' => b4D s' H' ∧ a8s s' < a8s (a7c, A0)) d1d (fun _ _ a b => ⟨a, b⟩)⟩
   unfold d4I
   unfold P5 at h
   refine a7 R7 ?_
   refine c5 (ld1 Tryd.isAgg28 ((I.bring 1).at1 (o := 2) (vs := [(vs x1.d7)]) (nb rfl) rfl)) ?_
   refine a7 (v8 _ _ _) ?_
   refine a7 (o2 _ _ _ _ _ _) ?_
   try simp only [m1]
   refine a7 (Pu.g fun hb => by have a8 := hb; first | exact (j8 _) | (simp only [b6 a8]; exact (j8 _)) | (simp only [b9 a8, b6 a8, b6 hb, d8 a8, f8]; exact (j8 _))) ?_
   refine a7 (Pu.g fun hb => by have a8 := hb; first | exact o0 | (simp only [b6 a8]; exact o0) | (simp only [b9 a8, b6 a8, b6 hb, d8 a8, f8]; exact o0)) ?_
   refine c5 (Ld.g fun hb => by have a8 := hb; first | exact (ld1 Tryd.isAgg4 (I.at1 (o := 0) (vs := [(Value.bool A0.fok)]) (nb rfl) rfl)) | (simp only [b6 a8]; exact (ld1 Tryd.isAgg4 (I.at1 (o := 0) (vs := [(Value.bool A0.fok)]) (nb rfl) rfl))) | (simp only [b9 a8, b6 a8, b6 hb, d8 a8, f8]; exact (ld1 Tryd.isAgg4 (I.at1 (o := 0) (vs := [(Value.bool A0.fok)]) (nb rfl) rfl)))) ?_
   refine a7 (m3 _ _) ?_
   refine k8 (fun b4F => ?_) (fun b4F => ?_)
   ·replace h := h.1 b4F
    refine a7 R7 ?_
    refine c5 (ld1 Tryd.isAgg28 ((I.bring 1).at1 (o := 2) (vs := [(vs x1.d7)]) (nb rfl) rfl)) ?_
    obtain ⟨g6z, d8G, d0W, d8H, h⟩ := h
    obtain ⟨h2q, h2r, d8I, d8H⟩ := d8H
    refine a7 (a1M d8I _ _ _ _ g6z d8G) ?_
    refine c5 (ldA (vs := (d9 d0W)) Tryd.isAgg30 Tryd.sizeOf30 rfl (I.atH d8H)) ?_
    refine f6 (cap := []) (fun args w => Tryd.call59 args w) ?_
    refine i6 (Fi := [bx g0 102 (f4 A0)]) (Fr := [bx g_2 33 (f5 x1)]) I (h g0) (fun h2s d8E h2t a3J g6A d1e h2u g6B => ?_) (fun _ _ _ _ _ q => q.elim)
    obtain ⟨d0X, rfl, rfl, h⟩ := g6B
    refine a7 (m4 _ _ _ _ _ _) ?_
    exact hn5 _ _ _ (hm5 _ _ h).2 ⟨((IntKind.wrap .i64 (a7c + 1)), d0X), d8E, rfl, rfl, ((g6A.bring 1).bring 1), (hm5 _ _ h).1⟩
   ·replace h := h.2 b4F
    exact hx3 _ _ (hj3 A0 H _ ((I.bring 1).bring 1) h)
  refine m6 fun j2 hx2 => ?_
  refine a7 a5X ?_
  refine c5 (ld1 Tryd.isAgg3 (I.at1 (o := 0) (vs := [(vi x1.c6)]) (nb rfl) rfl)) ?_
  refine a7 (d4 _ _ _ _ _ _) ?_
  refine g6 (fun d1f => ?_) (fun d1f => ?_)
  ·replace h := h.1 d1f
   refine a7 Z5 ?_
   refine c5 (ld1 Tryd.isAgg3 (I.at1 (o := 1) (vs := [(vi x1.fOp)]) (nb rfl) rfl)) ?_
   refine a7 (a0B _ _ _ _ _ _) ?_
   refine a7 (Pu.g fun hb => by have a8 := hb; first | exact Z5 | (simp only [b9 a8, b6 a8, b6 hb, o7 a8]; exact Z5) | (simp only [b9 a8, b6 a8, b6 hb, d8 a8, f8]; exact Z5)) ?_
   refine c5 (Ld.g fun hb => by have a8 := hb; first | exact (ld1 Tryd.isAgg3 (I.at1 (o := 1) (vs := [(vi x1.fOp)]) (nb rfl) rfl)) | (simp only [b6 a8]; exact (ld1 Tryd.isAgg3 (I.at1 (o := 1) (vs := [(vi x1.fOp)]) (nb rfl) rfl))) | (simp only [b9 a8, b6 a8, b6 hb, d8 a8, f8]; exact (ld1 Tryd.isAgg3 (I.at1 (o := 1) (vs := [(vi x1.fOp)]) (nb rfl) rfl)))) ?_
   refine a7 (Pu.g fun hb => by have a8 := hb; first | exact (a0A _ _ _ _ _ _) | (simp only [b6 a8]; exact (a0A _ _ _ _ _ _)) | (simp only [b9 a8, b6 a8, b6 hb, d8 a8, f8]; exact (a0A _ _ _ _ _ _))) ?_
   refine a7 (m3 _ _) ?_
   exact hx2 _ _ (hj2 ((decide (1 ≤ x1.fOp)) && (decide (x1.fOp ≤ 6))) H _ ((I.bring 1).bring 1) h)
  ·replace h := h.2 d1f
   exact hx2 _ _ (hj2 (decide (x1.fOp = 0)) H _ ((I.bring 1).bring 1) h)
 refine m6 fun j1 hx1 => ?_
 refine a7 a5X ?_
 refine c5 (ld1 Tryd.isAgg3 (I_4.at1 (o := 0) (vs := [(vi x1.c6)]) (nb rfl) rfl)) ?_
 have hj6 : ∀ (b7i : Bool) (H : Hp) (w : World) (_ : Inv w0 ps0 H0 H [bx g_2 33 (f5 x1), bx g0 102 (f4 x0)] w) (_ : E3 0 0 x1.c6 b7i x1 x0 H K), c5Q (Value.pointer (some ⟨g0, 0, none⟩)) (Value.pointer (some ⟨g_2, 0, none⟩)) (vi 0) (vi 0) (vi x1.c6) (Value.bool b7i) w j1 R E := by
  intro b7i H w I h
  unfold c5Q
  intro _
  unfold E3 at h
  refine k8 (fun d1g => ?_) (fun d1g => ?_)
  ·replace h := h.1 d1g
   exact hx1 _ _ (hj1 0 0 x0 H _ ((I.bring 1).bring 1) h)
  ·replace h := h.2 d1g
   refine a7 (d4 _ _ _ _ _ _) ?_
   refine g6 (fun d1h => ?_) (fun d1h => ?_)
   ·replace h := h.1 d1h
    exact hx1 _ _ (hj1 2 0 x0 H _ ((I.bring 1).bring 1) h)
   ·replace h := h.2 d1h
    refine a7 (d4 _ _ _ _ _ _) ?_
    refine g6 (fun b4w => ?_) (fun b4w => ?_)
    ·replace h := h.1 b4w
     exact hx1 _ _ (hj1 0 1 x0 H _ ((I.bring 1).bring 1) h)
    ·replace h := h.2 b4w
     have hj7 : ∀ (b7h : Bool) (H : Hp) (w : World) (_ : Inv w0 ps0 H0 H [bx g_2 33 (f5 x1), bx g0 102 (f4 x0)] w) (_ : E2 0 0 b7h x1 x0 H K), c5P (Value.pointer (some ⟨g0, 0, none⟩)) (Value.pointer (some ⟨g_2, 0, none⟩)) (vi 0) (vi 0) (Value.bool b7h) w j1 R E := by
      intro b7h H w I h
      unfold c5P
      intro _
      unfold E2 at h
      refine k8 (fun d1i => ?_) (fun d1i => ?_)
      ·replace h := h.1 d1i
       exact hx1 _ _ (hj1 0 2 x0 H _ ((I.bring 1).bring 1) h)
      ·replace h := h.2 d1i
       refine a7 (j8 _) ?_
       refine a7 o0 ?_
       refine p7 (I.bring 1) Tryd.sizeOf4 (vs := [(Value.bool false)]) (cs' := [(Value.bool false), (Value.bool x0.fnames)]) rfl rfl (nb rfl) rfl rfl fun a3x g1W g8Q => ?_
       exact hx1 _ _ (hj1 0 0 (b7.mk false x0.fnames) H _ (g1W.bring 1) h)
     refine m6 fun j7 hx7 => ?_
     refine a7 (d4 _ _ _ _ _ _) ?_
     refine g6 (fun a8t => ?_) (fun a8t => ?_)
     ·replace h := h.1 a8t
      exact hx7 _ _ (hj7 (decide (x1.c6 = 5)) H _ ((I.bring 1).bring 1) h)
     ·replace h := h.2 a8t
      refine a7 (d4 _ _ _ _ _ _) ?_
      exact hx7 _ _ (hj7 (decide (x1.c6 = 6)) H _ ((I.bring 1).bring 1) h)
 refine m6 fun j6 hx6 => ?_
 refine a7 (d4 _ _ _ _ _ _) ?_
 refine g6 (fun d1j => ?_) (fun d1j => ?_)
 ·replace h := h.1 d1j
  exact hx6 _ _ (hj6 (decide (x1.c6 = 1)) H _ ((I_4.bring 1).bring 1) h)
 ·replace h := h.2 d1j
  refine a7 (d4 _ _ _ _ _ _) ?_
  exact hx6 _ _ (hj6 (decide (x1.c6 = 2)) H _ ((I_4.bring 1).bring 1) h)
theorem a8L (x0 : b7) (x1 : k3) {H : Hp} {K : b7 → Hp → Prop} (h : U1 x0 x1 H K) : S9 x0 x1 H K := by
 intro g0 w I
 refine f3F ?_
 refine a8r x0 x1 g0 I (fun y0 H' w' I' hk => ⟨H', _, I', y0, rfl, rfl, hk⟩) h
def P6 (cr_1l5 : i5) (a7d : Int) (A0 : b7) (H : Hp) (n5 : (Int × b7) → Hp → Prop) (K : b7 → Hp → Prop) : Prop :=
 (((decide (a7d < (cr_1l5.q8.n : Int))) && A0.fok) = true →
 (0 : Int) ≤ a7d ∧ (a7d : Int) < cr_1l5.q8.n ∧ ∃ d1k : i5, EltH H cr_1l5.q8 a7d 6 (d6 d1k) ∧
 M5 A0 d1k H (fun (c6v : b7) (d8J : Hp) =>
 n5 ((IntKind.wrap .i64 (a7d + 1)), c6v) d8J)) ∧
 (((decide (a7d < (cr_1l5.q8.n : Int))) && A0.fok) = false →
 K A0 H)
def P7 (a6f : b7) (cr_1j4 : i5) (H : Hp) (K : b7 → Hp → Prop) : Prop :=
 TL ((0, a6f) : Int × b7) H fun (s : Int × b7) H n5 => P6 cr_1j4 s.1 s.2 H n5 K
def P8 (cr_1l6 : i5) (Z2 : Int) (L0 : b7) (H : Hp) (n6 : (Int × b7) → Hp → Prop) (K : b7 → Hp → Prop) : Prop :=
 (((decide (Z2 < (cr_1l6.s6.n : Int))) && L0.fok) = true →
 (0 : Int) ≤ Z2 ∧ (Z2 : Int) < cr_1l6.s6.n ∧ ∃ c2B : i5, EltH H cr_1l6.s6 Z2 6 (d6 c2B) ∧
 M5 L0 c2B H (fun (c6w : b7) (d1l : Hp) =>
 n6 ((IntKind.wrap .i64 (Z2 + 1)), c6w) d1l)) ∧
 (((decide (Z2 < (cr_1l6.s6.n : Int))) && L0.fok) = false →
 P7 L0 cr_1l6 H K)
def P9 (a0G : b7) (cr_1j3 : i5) (H : Hp) (K : b7 → Hp → Prop) : Prop :=
 TL ((0, a0G) : Int × b7) H fun (s : Int × b7) H n6 => P8 cr_1j3 s.1 s.2 H n6 K
def Q0 (cr_1l7 : i5) (Z3 : Int) (L1 : b7) (H : Hp) (n7 : (Int × b7) → Hp → Prop) (K : b7 → Hp → Prop) : Prop :=
 (((decide (Z3 < (cr_1l7.d7.n : Int))) && L1.fok) = true →
 (0 : Int) ≤ Z3 ∧ (Z3 : Int) < cr_1l7.d7.n ∧ ∃ c2C : k6, EltH H cr_1l7.d7 Z3 4 (d9 c2C) ∧
 M4 L1 c2C H (fun (c6x : b7) (d1m : Hp) =>
 n7 ((IntKind.wrap .i64 (Z3 + 1)), c6x) d1m)) ∧
 (((decide (Z3 < (cr_1l7.d7.n : Int))) && L1.fok) = false →
 P9 L1 cr_1l7 H K)
def Q1 (a4u : b7) (cr_1j2 : i5) (H : Hp) (K : b7 → Hp → Prop) : Prop :=
 TL ((0, a4u) : Int × b7) H fun (s : Int × b7) H n7 => Q0 cr_1j2 s.1 s.2 H n7 K
def Q2 (cr_1l8 : i5) (a7e : Int) (a4d : b7) (H : Hp) (n8 : (Int × b7) → Hp → Prop) (K : b7 → Hp → Prop) : Prop :=
 (((decide (a7e < (cr_1l8.i4.n : Int))) && a4d.fok) = true →
 (0 : Int) ≤ a7e ∧ (a7e : Int) < cr_1l8.i4.n ∧ ∃ c2D : k3, EltH H cr_1l8.i4 a7e 4 (f5 c2D) ∧
 S9 a4d c2D H (fun (c6y : b7) (d1n : Hp) =>
 n8 ((IntKind.wrap .i64 (a7e + 1)), c6y) d1n)) ∧
 (((decide (a7e < (cr_1l8.i4.n : Int))) && a4d.fok) = false →
 Q1 a4d cr_1l8 H K)
def t1 (m0 : Int) (a0Q : Int) (cr_1j1 : i5) (F0 : b7) (H : Hp) (K : b7 → Hp → Prop) : Prop :=
 M3 F0 cr_1j1.k9 ((decide (cr_1j1.c6 = 1)) || (decide (cr_1j1.c6 = 2))) H (fun (G6 : b7) (H_6 : Hp) =>
 TL ((0, (b7.mk ((((G6.fok && (decide ((cr_1j1.d7.n : Int) = m0))) && (decide ((cr_1j1.i4.n : Int) = a0Q))) && (((decide ((cr_1j1.s6.n : Int) = 0)) || (decide (cr_1j1.c6 = 3))) || (decide (cr_1j1.c6 = 4)))) && ((decide ((cr_1j1.q8.n : Int) = 0)) || (decide (cr_1j1.c6 = 3)))) G6.fnames)) : Int × b7) H_6 fun (s : Int × b7) H n8 => Q2 cr_1j1 s.1 s.2 H n8 K)
def w6 (d8K : Int) (f5v : Int) (e0g : Int) (b7j : Bool) (cr_1j9 : i5) (d1o : b7) (H : Hp) (K : b7 → Hp → Prop) : Prop :=
 (b7j = true →
 t1 d8K 1 cr_1j9 d1o H K) ∧
 (b7j = false →
 (e0g = 7 →
 t1 d8K f5v cr_1j9 d1o H K) ∧
 (¬ (e0g = 7) →
 t1 d8K f5v cr_1j9 (b7.mk false d1o.fnames) H K))
def U2 (x0 : b7) (x1 : i5) (H : Hp) (K : b7 → Hp → Prop) : Prop :=
 (x1.c6 = 1 →
 t1 1 0 x1 x0 H K) ∧
 (¬ (x1.c6 = 1) →
 (x1.c6 = 2 →
 t1 2 0 x1 x0 H K) ∧
 (¬ (x1.c6 = 2) →
 (x1.c6 = 3 →
 w6 0 0 x1.c6 (decide (x1.c6 = 3)) x1 x0 H K) ∧
 (¬ (x1.c6 = 3) →
 (x1.c6 = 4 →
 w6 0 0 x1.c6 (decide (x1.c6 = 4)) x1 x0 H K) ∧
 (¬ (x1.c6 = 4) →
 (x1.c6 = 5 →
 w6 0 0 x1.c6 (decide (x1.c6 = 5)) x1 x0 H K) ∧
 (¬ (x1.c6 = 5) →
 w6 0 0 x1.c6 (decide (x1.c6 = 6)) x1 x0 H K)))))
theorem a8u (x0 : b7) (x1 : i5) (g0 : Nat) {w0 w : World} {ps0 : Nat → Prop} {H0 H : Hp} {K : b7 → Hp → Prop} {R : Value → World → Prop} {E : Pan} (I : Inv w0 ps0 H0 H [bx g0 102 (f4 x0)] w) (hR : ∀ (y0 : b7) (H' : Hp) (w' : World) (_ : Inv w0 ps0 H0 H' [bx g0 102 (f4 y0)] w') (_ : K y0 H'), R (Value.tuple #[]) w') (h : U2 x0 x1 H K) : F65 (Value.pointer (some ⟨g0, 0, none⟩)) (Value.agg (d6 x1).toArray) w R E := by
 unfold U2 at h
 unfold F65
 refine J4 I (cs := (d6 x1)) rfl fun g_2 w_3 I_4 k_5 => ?_
 have hj1 : ∀ (m0 : Int) (a0Q : Int) (F0 : b7) (H : Hp) (w : World) (_ : Inv w0 ps0 H0 H [bx g_2 88 (d6 x1), bx g0 102 (f4 F0)] w) (_ : t1 m0 a0Q x1 F0 H K), c5V (Value.pointer (some ⟨g0, 0, none⟩)) (Value.pointer (some ⟨g_2, 0, none⟩)) (vi m0) (vi a0Q) w R E := by
  intro m0 a0Q F0 H w I h
  unfold c5V
  intro _
  unfold t1 at h
  refine a7 a4P ?_
  refine c5 (ld1 Tryd.isAgg9 (I.at1 (o := 1) (vs := [(Value.string x1.k9)]) (nb rfl) rfl)) ?_
  refine a7 B6 ?_
  refine c5 (ld1 Tryd.isAgg3 (I.at1 (o := 0) (vs := [(vi x1.c6)]) (nb rfl) rfl)) ?_
  refine a7 (d4 _ _ _ _ _ _) ?_
  refine a7 (Pu.g fun hb => by have a8 := hb; first | exact B6 | (simp only [b9 a8, b6 a8, b6 hb, a5o a8]; exact B6) | (simp only [b9 a8, b6 a8, b6 hb, z8 a8, f8]; exact B6)) ?_
  refine c5 (Ld.g fun hb => by have a8 := hb; first | exact (ld1 Tryd.isAgg3 (I.at1 (o := 0) (vs := [(vi x1.c6)]) (nb rfl) rfl)) | (simp only [b6 a8]; exact (ld1 Tryd.isAgg3 (I.at1 (o := 0) (vs := [(vi x1.c6)]) (nb rfl) rfl))) | (simp only [b9 a8, b6 a8, b6 hb, z8 a8, f8]; exact (ld1 Tryd.isAgg3 (I.at1 (o := 0) (vs := [(vi x1.c6)]) (nb rfl) rfl)))) ?_
  refine a7 (Pu.g fun hb => by have a8 := hb; first | exact (d4 _ _ _ _ _ _) | (simp only [b6 a8]; exact (d4 _ _ _ _ _ _)) | (simp only [b9 a8, b6 a8, b6 hb, z8 a8, f8]; exact (d4 _ _ _ _ _ _))) ?_
  refine a7 (E4 _ _) ?_
  refine f6 (cap := []) (fun args w => Tryd.call64 args w) ?_
  refine i6 (Fi := [bx g0 102 (f4 F0)]) (Fr := [bx g_2 88 (d6 x1)]) (I.bring 1) (h g0) (fun a5D H_6 a5E w_7 I_8 a4J k_9 R3 => ?_) (fun _ _ _ _ _ q => q.elim)
  obtain ⟨G6, rfl, rfl, h⟩ := R3
  refine a7 (j8 _) ?_
  refine a7 o0 ?_
  refine c5 (ld1 Tryd.isAgg4 (I_8.at1 (o := 0) (vs := [(Value.bool G6.fok)]) (nb rfl) rfl)) ?_
  refine a7 (Pu.g fun hb => by have a8 := hb; first | exact R9 | (simp only [b9 a8, b6 a8, b6 hb, o7 a8]; exact R9) | (simp only [b9 a8, b6 a8, b6 hb, d8 a8, f8]; exact R9)) ?_
  refine c5 (Ld.g fun hb => by have a8 := hb; first | exact (ld1 Tryd.isAgg28 ((I_8.bring 1).at1 (o := 2) (vs := [(vs x1.d7)]) (nb rfl) rfl)) | (simp only [b6 a8]; exact (ld1 Tryd.isAgg28 ((I_8.bring 1).at1 (o := 2) (vs := [(vs x1.d7)]) (nb rfl) rfl))) | (simp only [b9 a8, b6 a8, b6 hb, d8 a8, f8]; exact (ld1 Tryd.isAgg28 ((I_8.bring 1).at1 (o := 2) (vs := [(vs x1.d7)]) (nb rfl) rfl)))) ?_
  refine a7 (Pu.g fun hb => by have a8 := hb; first | exact (v8 _ _ _) | (simp only [b6 a8]; exact (v8 _ _ _)) | (simp only [b9 a8, b6 a8, b6 hb, d8 a8, f8]; exact (v8 _ _ _))) ?_
  try simp only [m1]
  refine a7 (Pu.g fun hb => by have a8 := hb; first | exact (d4 _ _ _ _ _ _) | (simp only [b6 a8]; exact (d4 _ _ _ _ _ _)) | (simp only [b9 a8, b6 a8, b6 hb, d8 a8, f8]; exact (d4 _ _ _ _ _ _))) ?_
  refine a7 (m3 _ _) ?_
  refine a7 (Pu.g fun hb => by have a8 := hb; first | exact S1 | (simp only [b9 a8, b6 a8, b6 hb, o7 a8]; exact S1) | (simp only [b9 a8, b6 a8, b6 hb, d8 a8, f8]; exact S1)) ?_
  refine c5 (Ld.g fun hb => by have a8 := hb; first | exact (ld1 Tryd.isAgg31 ((I_8.bring 1).at1 (o := 3) (vs := [(vs x1.i4)]) (nb rfl) rfl)) | (simp only [b6 a8]; exact (ld1 Tryd.isAgg31 ((I_8.bring 1).at1 (o := 3) (vs := [(vs x1.i4)]) (nb rfl) rfl))) | (simp only [b9 a8, b6 a8, b6 hb, d8 a8, f8]; exact (ld1 Tryd.isAgg31 ((I_8.bring 1).at1 (o := 3) (vs := [(vs x1.i4)]) (nb rfl) rfl)))) ?_
  refine a7 (Pu.g fun hb => by have a8 := hb; first | exact (H8 _ _ _) | (simp only [b6 a8]; exact (H8 _ _ _)) | (simp only [b9 a8, b6 a8, b6 hb, d8 a8, f8]; exact (H8 _ _ _))) ?_
  try simp only [m1]
  refine a7 (Pu.g fun hb => by have a8 := hb; first | exact (d4 _ _ _ _ _ _) | (simp only [b6 a8]; exact (d4 _ _ _ _ _ _)) | (simp only [b9 a8, b6 a8, b6 hb, d8 a8, f8]; exact (d4 _ _ _ _ _ _))) ?_
  refine a7 (m3 _ _) ?_
  refine a7 (Pu.g fun hb => by have a8 := hb; first | exact V8 | (simp only [b9 a8, b6 a8, b6 hb, o7 a8]; exact V8) | (simp only [b9 a8, b6 a8, b6 hb, d8 a8, f8]; exact V8)) ?_
  refine c5 (Ld.g fun hb => by have a8 := hb; first | exact (ld1 Tryd.isAgg23 ((I_8.bring 1).at1 (o := 4) (vs := [(vs x1.s6)]) (nb rfl) rfl)) | (simp only [b6 a8]; exact (ld1 Tryd.isAgg23 ((I_8.bring 1).at1 (o := 4) (vs := [(vs x1.s6)]) (nb rfl) rfl))) | (simp only [b9 a8, b6 a8, b6 hb, d8 a8, f8]; exact (ld1 Tryd.isAgg23 ((I_8.bring 1).at1 (o := 4) (vs := [(vs x1.s6)]) (nb rfl) rfl)))) ?_
  refine a7 (Pu.g fun hb => by have a8 := hb; first | exact (D6 _ _ _) | (simp only [b6 a8]; exact (D6 _ _ _)) | (simp only [b9 a8, b6 a8, b6 hb, d8 a8, f8]; exact (D6 _ _ _))) ?_
  refine a7 (Pu.g fun hb => by have a8 := hb; first | exact (d4 _ _ _ _ _ _) | (simp only [b6 a8]; exact (d4 _ _ _ _ _ _)) | (simp only [b9 a8, b6 a8, b6 hb, d8 a8, f8]; exact (d4 _ _ _ _ _ _))) ?_
  try simp only [m1, Q8]
  refine a7 (Pu.e (a2q _ _ _) (Pu.g fun hb => by obtain ⟨a8, i8⟩ := a3S hb; first | exact B6 | (simp only [b9 a8, b6 a8, b9 i8, b6 i8, b6 hb, f8]; exact B6) | (simp only [b9 a8, b6 a8, b9 i8, b6 i8, b6 hb, o7 hb]; exact B6) | (simp only [b9 a8, b6 a8, b9 i8, b6 i8, b6 hb, d8 hb, f8]; exact B6))) ?_
  refine c5 (Ld.e (a2q _ _ _) (Ld.g fun hb => by obtain ⟨a8, i8⟩ := a3S hb; first | exact (ld1 Tryd.isAgg3 ((I_8.bring 1).at1 (o := 0) (vs := [(vi x1.c6)]) (nb rfl) rfl)) | (simp only [b6 hb]; exact (ld1 Tryd.isAgg3 ((I_8.bring 1).at1 (o := 0) (vs := [(vi x1.c6)]) (nb rfl) rfl))) | (simp only [b9 a8, b6 a8, b9 i8, b6 i8, b6 hb, o7 hb]; exact (ld1 Tryd.isAgg3 ((I_8.bring 1).at1 (o := 0) (vs := [(vi x1.c6)]) (nb rfl) rfl))) | (simp only [b9 a8, b6 a8, b9 i8, b6 i8, b6 hb, d8 hb, f8]; exact (ld1 Tryd.isAgg3 ((I_8.bring 1).at1 (o := 0) (vs := [(vi x1.c6)]) (nb rfl) rfl))))) ?_
  refine a7 (Pu.e (a2q _ _ _) (Pu.g fun hb => by obtain ⟨a8, i8⟩ := a3S hb; first | exact (d4 _ _ _ _ _ _) | (simp only [b6 hb]; exact (d4 _ _ _ _ _ _)) | (simp only [b9 a8, b6 a8, b9 i8, b6 i8, b6 hb, o7 hb]; exact (d4 _ _ _ _ _ _)) | (simp only [b9 a8, b6 a8, b9 i8, b6 i8, b6 hb, d8 hb, f8]; exact (d4 _ _ _ _ _ _)))) ?_
  refine a7 (Pu.g fun hb => by have a8 := hb; first | exact (E4 _ _) | (simp only [b6 a8, o7 a8]; exact (E4 _ _)) | (simp only [b6 a8, d8 a8]; exact (E4 _ _))) ?_
  try simp only [Q8]
  refine a7 (Pu.e (a2q _ _ _) (Pu.g fun hb => by obtain ⟨a8, i8⟩ := a3S hb; first | exact B6 | (simp only [b9 a8, b6 a8, b9 i8, b6 i8, b6 hb, f8]; exact B6) | (simp only [b9 a8, b6 a8, b9 i8, b6 i8, b6 hb, o7 hb]; exact B6) | (simp only [b9 a8, b6 a8, b9 i8, b6 i8, b6 hb, d8 hb, f8]; exact B6))) ?_
  refine c5 (Ld.e (a2q _ _ _) (Ld.g fun hb => by obtain ⟨a8, i8⟩ := a3S hb; first | exact (ld1 Tryd.isAgg3 ((I_8.bring 1).at1 (o := 0) (vs := [(vi x1.c6)]) (nb rfl) rfl)) | (simp only [b6 hb]; exact (ld1 Tryd.isAgg3 ((I_8.bring 1).at1 (o := 0) (vs := [(vi x1.c6)]) (nb rfl) rfl))) | (simp only [b9 a8, b6 a8, b9 i8, b6 i8, b6 hb, o7 hb]; exact (ld1 Tryd.isAgg3 ((I_8.bring 1).at1 (o := 0) (vs := [(vi x1.c6)]) (nb rfl) rfl))) | (simp only [b9 a8, b6 a8, b9 i8, b6 i8, b6 hb, d8 hb, f8]; exact (ld1 Tryd.isAgg3 ((I_8.bring 1).at1 (o := 0) (vs := [(vi x1.c6)]) (nb rfl) rfl))))) ?_
  refine a7 (Pu.e (a2q _ _ _) (Pu.g fun hb => by obtain ⟨a8, i8⟩ := a3S hb; first | exact (d4 _ _ _ _ _ _) | (simp only [b6 hb]; exact (d4 _ _ _ _ _ _)) | (simp only [b9 a8, b6 a8, b9 i8, b6 i8, b6 hb, o7 hb]; exact (d4 _ _ _ _ _ _)) | (simp only [b9 a8, b6 a8, b9 i8, b6 i8, b6 hb, d8 hb, f8]; exact (d4 _ _ _ _ _ _)))) ?_
  refine a7 (Pu.g fun hb => by have a8 := hb; first | exact (E4 _ _) | (simp only [b6 a8, o7 a8]; exact (E4 _ _)) | (simp only [b6 a8, d8 a8]; exact (E4 _ _))) ?_
  refine a7 (m3 _ _) ?_
  refine a7 (Pu.g fun hb => by have a8 := hb; first | exact M9 | (simp only [b9 a8, b6 a8, b6 hb, o7 a8]; exact M9) | (simp only [b9 a8, b6 a8, b6 hb, d8 a8, f8]; exact M9)) ?_
  refine c5 (Ld.g fun hb => by have a8 := hb; first | exact (ld1 Tryd.isAgg23 ((I_8.bring 1).at1 (o := 5) (vs := [(vs x1.q8)]) (nb rfl) rfl)) | (simp only [b6 a8]; exact (ld1 Tryd.isAgg23 ((I_8.bring 1).at1 (o := 5) (vs := [(vs x1.q8)]) (nb rfl) rfl))) | (simp only [b9 a8, b6 a8, b6 hb, d8 a8, f8]; exact (ld1 Tryd.isAgg23 ((I_8.bring 1).at1 (o := 5) (vs := [(vs x1.q8)]) (nb rfl) rfl)))) ?_
  refine a7 (Pu.g fun hb => by have a8 := hb; first | exact (D6 _ _ _) | (simp only [b6 a8]; exact (D6 _ _ _)) | (simp only [b9 a8, b6 a8, b6 hb, d8 a8, f8]; exact (D6 _ _ _))) ?_
  refine a7 (Pu.g fun hb => by have a8 := hb; first | exact (d4 _ _ _ _ _ _) | (simp only [b6 a8]; exact (d4 _ _ _ _ _ _)) | (simp only [b9 a8, b6 a8, b6 hb, d8 a8, f8]; exact (d4 _ _ _ _ _ _))) ?_
  try simp only [m1, Q8]
  refine a7 (Pu.e (a2q _ _ _) (Pu.g fun hb => by obtain ⟨a8, i8⟩ := a3S hb; first | exact B6 | (simp only [b9 a8, b6 a8, b9 i8, b6 i8, b6 hb, f8]; exact B6) | (simp only [b9 a8, b6 a8, b9 i8, b6 i8, b6 hb, o7 hb]; exact B6) | (simp only [b9 a8, b6 a8, b9 i8, b6 i8, b6 hb, d8 hb, f8]; exact B6))) ?_
  refine c5 (Ld.e (a2q _ _ _) (Ld.g fun hb => by obtain ⟨a8, i8⟩ := a3S hb; first | exact (ld1 Tryd.isAgg3 ((I_8.bring 1).at1 (o := 0) (vs := [(vi x1.c6)]) (nb rfl) rfl)) | (simp only [b6 hb]; exact (ld1 Tryd.isAgg3 ((I_8.bring 1).at1 (o := 0) (vs := [(vi x1.c6)]) (nb rfl) rfl))) | (simp only [b9 a8, b6 a8, b9 i8, b6 i8, b6 hb, o7 hb]; exact (ld1 Tryd.isAgg3 ((I_8.bring 1).at1 (o := 0) (vs := [(vi x1.c6)]) (nb rfl) rfl))) | (simp only [b9 a8, b6 a8, b9 i8, b6 i8, b6 hb, d8 hb, f8]; exact (ld1 Tryd.isAgg3 ((I_8.bring 1).at1 (o := 0) (vs := [(vi x1.c6)]) (nb rfl) rfl))))) ?_
  refine a7 (Pu.e (a2q _ _ _) (Pu.g fun hb => by obtain ⟨a8, i8⟩ := a3S hb; first | exact (d4 _ _ _ _ _ _) | (simp only [b6 hb]; exact (d4 _ _ _ _ _ _)) | (simp only [b9 a8, b6 a8, b9 i8, b6 i8, b6 hb, o7 hb]; exact (d4 _ _ _ _ _ _)) | (simp only [b9 a8, b6 a8, b9 i8, b6 i8, b6 hb, d8 hb, f8]; exact (d4 _ _ _ _ _ _)))) ?_
  refine a7 (Pu.g fun hb => by have a8 := hb; first | exact (E4 _ _) | (simp only [b6 a8, o7 a8]; exact (E4 _ _)) | (simp only [b6 a8, d8 a8]; exact (E4 _ _))) ?_
  refine a7 (m3 _ _) ?_
  refine a7 (j8 _) ?_
  refine a7 o0 ?_
  refine p7 I_8 Tryd.sizeOf4 (vs := [(Value.bool ((((G6.fok && (decide ((x1.d7.n : Int) = m0))) && (decide ((x1.i4.n : Int) = a0Q))) && (((decide ((x1.s6.n : Int) = 0)) || (decide (x1.c6 = 3))) || (decide (x1.c6 = 4)))) && ((decide ((x1.q8.n : Int) = 0)) || (decide (x1.c6 = 3)))))]) (cs' := [(Value.bool ((((G6.fok && (decide ((x1.d7.n : Int) = m0))) && (decide ((x1.i4.n : Int) = a0Q))) && (((decide ((x1.s6.n : Int) = 0)) || (decide (x1.c6 = 3))) || (decide (x1.c6 = 4)))) && ((decide ((x1.q8.n : Int) = 0)) || (decide (x1.c6 = 3))))), (Value.bool G6.fnames)]) rfl rfl (nb rfl) rfl rfl fun a4D b4C g6p => ?_
  have hj2 : ∀ (a4u : b7) (H : Hp) (w : World) (_ : Inv w0 ps0 H0 H [bx g0 102 (f4 a4u), bx g_2 88 (d6 x1)] w) (_ : Q1 a4u x1 H K), c5U (Value.pointer (some ⟨g0, 0, none⟩)) (Value.pointer (some ⟨g_2, 0, none⟩)) w R E := by
   intro a4u H w I h
   unfold c5U
   intro _
   unfold Q1 at h
   have hj3 : ∀ (a0G : b7) (H : Hp) (w : World) (_ : Inv w0 ps0 H0 H [bx g0 102 (f4 a0G), bx g_2 88 (d6 x1)] w) (_ : P9 a0G x1 H K), c5T (Value.pointer (some ⟨g0, 0, none⟩)) (Value.pointer (some ⟨g_2, 0, none⟩)) w R E := by
    intro a0G H w I h
    unfold c5T
    intro _
    unfold P9 at h
    have hj4 : ∀ (a6f : b7) (H : Hp) (w : World) (_ : Inv w0 ps0 H0 H [bx g0 102 (f4 a6f), bx g_2 88 (d6 x1)] w) (_ : P7 a6f x1 H K), c5S (Value.pointer (some ⟨g0, 0, none⟩)) (Value.pointer (some ⟨g_2, 0, none⟩)) w R E := by
     intro a6f H w I h
     unfold c5S
     intro _
     unfold P7 at h
     obtain ⟨d1p, c0g, g1X, g1Y⟩ := h
     refine p9 (J := fun n l w => ∃ (s : Int × b7) (H : Hp) , n = c0g s ∧ l = (match s with | (a7d, A0) => [(vi a7d)]) ∧ (match s with | (a7d, A0) => Inv w0 ps0 H0 H [bx g0 102 (f4 A0), bx g_2 88 (d6 x1)] w) ∧ d1p s H) ⟨_, (0, a6f), H, rfl, rfl, ((I.bring 1).bring 1), g1X⟩ ?_
     rintro g8R τ_113 w next5 ⟨⟨a7d, A0⟩, H, rfl, d1q, I, g1Z⟩ hn5
     dsimp only at d1q I
     simp only [List.map_cons, List.map_nil, List.cons.injEq, and_true] at d1q
     have e9 := d1q
     simp only [e9]
     obtain ⟨n5, hm5, h⟩ : ∃ n5 : (Int × b7) → Hp → Prop, (∀ s' H', n5 s' H' → d1p s' H' ∧ c0g s' < c0g (a7d, A0)) ∧ P6 x1 a7d A0 H n5 K := ⟨_, fun _ _ h => h, g1Y (a7d, A0) H (fun s' H' => d1p s' H' ∧ c0g s' < c0g (a7d, A0)) g1Z (fun _ _ a b => ⟨a, b⟩)⟩
     unfold d4K
     unfold P6 at h
     refine a7 M9 ?_
     refine c5 (ld1 Tryd.isAgg23 ((I.bring 1).at1 (o := 5) (vs := [(vs x1.q8)]) (nb rfl) rfl)) ?_
     refine a7 (D6 _ _ _) ?_
     refine a7 (o2 _ _ _ _ _ _) ?_
     try simp only [m1]
     refine a7 (Pu.g fun hb => by have a8 := hb; first | exact (j8 _) | (simp only [b6 a8]; exact (j8 _)) | (simp only [b9 a8, b6 a8, b6 hb, d8 a8, f8]; exact (j8 _))) ?_
     refine a7 (Pu.g fun hb => by have a8 := hb; first | exact o0 | (simp only [b6 a8]; exact o0) | (simp only [b9 a8, b6 a8, b6 hb, d8 a8, f8]; exact o0)) ?_
     refine c5 (Ld.g fun hb => by have a8 := hb; first | exact (ld1 Tryd.isAgg4 (I.at1 (o := 0) (vs := [(Value.bool A0.fok)]) (nb rfl) rfl)) | (simp only [b6 a8]; exact (ld1 Tryd.isAgg4 (I.at1 (o := 0) (vs := [(Value.bool A0.fok)]) (nb rfl) rfl))) | (simp only [b9 a8, b6 a8, b6 hb, d8 a8, f8]; exact (ld1 Tryd.isAgg4 (I.at1 (o := 0) (vs := [(Value.bool A0.fok)]) (nb rfl) rfl)))) ?_
     refine a7 (m3 _ _) ?_
     refine k8 (fun d1r => ?_) (fun d1r => ?_)
     ·replace h := h.1 d1r
      refine a7 M9 ?_
      refine c5 (ld1 Tryd.isAgg23 ((I.bring 1).at1 (o := 5) (vs := [(vs x1.q8)]) (nb rfl) rfl)) ?_
      obtain ⟨b8i, c5n, d1k, d8L, h⟩ := h
      obtain ⟨h2v, h2w, b8F, d8L⟩ := d8L
      refine a7 (a4O b8F _ _ _ _ b8i c5n) ?_
      refine c5 (ldA (vs := (d6 d1k)) Tryd.isAgg88 Tryd.sizeOf88 rfl (I.atH d8L)) ?_
      refine f6 (cap := []) (fun args w => Tryd.call65 args w) ?_
      refine i6 (Fi := [bx g0 102 (f4 A0)]) (Fr := [bx g_2 88 (d6 x1)]) I (h g0) (fun g8S d8J g8T h2x g2a d9Q g8U g2c => ?_) (fun _ _ _ _ _ q => q.elim)
      obtain ⟨c6v, rfl, rfl, h⟩ := g2c
      refine a7 (m4 _ _ _ _ _ _) ?_
      exact hn5 _ _ _ (hm5 _ _ h).2 ⟨((IntKind.wrap .i64 (a7d + 1)), c6v), d8J, rfl, rfl, ((g2a.bring 1).bring 1), (hm5 _ _ h).1⟩
     ·replace h := h.2 d1r
      exact hR A0 H _ (I.bring 1).drop h
    refine m6 fun j4 hx4 => ?_
    obtain ⟨d1s, c0h, g2d, g2e⟩ := h
    refine p9 (J := fun n l w => ∃ (s : Int × b7) (H : Hp) , n = c0h s ∧ l = (match s with | (Z2, L0) => [(vi Z2)]) ∧ (match s with | (Z2, L0) => Inv w0 ps0 H0 H [bx g0 102 (f4 L0), bx g_2 88 (d6 x1)] w) ∧ d1s s H) ⟨_, (0, a0G), H, rfl, rfl, ((I.bring 1).bring 1), g2d⟩ ?_
    rintro g8V τ_147 w next6 ⟨⟨Z2, L0⟩, H, rfl, d1t, I, g2f⟩ hn6
    dsimp only at d1t I
    simp only [List.map_cons, List.map_nil, List.cons.injEq, and_true] at d1t
    have e8 := d1t
    simp only [e8]
    obtain ⟨n6, hm6, h⟩ : ∃ n6 : (Int × b7) → Hp → Prop, (∀ s' H', n6 s' H' → d1s s' H' ∧ c0h s' < c0h (Z2, L0)) ∧ P8 x1 Z2 L0 H n6 K := ⟨_, fun _ _ h => h, g2e (Z2, L0) H (fun s' H' => d1s s' H' ∧ c0h s' < c0h (Z2, L0)) g2f (fun _ _ a b => ⟨a, b⟩)⟩
    unfold d4L
    unfold P8 at h
    refine a7 V8 ?_
    refine c5 (ld1 Tryd.isAgg23 ((I.bring 1).at1 (o := 4) (vs := [(vs x1.s6)]) (nb rfl) rfl)) ?_
    refine a7 (D6 _ _ _) ?_
    refine a7 (o2 _ _ _ _ _ _) ?_
    try simp only [m1]
    refine a7 (Pu.g fun hb => by have a8 := hb; first | exact (j8 _) | (simp only [b6 a8]; exact (j8 _)) | (simp only [b9 a8, b6 a8, b6 hb, d8 a8, f8]; exact (j8 _))) ?_
    refine a7 (Pu.g fun hb => by have a8 := hb; first | exact o0 | (simp only [b6 a8]; exact o0) | (simp only [b9 a8, b6 a8, b6 hb, d8 a8, f8]; exact o0)) ?_
    refine c5 (Ld.g fun hb => by have a8 := hb; first | exact (ld1 Tryd.isAgg4 (I.at1 (o := 0) (vs := [(Value.bool L0.fok)]) (nb rfl) rfl)) | (simp only [b6 a8]; exact (ld1 Tryd.isAgg4 (I.at1 (o := 0) (vs := [(Value.bool L0.fok)]) (nb rfl) rfl))) | (simp only [b9 a8, b6 a8, b6 hb, d8 a8, f8]; exact (ld1 Tryd.isAgg4 (I.at1 (o := 0) (vs := [(Value.bool L0.fok)]) (nb rfl) rfl)))) ?_
    refine a7 (m3 _ _) ?_
    refine k8 (fun d1u => ?_) (fun d1u => ?_)
    ·replace h := h.1 d1u
     refine a7 V8 ?_
     refine c5 (ld1 Tryd.isAgg23 ((I.bring 1).at1 (o := 4) (vs := [(vs x1.s6)]) (nb rfl) rfl)) ?_
     obtain ⟨b9K, g2g, c2B, d1v, h⟩ := h
     obtain ⟨g8W, g8X, g2h, d1v⟩ := d1v
     refine a7 (a4O g2h _ _ _ _ b9K g2g) ?_
     refine c5 (ldA (vs := (d6 c2B)) Tryd.isAgg88 Tryd.sizeOf88 rfl (I.atH d1v)) ?_
     refine f6 (cap := []) (fun args w => Tryd.call65 args w) ?_
     refine i6 (Fi := [bx g0 102 (f4 L0)]) (Fr := [bx g_2 88 (d6 x1)]) I (h g0) (fun g8Y d1l g2i g8Z g2j g9a g9b g2k => ?_) (fun _ _ _ _ _ q => q.elim)
     obtain ⟨c6w, rfl, rfl, h⟩ := g2k
     refine a7 (m4 _ _ _ _ _ _) ?_
     exact hn6 _ _ _ (hm6 _ _ h).2 ⟨((IntKind.wrap .i64 (Z2 + 1)), c6w), d1l, rfl, rfl, ((g2j.bring 1).bring 1), (hm6 _ _ h).1⟩
    ·replace h := h.2 d1u
     exact hx4 _ _ (hj4 L0 H _ ((I.bring 1).bring 1) h)
   refine m6 fun j3 hx3 => ?_
   obtain ⟨d1w, c0i, g2l, g2m⟩ := h
   refine p9 (J := fun n l w => ∃ (s : Int × b7) (H : Hp) , n = c0i s ∧ l = (match s with | (Z3, L1) => [(vi Z3)]) ∧ (match s with | (Z3, L1) => Inv w0 ps0 H0 H [bx g0 102 (f4 L1), bx g_2 88 (d6 x1)] w) ∧ d1w s H) ⟨_, (0, a4u), H, rfl, rfl, ((I.bring 1).bring 1), g2l⟩ ?_
   rintro g9c τ_181 w next7 ⟨⟨Z3, L1⟩, H, rfl, d1x, I, g2n⟩ hn7
   dsimp only at d1x I
   simp only [List.map_cons, List.map_nil, List.cons.injEq, and_true] at d1x
   have e7 := d1x
   simp only [e7]
   obtain ⟨n7, hm7, h⟩ : ∃ n7 : (Int × b7) → Hp → Prop, (∀ s' H', n7 s' H' → d1w s' H' ∧ c0i s' < c0i (Z3, L1)) ∧ Q0 x1 Z3 L1 H n7 K := ⟨_, fun _ _ h => h, g2m (Z3, L1) H (fun s' H' => d1w s' H' ∧ c0i s' < c0i (Z3, L1)) g2n (fun _ _ a b => ⟨a, b⟩)⟩
   unfold d4M
   unfold Q0 at h
   refine a7 R9 ?_
   refine c5 (ld1 Tryd.isAgg28 ((I.bring 1).at1 (o := 2) (vs := [(vs x1.d7)]) (nb rfl) rfl)) ?_
   refine a7 (v8 _ _ _) ?_
   refine a7 (o2 _ _ _ _ _ _) ?_
   try simp only [m1]
   refine a7 (Pu.g fun hb => by have a8 := hb; first | exact (j8 _) | (simp only [b6 a8]; exact (j8 _)) | (simp only [b9 a8, b6 a8, b6 hb, d8 a8, f8]; exact (j8 _))) ?_
   refine a7 (Pu.g fun hb => by have a8 := hb; first | exact o0 | (simp only [b6 a8]; exact o0) | (simp only [b9 a8, b6 a8, b6 hb, d8 a8, f8]; exact o0)) ?_
   refine c5 (Ld.g fun hb => by have a8 := hb; first | exact (ld1 Tryd.isAgg4 (I.at1 (o := 0) (vs := [(Value.bool L1.fok)]) (nb rfl) rfl)) | (simp only [b6 a8]; exact (ld1 Tryd.isAgg4 (I.at1 (o := 0) (vs := [(Value.bool L1.fok)]) (nb rfl) rfl))) | (simp only [b9 a8, b6 a8, b6 hb, d8 a8, f8]; exact (ld1 Tryd.isAgg4 (I.at1 (o := 0) (vs := [(Value.bool L1.fok)]) (nb rfl) rfl)))) ?_
   refine a7 (m3 _ _) ?_
   refine k8 (fun d1y => ?_) (fun d1y => ?_)
   ·replace h := h.1 d1y
    refine a7 R9 ?_
    refine c5 (ld1 Tryd.isAgg28 ((I.bring 1).at1 (o := 2) (vs := [(vs x1.d7)]) (nb rfl) rfl)) ?_
    obtain ⟨b9M, g2o, c2C, d1z, h⟩ := h
    obtain ⟨g9d, g9e, g2p, d1z⟩ := d1z
    refine a7 (a1M g2p _ _ _ _ b9M g2o) ?_
    refine c5 (ldA (vs := (d9 c2C)) Tryd.isAgg30 Tryd.sizeOf30 rfl (I.atH d1z)) ?_
    refine f6 (cap := []) (fun args w => Tryd.call59 args w) ?_
    refine i6 (Fi := [bx g0 102 (f4 L1)]) (Fr := [bx g_2 88 (d6 x1)]) I (h g0) (fun g9f d1m g9g g9h g2q g9i g9j g2r => ?_) (fun _ _ _ _ _ q => q.elim)
    obtain ⟨c6x, rfl, rfl, h⟩ := g2r
    refine a7 (m4 _ _ _ _ _ _) ?_
    exact hn7 _ _ _ (hm7 _ _ h).2 ⟨((IntKind.wrap .i64 (Z3 + 1)), c6x), d1m, rfl, rfl, ((g2q.bring 1).bring 1), (hm7 _ _ h).1⟩
   ·replace h := h.2 d1y
    exact hx3 _ _ (hj3 L1 H _ ((I.bring 1).bring 1) h)
  refine m6 fun j2 hx2 => ?_
  obtain ⟨d1A, c0j, g2s, g2t⟩ := h
  refine p9 (J := fun n l w => ∃ (s : Int × b7) (H : Hp) , n = c0j s ∧ l = (match s with | (a7e, a4d) => [(vi a7e)]) ∧ (match s with | (a7e, a4d) => Inv w0 ps0 H0 H [bx g0 102 (f4 a4d), bx g_2 88 (d6 x1)] w) ∧ d1A s H) ⟨_, (0, (b7.mk ((((G6.fok && (decide ((x1.d7.n : Int) = m0))) && (decide ((x1.i4.n : Int) = a0Q))) && (((decide ((x1.s6.n : Int) = 0)) || (decide (x1.c6 = 3))) || (decide (x1.c6 = 4)))) && ((decide ((x1.q8.n : Int) = 0)) || (decide (x1.c6 = 3)))) G6.fnames)), H_6, rfl, rfl, ((b4C.bring 1).bring 1), g2s⟩ ?_
  rintro g9k τ_215 w next8 ⟨⟨a7e, a4d⟩, H, rfl, d1B, I, g2u⟩ hn8
  dsimp only at d1B I
  simp only [List.map_cons, List.map_nil, List.cons.injEq, and_true] at d1B
  have e6 := d1B
  simp only [e6]
  obtain ⟨n8, hm8, h⟩ : ∃ n8 : (Int × b7) → Hp → Prop, (∀ s' H', n8 s' H' → d1A s' H' ∧ c0j s' < c0j (a7e, a4d)) ∧ Q2 x1 a7e a4d H n8 K := ⟨_, fun _ _ h => h, g2t (a7e, a4d) H (fun s' H' => d1A s' H' ∧ c0j s' < c0j (a7e, a4d)) g2u (fun _ _ a b => ⟨a, b⟩)⟩
  unfold d4N
  unfold Q2 at h
  refine a7 S1 ?_
  refine c5 (ld1 Tryd.isAgg31 ((I.bring 1).at1 (o := 3) (vs := [(vs x1.i4)]) (nb rfl) rfl)) ?_
  refine a7 (H8 _ _ _) ?_
  refine a7 (o2 _ _ _ _ _ _) ?_
  try simp only [m1]
  refine a7 (Pu.g fun hb => by have a8 := hb; first | exact (j8 _) | (simp only [b6 a8]; exact (j8 _)) | (simp only [b9 a8, b6 a8, b6 hb, d8 a8, f8]; exact (j8 _))) ?_
  refine a7 (Pu.g fun hb => by have a8 := hb; first | exact o0 | (simp only [b6 a8]; exact o0) | (simp only [b9 a8, b6 a8, b6 hb, d8 a8, f8]; exact o0)) ?_
  refine c5 (Ld.g fun hb => by have a8 := hb; first | exact (ld1 Tryd.isAgg4 (I.at1 (o := 0) (vs := [(Value.bool a4d.fok)]) (nb rfl) rfl)) | (simp only [b6 a8]; exact (ld1 Tryd.isAgg4 (I.at1 (o := 0) (vs := [(Value.bool a4d.fok)]) (nb rfl) rfl))) | (simp only [b9 a8, b6 a8, b6 hb, d8 a8, f8]; exact (ld1 Tryd.isAgg4 (I.at1 (o := 0) (vs := [(Value.bool a4d.fok)]) (nb rfl) rfl)))) ?_
  refine a7 (m3 _ _) ?_
  refine k8 (fun d1C => ?_) (fun d1C => ?_)
  ·replace h := h.1 d1C
   refine a7 S1 ?_
   refine c5 (ld1 Tryd.isAgg31 ((I.bring 1).at1 (o := 3) (vs := [(vs x1.i4)]) (nb rfl) rfl)) ?_
   obtain ⟨b9O, g2v, c2D, d1D, h⟩ := h
   obtain ⟨g9l, g9m, g2w, d1D⟩ := d1D
   refine a7 (a4N g2w _ _ _ _ b9O g2v) ?_
   refine c5 (ldA (vs := (f5 c2D)) Tryd.isAgg33 Tryd.sizeOf33 rfl (I.atH d1D)) ?_
   refine f6 (cap := []) (fun args w => Tryd.call62 args w) ?_
   refine i6 (Fi := [bx g0 102 (f4 a4d)]) (Fr := [bx g_2 88 (d6 x1)]) I (h g0) (fun g9n d1n g9o g9p g2x g9q g9r g2y => ?_) (fun _ _ _ _ _ q => q.elim)
   obtain ⟨c6y, rfl, rfl, h⟩ := g2y
   refine a7 (m4 _ _ _ _ _ _) ?_
   exact hn8 _ _ _ (hm8 _ _ h).2 ⟨((IntKind.wrap .i64 (a7e + 1)), c6y), d1n, rfl, rfl, ((g2x.bring 1).bring 1), (hm8 _ _ h).1⟩
  ·replace h := h.2 d1C
   exact hx2 _ _ (hj2 a4d H _ ((I.bring 1).bring 1) h)
 refine m6 fun j1 hx1 => ?_
 refine a7 B6 ?_
 refine c5 (ld1 Tryd.isAgg3 (I_4.at1 (o := 0) (vs := [(vi x1.c6)]) (nb rfl) rfl)) ?_
 refine a7 (d4 _ _ _ _ _ _) ?_
 refine g6 (fun d1E => ?_) (fun d1E => ?_)
 ·replace h := h.1 d1E
  exact hx1 _ _ (hj1 1 0 x0 H _ ((I_4.bring 1).bring 1) h)
 ·replace h := h.2 d1E
  refine a7 (d4 _ _ _ _ _ _) ?_
  refine g6 (fun d1F => ?_) (fun d1F => ?_)
  ·replace h := h.1 d1F
   exact hx1 _ _ (hj1 2 0 x0 H _ ((I_4.bring 1).bring 1) h)
  ·replace h := h.2 d1F
   have hj9 : ∀ (b7j : Bool) (H : Hp) (w : World) (_ : Inv w0 ps0 H0 H [bx g_2 88 (d6 x1), bx g0 102 (f4 x0)] w) (_ : w6 0 0 x1.c6 b7j x1 x0 H K), c6b (Value.pointer (some ⟨g0, 0, none⟩)) (Value.pointer (some ⟨g_2, 0, none⟩)) (vi 0) (vi 0) (vi x1.c6) (Value.bool b7j) w j1 R E := by
    intro b7j H w I h
    unfold c6b
    intro _
    unfold w6 at h
    refine k8 (fun d1G => ?_) (fun d1G => ?_)
    ·replace h := h.1 d1G
     exact hx1 _ _ (hj1 0 1 x0 H _ ((I.bring 1).bring 1) h)
    ·replace h := h.2 d1G
     refine a7 (d4 _ _ _ _ _ _) ?_
     refine g6 (fun d1H => ?_) (fun d1H => ?_)
     ·replace h := h.1 d1H
      exact hx1 _ _ (hj1 0 0 x0 H _ ((I.bring 1).bring 1) h)
     ·replace h := h.2 d1H
      refine a7 (j8 _) ?_
      refine a7 o0 ?_
      refine p7 (I.bring 1) Tryd.sizeOf4 (vs := [(Value.bool false)]) (cs' := [(Value.bool false), (Value.bool x0.fnames)]) rfl rfl (nb rfl) rfl rfl fun d9W g2z g9s => ?_
      exact hx1 _ _ (hj1 0 0 (b7.mk false x0.fnames) H _ (g2z.bring 1) h)
   refine m6 fun j9 hx9 => ?_
   refine a7 (d4 _ _ _ _ _ _) ?_
   refine g6 (fun d1I => ?_) (fun d1I => ?_)
   ·replace h := h.1 d1I
    exact hx9 _ _ (hj9 (decide (x1.c6 = 3)) H _ ((I_4.bring 1).bring 1) h)
   ·replace h := h.2 d1I
    refine a7 (d4 _ _ _ _ _ _) ?_
    refine g6 (fun d1J => ?_) (fun d1J => ?_)
    ·replace h := h.1 d1J
     exact hx9 _ _ (hj9 (decide (x1.c6 = 4)) H _ ((I_4.bring 1).bring 1) h)
    ·replace h := h.2 d1J
     refine a7 (d4 _ _ _ _ _ _) ?_
     refine g6 (fun d1K => ?_) (fun d1K => ?_)
     ·replace h := h.1 d1K
      exact hx9 _ _ (hj9 (decide (x1.c6 = 5)) H _ ((I_4.bring 1).bring 1) h)
     ·replace h := h.2 d1K
      refine a7 (d4 _ _ _ _ _ _) ?_
      exact hx9 _ _ (hj9 (decide (x1.c6 = 6)) H _ ((I_4.bring 1).bring 1) h)
theorem a8M (x0 : b7) (x1 : i5) {H : Hp} {K : b7 → Hp → Prop} (h : U2 x0 x1 H K) : M5 x0 x1 H K := by
 intro g0 w I
 refine f4k ?_
 refine a8u x0 x1 g0 I (fun y0 H' w' I' hk => ⟨H', _, I', y0, rfl, rfl, hk⟩) h
def W4 (cr_23j2 : b7) (_cr_15j2 : b8) (_cr_1j2 : k5) (H : Hp) (K : Int → Hp → Prop) : Prop :=
 a1t cr_23j2 H (fun (d1L : Int) (d8M : Hp) =>
 K d1L d8M)
def W5 (cr_15l3 : b8) (cr_1l3 : k5) (I1 : Int) (cr_23l3 : b7) (H : Hp) (n3 : (Int × b7) → Hp → Prop) (K : Int → Hp → Prop) : Prop :=
 (((decide (I1 < (cr_1l3.a0V.n : Int))) && cr_23l3.fok) = true →
 (0 : Int) ≤ I1 ∧ (I1 : Int) < cr_1l3.a0V.n ∧ ∃ d1M : i5, EltH H cr_1l3.a0V I1 6 (d6 d1M) ∧
 M5 cr_23l3 d1M H (fun (c6z : b7) (d1N : Hp) =>
 n3 ((IntKind.wrap .i64 (I1 + 1)), c6z) d1N)) ∧
 (((decide (I1 < (cr_1l3.a0V.n : Int))) && cr_23l3.fok) = false →
 W4 cr_23l3 cr_15l3 cr_1l3 H K)
def W6 (cr_23j1 : b7) (cr_15j1 : b8) (cr_1j1 : k5) (H : Hp) (K : Int → Hp → Prop) : Prop :=
 TL ((0, cr_23j1) : Int × b7) H fun (s : Int × b7) H n3 => W5 cr_15j1 cr_1j1 s.1 s.2 H n3 K
def W7 (cr_15l4 : b8) (cr_1l4 : k5) (Q6 : Int) (cr_23l4 : b7) (H : Hp) (n4 : (Int × b7) → Hp → Prop) (K : Int → Hp → Prop) : Prop :=
 (Q6 < (cr_1l4.D3.n : Int) →
 ∃ a9t : E8, (cr_23l4.fok = true → (0 : Int) ≤ Q6 ∧ (Q6 : Int) < cr_1l4.D3.n ∧ EltH H cr_1l4.D3 Q6 2 (p5 a9t)) ∧
 ∃ b0r : E8, ((cr_23l4.fok && (decide (0 ≤ a9t.I8))) = true → (0 : Int) ≤ Q6 ∧ (Q6 : Int) < cr_1l4.D3.n ∧ EltH H cr_1l4.D3 Q6 2 (p5 b0r)) ∧
 (0 : Int) ≤ Q6 ∧ (Q6 : Int) < cr_1l4.D3.n ∧ ∃ c2E : E8, EltH H cr_1l4.D3 Q6 2 (p5 c2E) ∧
 M3 (b7.mk ((cr_23l4.fok && (decide (0 ≤ a9t.I8))) && (decide (b0r.I8 ≤ 2147483647))) cr_23l4.fnames) c2E.k9 true H (fun (c6A : b7) (d1O : Hp) =>
 n4 ((IntKind.wrap .i64 (Q6 + 1)), c6A) d1O)) ∧
 (¬ (Q6 < (cr_1l4.D3.n : Int)) →
 W6 cr_23l4 cr_15l4 cr_1l4 H K)
def a0K (x0 : k5) (H : Hp) (K : Int → Hp → Prop) : Prop :=
 a2E x0 H (fun (o9 : b8) (H_6 : Hp) =>
 (¬ (o9.fbad = 0) →
 K o9.fbad H_6) ∧
 (o9.fbad = 0 →
 TL ((0, (b7.mk true true)) : Int × b7) H_6 fun (s : Int × b7) H n4 => W7 o9 x0 s.1 s.2 H n4 K))
theorem a9W (x0 : k5) {w0 w : World} {ps0 : Nat → Prop} {H0 H : Hp} {K : Int → Hp → Prop} {R : Value → World → Prop} {E : Pan} (I : Inv w0 ps0 H0 H [] w) (hR : ∀ (r0 : Int) (H' : Hp) (w' : World) (_ : Inv w0 ps0 H0 H' [] w') (_ : K r0 H'), R (vi r0) w') (h : a0K x0 H K) : F23 (Value.agg (f9 x0).toArray) w R E := by
 unfold a0K at h
 unfold F23
 refine J4 I (cs := (f9 x0)) rfl fun g_2 w_3 I_4 k_5 => ?_
 refine c5 (ldA Tryd.isAgg25 Tryd.sizeOf25 rfl (I_4.at1 (o := 0) (vs := (f9 x0)) (nb rfl) rfl)) ?_
 refine f6 (cap := []) (fun args w => Tryd.call63 args w) ?_
 refine i6 (Fi := []) (Fr := [bx g_2 25 (f9 x0)]) I_4 (h) (fun a5D H_6 a5E w_7 I_8 a4J k_9 R3 => ?_) (fun _ _ _ _ _ q => q.elim)
 obtain ⟨o9, rfl, rfl, h⟩ := R3
 refine G4 I_8 Tryd.zeroValue99 (cs := [(vi 0), (vi 0), (vi 0)]) rfl fun a2F a4G a3s b7R => ?_
 refine p7 a3s Tryd.sizeOf99 (vs := (d5 o9)) (cs' := (d5 o9)) rfl rfl (nb rfl) rfl rfl fun o4 a5g b6h => ?_
 refine a7 s7 ?_
 refine c5 (ld1 Tryd.isAgg3 (a5g.at1 (o := 2) (vs := [(vi o9.fbad)]) (nb rfl) rfl)) ?_
 refine a7 (F6 _ _ _ _ _ _) ?_
 refine a8O (fun d1P => ?_) (fun d1P => ?_)
 ·replace h := h.1 d1P
  refine a7 s7 ?_
  refine c5 (ld1 Tryd.isAgg3 (a5g.at1 (o := 2) (vs := [(vi o9.fbad)]) (nb rfl) rfl)) ?_
  exact hR o9.fbad H_6 _ a5g.drop.drop h
 ·replace h := h.2 d1P
  refine a7 (c0H _ _) ?_
  refine G4 a5g Tryd.zeroValue102 (cs := [(Value.bool false), (Value.bool false)]) rfl fun b1I a4F b4G d8N => ?_
  refine p7 b4G Tryd.sizeOf102 (vs := [(Value.bool true), (Value.bool true)]) (cs' := [(Value.bool true), (Value.bool true)]) rfl rfl (nb rfl) rfl rfl fun w9 g6C h2y => ?_
  have hj1 : ∀ (cr_23j1 : b7) (H : Hp) (w : World) (_ : Inv w0 ps0 H0 H [bx b1I 102 (f4 cr_23j1), bx a2F 99 (d5 o9), bx g_2 25 (f9 x0)] w) (_ : W6 cr_23j1 o9 x0 H K), c5A (Value.pointer (some ⟨g_2, 0, none⟩)) (Value.pointer (some ⟨b1I, 0, none⟩)) w R E := by
   intro cr_23j1 H w I h
   unfold c5A
   intro _
   unfold W6 at h
   have hj2 : ∀ (cr_23j2 : b7) (H : Hp) (w : World) (_ : Inv w0 ps0 H0 H [bx b1I 102 (f4 cr_23j2), bx a2F 99 (d5 o9), bx g_2 25 (f9 x0)] w) (_ : W4 cr_23j2 o9 x0 H K), c5y (Value.pointer (some ⟨b1I, 0, none⟩)) w R E := by
    intro cr_23j2 H w I h
    unfold c5y
    intro _
    unfold W4 at h
    refine c5 (ldA Tryd.isAgg102 Tryd.sizeOf102 rfl (I.at1 (o := 0) (vs := (f4 cr_23j2)) (nb rfl) rfl)) ?_
    refine f6 (cap := []) (fun args w => Tryd.call60 args w) ?_
    refine i6 (Fi := []) (Fr := [bx b1I 102 (f4 cr_23j2), bx a2F 99 (d5 o9), bx g_2 25 (f9 x0)]) I (h) (fun h2z d8M h2A g6D d8O f5w g6E g6F => ?_) (fun _ _ _ _ _ q => q.elim)
    obtain ⟨d1L, rfl, rfl, h⟩ := g6F
    exact hR d1L d8M _ d8O.drop.drop.drop h
   refine m6 fun j2 hx2 => ?_
   obtain ⟨b4H, a8v, d1Q, d1R⟩ := h
   refine p9 (J := fun n l w => ∃ (s : Int × b7) (H : Hp) , n = a8v s ∧ l = (match s with | (I1, cr_23l3) => [(vi I1)]) ∧ (match s with | (I1, cr_23l3) => Inv w0 ps0 H0 H [bx b1I 102 (f4 cr_23l3), bx a2F 99 (d5 o9), bx g_2 25 (f9 x0)] w) ∧ b4H s H) ⟨_, (0, cr_23j1), H, rfl, rfl, (((I.bring 2).bring 2).bring 2), d1Q⟩ ?_
   rintro g2A τ_120 w next3 ⟨⟨I1, cr_23l3⟩, H, rfl, b2p, I, d1S⟩ hn3
   dsimp only at b2p I
   simp only [List.map_cons, List.map_nil, List.cons.injEq, and_true] at b2p
   have e6 := b2p
   simp only [e6]
   obtain ⟨n3, hm3, h⟩ : ∃ n3 : (Int × b7) → Hp → Prop, (∀ s' H', n3 s' H' → b4H s' H' ∧ a8v s' < a8v (I1, cr_23l3)) ∧ W5 o9 x0 I1 cr_23l3 H n3 K := ⟨_, fun _ _ h => h, d1R (I1, cr_23l3) H (fun s' H' => b4H s' H' ∧ a8v s' < a8v (I1, cr_23l3)) d1S (fun _ _ a b => ⟨a, b⟩)⟩
   unfold d4E
   unfold W5 at h
   refine a7 a4M ?_
   refine c5 (ld1 Tryd.isAgg23 ((I.bring 2).at1 (o := 1) (vs := [(vs x0.a0V)]) (nb rfl) rfl)) ?_
   refine a7 (D6 _ _ _) ?_
   refine a7 (o2 _ _ _ _ _ _) ?_
   refine a7 (Pu.g fun hb => by have a8 := hb; first | exact o0 | (simp only [b9 a8, b6 a8, b6 hb, o7 a8]; exact o0) | (simp only [b9 a8, b6 a8, b6 hb, d8 a8, f8]; exact o0)) ?_
   refine c5 (Ld.g fun hb => by have a8 := hb; first | exact (ld1 Tryd.isAgg4 (I.at1 (o := 0) (vs := [(Value.bool cr_23l3.fok)]) (nb rfl) rfl)) | (simp only [b6 a8]; exact (ld1 Tryd.isAgg4 (I.at1 (o := 0) (vs := [(Value.bool cr_23l3.fok)]) (nb rfl) rfl))) | (simp only [b9 a8, b6 a8, b6 hb, d8 a8, f8]; exact (ld1 Tryd.isAgg4 (I.at1 (o := 0) (vs := [(Value.bool cr_23l3.fok)]) (nb rfl) rfl)))) ?_
   refine a7 (m3 _ _) ?_
   refine k8 (fun a8t => ?_) (fun a8t => ?_)
   ·replace h := h.1 a8t
    refine a7 a4M ?_
    refine c5 (ld1 Tryd.isAgg23 ((I.bring 2).at1 (o := 1) (vs := [(vs x0.a0V)]) (nb rfl) rfl)) ?_
    obtain ⟨d1T, d1U, d1M, c0k, h⟩ := h
    obtain ⟨h2B, g9t, d1V, c0k⟩ := c0k
    refine a7 (a4O d1V _ _ _ _ d1T d1U) ?_
    refine c5 (ldA (vs := (d6 d1M)) Tryd.isAgg88 Tryd.sizeOf88 rfl (I.atH c0k)) ?_
    refine f6 (cap := []) (fun args w => Tryd.call65 args w) ?_
    refine i6 (Fi := [bx b1I 102 (f4 cr_23l3)]) (Fr := [bx a2F 99 (d5 o9), bx g_2 25 (f9 x0)]) I (h b1I) (fun g9u d1N g9v a2s g2B g9w g9x g2C => ?_) (fun _ _ _ _ _ q => q.elim)
    obtain ⟨c6z, rfl, rfl, h⟩ := g2C
    refine a7 (m4 _ _ _ _ _ _) ?_
    exact hn3 _ _ _ (hm3 _ _ h).2 ⟨((IntKind.wrap .i64 (I1 + 1)), c6z), d1N, rfl, rfl, (((g2B.bring 2).bring 2).bring 2), (hm3 _ _ h).1⟩
   ·replace h := h.2 a8t
    exact hx2 _ _ (hj2 cr_23l3 H _ (((I.bring 2).bring 2).bring 2) h)
  refine m6 fun j1 hx1 => ?_
  obtain ⟨d1W, c0l, g2D, g2E⟩ := h
  refine p9 (J := fun n l w => ∃ (s : Int × b7) (H : Hp) , n = c0l s ∧ l = (match s with | (Q6, cr_23l4) => [(vi Q6)]) ∧ (match s with | (Q6, cr_23l4) => Inv w0 ps0 H0 H [bx b1I 102 (f4 cr_23l4), bx a2F 99 (d5 o9), bx g_2 25 (f9 x0)] w) ∧ d1W s H) ⟨_, (0, (b7.mk true true)), H_6, rfl, rfl, (((g6C.bring 2).bring 2).bring 2), g2D⟩ ?_
  rintro g9y τ_171 w next4 ⟨⟨Q6, cr_23l4⟩, H, rfl, d1X, I, g2F⟩ hn4
  dsimp only at d1X I
  simp only [List.map_cons, List.map_nil, List.cons.injEq, and_true] at d1X
  have e5 := d1X
  simp only [e5]
  obtain ⟨n4, hm4, h⟩ : ∃ n4 : (Int × b7) → Hp → Prop, (∀ s' H', n4 s' H' → d1W s' H' ∧ c0l s' < c0l (Q6, cr_23l4)) ∧ W7 o9 x0 Q6 cr_23l4 H n4 K := ⟨_, fun _ _ h => h, g2E (Q6, cr_23l4) H (fun s' H' => d1W s' H' ∧ c0l s' < c0l (Q6, cr_23l4)) g2F (fun _ _ a b => ⟨a, b⟩)⟩
  unfold d4F
  unfold W7 at h
  refine a7 R5 ?_
  refine c5 (ld1 Tryd.isAgg22 ((I.bring 2).at1 (o := 0) (vs := [(vs x0.D3)]) (nb rfl) rfl)) ?_
  refine a7 (a9x _ _ _) ?_
  refine a7 (o2 _ _ _ _ _ _) ?_
  refine g6 (fun d1Y => ?_) (fun d1Y => ?_)
  ·replace h := h.1 d1Y
   refine a7 o0 ?_
   refine c5 (ld1 Tryd.isAgg4 (I.at1 (o := 0) (vs := [(Value.bool cr_23l4.fok)]) (nb rfl) rfl)) ?_
   refine a7 (Pu.g fun hb => by have a8 := hb; first | exact R5 | (simp only [b9 a8, b6 a8, b6 hb, o7 a8]; exact R5) | (simp only [b9 a8, b6 a8, b6 hb, d8 a8, f8]; exact R5)) ?_
   refine c5 (Ld.g fun hb => by have a8 := hb; first | exact (ld1 Tryd.isAgg22 ((I.bring 2).at1 (o := 0) (vs := [(vs x0.D3)]) (nb rfl) rfl)) | (simp only [b6 a8]; exact (ld1 Tryd.isAgg22 ((I.bring 2).at1 (o := 0) (vs := [(vs x0.D3)]) (nb rfl) rfl))) | (simp only [b9 a8, b6 a8, b6 hb, d8 a8, f8]; exact (ld1 Tryd.isAgg22 ((I.bring 2).at1 (o := 0) (vs := [(vs x0.D3)]) (nb rfl) rfl)))) ?_
   try simp only [m1]
   obtain ⟨a9t, a5J, h⟩ := h
   obtain ⟨g9z, g9A, a5J⟩ := d9E a5J
   refine a7 (Pu.g fun hb => by have a8 := hb; first | exact (a3h (a5J hb).2.2.1 _ _ _ _ (a5J hb).1 (a5J hb).2.1) | (simp only [b6 a8]; exact (a3h (a5J hb).2.2.1 _ _ _ _ (a5J hb).1 (a5J hb).2.1)) | (simp only [b9 a8, b6 a8, b6 hb, d8 a8, f8]; exact (a3h (a5J hb).2.2.1 _ _ _ _ (a5J hb).1 (a5J hb).2.1))) ?_
   refine a7 (Pu.g fun hb => by have a8 := hb; first | exact Z6 | (simp only [b6 a8]; exact Z6) | (simp only [b9 a8, b6 a8, b6 hb, d8 a8, f8]; exact Z6)) ?_
   refine c5 (Ld.g fun hb => by have a8 := hb; first | exact (ld1 (v := (vi a9t.I8)) Tryd.isAgg3 ((I.atH (a5J hb).2.2.2).sub (k := 1) (n := 1) (nb rfl))) | (simp only [b6 a8]; exact (ld1 (v := (vi a9t.I8)) Tryd.isAgg3 ((I.atH (a5J hb).2.2.2).sub (k := 1) (n := 1) (nb rfl)))) | (simp only [b9 a8, b6 a8, b6 hb, d8 a8, f8]; exact (ld1 (v := (vi a9t.I8)) Tryd.isAgg3 ((I.atH (a5J hb).2.2.2).sub (k := 1) (n := 1) (nb rfl))))) ?_
   refine a7 (Pu.g fun hb => by have a8 := hb; first | exact (a0B _ _ _ _ _ _) | (simp only [b6 a8]; exact (a0B _ _ _ _ _ _)) | (simp only [b9 a8, b6 a8, b6 hb, d8 a8, f8]; exact (a0B _ _ _ _ _ _))) ?_
   refine a7 (m3 _ _) ?_
   refine a7 (Pu.g fun hb => by have a8 := hb; first | exact R5 | (simp only [b9 a8, b6 a8, b6 hb, o7 a8]; exact R5) | (simp only [b9 a8, b6 a8, b6 hb, d8 a8, f8]; exact R5)) ?_
   refine c5 (Ld.g fun hb => by have a8 := hb; first | exact (ld1 Tryd.isAgg22 ((I.bring 2).at1 (o := 0) (vs := [(vs x0.D3)]) (nb rfl) rfl)) | (simp only [b6 a8]; exact (ld1 Tryd.isAgg22 ((I.bring 2).at1 (o := 0) (vs := [(vs x0.D3)]) (nb rfl) rfl))) | (simp only [b9 a8, b6 a8, b6 hb, d8 a8, f8]; exact (ld1 Tryd.isAgg22 ((I.bring 2).at1 (o := 0) (vs := [(vs x0.D3)]) (nb rfl) rfl)))) ?_
   try simp only [m1]
   obtain ⟨b0r, a4x, h⟩ := h
   obtain ⟨g9B, g9C, a4x⟩ := d9E a4x
   refine a7 (Pu.g fun hb => by have a8 := hb; first | exact (a3h (a4x hb).2.2.1 _ _ _ _ (a4x hb).1 (a4x hb).2.1) | (simp only [b6 a8]; exact (a3h (a4x hb).2.2.1 _ _ _ _ (a4x hb).1 (a4x hb).2.1)) | (simp only [b9 a8, b6 a8, b6 hb, d8 a8, f8]; exact (a3h (a4x hb).2.2.1 _ _ _ _ (a4x hb).1 (a4x hb).2.1))) ?_
   refine a7 (Pu.g fun hb => by have a8 := hb; first | exact Z6 | (simp only [b6 a8]; exact Z6) | (simp only [b9 a8, b6 a8, b6 hb, d8 a8, f8]; exact Z6)) ?_
   refine c5 (Ld.g fun hb => by have a8 := hb; first | exact (ld1 (v := (vi b0r.I8)) Tryd.isAgg3 ((I.atH (a4x hb).2.2.2).sub (k := 1) (n := 1) (nb rfl))) | (simp only [b6 a8]; exact (ld1 (v := (vi b0r.I8)) Tryd.isAgg3 ((I.atH (a4x hb).2.2.2).sub (k := 1) (n := 1) (nb rfl)))) | (simp only [b9 a8, b6 a8, b6 hb, d8 a8, f8]; exact (ld1 (v := (vi b0r.I8)) Tryd.isAgg3 ((I.atH (a4x hb).2.2.2).sub (k := 1) (n := 1) (nb rfl))))) ?_
   refine a7 (Pu.g fun hb => by have a8 := hb; first | exact (a0A _ _ _ _ _ _) | (simp only [b6 a8]; exact (a0A _ _ _ _ _ _)) | (simp only [b9 a8, b6 a8, b6 hb, d8 a8, f8]; exact (a0A _ _ _ _ _ _))) ?_
   refine a7 (m3 _ _) ?_
   refine a7 o0 ?_
   refine p7 I Tryd.sizeOf4 (vs := [(Value.bool ((cr_23l4.fok && (decide (0 ≤ a9t.I8))) && (decide (b0r.I8 ≤ 2147483647))))]) (cs' := [(Value.bool ((cr_23l4.fok && (decide (0 ≤ a9t.I8))) && (decide (b0r.I8 ≤ 2147483647)))), (Value.bool cr_23l4.fnames)]) rfl rfl (nb rfl) rfl rfl fun a9o d1Z g9D => ?_
   refine a7 R5 ?_
   refine c5 (ld1 Tryd.isAgg22 ((d1Z.bring 2).at1 (o := 0) (vs := [(vs x0.D3)]) (nb rfl) rfl)) ?_
   obtain ⟨g2G, g2H, c2E, d2a, h⟩ := h
   obtain ⟨g9E, g9F, g2I, d2a⟩ := d2a
   refine a7 (a3h g2I _ _ _ _ g2G g2H) ?_
   refine a7 b0d ?_
   refine c5 (ld1 (v := (Value.string c2E.k9)) Tryd.isAgg9 ((d1Z.atH d2a).sub (k := 0) (n := 1) (nb rfl))) ?_
   refine f6 (cap := []) (fun args w => Tryd.call64 args w) ?_
   refine i6 (Fi := [bx b1I 102 [(Value.bool ((cr_23l4.fok && (decide (0 ≤ a9t.I8))) && (decide (b0r.I8 ≤ 2147483647)))), (Value.bool cr_23l4.fnames)]]) (Fr := [bx a2F 99 (d5 o9), bx g_2 25 (f9 x0)]) d1Z (h b1I) (fun g9G d1O g9H g9I g2J g9J g9K g2K => ?_) (fun _ _ _ _ _ q => q.elim)
   obtain ⟨c6A, rfl, rfl, h⟩ := g2K
   refine a7 (m4 _ _ _ _ _ _) ?_
   exact hn4 _ _ _ (hm4 _ _ h).2 ⟨((IntKind.wrap .i64 (Q6 + 1)), c6A), d1O, rfl, rfl, (((g2J.bring 2).bring 2).bring 2), (hm4 _ _ h).1⟩
  ·replace h := h.2 d1Y
   exact hx1 _ _ (hj1 cr_23l4 H _ (((I.bring 2).bring 2).bring 2) h)
theorem b0s (x0 : k5) {H : Hp} {K : Int → Hp → Prop} (h : a0K x0 H K) : a2P x0 H K := by
 intro w I
 refine f2o ?_
 refine a9W x0 I (fun r0 H' w' I' hk => ⟨H', _, I', r0, rfl, rfl, hk⟩) h
end Go.Proofs.YthldnpmfelniiaaDoor
