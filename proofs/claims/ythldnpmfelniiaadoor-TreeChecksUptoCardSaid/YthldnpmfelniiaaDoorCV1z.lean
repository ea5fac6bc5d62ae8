/- Typed formulas of the program's functions that few laws need; printed by lift.py off the code. -/
import Derived.Test.YthldnpmfelniiaaDoorCV1
import Derived.Test.YthldnpmfelniiaaDoorCG1z
namespace Go.Proofs.YthldnpmfelniiaaDoor
open Go.RowKit
set_option maxRecDepth 100000
set_option maxHeartbeats 2000000
def a0i (g3N : Int) (f5o : Int) (a5G : Int) (H : Hp) (K : Int → Int → Bool → Hp → Prop) : Prop :=
 ((((decide (a5G < f5o)) || (decide (1114111 < a5G))) || ((decide (55296 ≤ a5G)) && (decide (a5G < 57344)))) = true →
 K 65533 1 false H) ∧
 ((((decide (a5G < f5o)) || (decide (1114111 < a5G))) || ((decide (55296 ≤ a5G)) && (decide (a5G < 57344)))) = false →
 K a5G g3N true H)
def a0j (a9i : ByteArray) (a6t : Int) (d7F : Int) (g3O : Int) (a6E : Int) (W2 : Int) (H : Hp) (n3 : (Int × Int) → Hp → Prop) (K : Int → Int → Bool → Hp → Prop) : Prop :=
 (W2 < d7F →
 ((decide ((a9i.size : Int) ≤ (IntKind.wrap .i64 (a6t + W2)))) = false → (0 : Int) ≤ IntKind.wrap .i64 (a6t + W2) ∧ IntKind.wrap .i64 (a6t + W2) < (a9i.size : Int)) ∧
 (((decide ((a9i.size : Int) ≤ (IntKind.wrap .i64 (a6t + W2)))) || (decide (((a9i.get! (IntKind.wrap .i64 (a6t + W2) : Int).toNat).toNat : Int) < 128))) = false → (0 : Int) ≤ IntKind.wrap .i64 (a6t + W2) ∧ IntKind.wrap .i64 (a6t + W2) < (a9i.size : Int)) ∧
 ((((decide ((a9i.size : Int) ≤ (IntKind.wrap .i64 (a6t + W2)))) || (decide (((a9i.get! (IntKind.wrap .i64 (a6t + W2) : Int).toNat).toNat : Int) < 128))) || (decide (192 ≤ ((a9i.get! (IntKind.wrap .i64 (a6t + W2) : Int).toNat).toNat : Int)))) = true →
 K 65533 1 false H) ∧
 ((((decide ((a9i.size : Int) ≤ (IntKind.wrap .i64 (a6t + W2)))) || (decide (((a9i.get! (IntKind.wrap .i64 (a6t + W2) : Int).toNat).toNat : Int) < 128))) || (decide (192 ≤ ((a9i.get! (IntKind.wrap .i64 (a6t + W2) : Int).toNat).toNat : Int)))) = false →
 (0 : Int) ≤ IntKind.wrap .i64 (a6t + W2) ∧ IntKind.wrap .i64 (a6t + W2) < (a9i.size : Int) ∧
 n3 ((IntKind.wrap .i64 ((IntKind.wrap .i64 ((IntKind.wrap .i64 (64 * a6E)) + (IntKind.wrap .i64 ((a9i.get! (IntKind.wrap .i64 (a6t + W2) : Int).toNat).toNat : Int)))) - 128)), (IntKind.wrap .i64 (W2 + 1))) H)) ∧
 (¬ (W2 < d7F) →
 a0i d7F g3O a6E H K)
def J0 (c9I : ByteArray) (d0S : Int) (b5n : Int) (b7a : Int) (b7z : Int) (H : Hp) (K : Int → Int → Bool → Hp → Prop) : Prop :=
 TL ((b7z, 1) : Int × Int) H fun (s : Int × Int) H n3 => a0j c9I d0S b5n b7a s.1 s.2 H n3 K
def a1v (x0 : ByteArray) (x1 : Int) (H : Hp) (K : Int → Int → Bool → Hp → Prop) : Prop :=
 (0 : Int) ≤ x1 ∧ x1 < (x0.size : Int) ∧
 ((IntKind.wrap .i64 ((x0.get! (x1 : Int).toNat).toNat : Int)) < 128 →
 K (IntKind.wrap .i64 ((x0.get! (x1 : Int).toNat).toNat : Int)) 1 true H) ∧
 (¬ ((IntKind.wrap .i64 ((x0.get! (x1 : Int).toNat).toNat : Int)) < 128) →
 (((decide (194 ≤ (IntKind.wrap .i64 ((x0.get! (x1 : Int).toNat).toNat : Int)))) && (decide ((IntKind.wrap .i64 ((x0.get! (x1 : Int).toNat).toNat : Int)) < 224))) = true →
 J0 x0 x1 2 128 (IntKind.wrap .i64 ((IntKind.wrap .i64 ((x0.get! (x1 : Int).toNat).toNat : Int)) - 192)) H K) ∧
 (((decide (194 ≤ (IntKind.wrap .i64 ((x0.get! (x1 : Int).toNat).toNat : Int)))) && (decide ((IntKind.wrap .i64 ((x0.get! (x1 : Int).toNat).toNat : Int)) < 224))) = false →
 (((decide (224 ≤ (IntKind.wrap .i64 ((x0.get! (x1 : Int).toNat).toNat : Int)))) && (decide ((IntKind.wrap .i64 ((x0.get! (x1 : Int).toNat).toNat : Int)) < 240))) = true →
 J0 x0 x1 3 2048 (IntKind.wrap .i64 ((IntKind.wrap .i64 ((x0.get! (x1 : Int).toNat).toNat : Int)) - 224)) H K) ∧
 (((decide (224 ≤ (IntKind.wrap .i64 ((x0.get! (x1 : Int).toNat).toNat : Int)))) && (decide ((IntKind.wrap .i64 ((x0.get! (x1 : Int).toNat).toNat : Int)) < 240))) = false →
 (((decide (240 ≤ (IntKind.wrap .i64 ((x0.get! (x1 : Int).toNat).toNat : Int)))) && (decide ((IntKind.wrap .i64 ((x0.get! (x1 : Int).toNat).toNat : Int)) < 245))) = true →
 J0 x0 x1 4 65536 (IntKind.wrap .i64 ((IntKind.wrap .i64 ((x0.get! (x1 : Int).toNat).toNat : Int)) - 240)) H K) ∧
 (((decide (240 ≤ (IntKind.wrap .i64 ((x0.get! (x1 : Int).toNat).toNat : Int)))) && (decide ((IntKind.wrap .i64 ((x0.get! (x1 : Int).toNat).toNat : Int)) < 245))) = false →
 K 65533 1 false H))))
theorem b0r (x0 : ByteArray) (x1 : Int) {w0 w : World} {ps0 : Nat → Prop} {H0 H : Hp} {K : Int → Int → Bool → Hp → Prop} {R : Value → World → Prop} {E : Pan} (I : Inv w0 ps0 H0 H [] w) (hR : ∀ (r0 : Int) (r1 : Int) (r2 : Bool) (H' : Hp) (w' : World) (_ : Inv w0 ps0 H0 H' [] w') (_ : K r0 r1 r2 H'), R (Value.tuple #[(vi r0), (vi r1), (Value.bool r2)]) w') (h : a1v x0 x1 H K) : d0O (Value.string x0) (vi x1) w R E := by
 unfold a1v at h
 unfold d0O
 obtain ⟨h_1, h_2, h⟩ := h
 refine a7 (a6b _ _ _ h_1 h_2) ?_
 refine a7 (b5N _ _) ?_
 have hj1 : ∀ (b5n : Int) (b7a : Int) (b7z : Int) (H : Hp) (w : World) (_ : Inv w0 ps0 H0 H [] w) (_ : J0 x0 x1 b5n b7a b7z H K), c1Y (Value.string x0) (vi x1) (vi b5n) (vi b7a) (vi b7z) w R E := by
  intro b5n b7a b7z H w I h
  unfold c1Y
  intro _
  unfold J0 at h
  have hj2 : ∀ (a5G : Int) (H : Hp) (w : World) (_ : Inv w0 ps0 H0 H [] w) (_ : a0i b5n b7a a5G H K), c1X (vi b5n) (vi b7a) (vi a5G) w R E := by
   intro a5G H w I h
   unfold c1X
   intro _
   unfold a0i at h
   refine a7 (r8 _ _ _ _ _ _) ?_
   try simp only [m9]
   refine a7 (Pu.g fun hb => by have a6 := hb; first | exact (a2W _ _ _ _ _ _) | (simp only [a8 a6]; exact (a2W _ _ _ _ _ _)) | (simp only [b7 a6, a8 a6, a8 hb, v1 a6, d9]; exact (a2W _ _ _ _ _ _))) ?_
   refine a7 (E1 _ _) ?_
   try simp only [m9]
   refine a7 (Pu.g fun hb => by have a6 := hb; first | exact (a1d _ _ _ _ _ _) | (simp only [a8 a6]; exact (a1d _ _ _ _ _ _)) | (simp only [b7 a6, a8 a6, a8 hb, v1 a6, d9]; exact (a1d _ _ _ _ _ _))) ?_
   try simp only [T5, Y1]
   try simp only [m9, T5, a2v, a1f, Y1, a2z, a2w, a2x, a2y, a2A]
   refine a7 (Pu.e (a3X _ _ _) (Pu.g fun hb => by obtain ⟨a6, k8⟩ := a5Z hb; first | exact (r8 _ _ _ _ _ _) | (simp only [a8 hb]; exact (r8 _ _ _ _ _ _)) | (simp only [b7 a6, a8 a6, b7 k8, a8 k8, a8 hb, l9 hb]; exact (r8 _ _ _ _ _ _)) | (simp only [b7 a6, a8 a6, b7 k8, a8 k8, a8 hb, c9 hb, d9]; exact (r8 _ _ _ _ _ _)))) ?_
   refine a7 (Pu.g fun hb => by have a6 := hb; first | exact (k7 _ _) | (simp only [a8 a6, a4b a6]; exact (k7 _ _)) | (simp only [b7 a6, a8 a6, a8 hb, v1 a6, d9]; exact (k7 _ _))) ?_
   refine a7 (E1 _ _) ?_
   refine k9 (fun d7G => ?_) (fun d7G => ?_)
   ·replace h := h.1 d7G
    exact hR 65533 1 false H _ I h
   ·replace h := h.2 d7G
    exact hR a5G b5n true H _ I h
  refine p9 fun j2 hx2 => ?_
  obtain ⟨d7H, c6F, g3P, g3Q⟩ := h
  refine v6 (J := fun n l w => ∃ (s : Int × Int) (H : Hp) , n = c6F s ∧ l = (match s with | (a6E, W2) => [(vi a6E), (vi W2)]) ∧ (match s with | (a6E, W2) => Inv w0 ps0 H0 H [] w) ∧ d7H s H) ⟨_, (b7z, 1), H, rfl, rfl, I, g3P⟩ ?_
  rintro g7Z τ_19 w next3 ⟨⟨a6E, W2⟩, H, rfl, c6G, I, g3R⟩ hn3
  dsimp only at c6G I
  simp only [List.map_cons, List.map_nil, List.cons.injEq, and_true] at c6G
  obtain ⟨e10, e11⟩ := c6G
  simp only [e10, e11]
  obtain ⟨n3, hm3, h⟩ : ∃ n3 : (Int × Int) → Hp → Prop, (∀ s' H', n3 s' H' → d7H s' H' ∧ c6F s' < c6F (a6E, W2)) ∧ a0j x0 x1 b5n b7a a6E W2 H n3 K := ⟨_, fun _ _ h => h, g3Q (a6E, W2) H (fun s' H' => d7H s' H' ∧ c6F s' < c6F (a6E, W2)) g3R (fun _ _ a b => ⟨a, b⟩)⟩
  unfold c8q
  unfold a0j at h
  refine a7 (r8 _ _ _ _ _ _) ?_
  refine g9 (fun b9c => ?_) (fun b9c => ?_)
  ·replace h := h.1 b9c
   refine a7 (q8 _ _ _ _ _ _) ?_
   refine a7 (a8N _) ?_
   refine a7 (a1d _ _ _ _ _ _) ?_
   try simp only [m9]
   try simp only [m9, T5, a2v, a1f, Y1, a2z, a2w, a2x, a2y, a2A]
   try simp only [m9, T5, a2v, a1f, Y1, a2z, a2w, a2x, a2y, a2A]
   refine a7 (Pu.g fun hb => by have a6 := hb; first | exact (q8 _ _ _ _ _ _) | (simp only [a8 a6]; exact (q8 _ _ _ _ _ _)) | (simp only [b7 a6, a8 a6, a8 hb, v1 a6, d9]; exact (q8 _ _ _ _ _ _))) ?_
   obtain ⟨h_5, h⟩ := h
   refine a7 (Pu.g fun hb => by have a6 := hb; first | exact (a6b _ _ _ (h_5 hb).1 (h_5 hb).2) | (simp only [a8 a6]; exact (a6b _ _ _ (h_5 hb).1 (h_5 hb).2)) | (simp only [b7 a6, a8 a6, a8 hb, v1 a6, d9]; exact (a6b _ _ _ (h_5 hb).1 (h_5 hb).2))) ?_
   refine a7 (Pu.g fun hb => by have a6 := hb; first | exact (r8 _ _ _ _ _ _) | (simp only [a8 a6]; exact (r8 _ _ _ _ _ _)) | (simp only [b7 a6, a8 a6, a8 hb, v1 a6, d9]; exact (r8 _ _ _ _ _ _))) ?_
   refine a7 (E1 _ _) ?_
   try simp only [m9]
   try simp only [m9, T5, a2v, a1f, Y1, a2z, a2w, a2x, a2y, a2A]
   try simp only [m9, T5, a2v, a1f, Y1, a2z, a2w, a2x, a2y, a2A]
   refine a7 (Pu.g fun hb => by have a6 := hb; first | exact (q8 _ _ _ _ _ _) | (simp only [a8 a6]; exact (q8 _ _ _ _ _ _)) | (simp only [b7 a6, a8 a6, a8 hb, v1 a6, d9]; exact (q8 _ _ _ _ _ _))) ?_
   obtain ⟨h_8, h⟩ := h
   refine a7 (Pu.g fun hb => by have a6 := hb; first | exact (a6b _ _ _ (h_8 hb).1 (h_8 hb).2) | (simp only [a8 a6]; exact (a6b _ _ _ (h_8 hb).1 (h_8 hb).2)) | (simp only [b7 a6, a8 a6, a8 hb, v1 a6, d9]; exact (a6b _ _ _ (h_8 hb).1 (h_8 hb).2))) ?_
   refine a7 (Pu.g fun hb => by have a6 := hb; first | exact (a1d _ _ _ _ _ _) | (simp only [a8 a6]; exact (a1d _ _ _ _ _ _)) | (simp only [b7 a6, a8 a6, a8 hb, v1 a6, d9]; exact (a1d _ _ _ _ _ _))) ?_
   refine a7 (E1 _ _) ?_
   refine k9 (fun b1p => ?_) (fun b1p => ?_)
   ·replace h := h.1 b1p
    exact hR 65533 1 false H _ I h
   ·replace h := h.2 b1p
    refine a7 (e3r _ _ _ _ _ _) ?_
    refine a7 (q8 _ _ _ _ _ _) ?_
    obtain ⟨h_9, b1I, h⟩ := h
    refine a7 (a6b _ _ _ h_9 b1I) ?_
    refine a7 (b5N _ _) ?_
    refine a7 (q8 _ _ _ _ _ _) ?_
    refine a7 (b3k _ _ _ _ _ _) ?_
    refine a7 (q8 _ _ _ _ _ _) ?_
    exact hn3 _ _ _ (hm3 _ _ h).2 ⟨((IntKind.wrap .i64 ((IntKind.wrap .i64 ((IntKind.wrap .i64 (64 * a6E)) + (IntKind.wrap .i64 ((x0.get! (IntKind.wrap .i64 (x1 + W2) : Int).toNat).toNat : Int)))) - 128)), (IntKind.wrap .i64 (W2 + 1))), H, rfl, rfl, I, (hm3 _ _ h).1⟩
  ·replace h := h.2 b9c
   exact hx2 _ _ (hj2 a6E H _ I h)
 refine p9 fun j1 hx1 => ?_
 refine a7 (r8 _ _ _ _ _ _) ?_
 refine g9 (fun b8H => ?_) (fun b8H => ?_)
 ·replace h := h.1 b8H
  exact hR (IntKind.wrap .i64 ((x0.get! (x1 : Int).toNat).toNat : Int)) 1 true H _ I h
 ·replace h := h.2 b8H
  refine a7 (a1d _ _ _ _ _ _) ?_
  try simp only [m9]
  refine a7 (Pu.g fun hb => by have a6 := hb; first | exact (r8 _ _ _ _ _ _) | (simp only [a8 a6]; exact (r8 _ _ _ _ _ _)) | (simp only [b7 a6, a8 a6, a8 hb, c9 a6, d9]; exact (r8 _ _ _ _ _ _))) ?_
  refine a7 (k7 _ _) ?_
  refine k9 (fun b8I => ?_) (fun b8I => ?_)
  ·replace h := h.1 b8I
   refine a7 (b3k _ _ _ _ _ _) ?_
   exact hx1 _ _ (hj1 2 128 (IntKind.wrap .i64 ((IntKind.wrap .i64 ((x0.get! (x1 : Int).toNat).toNat : Int)) - 192)) H _ I h)
  ·replace h := h.2 b8I
   refine a7 (a1d _ _ _ _ _ _) ?_
   try simp only [m9]
   refine a7 (Pu.g fun hb => by have a6 := hb; first | exact (r8 _ _ _ _ _ _) | (simp only [a8 a6]; exact (r8 _ _ _ _ _ _)) | (simp only [b7 a6, a8 a6, a8 hb, c9 a6, d9]; exact (r8 _ _ _ _ _ _))) ?_
   refine a7 (k7 _ _) ?_
   refine k9 (fun b1P => ?_) (fun b1P => ?_)
   ·replace h := h.1 b1P
    refine a7 (b3k _ _ _ _ _ _) ?_
    exact hx1 _ _ (hj1 3 2048 (IntKind.wrap .i64 ((IntKind.wrap .i64 ((x0.get! (x1 : Int).toNat).toNat : Int)) - 224)) H _ I h)
   ·replace h := h.2 b1P
    refine a7 (a1d _ _ _ _ _ _) ?_
    try simp only [m9]
    refine a7 (Pu.g fun hb => by have a6 := hb; first | exact (r8 _ _ _ _ _ _) | (simp only [a8 a6]; exact (r8 _ _ _ _ _ _)) | (simp only [b7 a6, a8 a6, a8 hb, c9 a6, d9]; exact (r8 _ _ _ _ _ _))) ?_
    refine a7 (k7 _ _) ?_
    refine k9 (fun b8J => ?_) (fun b8J => ?_)
    ·replace h := h.1 b8J
     refine a7 (b3k _ _ _ _ _ _) ?_
     exact hx1 _ _ (hj1 4 65536 (IntKind.wrap .i64 ((IntKind.wrap .i64 ((x0.get! (x1 : Int).toNat).toNat : Int)) - 240)) H _ I h)
    ·replace h := h.2 b8J
     exact hR 65533 1 false H _ I h
theorem b2j (x0 : ByteArray) (x1 : Int) {H : Hp} {K : Int → Int → Bool → Hp → Prop} (h : a1v x0 x1 H K) : a3w x0 x1 H K := by
 intro w I
 refine e2L ?_
 refine b0r x0 x1 I (fun r0 r1 r2 H' w' I' hk => ⟨H', _, I', r0, r1, r2, rfl, rfl, hk⟩) h
def a2G (x0 : Int) (x1 : Int) (x2 : Int) (H : Hp) (K : Bool → Hp → Prop) : Prop :=
 K ((decide (x1 ≤ x0)) && (decide (x0 ≤ x2))) H
theorem a9j (x0 : Int) (x1 : Int) (x2 : Int) {w0 w : World} {ps0 : Nat → Prop} {H0 H : Hp} {K : Bool → Hp → Prop} {R : Value → World → Prop} {E : Pan} (I : Inv w0 ps0 H0 H [] w) (hR : ∀ (r0 : Bool) (H' : Hp) (w' : World) (_ : Inv w0 ps0 H0 H' [] w') (_ : K r0 H'), R (Value.bool r0) w') (h : a2G x0 x1 x2 H K) : d0Q (vi x0) (vi x1) (vi x2) w R E := by
 unfold a2G at h
 unfold d0Q
 refine a7 (a1d _ _ _ _ _ _) ?_
 try simp only [m9]
 try simp only [m9, T5, a2v, a1f, Y1, a2z, a2w, a2x, a2y, a2A]
 refine a7 (Pu.g fun hb => by have a6 := hb; first | exact (a0N _ _ _ _ _ _) | (simp only [a8 a6]; exact (a0N _ _ _ _ _ _)) | (simp only [b7 a6, a8 a6, a8 hb, c9 a6, d9]; exact (a0N _ _ _ _ _ _))) ?_
 refine a7 (k7 _ _) ?_
 exact hR ((decide (x1 ≤ x0)) && (decide (x0 ≤ x2))) H _ I h
theorem a9J (x0 : Int) (x1 : Int) (x2 : Int) {H : Hp} {K : Bool → Hp → Prop} (h : a2G x0 x1 x2 H K) : q9 x0 x1 x2 H K := by
 intro w I
 refine e2P ?_
 refine a9j x0 x1 x2 I (fun r0 H' w' I' hk => ⟨H', _, I', r0, rfl, rfl, hk⟩) h
def Y9 (H : Hp) (K : Int → Hp → Prop) : Prop :=
 K 6 H
def D9 (a8b : Int) (a4U : ByteArray) (a2j : Int) (H : Hp) (n2 : Int → Hp → Prop) (K : Int → Hp → Prop) : Prop :=
 (a2j < (a4U.size : Int) →
 (0 : Int) ≤ a2j ∧ a2j < (a4U.size : Int) ∧
 (a8b = (IntKind.wrap .i64 ((a4U.get! (a2j : Int).toNat).toNat : Int)) →
 K 5 H) ∧
 (¬ (a8b = (IntKind.wrap .i64 ((a4U.get! (a2j : Int).toNat).toNat : Int))) →
 n2 (IntKind.wrap .i64 (a2j + 1)) H)) ∧
 (¬ (a2j < (a4U.size : Int)) →
 Y9 H K)
def a0U (x0 : Int) (H : Hp) (K : Int → Hp → Prop) : Prop :=
 ((((decide (x0 = 32)) || (decide (x0 = 9))) || (decide (x0 = 13))) = true →
 K 1 H) ∧
 ((((decide (x0 = 32)) || (decide (x0 = 9))) || (decide (x0 = 13))) = false →
 (x0 = 10 →
 K 2 H) ∧
 (¬ (x0 = 10) →
 q9 x0 48 57 H (fun (K1 : Bool) (H_1 : Hp) =>
 (K1 = true →
 K 4 H_1) ∧
 (K1 = false →
 q9 x0 97 122 H_1 (fun (o6 : Bool) (a1T : Hp) =>
 TG (o6 = false) (q9 x0 65 90 a1T) false a1T (fun (C1 : Bool) (Q2 : Hp) =>
 TG (((o6 || C1) || (decide (x0 = 95))) = false) (q9 x0 192 591 Q2) false Q2 (fun (E7 : Bool) (a1U : Hp) =>
 TG ((((o6 || C1) || (decide (x0 = 95))) || ((E7 && (!decide (x0 = 215))) && (!decide (x0 = 247)))) = false) (q9 x0 913 969 a1U) false a1U (fun (D6 : Bool) (Y3 : Hp) =>
 TG (((((o6 || C1) || (decide (x0 = 95))) || ((E7 && (!decide (x0 = 215))) && (!decide (x0 = 247)))) || (D6 && (!decide (x0 = 930)))) = false) (q9 x0 1040 1103 Y3) false Y3 (fun (W0 : Bool) (V7 : Hp) =>
 ((((((o6 || C1) || (decide (x0 = 95))) || ((E7 && (!decide (x0 = 215))) && (!decide (x0 = 247)))) || (D6 && (!decide (x0 = 930)))) || W0) = true →
 K 3 V7) ∧
 ((((((o6 || C1) || (decide (x0 = 95))) || ((E7 && (!decide (x0 = 215))) && (!decide (x0 = 247)))) || (D6 && (!decide (x0 = 930)))) || W0) = false →
 TL (0 : Int) V7 fun (s : Int) H n2 => D9 x0 ⟨#[59, 44, 123, 125, 40, 41, 91, 93, 61, 33, 60, 62, 43, 45, 42, 47, 37, 38, 124]⟩ s H n2 K))))))))))
theorem a9Z (x0 : Int) {w0 w : World} {ps0 : Nat → Prop} {H0 H : Hp} {K : Int → Hp → Prop} {R : Value → World → Prop} {E : Pan} (I : Inv w0 ps0 H0 H [] w) (hR : ∀ (r0 : Int) (H' : Hp) (w' : World) (_ : Inv w0 ps0 H0 H' [] w') (_ : K r0 H'), R (vi r0) w') (h : a0U x0 H K) : d0P (vi x0) w R E := by
 unfold a0U at h
 unfold d0P
 refine a7 (d6 _ _ _ _ _ _) ?_
 try simp only [m9]
 refine a7 (Pu.g fun hb => by have a6 := hb; first | exact (d6 _ _ _ _ _ _) | (simp only [a8 a6]; exact (d6 _ _ _ _ _ _)) | (simp only [b7 a6, a8 a6, a8 hb, v1 a6, d9]; exact (d6 _ _ _ _ _ _))) ?_
 refine a7 (E1 _ _) ?_
 try simp only [m9]
 refine a7 (Pu.g fun hb => by have a6 := hb; first | exact (d6 _ _ _ _ _ _) | (simp only [a8 a6]; exact (d6 _ _ _ _ _ _)) | (simp only [b7 a6, a8 a6, a8 hb, v1 a6, d9]; exact (d6 _ _ _ _ _ _))) ?_
 refine a7 (E1 _ _) ?_
 refine k9 (fun a6Z => ?_) (fun a6Z => ?_)
 ·replace h := h.1 a6Z
  exact hR 1 H _ I h
 ·replace h := h.2 a6Z
  refine a7 (d6 _ _ _ _ _ _) ?_
  refine g9 (fun b1U => ?_) (fun b1U => ?_)
  ·replace h := h.1 b1U
   exact hR 2 H _ I h
  ·replace h := h.2 b1U
   refine f8 (cap := []) (fun args w => Tryd.call128 args w) ?_
   refine i6 (Fi := []) (Fr := []) I (h) (fun v_5 H_1 F_6 w_2 I_3 l_8 k_4 q_7 => ?_) (fun _ _ _ _ _ q => q.elim)
   obtain ⟨K1, rfl, rfl, h⟩ := q_7
   refine k9 (fun a5q => ?_) (fun a5q => ?_)
   ·replace h := h.1 a5q
    exact hR 4 H_1 _ I_3 h
   ·replace h := h.2 a5q
    refine f8 (cap := []) (fun args w => Tryd.call128 args w) ?_
    refine i6 (Fi := []) (Fr := []) I_3 (h) (fun c1w a1T d5c Y2 G6 b6B b4o b8l => ?_) (fun _ _ _ _ _ q => q.elim)
    obtain ⟨o6, rfl, rfl, h⟩ := b8l
    try simp only [m9]
    refine L2 (D := fun b4p o7 => ∃ (C1 : Bool) (Q2 : Hp) , b4p = (gv o6 false (Value.bool C1)) ∧ (Inv w0 ps0 H0 Q2 [] o7) ∧ (∀ i, i < Y2.heap.size → ¬ inF [] i → o7.heap[i]? = Y2.heap[i]?) ∧ Hle a1T Q2 ∧ (TG (((o6 || C1) || (decide (x0 = 95))) = false) (q9 x0 192 591 Q2) false Q2 (fun (E7 : Bool) (a1U : Hp) =>
 TG ((((o6 || C1) || (decide (x0 = 95))) || ((E7 && (!decide (x0 = 215))) && (!decide (x0 = 247)))) = false) (q9 x0 913 969 a1U) false a1U (fun (D6 : Bool) (Y3 : Hp) =>
 TG (((((o6 || C1) || (decide (x0 = 95))) || ((E7 && (!decide (x0 = 215))) && (!decide (x0 = 247)))) || (D6 && (!decide (x0 = 930)))) = false) (q9 x0 1040 1103 Y3) false Y3 (fun (W0 : Bool) (V7 : Hp) =>
 ((((((o6 || C1) || (decide (x0 = 95))) || ((E7 && (!decide (x0 = 215))) && (!decide (x0 = 247)))) || (D6 && (!decide (x0 = 930)))) || W0) = true →
 K 3 V7) ∧
 ((((((o6 || C1) || (decide (x0 = 95))) || ((E7 && (!decide (x0 = 215))) && (!decide (x0 = 247)))) || (D6 && (!decide (x0 = 930)))) || W0) = false →
 TL (0 : Int) V7 fun (s : Int) H n2 => D9 x0 ⟨#[59, 44, 123, 125, 40, 41, 91, 93, 61, 33, 60, 62, 43, 45, 42, 47, 37, 38, 124]⟩ s H n2 K)))))) (fun c2a => ?_) (fun c2a => ?_) ?_
    ·replace h := h.1 c2a
     have a6 := c2a
     try simp only [a8 a6]
     refine f8 (cap := []) (fun args w => Tryd.call128 args w) ?_
     refine i6 (Fi := []) (Fr := []) G6 (h) (fun b4p Q2 c4Q o7 a3i b8m b2U b8n => ?_) (fun _ _ _ _ _ q => q.elim)
     obtain ⟨C1, rfl, rfl, h⟩ := b8n
     exact ⟨C1, Q2, by first | rfl | rw [a8 c2a], a3i, b2U, b8m, h⟩
    ·exact ⟨false, a1T, by first | rfl | rw [a0E c2a], G6, fun _ _ _ => rfl, Hle.refl _, h.2 c2a⟩
    ·clear h
     rintro b4p o7 ⟨C1, Q2, rfl, a3i, b2U, b8m, h⟩
     refine a7 (E1 _ _) ?_
     try simp only [m9]
     refine a7 (Pu.g fun hb => by have a6 := hb; first | exact (d6 _ _ _ _ _ _) | (simp only [a8 a6]; exact (d6 _ _ _ _ _ _)) | (simp only [b7 a6, a8 a6, a8 hb, v1 a6, d9]; exact (d6 _ _ _ _ _ _))) ?_
     refine a7 (E1 _ _) ?_
     try simp only [m9]
     refine L2 (D := fun c9z a8R => ∃ (E7 : Bool) (a1U : Hp) , c9z = (gv ((o6 || C1) || (decide (x0 = 95))) false (Value.bool E7)) ∧ (Inv w0 ps0 H0 a1U [] a8R) ∧ (∀ i, i < o7.heap.size → ¬ inF [] i → a8R.heap[i]? = o7.heap[i]?) ∧ Hle Q2 a1U ∧ (TG ((((o6 || C1) || (decide (x0 = 95))) || ((E7 && (!decide (x0 = 215))) && (!decide (x0 = 247)))) = false) (q9 x0 913 969 a1U) false a1U (fun (D6 : Bool) (Y3 : Hp) =>
 TG (((((o6 || C1) || (decide (x0 = 95))) || ((E7 && (!decide (x0 = 215))) && (!decide (x0 = 247)))) || (D6 && (!decide (x0 = 930)))) = false) (q9 x0 1040 1103 Y3) false Y3 (fun (W0 : Bool) (V7 : Hp) =>
 ((((((o6 || C1) || (decide (x0 = 95))) || ((E7 && (!decide (x0 = 215))) && (!decide (x0 = 247)))) || (D6 && (!decide (x0 = 930)))) || W0) = true →
 K 3 V7) ∧
 ((((((o6 || C1) || (decide (x0 = 95))) || ((E7 && (!decide (x0 = 215))) && (!decide (x0 = 247)))) || (D6 && (!decide (x0 = 930)))) || W0) = false →
 TL (0 : Int) V7 fun (s : Int) H n2 => D9 x0 ⟨#[59, 44, 123, 125, 40, 41, 91, 93, 61, 33, 60, 62, 43, 45, 42, 47, 37, 38, 124]⟩ s H n2 K))))) (fun a7a => ?_) (fun a7a => ?_) ?_
     ·replace h := h.1 a7a
      have a6 := a7a
      try simp only [a8 a6]
      refine f8 (cap := []) (fun args w => Tryd.call128 args w) ?_
      refine i6 (Fi := []) (Fr := []) a3i (h) (fun c9z a1U b4q a8R a4s b4j b6C d5d => ?_) (fun _ _ _ _ _ q => q.elim)
      obtain ⟨E7, rfl, rfl, h⟩ := d5d
      exact ⟨E7, a1U, by first | rfl | rw [a8 a7a], a4s, b6C, b4j, h⟩
     ·exact ⟨false, Q2, by first | rfl | rw [a0E a7a], a3i, fun _ _ _ => rfl, Hle.refl _, h.2 a7a⟩
     ·clear h
      rintro c9z a8R ⟨E7, a1U, rfl, a4s, b6C, b4j, h⟩
      try simp only [T5, Y1]
      try simp only [m9, T5, a2v, a1f, Y1, a2z, a2w, a2x, a2y, a2A]
      refine a7 (Pu.e (a3X _ _ _) (Pu.g fun hb => by obtain ⟨a6, k8⟩ := a5Z hb; first | exact (u7 _ _ _ _ _ _) | (simp only [a8 hb]; exact (u7 _ _ _ _ _ _)) | (simp only [b7 a6, a8 a6, b7 k8, a8 k8, a8 hb, l9 hb]; exact (u7 _ _ _ _ _ _)) | (simp only [b7 a6, a8 a6, b7 k8, a8 k8, a8 hb, c9 hb, d9]; exact (u7 _ _ _ _ _ _)))) ?_
      refine a7 (Pu.g fun hb => by have a6 := hb; first | exact (k7 _ _) | (simp only [a8 a6, a4b a6]; exact (k7 _ _)) | (simp only [b7 a6, a8 a6, a8 hb, v1 a6, d9]; exact (k7 _ _))) ?_
      try simp only [T5, Y1]
      try simp only [m9, T5, a2v, a1f, Y1, a2z, a2w, a2x, a2y, a2A]
      refine a7 (Pu.e (a3X _ _ _) (Pu.g fun hb => by obtain ⟨a6, k8⟩ := a5Z hb; first | exact (u7 _ _ _ _ _ _) | (simp only [a8 hb]; exact (u7 _ _ _ _ _ _)) | (simp only [b7 a6, a8 a6, b7 k8, a8 k8, a8 hb, l9 hb]; exact (u7 _ _ _ _ _ _)) | (simp only [b7 a6, a8 a6, b7 k8, a8 k8, a8 hb, c9 hb, d9]; exact (u7 _ _ _ _ _ _)))) ?_
      refine a7 (Pu.g fun hb => by have a6 := hb; first | exact (k7 _ _) | (simp only [a8 a6, a4b a6]; exact (k7 _ _)) | (simp only [b7 a6, a8 a6, a8 hb, v1 a6, d9]; exact (k7 _ _))) ?_
      refine a7 (E1 _ _) ?_
      try simp only [m9]
      refine L2 (D := fun b6D v2 => ∃ (D6 : Bool) (Y3 : Hp) , b6D = (gv (((o6 || C1) || (decide (x0 = 95))) || ((E7 && (!decide (x0 = 215))) && (!decide (x0 = 247)))) false (Value.bool D6)) ∧ (Inv w0 ps0 H0 Y3 [] v2) ∧ (∀ i, i < a8R.heap.size → ¬ inF [] i → v2.heap[i]? = a8R.heap[i]?) ∧ Hle a1U Y3 ∧ (TG (((((o6 || C1) || (decide (x0 = 95))) || ((E7 && (!decide (x0 = 215))) && (!decide (x0 = 247)))) || (D6 && (!decide (x0 = 930)))) = false) (q9 x0 1040 1103 Y3) false Y3 (fun (W0 : Bool) (V7 : Hp) =>
 ((((((o6 || C1) || (decide (x0 = 95))) || ((E7 && (!decide (x0 = 215))) && (!decide (x0 = 247)))) || (D6 && (!decide (x0 = 930)))) || W0) = true →
 K 3 V7) ∧
 ((((((o6 || C1) || (decide (x0 = 95))) || ((E7 && (!decide (x0 = 215))) && (!decide (x0 = 247)))) || (D6 && (!decide (x0 = 930)))) || W0) = false →
 TL (0 : Int) V7 fun (s : Int) H n2 => D9 x0 ⟨#[59, 44, 123, 125, 40, 41, 91, 93, 61, 33, 60, 62, 43, 45, 42, 47, 37, 38, 124]⟩ s H n2 K)))) (fun c2b => ?_) (fun c2b => ?_) ?_
      ·replace h := h.1 c2b
       have a6 := c2b
       try simp only [a8 a6]
       refine f8 (cap := []) (fun args w => Tryd.call128 args w) ?_
       refine i6 (Fi := []) (Fr := []) a4s (h) (fun b6D Y3 f0W v2 b1v c1x c1y c4R => ?_) (fun _ _ _ _ _ q => q.elim)
       obtain ⟨D6, rfl, rfl, h⟩ := c4R
       exact ⟨D6, Y3, by first | rfl | rw [a8 c2b], b1v, c1y, c1x, h⟩
      ·exact ⟨false, a1U, by first | rfl | rw [a0E c2b], a4s, fun _ _ _ => rfl, Hle.refl _, h.2 c2b⟩
      ·clear h
       rintro b6D v2 ⟨D6, Y3, rfl, b1v, c1y, c1x, h⟩
       try simp only [T5, Y1]
       try simp only [m9, T5, a2v, a1f, Y1, a2z, a2w, a2x, a2y, a2A]
       refine a7 (Pu.e (a3X _ _ _) (Pu.g fun hb => by obtain ⟨a6, k8⟩ := a5Z hb; first | exact (u7 _ _ _ _ _ _) | (simp only [a8 hb]; exact (u7 _ _ _ _ _ _)) | (simp only [b7 a6, a8 a6, b7 k8, a8 k8, a8 hb, l9 hb]; exact (u7 _ _ _ _ _ _)) | (simp only [b7 a6, a8 a6, b7 k8, a8 k8, a8 hb, c9 hb, d9]; exact (u7 _ _ _ _ _ _)))) ?_
       refine a7 (Pu.g fun hb => by have a6 := hb; first | exact (k7 _ _) | (simp only [a8 a6, a4b a6]; exact (k7 _ _)) | (simp only [b7 a6, a8 a6, a8 hb, v1 a6, d9]; exact (k7 _ _))) ?_
       refine a7 (E1 _ _) ?_
       try simp only [m9]
       refine L2 (D := fun b8o a6o => ∃ (W0 : Bool) (V7 : Hp) , b8o = (gv ((((o6 || C1) || (decide (x0 = 95))) || ((E7 && (!decide (x0 = 215))) && (!decide (x0 = 247)))) || (D6 && (!decide (x0 = 930)))) false (Value.bool W0)) ∧ (Inv w0 ps0 H0 V7 [] a6o) ∧ (∀ i, i < v2.heap.size → ¬ inF [] i → a6o.heap[i]? = v2.heap[i]?) ∧ Hle Y3 V7 ∧ (((((((o6 || C1) || (decide (x0 = 95))) || ((E7 && (!decide (x0 = 215))) && (!decide (x0 = 247)))) || (D6 && (!decide (x0 = 930)))) || W0) = true →
 K 3 V7) ∧
 ((((((o6 || C1) || (decide (x0 = 95))) || ((E7 && (!decide (x0 = 215))) && (!decide (x0 = 247)))) || (D6 && (!decide (x0 = 930)))) || W0) = false →
 TL (0 : Int) V7 fun (s : Int) H n2 => D9 x0 ⟨#[59, 44, 123, 125, 40, 41, 91, 93, 61, 33, 60, 62, 43, 45, 42, 47, 37, 38, 124]⟩ s H n2 K))) (fun c2c => ?_) (fun c2c => ?_) ?_
       ·replace h := h.1 c2c
        have a6 := c2c
        try simp only [a8 a6]
        refine f8 (cap := []) (fun args w => Tryd.call128 args w) ?_
        refine i6 (Fi := []) (Fr := []) b1v (h) (fun b8o V7 g1W a6o b1w b8p c4S d5e => ?_) (fun _ _ _ _ _ q => q.elim)
        obtain ⟨W0, rfl, rfl, h⟩ := d5e
        exact ⟨W0, V7, by first | rfl | rw [a8 c2c], b1w, c4S, b8p, h⟩
       ·exact ⟨false, Y3, by first | rfl | rw [a0E c2c], b1v, fun _ _ _ => rfl, Hle.refl _, h.2 c2c⟩
       ·clear h
        rintro b8o a6o ⟨W0, V7, rfl, b1w, c4S, b8p, h⟩
        refine a7 (E1 _ _) ?_
        refine k9 (fun b8M => ?_) (fun b8M => ?_)
        ·replace h := h.1 b8M
         exact hR 3 V7 _ b1w h
        ·replace h := h.2 b8M
         have hj1 : ∀ (H : Hp) (w : World) (_ : Inv w0 ps0 H0 H [] w) (_ : Y9 H K), c1Z w R E := by
          intro H w I h
          unfold c1Z
          intro _
          unfold Y9 at h
          exact hR 6 H _ I h
         refine p9 fun j1 hx1 => ?_
         obtain ⟨d7I, c6H, g3S, g3T⟩ := h
         refine v6 (J := fun n l w => ∃ (s : Int) (H : Hp) , n = c6H s ∧ l = [(vi s)] ∧ Inv w0 ps0 H0 H [] w ∧ d7I s H) ⟨_, 0, V7, rfl, rfl, b1w, g3S⟩ ?_
         rintro g8a τ_64 w next2 ⟨a2j, H, rfl, f5p, I, g3U⟩ hn2
         simp only [List.map_cons, List.map_nil, List.cons.injEq, and_true] at f5p
         have e4 := f5p
         simp only [e4]
         obtain ⟨n2, hm2, h⟩ : ∃ n2 : Int → Hp → Prop, (∀ s' H', n2 s' H' → d7I s' H' ∧ c6H s' < c6H a2j) ∧ D9 x0 ⟨#[59, 44, 123, 125, 40, 41, 91, 93, 61, 33, 60, 62, 43, 45, 42, 47, 37, 38, 124]⟩ a2j H n2 K := ⟨_, fun _ _ h => h, g3T a2j H (fun s' H' => d7I s' H' ∧ c6H s' < c6H a2j) g3U (fun _ _ a b => ⟨a, b⟩)⟩
         unfold c8r
         unfold D9 at h
         refine a7 (a8N _) ?_
         refine a7 (r8 _ _ _ _ _ _) ?_
         refine g9 (fun d7J => ?_) (fun d7J => ?_)
         ·replace h := h.1 d7J
          obtain ⟨c5C, b8C, h⟩ := h
          refine a7 (a6b _ _ _ c5C b8C) ?_
          refine a7 (b5N _ _) ?_
          refine a7 (d6 _ _ _ _ _ _) ?_
          refine g9 (fun d7K => ?_) (fun d7K => ?_)
          ·replace h := h.1 d7K
           exact hR 5 H _ I h
          ·replace h := h.2 d7K
           refine a7 (q8 _ _ _ _ _ _) ?_
           exact hn2 _ _ _ (hm2 _ _ h).2 ⟨(IntKind.wrap .i64 (a2j + 1)), H, rfl, rfl, I, (hm2 _ _ h).1⟩
         ·replace h := h.2 d7J
          exact hx1 _ _ (hj1 H _ I h)
theorem b0s (x0 : Int) {H : Hp} {K : Int → Hp → Prop} (h : a0U x0 H K) : a3d x0 H K := by
 intro w I
 refine e2N ?_
 refine a9Z x0 I (fun r0 H' w' I' hk => ⟨H', _, I', r0, rfl, rfl, hk⟩) h
def i5 (o4 : Bool) (H : Hp) (K : Bool → Hp → Prop) : Prop :=
 (o4 = true →
 K true H) ∧
 (o4 = false →
 K false H)
def a1w (x0 : ByteArray) (H : Hp) (K : Bool → Hp → Prop) : Prop :=
 (x0 = ⟨#[118, 97, 114]⟩ →
 i5 (decide (x0 = ⟨#[118, 97, 114]⟩)) H K) ∧
 (¬ (x0 = ⟨#[118, 97, 114]⟩) →
 (x0 = ⟨#[97, 114, 114, 97, 121]⟩ →
 i5 (decide (x0 = ⟨#[97, 114, 114, 97, 121]⟩)) H K) ∧
 (¬ (x0 = ⟨#[97, 114, 114, 97, 121]⟩) →
 (x0 = ⟨#[105, 102]⟩ →
 i5 (decide (x0 = ⟨#[105, 102]⟩)) H K) ∧
 (¬ (x0 = ⟨#[105, 102]⟩) →
 (x0 = ⟨#[101, 108, 115, 101]⟩ →
 i5 (decide (x0 = ⟨#[101, 108, 115, 101]⟩)) H K) ∧
 (¬ (x0 = ⟨#[101, 108, 115, 101]⟩) →
 (x0 = ⟨#[119, 104, 105, 108, 101]⟩ →
 i5 (decide (x0 = ⟨#[119, 104, 105, 108, 101]⟩)) H K) ∧
 (¬ (x0 = ⟨#[119, 104, 105, 108, 101]⟩) →
 (x0 = ⟨#[97, 115, 115, 101, 114, 116]⟩ →
 i5 (decide (x0 = ⟨#[97, 115, 115, 101, 114, 116]⟩)) H K) ∧
 (¬ (x0 = ⟨#[97, 115, 115, 101, 114, 116]⟩) →
 (x0 = ⟨#[97, 115, 115, 117, 109, 101]⟩ →
 i5 (decide (x0 = ⟨#[97, 115, 115, 117, 109, 101]⟩)) H K) ∧
 (¬ (x0 = ⟨#[97, 115, 115, 117, 109, 101]⟩) →
 (x0 = ⟨#[115, 107, 105, 112]⟩ →
 i5 (decide (x0 = ⟨#[115, 107, 105, 112]⟩)) H K) ∧
 (¬ (x0 = ⟨#[115, 107, 105, 112]⟩) →
 (x0 = ⟨#[105, 110, 112, 117, 116]⟩ →
 i5 (decide (x0 = ⟨#[105, 110, 112, 117, 116]⟩)) H K) ∧
 (¬ (x0 = ⟨#[105, 110, 112, 117, 116]⟩) →
 (x0 = ⟨#[116, 114, 117, 101]⟩ →
 i5 (decide (x0 = ⟨#[116, 114, 117, 101]⟩)) H K) ∧
 (¬ (x0 = ⟨#[116, 114, 117, 101]⟩) →
 i5 (decide (x0 = ⟨#[102, 97, 108, 115, 101]⟩)) H K))))))))))
theorem b0t (x0 : ByteArray) {w0 w : World} {ps0 : Nat → Prop} {H0 H : Hp} {K : Bool → Hp → Prop} {R : Value → World → Prop} {E : Pan} (I : Inv w0 ps0 H0 H [] w) (hR : ∀ (r0 : Bool) (H' : Hp) (w' : World) (_ : Inv w0 ps0 H0 H' [] w') (_ : K r0 H'), R (Value.bool r0) w') (h : a1w x0 H K) : d0M (Value.string x0) w R E := by
 unfold a1w at h
 unfold d0M
 have hj1 : ∀ (o4 : Bool) (H : Hp) (w : World) (_ : Inv w0 ps0 H0 H [] w) (_ : i5 o4 H K), c1W (Value.bool o4) w R E := by
  intro o4 H w I h
  unfold c1W
  intro _
  unfold i5 at h
  refine k9 (fun c_1 => ?_) (fun c_1 => ?_)
  ·replace h := h.1 c_1
   exact hR true H _ I h
  ·replace h := h.2 c_1
   exact hR false H _ I h
 refine p9 fun j1 hx1 => ?_
 refine a7 (F0 _ _ _ _ _) ?_
 refine g9 (fun b1p => ?_) (fun b1p => ?_)
 ·replace h := h.1 b1p
  exact hx1 _ _ (hj1 (decide (x0 = ⟨#[118, 97, 114]⟩)) H _ I h)
 ·replace h := h.2 b1p
  refine a7 (F0 _ _ _ _ _) ?_
  refine g9 (fun b8i => ?_) (fun b8i => ?_)
  ·replace h := h.1 b8i
   exact hx1 _ _ (hj1 (decide (x0 = ⟨#[97, 114, 114, 97, 121]⟩)) H _ I h)
  ·replace h := h.2 b8i
   refine a7 (F0 _ _ _ _ _) ?_
   refine g9 (fun c_9 => ?_) (fun c_9 => ?_)
   ·replace h := h.1 c_9
    exact hx1 _ _ (hj1 (decide (x0 = ⟨#[105, 102]⟩)) H _ I h)
   ·replace h := h.2 c_9
    refine a7 (F0 _ _ _ _ _) ?_
    refine g9 (fun c_8 => ?_) (fun c_8 => ?_)
    ·replace h := h.1 c_8
     exact hx1 _ _ (hj1 (decide (x0 = ⟨#[101, 108, 115, 101]⟩)) H _ I h)
    ·replace h := h.2 c_8
     refine a7 (F0 _ _ _ _ _) ?_
     refine g9 (fun c_7 => ?_) (fun c_7 => ?_)
     ·replace h := h.1 c_7
      exact hx1 _ _ (hj1 (decide (x0 = ⟨#[119, 104, 105, 108, 101]⟩)) H _ I h)
     ·replace h := h.2 c_7
      refine a7 (F0 _ _ _ _ _) ?_
      refine g9 (fun c_6 => ?_) (fun c_6 => ?_)
      ·replace h := h.1 c_6
       exact hx1 _ _ (hj1 (decide (x0 = ⟨#[97, 115, 115, 101, 114, 116]⟩)) H _ I h)
      ·replace h := h.2 c_6
       refine a7 (F0 _ _ _ _ _) ?_
       refine g9 (fun c_5 => ?_) (fun c_5 => ?_)
       ·replace h := h.1 c_5
        exact hx1 _ _ (hj1 (decide (x0 = ⟨#[97, 115, 115, 117, 109, 101]⟩)) H _ I h)
       ·replace h := h.2 c_5
        refine a7 (F0 _ _ _ _ _) ?_
        refine g9 (fun c_4 => ?_) (fun c_4 => ?_)
        ·replace h := h.1 c_4
         exact hx1 _ _ (hj1 (decide (x0 = ⟨#[115, 107, 105, 112]⟩)) H _ I h)
        ·replace h := h.2 c_4
         refine a7 (F0 _ _ _ _ _) ?_
         refine g9 (fun c_3 => ?_) (fun c_3 => ?_)
         ·replace h := h.1 c_3
          exact hx1 _ _ (hj1 (decide (x0 = ⟨#[105, 110, 112, 117, 116]⟩)) H _ I h)
         ·replace h := h.2 c_3
          refine a7 (F0 _ _ _ _ _) ?_
          refine g9 (fun c_2 => ?_) (fun c_2 => ?_)
          ·replace h := h.1 c_2
           exact hx1 _ _ (hj1 (decide (x0 = ⟨#[116, 114, 117, 101]⟩)) H _ I h)
          ·replace h := h.2 c_2
           refine a7 (F0 _ _ _ _ _) ?_
           exact hx1 _ _ (hj1 (decide (x0 = ⟨#[102, 97, 108, 115, 101]⟩)) H _ I h)
theorem b2k (x0 : ByteArray) {H : Hp} {K : Bool → Hp → Prop} (h : a1w x0 H K) : a3x x0 H K := by
 intro w I
 refine e2J ?_
 refine b0t x0 I (fun r0 H' w' I' hk => ⟨H', _, I', r0, rfl, rfl, hk⟩) h
def a0k (a6r : Int) (H : Hp) (K : Bool → Hp → Prop) : Prop :=
 K (decide (a6r ≤ 32)) H
def Q6 (a8b : ByteArray) (a4U : Int) (a2j : Int) (H : Hp) (n2 : (Int × Int) → Hp → Prop) (K : Bool → Hp → Prop) : Prop :=
 (a2j < (a8b.size : Int) →
 a3w a8b a2j H (fun (o6 : Int) (a0w : Int) (d0T : Bool) (a1T : Hp) =>
 a3d o6 a1T (fun (C1 : Int) (Q2 : Hp) =>
 (((!d0T) || ((!decide (C1 = 3)) && ((!decide (C1 = 4)) || (decide (a4U = 0))))) = true →
 K false Q2) ∧
 (((!d0T) || ((!decide (C1 = 3)) && ((!decide (C1 = 4)) || (decide (a4U = 0))))) = false →
 n2 ((IntKind.wrap .i64 (a4U + 1)), (IntKind.wrap .i64 (a2j + a0w))) Q2)))) ∧
 (¬ (a2j < (a8b.size : Int)) →
 a0k a4U H K)
def a1x (x0 : ByteArray) (H : Hp) (K : Bool → Hp → Prop) : Prop :=
 TG (((decide (x0 = ⟨#[]⟩)) || (decide (128 < (x0.size : Int)))) = false) (a3x x0 H) false H (fun (K1 : Bool) (H_1 : Hp) =>
 ((((decide (x0 = ⟨#[]⟩)) || (decide (128 < (x0.size : Int)))) || K1) = true →
 K false H_1) ∧
 ((((decide (x0 = ⟨#[]⟩)) || (decide (128 < (x0.size : Int)))) || K1) = false →
 TL ((0, 0) : Int × Int) H_1 fun (s : Int × Int) H n2 => Q6 x0 s.1 s.2 H n2 K))
theorem b0u (x0 : ByteArray) {w0 w : World} {ps0 : Nat → Prop} {H0 H : Hp} {K : Bool → Hp → Prop} {R : Value → World → Prop} {E : Pan} (I : Inv w0 ps0 H0 H [] w) (hR : ∀ (r0 : Bool) (H' : Hp) (w' : World) (_ : Inv w0 ps0 H0 H' [] w') (_ : K r0 H'), R (Value.bool r0) w') (h : a1x x0 H K) : F93 (Value.string x0) w R E := by
 unfold a1x at h
 unfold F93
 refine a7 (F0 _ _ _ _ _) ?_
 try simp only [m9]
 refine a7 (Pu.g fun hb => by have a6 := hb; first | exact (a8N _) | (simp only [a8 a6]; exact (a8N _)) | (simp only [b7 a6, a8 a6, a8 hb, v1 a6, d9]; exact (a8N _))) ?_
 refine a7 (Pu.g fun hb => by have a6 := hb; first | exact (a2W _ _ _ _ _ _) | (simp only [a8 a6]; exact (a2W _ _ _ _ _ _)) | (simp only [b7 a6, a8 a6, a8 hb, v1 a6, d9]; exact (a2W _ _ _ _ _ _))) ?_
 refine a7 (E1 _ _) ?_
 try simp only [m9]
 refine L2 (D := fun v_5 w_2 => ∃ (K1 : Bool) (H_1 : Hp) , v_5 = (gv ((decide (x0 = ⟨#[]⟩)) || (decide (128 < (x0.size : Int)))) false (Value.bool K1)) ∧ (Inv w0 ps0 H0 H_1 [] w_2) ∧ (∀ i, i < w.heap.size → ¬ inF [] i → w_2.heap[i]? = w.heap[i]?) ∧ Hle H H_1 ∧ (((((decide (x0 = ⟨#[]⟩)) || (decide (128 < (x0.size : Int)))) || K1) = true →
 K false H_1) ∧
 ((((decide (x0 = ⟨#[]⟩)) || (decide (128 < (x0.size : Int)))) || K1) = false →
 TL ((0, 0) : Int × Int) H_1 fun (s : Int × Int) H n2 => Q6 x0 s.1 s.2 H n2 K))) (fun c2d => ?_) (fun c2d => ?_) ?_
 ·replace h := h.1 c2d
  have a6 := c2d
  try simp only [a8 a6]
  refine f8 (cap := []) (fun args w => Tryd.call117 args w) ?_
  refine i6 (Fi := []) (Fr := []) I (h) (fun v_5 H_1 F_6 w_2 I_3 l_8 k_4 q_7 => ?_) (fun _ _ _ _ _ q => q.elim)
  obtain ⟨K1, rfl, rfl, h⟩ := q_7
  exact ⟨K1, H_1, by first | rfl | rw [a8 c2d], I_3, k_4, l_8, h⟩
 ·exact ⟨false, H, by first | rfl | rw [a0E c2d], I, fun _ _ _ => rfl, Hle.refl _, h.2 c2d⟩
 ·clear h
  rintro v_5 w_2 ⟨K1, H_1, rfl, I_3, k_4, l_8, h⟩
  refine a7 (E1 _ _) ?_
  refine k9 (fun b9k => ?_) (fun b9k => ?_)
  ·replace h := h.1 b9k
   exact hR false H_1 _ I_3 h
  ·replace h := h.2 b9k
   have hj1 : ∀ (a6r : Int) (H : Hp) (w : World) (_ : Inv w0 ps0 H0 H [] w) (_ : a0k a6r H K), c6x (vi a6r) w R E := by
    intro a6r H w I h
    unfold c6x
    intro _
    unfold a0k at h
    refine a7 (a0N _ _ _ _ _ _) ?_
    exact hR (decide (a6r ≤ 32)) H _ I h
   refine p9 fun j1 hx1 => ?_
   obtain ⟨d7L, c6I, g3V, g3W⟩ := h
   refine v6 (J := fun n l w => ∃ (s : Int × Int) (H : Hp) , n = c6I s ∧ l = (match s with | (a4U, a2j) => [(vi a4U), (vi a2j)]) ∧ (match s with | (a4U, a2j) => Inv w0 ps0 H0 H [] w) ∧ d7L s H) ⟨_, (0, 0), H_1, rfl, rfl, I_3, g3V⟩ ?_
   rintro g8b τ_35 w next2 ⟨⟨a4U, a2j⟩, H, rfl, b3c, I, g3X⟩ hn2
   dsimp only at b3c I
   simp only [List.map_cons, List.map_nil, List.cons.injEq, and_true] at b3c
   obtain ⟨e3, e4⟩ := b3c
   simp only [e3, e4]
   obtain ⟨n2, hm2, h⟩ : ∃ n2 : (Int × Int) → Hp → Prop, (∀ s' H', n2 s' H' → d7L s' H' ∧ c6I s' < c6I (a4U, a2j)) ∧ Q6 x0 a4U a2j H n2 K := ⟨_, fun _ _ h => h, g3W (a4U, a2j) H (fun s' H' => d7L s' H' ∧ c6I s' < c6I (a4U, a2j)) g3X (fun _ _ a b => ⟨a, b⟩)⟩
   unfold d4h
   unfold Q6 at h
   refine a7 (a8N _) ?_
   refine a7 (r8 _ _ _ _ _ _) ?_
   refine g9 (fun b9g => ?_) (fun b9g => ?_)
   ·replace h := h.1 b9g
    refine f8 (cap := []) (fun args w => Tryd.call118 args w) ?_
    refine i6 (Fi := []) (Fr := []) I (h) (fun c1w a1T d5c Y2 G6 b6B b4o b8l => ?_) (fun _ _ _ _ _ q => q.elim)
    obtain ⟨o6, a0w, d0T, rfl, rfl, h⟩ := b8l
    refine a7 (v7 _ _ _ rfl) ?_
    refine a7 (v7 _ _ _ rfl) ?_
    refine a7 (v7 _ _ _ rfl) ?_
    refine f8 (cap := []) (fun args w => Tryd.call119 args w) ?_
    refine i6 (Fi := []) (Fr := []) G6 (h) (fun b4p Q2 c4Q o7 a3i b8m b2U b8n => ?_) (fun _ _ _ _ _ q => q.elim)
    obtain ⟨C1, rfl, rfl, h⟩ := b8n
    refine a7 (I7 _) ?_
    try simp only [m9]
    refine a7 (Pu.g fun hb => by have a6 := hb; first | exact (u7 _ _ _ _ _ _) | (simp only [a8 a6]; exact (u7 _ _ _ _ _ _)) | (simp only [b7 a6, a8 a6, a8 hb, v1 a6, d9]; exact (u7 _ _ _ _ _ _))) ?_
    try simp only [T5, Y1]
    try simp only [m9, T5, a2v, a1f, Y1, a2z, a2w, a2x, a2y, a2A]
    refine a7 (Pu.e (a3X _ _ _) (Pu.g fun hb => by obtain ⟨a6, k8⟩ := a5Z hb; first | exact (u7 _ _ _ _ _ _) | (simp only [a8 hb]; exact (u7 _ _ _ _ _ _)) | (simp only [b7 a6, a8 a6, b7 k8, a8 k8, a8 hb, l9 hb]; exact (u7 _ _ _ _ _ _)) | (simp only [b7 a6, a8 a6, b7 k8, a8 k8, a8 hb, c9 hb, d9]; exact (u7 _ _ _ _ _ _)))) ?_
    try simp only [T5, a1f]
    try simp only [m9, T5, a2v, a1f, Y1, a2z, a2w, a2x, a2y, a2A]
    refine a7 (Pu.e (a2I _ _ _) (Pu.g fun hb => by obtain ⟨a6u, a4w⟩ := a4a hb; obtain ⟨a6, k8⟩ := a5Z a6u; first | exact (d6 _ _ _ _ _ _) | (simp only [a8 hb]; exact (d6 _ _ _ _ _ _)) | (simp only [b7 a6, a8 a6, b7 k8, a8 k8, b7 a4w, a8 a4w, a8 hb, a8 a6u, l9 hb]; exact (d6 _ _ _ _ _ _)) | (simp only [b7 a6, a8 a6, b7 k8, a8 k8, b7 a4w, a8 a4w, a8 hb, a8 a6u, c9 hb, d9]; exact (d6 _ _ _ _ _ _)))) ?_
    refine a7 (Pu.e (a3X _ _ _) (Pu.g fun hb => by obtain ⟨a6, k8⟩ := a5Z hb; first | exact (E1 _ _) | (simp only [a8 hb]; exact (E1 _ _)) | (simp only [a8 hb, l9 hb]; exact (E1 _ _)) | (simp only [a8 hb, c9 hb]; exact (E1 _ _)))) ?_
    refine a7 (Pu.g fun hb => by have a6 := hb; first | exact (k7 _ _) | (simp only [a8 a6, a4b a6]; exact (k7 _ _)) | (simp only [b7 a6, a8 a6, a8 hb, v1 a6, d9]; exact (k7 _ _))) ?_
    refine a7 (E1 _ _) ?_
    refine k9 (fun d7M => ?_) (fun d7M => ?_)
    ·replace h := h.1 d7M
     exact hR false Q2 _ a3i h
    ·replace h := h.2 d7M
     refine a7 (q8 _ _ _ _ _ _) ?_
     refine a7 (q8 _ _ _ _ _ _) ?_
     exact hn2 _ _ _ (hm2 _ _ h).2 ⟨((IntKind.wrap .i64 (a4U + 1)), (IntKind.wrap .i64 (a2j + a0w))), Q2, rfl, rfl, a3i, (hm2 _ _ h).1⟩
   ·replace h := h.2 b9g
    exact hx1 _ _ (hj1 a4U H _ I h)
theorem b2l (x0 : ByteArray) {H : Hp} {K : Bool → Hp → Prop} (h : a1x x0 H K) : a1j x0 H K := by
 intro w I
 refine f4r ?_
 refine b0u x0 I (fun r0 H' w' I' hk => ⟨H', _, I', r0, rfl, rfl, hk⟩) h
def X6 (x0 : b6) (x1 : ByteArray) (x2 : Bool) (H : Hp) (K : b6 → Hp → Prop) : Prop :=
 ((!x2) = true →
 K (b6.mk (x0.fok && (decide (x1 = ⟨#[]⟩))) x0.fnames) H) ∧
 ((!x2) = false →
 TG (x0.fnames = true) (a1j x1 H) false H (fun (a9x : Bool) (H_4 : Hp) =>
 K (b6.mk x0.fok (x0.fnames && a9x)) H_4))
theorem a8n (x0 : b6) (x1 : ByteArray) (x2 : Bool) (g0 : Nat) {w0 w : World} {ps0 : Nat → Prop} {H0 H : Hp} {K : b6 → Hp → Prop} {R : Value → World → Prop} {E : Pan} (I : Inv w0 ps0 H0 H [bx g0 102 (g1 x0)] w) (hR : ∀ (y0 : b6) (H' : Hp) (w' : World) (_ : Inv w0 ps0 H0 H' [bx g0 102 (g1 y0)] w') (_ : K y0 H'), R (Value.tuple #[]) w') (h : X6 x0 x1 x2 H K) : F64 (Value.pointer (some ⟨g0, 0, none⟩)) (Value.string x1) (Value.bool x2) w R E := by
 unfold X6 at h
 unfold F64
 refine a7 (I7 _) ?_
 refine k9 (fun a3A => ?_) (fun a3A => ?_)
 ·replace h := h.1 a3A
  refine a7 (i7 _) ?_
  refine a7 p8 ?_
  refine c7 (ld1 Tryd.isAgg4 (I.at1 (o := 0) (vs := [(Value.bool x0.fok)]) (nb rfl) rfl)) ?_
  try simp only [m9]
  refine a7 (Pu.g fun hb => by have a6 := hb; first | exact (F0 _ _ _ _ _) | (simp only [a8 a6]; exact (F0 _ _ _ _ _)) | (simp only [b7 a6, a8 a6, a8 hb, c9 a6, d9]; exact (F0 _ _ _ _ _))) ?_
  refine a7 (k7 _ _) ?_
  refine a7 (i7 _) ?_
  refine a7 p8 ?_
  refine u1 I Tryd.sizeOf4 (vs := [(Value.bool (x0.fok && (decide (x1 = ⟨#[]⟩))))]) (cs' := [(Value.bool (x0.fok && (decide (x1 = ⟨#[]⟩)))), (Value.bool x0.fnames)]) rfl rfl (nb rfl) rfl rfl fun w_1 I_2 k_3 => ?_
  exact hR (b6.mk (x0.fok && (decide (x1 = ⟨#[]⟩))) x0.fnames) H _ I_2 h
 ·replace h := h.2 a3A
  refine a7 (i7 _) ?_
  refine a7 b2O ?_
  refine c7 (ld1 Tryd.isAgg4 (I.at1 (o := 1) (vs := [(Value.bool x0.fnames)]) (nb rfl) rfl)) ?_
  try simp only [m9]
  refine L2 (D := fun v_8 w_5 => ∃ (a9x : Bool) (H_4 : Hp) , v_8 = (gv x0.fnames true (Value.bool a9x)) ∧ (Inv w0 ps0 H0 H_4 [bx g0 102 (g1 x0)] w_5) ∧ (∀ i, i < w.heap.size → ¬ inF [] i → w_5.heap[i]? = w.heap[i]?) ∧ Hle H H_4 ∧ (K (b6.mk x0.fok (x0.fnames && a9x)) H_4)) (fun c2e => ?_) (fun c2e => ?_) ?_
  ·replace h := h.1 c2e
   have a6 := c2e
   try simp only [a8 a6]
   refine f8 (cap := []) (fun args w => Tryd.call93 args w) ?_
   refine i6 (Fi := []) (Fr := [bx g0 102 (g1 x0)]) I (h) (fun v_8 H_4 F_9 w_5 I_6 c9f k_7 g3Y => ?_) (fun _ _ _ _ _ q => q.elim)
   obtain ⟨a9x, rfl, rfl, h⟩ := g3Y
   exact ⟨a9x, H_4, by first | rfl | rw [a8 c2e], I_6, k_7, c9f, h⟩
  ·exact ⟨false, H, by first | rfl | rw [a0E c2e], I, fun _ _ _ => rfl, Hle.refl _, h.2 c2e⟩
  ·clear h
   rintro v_8 w_5 ⟨a9x, H_4, rfl, I_6, k_7, c9f, h⟩
   refine a7 (k7 _ _) ?_
   refine a7 (i7 _) ?_
   refine a7 b2O ?_
   refine u1 I_6 Tryd.sizeOf4 (vs := [(Value.bool (x0.fnames && a9x))]) (cs' := [(Value.bool x0.fok), (Value.bool (x0.fnames && a9x))]) rfl rfl (nb rfl) rfl rfl fun V5 T2 b2T => ?_
   exact hR (b6.mk x0.fok (x0.fnames && a9x)) H_4 _ T2 h
theorem a8B (x0 : b6) (x1 : ByteArray) (x2 : Bool) {H : Hp} {K : b6 → Hp → Prop} (h : X6 x0 x1 x2 H K) : O4 x0 x1 x2 H K := by
 intro g0 w I
 refine f3G ?_
 refine a8n x0 x1 x2 g0 I (fun y0 H' w' I' hk => ⟨H', _, I', y0, rfl, rfl, hk⟩) h
def S1 (cr_1l2 : h9) (A9 : Int) (N7 : b6) (H : Hp) (n2 : (Int × b6) → Hp → Prop) (K : b6 → Hp → Prop) : Prop :=
 (((decide (A9 < (cr_1l2.t1.n : Int))) && N7.fok) = true →
 (0 : Int) ≤ A9 ∧ (A9 : Int) < cr_1l2.t1.n ∧ ∃ d0U : h9, EltH H cr_1l2.t1 A9 4 (f4 d0U) ∧
 O5 N7 d0U H (fun (d0V : b6) (d7N : Hp) =>
 n2 ((IntKind.wrap .i64 (A9 + 1)), d0V) d7N)) ∧
 (((decide (A9 < (cr_1l2.t1.n : Int))) && N7.fok) = false →
 K N7 H)
def B0 (o4 : Int) (cr_1j1 : h9) (J1 : b6) (H : Hp) (K : b6 → Hp → Prop) : Prop :=
 O4 J1 cr_1j1.g7 ((decide (cr_1j1.b9 = 2)) || (decide (cr_1j1.b9 = 4))) H (fun (L1 : b6) (H_6 : Hp) =>
 TL ((0, (b6.mk ((L1.fok && (decide ((cr_1j1.t1.n : Int) = o4))) && ((decide (cr_1j1.I3 = 0)) || ((decide (cr_1j1.b9 = 1)) && (decide (0 < cr_1j1.I3))))) L1.fnames)) : Int × b6) H_6 fun (s : Int × b6) H n2 => S1 cr_1j1 s.1 s.2 H n2 K)
def w4 (g3Z : Int) (b7A : Bool) (cr_1j5 : h9) (d9j : b6) (H : Hp) (K : b6 → Hp → Prop) : Prop :=
 (b7A = true →
 B0 2 cr_1j5 d9j H K) ∧
 (b7A = false →
 B0 g3Z cr_1j5 (b6.mk false d9j.fnames) H K)
def H9 (c6J : Int) (a9k : Int) (b7B : Bool) (cr_1j4 : h9) (a6h : b6) (H : Hp) (K : b6 → Hp → Prop) : Prop :=
 (b7B = true →
 B0 1 cr_1j4 a6h H K) ∧
 (b7B = false →
 (a9k = 6 →
 w4 c6J (decide (a9k = 6)) cr_1j4 a6h H K) ∧
 (¬ (a9k = 6) →
 (a9k = 7 →
 w4 c6J (decide (a9k = 7)) cr_1j4 a6h H K) ∧
 (¬ (a9k = 7) →
 (a9k = 8 →
 w4 c6J (decide (a9k = 8)) cr_1j4 a6h H K) ∧
 (¬ (a9k = 8) →
 (a9k = 9 →
 w4 c6J (decide (a9k = 9)) cr_1j4 a6h H K) ∧
 (¬ (a9k = 9) →
 w4 c6J (decide (a9k = 10)) cr_1j4 a6h H K)))))
def D4 (d7O : Int) (c2f : Int) (b7C : Bool) (cr_1j3 : h9) (a0R : b6) (H : Hp) (K : b6 → Hp → Prop) : Prop :=
 (b7C = true →
 B0 d7O cr_1j3 a0R H K) ∧
 (b7C = false →
 (c2f = 4 →
 H9 d7O c2f (decide (c2f = 4)) cr_1j3 a0R H K) ∧
 (¬ (c2f = 4) →
 H9 d7O c2f (decide (c2f = 5)) cr_1j3 a0R H K))
def X7 (x0 : b6) (x1 : h9) (H : Hp) (K : b6 → Hp → Prop) : Prop :=
 (x1.b9 = 1 →
 D4 0 x1.b9 (decide (x1.b9 = 1)) x1 x0 H K) ∧
 (¬ (x1.b9 = 1) →
 (x1.b9 = 2 →
 D4 0 x1.b9 (decide (x1.b9 = 2)) x1 x0 H K) ∧
 (¬ (x1.b9 = 2) →
 D4 0 x1.b9 (decide (x1.b9 = 3)) x1 x0 H K))
theorem a8o (x0 : b6) (x1 : h9) (g0 : Nat) {w0 w : World} {ps0 : Nat → Prop} {H0 H : Hp} {K : b6 → Hp → Prop} {R : Value → World → Prop} {E : Pan} (I : Inv w0 ps0 H0 H [bx g0 102 (g1 x0)] w) (hR : ∀ (y0 : b6) (H' : Hp) (w' : World) (_ : Inv w0 ps0 H0 H' [bx g0 102 (g1 y0)] w') (_ : K y0 H'), R (Value.tuple #[]) w') (h : X7 x0 x1 H K) : F59 (Value.pointer (some ⟨g0, 0, none⟩)) (Value.agg (f4 x1).toArray) w R E := by
 unfold X7 at h
 unfold F59
 refine G7 I (cs := (f4 x1)) rfl fun g_2 w_3 I_4 k_5 => ?_
 have hj1 : ∀ (o4 : Int) (J1 : b6) (H : Hp) (w : World) (_ : Inv w0 ps0 H0 H [bx g_2 30 (f4 x1), bx g0 102 (g1 J1)] w) (_ : B0 o4 x1 J1 H K), c5Z (Value.pointer (some ⟨g0, 0, none⟩)) (Value.pointer (some ⟨g_2, 0, none⟩)) (vi o4) w R E := by
  intro o4 J1 H w I h
  unfold c5Z
  intro _
  unfold B0 at h
  refine a7 Y6 ?_
  refine c7 (ld1 Tryd.isAgg9 (I.at1 (o := 2) (vs := [(Value.string x1.g7)]) (nb rfl) rfl)) ?_
  refine a7 G1 ?_
  refine c7 (ld1 Tryd.isAgg3 (I.at1 (o := 0) (vs := [(vi x1.b9)]) (nb rfl) rfl)) ?_
  refine a7 (d6 _ _ _ _ _ _) ?_
  refine a7 (Pu.g fun hb => by have a6 := hb; first | exact G1 | (simp only [b7 a6, a8 a6, a8 hb, a4b a6]; exact G1) | (simp only [b7 a6, a8 a6, a8 hb, v1 a6, d9]; exact G1)) ?_
  refine c7 (Ld.g fun hb => by have a6 := hb; first | exact (ld1 Tryd.isAgg3 (I.at1 (o := 0) (vs := [(vi x1.b9)]) (nb rfl) rfl)) | (simp only [a8 a6]; exact (ld1 Tryd.isAgg3 (I.at1 (o := 0) (vs := [(vi x1.b9)]) (nb rfl) rfl))) | (simp only [b7 a6, a8 a6, a8 hb, v1 a6, d9]; exact (ld1 Tryd.isAgg3 (I.at1 (o := 0) (vs := [(vi x1.b9)]) (nb rfl) rfl)))) ?_
  refine a7 (Pu.g fun hb => by have a6 := hb; first | exact (d6 _ _ _ _ _ _) | (simp only [a8 a6]; exact (d6 _ _ _ _ _ _)) | (simp only [b7 a6, a8 a6, a8 hb, v1 a6, d9]; exact (d6 _ _ _ _ _ _))) ?_
  refine a7 (E1 _ _) ?_
  refine f8 (cap := []) (fun args w => Tryd.call64 args w) ?_
  refine i6 (Fi := [bx g0 102 (g1 J1)]) (Fr := [bx g_2 30 (f4 x1)]) (I.bring 1) (h g0) (fun a6Q H_6 a6q w_7 I_8 a6R k_9 a0J => ?_) (fun _ _ _ _ _ q => q.elim)
  obtain ⟨L1, rfl, rfl, h⟩ := a0J
  refine a7 (i7 _) ?_
  refine a7 p8 ?_
  refine c7 (ld1 Tryd.isAgg4 (I_8.at1 (o := 0) (vs := [(Value.bool L1.fok)]) (nb rfl) rfl)) ?_
  refine a7 (Pu.g fun hb => by have a6 := hb; first | exact M6 | (simp only [b7 a6, a8 a6, a8 hb, l9 a6]; exact M6) | (simp only [b7 a6, a8 a6, a8 hb, c9 a6, d9]; exact M6)) ?_
  refine c7 (Ld.g fun hb => by have a6 := hb; first | exact (ld1 Tryd.isAgg28 ((I_8.bring 1).at1 (o := 3) (vs := [(vs x1.t1)]) (nb rfl) rfl)) | (simp only [a8 a6]; exact (ld1 Tryd.isAgg28 ((I_8.bring 1).at1 (o := 3) (vs := [(vs x1.t1)]) (nb rfl) rfl))) | (simp only [b7 a6, a8 a6, a8 hb, c9 a6, d9]; exact (ld1 Tryd.isAgg28 ((I_8.bring 1).at1 (o := 3) (vs := [(vs x1.t1)]) (nb rfl) rfl)))) ?_
  refine a7 (Pu.g fun hb => by have a6 := hb; first | exact (F5 _ _ _) | (simp only [a8 a6]; exact (F5 _ _ _)) | (simp only [b7 a6, a8 a6, a8 hb, c9 a6, d9]; exact (F5 _ _ _))) ?_
  try simp only [m9]
  refine a7 (Pu.g fun hb => by have a6 := hb; first | exact (d6 _ _ _ _ _ _) | (simp only [a8 a6]; exact (d6 _ _ _ _ _ _)) | (simp only [b7 a6, a8 a6, a8 hb, c9 a6, d9]; exact (d6 _ _ _ _ _ _))) ?_
  refine a7 (k7 _ _) ?_
  refine a7 (Pu.g fun hb => by have a6 := hb; first | exact M7 | (simp only [b7 a6, a8 a6, a8 hb, l9 a6]; exact M7) | (simp only [b7 a6, a8 a6, a8 hb, c9 a6, d9]; exact M7)) ?_
  refine c7 (Ld.g fun hb => by have a6 := hb; first | exact (ld1 Tryd.isAgg2 ((I_8.bring 1).at1 (o := 1) (vs := [(vi x1.I3)]) (nb rfl) rfl)) | (simp only [a8 a6]; exact (ld1 Tryd.isAgg2 ((I_8.bring 1).at1 (o := 1) (vs := [(vi x1.I3)]) (nb rfl) rfl))) | (simp only [b7 a6, a8 a6, a8 hb, c9 a6, d9]; exact (ld1 Tryd.isAgg2 ((I_8.bring 1).at1 (o := 1) (vs := [(vi x1.I3)]) (nb rfl) rfl)))) ?_
  refine a7 (Pu.g fun hb => by have a6 := hb; first | exact (d6 _ _ _ _ _ _) | (simp only [a8 a6]; exact (d6 _ _ _ _ _ _)) | (simp only [b7 a6, a8 a6, a8 hb, c9 a6, d9]; exact (d6 _ _ _ _ _ _))) ?_
  try simp only [m9, T5, a1f]
  refine a7 (Pu.e (a2I _ _ _) (Pu.g fun hb => by obtain ⟨a6, k8⟩ := a4a hb; first | exact G1 | (simp only [b7 a6, a8 a6, b7 k8, a8 k8, a8 hb, d9]; exact G1) | (simp only [b7 a6, a8 a6, b7 k8, a8 k8, a8 hb, l9 hb]; exact G1) | (simp only [b7 a6, a8 a6, b7 k8, a8 k8, a8 hb, c9 hb, d9]; exact G1))) ?_
  refine c7 (Ld.e (a2I _ _ _) (Ld.g fun hb => by obtain ⟨a6, k8⟩ := a4a hb; first | exact (ld1 Tryd.isAgg3 ((I_8.bring 1).at1 (o := 0) (vs := [(vi x1.b9)]) (nb rfl) rfl)) | (simp only [a8 hb]; exact (ld1 Tryd.isAgg3 ((I_8.bring 1).at1 (o := 0) (vs := [(vi x1.b9)]) (nb rfl) rfl))) | (simp only [b7 a6, a8 a6, b7 k8, a8 k8, a8 hb, l9 hb]; exact (ld1 Tryd.isAgg3 ((I_8.bring 1).at1 (o := 0) (vs := [(vi x1.b9)]) (nb rfl) rfl))) | (simp only [b7 a6, a8 a6, b7 k8, a8 k8, a8 hb, c9 hb, d9]; exact (ld1 Tryd.isAgg3 ((I_8.bring 1).at1 (o := 0) (vs := [(vi x1.b9)]) (nb rfl) rfl))))) ?_
  refine a7 (Pu.e (a2I _ _ _) (Pu.g fun hb => by obtain ⟨a6, k8⟩ := a4a hb; first | exact (d6 _ _ _ _ _ _) | (simp only [a8 hb]; exact (d6 _ _ _ _ _ _)) | (simp only [b7 a6, a8 a6, b7 k8, a8 k8, a8 hb, l9 hb]; exact (d6 _ _ _ _ _ _)) | (simp only [b7 a6, a8 a6, b7 k8, a8 k8, a8 hb, c9 hb, d9]; exact (d6 _ _ _ _ _ _)))) ?_
  try simp only [T5]
  refine a7 (Pu.e (c0V _ _ _) (Pu.g fun hb => by obtain ⟨a6u, a4w⟩ := c8H hb; obtain ⟨a6, k8⟩ := a4a a6u; first | exact M7 | (simp only [b7 a6, a8 a6, b7 k8, a8 k8, b7 a4w, a8 a4w, a8 hb, a8 a6u, d9]; exact M7) | (simp only [b7 a6, a8 a6, b7 k8, a8 k8, b7 a4w, a8 a4w, a8 hb, a8 a6u, l9 hb]; exact M7) | (simp only [b7 a6, a8 a6, b7 k8, a8 k8, b7 a4w, a8 a4w, a8 hb, a8 a6u, c9 hb, d9]; exact M7))) ?_
  refine c7 (Ld.e (c0V _ _ _) (Ld.g fun hb => by obtain ⟨a6u, a4w⟩ := c8H hb; obtain ⟨a6, k8⟩ := a4a a6u; first | exact (ld1 Tryd.isAgg2 ((I_8.bring 1).at1 (o := 1) (vs := [(vi x1.I3)]) (nb rfl) rfl)) | (simp only [a8 hb]; exact (ld1 Tryd.isAgg2 ((I_8.bring 1).at1 (o := 1) (vs := [(vi x1.I3)]) (nb rfl) rfl))) | (simp only [b7 a6, a8 a6, b7 k8, a8 k8, b7 a4w, a8 a4w, a8 hb, a8 a6u, l9 hb]; exact (ld1 Tryd.isAgg2 ((I_8.bring 1).at1 (o := 1) (vs := [(vi x1.I3)]) (nb rfl) rfl))) | (simp only [b7 a6, a8 a6, b7 k8, a8 k8, b7 a4w, a8 a4w, a8 hb, a8 a6u, c9 hb, d9]; exact (ld1 Tryd.isAgg2 ((I_8.bring 1).at1 (o := 1) (vs := [(vi x1.I3)]) (nb rfl) rfl))))) ?_
  refine a7 (Pu.e (c0V _ _ _) (Pu.g fun hb => by obtain ⟨a6u, a4w⟩ := c8H hb; obtain ⟨a6, k8⟩ := a4a a6u; first | exact (a2W _ _ _ _ _ _) | (simp only [a8 hb]; exact (a2W _ _ _ _ _ _)) | (simp only [b7 a6, a8 a6, b7 k8, a8 k8, b7 a4w, a8 a4w, a8 hb, a8 a6u, l9 hb]; exact (a2W _ _ _ _ _ _)) | (simp only [b7 a6, a8 a6, b7 k8, a8 k8, b7 a4w, a8 a4w, a8 hb, a8 a6u, c9 hb, d9]; exact (a2W _ _ _ _ _ _)))) ?_
  refine a7 (Pu.e (a2I _ _ _) (Pu.g fun hb => by obtain ⟨a6, k8⟩ := a4a hb; first | exact (k7 _ _) | (simp only [a8 hb]; exact (k7 _ _)) | (simp only [a8 hb, l9 hb]; exact (k7 _ _)) | (simp only [b7 a6, a8 a6, b7 k8, a8 k8, a8 hb, c9 hb, d9]; exact (k7 _ _)))) ?_
  refine a7 (Pu.g fun hb => by have a6 := hb; first | exact (E1 _ _) | (simp only [a8 a6, l9 a6]; exact (E1 _ _)) | (simp only [a8 a6, c9 a6]; exact (E1 _ _))) ?_
  refine a7 (k7 _ _) ?_
  refine a7 (i7 _) ?_
  refine a7 p8 ?_
  refine u1 I_8 Tryd.sizeOf4 (vs := [(Value.bool ((L1.fok && (decide ((x1.t1.n : Int) = o4))) && ((decide (x1.I3 = 0)) || ((decide (x1.b9 = 1)) && (decide (0 < x1.I3))))))]) (cs' := [(Value.bool ((L1.fok && (decide ((x1.t1.n : Int) = o4))) && ((decide (x1.I3 = 0)) || ((decide (x1.b9 = 1)) && (decide (0 < x1.I3)))))), (Value.bool L1.fnames)]) rfl rfl (nb rfl) rfl rfl fun a1C c4X f1f => ?_
  obtain ⟨d7P, c6K, g4a, g4b⟩ := h
  refine v6 (J := fun n l w => ∃ (s : Int × b6) (H : Hp) , n = c6K s ∧ l = (match s with | (A9, N7) => [(vi A9)]) ∧ (match s with | (A9, N7) => Inv w0 ps0 H0 H [bx g0 102 (g1 N7), bx g_2 30 (f4 x1)] w) ∧ d7P s H) ⟨_, (0, (b6.mk ((L1.fok && (decide ((x1.t1.n : Int) = o4))) && ((decide (x1.I3 = 0)) || ((decide (x1.b9 = 1)) && (decide (0 < x1.I3))))) L1.fnames)), H_6, rfl, rfl, ((c4X.bring 1).bring 1), g4a⟩ ?_
  rintro g8c τ_65 w next2 ⟨⟨A9, N7⟩, H, rfl, d7Q, I, g4c⟩ hn2
  dsimp only at d7Q I
  simp only [List.map_cons, List.map_nil, List.cons.injEq, and_true] at d7Q
  have e5 := d7Q
  simp only [e5]
  obtain ⟨n2, hm2, h⟩ : ∃ n2 : (Int × b6) → Hp → Prop, (∀ s' H', n2 s' H' → d7P s' H' ∧ c6K s' < c6K (A9, N7)) ∧ S1 x1 A9 N7 H n2 K := ⟨_, fun _ _ h => h, g4b (A9, N7) H (fun s' H' => d7P s' H' ∧ c6K s' < c6K (A9, N7)) g4c (fun _ _ a b => ⟨a, b⟩)⟩
  unfold d3Z
  unfold S1 at h
  refine a7 M6 ?_
  refine c7 (ld1 Tryd.isAgg28 ((I.bring 1).at1 (o := 3) (vs := [(vs x1.t1)]) (nb rfl) rfl)) ?_
  refine a7 (F5 _ _ _) ?_
  refine a7 (r8 _ _ _ _ _ _) ?_
  try simp only [m9]
  refine a7 (Pu.g fun hb => by have a6 := hb; first | exact (i7 _) | (simp only [a8 a6]; exact (i7 _)) | (simp only [b7 a6, a8 a6, a8 hb, c9 a6, d9]; exact (i7 _))) ?_
  refine a7 (Pu.g fun hb => by have a6 := hb; first | exact p8 | (simp only [a8 a6]; exact p8) | (simp only [b7 a6, a8 a6, a8 hb, c9 a6, d9]; exact p8)) ?_
  refine c7 (Ld.g fun hb => by have a6 := hb; first | exact (ld1 Tryd.isAgg4 (I.at1 (o := 0) (vs := [(Value.bool N7.fok)]) (nb rfl) rfl)) | (simp only [a8 a6]; exact (ld1 Tryd.isAgg4 (I.at1 (o := 0) (vs := [(Value.bool N7.fok)]) (nb rfl) rfl))) | (simp only [b7 a6, a8 a6, a8 hb, c9 a6, d9]; exact (ld1 Tryd.isAgg4 (I.at1 (o := 0) (vs := [(Value.bool N7.fok)]) (nb rfl) rfl)))) ?_
  refine a7 (k7 _ _) ?_
  refine k9 (fun d7R => ?_) (fun d7R => ?_)
  ·replace h := h.1 d7R
   refine a7 M6 ?_
   refine c7 (ld1 Tryd.isAgg28 ((I.bring 1).at1 (o := 3) (vs := [(vs x1.t1)]) (nb rfl) rfl)) ?_
   obtain ⟨c5i, g4d, d0U, b8y, h⟩ := h
   obtain ⟨g8d, g8e, d6z, b8y⟩ := b8y
   refine a7 (a2O d6z _ _ _ _ c5i g4d) ?_
   refine c7 (ldA (vs := (f4 d0U)) Tryd.isAgg30 Tryd.sizeOf30 rfl (I.atH b8y)) ?_
   refine f8 (cap := []) (fun args w => Tryd.call59 args w) ?_
   refine i6 (Fi := [bx g0 102 (g1 N7)]) (Fr := [bx g_2 30 (f4 x1)]) I (h g0) (fun g8f d7N g8g e5G d6A f1h g8h g4e => ?_) (fun _ _ _ _ _ q => q.elim)
   obtain ⟨d0V, rfl, rfl, h⟩ := g4e
   refine a7 (q8 _ _ _ _ _ _) ?_
   exact hn2 _ _ _ (hm2 _ _ h).2 ⟨((IntKind.wrap .i64 (A9 + 1)), d0V), d7N, rfl, rfl, ((d6A.bring 1).bring 1), (hm2 _ _ h).1⟩
  ·replace h := h.2 d7R
   exact hR N7 H _ (I.bring 1).drop h
 refine p9 fun j1 hx1 => ?_
 refine a7 G1 ?_
 refine c7 (ld1 Tryd.isAgg3 (I_4.at1 (o := 0) (vs := [(vi x1.b9)]) (nb rfl) rfl)) ?_
 have hj3 : ∀ (b7C : Bool) (H : Hp) (w : World) (_ : Inv w0 ps0 H0 H [bx g_2 30 (f4 x1), bx g0 102 (g1 x0)] w) (_ : D4 0 x1.b9 b7C x1 x0 H K), c6e (Value.pointer (some ⟨g0, 0, none⟩)) (Value.pointer (some ⟨g_2, 0, none⟩)) (vi 0) (vi x1.b9) (Value.bool b7C) w j1 R E := by
  intro b7C H w I h
  unfold c6e
  intro _
  unfold D4 at h
  refine k9 (fun b8U => ?_) (fun b8U => ?_)
  ·replace h := h.1 b8U
   exact hx1 _ _ (hj1 0 x0 H _ ((I.bring 1).bring 1) h)
  ·replace h := h.2 b8U
   have hj4 : ∀ (b7B : Bool) (H : Hp) (w : World) (_ : Inv w0 ps0 H0 H [bx g_2 30 (f4 x1), bx g0 102 (g1 x0)] w) (_ : H9 0 x1.b9 b7B x1 x0 H K), c6d (Value.pointer (some ⟨g0, 0, none⟩)) (Value.pointer (some ⟨g_2, 0, none⟩)) (vi 0) (vi x1.b9) (Value.bool b7B) w j1 R E := by
    intro b7B H w I h
    unfold c6d
    intro _
    unfold H9 at h
    refine k9 (fun b8W => ?_) (fun b8W => ?_)
    ·replace h := h.1 b8W
     exact hx1 _ _ (hj1 1 x0 H _ ((I.bring 1).bring 1) h)
    ·replace h := h.2 b8W
     have hj5 : ∀ (b7A : Bool) (H : Hp) (w : World) (_ : Inv w0 ps0 H0 H [bx g_2 30 (f4 x1), bx g0 102 (g1 x0)] w) (_ : w4 0 b7A x1 x0 H K), c6c (Value.pointer (some ⟨g0, 0, none⟩)) (Value.pointer (some ⟨g_2, 0, none⟩)) (vi 0) (Value.bool b7A) w j1 R E := by
      intro b7A H w I h
      unfold c6c
      intro _
      unfold w4 at h
      refine k9 (fun b1K => ?_) (fun b1K => ?_)
      ·replace h := h.1 b1K
       exact hx1 _ _ (hj1 2 x0 H _ ((I.bring 1).bring 1) h)
      ·replace h := h.2 b1K
       refine a7 (i7 _) ?_
       refine a7 p8 ?_
       refine u1 (I.bring 1) Tryd.sizeOf4 (vs := [(Value.bool false)]) (cs' := [(Value.bool false), (Value.bool x0.fnames)]) rfl rfl (nb rfl) rfl rfl fun a0F g4f g8i => ?_
       exact hx1 _ _ (hj1 0 (b6.mk false x0.fnames) H _ (g4f.bring 1) h)
     refine p9 fun j5 hx5 => ?_
     refine a7 (d6 _ _ _ _ _ _) ?_
     refine g9 (fun b1J => ?_) (fun b1J => ?_)
     ·replace h := h.1 b1J
      exact hx5 _ _ (hj5 (decide (x1.b9 = 6)) H _ ((I.bring 1).bring 1) h)
     ·replace h := h.2 b1J
      refine a7 (d6 _ _ _ _ _ _) ?_
      refine g9 (fun a6Z => ?_) (fun a6Z => ?_)
      ·replace h := h.1 a6Z
       exact hx5 _ _ (hj5 (decide (x1.b9 = 7)) H _ ((I.bring 1).bring 1) h)
      ·replace h := h.2 a6Z
       refine a7 (d6 _ _ _ _ _ _) ?_
       refine g9 (fun b1U => ?_) (fun b1U => ?_)
       ·replace h := h.1 b1U
        exact hx5 _ _ (hj5 (decide (x1.b9 = 8)) H _ ((I.bring 1).bring 1) h)
       ·replace h := h.2 b1U
        refine a7 (d6 _ _ _ _ _ _) ?_
        refine g9 (fun a5q => ?_) (fun a5q => ?_)
        ·replace h := h.1 a5q
         exact hx5 _ _ (hj5 (decide (x1.b9 = 9)) H _ ((I.bring 1).bring 1) h)
        ·replace h := h.2 a5q
         refine a7 (d6 _ _ _ _ _ _) ?_
         exact hx5 _ _ (hj5 (decide (x1.b9 = 10)) H _ ((I.bring 1).bring 1) h)
   refine p9 fun j4 hx4 => ?_
   refine a7 (d6 _ _ _ _ _ _) ?_
   refine g9 (fun b8V => ?_) (fun b8V => ?_)
   ·replace h := h.1 b8V
    exact hx4 _ _ (hj4 (decide (x1.b9 = 4)) H _ ((I.bring 1).bring 1) h)
   ·replace h := h.2 b8V
    refine a7 (d6 _ _ _ _ _ _) ?_
    exact hx4 _ _ (hj4 (decide (x1.b9 = 5)) H _ ((I.bring 1).bring 1) h)
 refine p9 fun j3 hx3 => ?_
 refine a7 (d6 _ _ _ _ _ _) ?_
 refine g9 (fun b1T => ?_) (fun b1T => ?_)
 ·replace h := h.1 b1T
  exact hx3 _ _ (hj3 (decide (x1.b9 = 1)) H _ ((I_4.bring 1).bring 1) h)
 ·replace h := h.2 b1T
  refine a7 (d6 _ _ _ _ _ _) ?_
  refine g9 (fun b8T => ?_) (fun b8T => ?_)
  ·replace h := h.1 b8T
   exact hx3 _ _ (hj3 (decide (x1.b9 = 2)) H _ ((I_4.bring 1).bring 1) h)
  ·replace h := h.2 b8T
   refine a7 (d6 _ _ _ _ _ _) ?_
   exact hx3 _ _ (hj3 (decide (x1.b9 = 3)) H _ ((I_4.bring 1).bring 1) h)
theorem a8C (x0 : b6) (x1 : h9) {H : Hp} {K : b6 → Hp → Prop} (h : X7 x0 x1 H K) : O5 x0 x1 H K := by
 intro g0 w I
 refine f2R ?_
 refine a8o x0 x1 g0 I (fun y0 H' w' I' hk => ⟨H', _, I', y0, rfl, rfl, hk⟩) h
def X8 (x0 : b6) (H : Hp) (K : Int → Hp → Prop) : Prop :=
 ((!x0.fok) = true →
 K 30 H) ∧
 ((!x0.fok) = false →
 ((!x0.fnames) = true →
 K 31 H) ∧
 ((!x0.fnames) = false →
 K 0 H))
theorem a8p (x0 : b6) {w0 w : World} {ps0 : Nat → Prop} {H0 H : Hp} {K : Int → Hp → Prop} {R : Value → World → Prop} {E : Pan} (I : Inv w0 ps0 H0 H [] w) (hR : ∀ (r0 : Int) (H' : Hp) (w' : World) (_ : Inv w0 ps0 H0 H' [] w') (_ : K r0 H'), R (vi r0) w') (h : X8 x0 H K) : F60 (Value.agg (g1 x0).toArray) w R E := by
 unfold X8 at h
 unfold F60
 refine G7 I (cs := (g1 x0)) rfl fun g_2 w_3 I_4 k_5 => ?_
 refine a7 p8 ?_
 refine c7 (ld1 Tryd.isAgg4 (I_4.at1 (o := 0) (vs := [(Value.bool x0.fok)]) (nb rfl) rfl)) ?_
 refine a7 (I7 _) ?_
 refine k9 (fun c_7 => ?_) (fun c_7 => ?_)
 ·replace h := h.1 c_7
  exact hR 30 H _ I_4.drop h
 ·replace h := h.2 c_7
  refine a7 b2O ?_
  refine c7 (ld1 Tryd.isAgg4 (I_4.at1 (o := 1) (vs := [(Value.bool x0.fnames)]) (nb rfl) rfl)) ?_
  refine a7 (I7 _) ?_
  refine k9 (fun c_6 => ?_) (fun c_6 => ?_)
  ·replace h := h.1 c_6
   exact hR 31 H _ I_4.drop h
  ·replace h := h.2 c_6
   exact hR 0 H _ I_4.drop h
theorem a8D (x0 : b6) {H : Hp} {K : Int → Hp → Prop} (h : X8 x0 H K) : a1D x0 H K := by
 intro w I
 refine f2T ?_
 refine a8p x0 I (fun r0 H' w' I' hk => ⟨H', _, I', r0, rfl, rfl, hk⟩) h
def S2 (cr_1l4 : k4) (a7j : Int) (N3 : b6) (H : Hp) (n4 : (Int × b6) → Hp → Prop) (K : b6 → Hp → Prop) : Prop :=
 (((decide (a7j < (cr_1l4.o5.n : Int))) && N3.fok) = true →
 (0 : Int) ≤ a7j ∧ (a7j : Int) < cr_1l4.o5.n ∧ ∃ d0W : k4, EltH H cr_1l4.o5 a7j 4 (f7 d0W) ∧
 W7 N3 d0W H (fun (G4 : b6) (b4N : Hp) =>
 n4 ((IntKind.wrap .i64 (a7j + 1)), G4) b4N)) ∧
 (((decide (a7j < (cr_1l4.o5.n : Int))) && N3.fok) = false →
 K N3 H)
def S3 (a0R : b6) (cr_1j3 : k4) (H : Hp) (K : b6 → Hp → Prop) : Prop :=
 TL ((0, a0R) : Int × b6) H fun (s : Int × b6) H n4 => S2 cr_1j3 s.1 s.2 H n4 K
def S4 (cr_1l5 : k4) (a7k : Int) (C0 : b6) (H : Hp) (n5 : (Int × b6) → Hp → Prop) (K : b6 → Hp → Prop) : Prop :=
 (((decide (a7k < (cr_1l5.f9.n : Int))) && C0.fok) = true →
 (0 : Int) ≤ a7k ∧ (a7k : Int) < cr_1l5.f9.n ∧ ∃ d0X : h9, EltH H cr_1l5.f9 a7k 4 (f4 d0X) ∧
 O5 C0 d0X H (fun (d0Y : b6) (d7S : Hp) =>
 n5 ((IntKind.wrap .i64 (a7k + 1)), d0Y) d7S)) ∧
 (((decide (a7k < (cr_1l5.f9.n : Int))) && C0.fok) = false →
 S3 C0 cr_1l5 H K)
def I0 (b4K : Int) (g4g : Int) (b7b : Bool) (cr_1j2 : k4) (a4F : b6) (H : Hp) (K : b6 → Hp → Prop) : Prop :=
 TL ((0, (b6.mk (((a4F.fok && b7b) && (decide ((cr_1j2.f9.n : Int) = b4K))) && (decide ((cr_1j2.o5.n : Int) = g4g))) a4F.fnames)) : Int × b6) H fun (s : Int × b6) H n5 => S4 cr_1j2 s.1 s.2 H n5 K
def w5 (o4 : Int) (a0Z : Int) (cr_1j1 : k4) (J1 : b6) (H : Hp) (K : b6 → Hp → Prop) : Prop :=
 (cr_1j1.b9 = 3 →
 I0 o4 a0Z ((decide (1 ≤ cr_1j1.fOp)) && (decide (cr_1j1.fOp ≤ 6))) cr_1j1 J1 H K) ∧
 (¬ (cr_1j1.b9 = 3) →
 I0 o4 a0Z (decide (cr_1j1.fOp = 0)) cr_1j1 J1 H K)
def I1 (f5q : Int) (g4h : Int) (b7D : Bool) (cr_1j7 : k4) (d9k : b6) (H : Hp) (K : b6 → Hp → Prop) : Prop :=
 (b7D = true →
 w5 f5q 2 cr_1j7 d9k H K) ∧
 (b7D = false →
 w5 f5q g4h cr_1j7 (b6.mk false d9k.fnames) H K)
def I2 (d0Z : Int) (c2g : Int) (b2M : Int) (b7E : Bool) (cr_1j6 : k4) (c0x : b6) (H : Hp) (K : b6 → Hp → Prop) : Prop :=
 (b7E = true →
 w5 d0Z c2g cr_1j6 c0x H K) ∧
 (b7E = false →
 (b2M = 3 →
 w5 2 c2g cr_1j6 c0x H K) ∧
 (¬ (b2M = 3) →
 (b2M = 4 →
 w5 d0Z 1 cr_1j6 c0x H K) ∧
 (¬ (b2M = 4) →
 (b2M = 5 →
 I1 d0Z c2g (decide (b2M = 5)) cr_1j6 c0x H K) ∧
 (¬ (b2M = 5) →
 I1 d0Z c2g (decide (b2M = 6)) cr_1j6 c0x H K))))
def X9 (x0 : b6) (x1 : k4) (H : Hp) (K : b6 → Hp → Prop) : Prop :=
 (x1.b9 = 1 →
 I2 0 0 x1.b9 (decide (x1.b9 = 1)) x1 x0 H K) ∧
 (¬ (x1.b9 = 1) →
 I2 0 0 x1.b9 (decide (x1.b9 = 2)) x1 x0 H K)
theorem a8q (x0 : b6) (x1 : k4) (g0 : Nat) {w0 w : World} {ps0 : Nat → Prop} {H0 H : Hp} {K : b6 → Hp → Prop} {R : Value → World → Prop} {E : Pan} (I : Inv w0 ps0 H0 H [bx g0 102 (g1 x0)] w) (hR : ∀ (y0 : b6) (H' : Hp) (w' : World) (_ : Inv w0 ps0 H0 H' [bx g0 102 (g1 y0)] w') (_ : K y0 H'), R (Value.tuple #[]) w') (h : X9 x0 x1 H K) : F62 (Value.pointer (some ⟨g0, 0, none⟩)) (Value.agg (f7 x1).toArray) w R E := by
 unfold X9 at h
 unfold F62
 refine G7 I (cs := (f7 x1)) rfl fun g_2 w_3 I_4 k_5 => ?_
 have hj1 : ∀ (o4 : Int) (a0Z : Int) (J1 : b6) (H : Hp) (w : World) (_ : Inv w0 ps0 H0 H [bx g_2 33 (f7 x1), bx g0 102 (g1 J1)] w) (_ : w5 o4 a0Z x1 J1 H K), c6i (Value.pointer (some ⟨g0, 0, none⟩)) (Value.pointer (some ⟨g_2, 0, none⟩)) (vi o4) (vi a0Z) w R E := by
  intro o4 a0Z J1 H w I h
  unfold c6i
  intro _
  unfold w5 at h
  refine a7 P3 ?_
  refine c7 (ld1 Tryd.isAgg3 (I.at1 (o := 1) (vs := [(vi x1.fOp)]) (nb rfl) rfl)) ?_
  refine a7 (d6 _ _ _ _ _ _) ?_
  have hj2 : ∀ (b7b : Bool) (H : Hp) (w : World) (_ : Inv w0 ps0 H0 H [bx g_2 33 (f7 x1), bx g0 102 (g1 J1)] w) (_ : I0 o4 a0Z b7b x1 J1 H K), c6g (Value.pointer (some ⟨g0, 0, none⟩)) (Value.pointer (some ⟨g_2, 0, none⟩)) (vi o4) (vi a0Z) (Value.bool b7b) w R E := by
   intro b7b H w I h
   unfold c6g
   intro _
   unfold I0 at h
   refine a7 (i7 _) ?_
   refine a7 p8 ?_
   refine c7 (ld1 Tryd.isAgg4 ((I.bring 1).at1 (o := 0) (vs := [(Value.bool J1.fok)]) (nb rfl) rfl)) ?_
   try simp only [m9]
   refine a7 (k7 _ _) ?_
   refine a7 (Pu.g fun hb => by have a6 := hb; first | exact M8 | (simp only [b7 a6, a8 a6, a8 hb, l9 a6]; exact M8) | (simp only [b7 a6, a8 a6, a8 hb, c9 a6, d9]; exact M8)) ?_
   refine c7 (Ld.g fun hb => by have a6 := hb; first | exact (ld1 Tryd.isAgg28 (I.at1 (o := 2) (vs := [(vs x1.f9)]) (nb rfl) rfl)) | (simp only [a8 a6]; exact (ld1 Tryd.isAgg28 (I.at1 (o := 2) (vs := [(vs x1.f9)]) (nb rfl) rfl))) | (simp only [b7 a6, a8 a6, a8 hb, c9 a6, d9]; exact (ld1 Tryd.isAgg28 (I.at1 (o := 2) (vs := [(vs x1.f9)]) (nb rfl) rfl)))) ?_
   refine a7 (Pu.g fun hb => by have a6 := hb; first | exact (F5 _ _ _) | (simp only [a8 a6]; exact (F5 _ _ _)) | (simp only [b7 a6, a8 a6, a8 hb, c9 a6, d9]; exact (F5 _ _ _))) ?_
   try simp only [m9]
   refine a7 (Pu.g fun hb => by have a6 := hb; first | exact (d6 _ _ _ _ _ _) | (simp only [a8 a6]; exact (d6 _ _ _ _ _ _)) | (simp only [b7 a6, a8 a6, a8 hb, c9 a6, d9]; exact (d6 _ _ _ _ _ _))) ?_
   refine a7 (k7 _ _) ?_
   refine a7 (Pu.g fun hb => by have a6 := hb; first | exact M9 | (simp only [b7 a6, a8 a6, a8 hb, l9 a6]; exact M9) | (simp only [b7 a6, a8 a6, a8 hb, c9 a6, d9]; exact M9)) ?_
   refine c7 (Ld.g fun hb => by have a6 := hb; first | exact (ld1 Tryd.isAgg31 (I.at1 (o := 3) (vs := [(vs x1.o5)]) (nb rfl) rfl)) | (simp only [a8 a6]; exact (ld1 Tryd.isAgg31 (I.at1 (o := 3) (vs := [(vs x1.o5)]) (nb rfl) rfl))) | (simp only [b7 a6, a8 a6, a8 hb, c9 a6, d9]; exact (ld1 Tryd.isAgg31 (I.at1 (o := 3) (vs := [(vs x1.o5)]) (nb rfl) rfl)))) ?_
   refine a7 (Pu.g fun hb => by have a6 := hb; first | exact (O9 _ _ _) | (simp only [a8 a6]; exact (O9 _ _ _)) | (simp only [b7 a6, a8 a6, a8 hb, c9 a6, d9]; exact (O9 _ _ _))) ?_
   try simp only [m9]
   refine a7 (Pu.g fun hb => by have a6 := hb; first | exact (d6 _ _ _ _ _ _) | (simp only [a8 a6]; exact (d6 _ _ _ _ _ _)) | (simp only [b7 a6, a8 a6, a8 hb, c9 a6, d9]; exact (d6 _ _ _ _ _ _))) ?_
   refine a7 (k7 _ _) ?_
   refine a7 (i7 _) ?_
   refine a7 p8 ?_
   refine u1 (I.bring 1) Tryd.sizeOf4 (vs := [(Value.bool (((J1.fok && b7b) && (decide ((x1.f9.n : Int) = o4))) && (decide ((x1.o5.n : Int) = a0Z))))]) (cs' := [(Value.bool (((J1.fok && b7b) && (decide ((x1.f9.n : Int) = o4))) && (decide ((x1.o5.n : Int) = a0Z)))), (Value.bool J1.fnames)]) rfl rfl (nb rfl) rfl rfl fun w_6 I_7 k_8 => ?_
   have hj3 : ∀ (a0R : b6) (H : Hp) (w : World) (_ : Inv w0 ps0 H0 H [bx g0 102 (g1 a0R), bx g_2 33 (f7 x1)] w) (_ : S3 a0R x1 H K), c6f (Value.pointer (some ⟨g0, 0, none⟩)) (Value.pointer (some ⟨g_2, 0, none⟩)) w R E := by
    intro a0R H w I h
    unfold c6f
    intro _
    unfold S3 at h
    obtain ⟨d7T, c6L, g4i, a7a⟩ := h
    refine v6 (J := fun n l w => ∃ (s : Int × b6) (H : Hp) , n = c6L s ∧ l = (match s with | (a7j, N3) => [(vi a7j)]) ∧ (match s with | (a7j, N3) => Inv w0 ps0 H0 H [bx g0 102 (g1 N3), bx g_2 33 (f7 x1)] w) ∧ d7T s H) ⟨_, (0, a0R), H, rfl, rfl, ((I.bring 1).bring 1), g4i⟩ ?_
    rintro g8j τ_72 w next4 ⟨⟨a7j, N3⟩, H, rfl, d7U, I, g4j⟩ hn4
    dsimp only at d7U I
    simp only [List.map_cons, List.map_nil, List.cons.injEq, and_true] at d7U
    have e8 := d7U
    simp only [e8]
    obtain ⟨n4, hm4, h⟩ : ∃ n4 : (Int × b6) → Hp → Prop, (∀ s' H', n4 s' H' → d7T s' H' ∧ c6L s' < c6L (a7j, N3)) ∧ S2 x1 a7j N3 H n4 K := ⟨_, fun _ _ h => h, a7a (a7j, N3) H (fun s' H' => d7T s' H' ∧ c6L s' < c6L (a7j, N3)) g4j (fun _ _ a b => ⟨a, b⟩)⟩
    unfold d4a
    unfold S2 at h
    refine a7 M9 ?_
    refine c7 (ld1 Tryd.isAgg31 ((I.bring 1).at1 (o := 3) (vs := [(vs x1.o5)]) (nb rfl) rfl)) ?_
    refine a7 (O9 _ _ _) ?_
    refine a7 (r8 _ _ _ _ _ _) ?_
    try simp only [m9]
    refine a7 (Pu.g fun hb => by have a6 := hb; first | exact (i7 _) | (simp only [a8 a6]; exact (i7 _)) | (simp only [b7 a6, a8 a6, a8 hb, c9 a6, d9]; exact (i7 _))) ?_
    refine a7 (Pu.g fun hb => by have a6 := hb; first | exact p8 | (simp only [a8 a6]; exact p8) | (simp only [b7 a6, a8 a6, a8 hb, c9 a6, d9]; exact p8)) ?_
    refine c7 (Ld.g fun hb => by have a6 := hb; first | exact (ld1 Tryd.isAgg4 (I.at1 (o := 0) (vs := [(Value.bool N3.fok)]) (nb rfl) rfl)) | (simp only [a8 a6]; exact (ld1 Tryd.isAgg4 (I.at1 (o := 0) (vs := [(Value.bool N3.fok)]) (nb rfl) rfl))) | (simp only [b7 a6, a8 a6, a8 hb, c9 a6, d9]; exact (ld1 Tryd.isAgg4 (I.at1 (o := 0) (vs := [(Value.bool N3.fok)]) (nb rfl) rfl)))) ?_
    refine a7 (k7 _ _) ?_
    refine k9 (fun b8N => ?_) (fun b8N => ?_)
    ·replace h := h.1 b8N
     refine a7 M9 ?_
     refine c7 (ld1 Tryd.isAgg31 ((I.bring 1).at1 (o := 3) (vs := [(vs x1.o5)]) (nb rfl) rfl)) ?_
     obtain ⟨d6g, b9a, d0W, b8C, h⟩ := h
     obtain ⟨g8k, g8l, c5C, b8C⟩ := b8C
     refine a7 (a4X c5C _ _ _ _ d6g b9a) ?_
     refine c7 (ldA (vs := (f7 d0W)) Tryd.isAgg33 Tryd.sizeOf33 rfl (I.atH b8C)) ?_
     refine f8 (cap := []) (fun args w => Tryd.call62 args w) ?_
     refine i6 (Fi := [bx g0 102 (g1 N3)]) (Fr := [bx g_2 33 (f7 x1)]) I (h g0) (fun g3n b4N g3o P7 b4P g3p g3q d6h => ?_) (fun _ _ _ _ _ q => q.elim)
     obtain ⟨G4, rfl, rfl, h⟩ := d6h
     refine a7 (q8 _ _ _ _ _ _) ?_
     exact hn4 _ _ _ (hm4 _ _ h).2 ⟨((IntKind.wrap .i64 (a7j + 1)), G4), b4N, rfl, rfl, ((b4P.bring 1).bring 1), (hm4 _ _ h).1⟩
    ·replace h := h.2 b8N
     exact hR N3 H _ (I.bring 1).drop h
   refine p9 fun j3 hx3 => ?_
   obtain ⟨d1a, c0y, g0s, g0t⟩ := h
   refine v6 (J := fun n l w => ∃ (s : Int × b6) (H : Hp) , n = c0y s ∧ l = (match s with | (a7k, C0) => [(vi a7k)]) ∧ (match s with | (a7k, C0) => Inv w0 ps0 H0 H [bx g0 102 (g1 C0), bx g_2 33 (f7 x1)] w) ∧ d1a s H) ⟨_, (0, (b6.mk (((J1.fok && b7b) && (decide ((x1.f9.n : Int) = o4))) && (decide ((x1.o5.n : Int) = a0Z))) J1.fnames)), H, rfl, rfl, ((I_7.bring 1).bring 1), g0s⟩ ?_
   rintro g6b τ_106 w next5 ⟨⟨a7k, C0⟩, H, rfl, d1b, I, g0u⟩ hn5
   dsimp only at d1b I
   simp only [List.map_cons, List.map_nil, List.cons.injEq, and_true] at d1b
   have e7 := d1b
   simp only [e7]
   obtain ⟨n5, hm5, h⟩ : ∃ n5 : (Int × b6) → Hp → Prop, (∀ s' H', n5 s' H' → d1a s' H' ∧ c0y s' < c0y (a7k, C0)) ∧ S4 x1 a7k C0 H n5 K := ⟨_, fun _ _ h => h, g0t (a7k, C0) H (fun s' H' => d1a s' H' ∧ c0y s' < c0y (a7k, C0)) g0u (fun _ _ a b => ⟨a, b⟩)⟩
   unfold d4b
   unfold S4 at h
   refine a7 M8 ?_
   refine c7 (ld1 Tryd.isAgg28 ((I.bring 1).at1 (o := 2) (vs := [(vs x1.f9)]) (nb rfl) rfl)) ?_
   refine a7 (F5 _ _ _) ?_
   refine a7 (r8 _ _ _ _ _ _) ?_
   try simp only [m9]
   refine a7 (Pu.g fun hb => by have a6 := hb; first | exact (i7 _) | (simp only [a8 a6]; exact (i7 _)) | (simp only [b7 a6, a8 a6, a8 hb, c9 a6, d9]; exact (i7 _))) ?_
   refine a7 (Pu.g fun hb => by have a6 := hb; first | exact p8 | (simp only [a8 a6]; exact p8) | (simp only [b7 a6, a8 a6, a8 hb, c9 a6, d9]; exact p8)) ?_
   refine c7 (Ld.g fun hb => by have a6 := hb; first | exact (ld1 Tryd.isAgg4 (I.at1 (o := 0) (vs := [(Value.bool C0.fok)]) (nb rfl) rfl)) | (simp only [a8 a6]; exact (ld1 Tryd.isAgg4 (I.at1 (o := 0) (vs := [(Value.bool C0.fok)]) (nb rfl) rfl))) | (simp only [b7 a6, a8 a6, a8 hb, c9 a6, d9]; exact (ld1 Tryd.isAgg4 (I.at1 (o := 0) (vs := [(Value.bool C0.fok)]) (nb rfl) rfl)))) ?_
   refine a7 (k7 _ _) ?_
   refine k9 (fun d1c => ?_) (fun d1c => ?_)
   ·replace h := h.1 d1c
    refine a7 M8 ?_
    refine c7 (ld1 Tryd.isAgg28 ((I.bring 1).at1 (o := 2) (vs := [(vs x1.f9)]) (nb rfl) rfl)) ?_
    obtain ⟨g4k, g4l, d0X, d7V, h⟩ := h
    obtain ⟨g8m, g8n, g4m, d7V⟩ := d7V
    refine a7 (a2O g4m _ _ _ _ g4k g4l) ?_
    refine c7 (ldA (vs := (f4 d0X)) Tryd.isAgg30 Tryd.sizeOf30 rfl (I.atH d7V)) ?_
    refine f8 (cap := []) (fun args w => Tryd.call59 args w) ?_
    refine i6 (Fi := [bx g0 102 (g1 C0)]) (Fr := [bx g_2 33 (f7 x1)]) I (h g0) (fun g8o d7S g8p a4O g4n g8q g8r g4o => ?_) (fun _ _ _ _ _ q => q.elim)
    obtain ⟨d0Y, rfl, rfl, h⟩ := g4o
    refine a7 (q8 _ _ _ _ _ _) ?_
    exact hn5 _ _ _ (hm5 _ _ h).2 ⟨((IntKind.wrap .i64 (a7k + 1)), d0Y), d7S, rfl, rfl, ((g4n.bring 1).bring 1), (hm5 _ _ h).1⟩
   ·replace h := h.2 d1c
    exact hx3 _ _ (hj3 C0 H _ ((I.bring 1).bring 1) h)
  refine p9 fun j2 hx2 => ?_
  refine a7 a6a ?_
  refine c7 (ld1 Tryd.isAgg3 (I.at1 (o := 0) (vs := [(vi x1.b9)]) (nb rfl) rfl)) ?_
  refine a7 (d6 _ _ _ _ _ _) ?_
  refine g9 (fun d1d => ?_) (fun d1d => ?_)
  ·replace h := h.1 d1d
   refine a7 P3 ?_
   refine c7 (ld1 Tryd.isAgg3 (I.at1 (o := 1) (vs := [(vi x1.fOp)]) (nb rfl) rfl)) ?_
   refine a7 (a1d _ _ _ _ _ _) ?_
   refine a7 (Pu.g fun hb => by have a6 := hb; first | exact P3 | (simp only [b7 a6, a8 a6, a8 hb, l9 a6]; exact P3) | (simp only [b7 a6, a8 a6, a8 hb, c9 a6, d9]; exact P3)) ?_
   refine c7 (Ld.g fun hb => by have a6 := hb; first | exact (ld1 Tryd.isAgg3 (I.at1 (o := 1) (vs := [(vi x1.fOp)]) (nb rfl) rfl)) | (simp only [a8 a6]; exact (ld1 Tryd.isAgg3 (I.at1 (o := 1) (vs := [(vi x1.fOp)]) (nb rfl) rfl))) | (simp only [b7 a6, a8 a6, a8 hb, c9 a6, d9]; exact (ld1 Tryd.isAgg3 (I.at1 (o := 1) (vs := [(vi x1.fOp)]) (nb rfl) rfl)))) ?_
   refine a7 (Pu.g fun hb => by have a6 := hb; first | exact (a0N _ _ _ _ _ _) | (simp only [a8 a6]; exact (a0N _ _ _ _ _ _)) | (simp only [b7 a6, a8 a6, a8 hb, c9 a6, d9]; exact (a0N _ _ _ _ _ _))) ?_
   refine a7 (k7 _ _) ?_
   exact hx2 _ _ (hj2 ((decide (1 ≤ x1.fOp)) && (decide (x1.fOp ≤ 6))) H _ ((I.bring 1).bring 1) h)
  ·replace h := h.2 d1d
   exact hx2 _ _ (hj2 (decide (x1.fOp = 0)) H _ ((I.bring 1).bring 1) h)
 refine p9 fun j1 hx1 => ?_
 refine a7 a6a ?_
 refine c7 (ld1 Tryd.isAgg3 (I_4.at1 (o := 0) (vs := [(vi x1.b9)]) (nb rfl) rfl)) ?_
 have hj6 : ∀ (b7E : Bool) (H : Hp) (w : World) (_ : Inv w0 ps0 H0 H [bx g_2 33 (f7 x1), bx g0 102 (g1 x0)] w) (_ : I2 0 0 x1.b9 b7E x1 x0 H K), c6k (Value.pointer (some ⟨g0, 0, none⟩)) (Value.pointer (some ⟨g_2, 0, none⟩)) (vi 0) (vi 0) (vi x1.b9) (Value.bool b7E) w j1 R E := by
  intro b7E H w I h
  unfold c6k
  intro _
  unfold I2 at h
  refine k9 (fun d1e => ?_) (fun d1e => ?_)
  ·replace h := h.1 d1e
   exact hx1 _ _ (hj1 0 0 x0 H _ ((I.bring 1).bring 1) h)
  ·replace h := h.2 d1e
   refine a7 (d6 _ _ _ _ _ _) ?_
   refine g9 (fun d1f => ?_) (fun d1f => ?_)
   ·replace h := h.1 d1f
    exact hx1 _ _ (hj1 2 0 x0 H _ ((I.bring 1).bring 1) h)
   ·replace h := h.2 d1f
    refine a7 (d6 _ _ _ _ _ _) ?_
    refine g9 (fun b5f => ?_) (fun b5f => ?_)
    ·replace h := h.1 b5f
     exact hx1 _ _ (hj1 0 1 x0 H _ ((I.bring 1).bring 1) h)
    ·replace h := h.2 b5f
     have hj7 : ∀ (b7D : Bool) (H : Hp) (w : World) (_ : Inv w0 ps0 H0 H [bx g_2 33 (f7 x1), bx g0 102 (g1 x0)] w) (_ : I1 0 0 b7D x1 x0 H K), c6j (Value.pointer (some ⟨g0, 0, none⟩)) (Value.pointer (some ⟨g_2, 0, none⟩)) (vi 0) (vi 0) (Value.bool b7D) w j1 R E := by
      intro b7D H w I h
      unfold c6j
      intro _
      unfold I1 at h
      refine k9 (fun d1g => ?_) (fun d1g => ?_)
      ·replace h := h.1 d1g
       exact hx1 _ _ (hj1 0 2 x0 H _ ((I.bring 1).bring 1) h)
      ·replace h := h.2 d1g
       refine a7 (i7 _) ?_
       refine a7 p8 ?_
       refine u1 (I.bring 1) Tryd.sizeOf4 (vs := [(Value.bool false)]) (cs' := [(Value.bool false), (Value.bool x0.fnames)]) rfl rfl (nb rfl) rfl rfl fun a4y g0v g6c => ?_
       exact hx1 _ _ (hj1 0 0 (b6.mk false x0.fnames) H _ (g0v.bring 1) h)
     refine p9 fun j7 hx7 => ?_
     refine a7 (d6 _ _ _ _ _ _) ?_
     refine g9 (fun b5o => ?_) (fun b5o => ?_)
     ·replace h := h.1 b5o
      exact hx7 _ _ (hj7 (decide (x1.b9 = 5)) H _ ((I.bring 1).bring 1) h)
     ·replace h := h.2 b5o
      refine a7 (d6 _ _ _ _ _ _) ?_
      exact hx7 _ _ (hj7 (decide (x1.b9 = 6)) H _ ((I.bring 1).bring 1) h)
 refine p9 fun j6 hx6 => ?_
 refine a7 (d6 _ _ _ _ _ _) ?_
 refine g9 (fun d1h => ?_) (fun d1h => ?_)
 ·replace h := h.1 d1h
  exact hx6 _ _ (hj6 (decide (x1.b9 = 1)) H _ ((I_4.bring 1).bring 1) h)
 ·replace h := h.2 d1h
  refine a7 (d6 _ _ _ _ _ _) ?_
  exact hx6 _ _ (hj6 (decide (x1.b9 = 2)) H _ ((I_4.bring 1).bring 1) h)
theorem a8E (x0 : b6) (x1 : k4) {H : Hp} {K : b6 → Hp → Prop} (h : X9 x0 x1 H K) : W7 x0 x1 H K := by
 intro g0 w I
 refine f3D ?_
 refine a8q x0 x1 g0 I (fun y0 H' w' I' hk => ⟨H', _, I', y0, rfl, rfl, hk⟩) h
def S5 (cr_1l5 : i4) (a7l : Int) (C0 : b6) (H : Hp) (n5 : (Int × b6) → Hp → Prop) (K : b6 → Hp → Prop) : Prop :=
 (((decide (a7l < (cr_1l5.s7.n : Int))) && C0.fok) = true →
 (0 : Int) ≤ a7l ∧ (a7l : Int) < cr_1l5.s7.n ∧ ∃ d1i : i4, EltH H cr_1l5.s7 a7l 6 (d5 d1i) ∧
 O6 C0 d1i H (fun (c6M : b6) (d7W : Hp) =>
 n5 ((IntKind.wrap .i64 (a7l + 1)), c6M) d7W)) ∧
 (((decide (a7l < (cr_1l5.s7.n : Int))) && C0.fok) = false →
 K C0 H)
def S6 (a6h : b6) (cr_1j4 : i4) (H : Hp) (K : b6 → Hp → Prop) : Prop :=
 TL ((0, a6h) : Int × b6) H fun (s : Int × b6) H n5 => S5 cr_1j4 s.1 s.2 H n5 K
def S7 (cr_1l6 : i4) (a7m : Int) (N4 : b6) (H : Hp) (n6 : (Int × b6) → Hp → Prop) (K : b6 → Hp → Prop) : Prop :=
 (((decide (a7m < (cr_1l6.u0.n : Int))) && N4.fok) = true →
 (0 : Int) ≤ a7m ∧ (a7m : Int) < cr_1l6.u0.n ∧ ∃ c3c : i4, EltH H cr_1l6.u0 a7m 6 (d5 c3c) ∧
 O6 N4 c3c H (fun (c6N : b6) (d1j : Hp) =>
 n6 ((IntKind.wrap .i64 (a7m + 1)), c6N) d1j)) ∧
 (((decide (a7m < (cr_1l6.u0.n : Int))) && N4.fok) = false →
 S6 N4 cr_1l6 H K)
def S8 (a0R : b6) (cr_1j3 : i4) (H : Hp) (K : b6 → Hp → Prop) : Prop :=
 TL ((0, a0R) : Int × b6) H fun (s : Int × b6) H n6 => S7 cr_1j3 s.1 s.2 H n6 K
def S9 (cr_1l7 : i4) (a7n : Int) (N5 : b6) (H : Hp) (n7 : (Int × b6) → Hp → Prop) (K : b6 → Hp → Prop) : Prop :=
 (((decide (a7n < (cr_1l7.f9.n : Int))) && N5.fok) = true →
 (0 : Int) ≤ a7n ∧ (a7n : Int) < cr_1l7.f9.n ∧ ∃ c3d : h9, EltH H cr_1l7.f9 a7n 4 (f4 c3d) ∧
 O5 N5 c3d H (fun (c6O : b6) (d1k : Hp) =>
 n7 ((IntKind.wrap .i64 (a7n + 1)), c6O) d1k)) ∧
 (((decide (a7n < (cr_1l7.f9.n : Int))) && N5.fok) = false →
 S8 N5 cr_1l7 H K)
def T0 (a4F : b6) (cr_1j2 : i4) (H : Hp) (K : b6 → Hp → Prop) : Prop :=
 TL ((0, a4F) : Int × b6) H fun (s : Int × b6) H n7 => S9 cr_1j2 s.1 s.2 H n7 K
def T1 (cr_1l8 : i4) (a7o : Int) (a4n : b6) (H : Hp) (n8 : (Int × b6) → Hp → Prop) (K : b6 → Hp → Prop) : Prop :=
 (((decide (a7o < (cr_1l8.k3.n : Int))) && a4n.fok) = true →
 (0 : Int) ≤ a7o ∧ (a7o : Int) < cr_1l8.k3.n ∧ ∃ c3e : k4, EltH H cr_1l8.k3 a7o 4 (f7 c3e) ∧
 W7 a4n c3e H (fun (c6P : b6) (d1l : Hp) =>
 n8 ((IntKind.wrap .i64 (a7o + 1)), c6P) d1l)) ∧
 (((decide (a7o < (cr_1l8.k3.n : Int))) && a4n.fok) = false →
 T0 a4n cr_1l8 H K)
def w6 (o4 : Int) (a0Z : Int) (cr_1j1 : i4) (J1 : b6) (H : Hp) (K : b6 → Hp → Prop) : Prop :=
 O4 J1 cr_1j1.g7 ((decide (cr_1j1.b9 = 1)) || (decide (cr_1j1.b9 = 2))) H (fun (L1 : b6) (H_6 : Hp) =>
 TL ((0, (b6.mk ((((L1.fok && (decide ((cr_1j1.f9.n : Int) = o4))) && (decide ((cr_1j1.k3.n : Int) = a0Z))) && (((decide ((cr_1j1.u0.n : Int) = 0)) || (decide (cr_1j1.b9 = 3))) || (decide (cr_1j1.b9 = 4)))) && ((decide ((cr_1j1.s7.n : Int) = 0)) || (decide (cr_1j1.b9 = 3)))) L1.fnames)) : Int × b6) H_6 fun (s : Int × b6) H n8 => T1 cr_1j1 s.1 s.2 H n8 K)
def B1 (d7X : Int) (f5r : Int) (d9l : Int) (b7F : Bool) (cr_1j9 : i4) (d1m : b6) (H : Hp) (K : b6 → Hp → Prop) : Prop :=
 (b7F = true →
 w6 d7X 1 cr_1j9 d1m H K) ∧
 (b7F = false →
 (d9l = 7 →
 w6 d7X f5r cr_1j9 d1m H K) ∧
 (¬ (d9l = 7) →
 w6 d7X f5r cr_1j9 (b6.mk false d1m.fnames) H K))
def Y0 (x0 : b6) (x1 : i4) (H : Hp) (K : b6 → Hp → Prop) : Prop :=
 (x1.b9 = 1 →
 w6 1 0 x1 x0 H K) ∧
 (¬ (x1.b9 = 1) →
 (x1.b9 = 2 →
 w6 2 0 x1 x0 H K) ∧
 (¬ (x1.b9 = 2) →
 (x1.b9 = 3 →
 B1 0 0 x1.b9 (decide (x1.b9 = 3)) x1 x0 H K) ∧
 (¬ (x1.b9 = 3) →
 (x1.b9 = 4 →
 B1 0 0 x1.b9 (decide (x1.b9 = 4)) x1 x0 H K) ∧
 (¬ (x1.b9 = 4) →
 (x1.b9 = 5 →
 B1 0 0 x1.b9 (decide (x1.b9 = 5)) x1 x0 H K) ∧
 (¬ (x1.b9 = 5) →
 B1 0 0 x1.b9 (decide (x1.b9 = 6)) x1 x0 H K)))))
theorem a8r (x0 : b6) (x1 : i4) (g0 : Nat) {w0 w : World} {ps0 : Nat → Prop} {H0 H : Hp} {K : b6 → Hp → Prop} {R : Value → World → Prop} {E : Pan} (I : Inv w0 ps0 H0 H [bx g0 102 (g1 x0)] w) (hR : ∀ (y0 : b6) (H' : Hp) (w' : World) (_ : Inv w0 ps0 H0 H' [bx g0 102 (g1 y0)] w') (_ : K y0 H'), R (Value.tuple #[]) w') (h : Y0 x0 x1 H K) : F65 (Value.pointer (some ⟨g0, 0, none⟩)) (Value.agg (d5 x1).toArray) w R E := by
 unfold Y0 at h
 unfold F65
 refine G7 I (cs := (d5 x1)) rfl fun g_2 w_3 I_4 k_5 => ?_
 have hj1 : ∀ (o4 : Int) (a0Z : Int) (J1 : b6) (H : Hp) (w : World) (_ : Inv w0 ps0 H0 H [bx g_2 88 (d5 x1), bx g0 102 (g1 J1)] w) (_ : w6 o4 a0Z x1 J1 H K), c6o (Value.pointer (some ⟨g0, 0, none⟩)) (Value.pointer (some ⟨g_2, 0, none⟩)) (vi o4) (vi a0Z) w R E := by
  intro o4 a0Z J1 H w I h
  unfold c6o
  intro _
  unfold w6 at h
  refine a7 a0u ?_
  refine c7 (ld1 Tryd.isAgg9 (I.at1 (o := 1) (vs := [(Value.string x1.g7)]) (nb rfl) rfl)) ?_
  refine a7 y9 ?_
  refine c7 (ld1 Tryd.isAgg3 (I.at1 (o := 0) (vs := [(vi x1.b9)]) (nb rfl) rfl)) ?_
  refine a7 (d6 _ _ _ _ _ _) ?_
  refine a7 (Pu.g fun hb => by have a6 := hb; first | exact y9 | (simp only [b7 a6, a8 a6, a8 hb, a4b a6]; exact y9) | (simp only [b7 a6, a8 a6, a8 hb, v1 a6, d9]; exact y9)) ?_
  refine c7 (Ld.g fun hb => by have a6 := hb; first | exact (ld1 Tryd.isAgg3 (I.at1 (o := 0) (vs := [(vi x1.b9)]) (nb rfl) rfl)) | (simp only [a8 a6]; exact (ld1 Tryd.isAgg3 (I.at1 (o := 0) (vs := [(vi x1.b9)]) (nb rfl) rfl))) | (simp only [b7 a6, a8 a6, a8 hb, v1 a6, d9]; exact (ld1 Tryd.isAgg3 (I.at1 (o := 0) (vs := [(vi x1.b9)]) (nb rfl) rfl)))) ?_
  refine a7 (Pu.g fun hb => by have a6 := hb; first | exact (d6 _ _ _ _ _ _) | (simp only [a8 a6]; exact (d6 _ _ _ _ _ _)) | (simp only [b7 a6, a8 a6, a8 hb, v1 a6, d9]; exact (d6 _ _ _ _ _ _))) ?_
  refine a7 (E1 _ _) ?_
  refine f8 (cap := []) (fun args w => Tryd.call64 args w) ?_
  refine i6 (Fi := [bx g0 102 (g1 J1)]) (Fr := [bx g_2 88 (d5 x1)]) (I.bring 1) (h g0) (fun a6Q H_6 a6q w_7 I_8 a6R k_9 a0J => ?_) (fun _ _ _ _ _ q => q.elim)
  obtain ⟨L1, rfl, rfl, h⟩ := a0J
  refine a7 (i7 _) ?_
  refine a7 p8 ?_
  refine c7 (ld1 Tryd.isAgg4 (I_8.at1 (o := 0) (vs := [(Value.bool L1.fok)]) (nb rfl) rfl)) ?_
  refine a7 (Pu.g fun hb => by have a6 := hb; first | exact N0 | (simp only [b7 a6, a8 a6, a8 hb, l9 a6]; exact N0) | (simp only [b7 a6, a8 a6, a8 hb, c9 a6, d9]; exact N0)) ?_
  refine c7 (Ld.g fun hb => by have a6 := hb; first | exact (ld1 Tryd.isAgg28 ((I_8.bring 1).at1 (o := 2) (vs := [(vs x1.f9)]) (nb rfl) rfl)) | (simp only [a8 a6]; exact (ld1 Tryd.isAgg28 ((I_8.bring 1).at1 (o := 2) (vs := [(vs x1.f9)]) (nb rfl) rfl))) | (simp only [b7 a6, a8 a6, a8 hb, c9 a6, d9]; exact (ld1 Tryd.isAgg28 ((I_8.bring 1).at1 (o := 2) (vs := [(vs x1.f9)]) (nb rfl) rfl)))) ?_
  refine a7 (Pu.g fun hb => by have a6 := hb; first | exact (F5 _ _ _) | (simp only [a8 a6]; exact (F5 _ _ _)) | (simp only [b7 a6, a8 a6, a8 hb, c9 a6, d9]; exact (F5 _ _ _))) ?_
  try simp only [m9]
  refine a7 (Pu.g fun hb => by have a6 := hb; first | exact (d6 _ _ _ _ _ _) | (simp only [a8 a6]; exact (d6 _ _ _ _ _ _)) | (simp only [b7 a6, a8 a6, a8 hb, c9 a6, d9]; exact (d6 _ _ _ _ _ _))) ?_
  refine a7 (k7 _ _) ?_
  refine a7 (Pu.g fun hb => by have a6 := hb; first | exact N1 | (simp only [b7 a6, a8 a6, a8 hb, l9 a6]; exact N1) | (simp only [b7 a6, a8 a6, a8 hb, c9 a6, d9]; exact N1)) ?_
  refine c7 (Ld.g fun hb => by have a6 := hb; first | exact (ld1 Tryd.isAgg31 ((I_8.bring 1).at1 (o := 3) (vs := [(vs x1.k3)]) (nb rfl) rfl)) | (simp only [a8 a6]; exact (ld1 Tryd.isAgg31 ((I_8.bring 1).at1 (o := 3) (vs := [(vs x1.k3)]) (nb rfl) rfl))) | (simp only [b7 a6, a8 a6, a8 hb, c9 a6, d9]; exact (ld1 Tryd.isAgg31 ((I_8.bring 1).at1 (o := 3) (vs := [(vs x1.k3)]) (nb rfl) rfl)))) ?_
  refine a7 (Pu.g fun hb => by have a6 := hb; first | exact (O9 _ _ _) | (simp only [a8 a6]; exact (O9 _ _ _)) | (simp only [b7 a6, a8 a6, a8 hb, c9 a6, d9]; exact (O9 _ _ _))) ?_
  try simp only [m9]
  refine a7 (Pu.g fun hb => by have a6 := hb; first | exact (d6 _ _ _ _ _ _) | (simp only [a8 a6]; exact (d6 _ _ _ _ _ _)) | (simp only [b7 a6, a8 a6, a8 hb, c9 a6, d9]; exact (d6 _ _ _ _ _ _))) ?_
  refine a7 (k7 _ _) ?_
  refine a7 (Pu.g fun hb => by have a6 := hb; first | exact P4 | (simp only [b7 a6, a8 a6, a8 hb, l9 a6]; exact P4) | (simp only [b7 a6, a8 a6, a8 hb, c9 a6, d9]; exact P4)) ?_
  refine c7 (Ld.g fun hb => by have a6 := hb; first | exact (ld1 Tryd.isAgg23 ((I_8.bring 1).at1 (o := 4) (vs := [(vs x1.u0)]) (nb rfl) rfl)) | (simp only [a8 a6]; exact (ld1 Tryd.isAgg23 ((I_8.bring 1).at1 (o := 4) (vs := [(vs x1.u0)]) (nb rfl) rfl))) | (simp only [b7 a6, a8 a6, a8 hb, c9 a6, d9]; exact (ld1 Tryd.isAgg23 ((I_8.bring 1).at1 (o := 4) (vs := [(vs x1.u0)]) (nb rfl) rfl)))) ?_
  refine a7 (Pu.g fun hb => by have a6 := hb; first | exact (K2 _ _ _) | (simp only [a8 a6]; exact (K2 _ _ _)) | (simp only [b7 a6, a8 a6, a8 hb, c9 a6, d9]; exact (K2 _ _ _))) ?_
  refine a7 (Pu.g fun hb => by have a6 := hb; first | exact (d6 _ _ _ _ _ _) | (simp only [a8 a6]; exact (d6 _ _ _ _ _ _)) | (simp only [b7 a6, a8 a6, a8 hb, c9 a6, d9]; exact (d6 _ _ _ _ _ _))) ?_
  try simp only [m9, T5]
  refine a7 (Pu.e (a2I _ _ _) (Pu.g fun hb => by obtain ⟨a6, k8⟩ := a4a hb; first | exact y9 | (simp only [b7 a6, a8 a6, b7 k8, a8 k8, a8 hb, d9]; exact y9) | (simp only [b7 a6, a8 a6, b7 k8, a8 k8, a8 hb, l9 hb]; exact y9) | (simp only [b7 a6, a8 a6, b7 k8, a8 k8, a8 hb, c9 hb, d9]; exact y9))) ?_
  refine c7 (Ld.e (a2I _ _ _) (Ld.g fun hb => by obtain ⟨a6, k8⟩ := a4a hb; first | exact (ld1 Tryd.isAgg3 ((I_8.bring 1).at1 (o := 0) (vs := [(vi x1.b9)]) (nb rfl) rfl)) | (simp only [a8 hb]; exact (ld1 Tryd.isAgg3 ((I_8.bring 1).at1 (o := 0) (vs := [(vi x1.b9)]) (nb rfl) rfl))) | (simp only [b7 a6, a8 a6, b7 k8, a8 k8, a8 hb, l9 hb]; exact (ld1 Tryd.isAgg3 ((I_8.bring 1).at1 (o := 0) (vs := [(vi x1.b9)]) (nb rfl) rfl))) | (simp only [b7 a6, a8 a6, b7 k8, a8 k8, a8 hb, c9 hb, d9]; exact (ld1 Tryd.isAgg3 ((I_8.bring 1).at1 (o := 0) (vs := [(vi x1.b9)]) (nb rfl) rfl))))) ?_
  refine a7 (Pu.e (a2I _ _ _) (Pu.g fun hb => by obtain ⟨a6, k8⟩ := a4a hb; first | exact (d6 _ _ _ _ _ _) | (simp only [a8 hb]; exact (d6 _ _ _ _ _ _)) | (simp only [b7 a6, a8 a6, b7 k8, a8 k8, a8 hb, l9 hb]; exact (d6 _ _ _ _ _ _)) | (simp only [b7 a6, a8 a6, b7 k8, a8 k8, a8 hb, c9 hb, d9]; exact (d6 _ _ _ _ _ _)))) ?_
  refine a7 (Pu.g fun hb => by have a6 := hb; first | exact (E1 _ _) | (simp only [a8 a6, l9 a6]; exact (E1 _ _)) | (simp only [a8 a6, c9 a6]; exact (E1 _ _))) ?_
  try simp only [T5]
  refine a7 (Pu.e (a2I _ _ _) (Pu.g fun hb => by obtain ⟨a6, k8⟩ := a4a hb; first | exact y9 | (simp only [b7 a6, a8 a6, b7 k8, a8 k8, a8 hb, d9]; exact y9) | (simp only [b7 a6, a8 a6, b7 k8, a8 k8, a8 hb, l9 hb]; exact y9) | (simp only [b7 a6, a8 a6, b7 k8, a8 k8, a8 hb, c9 hb, d9]; exact y9))) ?_
  refine c7 (Ld.e (a2I _ _ _) (Ld.g fun hb => by obtain ⟨a6, k8⟩ := a4a hb; first | exact (ld1 Tryd.isAgg3 ((I_8.bring 1).at1 (o := 0) (vs := [(vi x1.b9)]) (nb rfl) rfl)) | (simp only [a8 hb]; exact (ld1 Tryd.isAgg3 ((I_8.bring 1).at1 (o := 0) (vs := [(vi x1.b9)]) (nb rfl) rfl))) | (simp only [b7 a6, a8 a6, b7 k8, a8 k8, a8 hb, l9 hb]; exact (ld1 Tryd.isAgg3 ((I_8.bring 1).at1 (o := 0) (vs := [(vi x1.b9)]) (nb rfl) rfl))) | (simp only [b7 a6, a8 a6, b7 k8, a8 k8, a8 hb, c9 hb, d9]; exact (ld1 Tryd.isAgg3 ((I_8.bring 1).at1 (o := 0) (vs := [(vi x1.b9)]) (nb rfl) rfl))))) ?_
  refine a7 (Pu.e (a2I _ _ _) (Pu.g fun hb => by obtain ⟨a6, k8⟩ := a4a hb; first | exact (d6 _ _ _ _ _ _) | (simp only [a8 hb]; exact (d6 _ _ _ _ _ _)) | (simp only [b7 a6, a8 a6, b7 k8, a8 k8, a8 hb, l9 hb]; exact (d6 _ _ _ _ _ _)) | (simp only [b7 a6, a8 a6, b7 k8, a8 k8, a8 hb, c9 hb, d9]; exact (d6 _ _ _ _ _ _)))) ?_
  refine a7 (Pu.g fun hb => by have a6 := hb; first | exact (E1 _ _) | (simp only [a8 a6, l9 a6]; exact (E1 _ _)) | (simp only [a8 a6, c9 a6]; exact (E1 _ _))) ?_
  refine a7 (k7 _ _) ?_
  refine a7 (Pu.g fun hb => by have a6 := hb; first | exact K5 | (simp only [b7 a6, a8 a6, a8 hb, l9 a6]; exact K5) | (simp only [b7 a6, a8 a6, a8 hb, c9 a6, d9]; exact K5)) ?_
  refine c7 (Ld.g fun hb => by have a6 := hb; first | exact (ld1 Tryd.isAgg23 ((I_8.bring 1).at1 (o := 5) (vs := [(vs x1.s7)]) (nb rfl) rfl)) | (simp only [a8 a6]; exact (ld1 Tryd.isAgg23 ((I_8.bring 1).at1 (o := 5) (vs := [(vs x1.s7)]) (nb rfl) rfl))) | (simp only [b7 a6, a8 a6, a8 hb, c9 a6, d9]; exact (ld1 Tryd.isAgg23 ((I_8.bring 1).at1 (o := 5) (vs := [(vs x1.s7)]) (nb rfl) rfl)))) ?_
  refine a7 (Pu.g fun hb => by have a6 := hb; first | exact (K2 _ _ _) | (simp only [a8 a6]; exact (K2 _ _ _)) | (simp only [b7 a6, a8 a6, a8 hb, c9 a6, d9]; exact (K2 _ _ _))) ?_
  refine a7 (Pu.g fun hb => by have a6 := hb; first | exact (d6 _ _ _ _ _ _) | (simp only [a8 a6]; exact (d6 _ _ _ _ _ _)) | (simp only [b7 a6, a8 a6, a8 hb, c9 a6, d9]; exact (d6 _ _ _ _ _ _))) ?_
  try simp only [m9, T5]
  refine a7 (Pu.e (a2I _ _ _) (Pu.g fun hb => by obtain ⟨a6, k8⟩ := a4a hb; first | exact y9 | (simp only [b7 a6, a8 a6, b7 k8, a8 k8, a8 hb, d9]; exact y9) | (simp only [b7 a6, a8 a6, b7 k8, a8 k8, a8 hb, l9 hb]; exact y9) | (simp only [b7 a6, a8 a6, b7 k8, a8 k8, a8 hb, c9 hb, d9]; exact y9))) ?_
  refine c7 (Ld.e (a2I _ _ _) (Ld.g fun hb => by obtain ⟨a6, k8⟩ := a4a hb; first | exact (ld1 Tryd.isAgg3 ((I_8.bring 1).at1 (o := 0) (vs := [(vi x1.b9)]) (nb rfl) rfl)) | (simp only [a8 hb]; exact (ld1 Tryd.isAgg3 ((I_8.bring 1).at1 (o := 0) (vs := [(vi x1.b9)]) (nb rfl) rfl))) | (simp only [b7 a6, a8 a6, b7 k8, a8 k8, a8 hb, l9 hb]; exact (ld1 Tryd.isAgg3 ((I_8.bring 1).at1 (o := 0) (vs := [(vi x1.b9)]) (nb rfl) rfl))) | (simp only [b7 a6, a8 a6, b7 k8, a8 k8, a8 hb, c9 hb, d9]; exact (ld1 Tryd.isAgg3 ((I_8.bring 1).at1 (o := 0) (vs := [(vi x1.b9)]) (nb rfl) rfl))))) ?_
  refine a7 (Pu.e (a2I _ _ _) (Pu.g fun hb => by obtain ⟨a6, k8⟩ := a4a hb; first | exact (d6 _ _ _ _ _ _) | (simp only [a8 hb]; exact (d6 _ _ _ _ _ _)) | (simp only [b7 a6, a8 a6, b7 k8, a8 k8, a8 hb, l9 hb]; exact (d6 _ _ _ _ _ _)) | (simp only [b7 a6, a8 a6, b7 k8, a8 k8, a8 hb, c9 hb, d9]; exact (d6 _ _ _ _ _ _)))) ?_
  refine a7 (Pu.g fun hb => by have a6 := hb; first | exact (E1 _ _) | (simp only [a8 a6, l9 a6]; exact (E1 _ _)) | (simp only [a8 a6, c9 a6]; exact (E1 _ _))) ?_
  refine a7 (k7 _ _) ?_
  refine a7 (i7 _) ?_
  refine a7 p8 ?_
  refine u1 I_8 Tryd.sizeOf4 (vs := [(Value.bool ((((L1.fok && (decide ((x1.f9.n : Int) = o4))) && (decide ((x1.k3.n : Int) = a0Z))) && (((decide ((x1.u0.n : Int) = 0)) || (decide (x1.b9 = 3))) || (decide (x1.b9 = 4)))) && ((decide ((x1.s7.n : Int) = 0)) || (decide (x1.b9 = 3)))))]) (cs' := [(Value.bool ((((L1.fok && (decide ((x1.f9.n : Int) = o4))) && (decide ((x1.k3.n : Int) = a0Z))) && (((decide ((x1.u0.n : Int) = 0)) || (decide (x1.b9 = 3))) || (decide (x1.b9 = 4)))) && ((decide ((x1.s7.n : Int) = 0)) || (decide (x1.b9 = 3))))), (Value.bool L1.fnames)]) rfl rfl (nb rfl) rfl rfl fun a1C c4X f1f => ?_
  have hj2 : ∀ (a4F : b6) (H : Hp) (w : World) (_ : Inv w0 ps0 H0 H [bx g0 102 (g1 a4F), bx g_2 88 (d5 x1)] w) (_ : T0 a4F x1 H K), c6n (Value.pointer (some ⟨g0, 0, none⟩)) (Value.pointer (some ⟨g_2, 0, none⟩)) w R E := by
   intro a4F H w I h
   unfold c6n
   intro _
   unfold T0 at h
   have hj3 : ∀ (a0R : b6) (H : Hp) (w : World) (_ : Inv w0 ps0 H0 H [bx g0 102 (g1 a0R), bx g_2 88 (d5 x1)] w) (_ : S8 a0R x1 H K), c6m (Value.pointer (some ⟨g0, 0, none⟩)) (Value.pointer (some ⟨g_2, 0, none⟩)) w R E := by
    intro a0R H w I h
    unfold c6m
    intro _
    unfold S8 at h
    have hj4 : ∀ (a6h : b6) (H : Hp) (w : World) (_ : Inv w0 ps0 H0 H [bx g0 102 (g1 a6h), bx g_2 88 (d5 x1)] w) (_ : S6 a6h x1 H K), c6l (Value.pointer (some ⟨g0, 0, none⟩)) (Value.pointer (some ⟨g_2, 0, none⟩)) w R E := by
     intro a6h H w I h
     unfold c6l
     intro _
     unfold S6 at h
     obtain ⟨d1n, c0z, g0w, g0x⟩ := h
     refine v6 (J := fun n l w => ∃ (s : Int × b6) (H : Hp) , n = c0z s ∧ l = (match s with | (a7l, C0) => [(vi a7l)]) ∧ (match s with | (a7l, C0) => Inv w0 ps0 H0 H [bx g0 102 (g1 C0), bx g_2 88 (d5 x1)] w) ∧ d1n s H) ⟨_, (0, a6h), H, rfl, rfl, ((I.bring 1).bring 1), g0w⟩ ?_
     rintro g6d τ_113 w next5 ⟨⟨a7l, C0⟩, H, rfl, d1o, I, g0y⟩ hn5
     dsimp only at d1o I
     simp only [List.map_cons, List.map_nil, List.cons.injEq, and_true] at d1o
     have e9 := d1o
     simp only [e9]
     obtain ⟨n5, hm5, h⟩ : ∃ n5 : (Int × b6) → Hp → Prop, (∀ s' H', n5 s' H' → d1n s' H' ∧ c0z s' < c0z (a7l, C0)) ∧ S5 x1 a7l C0 H n5 K := ⟨_, fun _ _ h => h, g0x (a7l, C0) H (fun s' H' => d1n s' H' ∧ c0z s' < c0z (a7l, C0)) g0y (fun _ _ a b => ⟨a, b⟩)⟩
     unfold d4d
     unfold S5 at h
     refine a7 K5 ?_
     refine c7 (ld1 Tryd.isAgg23 ((I.bring 1).at1 (o := 5) (vs := [(vs x1.s7)]) (nb rfl) rfl)) ?_
     refine a7 (K2 _ _ _) ?_
     refine a7 (r8 _ _ _ _ _ _) ?_
     try simp only [m9]
     refine a7 (Pu.g fun hb => by have a6 := hb; first | exact (i7 _) | (simp only [a8 a6]; exact (i7 _)) | (simp only [b7 a6, a8 a6, a8 hb, c9 a6, d9]; exact (i7 _))) ?_
     refine a7 (Pu.g fun hb => by have a6 := hb; first | exact p8 | (simp only [a8 a6]; exact p8) | (simp only [b7 a6, a8 a6, a8 hb, c9 a6, d9]; exact p8)) ?_
     refine c7 (Ld.g fun hb => by have a6 := hb; first | exact (ld1 Tryd.isAgg4 (I.at1 (o := 0) (vs := [(Value.bool C0.fok)]) (nb rfl) rfl)) | (simp only [a8 a6]; exact (ld1 Tryd.isAgg4 (I.at1 (o := 0) (vs := [(Value.bool C0.fok)]) (nb rfl) rfl))) | (simp only [b7 a6, a8 a6, a8 hb, c9 a6, d9]; exact (ld1 Tryd.isAgg4 (I.at1 (o := 0) (vs := [(Value.bool C0.fok)]) (nb rfl) rfl)))) ?_
     refine a7 (k7 _ _) ?_
     refine k9 (fun d1p => ?_) (fun d1p => ?_)
     ·replace h := h.1 d1p
      refine a7 K5 ?_
      refine c7 (ld1 Tryd.isAgg23 ((I.bring 1).at1 (o := 5) (vs := [(vs x1.s7)]) (nb rfl) rfl)) ?_
      obtain ⟨b8G, d6x, d1i, d7Y, h⟩ := h
      obtain ⟨g8s, g8t, c5B, d7Y⟩ := d7Y
      refine a7 (a4q c5B _ _ _ _ b8G d6x) ?_
      refine c7 (ldA (vs := (d5 d1i)) Tryd.isAgg88 Tryd.sizeOf88 rfl (I.atH d7Y)) ?_
      refine f8 (cap := []) (fun args w => Tryd.call65 args w) ?_
      refine i6 (Fi := [bx g0 102 (g1 C0)]) (Fr := [bx g_2 88 (d5 x1)]) I (h g0) (fun g6e d7W g6f g8u g0z d8X g6g g0A => ?_) (fun _ _ _ _ _ q => q.elim)
      obtain ⟨c6M, rfl, rfl, h⟩ := g0A
      refine a7 (q8 _ _ _ _ _ _) ?_
      exact hn5 _ _ _ (hm5 _ _ h).2 ⟨((IntKind.wrap .i64 (a7l + 1)), c6M), d7W, rfl, rfl, ((g0z.bring 1).bring 1), (hm5 _ _ h).1⟩
     ·replace h := h.2 d1p
      exact hR C0 H _ (I.bring 1).drop h
    refine p9 fun j4 hx4 => ?_
    obtain ⟨d1q, c0A, g0B, g0C⟩ := h
    refine v6 (J := fun n l w => ∃ (s : Int × b6) (H : Hp) , n = c0A s ∧ l = (match s with | (a7m, N4) => [(vi a7m)]) ∧ (match s with | (a7m, N4) => Inv w0 ps0 H0 H [bx g0 102 (g1 N4), bx g_2 88 (d5 x1)] w) ∧ d1q s H) ⟨_, (0, a0R), H, rfl, rfl, ((I.bring 1).bring 1), g0B⟩ ?_
    rintro g6h τ_147 w next6 ⟨⟨a7m, N4⟩, H, rfl, d1r, I, g0D⟩ hn6
    dsimp only at d1r I
    simp only [List.map_cons, List.map_nil, List.cons.injEq, and_true] at d1r
    have e8 := d1r
    simp only [e8]
    obtain ⟨n6, hm6, h⟩ : ∃ n6 : (Int × b6) → Hp → Prop, (∀ s' H', n6 s' H' → d1q s' H' ∧ c0A s' < c0A (a7m, N4)) ∧ S7 x1 a7m N4 H n6 K := ⟨_, fun _ _ h => h, g0C (a7m, N4) H (fun s' H' => d1q s' H' ∧ c0A s' < c0A (a7m, N4)) g0D (fun _ _ a b => ⟨a, b⟩)⟩
    unfold d4e
    unfold S7 at h
    refine a7 P4 ?_
    refine c7 (ld1 Tryd.isAgg23 ((I.bring 1).at1 (o := 4) (vs := [(vs x1.u0)]) (nb rfl) rfl)) ?_
    refine a7 (K2 _ _ _) ?_
    refine a7 (r8 _ _ _ _ _ _) ?_
    try simp only [m9]
    refine a7 (Pu.g fun hb => by have a6 := hb; first | exact (i7 _) | (simp only [a8 a6]; exact (i7 _)) | (simp only [b7 a6, a8 a6, a8 hb, c9 a6, d9]; exact (i7 _))) ?_
    refine a7 (Pu.g fun hb => by have a6 := hb; first | exact p8 | (simp only [a8 a6]; exact p8) | (simp only [b7 a6, a8 a6, a8 hb, c9 a6, d9]; exact p8)) ?_
    refine c7 (Ld.g fun hb => by have a6 := hb; first | exact (ld1 Tryd.isAgg4 (I.at1 (o := 0) (vs := [(Value.bool N4.fok)]) (nb rfl) rfl)) | (simp only [a8 a6]; exact (ld1 Tryd.isAgg4 (I.at1 (o := 0) (vs := [(Value.bool N4.fok)]) (nb rfl) rfl))) | (simp only [b7 a6, a8 a6, a8 hb, c9 a6, d9]; exact (ld1 Tryd.isAgg4 (I.at1 (o := 0) (vs := [(Value.bool N4.fok)]) (nb rfl) rfl)))) ?_
    refine a7 (k7 _ _) ?_
    refine k9 (fun d1s => ?_) (fun d1s => ?_)
    ·replace h := h.1 d1s
     refine a7 P4 ?_
     refine c7 (ld1 Tryd.isAgg23 ((I.bring 1).at1 (o := 4) (vs := [(vs x1.u0)]) (nb rfl) rfl)) ?_
     obtain ⟨c0a, g0E, c3c, d1t, h⟩ := h
     obtain ⟨g6i, g6j, g0F, d1t⟩ := d1t
     refine a7 (a4q g0F _ _ _ _ c0a g0E) ?_
     refine c7 (ldA (vs := (d5 c3c)) Tryd.isAgg88 Tryd.sizeOf88 rfl (I.atH d1t)) ?_
     refine f8 (cap := []) (fun args w => Tryd.call65 args w) ?_
     refine i6 (Fi := [bx g0 102 (g1 N4)]) (Fr := [bx g_2 88 (d5 x1)]) I (h g0) (fun g6k d1j g6l g6m g0G g6n g6o g0H => ?_) (fun _ _ _ _ _ q => q.elim)
     obtain ⟨c6N, rfl, rfl, h⟩ := g0H
     refine a7 (q8 _ _ _ _ _ _) ?_
     exact hn6 _ _ _ (hm6 _ _ h).2 ⟨((IntKind.wrap .i64 (a7m + 1)), c6N), d1j, rfl, rfl, ((g0G.bring 1).bring 1), (hm6 _ _ h).1⟩
    ·replace h := h.2 d1s
     exact hx4 _ _ (hj4 N4 H _ ((I.bring 1).bring 1) h)
   refine p9 fun j3 hx3 => ?_
   obtain ⟨d1u, c0B, g0I, g0J⟩ := h
   refine v6 (J := fun n l w => ∃ (s : Int × b6) (H : Hp) , n = c0B s ∧ l = (match s with | (a7n, N5) => [(vi a7n)]) ∧ (match s with | (a7n, N5) => Inv w0 ps0 H0 H [bx g0 102 (g1 N5), bx g_2 88 (d5 x1)] w) ∧ d1u s H) ⟨_, (0, a4F), H, rfl, rfl, ((I.bring 1).bring 1), g0I⟩ ?_
   rintro g6p τ_181 w next7 ⟨⟨a7n, N5⟩, H, rfl, d1v, I, g0K⟩ hn7
   dsimp only at d1v I
   simp only [List.map_cons, List.map_nil, List.cons.injEq, and_true] at d1v
   have e7 := d1v
   simp only [e7]
   obtain ⟨n7, hm7, h⟩ : ∃ n7 : (Int × b6) → Hp → Prop, (∀ s' H', n7 s' H' → d1u s' H' ∧ c0B s' < c0B (a7n, N5)) ∧ S9 x1 a7n N5 H n7 K := ⟨_, fun _ _ h => h, g0J (a7n, N5) H (fun s' H' => d1u s' H' ∧ c0B s' < c0B (a7n, N5)) g0K (fun _ _ a b => ⟨a, b⟩)⟩
   unfold d4f
   unfold S9 at h
   refine a7 N0 ?_
   refine c7 (ld1 Tryd.isAgg28 ((I.bring 1).at1 (o := 2) (vs := [(vs x1.f9)]) (nb rfl) rfl)) ?_
   refine a7 (F5 _ _ _) ?_
   refine a7 (r8 _ _ _ _ _ _) ?_
   try simp only [m9]
   refine a7 (Pu.g fun hb => by have a6 := hb; first | exact (i7 _) | (simp only [a8 a6]; exact (i7 _)) | (simp only [b7 a6, a8 a6, a8 hb, c9 a6, d9]; exact (i7 _))) ?_
   refine a7 (Pu.g fun hb => by have a6 := hb; first | exact p8 | (simp only [a8 a6]; exact p8) | (simp only [b7 a6, a8 a6, a8 hb, c9 a6, d9]; exact p8)) ?_
   refine c7 (Ld.g fun hb => by have a6 := hb; first | exact (ld1 Tryd.isAgg4 (I.at1 (o := 0) (vs := [(Value.bool N5.fok)]) (nb rfl) rfl)) | (simp only [a8 a6]; exact (ld1 Tryd.isAgg4 (I.at1 (o := 0) (vs := [(Value.bool N5.fok)]) (nb rfl) rfl))) | (simp only [b7 a6, a8 a6, a8 hb, c9 a6, d9]; exact (ld1 Tryd.isAgg4 (I.at1 (o := 0) (vs := [(Value.bool N5.fok)]) (nb rfl) rfl)))) ?_
   refine a7 (k7 _ _) ?_
   refine k9 (fun d1w => ?_) (fun d1w => ?_)
   ·replace h := h.1 d1w
    refine a7 N0 ?_
    refine c7 (ld1 Tryd.isAgg28 ((I.bring 1).at1 (o := 2) (vs := [(vs x1.f9)]) (nb rfl) rfl)) ?_
    obtain ⟨c0c, g0L, c3d, d1x, h⟩ := h
    obtain ⟨g6q, g6r, g0M, d1x⟩ := d1x
    refine a7 (a2O g0M _ _ _ _ c0c g0L) ?_
    refine c7 (ldA (vs := (f4 c3d)) Tryd.isAgg30 Tryd.sizeOf30 rfl (I.atH d1x)) ?_
    refine f8 (cap := []) (fun args w => Tryd.call59 args w) ?_
    refine i6 (Fi := [bx g0 102 (g1 N5)]) (Fr := [bx g_2 88 (d5 x1)]) I (h g0) (fun g6s d1k g6t g6u g0N g6v g6w g0O => ?_) (fun _ _ _ _ _ q => q.elim)
    obtain ⟨c6O, rfl, rfl, h⟩ := g0O
    refine a7 (q8 _ _ _ _ _ _) ?_
    exact hn7 _ _ _ (hm7 _ _ h).2 ⟨((IntKind.wrap .i64 (a7n + 1)), c6O), d1k, rfl, rfl, ((g0N.bring 1).bring 1), (hm7 _ _ h).1⟩
   ·replace h := h.2 d1w
    exact hx3 _ _ (hj3 N5 H _ ((I.bring 1).bring 1) h)
  refine p9 fun j2 hx2 => ?_
  obtain ⟨d1y, c0C, g0P, g0Q⟩ := h
  refine v6 (J := fun n l w => ∃ (s : Int × b6) (H : Hp) , n = c0C s ∧ l = (match s with | (a7o, a4n) => [(vi a7o)]) ∧ (match s with | (a7o, a4n) => Inv w0 ps0 H0 H [bx g0 102 (g1 a4n), bx g_2 88 (d5 x1)] w) ∧ d1y s H) ⟨_, (0, (b6.mk ((((L1.fok && (decide ((x1.f9.n : Int) = o4))) && (decide ((x1.k3.n : Int) = a0Z))) && (((decide ((x1.u0.n : Int) = 0)) || (decide (x1.b9 = 3))) || (decide (x1.b9 = 4)))) && ((decide ((x1.s7.n : Int) = 0)) || (decide (x1.b9 = 3)))) L1.fnames)), H_6, rfl, rfl, ((c4X.bring 1).bring 1), g0P⟩ ?_
  rintro g6x τ_215 w next8 ⟨⟨a7o, a4n⟩, H, rfl, d1z, I, g0R⟩ hn8
  dsimp only at d1z I
  simp only [List.map_cons, List.map_nil, List.cons.injEq, and_true] at d1z
  have e6 := d1z
  simp only [e6]
  obtain ⟨n8, hm8, h⟩ : ∃ n8 : (Int × b6) → Hp → Prop, (∀ s' H', n8 s' H' → d1y s' H' ∧ c0C s' < c0C (a7o, a4n)) ∧ T1 x1 a7o a4n H n8 K := ⟨_, fun _ _ h => h, g0Q (a7o, a4n) H (fun s' H' => d1y s' H' ∧ c0C s' < c0C (a7o, a4n)) g0R (fun _ _ a b => ⟨a, b⟩)⟩
  unfold d4g
  unfold T1 at h
  refine a7 N1 ?_
  refine c7 (ld1 Tryd.isAgg31 ((I.bring 1).at1 (o := 3) (vs := [(vs x1.k3)]) (nb rfl) rfl)) ?_
  refine a7 (O9 _ _ _) ?_
  refine a7 (r8 _ _ _ _ _ _) ?_
  try simp only [m9]
  refine a7 (Pu.g fun hb => by have a6 := hb; first | exact (i7 _) | (simp only [a8 a6]; exact (i7 _)) | (simp only [b7 a6, a8 a6, a8 hb, c9 a6, d9]; exact (i7 _))) ?_
  refine a7 (Pu.g fun hb => by have a6 := hb; first | exact p8 | (simp only [a8 a6]; exact p8) | (simp only [b7 a6, a8 a6, a8 hb, c9 a6, d9]; exact p8)) ?_
  refine c7 (Ld.g fun hb => by have a6 := hb; first | exact (ld1 Tryd.isAgg4 (I.at1 (o := 0) (vs := [(Value.bool a4n.fok)]) (nb rfl) rfl)) | (simp only [a8 a6]; exact (ld1 Tryd.isAgg4 (I.at1 (o := 0) (vs := [(Value.bool a4n.fok)]) (nb rfl) rfl))) | (simp only [b7 a6, a8 a6, a8 hb, c9 a6, d9]; exact (ld1 Tryd.isAgg4 (I.at1 (o := 0) (vs := [(Value.bool a4n.fok)]) (nb rfl) rfl)))) ?_
  refine a7 (k7 _ _) ?_
  refine k9 (fun d1A => ?_) (fun d1A => ?_)
  ·replace h := h.1 d1A
   refine a7 N1 ?_
   refine c7 (ld1 Tryd.isAgg31 ((I.bring 1).at1 (o := 3) (vs := [(vs x1.k3)]) (nb rfl) rfl)) ?_
   obtain ⟨c0e, g0S, c3e, d1B, h⟩ := h
   obtain ⟨g6y, g6z, g0T, d1B⟩ := d1B
   refine a7 (a4X g0T _ _ _ _ c0e g0S) ?_
   refine c7 (ldA (vs := (f7 c3e)) Tryd.isAgg33 Tryd.sizeOf33 rfl (I.atH d1B)) ?_
   refine f8 (cap := []) (fun args w => Tryd.call62 args w) ?_
   refine i6 (Fi := [bx g0 102 (g1 a4n)]) (Fr := [bx g_2 88 (d5 x1)]) I (h g0) (fun g6A d1l g6B g6C g0U g6D g6E g0V => ?_) (fun _ _ _ _ _ q => q.elim)
   obtain ⟨c6P, rfl, rfl, h⟩ := g0V
   refine a7 (q8 _ _ _ _ _ _) ?_
   exact hn8 _ _ _ (hm8 _ _ h).2 ⟨((IntKind.wrap .i64 (a7o + 1)), c6P), d1l, rfl, rfl, ((g0U.bring 1).bring 1), (hm8 _ _ h).1⟩
  ·replace h := h.2 d1A
   exact hx2 _ _ (hj2 a4n H _ ((I.bring 1).bring 1) h)
 refine p9 fun j1 hx1 => ?_
 refine a7 y9 ?_
 refine c7 (ld1 Tryd.isAgg3 (I_4.at1 (o := 0) (vs := [(vi x1.b9)]) (nb rfl) rfl)) ?_
 refine a7 (d6 _ _ _ _ _ _) ?_
 refine g9 (fun d1C => ?_) (fun d1C => ?_)
 ·replace h := h.1 d1C
  exact hx1 _ _ (hj1 1 0 x0 H _ ((I_4.bring 1).bring 1) h)
 ·replace h := h.2 d1C
  refine a7 (d6 _ _ _ _ _ _) ?_
  refine g9 (fun d1D => ?_) (fun d1D => ?_)
  ·replace h := h.1 d1D
   exact hx1 _ _ (hj1 2 0 x0 H _ ((I_4.bring 1).bring 1) h)
  ·replace h := h.2 d1D
   have hj9 : ∀ (b7F : Bool) (H : Hp) (w : World) (_ : Inv w0 ps0 H0 H [bx g_2 88 (d5 x1), bx g0 102 (g1 x0)] w) (_ : B1 0 0 x1.b9 b7F x1 x0 H K), c6w (Value.pointer (some ⟨g0, 0, none⟩)) (Value.pointer (some ⟨g_2, 0, none⟩)) (vi 0) (vi 0) (vi x1.b9) (Value.bool b7F) w j1 R E := by
    intro b7F H w I h
    unfold c6w
    intro _
    unfold B1 at h
    refine k9 (fun d1E => ?_) (fun d1E => ?_)
    ·replace h := h.1 d1E
     exact hx1 _ _ (hj1 0 1 x0 H _ ((I.bring 1).bring 1) h)
    ·replace h := h.2 d1E
     refine a7 (d6 _ _ _ _ _ _) ?_
     refine g9 (fun d1F => ?_) (fun d1F => ?_)
     ·replace h := h.1 d1F
      exact hx1 _ _ (hj1 0 0 x0 H _ ((I.bring 1).bring 1) h)
     ·replace h := h.2 d1F
      refine a7 (i7 _) ?_
      refine a7 p8 ?_
      refine u1 (I.bring 1) Tryd.sizeOf4 (vs := [(Value.bool false)]) (cs' := [(Value.bool false), (Value.bool x0.fnames)]) rfl rfl (nb rfl) rfl rfl fun d9b g0W g6F => ?_
      exact hx1 _ _ (hj1 0 0 (b6.mk false x0.fnames) H _ (g0W.bring 1) h)
   refine p9 fun j9 hx9 => ?_
   refine a7 (d6 _ _ _ _ _ _) ?_
   refine g9 (fun d1G => ?_) (fun d1G => ?_)
   ·replace h := h.1 d1G
    exact hx9 _ _ (hj9 (decide (x1.b9 = 3)) H _ ((I_4.bring 1).bring 1) h)
   ·replace h := h.2 d1G
    refine a7 (d6 _ _ _ _ _ _) ?_
    refine g9 (fun d1H => ?_) (fun d1H => ?_)
    ·replace h := h.1 d1H
     exact hx9 _ _ (hj9 (decide (x1.b9 = 4)) H _ ((I_4.bring 1).bring 1) h)
    ·replace h := h.2 d1H
     refine a7 (d6 _ _ _ _ _ _) ?_
     refine g9 (fun d1I => ?_) (fun d1I => ?_)
     ·replace h := h.1 d1I
      exact hx9 _ _ (hj9 (decide (x1.b9 = 5)) H _ ((I_4.bring 1).bring 1) h)
     ·replace h := h.2 d1I
      refine a7 (d6 _ _ _ _ _ _) ?_
      exact hx9 _ _ (hj9 (decide (x1.b9 = 6)) H _ ((I_4.bring 1).bring 1) h)
theorem a8F (x0 : b6) (x1 : i4) {H : Hp} {K : b6 → Hp → Prop} (h : Y0 x0 x1 H K) : O6 x0 x1 H K := by
 intro g0 w I
 refine f4f ?_
 refine a8r x0 x1 g0 I (fun y0 H' w' I' hk => ⟨H', _, I', y0, rfl, rfl, hk⟩) h
def Z0 (cr_23j2 : b6) (_cr_15j2 : b8) (_cr_1j2 : g5) (H : Hp) (K : Int → Hp → Prop) : Prop :=
 a1D cr_23j2 H (fun (d1J : Int) (d7Z : Hp) =>
 K d1J d7Z)
def Z1 (cr_15l3 : b8) (cr_1l3 : g5) (C5 : Int) (cr_23l3 : b6) (H : Hp) (n3 : (Int × b6) → Hp → Prop) (K : Int → Hp → Prop) : Prop :=
 (((decide (C5 < (cr_1l3.P1.n : Int))) && cr_23l3.fok) = true →
 (0 : Int) ≤ C5 ∧ (C5 : Int) < cr_1l3.P1.n ∧ ∃ d1K : i4, EltH H cr_1l3.P1 C5 6 (d5 d1K) ∧
 O6 cr_23l3 d1K H (fun (c6Q : b6) (d1L : Hp) =>
 n3 ((IntKind.wrap .i64 (C5 + 1)), c6Q) d1L)) ∧
 (((decide (C5 < (cr_1l3.P1.n : Int))) && cr_23l3.fok) = false →
 Z0 cr_23l3 cr_15l3 cr_1l3 H K)
def Z2 (cr_23j1 : b6) (cr_15j1 : b8) (cr_1j1 : g5) (H : Hp) (K : Int → Hp → Prop) : Prop :=
 TL ((0, cr_23j1) : Int × b6) H fun (s : Int × b6) H n3 => Z1 cr_15j1 cr_1j1 s.1 s.2 H n3 K
def Z3 (cr_15l4 : b8) (cr_1l4 : g5) (T4 : Int) (cr_23l4 : b6) (H : Hp) (n4 : (Int × b6) → Hp → Prop) (K : Int → Hp → Prop) : Prop :=
 (T4 < (cr_1l4.D8.n : Int) →
 ∃ a9y : B8, (cr_23l4.fok = true → (0 : Int) ≤ T4 ∧ (T4 : Int) < cr_1l4.D8.n ∧ EltH H cr_1l4.D8 T4 2 (p7 a9y)) ∧
 ∃ b0v : B8, ((cr_23l4.fok && (decide (0 ≤ a9y.M3))) = true → (0 : Int) ≤ T4 ∧ (T4 : Int) < cr_1l4.D8.n ∧ EltH H cr_1l4.D8 T4 2 (p7 b0v)) ∧
 (0 : Int) ≤ T4 ∧ (T4 : Int) < cr_1l4.D8.n ∧ ∃ c3f : B8, EltH H cr_1l4.D8 T4 2 (p7 c3f) ∧
 O4 (b6.mk ((cr_23l4.fok && (decide (0 ≤ a9y.M3))) && (decide (b0v.M3 ≤ 2147483647))) cr_23l4.fnames) c3f.g7 true H (fun (c6R : b6) (d1M : Hp) =>
 n4 ((IntKind.wrap .i64 (T4 + 1)), c6R) d1M)) ∧
 (¬ (T4 < (cr_1l4.D8.n : Int)) →
 Z2 cr_23l4 cr_15l4 cr_1l4 H K)
def a0V (x0 : g5) (H : Hp) (K : Int → Hp → Prop) : Prop :=
 a0v x0 H (fun (o0 : b8) (H_6 : Hp) =>
 (¬ (o0.fbad = 0) →
 K o0.fbad H_6) ∧
 (o0.fbad = 0 →
 TL ((0, (b6.mk true true)) : Int × b6) H_6 fun (s : Int × b6) H n4 => Z3 o0 x0 s.1 s.2 H n4 K))
theorem b0a (x0 : g5) {w0 w : World} {ps0 : Nat → Prop} {H0 H : Hp} {K : Int → Hp → Prop} {R : Value → World → Prop} {E : Pan} (I : Inv w0 ps0 H0 H [] w) (hR : ∀ (r0 : Int) (H' : Hp) (w' : World) (_ : Inv w0 ps0 H0 H' [] w') (_ : K r0 H'), R (vi r0) w') (h : a0V x0 H K) : F23 (Value.agg (d7 x0).toArray) w R E := by
 unfold a0V at h
 unfold F23
 refine G7 I (cs := (d7 x0)) rfl fun g_2 w_3 I_4 k_5 => ?_
 refine c7 (ldA Tryd.isAgg25 Tryd.sizeOf25 rfl (I_4.at1 (o := 0) (vs := (d7 x0)) (nb rfl) rfl)) ?_
 refine f8 (cap := []) (fun args w => Tryd.call63 args w) ?_
 refine i6 (Fi := []) (Fr := [bx g_2 25 (d7 x0)]) I_4 (h) (fun a6Q H_6 a6q w_7 I_8 a6R k_9 a0J => ?_) (fun _ _ _ _ _ q => q.elim)
 obtain ⟨o0, rfl, rfl, h⟩ := a0J
 refine L5 I_8 Tryd.zeroValue99 (cs := [(vi 0), (vi 0), (vi 0)]) rfl fun b7c a5c a4v c1C => ?_
 refine u1 a4v Tryd.sizeOf99 (vs := (f5 o0)) (cs' := (f5 o0)) rfl rfl (nb rfl) rfl rfl fun o7 a3i b2U => ?_
 refine a7 u5 ?_
 refine c7 (ld1 Tryd.isAgg3 (a3i.at1 (o := 2) (vs := [(vi o0.fbad)]) (nb rfl) rfl)) ?_
 refine a7 (u7 _ _ _ _ _ _) ?_
 refine a2H (fun d1N => ?_) (fun d1N => ?_)
 ·replace h := h.1 d1N
  refine a7 u5 ?_
  refine c7 (ld1 Tryd.isAgg3 (a3i.at1 (o := 2) (vs := [(vi o0.fbad)]) (nb rfl) rfl)) ?_
  exact hR o0.fbad H_6 _ a3i.drop.drop h
 ·replace h := h.2 d1N
  refine a7 (c0X _ _) ?_
  refine L5 a3i Tryd.zeroValue102 (cs := [(Value.bool false), (Value.bool false)]) rfl fun a5S a6m a8T c4N => ?_
  refine u1 a8T Tryd.sizeOf102 (vs := [(Value.bool true), (Value.bool true)]) (cs' := [(Value.bool true), (Value.bool true)]) rfl rfl (nb rfl) rfl rfl fun v8 a5T c9y => ?_
  have hj1 : ∀ (cr_23j1 : b6) (H : Hp) (w : World) (_ : Inv w0 ps0 H0 H [bx a5S 102 (g1 cr_23j1), bx b7c 99 (f5 o0), bx g_2 25 (d7 x0)] w) (_ : Z2 cr_23j1 o0 x0 H K), c5W (Value.pointer (some ⟨g_2, 0, none⟩)) (Value.pointer (some ⟨a5S, 0, none⟩)) w R E := by
   intro cr_23j1 H w I h
   unfold c5W
   intro _
   unfold Z2 at h
   have hj2 : ∀ (cr_23j2 : b6) (H : Hp) (w : World) (_ : Inv w0 ps0 H0 H [bx a5S 102 (g1 cr_23j2), bx b7c 99 (f5 o0), bx g_2 25 (d7 x0)] w) (_ : Z0 cr_23j2 o0 x0 H K), c5R (Value.pointer (some ⟨a5S, 0, none⟩)) w R E := by
    intro cr_23j2 H w I h
    unfold c5R
    intro _
    unfold Z0 at h
    refine c7 (ldA Tryd.isAgg102 Tryd.sizeOf102 rfl (I.at1 (o := 0) (vs := (g1 cr_23j2)) (nb rfl) rfl)) ?_
    refine f8 (cap := []) (fun args w => Tryd.call60 args w) ?_
    refine i6 (Fi := []) (Fr := [bx a5S 102 (g1 cr_23j2), bx b7c 99 (f5 o0), bx g_2 25 (d7 x0)]) I (h) (fun g8v d7Z g8w g8x g4p d1O g8y g4q => ?_) (fun _ _ _ _ _ q => q.elim)
    obtain ⟨d1J, rfl, rfl, h⟩ := g4q
    exact hR d1J d7Z _ g4p.drop.drop.drop h
   refine p9 fun j2 hx2 => ?_
   obtain ⟨d1P, c0D, g0X, g0Y⟩ := h
   refine v6 (J := fun n l w => ∃ (s : Int × b6) (H : Hp) , n = c0D s ∧ l = (match s with | (C5, cr_23l3) => [(vi C5)]) ∧ (match s with | (C5, cr_23l3) => Inv w0 ps0 H0 H [bx a5S 102 (g1 cr_23l3), bx b7c 99 (f5 o0), bx g_2 25 (d7 x0)] w) ∧ d1P s H) ⟨_, (0, cr_23j1), H, rfl, rfl, (((I.bring 2).bring 2).bring 2), g0X⟩ ?_
   rintro g6G τ_120 w next3 ⟨⟨C5, cr_23l3⟩, H, rfl, d1Q, I, g0Z⟩ hn3
   dsimp only at d1Q I
   simp only [List.map_cons, List.map_nil, List.cons.injEq, and_true] at d1Q
   have e6 := d1Q
   simp only [e6]
   obtain ⟨n3, hm3, h⟩ : ∃ n3 : (Int × b6) → Hp → Prop, (∀ s' H', n3 s' H' → d1P s' H' ∧ c0D s' < c0D (C5, cr_23l3)) ∧ Z1 o0 x0 C5 cr_23l3 H n3 K := ⟨_, fun _ _ h => h, g0Y (C5, cr_23l3) H (fun s' H' => d1P s' H' ∧ c0D s' < c0D (C5, cr_23l3)) g0Z (fun _ _ a b => ⟨a, b⟩)⟩
   unfold d3X
   unfold Z1 at h
   refine a7 a0s ?_
   refine c7 (ld1 Tryd.isAgg23 ((I.bring 2).at1 (o := 1) (vs := [(vs x0.P1)]) (nb rfl) rfl)) ?_
   refine a7 (K2 _ _ _) ?_
   refine a7 (r8 _ _ _ _ _ _) ?_
   refine a7 (Pu.g fun hb => by have a6 := hb; first | exact p8 | (simp only [b7 a6, a8 a6, a8 hb, l9 a6]; exact p8) | (simp only [b7 a6, a8 a6, a8 hb, c9 a6, d9]; exact p8)) ?_
   refine c7 (Ld.g fun hb => by have a6 := hb; first | exact (ld1 Tryd.isAgg4 (I.at1 (o := 0) (vs := [(Value.bool cr_23l3.fok)]) (nb rfl) rfl)) | (simp only [a8 a6]; exact (ld1 Tryd.isAgg4 (I.at1 (o := 0) (vs := [(Value.bool cr_23l3.fok)]) (nb rfl) rfl))) | (simp only [b7 a6, a8 a6, a8 hb, c9 a6, d9]; exact (ld1 Tryd.isAgg4 (I.at1 (o := 0) (vs := [(Value.bool cr_23l3.fok)]) (nb rfl) rfl)))) ?_
   refine a7 (k7 _ _) ?_
   refine k9 (fun b5o => ?_) (fun b5o => ?_)
   ·replace h := h.1 b5o
    refine a7 a0s ?_
    refine c7 (ld1 Tryd.isAgg23 ((I.bring 2).at1 (o := 1) (vs := [(vs x0.P1)]) (nb rfl) rfl)) ?_
    obtain ⟨g1a, g1b, d1K, d1R, h⟩ := h
    obtain ⟨g8z, g6H, g1c, d1R⟩ := d1R
    refine a7 (a4q g1c _ _ _ _ g1a g1b) ?_
    refine c7 (ldA (vs := (d5 d1K)) Tryd.isAgg88 Tryd.sizeOf88 rfl (I.atH d1R)) ?_
    refine f8 (cap := []) (fun args w => Tryd.call65 args w) ?_
    refine i6 (Fi := [bx a5S 102 (g1 cr_23l3)]) (Fr := [bx b7c 99 (f5 o0), bx g_2 25 (d7 x0)]) I (h a5S) (fun g6I d1L g6J a4f g1d g6K g6L g1e => ?_) (fun _ _ _ _ _ q => q.elim)
    obtain ⟨c6Q, rfl, rfl, h⟩ := g1e
    refine a7 (q8 _ _ _ _ _ _) ?_
    exact hn3 _ _ _ (hm3 _ _ h).2 ⟨((IntKind.wrap .i64 (C5 + 1)), c6Q), d1L, rfl, rfl, (((g1d.bring 2).bring 2).bring 2), (hm3 _ _ h).1⟩
   ·replace h := h.2 b5o
    exact hx2 _ _ (hj2 cr_23l3 H _ (((I.bring 2).bring 2).bring 2) h)
  refine p9 fun j1 hx1 => ?_
  obtain ⟨d1S, c0E, g1f, g1g⟩ := h
  refine v6 (J := fun n l w => ∃ (s : Int × b6) (H : Hp) , n = c0E s ∧ l = (match s with | (T4, cr_23l4) => [(vi T4)]) ∧ (match s with | (T4, cr_23l4) => Inv w0 ps0 H0 H [bx a5S 102 (g1 cr_23l4), bx b7c 99 (f5 o0), bx g_2 25 (d7 x0)] w) ∧ d1S s H) ⟨_, (0, (b6.mk true true)), H_6, rfl, rfl, (((a5T.bring 2).bring 2).bring 2), g1f⟩ ?_
  rintro g6M τ_171 w next4 ⟨⟨T4, cr_23l4⟩, H, rfl, d1T, I, g1h⟩ hn4
  dsimp only at d1T I
  simp only [List.map_cons, List.map_nil, List.cons.injEq, and_true] at d1T
  have e5 := d1T
  simp only [e5]
  obtain ⟨n4, hm4, h⟩ : ∃ n4 : (Int × b6) → Hp → Prop, (∀ s' H', n4 s' H' → d1S s' H' ∧ c0E s' < c0E (T4, cr_23l4)) ∧ Z3 o0 x0 T4 cr_23l4 H n4 K := ⟨_, fun _ _ h => h, g1g (T4, cr_23l4) H (fun s' H' => d1S s' H' ∧ c0E s' < c0E (T4, cr_23l4)) g1h (fun _ _ a b => ⟨a, b⟩)⟩
  unfold d3Y
  unfold Z3 at h
  refine a7 L0 ?_
  refine c7 (ld1 Tryd.isAgg22 ((I.bring 2).at1 (o := 0) (vs := [(vs x0.D8)]) (nb rfl) rfl)) ?_
  refine a7 (a5K _ _ _) ?_
  refine a7 (r8 _ _ _ _ _ _) ?_
  refine g9 (fun d1U => ?_) (fun d1U => ?_)
  ·replace h := h.1 d1U
   refine a7 p8 ?_
   refine c7 (ld1 Tryd.isAgg4 (I.at1 (o := 0) (vs := [(Value.bool cr_23l4.fok)]) (nb rfl) rfl)) ?_
   refine a7 (Pu.g fun hb => by have a6 := hb; first | exact L0 | (simp only [b7 a6, a8 a6, a8 hb, l9 a6]; exact L0) | (simp only [b7 a6, a8 a6, a8 hb, c9 a6, d9]; exact L0)) ?_
   refine c7 (Ld.g fun hb => by have a6 := hb; first | exact (ld1 Tryd.isAgg22 ((I.bring 2).at1 (o := 0) (vs := [(vs x0.D8)]) (nb rfl) rfl)) | (simp only [a8 a6]; exact (ld1 Tryd.isAgg22 ((I.bring 2).at1 (o := 0) (vs := [(vs x0.D8)]) (nb rfl) rfl))) | (simp only [b7 a6, a8 a6, a8 hb, c9 a6, d9]; exact (ld1 Tryd.isAgg22 ((I.bring 2).at1 (o := 0) (vs := [(vs x0.D8)]) (nb rfl) rfl)))) ?_
   try simp only [m9]
   obtain ⟨a9y, a5H, h⟩ := h
   obtain ⟨g6N, g6O, a5H⟩ := d8L a5H
   refine a7 (Pu.g fun hb => by have a6 := hb; first | exact (a3u (a5H hb).2.2.1 _ _ _ _ (a5H hb).1 (a5H hb).2.1) | (simp only [a8 a6]; exact (a3u (a5H hb).2.2.1 _ _ _ _ (a5H hb).1 (a5H hb).2.1)) | (simp only [b7 a6, a8 a6, a8 hb, c9 a6, d9]; exact (a3u (a5H hb).2.2.1 _ _ _ _ (a5H hb).1 (a5H hb).2.1))) ?_
   refine a7 (Pu.g fun hb => by have a6 := hb; first | exact a2l | (simp only [a8 a6]; exact a2l) | (simp only [b7 a6, a8 a6, a8 hb, c9 a6, d9]; exact a2l)) ?_
   refine c7 (Ld.g fun hb => by have a6 := hb; first | exact (ld1 (v := (vi a9y.M3)) Tryd.isAgg3 ((I.atH (a5H hb).2.2.2).sub (k := 1) (n := 1) (nb rfl))) | (simp only [a8 a6]; exact (ld1 (v := (vi a9y.M3)) Tryd.isAgg3 ((I.atH (a5H hb).2.2.2).sub (k := 1) (n := 1) (nb rfl)))) | (simp only [b7 a6, a8 a6, a8 hb, c9 a6, d9]; exact (ld1 (v := (vi a9y.M3)) Tryd.isAgg3 ((I.atH (a5H hb).2.2.2).sub (k := 1) (n := 1) (nb rfl))))) ?_
   refine a7 (Pu.g fun hb => by have a6 := hb; first | exact (a1d _ _ _ _ _ _) | (simp only [a8 a6]; exact (a1d _ _ _ _ _ _)) | (simp only [b7 a6, a8 a6, a8 hb, c9 a6, d9]; exact (a1d _ _ _ _ _ _))) ?_
   refine a7 (k7 _ _) ?_
   refine a7 (Pu.g fun hb => by have a6 := hb; first | exact L0 | (simp only [b7 a6, a8 a6, a8 hb, l9 a6]; exact L0) | (simp only [b7 a6, a8 a6, a8 hb, c9 a6, d9]; exact L0)) ?_
   refine c7 (Ld.g fun hb => by have a6 := hb; first | exact (ld1 Tryd.isAgg22 ((I.bring 2).at1 (o := 0) (vs := [(vs x0.D8)]) (nb rfl) rfl)) | (simp only [a8 a6]; exact (ld1 Tryd.isAgg22 ((I.bring 2).at1 (o := 0) (vs := [(vs x0.D8)]) (nb rfl) rfl))) | (simp only [b7 a6, a8 a6, a8 hb, c9 a6, d9]; exact (ld1 Tryd.isAgg22 ((I.bring 2).at1 (o := 0) (vs := [(vs x0.D8)]) (nb rfl) rfl)))) ?_
   try simp only [m9]
   obtain ⟨b0v, a5I, h⟩ := h
   obtain ⟨g6P, g6Q, a5I⟩ := d8L a5I
   refine a7 (Pu.g fun hb => by have a6 := hb; first | exact (a3u (a5I hb).2.2.1 _ _ _ _ (a5I hb).1 (a5I hb).2.1) | (simp only [a8 a6]; exact (a3u (a5I hb).2.2.1 _ _ _ _ (a5I hb).1 (a5I hb).2.1)) | (simp only [b7 a6, a8 a6, a8 hb, c9 a6, d9]; exact (a3u (a5I hb).2.2.1 _ _ _ _ (a5I hb).1 (a5I hb).2.1))) ?_
   refine a7 (Pu.g fun hb => by have a6 := hb; first | exact a2l | (simp only [a8 a6]; exact a2l) | (simp only [b7 a6, a8 a6, a8 hb, c9 a6, d9]; exact a2l)) ?_
   refine c7 (Ld.g fun hb => by have a6 := hb; first | exact (ld1 (v := (vi b0v.M3)) Tryd.isAgg3 ((I.atH (a5I hb).2.2.2).sub (k := 1) (n := 1) (nb rfl))) | (simp only [a8 a6]; exact (ld1 (v := (vi b0v.M3)) Tryd.isAgg3 ((I.atH (a5I hb).2.2.2).sub (k := 1) (n := 1) (nb rfl)))) | (simp only [b7 a6, a8 a6, a8 hb, c9 a6, d9]; exact (ld1 (v := (vi b0v.M3)) Tryd.isAgg3 ((I.atH (a5I hb).2.2.2).sub (k := 1) (n := 1) (nb rfl))))) ?_
   refine a7 (Pu.g fun hb => by have a6 := hb; first | exact (a0N _ _ _ _ _ _) | (simp only [a8 a6]; exact (a0N _ _ _ _ _ _)) | (simp only [b7 a6, a8 a6, a8 hb, c9 a6, d9]; exact (a0N _ _ _ _ _ _))) ?_
   refine a7 (k7 _ _) ?_
   refine a7 p8 ?_
   refine u1 I Tryd.sizeOf4 (vs := [(Value.bool ((cr_23l4.fok && (decide (0 ≤ a9y.M3))) && (decide (b0v.M3 ≤ 2147483647))))]) (cs' := [(Value.bool ((cr_23l4.fok && (decide (0 ≤ a9y.M3))) && (decide (b0v.M3 ≤ 2147483647)))), (Value.bool cr_23l4.fnames)]) rfl rfl (nb rfl) rfl rfl fun a9u d1V g6R => ?_
   refine a7 L0 ?_
   refine c7 (ld1 Tryd.isAgg22 ((d1V.bring 2).at1 (o := 0) (vs := [(vs x0.D8)]) (nb rfl) rfl)) ?_
   obtain ⟨g1i, g1j, c3f, d1W, h⟩ := h
   obtain ⟨g6S, g6T, g1k, d1W⟩ := d1W
   refine a7 (a3u g1k _ _ _ _ g1i g1j) ?_
   refine a7 b3S ?_
   refine c7 (ld1 (v := (Value.string c3f.g7)) Tryd.isAgg9 ((d1V.atH d1W).sub (k := 0) (n := 1) (nb rfl))) ?_
   refine f8 (cap := []) (fun args w => Tryd.call64 args w) ?_
   refine i6 (Fi := [bx a5S 102 [(Value.bool ((cr_23l4.fok && (decide (0 ≤ a9y.M3))) && (decide (b0v.M3 ≤ 2147483647)))), (Value.bool cr_23l4.fnames)]]) (Fr := [bx b7c 99 (f5 o0), bx g_2 25 (d7 x0)]) d1V (h a5S) (fun g6U d1M g6V g6W g1l g6X g6Y g1m => ?_) (fun _ _ _ _ _ q => q.elim)
   obtain ⟨c6R, rfl, rfl, h⟩ := g1m
   refine a7 (q8 _ _ _ _ _ _) ?_
   exact hn4 _ _ _ (hm4 _ _ h).2 ⟨((IntKind.wrap .i64 (T4 + 1)), c6R), d1M, rfl, rfl, (((g1l.bring 2).bring 2).bring 2), (hm4 _ _ h).1⟩
  ·replace h := h.2 d1U
   exact hx1 _ _ (hj1 cr_23l4 H _ (((I.bring 2).bring 2).bring 2) h)
theorem b0w (x0 : g5) {H : Hp} {K : Int → Hp → Prop} (h : a0V x0 H K) : a3e x0 H K := by
 intro w I
 refine f2k ?_
 refine b0a x0 I (fun r0 H' w' I' hk => ⟨H', _, I', r0, rfl, rfl, hk⟩) h
end Go.Proofs.YthldnpmfelniiaaDoor
