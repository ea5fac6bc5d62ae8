/- Typed formulas of the program's functions that few laws need; printed by lift.py off the code. -/
import Derived.Test.YthldnpmfelniiaaDoorzWV1
import Derived.Test.YthldnpmfelniiaaDoorzWG1z
namespace Go.Proofs.YthldnpmfelniiaaDoor
open Go.RowKit
set_option maxRecDepth 100000
set_option maxHeartbeats 2000000
def a0G (h2q : Int) (g0l : Int) (a6C : Int) (H : Hp) (K : Int → Int → Bool → Hp → Prop) : Prop :=
 ((((decide (a6C < g0l)) || (decide (1114111 < a6C))) || ((decide (55296 ≤ a6C)) && (decide (a6C < 57344)))) = true →
 K 65533 1 false H) ∧
 ((((decide (a6C < g0l)) || (decide (1114111 < a6C))) || ((decide (55296 ≤ a6C)) && (decide (a6C < 57344)))) = false →
 K a6C h2q true H)
def a0H (b0e : ByteArray) (a7C : Int) (e1L : Int) (b6q : Int) (X9 : Int) (G1 : Int) (H : Hp) (n3 : (Int × Int) → Hp → Prop) (K : Int → Int → Bool → Hp → Prop) : Prop :=
 (G1 < e1L →
 ((decide ((b0e.size : Int) ≤ (IntKind.wrap .i64 (a7C + G1)))) = false → (0 : Int) ≤ IntKind.wrap .i64 (a7C + G1) ∧ IntKind.wrap .i64 (a7C + G1) < (b0e.size : Int)) ∧
 (((decide ((b0e.size : Int) ≤ (IntKind.wrap .i64 (a7C + G1)))) || (decide (((b0e.get! (IntKind.wrap .i64 (a7C + G1) : Int).toNat).toNat : Int) < 128))) = false → (0 : Int) ≤ IntKind.wrap .i64 (a7C + G1) ∧ IntKind.wrap .i64 (a7C + G1) < (b0e.size : Int)) ∧
 ((((decide ((b0e.size : Int) ≤ (IntKind.wrap .i64 (a7C + G1)))) || (decide (((b0e.get! (IntKind.wrap .i64 (a7C + G1) : Int).toNat).toNat : Int) < 128))) || (decide (192 ≤ ((b0e.get! (IntKind.wrap .i64 (a7C + G1) : Int).toNat).toNat : Int)))) = true →
 K 65533 1 false H) ∧
 ((((decide ((b0e.size : Int) ≤ (IntKind.wrap .i64 (a7C + G1)))) || (decide (((b0e.get! (IntKind.wrap .i64 (a7C + G1) : Int).toNat).toNat : Int) < 128))) || (decide (192 ≤ ((b0e.get! (IntKind.wrap .i64 (a7C + G1) : Int).toNat).toNat : Int)))) = false →
 (0 : Int) ≤ IntKind.wrap .i64 (a7C + G1) ∧ IntKind.wrap .i64 (a7C + G1) < (b0e.size : Int) ∧
 n3 ((IntKind.wrap .i64 ((IntKind.wrap .i64 ((IntKind.wrap .i64 (64 * X9)) + (IntKind.wrap .i64 ((b0e.get! (IntKind.wrap .i64 (a7C + G1) : Int).toNat).toNat : Int)))) - 128)), (IntKind.wrap .i64 (G1 + 1))) H)) ∧
 (¬ (G1 < e1L) →
 a0G e1L b6q X9 H K)
def K1 (d2C : ByteArray) (h2r : Int) (b6r : Int) (a8m : Int) (b8V : Int) (H : Hp) (K : Int → Int → Bool → Hp → Prop) : Prop :=
 TL ((b8V, 1) : Int × Int) H fun (s : Int × Int) H n3 => a0H d2C h2r b6r a8m s.1 s.2 H n3 K
def a1V (x0 : ByteArray) (x1 : Int) (H : Hp) (K : Int → Int → Bool → Hp → Prop) : Prop :=
 (0 : Int) ≤ x1 ∧ x1 < (x0.size : Int) ∧
 ((IntKind.wrap .i64 ((x0.get! (x1 : Int).toNat).toNat : Int)) < 128 →
 K (IntKind.wrap .i64 ((x0.get! (x1 : Int).toNat).toNat : Int)) 1 true H) ∧
 (¬ ((IntKind.wrap .i64 ((x0.get! (x1 : Int).toNat).toNat : Int)) < 128) →
 (((decide (194 ≤ (IntKind.wrap .i64 ((x0.get! (x1 : Int).toNat).toNat : Int)))) && (decide ((IntKind.wrap .i64 ((x0.get! (x1 : Int).toNat).toNat : Int)) < 224))) = true →
 K1 x0 x1 2 128 (IntKind.wrap .i64 ((IntKind.wrap .i64 ((x0.get! (x1 : Int).toNat).toNat : Int)) - 192)) H K) ∧
 (((decide (194 ≤ (IntKind.wrap .i64 ((x0.get! (x1 : Int).toNat).toNat : Int)))) && (decide ((IntKind.wrap .i64 ((x0.get! (x1 : Int).toNat).toNat : Int)) < 224))) = false →
 (((decide (224 ≤ (IntKind.wrap .i64 ((x0.get! (x1 : Int).toNat).toNat : Int)))) && (decide ((IntKind.wrap .i64 ((x0.get! (x1 : Int).toNat).toNat : Int)) < 240))) = true →
 K1 x0 x1 3 2048 (IntKind.wrap .i64 ((IntKind.wrap .i64 ((x0.get! (x1 : Int).toNat).toNat : Int)) - 224)) H K) ∧
 (((decide (224 ≤ (IntKind.wrap .i64 ((x0.get! (x1 : Int).toNat).toNat : Int)))) && (decide ((IntKind.wrap .i64 ((x0.get! (x1 : Int).toNat).toNat : Int)) < 240))) = false →
 (((decide (240 ≤ (IntKind.wrap .i64 ((x0.get! (x1 : Int).toNat).toNat : Int)))) && (decide ((IntKind.wrap .i64 ((x0.get! (x1 : Int).toNat).toNat : Int)) < 245))) = true →
 K1 x0 x1 4 65536 (IntKind.wrap .i64 ((IntKind.wrap .i64 ((x0.get! (x1 : Int).toNat).toNat : Int)) - 240)) H K) ∧
 (((decide (240 ≤ (IntKind.wrap .i64 ((x0.get! (x1 : Int).toNat).toNat : Int)))) && (decide ((IntKind.wrap .i64 ((x0.get! (x1 : Int).toNat).toNat : Int)) < 245))) = false →
 K 65533 1 false H))))
theorem b1u (x0 : ByteArray) (x1 : Int) {w0 w : World} {ps0 : Nat → Prop} {H0 H : Hp} {K : Int → Int → Bool → Hp → Prop} {R : Value → World → Prop} {E : Pan} (I : Inv w0 ps0 H0 H [] w) (hR : ∀ (r0 : Int) (r1 : Int) (r2 : Bool) (H' : Hp) (w' : World) (_ : Inv w0 ps0 H0 H' [] w') (_ : K r0 r1 r2 H'), R (Value.tuple #[(vi r0), (vi r1), (Value.bool r2)]) w') (h : a1V x0 x1 H K) : d3L (Value.string x0) (vi x1) w R E := by
 unfold a1V at h
 unfold d3L
 obtain ⟨h_1, h_2, h⟩ := h
 refine a6 (a7h _ _ _ h_1 h_2) ?_
 refine a6 (b7d _ _) ?_
 have hj1 : ∀ (b6r : Int) (a8m : Int) (b8V : Int) (H : Hp) (w : World) (_ : Inv w0 ps0 H0 H [] w) (_ : K1 x0 x1 b6r a8m b8V H K), c3V (Value.string x0) (vi x1) (vi b6r) (vi a8m) (vi b8V) w R E := by
  intro b6r a8m b8V H w I h
  unfold c3V
  intro _
  unfold K1 at h
  have hj2 : ∀ (a6C : Int) (H : Hp) (w : World) (_ : Inv w0 ps0 H0 H [] w) (_ : a0G b6r a8m a6C H K), c3U (vi b6r) (vi a8m) (vi a6C) w R E := by
   intro a6C H w I h
   unfold c3U
   intro _
   unfold a0G at h
   refine a6 (p6 _ _ _ _ _ _) ?_
   try simp only [o6]
   refine a6 (Pu.g fun hb => by have a7 := hb; first | exact (T7 _ _ _ _ _ _) | (simp only [a8 a7]; exact (T7 _ _ _ _ _ _)) | (simp only [b8 a7, a8 a7, a8 hb, v8 a7, h7]; exact (T7 _ _ _ _ _ _))) ?_
   refine a6 (E6 _ _) ?_
   try simp only [o6]
   refine a6 (Pu.g fun hb => by have a7 := hb; first | exact (a1p _ _ _ _ _ _) | (simp only [a8 a7]; exact (a1p _ _ _ _ _ _)) | (simp only [b8 a7, a8 a7, a8 hb, v8 a7, h7]; exact (a1p _ _ _ _ _ _))) ?_
   try simp only [W3, a0C]
   try simp only [o6, W3, a3x, a2p, a0C, a3B, a3y, a3z, a3A, a3C]
   refine a6 (Pu.e (a4K _ _ _) (Pu.g fun hb => by obtain ⟨a7, m6⟩ := a7f hb; first | exact (p6 _ _ _ _ _ _) | (simp only [a8 hb]; exact (p6 _ _ _ _ _ _)) | (simp only [b8 a7, a8 a7, b8 m6, a8 m6, a8 hb, r9 hb]; exact (p6 _ _ _ _ _ _)) | (simp only [b8 a7, a8 a7, b8 m6, a8 m6, a8 hb, d9 hb, h7]; exact (p6 _ _ _ _ _ _)))) ?_
   refine a6 (Pu.g fun hb => by have a7 := hb; first | exact (p1 _ _) | (simp only [a8 a7, a4O a7]; exact (p1 _ _)) | (simp only [b8 a7, a8 a7, a8 hb, v8 a7, h7]; exact (p1 _ _))) ?_
   refine a6 (E6 _ _) ?_
   refine m5 (fun e1M => ?_) (fun e1M => ?_)
   ·replace h := h.1 e1M
    exact hR 65533 1 false H _ I h
   ·replace h := h.2 e1M
    exact hR a6C b6r true H _ I h
  refine o3 fun j2 hx2 => ?_
  obtain ⟨e1N, c8R, h2s, h2t⟩ := h
  refine t6 (J := fun n l w => ∃ (s : Int × Int) (H : Hp) , n = c8R s ∧ l = (match s with | (X9, G1) => [(vi X9), (vi G1)]) ∧ (match s with | (X9, G1) => Inv w0 ps0 H0 H [] w) ∧ e1N s H) ⟨_, (b8V, 1), H, rfl, rfl, I, h2s⟩ ?_
  rintro h8w τ_19 w next3 ⟨⟨X9, G1⟩, H, rfl, c8S, I, e1O⟩ hn3
  dsimp only at c8S I
  simp only [List.map_cons, List.map_nil, List.cons.injEq, and_true] at c8S
  obtain ⟨e10, e11⟩ := c8S
  simp only [e10, e11]
  obtain ⟨n3, hm3, h⟩ : ∃ n3 : (Int × Int) → Hp → Prop, (∀ s' H', n3 s' H' → e1N s' H' ∧ c8R s' < c8R (X9, G1)) ∧ a0H x0 x1 b6r a8m X9 G1 H n3 K := ⟨_, fun _ _ h => h, h2t (X9, G1) H (fun s' H' => e1N s' H' ∧ c8R s' < c8R (X9, G1)) e1O (fun _ _ a b => ⟨a, b⟩)⟩
  unfold d1j
  unfold a0H at h
  refine a6 (p6 _ _ _ _ _ _) ?_
  refine g8 (fun c0t => ?_) (fun c0t => ?_)
  ·replace h := h.1 c0t
   refine a6 (o4 _ _ _ _ _ _) ?_
   refine a6 (a9M _) ?_
   refine a6 (a1p _ _ _ _ _ _) ?_
   try simp only [o6]
   try simp only [o6, W3, a3x, a2p, a0C, a3B, a3y, a3z, a3A, a3C]
   try simp only [o6, W3, a3x, a2p, a0C, a3B, a3y, a3z, a3A, a3C]
   refine a6 (Pu.g fun hb => by have a7 := hb; first | exact (o4 _ _ _ _ _ _) | (simp only [a8 a7]; exact (o4 _ _ _ _ _ _)) | (simp only [b8 a7, a8 a7, a8 hb, v8 a7, h7]; exact (o4 _ _ _ _ _ _))) ?_
   obtain ⟨h_5, h⟩ := h
   refine a6 (Pu.g fun hb => by have a7 := hb; first | exact (a7h _ _ _ (h_5 hb).1 (h_5 hb).2) | (simp only [a8 a7]; exact (a7h _ _ _ (h_5 hb).1 (h_5 hb).2)) | (simp only [b8 a7, a8 a7, a8 hb, v8 a7, h7]; exact (a7h _ _ _ (h_5 hb).1 (h_5 hb).2))) ?_
   refine a6 (Pu.g fun hb => by have a7 := hb; first | exact (p6 _ _ _ _ _ _) | (simp only [a8 a7]; exact (p6 _ _ _ _ _ _)) | (simp only [b8 a7, a8 a7, a8 hb, v8 a7, h7]; exact (p6 _ _ _ _ _ _))) ?_
   refine a6 (E6 _ _) ?_
   try simp only [o6]
   try simp only [o6, W3, a3x, a2p, a0C, a3B, a3y, a3z, a3A, a3C]
   try simp only [o6, W3, a3x, a2p, a0C, a3B, a3y, a3z, a3A, a3C]
   refine a6 (Pu.g fun hb => by have a7 := hb; first | exact (o4 _ _ _ _ _ _) | (simp only [a8 a7]; exact (o4 _ _ _ _ _ _)) | (simp only [b8 a7, a8 a7, a8 hb, v8 a7, h7]; exact (o4 _ _ _ _ _ _))) ?_
   obtain ⟨h_8, h⟩ := h
   refine a6 (Pu.g fun hb => by have a7 := hb; first | exact (a7h _ _ _ (h_8 hb).1 (h_8 hb).2) | (simp only [a8 a7]; exact (a7h _ _ _ (h_8 hb).1 (h_8 hb).2)) | (simp only [b8 a7, a8 a7, a8 hb, v8 a7, h7]; exact (a7h _ _ _ (h_8 hb).1 (h_8 hb).2))) ?_
   refine a6 (Pu.g fun hb => by have a7 := hb; first | exact (a1p _ _ _ _ _ _) | (simp only [a8 a7]; exact (a1p _ _ _ _ _ _)) | (simp only [b8 a7, a8 a7, a8 hb, v8 a7, h7]; exact (a1p _ _ _ _ _ _))) ?_
   refine a6 (E6 _ _) ?_
   refine m5 (fun b2n => ?_) (fun b2n => ?_)
   ·replace h := h.1 b2n
    exact hR 65533 1 false H _ I h
   ·replace h := h.2 b2n
    refine a6 (e9w _ _ _ _ _ _) ?_
    refine a6 (o4 _ _ _ _ _ _) ?_
    obtain ⟨h_9, b3h, h⟩ := h
    refine a6 (a7h _ _ _ h_9 b3h) ?_
    refine a6 (b7d _ _) ?_
    refine a6 (o4 _ _ _ _ _ _) ?_
    refine a6 (b1X _ _ _ _ _ _) ?_
    refine a6 (o4 _ _ _ _ _ _) ?_
    exact hn3 _ _ _ (hm3 _ _ h).2 ⟨((IntKind.wrap .i64 ((IntKind.wrap .i64 ((IntKind.wrap .i64 (64 * X9)) + (IntKind.wrap .i64 ((x0.get! (IntKind.wrap .i64 (x1 + G1) : Int).toNat).toNat : Int)))) - 128)), (IntKind.wrap .i64 (G1 + 1))), H, rfl, rfl, I, (hm3 _ _ h).1⟩
  ·replace h := h.2 c0t
   exact hx2 _ _ (hj2 X9 H _ I h)
 refine o3 fun j1 hx1 => ?_
 refine a6 (p6 _ _ _ _ _ _) ?_
 refine g8 (fun c0b => ?_) (fun c0b => ?_)
 ·replace h := h.1 c0b
  exact hR (IntKind.wrap .i64 ((x0.get! (x1 : Int).toNat).toNat : Int)) 1 true H _ I h
 ·replace h := h.2 c0b
  refine a6 (a1p _ _ _ _ _ _) ?_
  try simp only [o6]
  refine a6 (Pu.g fun hb => by have a7 := hb; first | exact (p6 _ _ _ _ _ _) | (simp only [a8 a7]; exact (p6 _ _ _ _ _ _)) | (simp only [b8 a7, a8 a7, a8 hb, d9 a7, h7]; exact (p6 _ _ _ _ _ _))) ?_
  refine a6 (p1 _ _) ?_
  refine m5 (fun c0c => ?_) (fun c0c => ?_)
  ·replace h := h.1 c0c
   refine a6 (b1X _ _ _ _ _ _) ?_
   exact hx1 _ _ (hj1 2 128 (IntKind.wrap .i64 ((IntKind.wrap .i64 ((x0.get! (x1 : Int).toNat).toNat : Int)) - 192)) H _ I h)
  ·replace h := h.2 c0c
   refine a6 (a1p _ _ _ _ _ _) ?_
   try simp only [o6]
   refine a6 (Pu.g fun hb => by have a7 := hb; first | exact (p6 _ _ _ _ _ _) | (simp only [a8 a7]; exact (p6 _ _ _ _ _ _)) | (simp only [b8 a7, a8 a7, a8 hb, d9 a7, h7]; exact (p6 _ _ _ _ _ _))) ?_
   refine a6 (p1 _ _) ?_
   refine m5 (fun c0f => ?_) (fun c0f => ?_)
   ·replace h := h.1 c0f
    refine a6 (b1X _ _ _ _ _ _) ?_
    exact hx1 _ _ (hj1 3 2048 (IntKind.wrap .i64 ((IntKind.wrap .i64 ((x0.get! (x1 : Int).toNat).toNat : Int)) - 224)) H _ I h)
   ·replace h := h.2 c0f
    refine a6 (a1p _ _ _ _ _ _) ?_
    try simp only [o6]
    refine a6 (Pu.g fun hb => by have a7 := hb; first | exact (p6 _ _ _ _ _ _) | (simp only [a8 a7]; exact (p6 _ _ _ _ _ _)) | (simp only [b8 a7, a8 a7, a8 hb, d9 a7, h7]; exact (p6 _ _ _ _ _ _))) ?_
    refine a6 (p1 _ _) ?_
    refine m5 (fun c0d => ?_) (fun c0d => ?_)
    ·replace h := h.1 c0d
     refine a6 (b1X _ _ _ _ _ _) ?_
     exact hx1 _ _ (hj1 4 65536 (IntKind.wrap .i64 ((IntKind.wrap .i64 ((x0.get! (x1 : Int).toNat).toNat : Int)) - 240)) H _ I h)
    ·replace h := h.2 c0d
     exact hR 65533 1 false H _ I h
theorem b3i (x0 : ByteArray) (x1 : Int) {H : Hp} {K : Int → Int → Bool → Hp → Prop} (h : a1V x0 x1 H K) : a4f x0 x1 H K := by
 intro w I
 refine e8d ?_
 refine b1u x0 x1 I (fun r0 r1 r2 H' w' I' hk => ⟨H', _, I', r0, r1, r2, rfl, rfl, hk⟩) h
def a2X (x0 : Int) (x1 : Int) (x2 : Int) (H : Hp) (K : Bool → Hp → Prop) : Prop :=
 K ((decide (x1 ≤ x0)) && (decide (x0 ≤ x2))) H
theorem b0f (x0 : Int) (x1 : Int) (x2 : Int) {w0 w : World} {ps0 : Nat → Prop} {H0 H : Hp} {K : Bool → Hp → Prop} {R : Value → World → Prop} {E : Pan} (I : Inv w0 ps0 H0 H [] w) (hR : ∀ (r0 : Bool) (H' : Hp) (w' : World) (_ : Inv w0 ps0 H0 H' [] w') (_ : K r0 H'), R (Value.bool r0) w') (h : a2X x0 x1 x2 H K) : d3N (vi x0) (vi x1) (vi x2) w R E := by
 unfold a2X at h
 unfold d3N
 refine a6 (a1p _ _ _ _ _ _) ?_
 try simp only [o6]
 try simp only [o6, W3, a3x, a2p, a0C, a3B, a3y, a3z, a3A, a3C]
 refine a6 (Pu.g fun hb => by have a7 := hb; first | exact (a1o _ _ _ _ _ _) | (simp only [a8 a7]; exact (a1o _ _ _ _ _ _)) | (simp only [b8 a7, a8 a7, a8 hb, d9 a7, h7]; exact (a1o _ _ _ _ _ _))) ?_
 refine a6 (p1 _ _) ?_
 exact hR ((decide (x1 ≤ x0)) && (decide (x0 ≤ x2))) H _ I h
theorem b0L (x0 : Int) (x1 : Int) (x2 : Int) {H : Hp} {K : Bool → Hp → Prop} (h : a2X x0 x1 x2 H K) : r8 x0 x1 x2 H K := by
 intro w I
 refine e8h ?_
 refine b0f x0 x1 x2 I (fun r0 H' w' I' hk => ⟨H', _, I', r0, rfl, rfl, hk⟩) h
def a0h (H : Hp) (K : Int → Hp → Prop) : Prop :=
 K 6 H
def E5 (a5d : Int) (a5B : ByteArray) (D1 : Int) (H : Hp) (n2 : Int → Hp → Prop) (K : Int → Hp → Prop) : Prop :=
 (D1 < (a5B.size : Int) →
 (0 : Int) ≤ D1 ∧ D1 < (a5B.size : Int) ∧
 (a5d = (IntKind.wrap .i64 ((a5B.get! (D1 : Int).toNat).toNat : Int)) →
 K 5 H) ∧
 (¬ (a5d = (IntKind.wrap .i64 ((a5B.get! (D1 : Int).toNat).toNat : Int))) →
 n2 (IntKind.wrap .i64 (D1 + 1)) H)) ∧
 (¬ (D1 < (a5B.size : Int)) →
 a0h H K)
def a1v (x0 : Int) (H : Hp) (K : Int → Hp → Prop) : Prop :=
 ((((decide (x0 = 32)) || (decide (x0 = 9))) || (decide (x0 = 13))) = true →
 K 1 H) ∧
 ((((decide (x0 = 32)) || (decide (x0 = 9))) || (decide (x0 = 13))) = false →
 (x0 = 10 →
 K 2 H) ∧
 (¬ (x0 = 10) →
 r8 x0 48 57 H (fun (L9 : Bool) (H_1 : Hp) =>
 (L9 = true →
 K 4 H_1) ∧
 (L9 = false →
 r8 x0 97 122 H_1 (fun (u5 : Bool) (a3R : Hp) =>
 TG (u5 = false) (r8 x0 65 90 a3R) false a3R (fun (E7 : Bool) (W1 : Hp) =>
 TG (((u5 || E7) || (decide (x0 = 95))) = false) (r8 x0 192 591 W1) false W1 (fun (a1f : Bool) (a8n : Hp) =>
 TG ((((u5 || E7) || (decide (x0 = 95))) || ((a1f && (!decide (x0 = 215))) && (!decide (x0 = 247)))) = false) (r8 x0 913 969 a8n) false a8n (fun (a0I : Bool) (a4I : Hp) =>
 TG (((((u5 || E7) || (decide (x0 = 95))) || ((a1f && (!decide (x0 = 215))) && (!decide (x0 = 247)))) || (a0I && (!decide (x0 = 930)))) = false) (r8 x0 1040 1103 a4I) false a4I (fun (a4y : Bool) (a5e : Hp) =>
 ((((((u5 || E7) || (decide (x0 = 95))) || ((a1f && (!decide (x0 = 215))) && (!decide (x0 = 247)))) || (a0I && (!decide (x0 = 930)))) || a4y) = true →
 K 3 a5e) ∧
 ((((((u5 || E7) || (decide (x0 = 95))) || ((a1f && (!decide (x0 = 215))) && (!decide (x0 = 247)))) || (a0I && (!decide (x0 = 930)))) || a4y) = false →
 TL (0 : Int) a5e fun (s : Int) H n2 => E5 x0 ⟨#[59, 44, 123, 125, 40, 41, 91, 93, 61, 33, 60, 62, 43, 45, 42, 47, 37, 38, 124]⟩ s H n2 K))))))))))
theorem b0V (x0 : Int) {w0 w : World} {ps0 : Nat → Prop} {H0 H : Hp} {K : Int → Hp → Prop} {R : Value → World → Prop} {E : Pan} (I : Inv w0 ps0 H0 H [] w) (hR : ∀ (r0 : Int) (H' : Hp) (w' : World) (_ : Inv w0 ps0 H0 H' [] w') (_ : K r0 H'), R (vi r0) w') (h : a1v x0 H K) : d3M (vi x0) w R E := by
 unfold a1v at h
 unfold d3M
 refine a6 (c8 _ _ _ _ _ _) ?_
 try simp only [o6]
 refine a6 (Pu.g fun hb => by have a7 := hb; first | exact (c8 _ _ _ _ _ _) | (simp only [a8 a7]; exact (c8 _ _ _ _ _ _)) | (simp only [b8 a7, a8 a7, a8 hb, v8 a7, h7]; exact (c8 _ _ _ _ _ _))) ?_
 refine a6 (E6 _ _) ?_
 try simp only [o6]
 refine a6 (Pu.g fun hb => by have a7 := hb; first | exact (c8 _ _ _ _ _ _) | (simp only [a8 a7]; exact (c8 _ _ _ _ _ _)) | (simp only [b8 a7, a8 a7, a8 hb, v8 a7, h7]; exact (c8 _ _ _ _ _ _))) ?_
 refine a6 (E6 _ _) ?_
 refine m5 (fun a8b => ?_) (fun a8b => ?_)
 ·replace h := h.1 a8b
  exact hR 1 H _ I h
 ·replace h := h.2 a8b
  refine a6 (c8 _ _ _ _ _ _) ?_
  refine g8 (fun b2Q => ?_) (fun b2Q => ?_)
  ·replace h := h.1 b2Q
   exact hR 2 H _ I h
  ·replace h := h.2 b2Q
   refine f7 (cap := []) (fun args w => Tryd.call128 args w) ?_
   refine m2 (Fi := []) (Fr := []) I (h) (fun v_5 H_1 F_6 w_2 I_3 l_8 k_4 q_7 => ?_) (fun _ _ _ _ _ q => q.elim)
   obtain ⟨L9, rfl, rfl, h⟩ := q_7
   refine m5 (fun a6c => ?_) (fun a6c => ?_)
   ·replace h := h.1 a6c
    exact hR 4 H_1 _ I_3 h
   ·replace h := h.2 a6c
    refine f7 (cap := []) (fun args w => Tryd.call128 args w) ?_
    refine m2 (Fi := []) (Fr := []) I_3 (h) (fun c7D a3R f6v a1j G9 b9W b5A c7E => ?_) (fun _ _ _ _ _ q => q.elim)
    obtain ⟨u5, rfl, rfl, h⟩ := c7E
    try simp only [o6]
    refine a3D (D := fun b7R p7 => ∃ (E7 : Bool) (W1 : Hp) , b7R = (gv u5 false (Value.bool E7)) ∧ (Inv w0 ps0 H0 W1 [] p7) ∧ (∀ i, i < a1j.heap.size → ¬ inF [] i → p7.heap[i]? = a1j.heap[i]?) ∧ Hle a3R W1 ∧ (TG (((u5 || E7) || (decide (x0 = 95))) = false) (r8 x0 192 591 W1) false W1 (fun (a1f : Bool) (a8n : Hp) =>
 TG ((((u5 || E7) || (decide (x0 = 95))) || ((a1f && (!decide (x0 = 215))) && (!decide (x0 = 247)))) = false) (r8 x0 913 969 a8n) false a8n (fun (a0I : Bool) (a4I : Hp) =>
 TG (((((u5 || E7) || (decide (x0 = 95))) || ((a1f && (!decide (x0 = 215))) && (!decide (x0 = 247)))) || (a0I && (!decide (x0 = 930)))) = false) (r8 x0 1040 1103 a4I) false a4I (fun (a4y : Bool) (a5e : Hp) =>
 ((((((u5 || E7) || (decide (x0 = 95))) || ((a1f && (!decide (x0 = 215))) && (!decide (x0 = 247)))) || (a0I && (!decide (x0 = 930)))) || a4y) = true →
 K 3 a5e) ∧
 ((((((u5 || E7) || (decide (x0 = 95))) || ((a1f && (!decide (x0 = 215))) && (!decide (x0 = 247)))) || (a0I && (!decide (x0 = 930)))) || a4y) = false →
 TL (0 : Int) a5e fun (s : Int) H n2 => E5 x0 ⟨#[59, 44, 123, 125, 40, 41, 91, 93, 61, 33, 60, 62, 43, 45, 42, 47, 37, 38, 124]⟩ s H n2 K)))))) (fun c3X => ?_) (fun c3X => ?_) ?_
    ·replace h := h.1 c3X
     have a7 := c3X
     try simp only [a8 a7]
     refine f7 (cap := []) (fun args w => Tryd.call128 args w) ?_
     refine m2 (Fi := []) (Fr := []) G9 (h) (fun b7R W1 d3d p7 a5A c3G b7S c7F => ?_) (fun _ _ _ _ _ q => q.elim)
     obtain ⟨E7, rfl, rfl, h⟩ := c7F
     exact ⟨E7, W1, by first | rfl | rw [a8 c3X], a5A, b7S, c3G, h⟩
    ·exact ⟨false, a3R, by first | rfl | rw [a6G c3X], G9, fun _ _ _ => rfl, Hle.refl _, h.2 c3X⟩
    ·clear h
     rintro b7R p7 ⟨E7, W1, rfl, a5A, b7S, c3G, h⟩
     refine a6 (E6 _ _) ?_
     try simp only [o6]
     refine a6 (Pu.g fun hb => by have a7 := hb; first | exact (c8 _ _ _ _ _ _) | (simp only [a8 a7]; exact (c8 _ _ _ _ _ _)) | (simp only [b8 a7, a8 a7, a8 hb, v8 a7, h7]; exact (c8 _ _ _ _ _ _))) ?_
     refine a6 (E6 _ _) ?_
     try simp only [o6]
     refine a3D (D := fun e1P b0P => ∃ (a1f : Bool) (a8n : Hp) , e1P = (gv ((u5 || E7) || (decide (x0 = 95))) false (Value.bool a1f)) ∧ (Inv w0 ps0 H0 a8n [] b0P) ∧ (∀ i, i < p7.heap.size → ¬ inF [] i → b0P.heap[i]? = p7.heap[i]?) ∧ Hle W1 a8n ∧ (TG ((((u5 || E7) || (decide (x0 = 95))) || ((a1f && (!decide (x0 = 215))) && (!decide (x0 = 247)))) = false) (r8 x0 913 969 a8n) false a8n (fun (a0I : Bool) (a4I : Hp) =>
 TG (((((u5 || E7) || (decide (x0 = 95))) || ((a1f && (!decide (x0 = 215))) && (!decide (x0 = 247)))) || (a0I && (!decide (x0 = 930)))) = false) (r8 x0 1040 1103 a4I) false a4I (fun (a4y : Bool) (a5e : Hp) =>
 ((((((u5 || E7) || (decide (x0 = 95))) || ((a1f && (!decide (x0 = 215))) && (!decide (x0 = 247)))) || (a0I && (!decide (x0 = 930)))) || a4y) = true →
 K 3 a5e) ∧
 ((((((u5 || E7) || (decide (x0 = 95))) || ((a1f && (!decide (x0 = 215))) && (!decide (x0 = 247)))) || (a0I && (!decide (x0 = 930)))) || a4y) = false →
 TL (0 : Int) a5e fun (s : Int) H n2 => E5 x0 ⟨#[59, 44, 123, 125, 40, 41, 91, 93, 61, 33, 60, 62, 43, 45, 42, 47, 37, 38, 124]⟩ s H n2 K))))) (fun a8c => ?_) (fun a8c => ?_) ?_
     ·replace h := h.1 a8c
      have a7 := a8c
      try simp only [a8 a7]
      refine f7 (cap := []) (fun args w => Tryd.call128 args w) ?_
      refine m2 (Fi := []) (Fr := []) a5A (h) (fun e1P a8n b7N b0P a6x b7y b9M h2u => ?_) (fun _ _ _ _ _ q => q.elim)
      obtain ⟨a1f, rfl, rfl, h⟩ := h2u
      exact ⟨a1f, a8n, by first | rfl | rw [a8 a8c], a6x, b9M, b7y, h⟩
     ·exact ⟨false, W1, by first | rfl | rw [a6G a8c], a5A, fun _ _ _ => rfl, Hle.refl _, h.2 a8c⟩
     ·clear h
      rintro e1P b0P ⟨a1f, a8n, rfl, a6x, b9M, b7y, h⟩
      try simp only [W3, a0C]
      try simp only [o6, W3, a3x, a2p, a0C, a3B, a3y, a3z, a3A, a3C]
      refine a6 (Pu.e (a4K _ _ _) (Pu.g fun hb => by obtain ⟨a7, m6⟩ := a7f hb; first | exact (B8 _ _ _ _ _ _) | (simp only [a8 hb]; exact (B8 _ _ _ _ _ _)) | (simp only [b8 a7, a8 a7, b8 m6, a8 m6, a8 hb, r9 hb]; exact (B8 _ _ _ _ _ _)) | (simp only [b8 a7, a8 a7, b8 m6, a8 m6, a8 hb, d9 hb, h7]; exact (B8 _ _ _ _ _ _)))) ?_
      refine a6 (Pu.g fun hb => by have a7 := hb; first | exact (p1 _ _) | (simp only [a8 a7, a4O a7]; exact (p1 _ _)) | (simp only [b8 a7, a8 a7, a8 hb, v8 a7, h7]; exact (p1 _ _))) ?_
      try simp only [W3, a0C]
      try simp only [o6, W3, a3x, a2p, a0C, a3B, a3y, a3z, a3A, a3C]
      refine a6 (Pu.e (a4K _ _ _) (Pu.g fun hb => by obtain ⟨a7, m6⟩ := a7f hb; first | exact (B8 _ _ _ _ _ _) | (simp only [a8 hb]; exact (B8 _ _ _ _ _ _)) | (simp only [b8 a7, a8 a7, b8 m6, a8 m6, a8 hb, r9 hb]; exact (B8 _ _ _ _ _ _)) | (simp only [b8 a7, a8 a7, b8 m6, a8 m6, a8 hb, d9 hb, h7]; exact (B8 _ _ _ _ _ _)))) ?_
      refine a6 (Pu.g fun hb => by have a7 := hb; first | exact (p1 _ _) | (simp only [a8 a7, a4O a7]; exact (p1 _ _)) | (simp only [b8 a7, a8 a7, a8 hb, v8 a7, h7]; exact (p1 _ _))) ?_
      refine a6 (E6 _ _) ?_
      try simp only [o6]
      refine a3D (D := fun d3P C0 => ∃ (a0I : Bool) (a4I : Hp) , d3P = (gv (((u5 || E7) || (decide (x0 = 95))) || ((a1f && (!decide (x0 = 215))) && (!decide (x0 = 247)))) false (Value.bool a0I)) ∧ (Inv w0 ps0 H0 a4I [] C0) ∧ (∀ i, i < b0P.heap.size → ¬ inF [] i → C0.heap[i]? = b0P.heap[i]?) ∧ Hle a8n a4I ∧ (TG (((((u5 || E7) || (decide (x0 = 95))) || ((a1f && (!decide (x0 = 215))) && (!decide (x0 = 247)))) || (a0I && (!decide (x0 = 930)))) = false) (r8 x0 1040 1103 a4I) false a4I (fun (a4y : Bool) (a5e : Hp) =>
 ((((((u5 || E7) || (decide (x0 = 95))) || ((a1f && (!decide (x0 = 215))) && (!decide (x0 = 247)))) || (a0I && (!decide (x0 = 930)))) || a4y) = true →
 K 3 a5e) ∧
 ((((((u5 || E7) || (decide (x0 = 95))) || ((a1f && (!decide (x0 = 215))) && (!decide (x0 = 247)))) || (a0I && (!decide (x0 = 930)))) || a4y) = false →
 TL (0 : Int) a5e fun (s : Int) H n2 => E5 x0 ⟨#[59, 44, 123, 125, 40, 41, 91, 93, 61, 33, 60, 62, 43, 45, 42, 47, 37, 38, 124]⟩ s H n2 K)))) (fun c3Y => ?_) (fun c3Y => ?_) ?_
      ·replace h := h.1 c3Y
       have a7 := c3Y
       try simp only [a8 a7]
       refine f7 (cap := []) (fun args w => Tryd.call128 args w) ?_
       refine m2 (Fi := []) (Fr := []) a6x (h) (fun d3P a4I h2v C0 c3Z e1Q e1R e1S => ?_) (fun _ _ _ _ _ q => q.elim)
       obtain ⟨a0I, rfl, rfl, h⟩ := e1S
       exact ⟨a0I, a4I, by first | rfl | rw [a8 c3Y], c3Z, e1R, e1Q, h⟩
      ·exact ⟨false, a8n, by first | rfl | rw [a6G c3Y], a6x, fun _ _ _ => rfl, Hle.refl _, h.2 c3Y⟩
      ·clear h
       rintro d3P C0 ⟨a0I, a4I, rfl, c3Z, e1R, e1Q, h⟩
       try simp only [W3, a0C]
       try simp only [o6, W3, a3x, a2p, a0C, a3B, a3y, a3z, a3A, a3C]
       refine a6 (Pu.e (a4K _ _ _) (Pu.g fun hb => by obtain ⟨a7, m6⟩ := a7f hb; first | exact (B8 _ _ _ _ _ _) | (simp only [a8 hb]; exact (B8 _ _ _ _ _ _)) | (simp only [b8 a7, a8 a7, b8 m6, a8 m6, a8 hb, r9 hb]; exact (B8 _ _ _ _ _ _)) | (simp only [b8 a7, a8 a7, b8 m6, a8 m6, a8 hb, d9 hb, h7]; exact (B8 _ _ _ _ _ _)))) ?_
       refine a6 (Pu.g fun hb => by have a7 := hb; first | exact (p1 _ _) | (simp only [a8 a7, a4O a7]; exact (p1 _ _)) | (simp only [b8 a7, a8 a7, a8 hb, v8 a7, h7]; exact (p1 _ _))) ?_
       refine a6 (E6 _ _) ?_
       try simp only [o6]
       refine a3D (D := fun e1T a9R => ∃ (a4y : Bool) (a5e : Hp) , e1T = (gv ((((u5 || E7) || (decide (x0 = 95))) || ((a1f && (!decide (x0 = 215))) && (!decide (x0 = 247)))) || (a0I && (!decide (x0 = 930)))) false (Value.bool a4y)) ∧ (Inv w0 ps0 H0 a5e [] a9R) ∧ (∀ i, i < C0.heap.size → ¬ inF [] i → a9R.heap[i]? = C0.heap[i]?) ∧ Hle a4I a5e ∧ (((((((u5 || E7) || (decide (x0 = 95))) || ((a1f && (!decide (x0 = 215))) && (!decide (x0 = 247)))) || (a0I && (!decide (x0 = 930)))) || a4y) = true →
 K 3 a5e) ∧
 ((((((u5 || E7) || (decide (x0 = 95))) || ((a1f && (!decide (x0 = 215))) && (!decide (x0 = 247)))) || (a0I && (!decide (x0 = 930)))) || a4y) = false →
 TL (0 : Int) a5e fun (s : Int) H n2 => E5 x0 ⟨#[59, 44, 123, 125, 40, 41, 91, 93, 61, 33, 60, 62, 43, 45, 42, 47, 37, 38, 124]⟩ s H n2 K))) (fun c4a => ?_) (fun c4a => ?_) ?_
       ·replace h := h.1 c4a
        have a7 := c4a
        try simp only [a8 a7]
        refine f7 (cap := []) (fun args w => Tryd.call128 args w) ?_
        refine m2 (Fi := []) (Fr := []) c3Z (h) (fun e1T a5e h8x a9R d3Q d3x g0m h2w => ?_) (fun _ _ _ _ _ q => q.elim)
        obtain ⟨a4y, rfl, rfl, h⟩ := h2w
        exact ⟨a4y, a5e, by first | rfl | rw [a8 c4a], d3Q, g0m, d3x, h⟩
       ·exact ⟨false, a4I, by first | rfl | rw [a6G c4a], c3Z, fun _ _ _ => rfl, Hle.refl _, h.2 c4a⟩
       ·clear h
        rintro e1T a9R ⟨a4y, a5e, rfl, d3Q, g0m, d3x, h⟩
        refine a6 (E6 _ _) ?_
        refine m5 (fun b2M => ?_) (fun b2M => ?_)
        ·replace h := h.1 b2M
         exact hR 3 a5e _ d3Q h
        ·replace h := h.2 b2M
         have hj1 : ∀ (H : Hp) (w : World) (_ : Inv w0 ps0 H0 H [] w) (_ : a0h H K), c3W w R E := by
          intro H w I h
          unfold c3W
          intro _
          unfold a0h at h
          exact hR 6 H _ I h
         refine o3 fun j1 hx1 => ?_
         obtain ⟨c0A, b3j, e1U, e1V⟩ := h
         refine t6 (J := fun n l w => ∃ (s : Int) (H : Hp) , n = b3j s ∧ l = [(vi s)] ∧ Inv w0 ps0 H0 H [] w ∧ c0A s H) ⟨_, 0, a5e, rfl, rfl, d3Q, e1U⟩ ?_
         rintro h2x τ_64 w next2 ⟨D1, H, rfl, c4b, I, e1W⟩ hn2
         simp only [List.map_cons, List.map_nil, List.cons.injEq, and_true] at c4b
         have e4 := c4b
         simp only [e4]
         obtain ⟨n2, hm2, h⟩ : ∃ n2 : Int → Hp → Prop, (∀ s' H', n2 s' H' → c0A s' H' ∧ b3j s' < b3j D1) ∧ E5 x0 ⟨#[59, 44, 123, 125, 40, 41, 91, 93, 61, 33, 60, 62, 43, 45, 42, 47, 37, 38, 124]⟩ D1 H n2 K := ⟨_, fun _ _ h => h, e1V D1 H (fun s' H' => c0A s' H' ∧ b3j s' < b3j D1) e1W (fun _ _ a b => ⟨a, b⟩)⟩
         unfold d1k
         unfold E5 at h
         refine a6 (a9M _) ?_
         refine a6 (p6 _ _ _ _ _ _) ?_
         refine g8 (fun c0B => ?_) (fun c0B => ?_)
         ·replace h := h.1 c0B
          obtain ⟨c7Q, b9Y, h⟩ := h
          refine a6 (a7h _ _ _ c7Q b9Y) ?_
          refine a6 (b7d _ _) ?_
          refine a6 (c8 _ _ _ _ _ _) ?_
          refine g8 (fun c0C => ?_) (fun c0C => ?_)
          ·replace h := h.1 c0C
           exact hR 5 H _ I h
          ·replace h := h.2 c0C
           refine a6 (o4 _ _ _ _ _ _) ?_
           exact hn2 _ _ _ (hm2 _ _ h).2 ⟨(IntKind.wrap .i64 (D1 + 1)), H, rfl, rfl, I, (hm2 _ _ h).1⟩
         ·replace h := h.2 c0B
          exact hx1 _ _ (hj1 H _ I h)
theorem b1v (x0 : Int) {H : Hp} {K : Int → Hp → Prop} (h : a1v x0 H K) : a3H x0 H K := by
 intro w I
 refine e8f ?_
 refine b0V x0 I (fun r0 H' w' I' hk => ⟨H', _, I', r0, rfl, rfl, hk⟩) h
def j8 (o9 : Bool) (H : Hp) (K : Bool → Hp → Prop) : Prop :=
 (o9 = true →
 K true H) ∧
 (o9 = false →
 K false H)
def a1W (x0 : ByteArray) (H : Hp) (K : Bool → Hp → Prop) : Prop :=
 (x0 = ⟨#[118, 97, 114]⟩ →
 j8 (decide (x0 = ⟨#[118, 97, 114]⟩)) H K) ∧
 (¬ (x0 = ⟨#[118, 97, 114]⟩) →
 (x0 = ⟨#[97, 114, 114, 97, 121]⟩ →
 j8 (decide (x0 = ⟨#[97, 114, 114, 97, 121]⟩)) H K) ∧
 (¬ (x0 = ⟨#[97, 114, 114, 97, 121]⟩) →
 (x0 = ⟨#[105, 102]⟩ →
 j8 (decide (x0 = ⟨#[105, 102]⟩)) H K) ∧
 (¬ (x0 = ⟨#[105, 102]⟩) →
 (x0 = ⟨#[101, 108, 115, 101]⟩ →
 j8 (decide (x0 = ⟨#[101, 108, 115, 101]⟩)) H K) ∧
 (¬ (x0 = ⟨#[101, 108, 115, 101]⟩) →
 (x0 = ⟨#[119, 104, 105, 108, 101]⟩ →
 j8 (decide (x0 = ⟨#[119, 104, 105, 108, 101]⟩)) H K) ∧
 (¬ (x0 = ⟨#[119, 104, 105, 108, 101]⟩) →
 (x0 = ⟨#[97, 115, 115, 101, 114, 116]⟩ →
 j8 (decide (x0 = ⟨#[97, 115, 115, 101, 114, 116]⟩)) H K) ∧
 (¬ (x0 = ⟨#[97, 115, 115, 101, 114, 116]⟩) →
 (x0 = ⟨#[97, 115, 115, 117, 109, 101]⟩ →
 j8 (decide (x0 = ⟨#[97, 115, 115, 117, 109, 101]⟩)) H K) ∧
 (¬ (x0 = ⟨#[97, 115, 115, 117, 109, 101]⟩) →
 (x0 = ⟨#[115, 107, 105, 112]⟩ →
 j8 (decide (x0 = ⟨#[115, 107, 105, 112]⟩)) H K) ∧
 (¬ (x0 = ⟨#[115, 107, 105, 112]⟩) →
 (x0 = ⟨#[105, 110, 112, 117, 116]⟩ →
 j8 (decide (x0 = ⟨#[105, 110, 112, 117, 116]⟩)) H K) ∧
 (¬ (x0 = ⟨#[105, 110, 112, 117, 116]⟩) →
 (x0 = ⟨#[116, 114, 117, 101]⟩ →
 j8 (decide (x0 = ⟨#[116, 114, 117, 101]⟩)) H K) ∧
 (¬ (x0 = ⟨#[116, 114, 117, 101]⟩) →
 j8 (decide (x0 = ⟨#[102, 97, 108, 115, 101]⟩)) H K))))))))))
theorem b1w (x0 : ByteArray) {w0 w : World} {ps0 : Nat → Prop} {H0 H : Hp} {K : Bool → Hp → Prop} {R : Value → World → Prop} {E : Pan} (I : Inv w0 ps0 H0 H [] w) (hR : ∀ (r0 : Bool) (H' : Hp) (w' : World) (_ : Inv w0 ps0 H0 H' [] w') (_ : K r0 H'), R (Value.bool r0) w') (h : a1W x0 H K) : d3J (Value.string x0) w R E := by
 unfold a1W at h
 unfold d3J
 have hj1 : ∀ (o9 : Bool) (H : Hp) (w : World) (_ : Inv w0 ps0 H0 H [] w) (_ : j8 o9 H K), c3T (Value.bool o9) w R E := by
  intro o9 H w I h
  unfold c3T
  intro _
  unfold j8 at h
  refine m5 (fun c_1 => ?_) (fun c_1 => ?_)
  ·replace h := h.1 c_1
   exact hR true H _ I h
  ·replace h := h.2 c_1
   exact hR false H _ I h
 refine o3 fun j1 hx1 => ?_
 refine a6 (L3 _ _ _ _ _) ?_
 refine g8 (fun b2n => ?_) (fun b2n => ?_)
 ·replace h := h.1 b2n
  exact hx1 _ _ (hj1 (decide (x0 = ⟨#[118, 97, 114]⟩)) H _ I h)
 ·replace h := h.2 b2n
  refine a6 (L3 _ _ _ _ _) ?_
  refine g8 (fun b9I => ?_) (fun b9I => ?_)
  ·replace h := h.1 b9I
   exact hx1 _ _ (hj1 (decide (x0 = ⟨#[97, 114, 114, 97, 121]⟩)) H _ I h)
  ·replace h := h.2 b9I
   refine a6 (L3 _ _ _ _ _) ?_
   refine g8 (fun c_9 => ?_) (fun c_9 => ?_)
   ·replace h := h.1 c_9
    exact hx1 _ _ (hj1 (decide (x0 = ⟨#[105, 102]⟩)) H _ I h)
   ·replace h := h.2 c_9
    refine a6 (L3 _ _ _ _ _) ?_
    refine g8 (fun c_8 => ?_) (fun c_8 => ?_)
    ·replace h := h.1 c_8
     exact hx1 _ _ (hj1 (decide (x0 = ⟨#[101, 108, 115, 101]⟩)) H _ I h)
    ·replace h := h.2 c_8
     refine a6 (L3 _ _ _ _ _) ?_
     refine g8 (fun c_7 => ?_) (fun c_7 => ?_)
     ·replace h := h.1 c_7
      exact hx1 _ _ (hj1 (decide (x0 = ⟨#[119, 104, 105, 108, 101]⟩)) H _ I h)
     ·replace h := h.2 c_7
      refine a6 (L3 _ _ _ _ _) ?_
      refine g8 (fun c_6 => ?_) (fun c_6 => ?_)
      ·replace h := h.1 c_6
       exact hx1 _ _ (hj1 (decide (x0 = ⟨#[97, 115, 115, 101, 114, 116]⟩)) H _ I h)
      ·replace h := h.2 c_6
       refine a6 (L3 _ _ _ _ _) ?_
       refine g8 (fun c_5 => ?_) (fun c_5 => ?_)
       ·replace h := h.1 c_5
        exact hx1 _ _ (hj1 (decide (x0 = ⟨#[97, 115, 115, 117, 109, 101]⟩)) H _ I h)
       ·replace h := h.2 c_5
        refine a6 (L3 _ _ _ _ _) ?_
        refine g8 (fun c_4 => ?_) (fun c_4 => ?_)
        ·replace h := h.1 c_4
         exact hx1 _ _ (hj1 (decide (x0 = ⟨#[115, 107, 105, 112]⟩)) H _ I h)
        ·replace h := h.2 c_4
         refine a6 (L3 _ _ _ _ _) ?_
         refine g8 (fun c_3 => ?_) (fun c_3 => ?_)
         ·replace h := h.1 c_3
          exact hx1 _ _ (hj1 (decide (x0 = ⟨#[105, 110, 112, 117, 116]⟩)) H _ I h)
         ·replace h := h.2 c_3
          refine a6 (L3 _ _ _ _ _) ?_
          refine g8 (fun c_2 => ?_) (fun c_2 => ?_)
          ·replace h := h.1 c_2
           exact hx1 _ _ (hj1 (decide (x0 = ⟨#[116, 114, 117, 101]⟩)) H _ I h)
          ·replace h := h.2 c_2
           refine a6 (L3 _ _ _ _ _) ?_
           exact hx1 _ _ (hj1 (decide (x0 = ⟨#[102, 97, 108, 115, 101]⟩)) H _ I h)
theorem b3k (x0 : ByteArray) {H : Hp} {K : Bool → Hp → Prop} (h : a1W x0 H K) : a4g x0 H K := by
 intro w I
 refine e8b ?_
 refine b1w x0 I (fun r0 H' w' I' hk => ⟨H', _, I', r0, rfl, rfl, hk⟩) h
def a0J (a7y : Int) (H : Hp) (K : Bool → Hp → Prop) : Prop :=
 K (decide (a7y ≤ 32)) H
def Q9 (a5d : ByteArray) (a5B : Int) (D1 : Int) (H : Hp) (n2 : (Int × Int) → Hp → Prop) (K : Bool → Hp → Prop) : Prop :=
 (D1 < (a5d.size : Int) →
 a4f a5d D1 H (fun (u5 : Int) (d3R : Int) (d3S : Bool) (a3R : Hp) =>
 a3H u5 a3R (fun (E7 : Int) (W1 : Hp) =>
 (((!d3S) || ((!decide (E7 = 3)) && ((!decide (E7 = 4)) || (decide (a5B = 0))))) = true →
 K false W1) ∧
 (((!d3S) || ((!decide (E7 = 3)) && ((!decide (E7 = 4)) || (decide (a5B = 0))))) = false →
 n2 ((IntKind.wrap .i64 (a5B + 1)), (IntKind.wrap .i64 (D1 + d3R))) W1)))) ∧
 (¬ (D1 < (a5d.size : Int)) →
 a0J a5B H K)
def a1X (x0 : ByteArray) (H : Hp) (K : Bool → Hp → Prop) : Prop :=
 TG (((decide (x0 = ⟨#[]⟩)) || (decide (128 < (x0.size : Int)))) = false) (a4g x0 H) false H (fun (L9 : Bool) (H_1 : Hp) =>
 ((((decide (x0 = ⟨#[]⟩)) || (decide (128 < (x0.size : Int)))) || L9) = true →
 K false H_1) ∧
 ((((decide (x0 = ⟨#[]⟩)) || (decide (128 < (x0.size : Int)))) || L9) = false →
 TL ((0, 0) : Int × Int) H_1 fun (s : Int × Int) H n2 => Q9 x0 s.1 s.2 H n2 K))
theorem b1x (x0 : ByteArray) {w0 w : World} {ps0 : Nat → Prop} {H0 H : Hp} {K : Bool → Hp → Prop} {R : Value → World → Prop} {E : Pan} (I : Inv w0 ps0 H0 H [] w) (hR : ∀ (r0 : Bool) (H' : Hp) (w' : World) (_ : Inv w0 ps0 H0 H' [] w') (_ : K r0 H'), R (Value.bool r0) w') (h : a1X x0 H K) : F93 (Value.string x0) w R E := by
 unfold a1X at h
 unfold F93
 refine a6 (L3 _ _ _ _ _) ?_
 try simp only [o6]
 refine a6 (Pu.g fun hb => by have a7 := hb; first | exact (a9M _) | (simp only [a8 a7]; exact (a9M _)) | (simp only [b8 a7, a8 a7, a8 hb, v8 a7, h7]; exact (a9M _))) ?_
 refine a6 (Pu.g fun hb => by have a7 := hb; first | exact (T7 _ _ _ _ _ _) | (simp only [a8 a7]; exact (T7 _ _ _ _ _ _)) | (simp only [b8 a7, a8 a7, a8 hb, v8 a7, h7]; exact (T7 _ _ _ _ _ _))) ?_
 refine a6 (E6 _ _) ?_
 try simp only [o6]
 refine a3D (D := fun v_5 w_2 => ∃ (L9 : Bool) (H_1 : Hp) , v_5 = (gv ((decide (x0 = ⟨#[]⟩)) || (decide (128 < (x0.size : Int)))) false (Value.bool L9)) ∧ (Inv w0 ps0 H0 H_1 [] w_2) ∧ (∀ i, i < w.heap.size → ¬ inF [] i → w_2.heap[i]? = w.heap[i]?) ∧ Hle H H_1 ∧ (((((decide (x0 = ⟨#[]⟩)) || (decide (128 < (x0.size : Int)))) || L9) = true →
 K false H_1) ∧
 ((((decide (x0 = ⟨#[]⟩)) || (decide (128 < (x0.size : Int)))) || L9) = false →
 TL ((0, 0) : Int × Int) H_1 fun (s : Int × Int) H n2 => Q9 x0 s.1 s.2 H n2 K))) (fun c4c => ?_) (fun c4c => ?_) ?_
 ·replace h := h.1 c4c
  have a7 := c4c
  try simp only [a8 a7]
  refine f7 (cap := []) (fun args w => Tryd.call117 args w) ?_
  refine m2 (Fi := []) (Fr := []) I (h) (fun v_5 H_1 F_6 w_2 I_3 l_8 k_4 q_7 => ?_) (fun _ _ _ _ _ q => q.elim)
  obtain ⟨L9, rfl, rfl, h⟩ := q_7
  exact ⟨L9, H_1, by first | rfl | rw [a8 c4c], I_3, k_4, l_8, h⟩
 ·exact ⟨false, H, by first | rfl | rw [a6G c4c], I, fun _ _ _ => rfl, Hle.refl _, h.2 c4c⟩
 ·clear h
  rintro v_5 w_2 ⟨L9, H_1, rfl, I_3, k_4, l_8, h⟩
  refine a6 (E6 _ _) ?_
  refine m5 (fun c0D => ?_) (fun c0D => ?_)
  ·replace h := h.1 c0D
   exact hR false H_1 _ I_3 h
  ·replace h := h.2 c0D
   have hj1 : ∀ (a7y : Int) (H : Hp) (w : World) (_ : Inv w0 ps0 H0 H [] w) (_ : a0J a7y H K), c8H (vi a7y) w R E := by
    intro a7y H w I h
    unfold c8H
    intro _
    unfold a0J at h
    refine a6 (a1o _ _ _ _ _ _) ?_
    exact hR (decide (a7y ≤ 32)) H _ I h
   refine o3 fun j1 hx1 => ?_
   obtain ⟨e1X, c8T, h2y, h2z⟩ := h
   refine t6 (J := fun n l w => ∃ (s : Int × Int) (H : Hp) , n = c8T s ∧ l = (match s with | (a5B, D1) => [(vi a5B), (vi D1)]) ∧ (match s with | (a5B, D1) => Inv w0 ps0 H0 H [] w) ∧ e1X s H) ⟨_, (0, 0), H_1, rfl, rfl, I_3, h2y⟩ ?_
   rintro h8y τ_35 w next2 ⟨⟨a5B, D1⟩, H, rfl, d3T, I, e1Y⟩ hn2
   dsimp only at d3T I
   simp only [List.map_cons, List.map_nil, List.cons.injEq, and_true] at d3T
   obtain ⟨e3, e4⟩ := d3T
   simp only [e3, e4]
   obtain ⟨n2, hm2, h⟩ : ∃ n2 : (Int × Int) → Hp → Prop, (∀ s' H', n2 s' H' → e1X s' H' ∧ c8T s' < c8T (a5B, D1)) ∧ Q9 x0 a5B D1 H n2 K := ⟨_, fun _ _ h => h, h2z (a5B, D1) H (fun s' H' => e1X s' H' ∧ c8T s' < c8T (a5B, D1)) e1Y (fun _ _ a b => ⟨a, b⟩)⟩
   unfold d7Y
   unfold Q9 at h
   refine a6 (a9M _) ?_
   refine a6 (p6 _ _ _ _ _ _) ?_
   refine g8 (fun c0x => ?_) (fun c0x => ?_)
   ·replace h := h.1 c0x
    refine f7 (cap := []) (fun args w => Tryd.call118 args w) ?_
    refine m2 (Fi := []) (Fr := []) I (h) (fun c7D a3R f6v a1j G9 b9W b5A c7E => ?_) (fun _ _ _ _ _ q => q.elim)
    obtain ⟨u5, d3R, d3S, rfl, rfl, h⟩ := c7E
    refine a6 (u0 _ _ _ rfl) ?_
    refine a6 (u0 _ _ _ rfl) ?_
    refine a6 (u0 _ _ _ rfl) ?_
    refine f7 (cap := []) (fun args w => Tryd.call119 args w) ?_
    refine m2 (Fi := []) (Fr := []) G9 (h) (fun b7R W1 d3d p7 a5A c3G b7S c7F => ?_) (fun _ _ _ _ _ q => q.elim)
    obtain ⟨E7, rfl, rfl, h⟩ := c7F
    refine a6 (L2 _) ?_
    try simp only [o6]
    refine a6 (Pu.g fun hb => by have a7 := hb; first | exact (B8 _ _ _ _ _ _) | (simp only [a8 a7]; exact (B8 _ _ _ _ _ _)) | (simp only [b8 a7, a8 a7, a8 hb, v8 a7, h7]; exact (B8 _ _ _ _ _ _))) ?_
    try simp only [W3, a0C]
    try simp only [o6, W3, a3x, a2p, a0C, a3B, a3y, a3z, a3A, a3C]
    refine a6 (Pu.e (a4K _ _ _) (Pu.g fun hb => by obtain ⟨a7, m6⟩ := a7f hb; first | exact (B8 _ _ _ _ _ _) | (simp only [a8 hb]; exact (B8 _ _ _ _ _ _)) | (simp only [b8 a7, a8 a7, b8 m6, a8 m6, a8 hb, r9 hb]; exact (B8 _ _ _ _ _ _)) | (simp only [b8 a7, a8 a7, b8 m6, a8 m6, a8 hb, d9 hb, h7]; exact (B8 _ _ _ _ _ _)))) ?_
    try simp only [W3, a2p]
    try simp only [o6, W3, a3x, a2p, a0C, a3B, a3y, a3z, a3A, a3C]
    refine a6 (Pu.e (a2Z _ _ _) (Pu.g fun hb => by obtain ⟨a7D, a5f⟩ := a4N hb; obtain ⟨a7, m6⟩ := a7f a7D; first | exact (c8 _ _ _ _ _ _) | (simp only [a8 hb]; exact (c8 _ _ _ _ _ _)) | (simp only [b8 a7, a8 a7, b8 m6, a8 m6, b8 a5f, a8 a5f, a8 hb, a8 a7D, r9 hb]; exact (c8 _ _ _ _ _ _)) | (simp only [b8 a7, a8 a7, b8 m6, a8 m6, b8 a5f, a8 a5f, a8 hb, a8 a7D, d9 hb, h7]; exact (c8 _ _ _ _ _ _)))) ?_
    refine a6 (Pu.e (a4K _ _ _) (Pu.g fun hb => by obtain ⟨a7, m6⟩ := a7f hb; first | exact (E6 _ _) | (simp only [a8 hb]; exact (E6 _ _)) | (simp only [a8 hb, r9 hb]; exact (E6 _ _)) | (simp only [a8 hb, d9 hb]; exact (E6 _ _)))) ?_
    refine a6 (Pu.g fun hb => by have a7 := hb; first | exact (p1 _ _) | (simp only [a8 a7, a4O a7]; exact (p1 _ _)) | (simp only [b8 a7, a8 a7, a8 hb, v8 a7, h7]; exact (p1 _ _))) ?_
    refine a6 (E6 _ _) ?_
    refine m5 (fun e1Z => ?_) (fun e1Z => ?_)
    ·replace h := h.1 e1Z
     exact hR false W1 _ a5A h
    ·replace h := h.2 e1Z
     refine a6 (o4 _ _ _ _ _ _) ?_
     refine a6 (o4 _ _ _ _ _ _) ?_
     exact hn2 _ _ _ (hm2 _ _ h).2 ⟨((IntKind.wrap .i64 (a5B + 1)), (IntKind.wrap .i64 (D1 + d3R))), W1, rfl, rfl, a5A, (hm2 _ _ h).1⟩
   ·replace h := h.2 c0x
    exact hx1 _ _ (hj1 a5B H _ I h)
theorem b3l (x0 : ByteArray) {H : Hp} {K : Bool → Hp → Prop} (h : a1X x0 H K) : a1I x0 H K := by
 intro w I
 refine f9p ?_
 refine b1x x0 I (fun r0 H' w' I' hk => ⟨H', _, I', r0, rfl, rfl, hk⟩) h
def Y0 (x0 : b6) (x1 : ByteArray) (x2 : Bool) (H : Hp) (K : b6 → Hp → Prop) : Prop :=
 ((!x2) = true →
 K (b6.mk (x0.fok && (decide (x1 = ⟨#[]⟩))) x0.fnames) H) ∧
 ((!x2) = false →
 TG (x0.fnames = true) (a1I x1 H) false H (fun (b0A : Bool) (H_4 : Hp) =>
 K (b6.mk x0.fok (x0.fnames && b0A)) H_4))
theorem a9m (x0 : b6) (x1 : ByteArray) (x2 : Bool) (g0 : Nat) {w0 w : World} {ps0 : Nat → Prop} {H0 H : Hp} {K : b6 → Hp → Prop} {R : Value → World → Prop} {E : Pan} (I : Inv w0 ps0 H0 H [bx g0 102 (f8 x0)] w) (hR : ∀ (y0 : b6) (H' : Hp) (w' : World) (_ : Inv w0 ps0 H0 H' [bx g0 102 (f8 y0)] w') (_ : K y0 H'), R (Value.tuple #[]) w') (h : Y0 x0 x1 x2 H K) : F64 (Value.pointer (some ⟨g0, 0, none⟩)) (Value.string x1) (Value.bool x2) w R E := by
 unfold Y0 at h
 unfold F64
 refine a6 (L2 _) ?_
 refine m5 (fun a4k => ?_) (fun a4k => ?_)
 ·replace h := h.1 a4k
  refine a6 (m1 _) ?_
  refine a6 q7 ?_
  refine c5 (ld1 Tryd.isAgg4 (I.at1 (o := 0) (vs := [(Value.bool x0.fok)]) (nb rfl) rfl)) ?_
  try simp only [o6]
  refine a6 (Pu.g fun hb => by have a7 := hb; first | exact (L3 _ _ _ _ _) | (simp only [a8 a7]; exact (L3 _ _ _ _ _)) | (simp only [b8 a7, a8 a7, a8 hb, d9 a7, h7]; exact (L3 _ _ _ _ _))) ?_
  refine a6 (p1 _ _) ?_
  refine a6 (m1 _) ?_
  refine a6 q7 ?_
  refine u1 I Tryd.sizeOf4 (vs := [(Value.bool (x0.fok && (decide (x1 = ⟨#[]⟩))))]) (cs' := [(Value.bool (x0.fok && (decide (x1 = ⟨#[]⟩)))), (Value.bool x0.fnames)]) rfl rfl (nb rfl) rfl rfl fun w_1 I_2 k_3 => ?_
  exact hR (b6.mk (x0.fok && (decide (x1 = ⟨#[]⟩))) x0.fnames) H _ I_2 h
 ·replace h := h.2 a4k
  refine a6 (m1 _) ?_
  refine a6 b3V ?_
  refine c5 (ld1 Tryd.isAgg4 (I.at1 (o := 1) (vs := [(Value.bool x0.fnames)]) (nb rfl) rfl)) ?_
  try simp only [o6]
  refine a3D (D := fun v_8 w_5 => ∃ (b0A : Bool) (H_4 : Hp) , v_8 = (gv x0.fnames true (Value.bool b0A)) ∧ (Inv w0 ps0 H0 H_4 [bx g0 102 (f8 x0)] w_5) ∧ (∀ i, i < w.heap.size → ¬ inF [] i → w_5.heap[i]? = w.heap[i]?) ∧ Hle H H_4 ∧ (K (b6.mk x0.fok (x0.fnames && b0A)) H_4)) (fun c4d => ?_) (fun c4d => ?_) ?_
  ·replace h := h.1 c4d
   have a7 := c4d
   try simp only [a8 a7]
   refine f7 (cap := []) (fun args w => Tryd.call93 args w) ?_
   refine m2 (Fi := []) (Fr := [bx g0 102 (f8 x0)]) I (h) (fun v_8 H_4 F_9 w_5 I_6 b7x k_7 h2A => ?_) (fun _ _ _ _ _ q => q.elim)
   obtain ⟨b0A, rfl, rfl, h⟩ := h2A
   exact ⟨b0A, H_4, by first | rfl | rw [a8 c4d], I_6, k_7, b7x, h⟩
  ·exact ⟨false, H, by first | rfl | rw [a6G c4d], I, fun _ _ _ => rfl, Hle.refl _, h.2 c4d⟩
  ·clear h
   rintro v_8 w_5 ⟨b0A, H_4, rfl, I_6, k_7, b7x, h⟩
   refine a6 (p1 _ _) ?_
   refine a6 (m1 _) ?_
   refine a6 b3V ?_
   refine u1 I_6 Tryd.sizeOf4 (vs := [(Value.bool (x0.fnames && b0A))]) (cs' := [(Value.bool x0.fok), (Value.bool (x0.fnames && b0A))]) rfl rfl (nb rfl) rfl rfl fun a0b a3N c3r => ?_
   exact hR (b6.mk x0.fok (x0.fnames && b0A)) H_4 _ a3N h
theorem a9z (x0 : b6) (x1 : ByteArray) (x2 : Bool) {H : Hp} {K : b6 → Hp → Prop} (h : Y0 x0 x1 x2 H K) : P5 x0 x1 x2 H K := by
 intro g0 w I
 refine f8C ?_
 refine a9m x0 x1 x2 g0 I (fun y0 H' w' I' hk => ⟨H', _, I', y0, rfl, rfl, hk⟩) h
def S5 (cr_1l2 : m7) (u2 : Int) (O5 : b6) (H : Hp) (n2 : (Int × b6) → Hp → Prop) (K : b6 → Hp → Prop) : Prop :=
 (((decide (u2 < (cr_1l2.u6.n : Int))) && O5.fok) = true →
 (0 : Int) ≤ u2 ∧ (u2 : Int) < cr_1l2.u6.n ∧ ∃ d3U : m7, EltH H cr_1l2.u6 u2 4 (f6 d3U) ∧
 P6 O5 d3U H (fun (d3V : b6) (e2a : Hp) =>
 n2 ((IntKind.wrap .i64 (u2 + 1)), d3V) e2a)) ∧
 (((decide (u2 < (cr_1l2.u6.n : Int))) && O5.fok) = false →
 K O5 H)
def C2 (o9 : Int) (cr_1j1 : m7) (K3 : b6) (H : Hp) (K : b6 → Hp → Prop) : Prop :=
 P5 K3 cr_1j1.f5 ((decide (cr_1j1.c6 = 2)) || (decide (cr_1j1.c6 = 4))) H (fun (M4 : b6) (H_6 : Hp) =>
 TL ((0, (b6.mk ((M4.fok && (decide ((cr_1j1.u6.n : Int) = o9))) && ((decide (cr_1j1.Q6 = 0)) || ((decide (cr_1j1.c6 = 1)) && (decide (0 < cr_1j1.Q6))))) M4.fnames)) : Int × b6) H_6 fun (s : Int × b6) H n2 => S5 cr_1j1 s.1 s.2 H n2 K)
def z2 (h2B : Int) (b8W : Bool) (cr_1j5 : m7) (e4b : b6) (H : Hp) (K : b6 → Hp → Prop) : Prop :=
 (b8W = true →
 C2 2 cr_1j5 e4b H K) ∧
 (b8W = false →
 C2 h2B cr_1j5 (b6.mk false e4b.fnames) H K)
def J0 (c8U : Int) (b0g : Int) (b8X : Bool) (cr_1j4 : m7) (a7p : b6) (H : Hp) (K : b6 → Hp → Prop) : Prop :=
 (b8X = true →
 C2 1 cr_1j4 a7p H K) ∧
 (b8X = false →
 (b0g = 6 →
 z2 c8U (decide (b0g = 6)) cr_1j4 a7p H K) ∧
 (¬ (b0g = 6) →
 (b0g = 7 →
 z2 c8U (decide (b0g = 7)) cr_1j4 a7p H K) ∧
 (¬ (b0g = 7) →
 (b0g = 8 →
 z2 c8U (decide (b0g = 8)) cr_1j4 a7p H K) ∧
 (¬ (b0g = 8) →
 (b0g = 9 →
 z2 c8U (decide (b0g = 9)) cr_1j4 a7p H K) ∧
 (¬ (b0g = 9) →
 z2 c8U (decide (b0g = 10)) cr_1j4 a7p H K)))))
def E2 (c0E : Int) (c4e : Int) (b3M : Bool) (cr_1j3 : m7) (a1s : b6) (H : Hp) (K : b6 → Hp → Prop) : Prop :=
 (b3M = true →
 C2 c0E cr_1j3 a1s H K) ∧
 (b3M = false →
 (c4e = 4 →
 J0 c0E c4e (decide (c4e = 4)) cr_1j3 a1s H K) ∧
 (¬ (c4e = 4) →
 J0 c0E c4e (decide (c4e = 5)) cr_1j3 a1s H K))
def Y1 (x0 : b6) (x1 : m7) (H : Hp) (K : b6 → Hp → Prop) : Prop :=
 (x1.c6 = 1 →
 E2 0 x1.c6 (decide (x1.c6 = 1)) x1 x0 H K) ∧
 (¬ (x1.c6 = 1) →
 (x1.c6 = 2 →
 E2 0 x1.c6 (decide (x1.c6 = 2)) x1 x0 H K) ∧
 (¬ (x1.c6 = 2) →
 E2 0 x1.c6 (decide (x1.c6 = 3)) x1 x0 H K))
theorem a9n (x0 : b6) (x1 : m7) (g0 : Nat) {w0 w : World} {ps0 : Nat → Prop} {H0 H : Hp} {K : b6 → Hp → Prop} {R : Value → World → Prop} {E : Pan} (I : Inv w0 ps0 H0 H [bx g0 102 (f8 x0)] w) (hR : ∀ (y0 : b6) (H' : Hp) (w' : World) (_ : Inv w0 ps0 H0 H' [bx g0 102 (f8 y0)] w') (_ : K y0 H'), R (Value.tuple #[]) w') (h : Y1 x0 x1 H K) : F59 (Value.pointer (some ⟨g0, 0, none⟩)) (Value.agg (f6 x1).toArray) w R E := by
 unfold Y1 at h
 unfold F59
 refine K2 I (cs := (f6 x1)) rfl fun g_2 w_3 I_4 k_5 => ?_
 have hj1 : ∀ (o9 : Int) (K3 : b6) (H : Hp) (w : World) (_ : Inv w0 ps0 H0 H [bx g_2 30 (f6 x1), bx g0 102 (f8 K3)] w) (_ : C2 o9 x1 K3 H K), c8k (Value.pointer (some ⟨g0, 0, none⟩)) (Value.pointer (some ⟨g_2, 0, none⟩)) (vi o9) w R E := by
  intro o9 K3 H w I h
  unfold c8k
  intro _
  unfold C2 at h
  refine a6 a3G ?_
  refine c5 (ld1 Tryd.isAgg9 (I.at1 (o := 2) (vs := [(Value.string x1.f5)]) (nb rfl) rfl)) ?_
  refine a6 J6 ?_
  refine c5 (ld1 Tryd.isAgg3 (I.at1 (o := 0) (vs := [(vi x1.c6)]) (nb rfl) rfl)) ?_
  refine a6 (c8 _ _ _ _ _ _) ?_
  refine a6 (Pu.g fun hb => by have a7 := hb; first | exact J6 | (simp only [b8 a7, a8 a7, a8 hb, a4O a7]; exact J6) | (simp only [b8 a7, a8 a7, a8 hb, v8 a7, h7]; exact J6)) ?_
  refine c5 (Ld.g fun hb => by have a7 := hb; first | exact (ld1 Tryd.isAgg3 (I.at1 (o := 0) (vs := [(vi x1.c6)]) (nb rfl) rfl)) | (simp only [a8 a7]; exact (ld1 Tryd.isAgg3 (I.at1 (o := 0) (vs := [(vi x1.c6)]) (nb rfl) rfl))) | (simp only [b8 a7, a8 a7, a8 hb, v8 a7, h7]; exact (ld1 Tryd.isAgg3 (I.at1 (o := 0) (vs := [(vi x1.c6)]) (nb rfl) rfl)))) ?_
  refine a6 (Pu.g fun hb => by have a7 := hb; first | exact (c8 _ _ _ _ _ _) | (simp only [a8 a7]; exact (c8 _ _ _ _ _ _)) | (simp only [b8 a7, a8 a7, a8 hb, v8 a7, h7]; exact (c8 _ _ _ _ _ _))) ?_
  refine a6 (E6 _ _) ?_
  refine f7 (cap := []) (fun args w => Tryd.call64 args w) ?_
  refine m2 (Fi := [bx g0 102 (f8 K3)]) (Fr := [bx g_2 30 (f6 x1)]) (I.bring 1) (h g0) (fun a8X H_6 a8Y w_7 I_8 a8Z k_9 a1P => ?_) (fun _ _ _ _ _ q => q.elim)
  obtain ⟨M4, rfl, rfl, h⟩ := a1P
  refine a6 (m1 _) ?_
  refine a6 q7 ?_
  refine c5 (ld1 Tryd.isAgg4 (I_8.at1 (o := 0) (vs := [(Value.bool M4.fok)]) (nb rfl) rfl)) ?_
  refine a6 (Pu.g fun hb => by have a7 := hb; first | exact a0U | (simp only [b8 a7, a8 a7, a8 hb, r9 a7]; exact a0U) | (simp only [b8 a7, a8 a7, a8 hb, d9 a7, h7]; exact a0U)) ?_
  refine c5 (Ld.g fun hb => by have a7 := hb; first | exact (ld1 Tryd.isAgg28 ((I_8.bring 1).at1 (o := 3) (vs := [(vs x1.u6)]) (nb rfl) rfl)) | (simp only [a8 a7]; exact (ld1 Tryd.isAgg28 ((I_8.bring 1).at1 (o := 3) (vs := [(vs x1.u6)]) (nb rfl) rfl))) | (simp only [b8 a7, a8 a7, a8 hb, d9 a7, h7]; exact (ld1 Tryd.isAgg28 ((I_8.bring 1).at1 (o := 3) (vs := [(vs x1.u6)]) (nb rfl) rfl)))) ?_
  refine a6 (Pu.g fun hb => by have a7 := hb; first | exact (G2 _ _ _) | (simp only [a8 a7]; exact (G2 _ _ _)) | (simp only [b8 a7, a8 a7, a8 hb, d9 a7, h7]; exact (G2 _ _ _))) ?_
  try simp only [o6]
  refine a6 (Pu.g fun hb => by have a7 := hb; first | exact (c8 _ _ _ _ _ _) | (simp only [a8 a7]; exact (c8 _ _ _ _ _ _)) | (simp only [b8 a7, a8 a7, a8 hb, d9 a7, h7]; exact (c8 _ _ _ _ _ _))) ?_
  refine a6 (p1 _ _) ?_
  refine a6 (Pu.g fun hb => by have a7 := hb; first | exact a1E | (simp only [b8 a7, a8 a7, a8 hb, r9 a7]; exact a1E) | (simp only [b8 a7, a8 a7, a8 hb, d9 a7, h7]; exact a1E)) ?_
  refine c5 (Ld.g fun hb => by have a7 := hb; first | exact (ld1 Tryd.isAgg2 ((I_8.bring 1).at1 (o := 1) (vs := [(vi x1.Q6)]) (nb rfl) rfl)) | (simp only [a8 a7]; exact (ld1 Tryd.isAgg2 ((I_8.bring 1).at1 (o := 1) (vs := [(vi x1.Q6)]) (nb rfl) rfl))) | (simp only [b8 a7, a8 a7, a8 hb, d9 a7, h7]; exact (ld1 Tryd.isAgg2 ((I_8.bring 1).at1 (o := 1) (vs := [(vi x1.Q6)]) (nb rfl) rfl)))) ?_
  refine a6 (Pu.g fun hb => by have a7 := hb; first | exact (c8 _ _ _ _ _ _) | (simp only [a8 a7]; exact (c8 _ _ _ _ _ _)) | (simp only [b8 a7, a8 a7, a8 hb, d9 a7, h7]; exact (c8 _ _ _ _ _ _))) ?_
  try simp only [o6, W3, a2p]
  refine a6 (Pu.e (a2Z _ _ _) (Pu.g fun hb => by obtain ⟨a7, m6⟩ := a4N hb; first | exact J6 | (simp only [b8 a7, a8 a7, b8 m6, a8 m6, a8 hb, h7]; exact J6) | (simp only [b8 a7, a8 a7, b8 m6, a8 m6, a8 hb, r9 hb]; exact J6) | (simp only [b8 a7, a8 a7, b8 m6, a8 m6, a8 hb, d9 hb, h7]; exact J6))) ?_
  refine c5 (Ld.e (a2Z _ _ _) (Ld.g fun hb => by obtain ⟨a7, m6⟩ := a4N hb; first | exact (ld1 Tryd.isAgg3 ((I_8.bring 1).at1 (o := 0) (vs := [(vi x1.c6)]) (nb rfl) rfl)) | (simp only [a8 hb]; exact (ld1 Tryd.isAgg3 ((I_8.bring 1).at1 (o := 0) (vs := [(vi x1.c6)]) (nb rfl) rfl))) | (simp only [b8 a7, a8 a7, b8 m6, a8 m6, a8 hb, r9 hb]; exact (ld1 Tryd.isAgg3 ((I_8.bring 1).at1 (o := 0) (vs := [(vi x1.c6)]) (nb rfl) rfl))) | (simp only [b8 a7, a8 a7, b8 m6, a8 m6, a8 hb, d9 hb, h7]; exact (ld1 Tryd.isAgg3 ((I_8.bring 1).at1 (o := 0) (vs := [(vi x1.c6)]) (nb rfl) rfl))))) ?_
  refine a6 (Pu.e (a2Z _ _ _) (Pu.g fun hb => by obtain ⟨a7, m6⟩ := a4N hb; first | exact (c8 _ _ _ _ _ _) | (simp only [a8 hb]; exact (c8 _ _ _ _ _ _)) | (simp only [b8 a7, a8 a7, b8 m6, a8 m6, a8 hb, r9 hb]; exact (c8 _ _ _ _ _ _)) | (simp only [b8 a7, a8 a7, b8 m6, a8 m6, a8 hb, d9 hb, h7]; exact (c8 _ _ _ _ _ _)))) ?_
  try simp only [W3]
  refine a6 (Pu.e (c2N _ _ _) (Pu.g fun hb => by obtain ⟨a7D, a5f⟩ := d1L hb; obtain ⟨a7, m6⟩ := a4N a7D; first | exact a1E | (simp only [b8 a7, a8 a7, b8 m6, a8 m6, b8 a5f, a8 a5f, a8 hb, a8 a7D, h7]; exact a1E) | (simp only [b8 a7, a8 a7, b8 m6, a8 m6, b8 a5f, a8 a5f, a8 hb, a8 a7D, r9 hb]; exact a1E) | (simp only [b8 a7, a8 a7, b8 m6, a8 m6, b8 a5f, a8 a5f, a8 hb, a8 a7D, d9 hb, h7]; exact a1E))) ?_
  refine c5 (Ld.e (c2N _ _ _) (Ld.g fun hb => by obtain ⟨a7D, a5f⟩ := d1L hb; obtain ⟨a7, m6⟩ := a4N a7D; first | exact (ld1 Tryd.isAgg2 ((I_8.bring 1).at1 (o := 1) (vs := [(vi x1.Q6)]) (nb rfl) rfl)) | (simp only [a8 hb]; exact (ld1 Tryd.isAgg2 ((I_8.bring 1).at1 (o := 1) (vs := [(vi x1.Q6)]) (nb rfl) rfl))) | (simp only [b8 a7, a8 a7, b8 m6, a8 m6, b8 a5f, a8 a5f, a8 hb, a8 a7D, r9 hb]; exact (ld1 Tryd.isAgg2 ((I_8.bring 1).at1 (o := 1) (vs := [(vi x1.Q6)]) (nb rfl) rfl))) | (simp only [b8 a7, a8 a7, b8 m6, a8 m6, b8 a5f, a8 a5f, a8 hb, a8 a7D, d9 hb, h7]; exact (ld1 Tryd.isAgg2 ((I_8.bring 1).at1 (o := 1) (vs := [(vi x1.Q6)]) (nb rfl) rfl))))) ?_
  refine a6 (Pu.e (c2N _ _ _) (Pu.g fun hb => by obtain ⟨a7D, a5f⟩ := d1L hb; obtain ⟨a7, m6⟩ := a4N a7D; first | exact (T7 _ _ _ _ _ _) | (simp only [a8 hb]; exact (T7 _ _ _ _ _ _)) | (simp only [b8 a7, a8 a7, b8 m6, a8 m6, b8 a5f, a8 a5f, a8 hb, a8 a7D, r9 hb]; exact (T7 _ _ _ _ _ _)) | (simp only [b8 a7, a8 a7, b8 m6, a8 m6, b8 a5f, a8 a5f, a8 hb, a8 a7D, d9 hb, h7]; exact (T7 _ _ _ _ _ _)))) ?_
  refine a6 (Pu.e (a2Z _ _ _) (Pu.g fun hb => by obtain ⟨a7, m6⟩ := a4N hb; first | exact (p1 _ _) | (simp only [a8 hb]; exact (p1 _ _)) | (simp only [a8 hb, r9 hb]; exact (p1 _ _)) | (simp only [b8 a7, a8 a7, b8 m6, a8 m6, a8 hb, d9 hb, h7]; exact (p1 _ _)))) ?_
  refine a6 (Pu.g fun hb => by have a7 := hb; first | exact (E6 _ _) | (simp only [a8 a7, r9 a7]; exact (E6 _ _)) | (simp only [a8 a7, d9 a7]; exact (E6 _ _))) ?_
  refine a6 (p1 _ _) ?_
  refine a6 (m1 _) ?_
  refine a6 q7 ?_
  refine u1 I_8 Tryd.sizeOf4 (vs := [(Value.bool ((M4.fok && (decide ((x1.u6.n : Int) = o9))) && ((decide (x1.Q6 = 0)) || ((decide (x1.c6 = 1)) && (decide (0 < x1.Q6))))))]) (cs' := [(Value.bool ((M4.fok && (decide ((x1.u6.n : Int) = o9))) && ((decide (x1.Q6 = 0)) || ((decide (x1.c6 = 1)) && (decide (0 < x1.Q6)))))), (Value.bool M4.fnames)]) rfl rfl (nb rfl) rfl rfl fun a6u e2b h2C => ?_
  obtain ⟨e2c, c8V, h2D, h2E⟩ := h
  refine t6 (J := fun n l w => ∃ (s : Int × b6) (H : Hp) , n = c8V s ∧ l = (match s with | (u2, O5) => [(vi u2)]) ∧ (match s with | (u2, O5) => Inv w0 ps0 H0 H [bx g0 102 (f8 O5), bx g_2 30 (f6 x1)] w) ∧ e2c s H) ⟨_, (0, (b6.mk ((M4.fok && (decide ((x1.u6.n : Int) = o9))) && ((decide (x1.Q6 = 0)) || ((decide (x1.c6 = 1)) && (decide (0 < x1.Q6))))) M4.fnames)), H_6, rfl, rfl, ((e2b.bring 1).bring 1), h2D⟩ ?_
  rintro h8z τ_65 w next2 ⟨⟨u2, O5⟩, H, rfl, e2d, I, h2F⟩ hn2
  dsimp only at e2d I
  simp only [List.map_cons, List.map_nil, List.cons.injEq, and_true] at e2d
  have e5 := e2d
  simp only [e5]
  obtain ⟨n2, hm2, h⟩ : ∃ n2 : (Int × b6) → Hp → Prop, (∀ s' H', n2 s' H' → e2c s' H' ∧ c8V s' < c8V (u2, O5)) ∧ S5 x1 u2 O5 H n2 K := ⟨_, fun _ _ h => h, h2E (u2, O5) H (fun s' H' => e2c s' H' ∧ c8V s' < c8V (u2, O5)) h2F (fun _ _ a b => ⟨a, b⟩)⟩
  unfold d7R
  unfold S5 at h
  refine a6 a0U ?_
  refine c5 (ld1 Tryd.isAgg28 ((I.bring 1).at1 (o := 3) (vs := [(vs x1.u6)]) (nb rfl) rfl)) ?_
  refine a6 (G2 _ _ _) ?_
  refine a6 (p6 _ _ _ _ _ _) ?_
  try simp only [o6]
  refine a6 (Pu.g fun hb => by have a7 := hb; first | exact (m1 _) | (simp only [a8 a7]; exact (m1 _)) | (simp only [b8 a7, a8 a7, a8 hb, d9 a7, h7]; exact (m1 _))) ?_
  refine a6 (Pu.g fun hb => by have a7 := hb; first | exact q7 | (simp only [a8 a7]; exact q7) | (simp only [b8 a7, a8 a7, a8 hb, d9 a7, h7]; exact q7)) ?_
  refine c5 (Ld.g fun hb => by have a7 := hb; first | exact (ld1 Tryd.isAgg4 (I.at1 (o := 0) (vs := [(Value.bool O5.fok)]) (nb rfl) rfl)) | (simp only [a8 a7]; exact (ld1 Tryd.isAgg4 (I.at1 (o := 0) (vs := [(Value.bool O5.fok)]) (nb rfl) rfl))) | (simp only [b8 a7, a8 a7, a8 hb, d9 a7, h7]; exact (ld1 Tryd.isAgg4 (I.at1 (o := 0) (vs := [(Value.bool O5.fok)]) (nb rfl) rfl)))) ?_
  refine a6 (p1 _ _) ?_
  refine m5 (fun e2e => ?_) (fun e2e => ?_)
  ·replace h := h.1 e2e
   refine a6 a0U ?_
   refine c5 (ld1 Tryd.isAgg28 ((I.bring 1).at1 (o := 3) (vs := [(vs x1.u6)]) (nb rfl) rfl)) ?_
   obtain ⟨c7v, e2f, d3U, c8W, h⟩ := h
   obtain ⟨h8A, h8B, c7P, c8W⟩ := c8W
   refine a6 (a2u c7P _ _ _ _ c7v e2f) ?_
   refine c5 (ldA (vs := (f6 d3U)) Tryd.isAgg30 Tryd.sizeOf30 rfl (I.atH c8W)) ?_
   refine f7 (cap := []) (fun args w => Tryd.call59 args w) ?_
   refine m2 (Fi := [bx g0 102 (f8 O5)]) (Fr := [bx g_2 30 (f6 x1)]) I (h g0) (fun h8C e2a h8D b7i b0U h8E h2G h2H => ?_) (fun _ _ _ _ _ q => q.elim)
   obtain ⟨d3V, rfl, rfl, h⟩ := h2H
   refine a6 (o4 _ _ _ _ _ _) ?_
   exact hn2 _ _ _ (hm2 _ _ h).2 ⟨((IntKind.wrap .i64 (u2 + 1)), d3V), e2a, rfl, rfl, ((b0U.bring 1).bring 1), (hm2 _ _ h).1⟩
  ·replace h := h.2 e2e
   exact hR O5 H _ (I.bring 1).drop h
 refine o3 fun j1 hx1 => ?_
 refine a6 J6 ?_
 refine c5 (ld1 Tryd.isAgg3 (I_4.at1 (o := 0) (vs := [(vi x1.c6)]) (nb rfl) rfl)) ?_
 have hj3 : ∀ (b3M : Bool) (H : Hp) (w : World) (_ : Inv w0 ps0 H0 H [bx g_2 30 (f6 x1), bx g0 102 (f8 x0)] w) (_ : E2 0 x1.c6 b3M x1 x0 H K), c8p (Value.pointer (some ⟨g0, 0, none⟩)) (Value.pointer (some ⟨g_2, 0, none⟩)) (vi 0) (vi x1.c6) (Value.bool b3M) w j1 R E := by
  intro b3M H w I h
  unfold c8p
  intro _
  unfold E2 at h
  refine m5 (fun c0n => ?_) (fun c0n => ?_)
  ·replace h := h.1 c0n
   exact hx1 _ _ (hj1 0 x0 H _ ((I.bring 1).bring 1) h)
  ·replace h := h.2 c0n
   have hj4 : ∀ (b8X : Bool) (H : Hp) (w : World) (_ : Inv w0 ps0 H0 H [bx g_2 30 (f6 x1), bx g0 102 (f8 x0)] w) (_ : J0 0 x1.c6 b8X x1 x0 H K), c8o (Value.pointer (some ⟨g0, 0, none⟩)) (Value.pointer (some ⟨g_2, 0, none⟩)) (vi 0) (vi x1.c6) (Value.bool b8X) w j1 R E := by
    intro b8X H w I h
    unfold c8o
    intro _
    unfold J0 at h
    refine m5 (fun c0p => ?_) (fun c0p => ?_)
    ·replace h := h.1 c0p
     exact hx1 _ _ (hj1 1 x0 H _ ((I.bring 1).bring 1) h)
    ·replace h := h.2 c0p
     have hj5 : ∀ (b8W : Bool) (H : Hp) (w : World) (_ : Inv w0 ps0 H0 H [bx g_2 30 (f6 x1), bx g0 102 (f8 x0)] w) (_ : z2 0 b8W x1 x0 H K), c8n (Value.pointer (some ⟨g0, 0, none⟩)) (Value.pointer (some ⟨g_2, 0, none⟩)) (vi 0) (Value.bool b8W) w j1 R E := by
      intro b8W H w I h
      unfold c8n
      intro _
      unfold z2 at h
      refine m5 (fun b2F => ?_) (fun b2F => ?_)
      ·replace h := h.1 b2F
       exact hx1 _ _ (hj1 2 x0 H _ ((I.bring 1).bring 1) h)
      ·replace h := h.2 b2F
       refine a6 (m1 _) ?_
       refine a6 q7 ?_
       refine u1 (I.bring 1) Tryd.sizeOf4 (vs := [(Value.bool false)]) (cs' := [(Value.bool false), (Value.bool x0.fnames)]) rfl rfl (nb rfl) rfl rfl fun a0d h2I h8F => ?_
       exact hx1 _ _ (hj1 0 (b6.mk false x0.fnames) H _ (h2I.bring 1) h)
     refine o3 fun j5 hx5 => ?_
     refine a6 (c8 _ _ _ _ _ _) ?_
     refine g8 (fun b2E => ?_) (fun b2E => ?_)
     ·replace h := h.1 b2E
      exact hx5 _ _ (hj5 (decide (x1.c6 = 6)) H _ ((I.bring 1).bring 1) h)
     ·replace h := h.2 b2E
      refine a6 (c8 _ _ _ _ _ _) ?_
      refine g8 (fun a8b => ?_) (fun a8b => ?_)
      ·replace h := h.1 a8b
       exact hx5 _ _ (hj5 (decide (x1.c6 = 7)) H _ ((I.bring 1).bring 1) h)
      ·replace h := h.2 a8b
       refine a6 (c8 _ _ _ _ _ _) ?_
       refine g8 (fun b2Q => ?_) (fun b2Q => ?_)
       ·replace h := h.1 b2Q
        exact hx5 _ _ (hj5 (decide (x1.c6 = 8)) H _ ((I.bring 1).bring 1) h)
       ·replace h := h.2 b2Q
        refine a6 (c8 _ _ _ _ _ _) ?_
        refine g8 (fun a6c => ?_) (fun a6c => ?_)
        ·replace h := h.1 a6c
         exact hx5 _ _ (hj5 (decide (x1.c6 = 9)) H _ ((I.bring 1).bring 1) h)
        ·replace h := h.2 a6c
         refine a6 (c8 _ _ _ _ _ _) ?_
         exact hx5 _ _ (hj5 (decide (x1.c6 = 10)) H _ ((I.bring 1).bring 1) h)
   refine o3 fun j4 hx4 => ?_
   refine a6 (c8 _ _ _ _ _ _) ?_
   refine g8 (fun c0o => ?_) (fun c0o => ?_)
   ·replace h := h.1 c0o
    exact hx4 _ _ (hj4 (decide (x1.c6 = 4)) H _ ((I.bring 1).bring 1) h)
   ·replace h := h.2 c0o
    refine a6 (c8 _ _ _ _ _ _) ?_
    exact hx4 _ _ (hj4 (decide (x1.c6 = 5)) H _ ((I.bring 1).bring 1) h)
 refine o3 fun j3 hx3 => ?_
 refine a6 (c8 _ _ _ _ _ _) ?_
 refine g8 (fun b2P => ?_) (fun b2P => ?_)
 ·replace h := h.1 b2P
  exact hx3 _ _ (hj3 (decide (x1.c6 = 1)) H _ ((I_4.bring 1).bring 1) h)
 ·replace h := h.2 b2P
  refine a6 (c8 _ _ _ _ _ _) ?_
  refine g8 (fun c0m => ?_) (fun c0m => ?_)
  ·replace h := h.1 c0m
   exact hx3 _ _ (hj3 (decide (x1.c6 = 2)) H _ ((I_4.bring 1).bring 1) h)
  ·replace h := h.2 c0m
   refine a6 (c8 _ _ _ _ _ _) ?_
   exact hx3 _ _ (hj3 (decide (x1.c6 = 3)) H _ ((I_4.bring 1).bring 1) h)
theorem a9A (x0 : b6) (x1 : m7) {H : Hp} {K : b6 → Hp → Prop} (h : Y1 x0 x1 H K) : P6 x0 x1 H K := by
 intro g0 w I
 refine f7Q ?_
 refine a9n x0 x1 g0 I (fun y0 H' w' I' hk => ⟨H', _, I', y0, rfl, rfl, hk⟩) h
def Y2 (x0 : b6) (H : Hp) (K : Int → Hp → Prop) : Prop :=
 ((!x0.fok) = true →
 K 30 H) ∧
 ((!x0.fok) = false →
 ((!x0.fnames) = true →
 K 31 H) ∧
 ((!x0.fnames) = false →
 K 0 H))
theorem a9o (x0 : b6) {w0 w : World} {ps0 : Nat → Prop} {H0 H : Hp} {K : Int → Hp → Prop} {R : Value → World → Prop} {E : Pan} (I : Inv w0 ps0 H0 H [] w) (hR : ∀ (r0 : Int) (H' : Hp) (w' : World) (_ : Inv w0 ps0 H0 H' [] w') (_ : K r0 H'), R (vi r0) w') (h : Y2 x0 H K) : F60 (Value.agg (f8 x0).toArray) w R E := by
 unfold Y2 at h
 unfold F60
 refine K2 I (cs := (f8 x0)) rfl fun g_2 w_3 I_4 k_5 => ?_
 refine a6 q7 ?_
 refine c5 (ld1 Tryd.isAgg4 (I_4.at1 (o := 0) (vs := [(Value.bool x0.fok)]) (nb rfl) rfl)) ?_
 refine a6 (L2 _) ?_
 refine m5 (fun c_7 => ?_) (fun c_7 => ?_)
 ·replace h := h.1 c_7
  exact hR 30 H _ I_4.drop h
 ·replace h := h.2 c_7
  refine a6 b3V ?_
  refine c5 (ld1 Tryd.isAgg4 (I_4.at1 (o := 1) (vs := [(Value.bool x0.fnames)]) (nb rfl) rfl)) ?_
  refine a6 (L2 _) ?_
  refine m5 (fun c_6 => ?_) (fun c_6 => ?_)
  ·replace h := h.1 c_6
   exact hR 31 H _ I_4.drop h
  ·replace h := h.2 c_6
   exact hR 0 H _ I_4.drop h
theorem a9B (x0 : b6) {H : Hp} {K : Int → Hp → Prop} (h : Y2 x0 H K) : a2f x0 H K := by
 intro w I
 refine f7S ?_
 refine a9o x0 I (fun r0 H' w' I' hk => ⟨H', _, I', r0, rfl, rfl, hk⟩) h
def S6 (cr_1l4 : m8) (a8o : Int) (O1 : b6) (H : Hp) (n4 : (Int × b6) → Hp → Prop) (K : b6 → Hp → Prop) : Prop :=
 (((decide (a8o < (cr_1l4.p5.n : Int))) && O1.fok) = true →
 (0 : Int) ≤ a8o ∧ (a8o : Int) < cr_1l4.p5.n ∧ ∃ d3W : m8, EltH H cr_1l4.p5 a8o 4 (g7 d3W) ∧
 X0 O1 d3W H (fun (G6 : b6) (b5R : Hp) =>
 n4 ((IntKind.wrap .i64 (a8o + 1)), G6) b5R)) ∧
 (((decide (a8o < (cr_1l4.p5.n : Int))) && O1.fok) = false →
 K O1 H)
def S7 (a1s : b6) (cr_1j3 : m8) (H : Hp) (K : b6 → Hp → Prop) : Prop :=
 TL ((0, a1s) : Int × b6) H fun (s : Int × b6) H n4 => S6 cr_1j3 s.1 s.2 H n4 K
def S8 (cr_1l5 : m8) (a8p : Int) (D2 : b6) (H : Hp) (n5 : (Int × b6) → Hp → Prop) (K : b6 → Hp → Prop) : Prop :=
 (((decide (a8p < (cr_1l5.g5.n : Int))) && D2.fok) = true →
 (0 : Int) ≤ a8p ∧ (a8p : Int) < cr_1l5.g5.n ∧ ∃ d3X : m7, EltH H cr_1l5.g5 a8p 4 (f6 d3X) ∧
 P6 D2 d3X H (fun (d3Y : b6) (e2g : Hp) =>
 n5 ((IntKind.wrap .i64 (a8p + 1)), d3Y) e2g)) ∧
 (((decide (a8p < (cr_1l5.g5.n : Int))) && D2.fok) = false →
 S7 D2 cr_1l5 H K)
def J1 (b5P : Int) (h2J : Int) (b8i : Bool) (cr_1j2 : m8) (a5n : b6) (H : Hp) (K : b6 → Hp → Prop) : Prop :=
 TL ((0, (b6.mk (((a5n.fok && b8i) && (decide ((cr_1j2.g5.n : Int) = b5P))) && (decide ((cr_1j2.p5.n : Int) = h2J))) a5n.fnames)) : Int × b6) H fun (s : Int × b6) H n5 => S8 cr_1j2 s.1 s.2 H n5 K
def z6 (o9 : Int) (a0Q : Int) (cr_1j1 : m8) (K3 : b6) (H : Hp) (K : b6 → Hp → Prop) : Prop :=
 (cr_1j1.c6 = 3 →
 J1 o9 a0Q ((decide (1 ≤ cr_1j1.fOp)) && (decide (cr_1j1.fOp ≤ 6))) cr_1j1 K3 H K) ∧
 (¬ (cr_1j1.c6 = 3) →
 J1 o9 a0Q (decide (cr_1j1.fOp = 0)) cr_1j1 K3 H K)
def J2 (g0n : Int) (h2K : Int) (b8Y : Bool) (cr_1j7 : m8) (e4c : b6) (H : Hp) (K : b6 → Hp → Prop) : Prop :=
 (b8Y = true →
 z6 g0n 2 cr_1j7 e4c H K) ∧
 (b8Y = false →
 z6 g0n h2K cr_1j7 (b6.mk false e4c.fnames) H K)
def J3 (d3Z : Int) (c4f : Int) (b3N : Int) (b8Z : Bool) (cr_1j6 : m8) (c2d : b6) (H : Hp) (K : b6 → Hp → Prop) : Prop :=
 (b8Z = true →
 z6 d3Z c4f cr_1j6 c2d H K) ∧
 (b8Z = false →
 (b3N = 3 →
 z6 2 c4f cr_1j6 c2d H K) ∧
 (¬ (b3N = 3) →
 (b3N = 4 →
 z6 d3Z 1 cr_1j6 c2d H K) ∧
 (¬ (b3N = 4) →
 (b3N = 5 →
 J2 d3Z c4f (decide (b3N = 5)) cr_1j6 c2d H K) ∧
 (¬ (b3N = 5) →
 J2 d3Z c4f (decide (b3N = 6)) cr_1j6 c2d H K))))
def Y3 (x0 : b6) (x1 : m8) (H : Hp) (K : b6 → Hp → Prop) : Prop :=
 (x1.c6 = 1 →
 J3 0 0 x1.c6 (decide (x1.c6 = 1)) x1 x0 H K) ∧
 (¬ (x1.c6 = 1) →
 J3 0 0 x1.c6 (decide (x1.c6 = 2)) x1 x0 H K)
theorem a9p (x0 : b6) (x1 : m8) (g0 : Nat) {w0 w : World} {ps0 : Nat → Prop} {H0 H : Hp} {K : b6 → Hp → Prop} {R : Value → World → Prop} {E : Pan} (I : Inv w0 ps0 H0 H [bx g0 102 (f8 x0)] w) (hR : ∀ (y0 : b6) (H' : Hp) (w' : World) (_ : Inv w0 ps0 H0 H' [bx g0 102 (f8 y0)] w') (_ : K y0 H'), R (Value.tuple #[]) w') (h : Y3 x0 x1 H K) : F62 (Value.pointer (some ⟨g0, 0, none⟩)) (Value.agg (g7 x1).toArray) w R E := by
 unfold Y3 at h
 unfold F62
 refine K2 I (cs := (g7 x1)) rfl fun g_2 w_3 I_4 k_5 => ?_
 have hj1 : ∀ (o9 : Int) (a0Q : Int) (K3 : b6) (H : Hp) (w : World) (_ : Inv w0 ps0 H0 H [bx g_2 33 (g7 x1), bx g0 102 (f8 K3)] w) (_ : z6 o9 a0Q x1 K3 H K), c8v (Value.pointer (some ⟨g0, 0, none⟩)) (Value.pointer (some ⟨g_2, 0, none⟩)) (vi o9) (vi a0Q) w R E := by
  intro o9 a0Q K3 H w I h
  unfold c8v
  intro _
  unfold z6 at h
  refine a6 a2M ?_
  refine c5 (ld1 Tryd.isAgg3 (I.at1 (o := 1) (vs := [(vi x1.fOp)]) (nb rfl) rfl)) ?_
  refine a6 (c8 _ _ _ _ _ _) ?_
  have hj2 : ∀ (b8i : Bool) (H : Hp) (w : World) (_ : Inv w0 ps0 H0 H [bx g_2 33 (g7 x1), bx g0 102 (f8 K3)] w) (_ : J1 o9 a0Q b8i x1 K3 H K), c8r (Value.pointer (some ⟨g0, 0, none⟩)) (Value.pointer (some ⟨g_2, 0, none⟩)) (vi o9) (vi a0Q) (Value.bool b8i) w R E := by
   intro b8i H w I h
   unfold c8r
   intro _
   unfold J1 at h
   refine a6 (m1 _) ?_
   refine a6 q7 ?_
   refine c5 (ld1 Tryd.isAgg4 ((I.bring 1).at1 (o := 0) (vs := [(Value.bool K3.fok)]) (nb rfl) rfl)) ?_
   try simp only [o6]
   refine a6 (p1 _ _) ?_
   refine a6 (Pu.g fun hb => by have a7 := hb; first | exact a0V | (simp only [b8 a7, a8 a7, a8 hb, r9 a7]; exact a0V) | (simp only [b8 a7, a8 a7, a8 hb, d9 a7, h7]; exact a0V)) ?_
   refine c5 (Ld.g fun hb => by have a7 := hb; first | exact (ld1 Tryd.isAgg28 (I.at1 (o := 2) (vs := [(vs x1.g5)]) (nb rfl) rfl)) | (simp only [a8 a7]; exact (ld1 Tryd.isAgg28 (I.at1 (o := 2) (vs := [(vs x1.g5)]) (nb rfl) rfl))) | (simp only [b8 a7, a8 a7, a8 hb, d9 a7, h7]; exact (ld1 Tryd.isAgg28 (I.at1 (o := 2) (vs := [(vs x1.g5)]) (nb rfl) rfl)))) ?_
   refine a6 (Pu.g fun hb => by have a7 := hb; first | exact (G2 _ _ _) | (simp only [a8 a7]; exact (G2 _ _ _)) | (simp only [b8 a7, a8 a7, a8 hb, d9 a7, h7]; exact (G2 _ _ _))) ?_
   try simp only [o6]
   refine a6 (Pu.g fun hb => by have a7 := hb; first | exact (c8 _ _ _ _ _ _) | (simp only [a8 a7]; exact (c8 _ _ _ _ _ _)) | (simp only [b8 a7, a8 a7, a8 hb, d9 a7, h7]; exact (c8 _ _ _ _ _ _))) ?_
   refine a6 (p1 _ _) ?_
   refine a6 (Pu.g fun hb => by have a7 := hb; first | exact a0W | (simp only [b8 a7, a8 a7, a8 hb, r9 a7]; exact a0W) | (simp only [b8 a7, a8 a7, a8 hb, d9 a7, h7]; exact a0W)) ?_
   refine c5 (Ld.g fun hb => by have a7 := hb; first | exact (ld1 Tryd.isAgg31 (I.at1 (o := 3) (vs := [(vs x1.p5)]) (nb rfl) rfl)) | (simp only [a8 a7]; exact (ld1 Tryd.isAgg31 (I.at1 (o := 3) (vs := [(vs x1.p5)]) (nb rfl) rfl))) | (simp only [b8 a7, a8 a7, a8 hb, d9 a7, h7]; exact (ld1 Tryd.isAgg31 (I.at1 (o := 3) (vs := [(vs x1.p5)]) (nb rfl) rfl)))) ?_
   refine a6 (Pu.g fun hb => by have a7 := hb; first | exact (Q7 _ _ _) | (simp only [a8 a7]; exact (Q7 _ _ _)) | (simp only [b8 a7, a8 a7, a8 hb, d9 a7, h7]; exact (Q7 _ _ _))) ?_
   try simp only [o6]
   refine a6 (Pu.g fun hb => by have a7 := hb; first | exact (c8 _ _ _ _ _ _) | (simp only [a8 a7]; exact (c8 _ _ _ _ _ _)) | (simp only [b8 a7, a8 a7, a8 hb, d9 a7, h7]; exact (c8 _ _ _ _ _ _))) ?_
   refine a6 (p1 _ _) ?_
   refine a6 (m1 _) ?_
   refine a6 q7 ?_
   refine u1 (I.bring 1) Tryd.sizeOf4 (vs := [(Value.bool (((K3.fok && b8i) && (decide ((x1.g5.n : Int) = o9))) && (decide ((x1.p5.n : Int) = a0Q))))]) (cs' := [(Value.bool (((K3.fok && b8i) && (decide ((x1.g5.n : Int) = o9))) && (decide ((x1.p5.n : Int) = a0Q)))), (Value.bool K3.fnames)]) rfl rfl (nb rfl) rfl rfl fun w_6 I_7 k_8 => ?_
   have hj3 : ∀ (a1s : b6) (H : Hp) (w : World) (_ : Inv w0 ps0 H0 H [bx g0 102 (f8 a1s), bx g_2 33 (g7 x1)] w) (_ : S7 a1s x1 H K), c8q (Value.pointer (some ⟨g0, 0, none⟩)) (Value.pointer (some ⟨g_2, 0, none⟩)) w R E := by
    intro a1s H w I h
    unfold c8q
    intro _
    unfold S7 at h
    obtain ⟨e2h, c8X, h2L, a8c⟩ := h
    refine t6 (J := fun n l w => ∃ (s : Int × b6) (H : Hp) , n = c8X s ∧ l = (match s with | (a8o, O1) => [(vi a8o)]) ∧ (match s with | (a8o, O1) => Inv w0 ps0 H0 H [bx g0 102 (f8 O1), bx g_2 33 (g7 x1)] w) ∧ e2h s H) ⟨_, (0, a1s), H, rfl, rfl, ((I.bring 1).bring 1), h2L⟩ ?_
    rintro h8G τ_72 w next4 ⟨⟨a8o, O1⟩, H, rfl, e2i, I, h2M⟩ hn4
    dsimp only at e2i I
    simp only [List.map_cons, List.map_nil, List.cons.injEq, and_true] at e2i
    have e8 := e2i
    simp only [e8]
    obtain ⟨n4, hm4, h⟩ : ∃ n4 : (Int × b6) → Hp → Prop, (∀ s' H', n4 s' H' → e2h s' H' ∧ c8X s' < c8X (a8o, O1)) ∧ S6 x1 a8o O1 H n4 K := ⟨_, fun _ _ h => h, a8c (a8o, O1) H (fun s' H' => e2h s' H' ∧ c8X s' < c8X (a8o, O1)) h2M (fun _ _ a b => ⟨a, b⟩)⟩
    unfold d7S
    unfold S6 at h
    refine a6 a0W ?_
    refine c5 (ld1 Tryd.isAgg31 ((I.bring 1).at1 (o := 3) (vs := [(vs x1.p5)]) (nb rfl) rfl)) ?_
    refine a6 (Q7 _ _ _) ?_
    refine a6 (p6 _ _ _ _ _ _) ?_
    try simp only [o6]
    refine a6 (Pu.g fun hb => by have a7 := hb; first | exact (m1 _) | (simp only [a8 a7]; exact (m1 _)) | (simp only [b8 a7, a8 a7, a8 hb, d9 a7, h7]; exact (m1 _))) ?_
    refine a6 (Pu.g fun hb => by have a7 := hb; first | exact q7 | (simp only [a8 a7]; exact q7) | (simp only [b8 a7, a8 a7, a8 hb, d9 a7, h7]; exact q7)) ?_
    refine c5 (Ld.g fun hb => by have a7 := hb; first | exact (ld1 Tryd.isAgg4 (I.at1 (o := 0) (vs := [(Value.bool O1.fok)]) (nb rfl) rfl)) | (simp only [a8 a7]; exact (ld1 Tryd.isAgg4 (I.at1 (o := 0) (vs := [(Value.bool O1.fok)]) (nb rfl) rfl))) | (simp only [b8 a7, a8 a7, a8 hb, d9 a7, h7]; exact (ld1 Tryd.isAgg4 (I.at1 (o := 0) (vs := [(Value.bool O1.fok)]) (nb rfl) rfl)))) ?_
    refine a6 (p1 _ _) ?_
    refine m5 (fun c0h => ?_) (fun c0h => ?_)
    ·replace h := h.1 c0h
     refine a6 a0W ?_
     refine c5 (ld1 Tryd.isAgg31 ((I.bring 1).at1 (o := 3) (vs := [(vs x1.p5)]) (nb rfl) rfl)) ?_
     obtain ⟨e0s, c0r, d3W, b9Y, h⟩ := h
     obtain ⟨h8H, h8I, c7Q, b9Y⟩ := b9Y
     refine a6 (a5I c7Q _ _ _ _ e0s c0r) ?_
     refine c5 (ldA (vs := (g7 d3W)) Tryd.isAgg33 Tryd.sizeOf33 rfl (I.atH b9Y)) ?_
     refine f7 (cap := []) (fun args w => Tryd.call62 args w) ?_
     refine m2 (Fi := [bx g0 102 (f8 O1)]) (Fr := [bx g_2 33 (g7 x1)]) I (h g0) (fun h1O b5R h1P M8 b5T h1Q h1R e0t => ?_) (fun _ _ _ _ _ q => q.elim)
     obtain ⟨G6, rfl, rfl, h⟩ := e0t
     refine a6 (o4 _ _ _ _ _ _) ?_
     exact hn4 _ _ _ (hm4 _ _ h).2 ⟨((IntKind.wrap .i64 (a8o + 1)), G6), b5R, rfl, rfl, ((b5T.bring 1).bring 1), (hm4 _ _ h).1⟩
    ·replace h := h.2 c0h
     exact hR O1 H _ (I.bring 1).drop h
   refine o3 fun j3 hx3 => ?_
   obtain ⟨d4a, c2e, g7X, g7Y⟩ := h
   refine t6 (J := fun n l w => ∃ (s : Int × b6) (H : Hp) , n = c2e s ∧ l = (match s with | (a8p, D2) => [(vi a8p)]) ∧ (match s with | (a8p, D2) => Inv w0 ps0 H0 H [bx g0 102 (f8 D2), bx g_2 33 (g7 x1)] w) ∧ d4a s H) ⟨_, (0, (b6.mk (((K3.fok && b8i) && (decide ((x1.g5.n : Int) = o9))) && (decide ((x1.p5.n : Int) = a0Q))) K3.fnames)), H, rfl, rfl, ((I_7.bring 1).bring 1), g7X⟩ ?_
   rintro h5k τ_106 w next5 ⟨⟨a8p, D2⟩, H, rfl, d4b, I, g7Z⟩ hn5
   dsimp only at d4b I
   simp only [List.map_cons, List.map_nil, List.cons.injEq, and_true] at d4b
   have e7 := d4b
   simp only [e7]
   obtain ⟨n5, hm5, h⟩ : ∃ n5 : (Int × b6) → Hp → Prop, (∀ s' H', n5 s' H' → d4a s' H' ∧ c2e s' < c2e (a8p, D2)) ∧ S8 x1 a8p D2 H n5 K := ⟨_, fun _ _ h => h, g7Y (a8p, D2) H (fun s' H' => d4a s' H' ∧ c2e s' < c2e (a8p, D2)) g7Z (fun _ _ a b => ⟨a, b⟩)⟩
   unfold d7T
   unfold S8 at h
   refine a6 a0V ?_
   refine c5 (ld1 Tryd.isAgg28 ((I.bring 1).at1 (o := 2) (vs := [(vs x1.g5)]) (nb rfl) rfl)) ?_
   refine a6 (G2 _ _ _) ?_
   refine a6 (p6 _ _ _ _ _ _) ?_
   try simp only [o6]
   refine a6 (Pu.g fun hb => by have a7 := hb; first | exact (m1 _) | (simp only [a8 a7]; exact (m1 _)) | (simp only [b8 a7, a8 a7, a8 hb, d9 a7, h7]; exact (m1 _))) ?_
   refine a6 (Pu.g fun hb => by have a7 := hb; first | exact q7 | (simp only [a8 a7]; exact q7) | (simp only [b8 a7, a8 a7, a8 hb, d9 a7, h7]; exact q7)) ?_
   refine c5 (Ld.g fun hb => by have a7 := hb; first | exact (ld1 Tryd.isAgg4 (I.at1 (o := 0) (vs := [(Value.bool D2.fok)]) (nb rfl) rfl)) | (simp only [a8 a7]; exact (ld1 Tryd.isAgg4 (I.at1 (o := 0) (vs := [(Value.bool D2.fok)]) (nb rfl) rfl))) | (simp only [b8 a7, a8 a7, a8 hb, d9 a7, h7]; exact (ld1 Tryd.isAgg4 (I.at1 (o := 0) (vs := [(Value.bool D2.fok)]) (nb rfl) rfl)))) ?_
   refine a6 (p1 _ _) ?_
   refine m5 (fun d4c => ?_) (fun d4c => ?_)
   ·replace h := h.1 d4c
    refine a6 a0V ?_
    refine c5 (ld1 Tryd.isAgg28 ((I.bring 1).at1 (o := 2) (vs := [(vs x1.g5)]) (nb rfl) rfl)) ?_
    obtain ⟨h2N, h2O, d3X, e2j, h⟩ := h
    obtain ⟨h8J, h8K, h2P, e2j⟩ := e2j
    refine a6 (a2u h2P _ _ _ _ h2N h2O) ?_
    refine c5 (ldA (vs := (f6 d3X)) Tryd.isAgg30 Tryd.sizeOf30 rfl (I.atH e2j)) ?_
    refine f7 (cap := []) (fun args w => Tryd.call59 args w) ?_
    refine m2 (Fi := [bx g0 102 (f8 D2)]) (Fr := [bx g_2 33 (g7 x1)]) I (h g0) (fun h8L e2g h8M a4C h2Q h8N h8O h2R => ?_) (fun _ _ _ _ _ q => q.elim)
    obtain ⟨d3Y, rfl, rfl, h⟩ := h2R
    refine a6 (o4 _ _ _ _ _ _) ?_
    exact hn5 _ _ _ (hm5 _ _ h).2 ⟨((IntKind.wrap .i64 (a8p + 1)), d3Y), e2g, rfl, rfl, ((h2Q.bring 1).bring 1), (hm5 _ _ h).1⟩
   ·replace h := h.2 d4c
    exact hx3 _ _ (hj3 D2 H _ ((I.bring 1).bring 1) h)
  refine o3 fun j2 hx2 => ?_
  refine a6 b1i ?_
  refine c5 (ld1 Tryd.isAgg3 (I.at1 (o := 0) (vs := [(vi x1.c6)]) (nb rfl) rfl)) ?_
  refine a6 (c8 _ _ _ _ _ _) ?_
  refine g8 (fun d4d => ?_) (fun d4d => ?_)
  ·replace h := h.1 d4d
   refine a6 a2M ?_
   refine c5 (ld1 Tryd.isAgg3 (I.at1 (o := 1) (vs := [(vi x1.fOp)]) (nb rfl) rfl)) ?_
   refine a6 (a1p _ _ _ _ _ _) ?_
   refine a6 (Pu.g fun hb => by have a7 := hb; first | exact a2M | (simp only [b8 a7, a8 a7, a8 hb, r9 a7]; exact a2M) | (simp only [b8 a7, a8 a7, a8 hb, d9 a7, h7]; exact a2M)) ?_
   refine c5 (Ld.g fun hb => by have a7 := hb; first | exact (ld1 Tryd.isAgg3 (I.at1 (o := 1) (vs := [(vi x1.fOp)]) (nb rfl) rfl)) | (simp only [a8 a7]; exact (ld1 Tryd.isAgg3 (I.at1 (o := 1) (vs := [(vi x1.fOp)]) (nb rfl) rfl))) | (simp only [b8 a7, a8 a7, a8 hb, d9 a7, h7]; exact (ld1 Tryd.isAgg3 (I.at1 (o := 1) (vs := [(vi x1.fOp)]) (nb rfl) rfl)))) ?_
   refine a6 (Pu.g fun hb => by have a7 := hb; first | exact (a1o _ _ _ _ _ _) | (simp only [a8 a7]; exact (a1o _ _ _ _ _ _)) | (simp only [b8 a7, a8 a7, a8 hb, d9 a7, h7]; exact (a1o _ _ _ _ _ _))) ?_
   refine a6 (p1 _ _) ?_
   exact hx2 _ _ (hj2 ((decide (1 ≤ x1.fOp)) && (decide (x1.fOp ≤ 6))) H _ ((I.bring 1).bring 1) h)
  ·replace h := h.2 d4d
   exact hx2 _ _ (hj2 (decide (x1.fOp = 0)) H _ ((I.bring 1).bring 1) h)
 refine o3 fun j1 hx1 => ?_
 refine a6 b1i ?_
 refine c5 (ld1 Tryd.isAgg3 (I_4.at1 (o := 0) (vs := [(vi x1.c6)]) (nb rfl) rfl)) ?_
 have hj6 : ∀ (b8Z : Bool) (H : Hp) (w : World) (_ : Inv w0 ps0 H0 H [bx g_2 33 (g7 x1), bx g0 102 (f8 x0)] w) (_ : J3 0 0 x1.c6 b8Z x1 x0 H K), c8x (Value.pointer (some ⟨g0, 0, none⟩)) (Value.pointer (some ⟨g_2, 0, none⟩)) (vi 0) (vi 0) (vi x1.c6) (Value.bool b8Z) w j1 R E := by
  intro b8Z H w I h
  unfold c8x
  intro _
  unfold J3 at h
  refine m5 (fun d4e => ?_) (fun d4e => ?_)
  ·replace h := h.1 d4e
   exact hx1 _ _ (hj1 0 0 x0 H _ ((I.bring 1).bring 1) h)
  ·replace h := h.2 d4e
   refine a6 (c8 _ _ _ _ _ _) ?_
   refine g8 (fun d4f => ?_) (fun d4f => ?_)
   ·replace h := h.1 d4f
    exact hx1 _ _ (hj1 2 0 x0 H _ ((I.bring 1).bring 1) h)
   ·replace h := h.2 d4f
    refine a6 (c8 _ _ _ _ _ _) ?_
    refine g8 (fun a9h => ?_) (fun a9h => ?_)
    ·replace h := h.1 a9h
     exact hx1 _ _ (hj1 0 1 x0 H _ ((I.bring 1).bring 1) h)
    ·replace h := h.2 a9h
     have hj7 : ∀ (b8Y : Bool) (H : Hp) (w : World) (_ : Inv w0 ps0 H0 H [bx g_2 33 (g7 x1), bx g0 102 (f8 x0)] w) (_ : J2 0 0 b8Y x1 x0 H K), c8w (Value.pointer (some ⟨g0, 0, none⟩)) (Value.pointer (some ⟨g_2, 0, none⟩)) (vi 0) (vi 0) (Value.bool b8Y) w j1 R E := by
      intro b8Y H w I h
      unfold c8w
      intro _
      unfold J2 at h
      refine m5 (fun d4g => ?_) (fun d4g => ?_)
      ·replace h := h.1 d4g
       exact hx1 _ _ (hj1 0 2 x0 H _ ((I.bring 1).bring 1) h)
      ·replace h := h.2 d4g
       refine a6 (m1 _) ?_
       refine a6 q7 ?_
       refine u1 (I.bring 1) Tryd.sizeOf4 (vs := [(Value.bool false)]) (cs' := [(Value.bool false), (Value.bool x0.fnames)]) rfl rfl (nb rfl) rfl rfl fun a4p g8a h5l => ?_
       exact hx1 _ _ (hj1 0 0 (b6.mk false x0.fnames) H _ (g8a.bring 1) h)
     refine o3 fun j7 hx7 => ?_
     refine a6 (c8 _ _ _ _ _ _) ?_
     refine g8 (fun b6s => ?_) (fun b6s => ?_)
     ·replace h := h.1 b6s
      exact hx7 _ _ (hj7 (decide (x1.c6 = 5)) H _ ((I.bring 1).bring 1) h)
     ·replace h := h.2 b6s
      refine a6 (c8 _ _ _ _ _ _) ?_
      exact hx7 _ _ (hj7 (decide (x1.c6 = 6)) H _ ((I.bring 1).bring 1) h)
 refine o3 fun j6 hx6 => ?_
 refine a6 (c8 _ _ _ _ _ _) ?_
 refine g8 (fun d4h => ?_) (fun d4h => ?_)
 ·replace h := h.1 d4h
  exact hx6 _ _ (hj6 (decide (x1.c6 = 1)) H _ ((I_4.bring 1).bring 1) h)
 ·replace h := h.2 d4h
  refine a6 (c8 _ _ _ _ _ _) ?_
  exact hx6 _ _ (hj6 (decide (x1.c6 = 2)) H _ ((I_4.bring 1).bring 1) h)
theorem a9C (x0 : b6) (x1 : m8) {H : Hp} {K : b6 → Hp → Prop} (h : Y3 x0 x1 H K) : X0 x0 x1 H K := by
 intro g0 w I
 refine f8z ?_
 refine a9p x0 x1 g0 I (fun y0 H' w' I' hk => ⟨H', _, I', y0, rfl, rfl, hk⟩) h
def S9 (cr_1l5 : l9) (a8q : Int) (D2 : b6) (H : Hp) (n5 : (Int × b6) → Hp → Prop) (K : b6 → Hp → Prop) : Prop :=
 (((decide (a8q < (cr_1l5.y8.n : Int))) && D2.fok) = true →
 (0 : Int) ≤ a8q ∧ (a8q : Int) < cr_1l5.y8.n ∧ ∃ d4i : l9, EltH H cr_1l5.y8 a8q 6 (d8 d4i) ∧
 P7 D2 d4i H (fun (c8Y : b6) (e2k : Hp) =>
 n5 ((IntKind.wrap .i64 (a8q + 1)), c8Y) e2k)) ∧
 (((decide (a8q < (cr_1l5.y8.n : Int))) && D2.fok) = false →
 K D2 H)
def T0 (a7p : b6) (cr_1j4 : l9) (H : Hp) (K : b6 → Hp → Prop) : Prop :=
 TL ((0, a7p) : Int × b6) H fun (s : Int × b6) H n5 => S9 cr_1j4 s.1 s.2 H n5 K
def T1 (cr_1l6 : l9) (a8r : Int) (O2 : b6) (H : Hp) (n6 : (Int × b6) → Hp → Prop) (K : b6 → Hp → Prop) : Prop :=
 (((decide (a8r < (cr_1l6.A9.n : Int))) && O2.fok) = true →
 (0 : Int) ≤ a8r ∧ (a8r : Int) < cr_1l6.A9.n ∧ ∃ c5i : l9, EltH H cr_1l6.A9 a8r 6 (d8 c5i) ∧
 P7 O2 c5i H (fun (c8Z : b6) (d4j : Hp) =>
 n6 ((IntKind.wrap .i64 (a8r + 1)), c8Z) d4j)) ∧
 (((decide (a8r < (cr_1l6.A9.n : Int))) && O2.fok) = false →
 T0 O2 cr_1l6 H K)
def T2 (a1s : b6) (cr_1j3 : l9) (H : Hp) (K : b6 → Hp → Prop) : Prop :=
 TL ((0, a1s) : Int × b6) H fun (s : Int × b6) H n6 => T1 cr_1j3 s.1 s.2 H n6 K
def T3 (cr_1l7 : l9) (a8s : Int) (O3 : b6) (H : Hp) (n7 : (Int × b6) → Hp → Prop) (K : b6 → Hp → Prop) : Prop :=
 (((decide (a8s < (cr_1l7.g5.n : Int))) && O3.fok) = true →
 (0 : Int) ≤ a8s ∧ (a8s : Int) < cr_1l7.g5.n ∧ ∃ c5j : m7, EltH H cr_1l7.g5 a8s 4 (f6 c5j) ∧
 P6 O3 c5j H (fun (c9a : b6) (d4k : Hp) =>
 n7 ((IntKind.wrap .i64 (a8s + 1)), c9a) d4k)) ∧
 (((decide (a8s < (cr_1l7.g5.n : Int))) && O3.fok) = false →
 T2 O3 cr_1l7 H K)
def T4 (a5n : b6) (cr_1j2 : l9) (H : Hp) (K : b6 → Hp → Prop) : Prop :=
 TL ((0, a5n) : Int × b6) H fun (s : Int × b6) H n7 => T3 cr_1j2 s.1 s.2 H n7 K
def T5 (cr_1l8 : l9) (a8t : Int) (a4X : b6) (H : Hp) (n8 : (Int × b6) → Hp → Prop) (K : b6 → Hp → Prop) : Prop :=
 (((decide (a8t < (cr_1l8.m4.n : Int))) && a4X.fok) = true →
 (0 : Int) ≤ a8t ∧ (a8t : Int) < cr_1l8.m4.n ∧ ∃ c5k : m8, EltH H cr_1l8.m4 a8t 4 (g7 c5k) ∧
 X0 a4X c5k H (fun (c9b : b6) (d4l : Hp) =>
 n8 ((IntKind.wrap .i64 (a8t + 1)), c9b) d4l)) ∧
 (((decide (a8t < (cr_1l8.m4.n : Int))) && a4X.fok) = false →
 T4 a4X cr_1l8 H K)
def z7 (o9 : Int) (a0Q : Int) (cr_1j1 : l9) (K3 : b6) (H : Hp) (K : b6 → Hp → Prop) : Prop :=
 P5 K3 cr_1j1.f5 ((decide (cr_1j1.c6 = 1)) || (decide (cr_1j1.c6 = 2))) H (fun (M4 : b6) (H_6 : Hp) =>
 TL ((0, (b6.mk ((((M4.fok && (decide ((cr_1j1.g5.n : Int) = o9))) && (decide ((cr_1j1.m4.n : Int) = a0Q))) && (((decide ((cr_1j1.A9.n : Int) = 0)) || (decide (cr_1j1.c6 = 3))) || (decide (cr_1j1.c6 = 4)))) && ((decide ((cr_1j1.y8.n : Int) = 0)) || (decide (cr_1j1.c6 = 3)))) M4.fnames)) : Int × b6) H_6 fun (s : Int × b6) H n8 => T5 cr_1j1 s.1 s.2 H n8 K)
def C3 (e2l : Int) (g0o : Int) (e4d : Int) (b9a : Bool) (cr_1j9 : l9) (d4m : b6) (H : Hp) (K : b6 → Hp → Prop) : Prop :=
 (b9a = true →
 z7 e2l 1 cr_1j9 d4m H K) ∧
 (b9a = false →
 (e4d = 7 →
 z7 e2l g0o cr_1j9 d4m H K) ∧
 (¬ (e4d = 7) →
 z7 e2l g0o cr_1j9 (b6.mk false d4m.fnames) H K))
def Y4 (x0 : b6) (x1 : l9) (H : Hp) (K : b6 → Hp → Prop) : Prop :=
 (x1.c6 = 1 →
 z7 1 0 x1 x0 H K) ∧
 (¬ (x1.c6 = 1) →
 (x1.c6 = 2 →
 z7 2 0 x1 x0 H K) ∧
 (¬ (x1.c6 = 2) →
 (x1.c6 = 3 →
 C3 0 0 x1.c6 (decide (x1.c6 = 3)) x1 x0 H K) ∧
 (¬ (x1.c6 = 3) →
 (x1.c6 = 4 →
 C3 0 0 x1.c6 (decide (x1.c6 = 4)) x1 x0 H K) ∧
 (¬ (x1.c6 = 4) →
 (x1.c6 = 5 →
 C3 0 0 x1.c6 (decide (x1.c6 = 5)) x1 x0 H K) ∧
 (¬ (x1.c6 = 5) →
 C3 0 0 x1.c6 (decide (x1.c6 = 6)) x1 x0 H K)))))
theorem a9q (x0 : b6) (x1 : l9) (g0 : Nat) {w0 w : World} {ps0 : Nat → Prop} {H0 H : Hp} {K : b6 → Hp → Prop} {R : Value → World → Prop} {E : Pan} (I : Inv w0 ps0 H0 H [bx g0 102 (f8 x0)] w) (hR : ∀ (y0 : b6) (H' : Hp) (w' : World) (_ : Inv w0 ps0 H0 H' [bx g0 102 (f8 y0)] w') (_ : K y0 H'), R (Value.tuple #[]) w') (h : Y4 x0 x1 H K) : F65 (Value.pointer (some ⟨g0, 0, none⟩)) (Value.agg (d8 x1).toArray) w R E := by
 unfold Y4 at h
 unfold F65
 refine K2 I (cs := (d8 x1)) rfl fun g_2 w_3 I_4 k_5 => ?_
 have hj1 : ∀ (o9 : Int) (a0Q : Int) (K3 : b6) (H : Hp) (w : World) (_ : Inv w0 ps0 H0 H [bx g_2 88 (d8 x1), bx g0 102 (f8 K3)] w) (_ : z7 o9 a0Q x1 K3 H K), c8D (Value.pointer (some ⟨g0, 0, none⟩)) (Value.pointer (some ⟨g_2, 0, none⟩)) (vi o9) (vi a0Q) w R E := by
  intro o9 a0Q K3 H w I h
  unfold c8D
  intro _
  unfold z7 at h
  refine a6 a4P ?_
  refine c5 (ld1 Tryd.isAgg9 (I.at1 (o := 1) (vs := [(Value.string x1.f5)]) (nb rfl) rfl)) ?_
  refine a6 C1 ?_
  refine c5 (ld1 Tryd.isAgg3 (I.at1 (o := 0) (vs := [(vi x1.c6)]) (nb rfl) rfl)) ?_
  refine a6 (c8 _ _ _ _ _ _) ?_
  refine a6 (Pu.g fun hb => by have a7 := hb; first | exact C1 | (simp only [b8 a7, a8 a7, a8 hb, a4O a7]; exact C1) | (simp only [b8 a7, a8 a7, a8 hb, v8 a7, h7]; exact C1)) ?_
  refine c5 (Ld.g fun hb => by have a7 := hb; first | exact (ld1 Tryd.isAgg3 (I.at1 (o := 0) (vs := [(vi x1.c6)]) (nb rfl) rfl)) | (simp only [a8 a7]; exact (ld1 Tryd.isAgg3 (I.at1 (o := 0) (vs := [(vi x1.c6)]) (nb rfl) rfl))) | (simp only [b8 a7, a8 a7, a8 hb, v8 a7, h7]; exact (ld1 Tryd.isAgg3 (I.at1 (o := 0) (vs := [(vi x1.c6)]) (nb rfl) rfl)))) ?_
  refine a6 (Pu.g fun hb => by have a7 := hb; first | exact (c8 _ _ _ _ _ _) | (simp only [a8 a7]; exact (c8 _ _ _ _ _ _)) | (simp only [b8 a7, a8 a7, a8 hb, v8 a7, h7]; exact (c8 _ _ _ _ _ _))) ?_
  refine a6 (E6 _ _) ?_
  refine f7 (cap := []) (fun args w => Tryd.call64 args w) ?_
  refine m2 (Fi := [bx g0 102 (f8 K3)]) (Fr := [bx g_2 88 (d8 x1)]) (I.bring 1) (h g0) (fun a8X H_6 a8Y w_7 I_8 a8Z k_9 a1P => ?_) (fun _ _ _ _ _ q => q.elim)
  obtain ⟨M4, rfl, rfl, h⟩ := a1P
  refine a6 (m1 _) ?_
  refine a6 q7 ?_
  refine c5 (ld1 Tryd.isAgg4 (I_8.at1 (o := 0) (vs := [(Value.bool M4.fok)]) (nb rfl) rfl)) ?_
  refine a6 (Pu.g fun hb => by have a7 := hb; first | exact a0X | (simp only [b8 a7, a8 a7, a8 hb, r9 a7]; exact a0X) | (simp only [b8 a7, a8 a7, a8 hb, d9 a7, h7]; exact a0X)) ?_
  refine c5 (Ld.g fun hb => by have a7 := hb; first | exact (ld1 Tryd.isAgg28 ((I_8.bring 1).at1 (o := 2) (vs := [(vs x1.g5)]) (nb rfl) rfl)) | (simp only [a8 a7]; exact (ld1 Tryd.isAgg28 ((I_8.bring 1).at1 (o := 2) (vs := [(vs x1.g5)]) (nb rfl) rfl))) | (simp only [b8 a7, a8 a7, a8 hb, d9 a7, h7]; exact (ld1 Tryd.isAgg28 ((I_8.bring 1).at1 (o := 2) (vs := [(vs x1.g5)]) (nb rfl) rfl)))) ?_
  refine a6 (Pu.g fun hb => by have a7 := hb; first | exact (G2 _ _ _) | (simp only [a8 a7]; exact (G2 _ _ _)) | (simp only [b8 a7, a8 a7, a8 hb, d9 a7, h7]; exact (G2 _ _ _))) ?_
  try simp only [o6]
  refine a6 (Pu.g fun hb => by have a7 := hb; first | exact (c8 _ _ _ _ _ _) | (simp only [a8 a7]; exact (c8 _ _ _ _ _ _)) | (simp only [b8 a7, a8 a7, a8 hb, d9 a7, h7]; exact (c8 _ _ _ _ _ _))) ?_
  refine a6 (p1 _ _) ?_
  refine a6 (Pu.g fun hb => by have a7 := hb; first | exact a0Y | (simp only [b8 a7, a8 a7, a8 hb, r9 a7]; exact a0Y) | (simp only [b8 a7, a8 a7, a8 hb, d9 a7, h7]; exact a0Y)) ?_
  refine c5 (Ld.g fun hb => by have a7 := hb; first | exact (ld1 Tryd.isAgg31 ((I_8.bring 1).at1 (o := 3) (vs := [(vs x1.m4)]) (nb rfl) rfl)) | (simp only [a8 a7]; exact (ld1 Tryd.isAgg31 ((I_8.bring 1).at1 (o := 3) (vs := [(vs x1.m4)]) (nb rfl) rfl))) | (simp only [b8 a7, a8 a7, a8 hb, d9 a7, h7]; exact (ld1 Tryd.isAgg31 ((I_8.bring 1).at1 (o := 3) (vs := [(vs x1.m4)]) (nb rfl) rfl)))) ?_
  refine a6 (Pu.g fun hb => by have a7 := hb; first | exact (Q7 _ _ _) | (simp only [a8 a7]; exact (Q7 _ _ _)) | (simp only [b8 a7, a8 a7, a8 hb, d9 a7, h7]; exact (Q7 _ _ _))) ?_
  try simp only [o6]
  refine a6 (Pu.g fun hb => by have a7 := hb; first | exact (c8 _ _ _ _ _ _) | (simp only [a8 a7]; exact (c8 _ _ _ _ _ _)) | (simp only [b8 a7, a8 a7, a8 hb, d9 a7, h7]; exact (c8 _ _ _ _ _ _))) ?_
  refine a6 (p1 _ _) ?_
  refine a6 (Pu.g fun hb => by have a7 := hb; first | exact a1F | (simp only [b8 a7, a8 a7, a8 hb, r9 a7]; exact a1F) | (simp only [b8 a7, a8 a7, a8 hb, d9 a7, h7]; exact a1F)) ?_
  refine c5 (Ld.g fun hb => by have a7 := hb; first | exact (ld1 Tryd.isAgg23 ((I_8.bring 1).at1 (o := 4) (vs := [(vs x1.A9)]) (nb rfl) rfl)) | (simp only [a8 a7]; exact (ld1 Tryd.isAgg23 ((I_8.bring 1).at1 (o := 4) (vs := [(vs x1.A9)]) (nb rfl) rfl))) | (simp only [b8 a7, a8 a7, a8 hb, d9 a7, h7]; exact (ld1 Tryd.isAgg23 ((I_8.bring 1).at1 (o := 4) (vs := [(vs x1.A9)]) (nb rfl) rfl)))) ?_
  refine a6 (Pu.g fun hb => by have a7 := hb; first | exact (M5 _ _ _) | (simp only [a8 a7]; exact (M5 _ _ _)) | (simp only [b8 a7, a8 a7, a8 hb, d9 a7, h7]; exact (M5 _ _ _))) ?_
  refine a6 (Pu.g fun hb => by have a7 := hb; first | exact (c8 _ _ _ _ _ _) | (simp only [a8 a7]; exact (c8 _ _ _ _ _ _)) | (simp only [b8 a7, a8 a7, a8 hb, d9 a7, h7]; exact (c8 _ _ _ _ _ _))) ?_
  try simp only [o6, W3]
  refine a6 (Pu.e (a2Z _ _ _) (Pu.g fun hb => by obtain ⟨a7, m6⟩ := a4N hb; first | exact C1 | (simp only [b8 a7, a8 a7, b8 m6, a8 m6, a8 hb, h7]; exact C1) | (simp only [b8 a7, a8 a7, b8 m6, a8 m6, a8 hb, r9 hb]; exact C1) | (simp only [b8 a7, a8 a7, b8 m6, a8 m6, a8 hb, d9 hb, h7]; exact C1))) ?_
  refine c5 (Ld.e (a2Z _ _ _) (Ld.g fun hb => by obtain ⟨a7, m6⟩ := a4N hb; first | exact (ld1 Tryd.isAgg3 ((I_8.bring 1).at1 (o := 0) (vs := [(vi x1.c6)]) (nb rfl) rfl)) | (simp only [a8 hb]; exact (ld1 Tryd.isAgg3 ((I_8.bring 1).at1 (o := 0) (vs := [(vi x1.c6)]) (nb rfl) rfl))) | (simp only [b8 a7, a8 a7, b8 m6, a8 m6, a8 hb, r9 hb]; exact (ld1 Tryd.isAgg3 ((I_8.bring 1).at1 (o := 0) (vs := [(vi x1.c6)]) (nb rfl) rfl))) | (simp only [b8 a7, a8 a7, b8 m6, a8 m6, a8 hb, d9 hb, h7]; exact (ld1 Tryd.isAgg3 ((I_8.bring 1).at1 (o := 0) (vs := [(vi x1.c6)]) (nb rfl) rfl))))) ?_
  refine a6 (Pu.e (a2Z _ _ _) (Pu.g fun hb => by obtain ⟨a7, m6⟩ := a4N hb; first | exact (c8 _ _ _ _ _ _) | (simp only [a8 hb]; exact (c8 _ _ _ _ _ _)) | (simp only [b8 a7, a8 a7, b8 m6, a8 m6, a8 hb, r9 hb]; exact (c8 _ _ _ _ _ _)) | (simp only [b8 a7, a8 a7, b8 m6, a8 m6, a8 hb, d9 hb, h7]; exact (c8 _ _ _ _ _ _)))) ?_
  refine a6 (Pu.g fun hb => by have a7 := hb; first | exact (E6 _ _) | (simp only [a8 a7, r9 a7]; exact (E6 _ _)) | (simp only [a8 a7, d9 a7]; exact (E6 _ _))) ?_
  try simp only [W3]
  refine a6 (Pu.e (a2Z _ _ _) (Pu.g fun hb => by obtain ⟨a7, m6⟩ := a4N hb; first | exact C1 | (simp only [b8 a7, a8 a7, b8 m6, a8 m6, a8 hb, h7]; exact C1) | (simp only [b8 a7, a8 a7, b8 m6, a8 m6, a8 hb, r9 hb]; exact C1) | (simp only [b8 a7, a8 a7, b8 m6, a8 m6, a8 hb, d9 hb, h7]; exact C1))) ?_
  refine c5 (Ld.e (a2Z _ _ _) (Ld.g fun hb => by obtain ⟨a7, m6⟩ := a4N hb; first | exact (ld1 Tryd.isAgg3 ((I_8.bring 1).at1 (o := 0) (vs := [(vi x1.c6)]) (nb rfl) rfl)) | (simp only [a8 hb]; exact (ld1 Tryd.isAgg3 ((I_8.bring 1).at1 (o := 0) (vs := [(vi x1.c6)]) (nb rfl) rfl))) | (simp only [b8 a7, a8 a7, b8 m6, a8 m6, a8 hb, r9 hb]; exact (ld1 Tryd.isAgg3 ((I_8.bring 1).at1 (o := 0) (vs := [(vi x1.c6)]) (nb rfl) rfl))) | (simp only [b8 a7, a8 a7, b8 m6, a8 m6, a8 hb, d9 hb, h7]; exact (ld1 Tryd.isAgg3 ((I_8.bring 1).at1 (o := 0) (vs := [(vi x1.c6)]) (nb rfl) rfl))))) ?_
  refine a6 (Pu.e (a2Z _ _ _) (Pu.g fun hb => by obtain ⟨a7, m6⟩ := a4N hb; first | exact (c8 _ _ _ _ _ _) | (simp only [a8 hb]; exact (c8 _ _ _ _ _ _)) | (simp only [b8 a7, a8 a7, b8 m6, a8 m6, a8 hb, r9 hb]; exact (c8 _ _ _ _ _ _)) | (simp only [b8 a7, a8 a7, b8 m6, a8 m6, a8 hb, d9 hb, h7]; exact (c8 _ _ _ _ _ _)))) ?_
  refine a6 (Pu.g fun hb => by have a7 := hb; first | exact (E6 _ _) | (simp only [a8 a7, r9 a7]; exact (E6 _ _)) | (simp only [a8 a7, d9 a7]; exact (E6 _ _))) ?_
  refine a6 (p1 _ _) ?_
  refine a6 (Pu.g fun hb => by have a7 := hb; first | exact W5 | (simp only [b8 a7, a8 a7, a8 hb, r9 a7]; exact W5) | (simp only [b8 a7, a8 a7, a8 hb, d9 a7, h7]; exact W5)) ?_
  refine c5 (Ld.g fun hb => by have a7 := hb; first | exact (ld1 Tryd.isAgg23 ((I_8.bring 1).at1 (o := 5) (vs := [(vs x1.y8)]) (nb rfl) rfl)) | (simp only [a8 a7]; exact (ld1 Tryd.isAgg23 ((I_8.bring 1).at1 (o := 5) (vs := [(vs x1.y8)]) (nb rfl) rfl))) | (simp only [b8 a7, a8 a7, a8 hb, d9 a7, h7]; exact (ld1 Tryd.isAgg23 ((I_8.bring 1).at1 (o := 5) (vs := [(vs x1.y8)]) (nb rfl) rfl)))) ?_
  refine a6 (Pu.g fun hb => by have a7 := hb; first | exact (M5 _ _ _) | (simp only [a8 a7]; exact (M5 _ _ _)) | (simp only [b8 a7, a8 a7, a8 hb, d9 a7, h7]; exact (M5 _ _ _))) ?_
  refine a6 (Pu.g fun hb => by have a7 := hb; first | exact (c8 _ _ _ _ _ _) | (simp only [a8 a7]; exact (c8 _ _ _ _ _ _)) | (simp only [b8 a7, a8 a7, a8 hb, d9 a7, h7]; exact (c8 _ _ _ _ _ _))) ?_
  try simp only [o6, W3]
  refine a6 (Pu.e (a2Z _ _ _) (Pu.g fun hb => by obtain ⟨a7, m6⟩ := a4N hb; first | exact C1 | (simp only [b8 a7, a8 a7, b8 m6, a8 m6, a8 hb, h7]; exact C1) | (simp only [b8 a7, a8 a7, b8 m6, a8 m6, a8 hb, r9 hb]; exact C1) | (simp only [b8 a7, a8 a7, b8 m6, a8 m6, a8 hb, d9 hb, h7]; exact C1))) ?_
  refine c5 (Ld.e (a2Z _ _ _) (Ld.g fun hb => by obtain ⟨a7, m6⟩ := a4N hb; first | exact (ld1 Tryd.isAgg3 ((I_8.bring 1).at1 (o := 0) (vs := [(vi x1.c6)]) (nb rfl) rfl)) | (simp only [a8 hb]; exact (ld1 Tryd.isAgg3 ((I_8.bring 1).at1 (o := 0) (vs := [(vi x1.c6)]) (nb rfl) rfl))) | (simp only [b8 a7, a8 a7, b8 m6, a8 m6, a8 hb, r9 hb]; exact (ld1 Tryd.isAgg3 ((I_8.bring 1).at1 (o := 0) (vs := [(vi x1.c6)]) (nb rfl) rfl))) | (simp only [b8 a7, a8 a7, b8 m6, a8 m6, a8 hb, d9 hb, h7]; exact (ld1 Tryd.isAgg3 ((I_8.bring 1).at1 (o := 0) (vs := [(vi x1.c6)]) (nb rfl) rfl))))) ?_
  refine a6 (Pu.e (a2Z _ _ _) (Pu.g fun hb => by obtain ⟨a7, m6⟩ := a4N hb; first | exact (c8 _ _ _ _ _ _) | (simp only [a8 hb]; exact (c8 _ _ _ _ _ _)) | (simp only [b8 a7, a8 a7, b8 m6, a8 m6, a8 hb, r9 hb]; exact (c8 _ _ _ _ _ _)) | (simp only [b8 a7, a8 a7, b8 m6, a8 m6, a8 hb, d9 hb, h7]; exact (c8 _ _ _ _ _ _)))) ?_
  refine a6 (Pu.g fun hb => by have a7 := hb; first | exact (E6 _ _) | (simp only [a8 a7, r9 a7]; exact (E6 _ _)) | (simp only [a8 a7, d9 a7]; exact (E6 _ _))) ?_
  refine a6 (p1 _ _) ?_
  refine a6 (m1 _) ?_
  refine a6 q7 ?_
  refine u1 I_8 Tryd.sizeOf4 (vs := [(Value.bool ((((M4.fok && (decide ((x1.g5.n : Int) = o9))) && (decide ((x1.m4.n : Int) = a0Q))) && (((decide ((x1.A9.n : Int) = 0)) || (decide (x1.c6 = 3))) || (decide (x1.c6 = 4)))) && ((decide ((x1.y8.n : Int) = 0)) || (decide (x1.c6 = 3)))))]) (cs' := [(Value.bool ((((M4.fok && (decide ((x1.g5.n : Int) = o9))) && (decide ((x1.m4.n : Int) = a0Q))) && (((decide ((x1.A9.n : Int) = 0)) || (decide (x1.c6 = 3))) || (decide (x1.c6 = 4)))) && ((decide ((x1.y8.n : Int) = 0)) || (decide (x1.c6 = 3))))), (Value.bool M4.fnames)]) rfl rfl (nb rfl) rfl rfl fun a6u e2b h2C => ?_
  have hj2 : ∀ (a5n : b6) (H : Hp) (w : World) (_ : Inv w0 ps0 H0 H [bx g0 102 (f8 a5n), bx g_2 88 (d8 x1)] w) (_ : T4 a5n x1 H K), c8C (Value.pointer (some ⟨g0, 0, none⟩)) (Value.pointer (some ⟨g_2, 0, none⟩)) w R E := by
   intro a5n H w I h
   unfold c8C
   intro _
   unfold T4 at h
   have hj3 : ∀ (a1s : b6) (H : Hp) (w : World) (_ : Inv w0 ps0 H0 H [bx g0 102 (f8 a1s), bx g_2 88 (d8 x1)] w) (_ : T2 a1s x1 H K), c8B (Value.pointer (some ⟨g0, 0, none⟩)) (Value.pointer (some ⟨g_2, 0, none⟩)) w R E := by
    intro a1s H w I h
    unfold c8B
    intro _
    unfold T2 at h
    have hj4 : ∀ (a7p : b6) (H : Hp) (w : World) (_ : Inv w0 ps0 H0 H [bx g0 102 (f8 a7p), bx g_2 88 (d8 x1)] w) (_ : T0 a7p x1 H K), c8A (Value.pointer (some ⟨g0, 0, none⟩)) (Value.pointer (some ⟨g_2, 0, none⟩)) w R E := by
     intro a7p H w I h
     unfold c8A
     intro _
     unfold T0 at h
     obtain ⟨d4n, c2f, g8b, g8c⟩ := h
     refine t6 (J := fun n l w => ∃ (s : Int × b6) (H : Hp) , n = c2f s ∧ l = (match s with | (a8q, D2) => [(vi a8q)]) ∧ (match s with | (a8q, D2) => Inv w0 ps0 H0 H [bx g0 102 (f8 D2), bx g_2 88 (d8 x1)] w) ∧ d4n s H) ⟨_, (0, a7p), H, rfl, rfl, ((I.bring 1).bring 1), g8b⟩ ?_
     rintro h5m τ_113 w next5 ⟨⟨a8q, D2⟩, H, rfl, d4o, I, g8d⟩ hn5
     dsimp only at d4o I
     simp only [List.map_cons, List.map_nil, List.cons.injEq, and_true] at d4o
     have e9 := d4o
     simp only [e9]
     obtain ⟨n5, hm5, h⟩ : ∃ n5 : (Int × b6) → Hp → Prop, (∀ s' H', n5 s' H' → d4n s' H' ∧ c2f s' < c2f (a8q, D2)) ∧ S9 x1 a8q D2 H n5 K := ⟨_, fun _ _ h => h, g8c (a8q, D2) H (fun s' H' => d4n s' H' ∧ c2f s' < c2f (a8q, D2)) g8d (fun _ _ a b => ⟨a, b⟩)⟩
     unfold d7U
     unfold S9 at h
     refine a6 W5 ?_
     refine c5 (ld1 Tryd.isAgg23 ((I.bring 1).at1 (o := 5) (vs := [(vs x1.y8)]) (nb rfl) rfl)) ?_
     refine a6 (M5 _ _ _) ?_
     refine a6 (p6 _ _ _ _ _ _) ?_
     try simp only [o6]
     refine a6 (Pu.g fun hb => by have a7 := hb; first | exact (m1 _) | (simp only [a8 a7]; exact (m1 _)) | (simp only [b8 a7, a8 a7, a8 hb, d9 a7, h7]; exact (m1 _))) ?_
     refine a6 (Pu.g fun hb => by have a7 := hb; first | exact q7 | (simp only [a8 a7]; exact q7) | (simp only [b8 a7, a8 a7, a8 hb, d9 a7, h7]; exact q7)) ?_
     refine c5 (Ld.g fun hb => by have a7 := hb; first | exact (ld1 Tryd.isAgg4 (I.at1 (o := 0) (vs := [(Value.bool D2.fok)]) (nb rfl) rfl)) | (simp only [a8 a7]; exact (ld1 Tryd.isAgg4 (I.at1 (o := 0) (vs := [(Value.bool D2.fok)]) (nb rfl) rfl))) | (simp only [b8 a7, a8 a7, a8 hb, d9 a7, h7]; exact (ld1 Tryd.isAgg4 (I.at1 (o := 0) (vs := [(Value.bool D2.fok)]) (nb rfl) rfl)))) ?_
     refine a6 (p1 _ _) ?_
     refine m5 (fun d4p => ?_) (fun d4p => ?_)
     ·replace h := h.1 d4p
      refine a6 W5 ?_
      refine c5 (ld1 Tryd.isAgg23 ((I.bring 1).at1 (o := 5) (vs := [(vs x1.y8)]) (nb rfl) rfl)) ?_
      obtain ⟨b5M, c7O, d4i, c9c, h⟩ := h
      obtain ⟨h8P, h8Q, b6k, c9c⟩ := c9c
      refine a6 (a5J b6k _ _ _ _ b5M c7O) ?_
      refine c5 (ldA (vs := (d8 d4i)) Tryd.isAgg88 Tryd.sizeOf88 rfl (I.atH c9c)) ?_
      refine f7 (cap := []) (fun args w => Tryd.call65 args w) ?_
      refine m2 (Fi := [bx g0 102 (f8 D2)]) (Fr := [bx g_2 88 (d8 x1)]) I (h g0) (fun h5n e2k h5o d4q g8e e3P h5p g8f => ?_) (fun _ _ _ _ _ q => q.elim)
      obtain ⟨c8Y, rfl, rfl, h⟩ := g8f
      refine a6 (o4 _ _ _ _ _ _) ?_
      exact hn5 _ _ _ (hm5 _ _ h).2 ⟨((IntKind.wrap .i64 (a8q + 1)), c8Y), e2k, rfl, rfl, ((g8e.bring 1).bring 1), (hm5 _ _ h).1⟩
     ·replace h := h.2 d4p
      exact hR D2 H _ (I.bring 1).drop h
    refine o3 fun j4 hx4 => ?_
    obtain ⟨d4r, c2g, g8g, g8h⟩ := h
    refine t6 (J := fun n l w => ∃ (s : Int × b6) (H : Hp) , n = c2g s ∧ l = (match s with | (a8r, O2) => [(vi a8r)]) ∧ (match s with | (a8r, O2) => Inv w0 ps0 H0 H [bx g0 102 (f8 O2), bx g_2 88 (d8 x1)] w) ∧ d4r s H) ⟨_, (0, a1s), H, rfl, rfl, ((I.bring 1).bring 1), g8g⟩ ?_
    rintro h5q τ_147 w next6 ⟨⟨a8r, O2⟩, H, rfl, d4s, I, g8i⟩ hn6
    dsimp only at d4s I
    simp only [List.map_cons, List.map_nil, List.cons.injEq, and_true] at d4s
    have e8 := d4s
    simp only [e8]
    obtain ⟨n6, hm6, h⟩ : ∃ n6 : (Int × b6) → Hp → Prop, (∀ s' H', n6 s' H' → d4r s' H' ∧ c2g s' < c2g (a8r, O2)) ∧ T1 x1 a8r O2 H n6 K := ⟨_, fun _ _ h => h, g8h (a8r, O2) H (fun s' H' => d4r s' H' ∧ c2g s' < c2g (a8r, O2)) g8i (fun _ _ a b => ⟨a, b⟩)⟩
    unfold d7V
    unfold T1 at h
    refine a6 a1F ?_
    refine c5 (ld1 Tryd.isAgg23 ((I.bring 1).at1 (o := 4) (vs := [(vs x1.A9)]) (nb rfl) rfl)) ?_
    refine a6 (M5 _ _ _) ?_
    refine a6 (p6 _ _ _ _ _ _) ?_
    try simp only [o6]
    refine a6 (Pu.g fun hb => by have a7 := hb; first | exact (m1 _) | (simp only [a8 a7]; exact (m1 _)) | (simp only [b8 a7, a8 a7, a8 hb, d9 a7, h7]; exact (m1 _))) ?_
    refine a6 (Pu.g fun hb => by have a7 := hb; first | exact q7 | (simp only [a8 a7]; exact q7) | (simp only [b8 a7, a8 a7, a8 hb, d9 a7, h7]; exact q7)) ?_
    refine c5 (Ld.g fun hb => by have a7 := hb; first | exact (ld1 Tryd.isAgg4 (I.at1 (o := 0) (vs := [(Value.bool O2.fok)]) (nb rfl) rfl)) | (simp only [a8 a7]; exact (ld1 Tryd.isAgg4 (I.at1 (o := 0) (vs := [(Value.bool O2.fok)]) (nb rfl) rfl))) | (simp only [b8 a7, a8 a7, a8 hb, d9 a7, h7]; exact (ld1 Tryd.isAgg4 (I.at1 (o := 0) (vs := [(Value.bool O2.fok)]) (nb rfl) rfl)))) ?_
    refine a6 (p1 _ _) ?_
    refine m5 (fun d4t => ?_) (fun d4t => ?_)
    ·replace h := h.1 d4t
     refine a6 a1F ?_
     refine c5 (ld1 Tryd.isAgg23 ((I.bring 1).at1 (o := 4) (vs := [(vs x1.A9)]) (nb rfl) rfl)) ?_
     obtain ⟨c1J, g8j, c5i, d4u, h⟩ := h
     obtain ⟨h5r, h5s, g8k, d4u⟩ := d4u
     refine a6 (a5J g8k _ _ _ _ c1J g8j) ?_
     refine c5 (ldA (vs := (d8 c5i)) Tryd.isAgg88 Tryd.sizeOf88 rfl (I.atH d4u)) ?_
     refine f7 (cap := []) (fun args w => Tryd.call65 args w) ?_
     refine m2 (Fi := [bx g0 102 (f8 O2)]) (Fr := [bx g_2 88 (d8 x1)]) I (h g0) (fun h5t d4j h5u h5v g8l h5w h5x g8m => ?_) (fun _ _ _ _ _ q => q.elim)
     obtain ⟨c8Z, rfl, rfl, h⟩ := g8m
     refine a6 (o4 _ _ _ _ _ _) ?_
     exact hn6 _ _ _ (hm6 _ _ h).2 ⟨((IntKind.wrap .i64 (a8r + 1)), c8Z), d4j, rfl, rfl, ((g8l.bring 1).bring 1), (hm6 _ _ h).1⟩
    ·replace h := h.2 d4t
     exact hx4 _ _ (hj4 O2 H _ ((I.bring 1).bring 1) h)
   refine o3 fun j3 hx3 => ?_
   obtain ⟨d4v, c2h, g8n, g8o⟩ := h
   refine t6 (J := fun n l w => ∃ (s : Int × b6) (H : Hp) , n = c2h s ∧ l = (match s with | (a8s, O3) => [(vi a8s)]) ∧ (match s with | (a8s, O3) => Inv w0 ps0 H0 H [bx g0 102 (f8 O3), bx g_2 88 (d8 x1)] w) ∧ d4v s H) ⟨_, (0, a5n), H, rfl, rfl, ((I.bring 1).bring 1), g8n⟩ ?_
   rintro h5y τ_181 w next7 ⟨⟨a8s, O3⟩, H, rfl, d4w, I, g8p⟩ hn7
   dsimp only at d4w I
   simp only [List.map_cons, List.map_nil, List.cons.injEq, and_true] at d4w
   have e7 := d4w
   simp only [e7]
   obtain ⟨n7, hm7, h⟩ : ∃ n7 : (Int × b6) → Hp → Prop, (∀ s' H', n7 s' H' → d4v s' H' ∧ c2h s' < c2h (a8s, O3)) ∧ T3 x1 a8s O3 H n7 K := ⟨_, fun _ _ h => h, g8o (a8s, O3) H (fun s' H' => d4v s' H' ∧ c2h s' < c2h (a8s, O3)) g8p (fun _ _ a b => ⟨a, b⟩)⟩
   unfold d7W
   unfold T3 at h
   refine a6 a0X ?_
   refine c5 (ld1 Tryd.isAgg28 ((I.bring 1).at1 (o := 2) (vs := [(vs x1.g5)]) (nb rfl) rfl)) ?_
   refine a6 (G2 _ _ _) ?_
   refine a6 (p6 _ _ _ _ _ _) ?_
   try simp only [o6]
   refine a6 (Pu.g fun hb => by have a7 := hb; first | exact (m1 _) | (simp only [a8 a7]; exact (m1 _)) | (simp only [b8 a7, a8 a7, a8 hb, d9 a7, h7]; exact (m1 _))) ?_
   refine a6 (Pu.g fun hb => by have a7 := hb; first | exact q7 | (simp only [a8 a7]; exact q7) | (simp only [b8 a7, a8 a7, a8 hb, d9 a7, h7]; exact q7)) ?_
   refine c5 (Ld.g fun hb => by have a7 := hb; first | exact (ld1 Tryd.isAgg4 (I.at1 (o := 0) (vs := [(Value.bool O3.fok)]) (nb rfl) rfl)) | (simp only [a8 a7]; exact (ld1 Tryd.isAgg4 (I.at1 (o := 0) (vs := [(Value.bool O3.fok)]) (nb rfl) rfl))) | (simp only [b8 a7, a8 a7, a8 hb, d9 a7, h7]; exact (ld1 Tryd.isAgg4 (I.at1 (o := 0) (vs := [(Value.bool O3.fok)]) (nb rfl) rfl)))) ?_
   refine a6 (p1 _ _) ?_
   refine m5 (fun d4x => ?_) (fun d4x => ?_)
   ·replace h := h.1 d4x
    refine a6 a0X ?_
    refine c5 (ld1 Tryd.isAgg28 ((I.bring 1).at1 (o := 2) (vs := [(vs x1.g5)]) (nb rfl) rfl)) ?_
    obtain ⟨c1L, g8q, c5j, d4y, h⟩ := h
    obtain ⟨h5z, h5A, g8r, d4y⟩ := d4y
    refine a6 (a2u g8r _ _ _ _ c1L g8q) ?_
    refine c5 (ldA (vs := (f6 c5j)) Tryd.isAgg30 Tryd.sizeOf30 rfl (I.atH d4y)) ?_
    refine f7 (cap := []) (fun args w => Tryd.call59 args w) ?_
    refine m2 (Fi := [bx g0 102 (f8 O3)]) (Fr := [bx g_2 88 (d8 x1)]) I (h g0) (fun h5B d4k h5C h5D g8s h5E h5F g8t => ?_) (fun _ _ _ _ _ q => q.elim)
    obtain ⟨c9a, rfl, rfl, h⟩ := g8t
    refine a6 (o4 _ _ _ _ _ _) ?_
    exact hn7 _ _ _ (hm7 _ _ h).2 ⟨((IntKind.wrap .i64 (a8s + 1)), c9a), d4k, rfl, rfl, ((g8s.bring 1).bring 1), (hm7 _ _ h).1⟩
   ·replace h := h.2 d4x
    exact hx3 _ _ (hj3 O3 H _ ((I.bring 1).bring 1) h)
  refine o3 fun j2 hx2 => ?_
  obtain ⟨d4z, c2i, g8u, g8v⟩ := h
  refine t6 (J := fun n l w => ∃ (s : Int × b6) (H : Hp) , n = c2i s ∧ l = (match s with | (a8t, a4X) => [(vi a8t)]) ∧ (match s with | (a8t, a4X) => Inv w0 ps0 H0 H [bx g0 102 (f8 a4X), bx g_2 88 (d8 x1)] w) ∧ d4z s H) ⟨_, (0, (b6.mk ((((M4.fok && (decide ((x1.g5.n : Int) = o9))) && (decide ((x1.m4.n : Int) = a0Q))) && (((decide ((x1.A9.n : Int) = 0)) || (decide (x1.c6 = 3))) || (decide (x1.c6 = 4)))) && ((decide ((x1.y8.n : Int) = 0)) || (decide (x1.c6 = 3)))) M4.fnames)), H_6, rfl, rfl, ((e2b.bring 1).bring 1), g8u⟩ ?_
  rintro h5G τ_215 w next8 ⟨⟨a8t, a4X⟩, H, rfl, d4A, I, g8w⟩ hn8
  dsimp only at d4A I
  simp only [List.map_cons, List.map_nil, List.cons.injEq, and_true] at d4A
  have e6 := d4A
  simp only [e6]
  obtain ⟨n8, hm8, h⟩ : ∃ n8 : (Int × b6) → Hp → Prop, (∀ s' H', n8 s' H' → d4z s' H' ∧ c2i s' < c2i (a8t, a4X)) ∧ T5 x1 a8t a4X H n8 K := ⟨_, fun _ _ h => h, g8v (a8t, a4X) H (fun s' H' => d4z s' H' ∧ c2i s' < c2i (a8t, a4X)) g8w (fun _ _ a b => ⟨a, b⟩)⟩
  unfold d7X
  unfold T5 at h
  refine a6 a0Y ?_
  refine c5 (ld1 Tryd.isAgg31 ((I.bring 1).at1 (o := 3) (vs := [(vs x1.m4)]) (nb rfl) rfl)) ?_
  refine a6 (Q7 _ _ _) ?_
  refine a6 (p6 _ _ _ _ _ _) ?_
  try simp only [o6]
  refine a6 (Pu.g fun hb => by have a7 := hb; first | exact (m1 _) | (simp only [a8 a7]; exact (m1 _)) | (simp only [b8 a7, a8 a7, a8 hb, d9 a7, h7]; exact (m1 _))) ?_
  refine a6 (Pu.g fun hb => by have a7 := hb; first | exact q7 | (simp only [a8 a7]; exact q7) | (simp only [b8 a7, a8 a7, a8 hb, d9 a7, h7]; exact q7)) ?_
  refine c5 (Ld.g fun hb => by have a7 := hb; first | exact (ld1 Tryd.isAgg4 (I.at1 (o := 0) (vs := [(Value.bool a4X.fok)]) (nb rfl) rfl)) | (simp only [a8 a7]; exact (ld1 Tryd.isAgg4 (I.at1 (o := 0) (vs := [(Value.bool a4X.fok)]) (nb rfl) rfl))) | (simp only [b8 a7, a8 a7, a8 hb, d9 a7, h7]; exact (ld1 Tryd.isAgg4 (I.at1 (o := 0) (vs := [(Value.bool a4X.fok)]) (nb rfl) rfl)))) ?_
  refine a6 (p1 _ _) ?_
  refine m5 (fun d4B => ?_) (fun d4B => ?_)
  ·replace h := h.1 d4B
   refine a6 a0Y ?_
   refine c5 (ld1 Tryd.isAgg31 ((I.bring 1).at1 (o := 3) (vs := [(vs x1.m4)]) (nb rfl) rfl)) ?_
   obtain ⟨c1N, g8x, c5k, d4C, h⟩ := h
   obtain ⟨h5H, h5I, g8y, d4C⟩ := d4C
   refine a6 (a5I g8y _ _ _ _ c1N g8x) ?_
   refine c5 (ldA (vs := (g7 c5k)) Tryd.isAgg33 Tryd.sizeOf33 rfl (I.atH d4C)) ?_
   refine f7 (cap := []) (fun args w => Tryd.call62 args w) ?_
   refine m2 (Fi := [bx g0 102 (f8 a4X)]) (Fr := [bx g_2 88 (d8 x1)]) I (h g0) (fun h5J d4l h5K h5L g8z h5M h5N g8A => ?_) (fun _ _ _ _ _ q => q.elim)
   obtain ⟨c9b, rfl, rfl, h⟩ := g8A
   refine a6 (o4 _ _ _ _ _ _) ?_
   exact hn8 _ _ _ (hm8 _ _ h).2 ⟨((IntKind.wrap .i64 (a8t + 1)), c9b), d4l, rfl, rfl, ((g8z.bring 1).bring 1), (hm8 _ _ h).1⟩
  ·replace h := h.2 d4B
   exact hx2 _ _ (hj2 a4X H _ ((I.bring 1).bring 1) h)
 refine o3 fun j1 hx1 => ?_
 refine a6 C1 ?_
 refine c5 (ld1 Tryd.isAgg3 (I_4.at1 (o := 0) (vs := [(vi x1.c6)]) (nb rfl) rfl)) ?_
 refine a6 (c8 _ _ _ _ _ _) ?_
 refine g8 (fun d4D => ?_) (fun d4D => ?_)
 ·replace h := h.1 d4D
  exact hx1 _ _ (hj1 1 0 x0 H _ ((I_4.bring 1).bring 1) h)
 ·replace h := h.2 d4D
  refine a6 (c8 _ _ _ _ _ _) ?_
  refine g8 (fun d4E => ?_) (fun d4E => ?_)
  ·replace h := h.1 d4E
   exact hx1 _ _ (hj1 2 0 x0 H _ ((I_4.bring 1).bring 1) h)
  ·replace h := h.2 d4E
   have hj9 : ∀ (b9a : Bool) (H : Hp) (w : World) (_ : Inv w0 ps0 H0 H [bx g_2 88 (d8 x1), bx g0 102 (f8 x0)] w) (_ : C3 0 0 x1.c6 b9a x1 x0 H K), c8G (Value.pointer (some ⟨g0, 0, none⟩)) (Value.pointer (some ⟨g_2, 0, none⟩)) (vi 0) (vi 0) (vi x1.c6) (Value.bool b9a) w j1 R E := by
    intro b9a H w I h
    unfold c8G
    intro _
    unfold C3 at h
    refine m5 (fun d4F => ?_) (fun d4F => ?_)
    ·replace h := h.1 d4F
     exact hx1 _ _ (hj1 0 1 x0 H _ ((I.bring 1).bring 1) h)
    ·replace h := h.2 d4F
     refine a6 (c8 _ _ _ _ _ _) ?_
     refine g8 (fun d4G => ?_) (fun d4G => ?_)
     ·replace h := h.1 d4G
      exact hx1 _ _ (hj1 0 0 x0 H _ ((I.bring 1).bring 1) h)
     ·replace h := h.2 d4G
      refine a6 (m1 _) ?_
      refine a6 q7 ?_
      refine u1 (I.bring 1) Tryd.sizeOf4 (vs := [(Value.bool false)]) (cs' := [(Value.bool false), (Value.bool x0.fnames)]) rfl rfl (nb rfl) rfl rfl fun e3S g8B h5O => ?_
      exact hx1 _ _ (hj1 0 0 (b6.mk false x0.fnames) H _ (g8B.bring 1) h)
   refine o3 fun j9 hx9 => ?_
   refine a6 (c8 _ _ _ _ _ _) ?_
   refine g8 (fun d4H => ?_) (fun d4H => ?_)
   ·replace h := h.1 d4H
    exact hx9 _ _ (hj9 (decide (x1.c6 = 3)) H _ ((I_4.bring 1).bring 1) h)
   ·replace h := h.2 d4H
    refine a6 (c8 _ _ _ _ _ _) ?_
    refine g8 (fun d4I => ?_) (fun d4I => ?_)
    ·replace h := h.1 d4I
     exact hx9 _ _ (hj9 (decide (x1.c6 = 4)) H _ ((I_4.bring 1).bring 1) h)
    ·replace h := h.2 d4I
     refine a6 (c8 _ _ _ _ _ _) ?_
     refine g8 (fun d4J => ?_) (fun d4J => ?_)
     ·replace h := h.1 d4J
      exact hx9 _ _ (hj9 (decide (x1.c6 = 5)) H _ ((I_4.bring 1).bring 1) h)
     ·replace h := h.2 d4J
      refine a6 (c8 _ _ _ _ _ _) ?_
      exact hx9 _ _ (hj9 (decide (x1.c6 = 6)) H _ ((I_4.bring 1).bring 1) h)
theorem a9D (x0 : b6) (x1 : l9) {H : Hp} {K : b6 → Hp → Prop} (h : Y4 x0 x1 H K) : P7 x0 x1 H K := by
 intro g0 w I
 refine f9g ?_
 refine a9q x0 x1 g0 I (fun y0 H' w' I' hk => ⟨H', _, I', y0, rfl, rfl, hk⟩) h
def a0i (cr_23j2 : b6) (_cr_15j2 : b7) (_cr_1j2 : i7) (H : Hp) (K : Int → Hp → Prop) : Prop :=
 a2f cr_23j2 H (fun (d4K : Int) (e2m : Hp) =>
 K d4K e2m)
def a0j (cr_15l3 : b7) (cr_1l3 : i7) (M0 : Int) (cr_23l3 : b6) (H : Hp) (n3 : (Int × b6) → Hp → Prop) (K : Int → Hp → Prop) : Prop :=
 (((decide (M0 < (cr_1l3.Z8.n : Int))) && cr_23l3.fok) = true →
 (0 : Int) ≤ M0 ∧ (M0 : Int) < cr_1l3.Z8.n ∧ ∃ d4L : l9, EltH H cr_1l3.Z8 M0 6 (d8 d4L) ∧
 P7 cr_23l3 d4L H (fun (c9d : b6) (d4M : Hp) =>
 n3 ((IntKind.wrap .i64 (M0 + 1)), c9d) d4M)) ∧
 (((decide (M0 < (cr_1l3.Z8.n : Int))) && cr_23l3.fok) = false →
 a0i cr_23l3 cr_15l3 cr_1l3 H K)
def a0k (cr_23j1 : b6) (cr_15j1 : b7) (cr_1j1 : i7) (H : Hp) (K : Int → Hp → Prop) : Prop :=
 TL ((0, cr_23j1) : Int × b6) H fun (s : Int × b6) H n3 => a0j cr_15j1 cr_1j1 s.1 s.2 H n3 K
def a0l (cr_15l4 : b7) (cr_1l4 : i7) (K9 : Int) (cr_23l4 : b6) (H : Hp) (n4 : (Int × b6) → Hp → Prop) (K : Int → Hp → Prop) : Prop :=
 (K9 < (cr_1l4.s8.n : Int) →
 ∃ b0B : i4, (cr_23l4.fok = true → (0 : Int) ≤ K9 ∧ (K9 : Int) < cr_1l4.s8.n ∧ EltH H cr_1l4.s8 K9 2 (g9 b0B)) ∧
 ∃ b1y : i4, ((cr_23l4.fok && (decide (0 ≤ b0B.A5))) = true → (0 : Int) ≤ K9 ∧ (K9 : Int) < cr_1l4.s8.n ∧ EltH H cr_1l4.s8 K9 2 (g9 b1y)) ∧
 (0 : Int) ≤ K9 ∧ (K9 : Int) < cr_1l4.s8.n ∧ ∃ c5l : i4, EltH H cr_1l4.s8 K9 2 (g9 c5l) ∧
 P5 (b6.mk ((cr_23l4.fok && (decide (0 ≤ b0B.A5))) && (decide (b1y.A5 ≤ 2147483647))) cr_23l4.fnames) c5l.f5 true H (fun (c9e : b6) (d4N : Hp) =>
 n4 ((IntKind.wrap .i64 (K9 + 1)), c9e) d4N)) ∧
 (¬ (K9 < (cr_1l4.s8.n : Int)) →
 a0k cr_23l4 cr_15l4 cr_1l4 H K)
def a1w (x0 : i7) (H : Hp) (K : Int → Hp → Prop) : Prop :=
 a3p x0 H (fun (u4 : b7) (H_6 : Hp) =>
 (¬ (u4.fbad = 0) →
 K u4.fbad H_6) ∧
 (u4.fbad = 0 →
 TL ((0, (b6.mk true true)) : Int × b6) H_6 fun (s : Int × b6) H n4 => a0l u4 x0 s.1 s.2 H n4 K))
theorem b0W (x0 : i7) {w0 w : World} {ps0 : Nat → Prop} {H0 H : Hp} {K : Int → Hp → Prop} {R : Value → World → Prop} {E : Pan} (I : Inv w0 ps0 H0 H [] w) (hR : ∀ (r0 : Int) (H' : Hp) (w' : World) (_ : Inv w0 ps0 H0 H' [] w') (_ : K r0 H'), R (vi r0) w') (h : a1w x0 H K) : F23 (Value.agg (d5 x0).toArray) w R E := by
 unfold a1w at h
 unfold F23
 refine K2 I (cs := (d5 x0)) rfl fun g_2 w_3 I_4 k_5 => ?_
 refine c5 (ldA Tryd.isAgg25 Tryd.sizeOf25 rfl (I_4.at1 (o := 0) (vs := (d5 x0)) (nb rfl) rfl)) ?_
 refine f7 (cap := []) (fun args w => Tryd.call63 args w) ?_
 refine m2 (Fi := []) (Fr := [bx g_2 25 (d5 x0)]) I_4 (h) (fun a8X H_6 a8Y w_7 I_8 a8Z k_9 a1P => ?_) (fun _ _ _ _ _ q => q.elim)
 obtain ⟨u4, rfl, rfl, h⟩ := a1P
 refine L8 I_8 Tryd.zeroValue99 (cs := [(vi 0), (vi 0), (vi 0)]) rfl fun b6t a5M a5X c7f => ?_
 refine u1 a5X Tryd.sizeOf99 (vs := (d7 u4)) (cs' := (d7 u4)) rfl rfl (nb rfl) rfl rfl fun p7 a5A b7S => ?_
 refine a6 y6 ?_
 refine c5 (ld1 Tryd.isAgg3 (a5A.at1 (o := 2) (vs := [(vi u4.fbad)]) (nb rfl) rfl)) ?_
 refine a6 (B8 _ _ _ _ _ _) ?_
 refine a3Y (fun d4O => ?_) (fun d4O => ?_)
 ·replace h := h.1 d4O
  refine a6 y6 ?_
  refine c5 (ld1 Tryd.isAgg3 (a5A.at1 (o := 2) (vs := [(vi u4.fbad)]) (nb rfl) rfl)) ?_
  exact hR u4.fbad H_6 _ a5A.drop.drop h
 ·replace h := h.2 d4O
  refine a6 (c2R _ _) ?_
  refine L8 a5A Tryd.zeroValue102 (cs := [(Value.bool false), (Value.bool false)]) rfl fun b3m a9N d4P h2S => ?_
  refine u1 d4P Tryd.sizeOf102 (vs := [(Value.bool true), (Value.bool true)]) (cs' := [(Value.bool true), (Value.bool true)]) rfl rfl (nb rfl) rfl rfl fun y7 e2n h2T => ?_
  have hj1 : ∀ (cr_23j1 : b6) (H : Hp) (w : World) (_ : Inv w0 ps0 H0 H [bx b3m 102 (f8 cr_23j1), bx b6t 99 (d7 u4), bx g_2 25 (d5 x0)] w) (_ : a0k cr_23j1 u4 x0 H K), c8f (Value.pointer (some ⟨g_2, 0, none⟩)) (Value.pointer (some ⟨b3m, 0, none⟩)) w R E := by
   intro cr_23j1 H w I h
   unfold c8f
   intro _
   unfold a0k at h
   have hj2 : ∀ (cr_23j2 : b6) (H : Hp) (w : World) (_ : Inv w0 ps0 H0 H [bx b3m 102 (f8 cr_23j2), bx b6t 99 (d7 u4), bx g_2 25 (d5 x0)] w) (_ : a0i cr_23j2 u4 x0 H K), c8a (Value.pointer (some ⟨b3m, 0, none⟩)) w R E := by
    intro cr_23j2 H w I h
    unfold c8a
    intro _
    unfold a0i at h
    refine c5 (ldA Tryd.isAgg102 Tryd.sizeOf102 rfl (I.at1 (o := 0) (vs := (f8 cr_23j2)) (nb rfl) rfl)) ?_
    refine f7 (cap := []) (fun args w => Tryd.call60 args w) ?_
    refine m2 (Fi := []) (Fr := [bx b3m 102 (f8 cr_23j2), bx b6t 99 (d7 u4), bx g_2 25 (d5 x0)]) I (h) (fun h8R e2m h8S h2U b8j d4Q h8T h2V => ?_) (fun _ _ _ _ _ q => q.elim)
    obtain ⟨d4K, rfl, rfl, h⟩ := h2V
    exact hR d4K e2m _ b8j.drop.drop.drop h
   refine o3 fun j2 hx2 => ?_
   obtain ⟨d4R, c2j, g8C, g8D⟩ := h
   refine t6 (J := fun n l w => ∃ (s : Int × b6) (H : Hp) , n = c2j s ∧ l = (match s with | (M0, cr_23l3) => [(vi M0)]) ∧ (match s with | (M0, cr_23l3) => Inv w0 ps0 H0 H [bx b3m 102 (f8 cr_23l3), bx b6t 99 (d7 u4), bx g_2 25 (d5 x0)] w) ∧ d4R s H) ⟨_, (0, cr_23j1), H, rfl, rfl, (((I.bring 2).bring 2).bring 2), g8C⟩ ?_
   rintro h5P τ_120 w next3 ⟨⟨M0, cr_23l3⟩, H, rfl, d4S, I, g8E⟩ hn3
   dsimp only at d4S I
   simp only [List.map_cons, List.map_nil, List.cons.injEq, and_true] at d4S
   have e6 := d4S
   simp only [e6]
   obtain ⟨n3, hm3, h⟩ : ∃ n3 : (Int × b6) → Hp → Prop, (∀ s' H', n3 s' H' → d4R s' H' ∧ c2j s' < c2j (M0, cr_23l3)) ∧ a0j u4 x0 M0 cr_23l3 H n3 K := ⟨_, fun _ _ h => h, g8D (M0, cr_23l3) H (fun s' H' => d4R s' H' ∧ c2j s' < c2j (M0, cr_23l3)) g8E (fun _ _ a b => ⟨a, b⟩)⟩
   unfold d7P
   unfold a0j at h
   refine a6 a5H ?_
   refine c5 (ld1 Tryd.isAgg23 ((I.bring 2).at1 (o := 1) (vs := [(vs x0.Z8)]) (nb rfl) rfl)) ?_
   refine a6 (M5 _ _ _) ?_
   refine a6 (p6 _ _ _ _ _ _) ?_
   refine a6 (Pu.g fun hb => by have a7 := hb; first | exact q7 | (simp only [b8 a7, a8 a7, a8 hb, r9 a7]; exact q7) | (simp only [b8 a7, a8 a7, a8 hb, d9 a7, h7]; exact q7)) ?_
   refine c5 (Ld.g fun hb => by have a7 := hb; first | exact (ld1 Tryd.isAgg4 (I.at1 (o := 0) (vs := [(Value.bool cr_23l3.fok)]) (nb rfl) rfl)) | (simp only [a8 a7]; exact (ld1 Tryd.isAgg4 (I.at1 (o := 0) (vs := [(Value.bool cr_23l3.fok)]) (nb rfl) rfl))) | (simp only [b8 a7, a8 a7, a8 hb, d9 a7, h7]; exact (ld1 Tryd.isAgg4 (I.at1 (o := 0) (vs := [(Value.bool cr_23l3.fok)]) (nb rfl) rfl)))) ?_
   refine a6 (p1 _ _) ?_
   refine m5 (fun b6s => ?_) (fun b6s => ?_)
   ·replace h := h.1 b6s
    refine a6 a5H ?_
    refine c5 (ld1 Tryd.isAgg23 ((I.bring 2).at1 (o := 1) (vs := [(vs x0.Z8)]) (nb rfl) rfl)) ?_
    obtain ⟨g8F, g8G, d4L, d4T, h⟩ := h
    obtain ⟨h8U, h5Q, d4U, d4T⟩ := d4T
    refine a6 (a5J d4U _ _ _ _ g8F g8G) ?_
    refine c5 (ldA (vs := (d8 d4L)) Tryd.isAgg88 Tryd.sizeOf88 rfl (I.atH d4T)) ?_
    refine f7 (cap := []) (fun args w => Tryd.call65 args w) ?_
    refine m2 (Fi := [bx b3m 102 (f8 cr_23l3)]) (Fr := [bx b6t 99 (d7 u4), bx g_2 25 (d5 x0)]) I (h b3m) (fun h5R d4M h5S a0Z g8H h5T h5U g8I => ?_) (fun _ _ _ _ _ q => q.elim)
    obtain ⟨c9d, rfl, rfl, h⟩ := g8I
    refine a6 (o4 _ _ _ _ _ _) ?_
    exact hn3 _ _ _ (hm3 _ _ h).2 ⟨((IntKind.wrap .i64 (M0 + 1)), c9d), d4M, rfl, rfl, (((g8H.bring 2).bring 2).bring 2), (hm3 _ _ h).1⟩
   ·replace h := h.2 b6s
    exact hx2 _ _ (hj2 cr_23l3 H _ (((I.bring 2).bring 2).bring 2) h)
  refine o3 fun j1 hx1 => ?_
  obtain ⟨d4V, c2k, g8J, g8K⟩ := h
  refine t6 (J := fun n l w => ∃ (s : Int × b6) (H : Hp) , n = c2k s ∧ l = (match s with | (K9, cr_23l4) => [(vi K9)]) ∧ (match s with | (K9, cr_23l4) => Inv w0 ps0 H0 H [bx b3m 102 (f8 cr_23l4), bx b6t 99 (d7 u4), bx g_2 25 (d5 x0)] w) ∧ d4V s H) ⟨_, (0, (b6.mk true true)), H_6, rfl, rfl, (((e2n.bring 2).bring 2).bring 2), g8J⟩ ?_
  rintro h5V τ_171 w next4 ⟨⟨K9, cr_23l4⟩, H, rfl, d4W, I, g8L⟩ hn4
  dsimp only at d4W I
  simp only [List.map_cons, List.map_nil, List.cons.injEq, and_true] at d4W
  have e5 := d4W
  simp only [e5]
  obtain ⟨n4, hm4, h⟩ : ∃ n4 : (Int × b6) → Hp → Prop, (∀ s' H', n4 s' H' → d4V s' H' ∧ c2k s' < c2k (K9, cr_23l4)) ∧ a0l u4 x0 K9 cr_23l4 H n4 K := ⟨_, fun _ _ h => h, g8K (K9, cr_23l4) H (fun s' H' => d4V s' H' ∧ c2k s' < c2k (K9, cr_23l4)) g8L (fun _ _ a b => ⟨a, b⟩)⟩
  unfold d7Q
  unfold a0l at h
  refine a6 F7 ?_
  refine c5 (ld1 Tryd.isAgg22 ((I.bring 2).at1 (o := 0) (vs := [(vs x0.s8)]) (nb rfl) rfl)) ?_
  refine a6 (Z6 _ _ _) ?_
  refine a6 (p6 _ _ _ _ _ _) ?_
  refine g8 (fun d4X => ?_) (fun d4X => ?_)
  ·replace h := h.1 d4X
   refine a6 q7 ?_
   refine c5 (ld1 Tryd.isAgg4 (I.at1 (o := 0) (vs := [(Value.bool cr_23l4.fok)]) (nb rfl) rfl)) ?_
   refine a6 (Pu.g fun hb => by have a7 := hb; first | exact F7 | (simp only [b8 a7, a8 a7, a8 hb, r9 a7]; exact F7) | (simp only [b8 a7, a8 a7, a8 hb, d9 a7, h7]; exact F7)) ?_
   refine c5 (Ld.g fun hb => by have a7 := hb; first | exact (ld1 Tryd.isAgg22 ((I.bring 2).at1 (o := 0) (vs := [(vs x0.s8)]) (nb rfl) rfl)) | (simp only [a8 a7]; exact (ld1 Tryd.isAgg22 ((I.bring 2).at1 (o := 0) (vs := [(vs x0.s8)]) (nb rfl) rfl))) | (simp only [b8 a7, a8 a7, a8 hb, d9 a7, h7]; exact (ld1 Tryd.isAgg22 ((I.bring 2).at1 (o := 0) (vs := [(vs x0.s8)]) (nb rfl) rfl)))) ?_
   try simp only [o6]
   obtain ⟨b0B, a6D, h⟩ := h
   obtain ⟨h5W, h5X, a6D⟩ := e3F a6D
   refine a6 (Pu.g fun hb => by have a7 := hb; first | exact (N0 (a6D hb).2.2.1 _ _ _ _ (a6D hb).1 (a6D hb).2.1) | (simp only [a8 a7]; exact (N0 (a6D hb).2.2.1 _ _ _ _ (a6D hb).1 (a6D hb).2.1)) | (simp only [b8 a7, a8 a7, a8 hb, d9 a7, h7]; exact (N0 (a6D hb).2.2.1 _ _ _ _ (a6D hb).1 (a6D hb).2.1))) ?_
   refine a6 (Pu.g fun hb => by have a7 := hb; first | exact N9 | (simp only [a8 a7]; exact N9) | (simp only [b8 a7, a8 a7, a8 hb, d9 a7, h7]; exact N9)) ?_
   refine c5 (Ld.g fun hb => by have a7 := hb; first | exact (ld1 (v := (vi b0B.A5)) Tryd.isAgg3 ((I.atH (a6D hb).2.2.2).sub (k := 1) (n := 1) (nb rfl))) | (simp only [a8 a7]; exact (ld1 (v := (vi b0B.A5)) Tryd.isAgg3 ((I.atH (a6D hb).2.2.2).sub (k := 1) (n := 1) (nb rfl)))) | (simp only [b8 a7, a8 a7, a8 hb, d9 a7, h7]; exact (ld1 (v := (vi b0B.A5)) Tryd.isAgg3 ((I.atH (a6D hb).2.2.2).sub (k := 1) (n := 1) (nb rfl))))) ?_
   refine a6 (Pu.g fun hb => by have a7 := hb; first | exact (a1p _ _ _ _ _ _) | (simp only [a8 a7]; exact (a1p _ _ _ _ _ _)) | (simp only [b8 a7, a8 a7, a8 hb, d9 a7, h7]; exact (a1p _ _ _ _ _ _))) ?_
   refine a6 (p1 _ _) ?_
   refine a6 (Pu.g fun hb => by have a7 := hb; first | exact F7 | (simp only [b8 a7, a8 a7, a8 hb, r9 a7]; exact F7) | (simp only [b8 a7, a8 a7, a8 hb, d9 a7, h7]; exact F7)) ?_
   refine c5 (Ld.g fun hb => by have a7 := hb; first | exact (ld1 Tryd.isAgg22 ((I.bring 2).at1 (o := 0) (vs := [(vs x0.s8)]) (nb rfl) rfl)) | (simp only [a8 a7]; exact (ld1 Tryd.isAgg22 ((I.bring 2).at1 (o := 0) (vs := [(vs x0.s8)]) (nb rfl) rfl))) | (simp only [b8 a7, a8 a7, a8 hb, d9 a7, h7]; exact (ld1 Tryd.isAgg22 ((I.bring 2).at1 (o := 0) (vs := [(vs x0.s8)]) (nb rfl) rfl)))) ?_
   try simp only [o6]
   obtain ⟨b1y, a6E, h⟩ := h
   obtain ⟨h5Y, h5Z, a6E⟩ := e3F a6E
   refine a6 (Pu.g fun hb => by have a7 := hb; first | exact (N0 (a6E hb).2.2.1 _ _ _ _ (a6E hb).1 (a6E hb).2.1) | (simp only [a8 a7]; exact (N0 (a6E hb).2.2.1 _ _ _ _ (a6E hb).1 (a6E hb).2.1)) | (simp only [b8 a7, a8 a7, a8 hb, d9 a7, h7]; exact (N0 (a6E hb).2.2.1 _ _ _ _ (a6E hb).1 (a6E hb).2.1))) ?_
   refine a6 (Pu.g fun hb => by have a7 := hb; first | exact N9 | (simp only [a8 a7]; exact N9) | (simp only [b8 a7, a8 a7, a8 hb, d9 a7, h7]; exact N9)) ?_
   refine c5 (Ld.g fun hb => by have a7 := hb; first | exact (ld1 (v := (vi b1y.A5)) Tryd.isAgg3 ((I.atH (a6E hb).2.2.2).sub (k := 1) (n := 1) (nb rfl))) | (simp only [a8 a7]; exact (ld1 (v := (vi b1y.A5)) Tryd.isAgg3 ((I.atH (a6E hb).2.2.2).sub (k := 1) (n := 1) (nb rfl)))) | (simp only [b8 a7, a8 a7, a8 hb, d9 a7, h7]; exact (ld1 (v := (vi b1y.A5)) Tryd.isAgg3 ((I.atH (a6E hb).2.2.2).sub (k := 1) (n := 1) (nb rfl))))) ?_
   refine a6 (Pu.g fun hb => by have a7 := hb; first | exact (a1o _ _ _ _ _ _) | (simp only [a8 a7]; exact (a1o _ _ _ _ _ _)) | (simp only [b8 a7, a8 a7, a8 hb, d9 a7, h7]; exact (a1o _ _ _ _ _ _))) ?_
   refine a6 (p1 _ _) ?_
   refine a6 q7 ?_
   refine u1 I Tryd.sizeOf4 (vs := [(Value.bool ((cr_23l4.fok && (decide (0 ≤ b0B.A5))) && (decide (b1y.A5 ≤ 2147483647))))]) (cs' := [(Value.bool ((cr_23l4.fok && (decide (0 ≤ b0B.A5))) && (decide (b1y.A5 ≤ 2147483647)))), (Value.bool cr_23l4.fnames)]) rfl rfl (nb rfl) rfl rfl fun b0w d4Y h6a => ?_
   refine a6 F7 ?_
   refine c5 (ld1 Tryd.isAgg22 ((d4Y.bring 2).at1 (o := 0) (vs := [(vs x0.s8)]) (nb rfl) rfl)) ?_
   obtain ⟨g8M, g8N, c5l, d4Z, h⟩ := h
   obtain ⟨h6b, h6c, g8O, d4Z⟩ := d4Z
   refine a6 (N0 g8O _ _ _ _ g8M g8N) ?_
   refine a6 W4 ?_
   refine c5 (ld1 (v := (Value.string c5l.f5)) Tryd.isAgg9 ((d4Y.atH d4Z).sub (k := 0) (n := 1) (nb rfl))) ?_
   refine f7 (cap := []) (fun args w => Tryd.call64 args w) ?_
   refine m2 (Fi := [bx b3m 102 [(Value.bool ((cr_23l4.fok && (decide (0 ≤ b0B.A5))) && (decide (b1y.A5 ≤ 2147483647)))), (Value.bool cr_23l4.fnames)]]) (Fr := [bx b6t 99 (d7 u4), bx g_2 25 (d5 x0)]) d4Y (h b3m) (fun h6d d4N h6e h6f g8P h6g h6h g8Q => ?_) (fun _ _ _ _ _ q => q.elim)
   obtain ⟨c9e, rfl, rfl, h⟩ := g8Q
   refine a6 (o4 _ _ _ _ _ _) ?_
   exact hn4 _ _ _ (hm4 _ _ h).2 ⟨((IntKind.wrap .i64 (K9 + 1)), c9e), d4N, rfl, rfl, (((g8P.bring 2).bring 2).bring 2), (hm4 _ _ h).1⟩
  ·replace h := h.2 d4X
   exact hx1 _ _ (hj1 cr_23l4 H _ (((I.bring 2).bring 2).bring 2) h)
theorem b1z (x0 : i7) {H : Hp} {K : Int → Hp → Prop} (h : a1w x0 H K) : a3I x0 H K := by
 intro w I
 refine f7l ?_
 refine b0W x0 I (fun r0 H' w' I' hk => ⟨H', _, I', r0, rfl, rfl, hk⟩) h
end Go.Proofs.YthldnpmfelniiaaDoor
