/- Typed formulas of the program's functions that few laws need; printed by lift.py off the code. -/
import Derived.Test.YtnhkdkcgdcgmdaaDoorzRV1
import Derived.Test.YtnhkdkcgdcgmdaaDoorzRG1z
namespace Go.Proofs.YtnhkdkcgdcgmdaaDoor
open Go.RowKit
set_option maxRecDepth 100000
set_option maxHeartbeats 2000000
def a4q (x0 : d5) (H : Hp) (K : Int → Hp → Prop) : Prop :=
 ∀ (s_7 : Sl) (a3z : Hp), Hle H a3z → SlH a3z 1 p9 s_7 [(f6.E9 (G3.mk x0))] → s_7.n ≤ s_7.c →
 a2K s_7 a3z (fun (b1m : i9) (c1U : Hp) =>
 K b1m.fe c1U)
theorem b7M (x0 : d5) {w0 w : World} {ps0 : Nat → Prop} {H0 H : Hp} {K : Int → Hp → Prop} {R : Value → World → Prop} {E : Pan} (I : Inv w0 ps0 H0 H [] w) (hR : ∀ (r0 : Int) (H' : Hp) (w' : World) (_ : Inv w0 ps0 H0 H' [] w') (_ : K r0 H'), R (vi r0) w') (h : a4q x0 H K) : F41 (Value.agg (d6 x0).toArray) w R E := by
 unfold a4q at h
 unfold F41
 refine F7 I (cs := (d6 x0)) rfl fun g_2 w_3 I_4 k_5 => ?_
 refine d9 (ldA Tryd.isAgg27 Tryd.sizeOf27 rfl (I_4.at1 (o := 0) (vs := (d6 x0)) (nb rfl) rfl)) ?_
 refine a8 (b7W _ _ _ _ _ _ _ _) ?_
 refine a8 (b5n (G3.mk x0)) ?_
 refine a5R (e := 152) (c := p9) (xs := [(f6.E9 (G3.mk x0))]) I_4 (b1V _) rfl rfl N0 R4 (nb rfl) fun s_7 F_8 w_9 a6J a3w b4Q => ?_
 obtain ⟨a3z, J7, c1x, a9Y, a9Z⟩ := Inv.freezeC a3w a6J (by decide)
 replace h := h s_7 a3z c1x a9Y a9Z
 refine f5 (cap := []) (fun args w => Tryd.call60 args w) ?_
 refine i6 (Fi := []) (Fr := [bx g_2 27 (d6 x0)]) J7 (h) (fun h4m c1U h4n Z4 b0N h4o e1B e2z => ?_) (fun _ _ _ _ _ q => q.elim)
 obtain ⟨b1m, f9W, rfl, rfl, h⟩ := e2z
 refine a8 (r8 _) ?_
 refine a8 a5Q ?_
 refine d9 (ld1 Tryd.isAgg29 (b0N.at1 (o := 2) (vs := [(vi b1m.fe)]) (nb rfl) rfl)) ?_
 exact hR b1m.fe c1U _ b0N.drop.drop h
theorem b9b (x0 : d5) {H : Hp} {K : Int → Hp → Prop} (h : a4q x0 H K) : a6A x0 H K := by
 intro w I
 refine g0i ?_
 refine b7M x0 I (fun r0 H' w' I' hk => ⟨H', _, I', r0, rfl, rfl, hk⟩) h
def W7 (b9c : Int) (a6M : Int) (a1Z : Int) (H : Hp) (K : Int → Int → Bool → Hp → Prop) : Prop :=
 ((((decide (a1Z < a6M)) || (decide (1114111 < a1Z))) || ((decide (55296 ≤ a1Z)) && (decide (a1Z < 57344)))) = true →
 K 65533 1 false H) ∧
 ((((decide (a1Z < a6M)) || (decide (1114111 < a1Z))) || ((decide (55296 ≤ a1Z)) && (decide (a1Z < 57344)))) = false →
 K a1Z b9c true H)
def W8 (b0g : ByteArray) (a7z : Int) (e2Z : Int) (h4I : Int) (a7S : Int) (S3 : Int) (H : Hp) (n3 : (Int × Int) → Hp → Prop) (K : Int → Int → Bool → Hp → Prop) : Prop :=
 (S3 < e2Z →
 ((decide ((b0g.size : Int) ≤ (IntKind.wrap .i64 (a7z + S3)))) = false → (0 : Int) ≤ IntKind.wrap .i64 (a7z + S3) ∧ IntKind.wrap .i64 (a7z + S3) < (b0g.size : Int)) ∧
 (((decide ((b0g.size : Int) ≤ (IntKind.wrap .i64 (a7z + S3)))) || (decide (((b0g.get! (IntKind.wrap .i64 (a7z + S3) : Int).toNat).toNat : Int) < 128))) = false → (0 : Int) ≤ IntKind.wrap .i64 (a7z + S3) ∧ IntKind.wrap .i64 (a7z + S3) < (b0g.size : Int)) ∧
 ((((decide ((b0g.size : Int) ≤ (IntKind.wrap .i64 (a7z + S3)))) || (decide (((b0g.get! (IntKind.wrap .i64 (a7z + S3) : Int).toNat).toNat : Int) < 128))) || (decide (192 ≤ ((b0g.get! (IntKind.wrap .i64 (a7z + S3) : Int).toNat).toNat : Int)))) = true →
 K 65533 1 false H) ∧
 ((((decide ((b0g.size : Int) ≤ (IntKind.wrap .i64 (a7z + S3)))) || (decide (((b0g.get! (IntKind.wrap .i64 (a7z + S3) : Int).toNat).toNat : Int) < 128))) || (decide (192 ≤ ((b0g.get! (IntKind.wrap .i64 (a7z + S3) : Int).toNat).toNat : Int)))) = false →
 (0 : Int) ≤ IntKind.wrap .i64 (a7z + S3) ∧ IntKind.wrap .i64 (a7z + S3) < (b0g.size : Int) ∧
 n3 ((IntKind.wrap .i64 ((IntKind.wrap .i64 ((IntKind.wrap .i64 (64 * a7S)) + (IntKind.wrap .i64 ((b0g.get! (IntKind.wrap .i64 (a7z + S3) : Int).toNat).toNat : Int)))) - 128)), (IntKind.wrap .i64 (S3 + 1))) H)) ∧
 (¬ (S3 < e2Z) →
 W7 e2Z h4I a7S H K)
def F6 (c5r : ByteArray) (c2e : Int) (a7A : Int) (b9d : Int) (b9P : Int) (H : Hp) (K : Int → Int → Bool → Hp → Prop) : Prop :=
 TL ((b9P, 1) : Int × Int) H fun (s : Int × Int) H n3 => W8 c5r c2e a7A b9d s.1 s.2 H n3 K
def a0L (x0 : ByteArray) (x1 : Int) (H : Hp) (K : Int → Int → Bool → Hp → Prop) : Prop :=
 (0 : Int) ≤ x1 ∧ x1 < (x0.size : Int) ∧
 ((IntKind.wrap .i64 ((x0.get! (x1 : Int).toNat).toNat : Int)) < 128 →
 K (IntKind.wrap .i64 ((x0.get! (x1 : Int).toNat).toNat : Int)) 1 true H) ∧
 (¬ ((IntKind.wrap .i64 ((x0.get! (x1 : Int).toNat).toNat : Int)) < 128) →
 (((decide (194 ≤ (IntKind.wrap .i64 ((x0.get! (x1 : Int).toNat).toNat : Int)))) && (decide ((IntKind.wrap .i64 ((x0.get! (x1 : Int).toNat).toNat : Int)) < 224))) = true →
 F6 x0 x1 2 128 (IntKind.wrap .i64 ((IntKind.wrap .i64 ((x0.get! (x1 : Int).toNat).toNat : Int)) - 192)) H K) ∧
 (((decide (194 ≤ (IntKind.wrap .i64 ((x0.get! (x1 : Int).toNat).toNat : Int)))) && (decide ((IntKind.wrap .i64 ((x0.get! (x1 : Int).toNat).toNat : Int)) < 224))) = false →
 (((decide (224 ≤ (IntKind.wrap .i64 ((x0.get! (x1 : Int).toNat).toNat : Int)))) && (decide ((IntKind.wrap .i64 ((x0.get! (x1 : Int).toNat).toNat : Int)) < 240))) = true →
 F6 x0 x1 3 2048 (IntKind.wrap .i64 ((IntKind.wrap .i64 ((x0.get! (x1 : Int).toNat).toNat : Int)) - 224)) H K) ∧
 (((decide (224 ≤ (IntKind.wrap .i64 ((x0.get! (x1 : Int).toNat).toNat : Int)))) && (decide ((IntKind.wrap .i64 ((x0.get! (x1 : Int).toNat).toNat : Int)) < 240))) = false →
 (((decide (240 ≤ (IntKind.wrap .i64 ((x0.get! (x1 : Int).toNat).toNat : Int)))) && (decide ((IntKind.wrap .i64 ((x0.get! (x1 : Int).toNat).toNat : Int)) < 245))) = true →
 F6 x0 x1 4 65536 (IntKind.wrap .i64 ((IntKind.wrap .i64 ((x0.get! (x1 : Int).toNat).toNat : Int)) - 240)) H K) ∧
 (((decide (240 ≤ (IntKind.wrap .i64 ((x0.get! (x1 : Int).toNat).toNat : Int)))) && (decide ((IntKind.wrap .i64 ((x0.get! (x1 : Int).toNat).toNat : Int)) < 245))) = false →
 K 65533 1 false H))))
theorem b1o (x0 : ByteArray) (x1 : Int) {w0 w : World} {ps0 : Nat → Prop} {H0 H : Hp} {K : Int → Int → Bool → Hp → Prop} {R : Value → World → Prop} {E : Pan} (I : Inv w0 ps0 H0 H [] w) (hR : ∀ (r0 : Int) (r1 : Int) (r2 : Bool) (H' : Hp) (w' : World) (_ : Inv w0 ps0 H0 H' [] w') (_ : K r0 r1 r2 H'), R (Value.tuple #[(vi r0), (vi r1), (Value.bool r2)]) w') (h : a0L x0 x1 H K) : d5c (Value.string x0) (vi x1) w R E := by
 unfold a0L at h
 unfold d5c
 obtain ⟨h_1, h_2, h⟩ := h
 refine a8 (a6X _ _ _ h_1 h_2) ?_
 refine a8 (b7X _ _) ?_
 have hj1 : ∀ (a7A : Int) (b9d : Int) (b9P : Int) (H : Hp) (w : World) (_ : Inv w0 ps0 H0 H [] w) (_ : F6 x0 x1 a7A b9d b9P H K), c5z (Value.string x0) (vi x1) (vi a7A) (vi b9d) (vi b9P) w R E := by
  intro a7A b9d b9P H w I h
  unfold c5z
  intro _
  unfold F6 at h
  have hj2 : ∀ (a1Z : Int) (H : Hp) (w : World) (_ : Inv w0 ps0 H0 H [] w) (_ : W7 a7A b9d a1Z H K), c5y (vi a7A) (vi b9d) (vi a1Z) w R E := by
   intro a1Z H w I h
   unfold c5y
   intro _
   unfold W7 at h
   refine a8 (o3 _ _ _ _ _ _) ?_
   try simp only [m4]
   refine a8 (Pu.g fun hb => by have b6 := hb; first | exact (D7 _ _ _ _ _ _) | (simp only [b7 b6]; exact (D7 _ _ _ _ _ _)) | (simp only [d7 b6, b7 b6, b7 hb, l9 b6, f9]; exact (D7 _ _ _ _ _ _))) ?_
   refine a8 (A5 _ _) ?_
   try simp only [m4]
   refine a8 (Pu.g fun hb => by have b6 := hb; first | exact (a0y _ _ _ _ _ _) | (simp only [b7 b6]; exact (a0y _ _ _ _ _ _)) | (simp only [d7 b6, b7 b6, b7 hb, l9 b6, f9]; exact (a0y _ _ _ _ _ _))) ?_
   try simp only [F8, G2]
   try simp only [m4, F8, P1, M9, G2, P5, P2, P3, P4, P6]
   refine a8 (Pu.e (E3 _ _ _) (Pu.g fun hb => by obtain ⟨b6, i5⟩ := J3 hb; first | exact (o3 _ _ _ _ _ _) | (simp only [b7 hb]; exact (o3 _ _ _ _ _ _)) | (simp only [d7 b6, b7 b6, d7 i5, b7 i5, b7 hb, m8 hb]; exact (o3 _ _ _ _ _ _)) | (simp only [d7 b6, b7 b6, d7 i5, b7 i5, b7 hb, f8 hb, f9]; exact (o3 _ _ _ _ _ _)))) ?_
   refine a8 (Pu.g fun hb => by have b6 := hb; first | exact (k9 _ _) | (simp only [b7 b6, J1 b6]; exact (k9 _ _)) | (simp only [d7 b6, b7 b6, b7 hb, l9 b6, f9]; exact (k9 _ _))) ?_
   refine a8 (A5 _ _) ?_
   refine j9 (fun b2W => ?_) (fun b2W => ?_)
   ·replace h := h.1 b2W
    exact hR 65533 1 false H _ I h
   ·replace h := h.2 b2W
    exact hR a1Z a7A true H _ I h
  refine s8 fun j2 hx2 => ?_
  obtain ⟨e3a, d0I, h4J, h4K⟩ := h
  refine I0 (J := fun n l w => ∃ (s : Int × Int) (H : Hp) , n = d0I s ∧ l = (match s with | (a7S, S3) => [(vi a7S), (vi S3)]) ∧ (match s with | (a7S, S3) => Inv w0 ps0 H0 H [] w) ∧ e3a s H) ⟨_, (b9P, 1), H, rfl, rfl, I, h4J⟩ ?_
  rintro i1w τ_19 w next3 ⟨⟨a7S, S3⟩, H, rfl, d5g, I, h4L⟩ hn3
  dsimp only at d5g I
  simp only [List.map_cons, List.map_nil, List.cons.injEq, and_true] at d5g
  obtain ⟨e10, e11⟩ := d5g
  simp only [e10, e11]
  obtain ⟨n3, hm3, h⟩ : ∃ n3 : (Int × Int) → Hp → Prop, (∀ s' H', n3 s' H' → e3a s' H' ∧ d0I s' < d0I (a7S, S3)) ∧ W8 x0 x1 a7A b9d a7S S3 H n3 K := ⟨_, fun _ _ h => h, h4K (a7S, S3) H (fun s' H' => e3a s' H' ∧ d0I s' < d0I (a7S, S3)) h4L (fun _ _ a b => ⟨a, b⟩)⟩
  unfold d2P
  unfold W8 at h
  refine a8 (o3 _ _ _ _ _ _) ?_
  refine g8 (fun c1D => ?_) (fun c1D => ?_)
  ·replace h := h.1 c1D
   refine a8 (s9 _ _ _ _ _ _) ?_
   refine a8 (a9H _) ?_
   refine a8 (a0y _ _ _ _ _ _) ?_
   try simp only [m4]
   try simp only [m4, F8, P1, M9, G2, P5, P2, P3, P4, P6]
   try simp only [m4, F8, P1, M9, G2, P5, P2, P3, P4, P6]
   refine a8 (Pu.g fun hb => by have b6 := hb; first | exact (s9 _ _ _ _ _ _) | (simp only [b7 b6]; exact (s9 _ _ _ _ _ _)) | (simp only [d7 b6, b7 b6, b7 hb, l9 b6, f9]; exact (s9 _ _ _ _ _ _))) ?_
   obtain ⟨h_5, h⟩ := h
   refine a8 (Pu.g fun hb => by have b6 := hb; first | exact (a6X _ _ _ (h_5 hb).1 (h_5 hb).2) | (simp only [b7 b6]; exact (a6X _ _ _ (h_5 hb).1 (h_5 hb).2)) | (simp only [d7 b6, b7 b6, b7 hb, l9 b6, f9]; exact (a6X _ _ _ (h_5 hb).1 (h_5 hb).2))) ?_
   refine a8 (Pu.g fun hb => by have b6 := hb; first | exact (o3 _ _ _ _ _ _) | (simp only [b7 b6]; exact (o3 _ _ _ _ _ _)) | (simp only [d7 b6, b7 b6, b7 hb, l9 b6, f9]; exact (o3 _ _ _ _ _ _))) ?_
   refine a8 (A5 _ _) ?_
   try simp only [m4]
   try simp only [m4, F8, P1, M9, G2, P5, P2, P3, P4, P6]
   try simp only [m4, F8, P1, M9, G2, P5, P2, P3, P4, P6]
   refine a8 (Pu.g fun hb => by have b6 := hb; first | exact (s9 _ _ _ _ _ _) | (simp only [b7 b6]; exact (s9 _ _ _ _ _ _)) | (simp only [d7 b6, b7 b6, b7 hb, l9 b6, f9]; exact (s9 _ _ _ _ _ _))) ?_
   obtain ⟨h_8, h⟩ := h
   refine a8 (Pu.g fun hb => by have b6 := hb; first | exact (a6X _ _ _ (h_8 hb).1 (h_8 hb).2) | (simp only [b7 b6]; exact (a6X _ _ _ (h_8 hb).1 (h_8 hb).2)) | (simp only [d7 b6, b7 b6, b7 hb, l9 b6, f9]; exact (a6X _ _ _ (h_8 hb).1 (h_8 hb).2))) ?_
   refine a8 (Pu.g fun hb => by have b6 := hb; first | exact (a0y _ _ _ _ _ _) | (simp only [b7 b6]; exact (a0y _ _ _ _ _ _)) | (simp only [d7 b6, b7 b6, b7 hb, l9 b6, f9]; exact (a0y _ _ _ _ _ _))) ?_
   refine a8 (A5 _ _) ?_
   refine j9 (fun a1F => ?_) (fun a1F => ?_)
   ·replace h := h.1 a1F
    exact hR 65533 1 false H _ I h
   ·replace h := h.2 a1F
    refine a8 (a8z _ _ _ _ _ _) ?_
    refine a8 (s9 _ _ _ _ _ _) ?_
    obtain ⟨h_9, a6J, h⟩ := h
    refine a8 (a6X _ _ _ h_9 a6J) ?_
    refine a8 (b7X _ _) ?_
    refine a8 (s9 _ _ _ _ _ _) ?_
    refine a8 (a2C _ _ _ _ _ _) ?_
    refine a8 (s9 _ _ _ _ _ _) ?_
    exact hn3 _ _ _ (hm3 _ _ h).2 ⟨((IntKind.wrap .i64 ((IntKind.wrap .i64 ((IntKind.wrap .i64 (64 * a7S)) + (IntKind.wrap .i64 ((x0.get! (IntKind.wrap .i64 (x1 + S3) : Int).toNat).toNat : Int)))) - 128)), (IntKind.wrap .i64 (S3 + 1))), H, rfl, rfl, I, (hm3 _ _ h).1⟩
  ·replace h := h.2 c1D
   exact hx2 _ _ (hj2 a7S H _ I h)
 refine s8 fun j1 hx1 => ?_
 refine a8 (o3 _ _ _ _ _ _) ?_
 refine g8 (fun c1B => ?_) (fun c1B => ?_)
 ·replace h := h.1 c1B
  exact hR (IntKind.wrap .i64 ((x0.get! (x1 : Int).toNat).toNat : Int)) 1 true H _ I h
 ·replace h := h.2 c1B
  refine a8 (a0y _ _ _ _ _ _) ?_
  try simp only [m4]
  refine a8 (Pu.g fun hb => by have b6 := hb; first | exact (o3 _ _ _ _ _ _) | (simp only [b7 b6]; exact (o3 _ _ _ _ _ _)) | (simp only [d7 b6, b7 b6, b7 hb, f8 b6, f9]; exact (o3 _ _ _ _ _ _))) ?_
  refine a8 (k9 _ _) ?_
  refine j9 (fun a8c => ?_) (fun a8c => ?_)
  ·replace h := h.1 a8c
   refine a8 (a2C _ _ _ _ _ _) ?_
   exact hx1 _ _ (hj1 2 128 (IntKind.wrap .i64 ((IntKind.wrap .i64 ((x0.get! (x1 : Int).toNat).toNat : Int)) - 192)) H _ I h)
  ·replace h := h.2 a8c
   refine a8 (a0y _ _ _ _ _ _) ?_
   try simp only [m4]
   refine a8 (Pu.g fun hb => by have b6 := hb; first | exact (o3 _ _ _ _ _ _) | (simp only [b7 b6]; exact (o3 _ _ _ _ _ _)) | (simp only [d7 b6, b7 b6, b7 hb, f8 b6, f9]; exact (o3 _ _ _ _ _ _))) ?_
   refine a8 (k9 _ _) ?_
   refine j9 (fun b2x => ?_) (fun b2x => ?_)
   ·replace h := h.1 b2x
    refine a8 (a2C _ _ _ _ _ _) ?_
    exact hx1 _ _ (hj1 3 2048 (IntKind.wrap .i64 ((IntKind.wrap .i64 ((x0.get! (x1 : Int).toNat).toNat : Int)) - 224)) H _ I h)
   ·replace h := h.2 b2x
    refine a8 (a0y _ _ _ _ _ _) ?_
    try simp only [m4]
    refine a8 (Pu.g fun hb => by have b6 := hb; first | exact (o3 _ _ _ _ _ _) | (simp only [b7 b6]; exact (o3 _ _ _ _ _ _)) | (simp only [d7 b6, b7 b6, b7 hb, f8 b6, f9]; exact (o3 _ _ _ _ _ _))) ?_
    refine a8 (k9 _ _) ?_
    refine j9 (fun b2t => ?_) (fun b2t => ?_)
    ·replace h := h.1 b2t
     refine a8 (a2C _ _ _ _ _ _) ?_
     exact hx1 _ _ (hj1 4 65536 (IntKind.wrap .i64 ((IntKind.wrap .i64 ((x0.get! (x1 : Int).toNat).toNat : Int)) - 240)) H _ I h)
    ·replace h := h.2 b2t
     exact hR 65533 1 false H _ I h
theorem b2X (x0 : ByteArray) (x1 : Int) {H : Hp} {K : Int → Int → Bool → Hp → Prop} (h : a0L x0 x1 H K) : a3q x0 x1 H K := by
 intro w I
 refine f0q ?_
 refine b1o x0 x1 I (fun r0 r1 r2 H' w' I' hk => ⟨H', _, I', r0, r1, r2, rfl, rfl, hk⟩) h
def a2j (x0 : Int) (x1 : Int) (x2 : Int) (H : Hp) (K : Bool → Hp → Prop) : Prop :=
 K ((decide (x1 ≤ x0)) && (decide (x0 ≤ x2))) H
theorem b0h (x0 : Int) (x1 : Int) (x2 : Int) {w0 w : World} {ps0 : Nat → Prop} {H0 H : Hp} {K : Bool → Hp → Prop} {R : Value → World → Prop} {E : Pan} (I : Inv w0 ps0 H0 H [] w) (hR : ∀ (r0 : Bool) (H' : Hp) (w' : World) (_ : Inv w0 ps0 H0 H' [] w') (_ : K r0 H'), R (Value.bool r0) w') (h : a2j x0 x1 x2 H K) : d5f (vi x0) (vi x1) (vi x2) w R E := by
 unfold a2j at h
 unfold d5f
 refine a8 (a0y _ _ _ _ _ _) ?_
 try simp only [m4]
 try simp only [m4, F8, P1, M9, G2, P5, P2, P3, P4, P6]
 refine a8 (Pu.g fun hb => by have b6 := hb; first | exact (a0x _ _ _ _ _ _) | (simp only [b7 b6]; exact (a0x _ _ _ _ _ _)) | (simp only [d7 b6, b7 b6, b7 hb, f8 b6, f9]; exact (a0x _ _ _ _ _ _))) ?_
 refine a8 (k9 _ _) ?_
 exact hR ((decide (x1 ≤ x0)) && (decide (x0 ≤ x2))) H _ I h
theorem b0D (x0 : Int) (x1 : Int) (x2 : Int) {H : Hp} {K : Bool → Hp → Prop} (h : a2j x0 x1 x2 H K) : q7 x0 x1 x2 H K := by
 intro w I
 refine f0u ?_
 refine b0h x0 x1 x2 I (fun r0 H' w' I' hk => ⟨H', _, I', r0, rfl, rfl, hk⟩) h
def V2 (H : Hp) (K : Int → Hp → Prop) : Prop :=
 K 6 H
def C6 (c5B : Int) (a4Z : ByteArray) (a1O : Int) (H : Hp) (n2 : Int → Hp → Prop) (K : Int → Hp → Prop) : Prop :=
 (a1O < (a4Z.size : Int) →
 (0 : Int) ≤ a1O ∧ a1O < (a4Z.size : Int) ∧
 (c5B = (IntKind.wrap .i64 ((a4Z.get! (a1O : Int).toNat).toNat : Int)) →
 K 5 H) ∧
 (¬ (c5B = (IntKind.wrap .i64 ((a4Z.get! (a1O : Int).toNat).toNat : Int))) →
 n2 (IntKind.wrap .i64 (a1O + 1)) H)) ∧
 (¬ (a1O < (a4Z.size : Int)) →
 V2 H K)
def a0j (x0 : Int) (H : Hp) (K : Int → Hp → Prop) : Prop :=
 ((((decide (x0 = 32)) || (decide (x0 = 9))) || (decide (x0 = 13))) = true →
 K 1 H) ∧
 ((((decide (x0 = 32)) || (decide (x0 = 9))) || (decide (x0 = 13))) = false →
 (x0 = 10 →
 K 2 H) ∧
 (¬ (x0 = 10) →
 q7 x0 48 57 H (fun (s7 : Bool) (H_1 : Hp) =>
 (s7 = true →
 K 4 H_1) ∧
 (s7 = false →
 q7 x0 97 122 H_1 (fun (o8 : Bool) (P9 : Hp) =>
 TG (o8 = false) (q7 x0 65 90 P9) false P9 (fun (w3 : Bool) (F4 : Hp) =>
 TG (((o8 || w3) || (decide (x0 = 95))) = false) (q7 x0 192 591 F4) false F4 (fun (R0 : Bool) (a5z : Hp) =>
 TG ((((o8 || w3) || (decide (x0 = 95))) || ((R0 && (!decide (x0 = 215))) && (!decide (x0 = 247)))) = false) (q7 x0 913 969 a5z) false a5z (fun (G5 : Bool) (a2z : Hp) =>
 TG (((((o8 || w3) || (decide (x0 = 95))) || ((R0 && (!decide (x0 = 215))) && (!decide (x0 = 247)))) || (G5 && (!decide (x0 = 930)))) = false) (q7 x0 1040 1103 a2z) false a2z (fun (a0M : Bool) (a2A : Hp) =>
 ((((((o8 || w3) || (decide (x0 = 95))) || ((R0 && (!decide (x0 = 215))) && (!decide (x0 = 247)))) || (G5 && (!decide (x0 = 930)))) || a0M) = true →
 K 3 a2A) ∧
 ((((((o8 || w3) || (decide (x0 = 95))) || ((R0 && (!decide (x0 = 215))) && (!decide (x0 = 247)))) || (G5 && (!decide (x0 = 930)))) || a0M) = false →
 TL (0 : Int) a2A fun (s : Int) H n2 => C6 x0 ⟨#[59, 44, 123, 125, 40, 41, 91, 93, 61, 33, 60, 62, 43, 45, 42, 47, 37, 38, 124]⟩ s H n2 K))))))))))
theorem b0S (x0 : Int) {w0 w : World} {ps0 : Nat → Prop} {H0 H : Hp} {K : Int → Hp → Prop} {R : Value → World → Prop} {E : Pan} (I : Inv w0 ps0 H0 H [] w) (hR : ∀ (r0 : Int) (H' : Hp) (w' : World) (_ : Inv w0 ps0 H0 H' [] w') (_ : K r0 H'), R (vi r0) w') (h : a0j x0 H K) : d5e (vi x0) w R E := by
 unfold a0j at h
 unfold d5e
 refine a8 (f4 _ _ _ _ _ _) ?_
 try simp only [m4]
 refine a8 (Pu.g fun hb => by have b6 := hb; first | exact (f4 _ _ _ _ _ _) | (simp only [b7 b6]; exact (f4 _ _ _ _ _ _)) | (simp only [d7 b6, b7 b6, b7 hb, l9 b6, f9]; exact (f4 _ _ _ _ _ _))) ?_
 refine a8 (A5 _ _) ?_
 try simp only [m4]
 refine a8 (Pu.g fun hb => by have b6 := hb; first | exact (f4 _ _ _ _ _ _) | (simp only [b7 b6]; exact (f4 _ _ _ _ _ _)) | (simp only [d7 b6, b7 b6, b7 hb, l9 b6, f9]; exact (f4 _ _ _ _ _ _))) ?_
 refine a8 (A5 _ _) ?_
 refine j9 (fun a8j => ?_) (fun a8j => ?_)
 ·replace h := h.1 a8j
  exact hR 1 H _ I h
 ·replace h := h.2 a8j
  refine a8 (f4 _ _ _ _ _ _) ?_
  refine g8 (fun b2L => ?_) (fun b2L => ?_)
  ·replace h := h.1 b2L
   exact hR 2 H _ I h
  ·replace h := h.2 b2L
   refine f5 (cap := []) (fun args w => Tryd.call152 args w) ?_
   refine i6 (Fi := []) (Fr := []) I (h) (fun v_5 H_1 F_6 w_2 I_3 l_8 k_4 q_7 => ?_) (fun _ _ _ _ _ q => q.elim)
   obtain ⟨s7, rfl, rfl, h⟩ := q_7
   refine j9 (fun a5t => ?_) (fun a5t => ?_)
   ·replace h := h.1 a5t
    exact hR 4 H_1 _ I_3 h
   ·replace h := h.2 a5t
    refine f5 (cap := []) (fun args w => Tryd.call152 args w) ?_
    refine i6 (Fi := []) (Fr := []) I_3 (h) (fun b6s P9 c4X K6 q5 b2l a8S a9O => ?_) (fun _ _ _ _ _ q => q.elim)
    obtain ⟨o8, rfl, rfl, h⟩ := a9O
    try simp only [m4]
    refine W1 (D := fun b4K o7 => ∃ (w3 : Bool) (F4 : Hp) , b4K = (gv o8 false (Value.bool w3)) ∧ (Inv w0 ps0 H0 F4 [] o7) ∧ (∀ i, i < K6.heap.size → ¬ inF [] i → o7.heap[i]? = K6.heap[i]?) ∧ Hle P9 F4 ∧ (TG (((o8 || w3) || (decide (x0 = 95))) = false) (q7 x0 192 591 F4) false F4 (fun (R0 : Bool) (a5z : Hp) =>
 TG ((((o8 || w3) || (decide (x0 = 95))) || ((R0 && (!decide (x0 = 215))) && (!decide (x0 = 247)))) = false) (q7 x0 913 969 a5z) false a5z (fun (G5 : Bool) (a2z : Hp) =>
 TG (((((o8 || w3) || (decide (x0 = 95))) || ((R0 && (!decide (x0 = 215))) && (!decide (x0 = 247)))) || (G5 && (!decide (x0 = 930)))) = false) (q7 x0 1040 1103 a2z) false a2z (fun (a0M : Bool) (a2A : Hp) =>
 ((((((o8 || w3) || (decide (x0 = 95))) || ((R0 && (!decide (x0 = 215))) && (!decide (x0 = 247)))) || (G5 && (!decide (x0 = 930)))) || a0M) = true →
 K 3 a2A) ∧
 ((((((o8 || w3) || (decide (x0 = 95))) || ((R0 && (!decide (x0 = 215))) && (!decide (x0 = 247)))) || (G5 && (!decide (x0 = 930)))) || a0M) = false →
 TL (0 : Int) a2A fun (s : Int) H n2 => C6 x0 ⟨#[59, 44, 123, 125, 40, 41, 91, 93, 61, 33, 60, 62, 43, 45, 42, 47, 37, 38, 124]⟩ s H n2 K)))))) (fun c5C => ?_) (fun c5C => ?_) ?_
    ·replace h := h.1 c5C
     have b6 := c5C
     try simp only [b7 b6]
     refine f5 (cap := []) (fun args w => Tryd.call152 args w) ?_
     refine i6 (Fi := []) (Fr := []) q5 (h) (fun b4K F4 d4g o7 X6 b4L a9P b6t => ?_) (fun _ _ _ _ _ q => q.elim)
     obtain ⟨w3, rfl, rfl, h⟩ := b6t
     exact ⟨w3, F4, by first | rfl | rw [b7 c5C], X6, a9P, b4L, h⟩
    ·exact ⟨false, P9, by first | rfl | rw [a3k c5C], q5, fun _ _ _ => rfl, Hle.refl _, h.2 c5C⟩
    ·clear h
     rintro b4K o7 ⟨w3, F4, rfl, X6, a9P, b4L, h⟩
     refine a8 (A5 _ _) ?_
     try simp only [m4]
     refine a8 (Pu.g fun hb => by have b6 := hb; first | exact (f4 _ _ _ _ _ _) | (simp only [b7 b6]; exact (f4 _ _ _ _ _ _)) | (simp only [d7 b6, b7 b6, b7 hb, l9 b6, f9]; exact (f4 _ _ _ _ _ _))) ?_
     refine a8 (A5 _ _) ?_
     try simp only [m4]
     refine W1 (D := fun d5h a8b => ∃ (R0 : Bool) (a5z : Hp) , d5h = (gv ((o8 || w3) || (decide (x0 = 95))) false (Value.bool R0)) ∧ (Inv w0 ps0 H0 a5z [] a8b) ∧ (∀ i, i < o7.heap.size → ¬ inF [] i → a8b.heap[i]? = o7.heap[i]?) ∧ Hle F4 a5z ∧ (TG ((((o8 || w3) || (decide (x0 = 95))) || ((R0 && (!decide (x0 = 215))) && (!decide (x0 = 247)))) = false) (q7 x0 913 969 a5z) false a5z (fun (G5 : Bool) (a2z : Hp) =>
 TG (((((o8 || w3) || (decide (x0 = 95))) || ((R0 && (!decide (x0 = 215))) && (!decide (x0 = 247)))) || (G5 && (!decide (x0 = 930)))) = false) (q7 x0 1040 1103 a2z) false a2z (fun (a0M : Bool) (a2A : Hp) =>
 ((((((o8 || w3) || (decide (x0 = 95))) || ((R0 && (!decide (x0 = 215))) && (!decide (x0 = 247)))) || (G5 && (!decide (x0 = 930)))) || a0M) = true →
 K 3 a2A) ∧
 ((((((o8 || w3) || (decide (x0 = 95))) || ((R0 && (!decide (x0 = 215))) && (!decide (x0 = 247)))) || (G5 && (!decide (x0 = 930)))) || a0M) = false →
 TL (0 : Int) a2A fun (s : Int) H n2 => C6 x0 ⟨#[59, 44, 123, 125, 40, 41, 91, 93, 61, 33, 60, 62, 43, 45, 42, 47, 37, 38, 124]⟩ s H n2 K))))) (fun a8l => ?_) (fun a8l => ?_) ?_
     ·replace h := h.1 a8l
      have b6 := a8l
      try simp only [b7 b6]
      refine f5 (cap := []) (fun args w => Tryd.call152 args w) ?_
      refine i6 (Fi := []) (Fr := []) X6 (h) (fun d5h a5z b0P a8b a0F c1l a8V e3b => ?_) (fun _ _ _ _ _ q => q.elim)
      obtain ⟨R0, rfl, rfl, h⟩ := e3b
      exact ⟨R0, a5z, by first | rfl | rw [b7 a8l], a0F, a8V, c1l, h⟩
     ·exact ⟨false, F4, by first | rfl | rw [a3k a8l], X6, fun _ _ _ => rfl, Hle.refl _, h.2 a8l⟩
     ·clear h
      rintro d5h a8b ⟨R0, a5z, rfl, a0F, a8V, c1l, h⟩
      try simp only [F8, G2]
      try simp only [m4, F8, P1, M9, G2, P5, P2, P3, P4, P6]
      refine a8 (Pu.e (E3 _ _ _) (Pu.g fun hb => by obtain ⟨b6, i5⟩ := J3 hb; first | exact (o4 _ _ _ _ _ _) | (simp only [b7 hb]; exact (o4 _ _ _ _ _ _)) | (simp only [d7 b6, b7 b6, d7 i5, b7 i5, b7 hb, m8 hb]; exact (o4 _ _ _ _ _ _)) | (simp only [d7 b6, b7 b6, d7 i5, b7 i5, b7 hb, f8 hb, f9]; exact (o4 _ _ _ _ _ _)))) ?_
      refine a8 (Pu.g fun hb => by have b6 := hb; first | exact (k9 _ _) | (simp only [b7 b6, J1 b6]; exact (k9 _ _)) | (simp only [d7 b6, b7 b6, b7 hb, l9 b6, f9]; exact (k9 _ _))) ?_
      try simp only [F8, G2]
      try simp only [m4, F8, P1, M9, G2, P5, P2, P3, P4, P6]
      refine a8 (Pu.e (E3 _ _ _) (Pu.g fun hb => by obtain ⟨b6, i5⟩ := J3 hb; first | exact (o4 _ _ _ _ _ _) | (simp only [b7 hb]; exact (o4 _ _ _ _ _ _)) | (simp only [d7 b6, b7 b6, d7 i5, b7 i5, b7 hb, m8 hb]; exact (o4 _ _ _ _ _ _)) | (simp only [d7 b6, b7 b6, d7 i5, b7 i5, b7 hb, f8 hb, f9]; exact (o4 _ _ _ _ _ _)))) ?_
      refine a8 (Pu.g fun hb => by have b6 := hb; first | exact (k9 _ _) | (simp only [b7 b6, J1 b6]; exact (k9 _ _)) | (simp only [d7 b6, b7 b6, b7 hb, l9 b6, f9]; exact (k9 _ _))) ?_
      refine a8 (A5 _ _) ?_
      try simp only [m4]
      refine W1 (D := fun d0J D3 => ∃ (G5 : Bool) (a2z : Hp) , d0J = (gv (((o8 || w3) || (decide (x0 = 95))) || ((R0 && (!decide (x0 = 215))) && (!decide (x0 = 247)))) false (Value.bool G5)) ∧ (Inv w0 ps0 H0 a2z [] D3) ∧ (∀ i, i < a8b.heap.size → ¬ inF [] i → D3.heap[i]? = a8b.heap[i]?) ∧ Hle a5z a2z ∧ (TG (((((o8 || w3) || (decide (x0 = 95))) || ((R0 && (!decide (x0 = 215))) && (!decide (x0 = 247)))) || (G5 && (!decide (x0 = 930)))) = false) (q7 x0 1040 1103 a2z) false a2z (fun (a0M : Bool) (a2A : Hp) =>
 ((((((o8 || w3) || (decide (x0 = 95))) || ((R0 && (!decide (x0 = 215))) && (!decide (x0 = 247)))) || (G5 && (!decide (x0 = 930)))) || a0M) = true →
 K 3 a2A) ∧
 ((((((o8 || w3) || (decide (x0 = 95))) || ((R0 && (!decide (x0 = 215))) && (!decide (x0 = 247)))) || (G5 && (!decide (x0 = 930)))) || a0M) = false →
 TL (0 : Int) a2A fun (s : Int) H n2 => C6 x0 ⟨#[59, 44, 123, 125, 40, 41, 91, 93, 61, 33, 60, 62, 43, 45, 42, 47, 37, 38, 124]⟩ s H n2 K)))) (fun c5D => ?_) (fun c5D => ?_) ?_
      ·replace h := h.1 c5D
       have b6 := c5D
       try simp only [b7 b6]
       refine f5 (cap := []) (fun args w => Tryd.call152 args w) ?_
       refine i6 (Fi := []) (Fr := []) a0F (h) (fun d0J a2z g2D D3 b4X c1V d5i d0K => ?_) (fun _ _ _ _ _ q => q.elim)
       obtain ⟨G5, rfl, rfl, h⟩ := d0K
       exact ⟨G5, a2z, by first | rfl | rw [b7 c5D], b4X, d5i, c1V, h⟩
      ·exact ⟨false, a5z, by first | rfl | rw [a3k c5D], a0F, fun _ _ _ => rfl, Hle.refl _, h.2 c5D⟩
      ·clear h
       rintro d0J D3 ⟨G5, a2z, rfl, b4X, d5i, c1V, h⟩
       try simp only [F8, G2]
       try simp only [m4, F8, P1, M9, G2, P5, P2, P3, P4, P6]
       refine a8 (Pu.e (E3 _ _ _) (Pu.g fun hb => by obtain ⟨b6, i5⟩ := J3 hb; first | exact (o4 _ _ _ _ _ _) | (simp only [b7 hb]; exact (o4 _ _ _ _ _ _)) | (simp only [d7 b6, b7 b6, d7 i5, b7 i5, b7 hb, m8 hb]; exact (o4 _ _ _ _ _ _)) | (simp only [d7 b6, b7 b6, d7 i5, b7 i5, b7 hb, f8 hb, f9]; exact (o4 _ _ _ _ _ _)))) ?_
       refine a8 (Pu.g fun hb => by have b6 := hb; first | exact (k9 _ _) | (simp only [b7 b6, J1 b6]; exact (k9 _ _)) | (simp only [d7 b6, b7 b6, b7 hb, l9 b6, f9]; exact (k9 _ _))) ?_
       refine a8 (A5 _ _) ?_
       try simp only [m4]
       refine W1 (D := fun d5j b0L => ∃ (a0M : Bool) (a2A : Hp) , d5j = (gv ((((o8 || w3) || (decide (x0 = 95))) || ((R0 && (!decide (x0 = 215))) && (!decide (x0 = 247)))) || (G5 && (!decide (x0 = 930)))) false (Value.bool a0M)) ∧ (Inv w0 ps0 H0 a2A [] b0L) ∧ (∀ i, i < D3.heap.size → ¬ inF [] i → b0L.heap[i]? = D3.heap[i]?) ∧ Hle a2z a2A ∧ (((((((o8 || w3) || (decide (x0 = 95))) || ((R0 && (!decide (x0 = 215))) && (!decide (x0 = 247)))) || (G5 && (!decide (x0 = 930)))) || a0M) = true →
 K 3 a2A) ∧
 ((((((o8 || w3) || (decide (x0 = 95))) || ((R0 && (!decide (x0 = 215))) && (!decide (x0 = 247)))) || (G5 && (!decide (x0 = 930)))) || a0M) = false →
 TL (0 : Int) a2A fun (s : Int) H n2 => C6 x0 ⟨#[59, 44, 123, 125, 40, 41, 91, 93, 61, 33, 60, 62, 43, 45, 42, 47, 37, 38, 124]⟩ s H n2 K))) (fun c5E => ?_) (fun c5E => ?_) ?_
       ·replace h := h.1 c5E
        have b6 := c5E
        try simp only [b7 b6]
        refine f5 (cap := []) (fun args w => Tryd.call152 args w) ?_
        refine i6 (Fi := []) (Fr := []) b4X (h) (fun d5j a2A h4M b0L c5F c9K e3c e3d => ?_) (fun _ _ _ _ _ q => q.elim)
        obtain ⟨a0M, rfl, rfl, h⟩ := e3d
        exact ⟨a0M, a2A, by first | rfl | rw [b7 c5E], c5F, e3c, c9K, h⟩
       ·exact ⟨false, a2z, by first | rfl | rw [a3k c5E], b4X, fun _ _ _ => rfl, Hle.refl _, h.2 c5E⟩
       ·clear h
        rintro d5j b0L ⟨a0M, a2A, rfl, c5F, e3c, c9K, h⟩
        refine a8 (A5 _ _) ?_
        refine j9 (fun c1K => ?_) (fun c1K => ?_)
        ·replace h := h.1 c1K
         exact hR 3 a2A _ c5F h
        ·replace h := h.2 c1K
         have hj1 : ∀ (H : Hp) (w : World) (_ : Inv w0 ps0 H0 H [] w) (_ : V2 H K), c5A w R E := by
          intro H w I h
          unfold c5A
          intro _
          unfold V2 at h
          exact hR 6 H _ I h
         refine s8 fun j1 hx1 => ?_
         obtain ⟨e3e, d0L, h4N, h4O⟩ := h
         refine I0 (J := fun n l w => ∃ (s : Int) (H : Hp) , n = d0L s ∧ l = [(vi s)] ∧ Inv w0 ps0 H0 H [] w ∧ e3e s H) ⟨_, 0, a2A, rfl, rfl, c5F, h4N⟩ ?_
         rintro i1x τ_64 w next2 ⟨a1O, H, rfl, g2E, I, h4P⟩ hn2
         simp only [List.map_cons, List.map_nil, List.cons.injEq, and_true] at g2E
         have e4 := g2E
         simp only [e4]
         obtain ⟨n2, hm2, h⟩ : ∃ n2 : Int → Hp → Prop, (∀ s' H', n2 s' H' → e3e s' H' ∧ d0L s' < d0L a1O) ∧ C6 x0 ⟨#[59, 44, 123, 125, 40, 41, 91, 93, 61, 33, 60, 62, 43, 45, 42, 47, 37, 38, 124]⟩ a1O H n2 K := ⟨_, fun _ _ h => h, h4O a1O H (fun s' H' => e3e s' H' ∧ d0L s' < d0L a1O) h4P (fun _ _ a b => ⟨a, b⟩)⟩
         unfold d2Q
         unfold C6 at h
         refine a8 (a9H _) ?_
         refine a8 (o3 _ _ _ _ _ _) ?_
         refine g8 (fun c2f => ?_) (fun c2f => ?_)
         ·replace h := h.1 c2f
          obtain ⟨b8S, b6Z, h⟩ := h
          refine a8 (a6X _ _ _ b8S b6Z) ?_
          refine a8 (b7X _ _) ?_
          refine a8 (f4 _ _ _ _ _ _) ?_
          refine g8 (fun c2g => ?_) (fun c2g => ?_)
          ·replace h := h.1 c2g
           exact hR 5 H _ I h
          ·replace h := h.2 c2g
           refine a8 (s9 _ _ _ _ _ _) ?_
           exact hn2 _ _ _ (hm2 _ _ h).2 ⟨(IntKind.wrap .i64 (a1O + 1)), H, rfl, rfl, I, (hm2 _ _ h).1⟩
         ·replace h := h.2 c2f
          exact hx1 _ _ (hj1 H _ I h)
theorem b1p (x0 : Int) {H : Hp} {K : Int → Hp → Prop} (h : a0j x0 H K) : a2N x0 H K := by
 intro w I
 refine f0s ?_
 refine b0S x0 I (fun r0 H' w' I' hk => ⟨H', _, I', r0, rfl, rfl, hk⟩) h
def k8 (o9 : Bool) (H : Hp) (K : Bool → Hp → Prop) : Prop :=
 (o9 = true →
 K true H) ∧
 (o9 = false →
 K false H)
def a0N (x0 : ByteArray) (H : Hp) (K : Bool → Hp → Prop) : Prop :=
 (x0 = ⟨#[118, 97, 114]⟩ →
 k8 (decide (x0 = ⟨#[118, 97, 114]⟩)) H K) ∧
 (¬ (x0 = ⟨#[118, 97, 114]⟩) →
 (x0 = ⟨#[97, 114, 114, 97, 121]⟩ →
 k8 (decide (x0 = ⟨#[97, 114, 114, 97, 121]⟩)) H K) ∧
 (¬ (x0 = ⟨#[97, 114, 114, 97, 121]⟩) →
 (x0 = ⟨#[105, 102]⟩ →
 k8 (decide (x0 = ⟨#[105, 102]⟩)) H K) ∧
 (¬ (x0 = ⟨#[105, 102]⟩) →
 (x0 = ⟨#[101, 108, 115, 101]⟩ →
 k8 (decide (x0 = ⟨#[101, 108, 115, 101]⟩)) H K) ∧
 (¬ (x0 = ⟨#[101, 108, 115, 101]⟩) →
 (x0 = ⟨#[119, 104, 105, 108, 101]⟩ →
 k8 (decide (x0 = ⟨#[119, 104, 105, 108, 101]⟩)) H K) ∧
 (¬ (x0 = ⟨#[119, 104, 105, 108, 101]⟩) →
 (x0 = ⟨#[97, 115, 115, 101, 114, 116]⟩ →
 k8 (decide (x0 = ⟨#[97, 115, 115, 101, 114, 116]⟩)) H K) ∧
 (¬ (x0 = ⟨#[97, 115, 115, 101, 114, 116]⟩) →
 (x0 = ⟨#[97, 115, 115, 117, 109, 101]⟩ →
 k8 (decide (x0 = ⟨#[97, 115, 115, 117, 109, 101]⟩)) H K) ∧
 (¬ (x0 = ⟨#[97, 115, 115, 117, 109, 101]⟩) →
 (x0 = ⟨#[115, 107, 105, 112]⟩ →
 k8 (decide (x0 = ⟨#[115, 107, 105, 112]⟩)) H K) ∧
 (¬ (x0 = ⟨#[115, 107, 105, 112]⟩) →
 (x0 = ⟨#[105, 110, 112, 117, 116]⟩ →
 k8 (decide (x0 = ⟨#[105, 110, 112, 117, 116]⟩)) H K) ∧
 (¬ (x0 = ⟨#[105, 110, 112, 117, 116]⟩) →
 (x0 = ⟨#[116, 114, 117, 101]⟩ →
 k8 (decide (x0 = ⟨#[116, 114, 117, 101]⟩)) H K) ∧
 (¬ (x0 = ⟨#[116, 114, 117, 101]⟩) →
 k8 (decide (x0 = ⟨#[102, 97, 108, 115, 101]⟩)) H K))))))))))
theorem b1q (x0 : ByteArray) {w0 w : World} {ps0 : Nat → Prop} {H0 H : Hp} {K : Bool → Hp → Prop} {R : Value → World → Prop} {E : Pan} (I : Inv w0 ps0 H0 H [] w) (hR : ∀ (r0 : Bool) (H' : Hp) (w' : World) (_ : Inv w0 ps0 H0 H' [] w') (_ : K r0 H'), R (Value.bool r0) w') (h : a0N x0 H K) : d5a (Value.string x0) w R E := by
 unfold a0N at h
 unfold d5a
 have hj1 : ∀ (o9 : Bool) (H : Hp) (w : World) (_ : Inv w0 ps0 H0 H [] w) (_ : k8 o9 H K), c5x (Value.bool o9) w R E := by
  intro o9 H w I h
  unfold c5x
  intro _
  unfold k8 at h
  refine j9 (fun c_1 => ?_) (fun c_1 => ?_)
  ·replace h := h.1 c_1
   exact hR true H _ I h
  ·replace h := h.2 c_1
   exact hR false H _ I h
 refine s8 fun j1 hx1 => ?_
 refine a8 (I6 _ _ _ _ _) ?_
 refine g8 (fun a1F => ?_) (fun a1F => ?_)
 ·replace h := h.1 a1F
  exact hx1 _ _ (hj1 (decide (x0 = ⟨#[118, 97, 114]⟩)) H _ I h)
 ·replace h := h.2 a1F
  refine a8 (I6 _ _ _ _ _) ?_
  refine g8 (fun c1A => ?_) (fun c1A => ?_)
  ·replace h := h.1 c1A
   exact hx1 _ _ (hj1 (decide (x0 = ⟨#[97, 114, 114, 97, 121]⟩)) H _ I h)
  ·replace h := h.2 c1A
   refine a8 (I6 _ _ _ _ _) ?_
   refine g8 (fun c_9 => ?_) (fun c_9 => ?_)
   ·replace h := h.1 c_9
    exact hx1 _ _ (hj1 (decide (x0 = ⟨#[105, 102]⟩)) H _ I h)
   ·replace h := h.2 c_9
    refine a8 (I6 _ _ _ _ _) ?_
    refine g8 (fun c_8 => ?_) (fun c_8 => ?_)
    ·replace h := h.1 c_8
     exact hx1 _ _ (hj1 (decide (x0 = ⟨#[101, 108, 115, 101]⟩)) H _ I h)
    ·replace h := h.2 c_8
     refine a8 (I6 _ _ _ _ _) ?_
     refine g8 (fun c_7 => ?_) (fun c_7 => ?_)
     ·replace h := h.1 c_7
      exact hx1 _ _ (hj1 (decide (x0 = ⟨#[119, 104, 105, 108, 101]⟩)) H _ I h)
     ·replace h := h.2 c_7
      refine a8 (I6 _ _ _ _ _) ?_
      refine g8 (fun c_6 => ?_) (fun c_6 => ?_)
      ·replace h := h.1 c_6
       exact hx1 _ _ (hj1 (decide (x0 = ⟨#[97, 115, 115, 101, 114, 116]⟩)) H _ I h)
      ·replace h := h.2 c_6
       refine a8 (I6 _ _ _ _ _) ?_
       refine g8 (fun c_5 => ?_) (fun c_5 => ?_)
       ·replace h := h.1 c_5
        exact hx1 _ _ (hj1 (decide (x0 = ⟨#[97, 115, 115, 117, 109, 101]⟩)) H _ I h)
       ·replace h := h.2 c_5
        refine a8 (I6 _ _ _ _ _) ?_
        refine g8 (fun c_4 => ?_) (fun c_4 => ?_)
        ·replace h := h.1 c_4
         exact hx1 _ _ (hj1 (decide (x0 = ⟨#[115, 107, 105, 112]⟩)) H _ I h)
        ·replace h := h.2 c_4
         refine a8 (I6 _ _ _ _ _) ?_
         refine g8 (fun c_3 => ?_) (fun c_3 => ?_)
         ·replace h := h.1 c_3
          exact hx1 _ _ (hj1 (decide (x0 = ⟨#[105, 110, 112, 117, 116]⟩)) H _ I h)
         ·replace h := h.2 c_3
          refine a8 (I6 _ _ _ _ _) ?_
          refine g8 (fun c_2 => ?_) (fun c_2 => ?_)
          ·replace h := h.1 c_2
           exact hx1 _ _ (hj1 (decide (x0 = ⟨#[116, 114, 117, 101]⟩)) H _ I h)
          ·replace h := h.2 c_2
           refine a8 (I6 _ _ _ _ _) ?_
           exact hx1 _ _ (hj1 (decide (x0 = ⟨#[102, 97, 108, 115, 101]⟩)) H _ I h)
theorem b2Y (x0 : ByteArray) {H : Hp} {K : Bool → Hp → Prop} (h : a0N x0 H K) : a3r x0 H K := by
 intro w I
 refine f0o ?_
 refine b1q x0 I (fun r0 H' w' I' hk => ⟨H', _, I', r0, rfl, rfl, hk⟩) h
def W9 (a7x : Int) (H : Hp) (K : Bool → Hp → Prop) : Prop :=
 K (decide (a7x ≤ 32)) H
def N8 (c5B : ByteArray) (a4Z : Int) (a1O : Int) (H : Hp) (n2 : (Int × Int) → Hp → Prop) (K : Bool → Hp → Prop) : Prop :=
 (a1O < (c5B.size : Int) →
 a3q c5B a1O H (fun (o8 : Int) (a6b : Int) (c6O : Bool) (P9 : Hp) =>
 a2N o8 P9 (fun (w3 : Int) (F4 : Hp) =>
 (((!c6O) || ((!decide (w3 = 3)) && ((!decide (w3 = 4)) || (decide (a4Z = 0))))) = true →
 K false F4) ∧
 (((!c6O) || ((!decide (w3 = 3)) && ((!decide (w3 = 4)) || (decide (a4Z = 0))))) = false →
 n2 ((IntKind.wrap .i64 (a4Z + 1)), (IntKind.wrap .i64 (a1O + a6b))) F4)))) ∧
 (¬ (a1O < (c5B.size : Int)) →
 W9 a4Z H K)
def a0O (x0 : ByteArray) (H : Hp) (K : Bool → Hp → Prop) : Prop :=
 TG (((decide (x0 = ⟨#[]⟩)) || (decide (128 < (x0.size : Int)))) = false) (a3r x0 H) false H (fun (s7 : Bool) (H_1 : Hp) =>
 ((((decide (x0 = ⟨#[]⟩)) || (decide (128 < (x0.size : Int)))) || s7) = true →
 K false H_1) ∧
 ((((decide (x0 = ⟨#[]⟩)) || (decide (128 < (x0.size : Int)))) || s7) = false →
 TL ((0, 0) : Int × Int) H_1 fun (s : Int × Int) H n2 => N8 x0 s.1 s.2 H n2 K))
theorem b1r (x0 : ByteArray) {w0 w : World} {ps0 : Nat → Prop} {H0 H : Hp} {K : Bool → Hp → Prop} {R : Value → World → Prop} {E : Pan} (I : Inv w0 ps0 H0 H [] w) (hR : ∀ (r0 : Bool) (H' : Hp) (w' : World) (_ : Inv w0 ps0 H0 H' [] w') (_ : K r0 H'), R (Value.bool r0) w') (h : a0O x0 H K) : d4Z (Value.string x0) w R E := by
 unfold a0O at h
 unfold d4Z
 refine a8 (I6 _ _ _ _ _) ?_
 try simp only [m4]
 refine a8 (Pu.g fun hb => by have b6 := hb; first | exact (a9H _) | (simp only [b7 b6]; exact (a9H _)) | (simp only [d7 b6, b7 b6, b7 hb, l9 b6, f9]; exact (a9H _))) ?_
 refine a8 (Pu.g fun hb => by have b6 := hb; first | exact (D7 _ _ _ _ _ _) | (simp only [b7 b6]; exact (D7 _ _ _ _ _ _)) | (simp only [d7 b6, b7 b6, b7 hb, l9 b6, f9]; exact (D7 _ _ _ _ _ _))) ?_
 refine a8 (A5 _ _) ?_
 try simp only [m4]
 refine W1 (D := fun v_5 w_2 => ∃ (s7 : Bool) (H_1 : Hp) , v_5 = (gv ((decide (x0 = ⟨#[]⟩)) || (decide (128 < (x0.size : Int)))) false (Value.bool s7)) ∧ (Inv w0 ps0 H0 H_1 [] w_2) ∧ (∀ i, i < w.heap.size → ¬ inF [] i → w_2.heap[i]? = w.heap[i]?) ∧ Hle H H_1 ∧ (((((decide (x0 = ⟨#[]⟩)) || (decide (128 < (x0.size : Int)))) || s7) = true →
 K false H_1) ∧
 ((((decide (x0 = ⟨#[]⟩)) || (decide (128 < (x0.size : Int)))) || s7) = false →
 TL ((0, 0) : Int × Int) H_1 fun (s : Int × Int) H n2 => N8 x0 s.1 s.2 H n2 K))) (fun c5G => ?_) (fun c5G => ?_) ?_
 ·replace h := h.1 c5G
  have b6 := c5G
  try simp only [b7 b6]
  refine f5 (cap := []) (fun args w => Tryd.call143 args w) ?_
  refine i6 (Fi := []) (Fr := []) I (h) (fun v_5 H_1 F_6 w_2 I_3 l_8 k_4 q_7 => ?_) (fun _ _ _ _ _ q => q.elim)
  obtain ⟨s7, rfl, rfl, h⟩ := q_7
  exact ⟨s7, H_1, by first | rfl | rw [b7 c5G], I_3, k_4, l_8, h⟩
 ·exact ⟨false, H, by first | rfl | rw [a3k c5G], I, fun _ _ _ => rfl, Hle.refl _, h.2 c5G⟩
 ·clear h
  rintro v_5 w_2 ⟨s7, H_1, rfl, I_3, k_4, l_8, h⟩
  refine a8 (A5 _ _) ?_
  refine j9 (fun e3f => ?_) (fun e3f => ?_)
  ·replace h := h.1 e3f
   exact hR false H_1 _ I_3 h
  ·replace h := h.2 e3f
   have hj1 : ∀ (a7x : Int) (H : Hp) (w : World) (_ : Inv w0 ps0 H0 H [] w) (_ : W9 a7x H K), c5w (vi a7x) w R E := by
    intro a7x H w I h
    unfold c5w
    intro _
    unfold W9 at h
    refine a8 (a0x _ _ _ _ _ _) ?_
    exact hR (decide (a7x ≤ 32)) H _ I h
   refine s8 fun j1 hx1 => ?_
   obtain ⟨e3g, d0M, h4Q, h4R⟩ := h
   refine I0 (J := fun n l w => ∃ (s : Int × Int) (H : Hp) , n = d0M s ∧ l = (match s with | (a4Z, a1O) => [(vi a4Z), (vi a1O)]) ∧ (match s with | (a4Z, a1O) => Inv w0 ps0 H0 H [] w) ∧ e3g s H) ⟨_, (0, 0), H_1, rfl, rfl, I_3, h4Q⟩ ?_
   rintro i1y τ_35 w next2 ⟨⟨a4Z, a1O⟩, H, rfl, e3h, I, h4S⟩ hn2
   dsimp only at e3h I
   simp only [List.map_cons, List.map_nil, List.cons.injEq, and_true] at e3h
   obtain ⟨e3, e4⟩ := e3h
   simp only [e3, e4]
   obtain ⟨n2, hm2, h⟩ : ∃ n2 : (Int × Int) → Hp → Prop, (∀ s' H', n2 s' H' → e3g s' H' ∧ d0M s' < d0M (a4Z, a1O)) ∧ N8 x0 a4Z a1O H n2 K := ⟨_, fun _ _ h => h, h4R (a4Z, a1O) H (fun s' H' => e3g s' H' ∧ d0M s' < d0M (a4Z, a1O)) h4S (fun _ _ a b => ⟨a, b⟩)⟩
   unfold d2O
   unfold N8 at h
   refine a8 (a9H _) ?_
   refine a8 (o3 _ _ _ _ _ _) ?_
   refine g8 (fun b2k => ?_) (fun b2k => ?_)
   ·replace h := h.1 b2k
    refine f5 (cap := []) (fun args w => Tryd.call144 args w) ?_
    refine i6 (Fi := []) (Fr := []) I (h) (fun b6s P9 c4X K6 q5 b2l a8S a9O => ?_) (fun _ _ _ _ _ q => q.elim)
    obtain ⟨o8, a6b, c6O, rfl, rfl, h⟩ := a9O
    refine a8 (i4 _ _ (vi o8) rfl) ?_
    refine a8 (i4 _ _ (vi a6b) rfl) ?_
    refine a8 (i4 _ _ (Value.bool c6O) rfl) ?_
    refine f5 (cap := []) (fun args w => Tryd.call145 args w) ?_
    refine i6 (Fi := []) (Fr := []) q5 (h) (fun b4K F4 d4g o7 X6 b4L a9P b6t => ?_) (fun _ _ _ _ _ q => q.elim)
    obtain ⟨w3, rfl, rfl, h⟩ := b6t
    refine a8 (C4 _) ?_
    try simp only [m4]
    refine a8 (Pu.g fun hb => by have b6 := hb; first | exact (o4 _ _ _ _ _ _) | (simp only [b7 b6]; exact (o4 _ _ _ _ _ _)) | (simp only [d7 b6, b7 b6, b7 hb, l9 b6, f9]; exact (o4 _ _ _ _ _ _))) ?_
    try simp only [F8, G2]
    try simp only [m4, F8, P1, M9, G2, P5, P2, P3, P4, P6]
    refine a8 (Pu.e (E3 _ _ _) (Pu.g fun hb => by obtain ⟨b6, i5⟩ := J3 hb; first | exact (o4 _ _ _ _ _ _) | (simp only [b7 hb]; exact (o4 _ _ _ _ _ _)) | (simp only [d7 b6, b7 b6, d7 i5, b7 i5, b7 hb, m8 hb]; exact (o4 _ _ _ _ _ _)) | (simp only [d7 b6, b7 b6, d7 i5, b7 i5, b7 hb, f8 hb, f9]; exact (o4 _ _ _ _ _ _)))) ?_
    try simp only [F8, M9]
    try simp only [m4, F8, P1, M9, G2, P5, P2, P3, P4, P6]
    refine a8 (Pu.e (a6S _ _ _) (Pu.g fun hb => by obtain ⟨W4, L6⟩ := a7M hb; obtain ⟨b6, i5⟩ := J3 W4; first | exact (f4 _ _ _ _ _ _) | (simp only [b7 hb]; exact (f4 _ _ _ _ _ _)) | (simp only [d7 b6, b7 b6, d7 i5, b7 i5, d7 L6, b7 L6, b7 hb, b7 W4, m8 hb]; exact (f4 _ _ _ _ _ _)) | (simp only [d7 b6, b7 b6, d7 i5, b7 i5, d7 L6, b7 L6, b7 hb, b7 W4, f8 hb, f9]; exact (f4 _ _ _ _ _ _)))) ?_
    refine a8 (Pu.e (E3 _ _ _) (Pu.g fun hb => by obtain ⟨b6, i5⟩ := J3 hb; first | exact (A5 _ _) | (simp only [b7 hb]; exact (A5 _ _)) | (simp only [b7 hb, m8 hb]; exact (A5 _ _)) | (simp only [b7 hb, f8 hb]; exact (A5 _ _)))) ?_
    refine a8 (Pu.g fun hb => by have b6 := hb; first | exact (k9 _ _) | (simp only [b7 b6, J1 b6]; exact (k9 _ _)) | (simp only [d7 b6, b7 b6, b7 hb, l9 b6, f9]; exact (k9 _ _))) ?_
    refine a8 (A5 _ _) ?_
    refine j9 (fun c2h => ?_) (fun c2h => ?_)
    ·replace h := h.1 c2h
     exact hR false F4 _ X6 h
    ·replace h := h.2 c2h
     refine a8 (s9 _ _ _ _ _ _) ?_
     refine a8 (s9 _ _ _ _ _ _) ?_
     exact hn2 _ _ _ (hm2 _ _ h).2 ⟨((IntKind.wrap .i64 (a4Z + 1)), (IntKind.wrap .i64 (a1O + a6b))), F4, rfl, rfl, X6, (hm2 _ _ h).1⟩
   ·replace h := h.2 b2k
    exact hx1 _ _ (hj1 a4Z H _ I h)
theorem b2Z (x0 : ByteArray) {H : Hp} {K : Bool → Hp → Prop} (h : a0O x0 H K) : a0C x0 H K := by
 intro w I
 refine f0m ?_
 refine b1r x0 I (fun r0 H' w' I' hk => ⟨H', _, I', r0, rfl, rfl, hk⟩) h
def T5 (x0 : f2) (x1 : ByteArray) (x2 : Bool) (H : Hp) (K : f2 → Hp → Prop) : Prop :=
 ((!x2) = true →
 K (f2.mk (x0.fok && (decide (x1 = ⟨#[]⟩))) x0.fnames) H) ∧
 ((!x2) = false →
 TG (x0.fnames = true) (a0C x1 H) false H (fun (b0v : Bool) (H_4 : Hp) =>
 K (f2.mk x0.fok (x0.fnames && b0v)) H_4))
theorem a9c (x0 : f2) (x1 : ByteArray) (x2 : Bool) (g0 : Nat) {w0 w : World} {ps0 : Nat → Prop} {H0 H : Hp} {K : f2 → Hp → Prop} {R : Value → World → Prop} {E : Pan} (I : Inv w0 ps0 H0 H [bx g0 133 (k7 x0)] w) (hR : ∀ (y0 : f2) (H' : Hp) (w' : World) (_ : Inv w0 ps0 H0 H' [bx g0 133 (k7 y0)] w') (_ : K y0 H'), R (Value.tuple #[]) w') (h : T5 x0 x1 x2 H K) : d4Y (Value.pointer (some ⟨g0, 0, none⟩)) (Value.string x1) (Value.bool x2) w R E := by
 unfold T5 at h
 unfold d4Y
 refine a8 (C4 _) ?_
 refine j9 (fun a8d => ?_) (fun a8d => ?_)
 ·replace h := h.1 a8d
  refine a8 (r8 _) ?_
  refine a8 G6 ?_
  refine d9 (ld1 Tryd.isAgg4 (I.at1 (o := 0) (vs := [(Value.bool x0.fok)]) (nb rfl) rfl)) ?_
  try simp only [m4]
  refine a8 (Pu.g fun hb => by have b6 := hb; first | exact (I6 _ _ _ _ _) | (simp only [b7 b6]; exact (I6 _ _ _ _ _)) | (simp only [d7 b6, b7 b6, b7 hb, f8 b6, f9]; exact (I6 _ _ _ _ _))) ?_
  refine a8 (k9 _ _) ?_
  refine a8 (r8 _) ?_
  refine a8 G6 ?_
  refine k3 I Tryd.sizeOf4 (vs := [(Value.bool (x0.fok && (decide (x1 = ⟨#[]⟩))))]) (cs' := [(Value.bool (x0.fok && (decide (x1 = ⟨#[]⟩)))), (Value.bool x0.fnames)]) rfl rfl (nb rfl) rfl rfl fun w_1 I_2 k_3 => ?_
  exact hR (f2.mk (x0.fok && (decide (x1 = ⟨#[]⟩))) x0.fnames) H _ I_2 h
 ·replace h := h.2 a8d
  refine a8 (r8 _) ?_
  refine a8 b4B ?_
  refine d9 (ld1 Tryd.isAgg4 (I.at1 (o := 1) (vs := [(Value.bool x0.fnames)]) (nb rfl) rfl)) ?_
  try simp only [m4]
  refine W1 (D := fun v_8 w_5 => ∃ (b0v : Bool) (H_4 : Hp) , v_8 = (gv x0.fnames true (Value.bool b0v)) ∧ (Inv w0 ps0 H0 H_4 [bx g0 133 (k7 x0)] w_5) ∧ (∀ i, i < w.heap.size → ¬ inF [] i → w_5.heap[i]? = w.heap[i]?) ∧ Hle H H_4 ∧ (K (f2.mk x0.fok (x0.fnames && b0v)) H_4)) (fun c5H => ?_) (fun c5H => ?_) ?_
  ·replace h := h.1 c5H
   have b6 := c5H
   try simp only [b7 b6]
   refine f5 (cap := []) (fun args w => Tryd.call121 args w) ?_
   refine i6 (Fi := []) (Fr := [bx g0 133 (k7 x0)]) I (h) (fun v_8 H_4 F_9 w_5 I_6 c1k k_7 h4T => ?_) (fun _ _ _ _ _ q => q.elim)
   obtain ⟨b0v, rfl, rfl, h⟩ := h4T
   exact ⟨b0v, H_4, by first | rfl | rw [b7 c5H], I_6, k_7, c1k, h⟩
  ·exact ⟨false, H, by first | rfl | rw [a3k c5H], I, fun _ _ _ => rfl, Hle.refl _, h.2 c5H⟩
  ·clear h
   rintro v_8 w_5 ⟨b0v, H_4, rfl, I_6, k_7, c1k, h⟩
   refine a8 (k9 _ _) ?_
   refine a8 (r8 _) ?_
   refine a8 b4B ?_
   refine k3 I_6 Tryd.sizeOf4 (vs := [(Value.bool (x0.fnames && b0v))]) (cs' := [(Value.bool x0.fok), (Value.bool (x0.fnames && b0v))]) rfl rfl (nb rfl) rfl rfl fun a2w J7 a2T => ?_
   exact hR (f2.mk x0.fok (x0.fnames && b0v)) H_4 _ J7 h
theorem a9z (x0 : f2) (x1 : ByteArray) (x2 : Bool) {H : Hp} {K : f2 → Hp → Prop} (h : T5 x0 x1 x2 H K) : a0W x0 x1 x2 H K := by
 intro g0 w I
 refine f0k ?_
 refine a9c x0 x1 x2 g0 I (fun y0 H' w' I' hk => ⟨H', _, I', y0, rfl, rfl, hk⟩) h
def O6 (cr_1l2 : a7) (a0b : Int) (K9 : f2) (H : Hp) (n2 : (Int × f2) → Hp → Prop) (K : f2 → Hp → Prop) : Prop :=
 (((decide (a0b < (cr_1l2.d8.n : Int))) && K9.fok) = true →
 (0 : Int) ≤ a0b ∧ (a0b : Int) < cr_1l2.d8.n ∧ ∃ d5k : a7, EltH H cr_1l2.d8 a0b 4 (b8 d5k) ∧
 M1 K9 d5k H (fun (d5l : f2) (e3i : Hp) =>
 n2 ((IntKind.wrap .i64 (a0b + 1)), d5l) e3i)) ∧
 (((decide (a0b < (cr_1l2.d8.n : Int))) && K9.fok) = false →
 K K9 H)
def y9 (o9 : Int) (cr_1j1 : a7) (T0 : f2) (H : Hp) (K : f2 → Hp → Prop) : Prop :=
 a0W T0 cr_1j1.g1 ((decide (cr_1j1.b9 = 2)) || (decide (cr_1j1.b9 = 4))) H (fun (a1X : f2) (H_6 : Hp) =>
 TL ((0, (f2.mk ((a1X.fok && (decide ((cr_1j1.d8.n : Int) = o9))) && ((decide (cr_1j1.g9 = 0)) || ((decide (cr_1j1.b9 = 1)) && (decide (0 < cr_1j1.g9))))) a1X.fnames)) : Int × f2) H_6 fun (s : Int × f2) H n2 => O6 cr_1j1 s.1 s.2 H n2 K)
def u4 (h4U : Int) (b9Q : Bool) (cr_1j5 : a7) (e5U : f2) (H : Hp) (K : f2 → Hp → Prop) : Prop :=
 (b9Q = true →
 y9 2 cr_1j5 e5U H K) ∧
 (b9Q = false →
 y9 h4U cr_1j5 (f2.mk false e5U.fnames) H K)
def E5 (d0N : Int) (b0i : Int) (b9R : Bool) (cr_1j4 : a7) (b9S : f2) (H : Hp) (K : f2 → Hp → Prop) : Prop :=
 (b9R = true →
 y9 1 cr_1j4 b9S H K) ∧
 (b9R = false →
 (b0i = 6 →
 u4 d0N (decide (b0i = 6)) cr_1j4 b9S H K) ∧
 (¬ (b0i = 6) →
 (b0i = 7 →
 u4 d0N (decide (b0i = 7)) cr_1j4 b9S H K) ∧
 (¬ (b0i = 7) →
 (b0i = 8 →
 u4 d0N (decide (b0i = 8)) cr_1j4 b9S H K) ∧
 (¬ (b0i = 8) →
 (b0i = 9 →
 u4 d0N (decide (b0i = 9)) cr_1j4 b9S H K) ∧
 (¬ (b0i = 9) →
 u4 d0N (decide (b0i = 10)) cr_1j4 b9S H K)))))
def C3 (e3j : Int) (b9e : Int) (b9T : Bool) (cr_1j3 : a7) (b0w : f2) (H : Hp) (K : f2 → Hp → Prop) : Prop :=
 (b9T = true →
 y9 e3j cr_1j3 b0w H K) ∧
 (b9T = false →
 (b9e = 4 →
 E5 e3j b9e (decide (b9e = 4)) cr_1j3 b0w H K) ∧
 (¬ (b9e = 4) →
 E5 e3j b9e (decide (b9e = 5)) cr_1j3 b0w H K))
def T6 (x0 : f2) (x1 : a7) (H : Hp) (K : f2 → Hp → Prop) : Prop :=
 (x1.b9 = 1 →
 C3 0 x1.b9 (decide (x1.b9 = 1)) x1 x0 H K) ∧
 (¬ (x1.b9 = 1) →
 (x1.b9 = 2 →
 C3 0 x1.b9 (decide (x1.b9 = 2)) x1 x0 H K) ∧
 (¬ (x1.b9 = 2) →
 C3 0 x1.b9 (decide (x1.b9 = 3)) x1 x0 H K))
theorem a9d (x0 : f2) (x1 : a7) (g0 : Nat) {w0 w : World} {ps0 : Nat → Prop} {H0 H : Hp} {K : f2 → Hp → Prop} {R : Value → World → Prop} {E : Pan} (I : Inv w0 ps0 H0 H [bx g0 133 (k7 x0)] w) (hR : ∀ (y0 : f2) (H' : Hp) (w' : World) (_ : Inv w0 ps0 H0 H' [bx g0 133 (k7 y0)] w') (_ : K y0 H'), R (Value.tuple #[]) w') (h : T6 x0 x1 H K) : F67 (Value.pointer (some ⟨g0, 0, none⟩)) (Value.agg (b8 x1).toArray) w R E := by
 unfold T6 at h
 unfold F67
 refine F7 I (cs := (b8 x1)) rfl fun g_2 w_3 I_4 k_5 => ?_
 have hj1 : ∀ (o9 : Int) (T0 : f2) (H : Hp) (w : World) (_ : Inv w0 ps0 H0 H [bx g_2 24 (b8 x1), bx g0 133 (k7 T0)] w) (_ : y9 o9 x1 T0 H K), d0g (Value.pointer (some ⟨g0, 0, none⟩)) (Value.pointer (some ⟨g_2, 0, none⟩)) (vi o9) w R E := by
  intro o9 T0 H w I h
  unfold d0g
  intro _
  unfold y9 at h
  refine a8 U6 ?_
  refine d9 (ld1 Tryd.isAgg9 (I.at1 (o := 2) (vs := [(Value.string x1.g1)]) (nb rfl) rfl)) ?_
  refine a8 m9 ?_
  refine d9 (ld1 Tryd.isAgg3 (I.at1 (o := 0) (vs := [(vi x1.b9)]) (nb rfl) rfl)) ?_
  refine a8 (f4 _ _ _ _ _ _) ?_
  refine a8 (Pu.g fun hb => by have b6 := hb; first | exact m9 | (simp only [d7 b6, b7 b6, b7 hb, J1 b6]; exact m9) | (simp only [d7 b6, b7 b6, b7 hb, l9 b6, f9]; exact m9)) ?_
  refine d9 (Ld.g fun hb => by have b6 := hb; first | exact (ld1 Tryd.isAgg3 (I.at1 (o := 0) (vs := [(vi x1.b9)]) (nb rfl) rfl)) | (simp only [b7 b6]; exact (ld1 Tryd.isAgg3 (I.at1 (o := 0) (vs := [(vi x1.b9)]) (nb rfl) rfl))) | (simp only [d7 b6, b7 b6, b7 hb, l9 b6, f9]; exact (ld1 Tryd.isAgg3 (I.at1 (o := 0) (vs := [(vi x1.b9)]) (nb rfl) rfl)))) ?_
  refine a8 (Pu.g fun hb => by have b6 := hb; first | exact (f4 _ _ _ _ _ _) | (simp only [b7 b6]; exact (f4 _ _ _ _ _ _)) | (simp only [d7 b6, b7 b6, b7 hb, l9 b6, f9]; exact (f4 _ _ _ _ _ _))) ?_
  refine a8 (A5 _ _) ?_
  refine f5 (cap := []) (fun args w => Tryd.call103 args w) ?_
  refine i6 (Fi := [bx g0 133 (k7 T0)]) (Fr := [bx g_2 24 (b8 x1)]) (I.bring 1) (h g0) (fun c1t H_6 b8E w_7 I_8 c1u k_9 a7Z => ?_) (fun _ _ _ _ _ q => q.elim)
  obtain ⟨a1X, rfl, rfl, h⟩ := a7Z
  refine a8 (r8 _) ?_
  refine a8 G6 ?_
  refine d9 (ld1 Tryd.isAgg4 (I_8.at1 (o := 0) (vs := [(Value.bool a1X.fok)]) (nb rfl) rfl)) ?_
  refine a8 (Pu.g fun hb => by have b6 := hb; first | exact i8 | (simp only [d7 b6, b7 b6, b7 hb, m8 b6]; exact i8) | (simp only [d7 b6, b7 b6, b7 hb, f8 b6, f9]; exact i8)) ?_
  refine d9 (Ld.g fun hb => by have b6 := hb; first | exact (ld1 Tryd.isAgg22 ((I_8.bring 1).at1 (o := 3) (vs := [(vs x1.d8)]) (nb rfl) rfl)) | (simp only [b7 b6]; exact (ld1 Tryd.isAgg22 ((I_8.bring 1).at1 (o := 3) (vs := [(vs x1.d8)]) (nb rfl) rfl))) | (simp only [d7 b6, b7 b6, b7 hb, f8 b6, f9]; exact (ld1 Tryd.isAgg22 ((I_8.bring 1).at1 (o := 3) (vs := [(vs x1.d8)]) (nb rfl) rfl)))) ?_
  refine a8 (Pu.g fun hb => by have b6 := hb; first | exact (q6 _ _ _) | (simp only [b7 b6]; exact (q6 _ _ _)) | (simp only [d7 b6, b7 b6, b7 hb, f8 b6, f9]; exact (q6 _ _ _))) ?_
  try simp only [m4]
  refine a8 (Pu.g fun hb => by have b6 := hb; first | exact (f4 _ _ _ _ _ _) | (simp only [b7 b6]; exact (f4 _ _ _ _ _ _)) | (simp only [d7 b6, b7 b6, b7 hb, f8 b6, f9]; exact (f4 _ _ _ _ _ _))) ?_
  refine a8 (k9 _ _) ?_
  refine a8 (Pu.g fun hb => by have b6 := hb; first | exact B4 | (simp only [d7 b6, b7 b6, b7 hb, m8 b6]; exact B4) | (simp only [d7 b6, b7 b6, b7 hb, f8 b6, f9]; exact B4)) ?_
  refine d9 (Ld.g fun hb => by have b6 := hb; first | exact (ld1 Tryd.isAgg2 ((I_8.bring 1).at1 (o := 1) (vs := [(vi x1.g9)]) (nb rfl) rfl)) | (simp only [b7 b6]; exact (ld1 Tryd.isAgg2 ((I_8.bring 1).at1 (o := 1) (vs := [(vi x1.g9)]) (nb rfl) rfl))) | (simp only [d7 b6, b7 b6, b7 hb, f8 b6, f9]; exact (ld1 Tryd.isAgg2 ((I_8.bring 1).at1 (o := 1) (vs := [(vi x1.g9)]) (nb rfl) rfl)))) ?_
  refine a8 (Pu.g fun hb => by have b6 := hb; first | exact (f4 _ _ _ _ _ _) | (simp only [b7 b6]; exact (f4 _ _ _ _ _ _)) | (simp only [d7 b6, b7 b6, b7 hb, f8 b6, f9]; exact (f4 _ _ _ _ _ _))) ?_
  try simp only [m4, F8, M9]
  refine a8 (Pu.e (a6S _ _ _) (Pu.g fun hb => by obtain ⟨b6, i5⟩ := a7M hb; first | exact m9 | (simp only [d7 b6, b7 b6, d7 i5, b7 i5, b7 hb, f9]; exact m9) | (simp only [d7 b6, b7 b6, d7 i5, b7 i5, b7 hb, m8 hb]; exact m9) | (simp only [d7 b6, b7 b6, d7 i5, b7 i5, b7 hb, f8 hb, f9]; exact m9))) ?_
  refine d9 (Ld.e (a6S _ _ _) (Ld.g fun hb => by obtain ⟨b6, i5⟩ := a7M hb; first | exact (ld1 Tryd.isAgg3 ((I_8.bring 1).at1 (o := 0) (vs := [(vi x1.b9)]) (nb rfl) rfl)) | (simp only [b7 hb]; exact (ld1 Tryd.isAgg3 ((I_8.bring 1).at1 (o := 0) (vs := [(vi x1.b9)]) (nb rfl) rfl))) | (simp only [d7 b6, b7 b6, d7 i5, b7 i5, b7 hb, m8 hb]; exact (ld1 Tryd.isAgg3 ((I_8.bring 1).at1 (o := 0) (vs := [(vi x1.b9)]) (nb rfl) rfl))) | (simp only [d7 b6, b7 b6, d7 i5, b7 i5, b7 hb, f8 hb, f9]; exact (ld1 Tryd.isAgg3 ((I_8.bring 1).at1 (o := 0) (vs := [(vi x1.b9)]) (nb rfl) rfl))))) ?_
  refine a8 (Pu.e (a6S _ _ _) (Pu.g fun hb => by obtain ⟨b6, i5⟩ := a7M hb; first | exact (f4 _ _ _ _ _ _) | (simp only [b7 hb]; exact (f4 _ _ _ _ _ _)) | (simp only [d7 b6, b7 b6, d7 i5, b7 i5, b7 hb, m8 hb]; exact (f4 _ _ _ _ _ _)) | (simp only [d7 b6, b7 b6, d7 i5, b7 i5, b7 hb, f8 hb, f9]; exact (f4 _ _ _ _ _ _)))) ?_
  try simp only [F8]
  refine a8 (Pu.e (c4w _ _ _) (Pu.g fun hb => by obtain ⟨W4, L6⟩ := d3w hb; obtain ⟨b6, i5⟩ := a7M W4; first | exact B4 | (simp only [d7 b6, b7 b6, d7 i5, b7 i5, d7 L6, b7 L6, b7 hb, b7 W4, f9]; exact B4) | (simp only [d7 b6, b7 b6, d7 i5, b7 i5, d7 L6, b7 L6, b7 hb, b7 W4, m8 hb]; exact B4) | (simp only [d7 b6, b7 b6, d7 i5, b7 i5, d7 L6, b7 L6, b7 hb, b7 W4, f8 hb, f9]; exact B4))) ?_
  refine d9 (Ld.e (c4w _ _ _) (Ld.g fun hb => by obtain ⟨W4, L6⟩ := d3w hb; obtain ⟨b6, i5⟩ := a7M W4; first | exact (ld1 Tryd.isAgg2 ((I_8.bring 1).at1 (o := 1) (vs := [(vi x1.g9)]) (nb rfl) rfl)) | (simp only [b7 hb]; exact (ld1 Tryd.isAgg2 ((I_8.bring 1).at1 (o := 1) (vs := [(vi x1.g9)]) (nb rfl) rfl))) | (simp only [d7 b6, b7 b6, d7 i5, b7 i5, d7 L6, b7 L6, b7 hb, b7 W4, m8 hb]; exact (ld1 Tryd.isAgg2 ((I_8.bring 1).at1 (o := 1) (vs := [(vi x1.g9)]) (nb rfl) rfl))) | (simp only [d7 b6, b7 b6, d7 i5, b7 i5, d7 L6, b7 L6, b7 hb, b7 W4, f8 hb, f9]; exact (ld1 Tryd.isAgg2 ((I_8.bring 1).at1 (o := 1) (vs := [(vi x1.g9)]) (nb rfl) rfl))))) ?_
  refine a8 (Pu.e (c4w _ _ _) (Pu.g fun hb => by obtain ⟨W4, L6⟩ := d3w hb; obtain ⟨b6, i5⟩ := a7M W4; first | exact (D7 _ _ _ _ _ _) | (simp only [b7 hb]; exact (D7 _ _ _ _ _ _)) | (simp only [d7 b6, b7 b6, d7 i5, b7 i5, d7 L6, b7 L6, b7 hb, b7 W4, m8 hb]; exact (D7 _ _ _ _ _ _)) | (simp only [d7 b6, b7 b6, d7 i5, b7 i5, d7 L6, b7 L6, b7 hb, b7 W4, f8 hb, f9]; exact (D7 _ _ _ _ _ _)))) ?_
  refine a8 (Pu.e (a6S _ _ _) (Pu.g fun hb => by obtain ⟨b6, i5⟩ := a7M hb; first | exact (k9 _ _) | (simp only [b7 hb]; exact (k9 _ _)) | (simp only [b7 hb, m8 hb]; exact (k9 _ _)) | (simp only [d7 b6, b7 b6, d7 i5, b7 i5, b7 hb, f8 hb, f9]; exact (k9 _ _)))) ?_
  refine a8 (Pu.g fun hb => by have b6 := hb; first | exact (A5 _ _) | (simp only [b7 b6, m8 b6]; exact (A5 _ _)) | (simp only [b7 b6, f8 b6]; exact (A5 _ _))) ?_
  refine a8 (k9 _ _) ?_
  refine a8 (r8 _) ?_
  refine a8 G6 ?_
  refine k3 I_8 Tryd.sizeOf4 (vs := [(Value.bool ((a1X.fok && (decide ((x1.d8.n : Int) = o9))) && ((decide (x1.g9 = 0)) || ((decide (x1.b9 = 1)) && (decide (0 < x1.g9))))))]) (cs' := [(Value.bool ((a1X.fok && (decide ((x1.d8.n : Int) = o9))) && ((decide (x1.g9 = 0)) || ((decide (x1.b9 = 1)) && (decide (0 < x1.g9)))))), (Value.bool a1X.fnames)]) rfl rfl (nb rfl) rfl rfl fun b8w b3a g2F => ?_
  obtain ⟨e3k, d0O, h4V, h4W⟩ := h
  refine I0 (J := fun n l w => ∃ (s : Int × f2) (H : Hp) , n = d0O s ∧ l = (match s with | (a0b, K9) => [(vi a0b)]) ∧ (match s with | (a0b, K9) => Inv w0 ps0 H0 H [bx g0 133 (k7 K9), bx g_2 24 (b8 x1)] w) ∧ e3k s H) ⟨_, (0, (f2.mk ((a1X.fok && (decide ((x1.d8.n : Int) = o9))) && ((decide (x1.g9 = 0)) || ((decide (x1.b9 = 1)) && (decide (0 < x1.g9))))) a1X.fnames)), H_6, rfl, rfl, ((b3a.bring 1).bring 1), h4V⟩ ?_
  rintro i1z τ_65 w next2 ⟨⟨a0b, K9⟩, H, rfl, d5m, I, h4X⟩ hn2
  dsimp only at d5m I
  simp only [List.map_cons, List.map_nil, List.cons.injEq, and_true] at d5m
  have e5 := d5m
  simp only [e5]
  obtain ⟨n2, hm2, h⟩ : ∃ n2 : (Int × f2) → Hp → Prop, (∀ s' H', n2 s' H' → e3k s' H' ∧ d0O s' < d0O (a0b, K9)) ∧ O6 x1 a0b K9 H n2 K := ⟨_, fun _ _ h => h, h4W (a0b, K9) H (fun s' H' => e3k s' H' ∧ d0O s' < d0O (a0b, K9)) h4X (fun _ _ a b => ⟨a, b⟩)⟩
  unfold e0b
  unfold O6 at h
  refine a8 i8 ?_
  refine d9 (ld1 Tryd.isAgg22 ((I.bring 1).at1 (o := 3) (vs := [(vs x1.d8)]) (nb rfl) rfl)) ?_
  refine a8 (q6 _ _ _) ?_
  refine a8 (o3 _ _ _ _ _ _) ?_
  try simp only [m4]
  refine a8 (Pu.g fun hb => by have b6 := hb; first | exact (r8 _) | (simp only [b7 b6]; exact (r8 _)) | (simp only [d7 b6, b7 b6, b7 hb, f8 b6, f9]; exact (r8 _))) ?_
  refine a8 (Pu.g fun hb => by have b6 := hb; first | exact G6 | (simp only [b7 b6]; exact G6) | (simp only [d7 b6, b7 b6, b7 hb, f8 b6, f9]; exact G6)) ?_
  refine d9 (Ld.g fun hb => by have b6 := hb; first | exact (ld1 Tryd.isAgg4 (I.at1 (o := 0) (vs := [(Value.bool K9.fok)]) (nb rfl) rfl)) | (simp only [b7 b6]; exact (ld1 Tryd.isAgg4 (I.at1 (o := 0) (vs := [(Value.bool K9.fok)]) (nb rfl) rfl))) | (simp only [d7 b6, b7 b6, b7 hb, f8 b6, f9]; exact (ld1 Tryd.isAgg4 (I.at1 (o := 0) (vs := [(Value.bool K9.fok)]) (nb rfl) rfl)))) ?_
  refine a8 (k9 _ _) ?_
  refine j9 (fun c2i => ?_) (fun c2i => ?_)
  ·replace h := h.1 c2i
   refine a8 i8 ?_
   refine d9 (ld1 Tryd.isAgg22 ((I.bring 1).at1 (o := 3) (vs := [(vs x1.d8)]) (nb rfl) rfl)) ?_
   obtain ⟨c9v, h4Y, d5k, c9z, h⟩ := h
   obtain ⟨i1A, i1B, e2H, c9z⟩ := c9z
   refine a8 (m7 e2H _ _ _ _ c9v h4Y) ?_
   refine d9 (ldA (vs := (b8 d5k)) Tryd.isAgg24 Tryd.sizeOf24 rfl (I.atH c9z)) ?_
   refine f5 (cap := []) (fun args w => Tryd.call67 args w) ?_
   refine i6 (Fi := [bx g0 133 (k7 K9)]) (Fr := [bx g_2 24 (b8 x1)]) I (h g0) (fun i1C e3i i1D d0P c5s i1E h4Z h5a => ?_) (fun _ _ _ _ _ q => q.elim)
   obtain ⟨d5l, rfl, rfl, h⟩ := h5a
   refine a8 (s9 _ _ _ _ _ _) ?_
   exact hn2 _ _ _ (hm2 _ _ h).2 ⟨((IntKind.wrap .i64 (a0b + 1)), d5l), e3i, rfl, rfl, ((c5s.bring 1).bring 1), (hm2 _ _ h).1⟩
  ·replace h := h.2 c2i
   exact hR K9 H _ (I.bring 1).drop h
 refine s8 fun j1 hx1 => ?_
 refine a8 m9 ?_
 refine d9 (ld1 Tryd.isAgg3 (I_4.at1 (o := 0) (vs := [(vi x1.b9)]) (nb rfl) rfl)) ?_
 have hj3 : ∀ (b9T : Bool) (H : Hp) (w : World) (_ : Inv w0 ps0 H0 H [bx g_2 24 (b8 x1), bx g0 133 (k7 x0)] w) (_ : C3 0 x1.b9 b9T x1 x0 H K), d0o (Value.pointer (some ⟨g0, 0, none⟩)) (Value.pointer (some ⟨g_2, 0, none⟩)) (vi 0) (vi x1.b9) (Value.bool b9T) w j1 R E := by
  intro b9T H w I h
  unfold d0o
  intro _
  unfold C3 at h
  refine j9 (fun c1R => ?_) (fun c1R => ?_)
  ·replace h := h.1 c1R
   exact hx1 _ _ (hj1 0 x0 H _ ((I.bring 1).bring 1) h)
  ·replace h := h.2 c1R
   have hj4 : ∀ (b9R : Bool) (H : Hp) (w : World) (_ : Inv w0 ps0 H0 H [bx g_2 24 (b8 x1), bx g0 133 (k7 x0)] w) (_ : E5 0 x1.b9 b9R x1 x0 H K), d0n (Value.pointer (some ⟨g0, 0, none⟩)) (Value.pointer (some ⟨g_2, 0, none⟩)) (vi 0) (vi x1.b9) (Value.bool b9R) w j1 R E := by
    intro b9R H w I h
    unfold d0n
    intro _
    unfold E5 at h
    refine j9 (fun c1T => ?_) (fun c1T => ?_)
    ·replace h := h.1 c1T
     exact hx1 _ _ (hj1 1 x0 H _ ((I.bring 1).bring 1) h)
    ·replace h := h.2 c1T
     have hj5 : ∀ (b9Q : Bool) (H : Hp) (w : World) (_ : Inv w0 ps0 H0 H [bx g_2 24 (b8 x1), bx g0 133 (k7 x0)] w) (_ : u4 0 b9Q x1 x0 H K), d0m (Value.pointer (some ⟨g0, 0, none⟩)) (Value.pointer (some ⟨g_2, 0, none⟩)) (vi 0) (Value.bool b9Q) w j1 R E := by
      intro b9Q H w I h
      unfold d0m
      intro _
      unfold u4 at h
      refine j9 (fun b2M => ?_) (fun b2M => ?_)
      ·replace h := h.1 b2M
       exact hx1 _ _ (hj1 2 x0 H _ ((I.bring 1).bring 1) h)
      ·replace h := h.2 b2M
       refine a8 (r8 _) ?_
       refine a8 G6 ?_
       refine k3 (I.bring 1) Tryd.sizeOf4 (vs := [(Value.bool false)]) (cs' := [(Value.bool false), (Value.bool x0.fnames)]) rfl rfl (nb rfl) rfl rfl fun U7 c5I g2G => ?_
       exact hx1 _ _ (hj1 0 (f2.mk false x0.fnames) H _ (c5I.bring 1) h)
     refine s8 fun j5 hx5 => ?_
     refine a8 (f4 _ _ _ _ _ _) ?_
     refine g8 (fun b2K => ?_) (fun b2K => ?_)
     ·replace h := h.1 b2K
      exact hx5 _ _ (hj5 (decide (x1.b9 = 6)) H _ ((I.bring 1).bring 1) h)
     ·replace h := h.2 b2K
      refine a8 (f4 _ _ _ _ _ _) ?_
      refine g8 (fun a8j => ?_) (fun a8j => ?_)
      ·replace h := h.1 a8j
       exact hx5 _ _ (hj5 (decide (x1.b9 = 7)) H _ ((I.bring 1).bring 1) h)
      ·replace h := h.2 a8j
       refine a8 (f4 _ _ _ _ _ _) ?_
       refine g8 (fun b2L => ?_) (fun b2L => ?_)
       ·replace h := h.1 b2L
        exact hx5 _ _ (hj5 (decide (x1.b9 = 8)) H _ ((I.bring 1).bring 1) h)
       ·replace h := h.2 b2L
        refine a8 (f4 _ _ _ _ _ _) ?_
        refine g8 (fun a5t => ?_) (fun a5t => ?_)
        ·replace h := h.1 a5t
         exact hx5 _ _ (hj5 (decide (x1.b9 = 9)) H _ ((I.bring 1).bring 1) h)
        ·replace h := h.2 a5t
         refine a8 (f4 _ _ _ _ _ _) ?_
         exact hx5 _ _ (hj5 (decide (x1.b9 = 10)) H _ ((I.bring 1).bring 1) h)
   refine s8 fun j4 hx4 => ?_
   refine a8 (f4 _ _ _ _ _ _) ?_
   refine g8 (fun c1S => ?_) (fun c1S => ?_)
   ·replace h := h.1 c1S
    exact hx4 _ _ (hj4 (decide (x1.b9 = 4)) H _ ((I.bring 1).bring 1) h)
   ·replace h := h.2 c1S
    refine a8 (f4 _ _ _ _ _ _) ?_
    exact hx4 _ _ (hj4 (decide (x1.b9 = 5)) H _ ((I.bring 1).bring 1) h)
 refine s8 fun j3 hx3 => ?_
 refine a8 (f4 _ _ _ _ _ _) ?_
 refine g8 (fun c1P => ?_) (fun c1P => ?_)
 ·replace h := h.1 c1P
  exact hx3 _ _ (hj3 (decide (x1.b9 = 1)) H _ ((I_4.bring 1).bring 1) h)
 ·replace h := h.2 c1P
  refine a8 (f4 _ _ _ _ _ _) ?_
  refine g8 (fun c1Q => ?_) (fun c1Q => ?_)
  ·replace h := h.1 c1Q
   exact hx3 _ _ (hj3 (decide (x1.b9 = 2)) H _ ((I_4.bring 1).bring 1) h)
  ·replace h := h.2 c1Q
   refine a8 (f4 _ _ _ _ _ _) ?_
   exact hx3 _ _ (hj3 (decide (x1.b9 = 3)) H _ ((I_4.bring 1).bring 1) h)
theorem a9A (x0 : f2) (x1 : a7) {H : Hp} {K : f2 → Hp → Prop} (h : T6 x0 x1 H K) : M1 x0 x1 H K := by
 intro g0 w I
 refine g0J ?_
 refine a9d x0 x1 g0 I (fun y0 H' w' I' hk => ⟨H', _, I', y0, rfl, rfl, hk⟩) h
def T7 (x0 : f2) (H : Hp) (K : Int → Hp → Prop) : Prop :=
 ((!x0.fok) = true →
 K 30 H) ∧
 ((!x0.fok) = false →
 ((!x0.fnames) = true →
 K 31 H) ∧
 ((!x0.fnames) = false →
 K 0 H))
theorem a9e (x0 : f2) {w0 w : World} {ps0 : Nat → Prop} {H0 H : Hp} {K : Int → Hp → Prop} {R : Value → World → Prop} {E : Pan} (I : Inv w0 ps0 H0 H [] w) (hR : ∀ (r0 : Int) (H' : Hp) (w' : World) (_ : Inv w0 ps0 H0 H' [] w') (_ : K r0 H'), R (vi r0) w') (h : T7 x0 H K) : F68 (Value.agg (k7 x0).toArray) w R E := by
 unfold T7 at h
 unfold F68
 refine F7 I (cs := (k7 x0)) rfl fun g_2 w_3 I_4 k_5 => ?_
 refine a8 G6 ?_
 refine d9 (ld1 Tryd.isAgg4 (I_4.at1 (o := 0) (vs := [(Value.bool x0.fok)]) (nb rfl) rfl)) ?_
 refine a8 (C4 _) ?_
 refine j9 (fun c_7 => ?_) (fun c_7 => ?_)
 ·replace h := h.1 c_7
  exact hR 30 H _ I_4.drop h
 ·replace h := h.2 c_7
  refine a8 b4B ?_
  refine d9 (ld1 Tryd.isAgg4 (I_4.at1 (o := 1) (vs := [(Value.bool x0.fnames)]) (nb rfl) rfl)) ?_
  refine a8 (C4 _) ?_
  refine j9 (fun c_6 => ?_) (fun c_6 => ?_)
  ·replace h := h.1 c_6
   exact hR 31 H _ I_4.drop h
  ·replace h := h.2 c_6
   exact hR 0 H _ I_4.drop h
theorem a9B (x0 : f2) {H : Hp} {K : Int → Hp → Prop} (h : T7 x0 H K) : S7 x0 H K := by
 intro w I
 refine g0L ?_
 refine a9e x0 I (fun r0 H' w' I' hk => ⟨H', _, I', r0, rfl, rfl, hk⟩) h
def a0P (x0 : a7) (H : Hp) (K : Int → Hp → Prop) : Prop :=
 M0 (g6.mk 0 0 0) x0 1 H (fun (a2Z : g6) (b7g : Hp) =>
 (¬ (a2Z.fbad = 0) →
 K a2Z.fbad b7g) ∧
 (a2Z.fbad = 0 →
 M1 (f2.mk true true) x0 b7g (fun (b1s : f2) (a7y : Hp) =>
 S7 b1s a7y (fun (b7h : Int) (c2j : Hp) =>
 K b7h c2j))))
theorem b1t (x0 : a7) {w0 w : World} {ps0 : Nat → Prop} {H0 H : Hp} {K : Int → Hp → Prop} {R : Value → World → Prop} {E : Pan} (I : Inv w0 ps0 H0 H [] w) (hR : ∀ (r0 : Int) (H' : Hp) (w' : World) (_ : Inv w0 ps0 H0 H' [] w') (_ : K r0 H'), R (vi r0) w') (h : a0P x0 H K) : F39 (Value.agg (b8 x0).toArray) w R E := by
 unfold a0P at h
 unfold F39
 refine F7 I (cs := (b8 x0)) rfl fun g_2 w_3 I_4 k_5 => ?_
 refine a8 (c2Q ) ?_
 refine u2 I_4 Tryd.zeroValue130 (cs := [(vi 0), (vi 0), (vi 0)]) rfl fun g_7 w_8 I_9 a6F => ?_
 refine k3 I_9 Tryd.sizeOf130 (vs := [(vi 0), (vi 0), (vi 0)]) (cs' := [(vi 0), (vi 0), (vi 0)]) rfl rfl (nb rfl) rfl rfl fun K6 q5 a8S => ?_
 refine d9 (ldA Tryd.isAgg24 Tryd.sizeOf24 rfl ((q5.bring 1).at1 (o := 0) (vs := (b8 x0)) (nb rfl) rfl)) ?_
 refine f5 (cap := []) (fun args w => Tryd.call66 args w) ?_
 refine i6 (Fi := [bx g_7 130 [(vi 0), (vi 0), (vi 0)]]) (Fr := [bx g_2 24 (b8 x0)]) q5 (h g_7) (fun h5b b7g h5c b8w b3a e3l g2F e3m => ?_) (fun _ _ _ _ _ q => q.elim)
 obtain ⟨a2Z, rfl, rfl, h⟩ := e3m
 refine a8 J0 ?_
 refine d9 (ld1 Tryd.isAgg3 (b3a.at1 (o := 2) (vs := [(vi a2Z.fbad)]) (nb rfl) rfl)) ?_
 refine a8 (o4 _ _ _ _ _ _) ?_
 refine a3g (fun b2N => ?_) (fun b2N => ?_)
 ·replace h := h.1 b2N
  refine a8 J0 ?_
  refine d9 (ld1 Tryd.isAgg3 (b3a.at1 (o := 2) (vs := [(vi a2Z.fbad)]) (nb rfl) rfl)) ?_
  exact hR a2Z.fbad b7g _ b3a.drop.drop h
 ·replace h := h.2 b2N
  refine a8 (b5l _ _) ?_
  refine u2 b3a Tryd.zeroValue133 (cs := [(Value.bool false), (Value.bool false)]) rfl fun c2k b6m e3n h5d => ?_
  refine k3 e3n Tryd.sizeOf133 (vs := [(Value.bool true), (Value.bool true)]) (cs' := [(Value.bool true), (Value.bool true)]) rfl rfl (nb rfl) rfl rfl fun w4 b2H e2b => ?_
  refine d9 (ldA Tryd.isAgg24 Tryd.sizeOf24 rfl ((b2H.bring 2).at1 (o := 0) (vs := (b8 x0)) (nb rfl) rfl)) ?_
  refine f5 (cap := []) (fun args w => Tryd.call67 args w) ?_
  refine i6 (Fi := [bx c2k 133 [(Value.bool true), (Value.bool true)]]) (Fr := [bx g_7 130 (o6 a2Z), bx g_2 24 (b8 x0)]) b2H (h c2k) (fun c9B a7y f9U w5 a3u d4M b8M c9C => ?_) (fun _ _ _ _ _ q => q.elim)
  obtain ⟨b1s, rfl, rfl, h⟩ := c9C
  refine d9 (ldA Tryd.isAgg133 Tryd.sizeOf133 rfl (a3u.at1 (o := 0) (vs := (k7 b1s)) (nb rfl) rfl)) ?_
  refine f5 (cap := []) (fun args w => Tryd.call68 args w) ?_
  refine i6 (Fi := []) (Fr := [bx c2k 133 (k7 b1s), bx g_7 130 (o6 a2Z), bx g_2 24 (b8 x0)]) a3u (h) (fun h5e c2j h5f b2f c5J c9F g2H e3o => ?_) (fun _ _ _ _ _ q => q.elim)
  obtain ⟨b7h, rfl, rfl, h⟩ := e3o
  exact hR b7h c2j _ c5J.drop.drop.drop h
theorem b3b (x0 : a7) {H : Hp} {K : Int → Hp → Prop} (h : a0P x0 H K) : a3s x0 H K := by
 intro w I
 refine g0g ?_
 refine b1t x0 I (fun r0 H' w' I' hk => ⟨H', _, I', r0, rfl, rfl, hk⟩) h
def O7 (cr_1l4 : d5) (a8m : Int) (a4r : f2) (H : Hp) (n4 : (Int × f2) → Hp → Prop) (K : f2 → Hp → Prop) : Prop :=
 (((decide (a8m < (cr_1l4.i7.n : Int))) && a4r.fok) = true →
 (0 : Int) ≤ a8m ∧ (a8m : Int) < cr_1l4.i7.n ∧ ∃ d5n : d5, EltH H cr_1l4.i7 a8m 4 (d6 d5n) ∧
 S9 a4r d5n H (fun (E1 : f2) (b6K : Hp) =>
 n4 ((IntKind.wrap .i64 (a8m + 1)), E1) b6K)) ∧
 (((decide (a8m < (cr_1l4.i7.n : Int))) && a4r.fok) = false →
 K a4r H)
def O8 (b0w : f2) (cr_1j3 : d5) (H : Hp) (K : f2 → Hp → Prop) : Prop :=
 TL ((0, b0w) : Int × f2) H fun (s : Int × f2) H n4 => O7 cr_1j3 s.1 s.2 H n4 K
def O9 (cr_1l5 : d5) (a8n : Int) (a4s : f2) (H : Hp) (n5 : (Int × f2) → Hp → Prop) (K : f2 → Hp → Prop) : Prop :=
 (((decide (a8n < (cr_1l5.g5.n : Int))) && a4s.fok) = true →
 (0 : Int) ≤ a8n ∧ (a8n : Int) < cr_1l5.g5.n ∧ ∃ d5o : a7, EltH H cr_1l5.g5 a8n 4 (b8 d5o) ∧
 M1 a4s d5o H (fun (d5p : f2) (e3p : Hp) =>
 n5 ((IntKind.wrap .i64 (a8n + 1)), d5p) e3p)) ∧
 (((decide (a8n < (cr_1l5.g5.n : Int))) && a4s.fok) = false →
 O8 a4s cr_1l5 H K)
def E6 (b6T : Int) (h5g : Int) (b9f : Bool) (cr_1j2 : d5) (e5V : f2) (H : Hp) (K : f2 → Hp → Prop) : Prop :=
 TL ((0, (f2.mk (((e5V.fok && b9f) && (decide ((cr_1j2.g5.n : Int) = b6T))) && (decide ((cr_1j2.i7.n : Int) = h5g))) e5V.fnames)) : Int × f2) H fun (s : Int × f2) H n5 => O9 cr_1j2 s.1 s.2 H n5 K
def u5 (o9 : Int) (a4D : Int) (cr_1j1 : d5) (T0 : f2) (H : Hp) (K : f2 → Hp → Prop) : Prop :=
 (cr_1j1.b9 = 3 →
 E6 o9 a4D ((decide (1 ≤ cr_1j1.fOp)) && (decide (cr_1j1.fOp ≤ 6))) cr_1j1 T0 H K) ∧
 (¬ (cr_1j1.b9 = 3) →
 E6 o9 a4D (decide (cr_1j1.fOp = 0)) cr_1j1 T0 H K)
def E7 (g2I : Int) (h5h : Int) (b9U : Bool) (cr_1j7 : d5) (e5W : f2) (H : Hp) (K : f2 → Hp → Prop) : Prop :=
 (b9U = true →
 u5 g2I 2 cr_1j7 e5W H K) ∧
 (b9U = false →
 u5 g2I h5h cr_1j7 (f2.mk false e5W.fnames) H K)
def E8 (d5q : Int) (d5r : Int) (b4j : Int) (b9V : Bool) (cr_1j6 : d5) (c3y : f2) (H : Hp) (K : f2 → Hp → Prop) : Prop :=
 (b9V = true →
 u5 d5q d5r cr_1j6 c3y H K) ∧
 (b9V = false →
 (b4j = 3 →
 u5 2 d5r cr_1j6 c3y H K) ∧
 (¬ (b4j = 3) →
 (b4j = 4 →
 u5 d5q 1 cr_1j6 c3y H K) ∧
 (¬ (b4j = 4) →
 (b4j = 5 →
 E7 d5q d5r (decide (b4j = 5)) cr_1j6 c3y H K) ∧
 (¬ (b4j = 5) →
 E7 d5q d5r (decide (b4j = 6)) cr_1j6 c3y H K))))
def T8 (x0 : f2) (x1 : d5) (H : Hp) (K : f2 → Hp → Prop) : Prop :=
 (x1.b9 = 1 →
 E8 0 0 x1.b9 (decide (x1.b9 = 1)) x1 x0 H K) ∧
 (¬ (x1.b9 = 1) →
 E8 0 0 x1.b9 (decide (x1.b9 = 2)) x1 x0 H K)
theorem a9f (x0 : f2) (x1 : d5) (g0 : Nat) {w0 w : World} {ps0 : Nat → Prop} {H0 H : Hp} {K : f2 → Hp → Prop} {R : Value → World → Prop} {E : Pan} (I : Inv w0 ps0 H0 H [bx g0 133 (k7 x0)] w) (hR : ∀ (y0 : f2) (H' : Hp) (w' : World) (_ : Inv w0 ps0 H0 H' [bx g0 133 (k7 y0)] w') (_ : K y0 H'), R (Value.tuple #[]) w') (h : T8 x0 x1 H K) : F78 (Value.pointer (some ⟨g0, 0, none⟩)) (Value.agg (d6 x1).toArray) w R E := by
 unfold T8 at h
 unfold F78
 refine F7 I (cs := (d6 x1)) rfl fun g_2 w_3 I_4 k_5 => ?_
 have hj1 : ∀ (o9 : Int) (a4D : Int) (T0 : f2) (H : Hp) (w : World) (_ : Inv w0 ps0 H0 H [bx g_2 27 (d6 x1), bx g0 133 (k7 T0)] w) (_ : u5 o9 a4D x1 T0 H K), d0s (Value.pointer (some ⟨g0, 0, none⟩)) (Value.pointer (some ⟨g_2, 0, none⟩)) (vi o9) (vi a4D) w R E := by
  intro o9 a4D T0 H w I h
  unfold d0s
  intro _
  unfold u5 at h
  refine a8 G9 ?_
  refine d9 (ld1 Tryd.isAgg3 (I.at1 (o := 1) (vs := [(vi x1.fOp)]) (nb rfl) rfl)) ?_
  refine a8 (f4 _ _ _ _ _ _) ?_
  have hj2 : ∀ (b9f : Bool) (H : Hp) (w : World) (_ : Inv w0 ps0 H0 H [bx g_2 27 (d6 x1), bx g0 133 (k7 T0)] w) (_ : E6 o9 a4D b9f x1 T0 H K), d0q (Value.pointer (some ⟨g0, 0, none⟩)) (Value.pointer (some ⟨g_2, 0, none⟩)) (vi o9) (vi a4D) (Value.bool b9f) w R E := by
   intro b9f H w I h
   unfold d0q
   intro _
   unfold E6 at h
   refine a8 (r8 _) ?_
   refine a8 G6 ?_
   refine d9 (ld1 Tryd.isAgg4 ((I.bring 1).at1 (o := 0) (vs := [(Value.bool T0.fok)]) (nb rfl) rfl)) ?_
   try simp only [m4]
   refine a8 (k9 _ _) ?_
   refine a8 (Pu.g fun hb => by have b6 := hb; first | exact u1 | (simp only [d7 b6, b7 b6, b7 hb, m8 b6]; exact u1) | (simp only [d7 b6, b7 b6, b7 hb, f8 b6, f9]; exact u1)) ?_
   refine d9 (Ld.g fun hb => by have b6 := hb; first | exact (ld1 Tryd.isAgg22 (I.at1 (o := 2) (vs := [(vs x1.g5)]) (nb rfl) rfl)) | (simp only [b7 b6]; exact (ld1 Tryd.isAgg22 (I.at1 (o := 2) (vs := [(vs x1.g5)]) (nb rfl) rfl))) | (simp only [d7 b6, b7 b6, b7 hb, f8 b6, f9]; exact (ld1 Tryd.isAgg22 (I.at1 (o := 2) (vs := [(vs x1.g5)]) (nb rfl) rfl)))) ?_
   refine a8 (Pu.g fun hb => by have b6 := hb; first | exact (q6 _ _ _) | (simp only [b7 b6]; exact (q6 _ _ _)) | (simp only [d7 b6, b7 b6, b7 hb, f8 b6, f9]; exact (q6 _ _ _))) ?_
   try simp only [m4]
   refine a8 (Pu.g fun hb => by have b6 := hb; first | exact (f4 _ _ _ _ _ _) | (simp only [b7 b6]; exact (f4 _ _ _ _ _ _)) | (simp only [d7 b6, b7 b6, b7 hb, f8 b6, f9]; exact (f4 _ _ _ _ _ _))) ?_
   refine a8 (k9 _ _) ?_
   refine a8 (Pu.g fun hb => by have b6 := hb; first | exact s5 | (simp only [d7 b6, b7 b6, b7 hb, m8 b6]; exact s5) | (simp only [d7 b6, b7 b6, b7 hb, f8 b6, f9]; exact s5)) ?_
   refine d9 (Ld.g fun hb => by have b6 := hb; first | exact (ld1 Tryd.isAgg25 (I.at1 (o := 3) (vs := [(vs x1.i7)]) (nb rfl) rfl)) | (simp only [b7 b6]; exact (ld1 Tryd.isAgg25 (I.at1 (o := 3) (vs := [(vs x1.i7)]) (nb rfl) rfl))) | (simp only [d7 b6, b7 b6, b7 hb, f8 b6, f9]; exact (ld1 Tryd.isAgg25 (I.at1 (o := 3) (vs := [(vs x1.i7)]) (nb rfl) rfl)))) ?_
   refine a8 (Pu.g fun hb => by have b6 := hb; first | exact (H8 _ _ _) | (simp only [b7 b6]; exact (H8 _ _ _)) | (simp only [d7 b6, b7 b6, b7 hb, f8 b6, f9]; exact (H8 _ _ _))) ?_
   try simp only [m4]
   refine a8 (Pu.g fun hb => by have b6 := hb; first | exact (f4 _ _ _ _ _ _) | (simp only [b7 b6]; exact (f4 _ _ _ _ _ _)) | (simp only [d7 b6, b7 b6, b7 hb, f8 b6, f9]; exact (f4 _ _ _ _ _ _))) ?_
   refine a8 (k9 _ _) ?_
   refine a8 (r8 _) ?_
   refine a8 G6 ?_
   refine k3 (I.bring 1) Tryd.sizeOf4 (vs := [(Value.bool (((T0.fok && b9f) && (decide ((x1.g5.n : Int) = o9))) && (decide ((x1.i7.n : Int) = a4D))))]) (cs' := [(Value.bool (((T0.fok && b9f) && (decide ((x1.g5.n : Int) = o9))) && (decide ((x1.i7.n : Int) = a4D)))), (Value.bool T0.fnames)]) rfl rfl (nb rfl) rfl rfl fun w_6 I_7 k_8 => ?_
   have hj3 : ∀ (b0w : f2) (H : Hp) (w : World) (_ : Inv w0 ps0 H0 H [bx g0 133 (k7 b0w), bx g_2 27 (d6 x1)] w) (_ : O8 b0w x1 H K), d0p (Value.pointer (some ⟨g0, 0, none⟩)) (Value.pointer (some ⟨g_2, 0, none⟩)) w R E := by
    intro b0w H w I h
    unfold d0p
    intro _
    unfold O8 at h
    obtain ⟨e3q, d0Q, h5i, a8l⟩ := h
    refine I0 (J := fun n l w => ∃ (s : Int × f2) (H : Hp) , n = d0Q s ∧ l = (match s with | (a8m, a4r) => [(vi a8m)]) ∧ (match s with | (a8m, a4r) => Inv w0 ps0 H0 H [bx g0 133 (k7 a4r), bx g_2 27 (d6 x1)] w) ∧ e3q s H) ⟨_, (0, b0w), H, rfl, rfl, ((I.bring 1).bring 1), h5i⟩ ?_
    rintro i1F τ_72 w next4 ⟨⟨a8m, a4r⟩, H, rfl, e3r, I, h5j⟩ hn4
    dsimp only at e3r I
    simp only [List.map_cons, List.map_nil, List.cons.injEq, and_true] at e3r
    have e8 := e3r
    simp only [e8]
    obtain ⟨n4, hm4, h⟩ : ∃ n4 : (Int × f2) → Hp → Prop, (∀ s' H', n4 s' H' → e3q s' H' ∧ d0Q s' < d0Q (a8m, a4r)) ∧ O7 x1 a8m a4r H n4 K := ⟨_, fun _ _ h => h, a8l (a8m, a4r) H (fun s' H' => e3q s' H' ∧ d0Q s' < d0Q (a8m, a4r)) h5j (fun _ _ a b => ⟨a, b⟩)⟩
    unfold e0c
    unfold O7 at h
    refine a8 s5 ?_
    refine d9 (ld1 Tryd.isAgg25 ((I.bring 1).at1 (o := 3) (vs := [(vs x1.i7)]) (nb rfl) rfl)) ?_
    refine a8 (H8 _ _ _) ?_
    refine a8 (o3 _ _ _ _ _ _) ?_
    try simp only [m4]
    refine a8 (Pu.g fun hb => by have b6 := hb; first | exact (r8 _) | (simp only [b7 b6]; exact (r8 _)) | (simp only [d7 b6, b7 b6, b7 hb, f8 b6, f9]; exact (r8 _))) ?_
    refine a8 (Pu.g fun hb => by have b6 := hb; first | exact G6 | (simp only [b7 b6]; exact G6) | (simp only [d7 b6, b7 b6, b7 hb, f8 b6, f9]; exact G6)) ?_
    refine d9 (Ld.g fun hb => by have b6 := hb; first | exact (ld1 Tryd.isAgg4 (I.at1 (o := 0) (vs := [(Value.bool a4r.fok)]) (nb rfl) rfl)) | (simp only [b7 b6]; exact (ld1 Tryd.isAgg4 (I.at1 (o := 0) (vs := [(Value.bool a4r.fok)]) (nb rfl) rfl))) | (simp only [d7 b6, b7 b6, b7 hb, f8 b6, f9]; exact (ld1 Tryd.isAgg4 (I.at1 (o := 0) (vs := [(Value.bool a4r.fok)]) (nb rfl) rfl)))) ?_
    refine a8 (k9 _ _) ?_
    refine j9 (fun c1L => ?_) (fun c1L => ?_)
    ·replace h := h.1 c1L
     refine a8 s5 ?_
     refine d9 (ld1 Tryd.isAgg25 ((I.bring 1).at1 (o := 3) (vs := [(vs x1.i7)]) (nb rfl) rfl)) ?_
     obtain ⟨c5k, b4R, d5n, b6Z, h⟩ := h
     obtain ⟨i1G, i1H, b8S, b6Z⟩ := b6Z
     refine a8 (T9 b8S _ _ _ _ c5k b4R) ?_
     refine d9 (ldA (vs := (d6 d5n)) Tryd.isAgg27 Tryd.sizeOf27 rfl (I.atH b6Z)) ?_
     refine f5 (cap := []) (fun args w => Tryd.call78 args w) ?_
     refine i6 (Fi := [bx g0 133 (k7 a4r)]) (Fr := [bx g_2 27 (d6 x1)]) I (h g0) (fun h3I b6K h3J J5 b6M h3K h3L e1S => ?_) (fun _ _ _ _ _ q => q.elim)
     obtain ⟨E1, rfl, rfl, h⟩ := e1S
     refine a8 (s9 _ _ _ _ _ _) ?_
     exact hn4 _ _ _ (hm4 _ _ h).2 ⟨((IntKind.wrap .i64 (a8m + 1)), E1), b6K, rfl, rfl, ((b6M.bring 1).bring 1), (hm4 _ _ h).1⟩
    ·replace h := h.2 c1L
     exact hR a4r H _ (I.bring 1).drop h
   refine s8 fun j3 hx3 => ?_
   obtain ⟨d5s, c3z, g9A, g9B⟩ := h
   refine I0 (J := fun n l w => ∃ (s : Int × f2) (H : Hp) , n = c3z s ∧ l = (match s with | (a8n, a4s) => [(vi a8n)]) ∧ (match s with | (a8n, a4s) => Inv w0 ps0 H0 H [bx g0 133 (k7 a4s), bx g_2 27 (d6 x1)] w) ∧ d5s s H) ⟨_, (0, (f2.mk (((T0.fok && b9f) && (decide ((x1.g5.n : Int) = o9))) && (decide ((x1.i7.n : Int) = a4D))) T0.fnames)), H, rfl, rfl, ((I_7.bring 1).bring 1), g9A⟩ ?_
   rintro h6x τ_106 w next5 ⟨⟨a8n, a4s⟩, H, rfl, d5t, I, g9C⟩ hn5
   dsimp only at d5t I
   simp only [List.map_cons, List.map_nil, List.cons.injEq, and_true] at d5t
   have e7 := d5t
   simp only [e7]
   obtain ⟨n5, hm5, h⟩ : ∃ n5 : (Int × f2) → Hp → Prop, (∀ s' H', n5 s' H' → d5s s' H' ∧ c3z s' < c3z (a8n, a4s)) ∧ O9 x1 a8n a4s H n5 K := ⟨_, fun _ _ h => h, g9B (a8n, a4s) H (fun s' H' => d5s s' H' ∧ c3z s' < c3z (a8n, a4s)) g9C (fun _ _ a b => ⟨a, b⟩)⟩
   unfold e0d
   unfold O9 at h
   refine a8 u1 ?_
   refine d9 (ld1 Tryd.isAgg22 ((I.bring 1).at1 (o := 2) (vs := [(vs x1.g5)]) (nb rfl) rfl)) ?_
   refine a8 (q6 _ _ _) ?_
   refine a8 (o3 _ _ _ _ _ _) ?_
   try simp only [m4]
   refine a8 (Pu.g fun hb => by have b6 := hb; first | exact (r8 _) | (simp only [b7 b6]; exact (r8 _)) | (simp only [d7 b6, b7 b6, b7 hb, f8 b6, f9]; exact (r8 _))) ?_
   refine a8 (Pu.g fun hb => by have b6 := hb; first | exact G6 | (simp only [b7 b6]; exact G6) | (simp only [d7 b6, b7 b6, b7 hb, f8 b6, f9]; exact G6)) ?_
   refine d9 (Ld.g fun hb => by have b6 := hb; first | exact (ld1 Tryd.isAgg4 (I.at1 (o := 0) (vs := [(Value.bool a4s.fok)]) (nb rfl) rfl)) | (simp only [b7 b6]; exact (ld1 Tryd.isAgg4 (I.at1 (o := 0) (vs := [(Value.bool a4s.fok)]) (nb rfl) rfl))) | (simp only [d7 b6, b7 b6, b7 hb, f8 b6, f9]; exact (ld1 Tryd.isAgg4 (I.at1 (o := 0) (vs := [(Value.bool a4s.fok)]) (nb rfl) rfl)))) ?_
   refine a8 (k9 _ _) ?_
   refine j9 (fun d5u => ?_) (fun d5u => ?_)
   ·replace h := h.1 d5u
    refine a8 u1 ?_
    refine d9 (ld1 Tryd.isAgg22 ((I.bring 1).at1 (o := 2) (vs := [(vs x1.g5)]) (nb rfl) rfl)) ?_
    obtain ⟨c2l, d0R, d5o, e3s, h⟩ := h
    obtain ⟨i1I, i1J, c2m, e3s⟩ := e3s
    refine a8 (m7 c2m _ _ _ _ c2l d0R) ?_
    refine d9 (ldA (vs := (b8 d5o)) Tryd.isAgg24 Tryd.sizeOf24 rfl (I.atH e3s)) ?_
    refine f5 (cap := []) (fun args w => Tryd.call67 args w) ?_
    refine i6 (Fi := [bx g0 133 (k7 a4s)]) (Fr := [bx g_2 27 (d6 x1)]) I (h g0) (fun i1K e3p i1L a2H h5k i1M i1N h5l => ?_) (fun _ _ _ _ _ q => q.elim)
    obtain ⟨d5p, rfl, rfl, h⟩ := h5l
    refine a8 (s9 _ _ _ _ _ _) ?_
    exact hn5 _ _ _ (hm5 _ _ h).2 ⟨((IntKind.wrap .i64 (a8n + 1)), d5p), e3p, rfl, rfl, ((h5k.bring 1).bring 1), (hm5 _ _ h).1⟩
   ·replace h := h.2 d5u
    exact hx3 _ _ (hj3 a4s H _ ((I.bring 1).bring 1) h)
  refine s8 fun j2 hx2 => ?_
  refine a8 B3 ?_
  refine d9 (ld1 Tryd.isAgg3 (I.at1 (o := 0) (vs := [(vi x1.b9)]) (nb rfl) rfl)) ?_
  refine a8 (f4 _ _ _ _ _ _) ?_
  refine g8 (fun b7i => ?_) (fun b7i => ?_)
  ·replace h := h.1 b7i
   refine a8 G9 ?_
   refine d9 (ld1 Tryd.isAgg3 (I.at1 (o := 1) (vs := [(vi x1.fOp)]) (nb rfl) rfl)) ?_
   refine a8 (a0y _ _ _ _ _ _) ?_
   refine a8 (Pu.g fun hb => by have b6 := hb; first | exact G9 | (simp only [d7 b6, b7 b6, b7 hb, m8 b6]; exact G9) | (simp only [d7 b6, b7 b6, b7 hb, f8 b6, f9]; exact G9)) ?_
   refine d9 (Ld.g fun hb => by have b6 := hb; first | exact (ld1 Tryd.isAgg3 (I.at1 (o := 1) (vs := [(vi x1.fOp)]) (nb rfl) rfl)) | (simp only [b7 b6]; exact (ld1 Tryd.isAgg3 (I.at1 (o := 1) (vs := [(vi x1.fOp)]) (nb rfl) rfl))) | (simp only [d7 b6, b7 b6, b7 hb, f8 b6, f9]; exact (ld1 Tryd.isAgg3 (I.at1 (o := 1) (vs := [(vi x1.fOp)]) (nb rfl) rfl)))) ?_
   refine a8 (Pu.g fun hb => by have b6 := hb; first | exact (a0x _ _ _ _ _ _) | (simp only [b7 b6]; exact (a0x _ _ _ _ _ _)) | (simp only [d7 b6, b7 b6, b7 hb, f8 b6, f9]; exact (a0x _ _ _ _ _ _))) ?_
   refine a8 (k9 _ _) ?_
   exact hx2 _ _ (hj2 ((decide (1 ≤ x1.fOp)) && (decide (x1.fOp ≤ 6))) H _ ((I.bring 1).bring 1) h)
  ·replace h := h.2 b7i
   exact hx2 _ _ (hj2 (decide (x1.fOp = 0)) H _ ((I.bring 1).bring 1) h)
 refine s8 fun j1 hx1 => ?_
 refine a8 B3 ?_
 refine d9 (ld1 Tryd.isAgg3 (I_4.at1 (o := 0) (vs := [(vi x1.b9)]) (nb rfl) rfl)) ?_
 have hj6 : ∀ (b9V : Bool) (H : Hp) (w : World) (_ : Inv w0 ps0 H0 H [bx g_2 27 (d6 x1), bx g0 133 (k7 x0)] w) (_ : E8 0 0 x1.b9 b9V x1 x0 H K), d0u (Value.pointer (some ⟨g0, 0, none⟩)) (Value.pointer (some ⟨g_2, 0, none⟩)) (vi 0) (vi 0) (vi x1.b9) (Value.bool b9V) w j1 R E := by
  intro b9V H w I h
  unfold d0u
  intro _
  unfold E8 at h
  refine j9 (fun b7j => ?_) (fun b7j => ?_)
  ·replace h := h.1 b7j
   exact hx1 _ _ (hj1 0 0 x0 H _ ((I.bring 1).bring 1) h)
  ·replace h := h.2 b7j
   refine a8 (f4 _ _ _ _ _ _) ?_
   refine g8 (fun d5v => ?_) (fun d5v => ?_)
   ·replace h := h.1 d5v
    exact hx1 _ _ (hj1 2 0 x0 H _ ((I.bring 1).bring 1) h)
   ·replace h := h.2 d5v
    refine a8 (f4 _ _ _ _ _ _) ?_
    refine g8 (fun b6z => ?_) (fun b6z => ?_)
    ·replace h := h.1 b6z
     exact hx1 _ _ (hj1 0 1 x0 H _ ((I.bring 1).bring 1) h)
    ·replace h := h.2 b6z
     have hj7 : ∀ (b9U : Bool) (H : Hp) (w : World) (_ : Inv w0 ps0 H0 H [bx g_2 27 (d6 x1), bx g0 133 (k7 x0)] w) (_ : E7 0 0 b9U x1 x0 H K), d0t (Value.pointer (some ⟨g0, 0, none⟩)) (Value.pointer (some ⟨g_2, 0, none⟩)) (vi 0) (vi 0) (Value.bool b9U) w j1 R E := by
      intro b9U H w I h
      unfold d0t
      intro _
      unfold E7 at h
      refine j9 (fun b7k => ?_) (fun b7k => ?_)
      ·replace h := h.1 b7k
       exact hx1 _ _ (hj1 0 2 x0 H _ ((I.bring 1).bring 1) h)
      ·replace h := h.2 b7k
       refine a8 (r8 _) ?_
       refine a8 G6 ?_
       refine k3 (I.bring 1) Tryd.sizeOf4 (vs := [(Value.bool false)]) (cs' := [(Value.bool false), (Value.bool x0.fnames)]) rfl rfl (nb rfl) rfl rfl fun a5e c6P g9D => ?_
       exact hx1 _ _ (hj1 0 0 (f2.mk false x0.fnames) H _ (c6P.bring 1) h)
     refine s8 fun j7 hx7 => ?_
     refine a8 (f4 _ _ _ _ _ _) ?_
     refine g8 (fun d5w => ?_) (fun d5w => ?_)
     ·replace h := h.1 d5w
      exact hx7 _ _ (hj7 (decide (x1.b9 = 5)) H _ ((I.bring 1).bring 1) h)
     ·replace h := h.2 d5w
      refine a8 (f4 _ _ _ _ _ _) ?_
      exact hx7 _ _ (hj7 (decide (x1.b9 = 6)) H _ ((I.bring 1).bring 1) h)
 refine s8 fun j6 hx6 => ?_
 refine a8 (f4 _ _ _ _ _ _) ?_
 refine g8 (fun b7l => ?_) (fun b7l => ?_)
 ·replace h := h.1 b7l
  exact hx6 _ _ (hj6 (decide (x1.b9 = 1)) H _ ((I_4.bring 1).bring 1) h)
 ·replace h := h.2 b7l
  refine a8 (f4 _ _ _ _ _ _) ?_
  exact hx6 _ _ (hj6 (decide (x1.b9 = 2)) H _ ((I_4.bring 1).bring 1) h)
theorem a9C (x0 : f2) (x1 : d5) {H : Hp} {K : f2 → Hp → Prop} (h : T8 x0 x1 H K) : S9 x0 x1 H K := by
 intro g0 w I
 refine g1v ?_
 refine a9f x0 x1 g0 I (fun y0 H' w' I' hk => ⟨H', _, I', y0, rfl, rfl, hk⟩) h
def a0Q (x0 : d5) (H : Hp) (K : Int → Hp → Prop) : Prop :=
 S8 (g6.mk 0 0 0) x0 1 H (fun (a2Z : g6) (b7g : Hp) =>
 (¬ (a2Z.fbad = 0) →
 K a2Z.fbad b7g) ∧
 (a2Z.fbad = 0 →
 S9 (f2.mk true true) x0 b7g (fun (b1s : f2) (a7y : Hp) =>
 S7 b1s a7y (fun (b7h : Int) (c2j : Hp) =>
 K b7h c2j))))
theorem b1u (x0 : d5) {w0 w : World} {ps0 : Nat → Prop} {H0 H : Hp} {K : Int → Hp → Prop} {R : Value → World → Prop} {E : Pan} (I : Inv w0 ps0 H0 H [] w) (hR : ∀ (r0 : Int) (H' : Hp) (w' : World) (_ : Inv w0 ps0 H0 H' [] w') (_ : K r0 H'), R (vi r0) w') (h : a0Q x0 H K) : F43 (Value.agg (d6 x0).toArray) w R E := by
 unfold a0Q at h
 unfold F43
 refine F7 I (cs := (d6 x0)) rfl fun g_2 w_3 I_4 k_5 => ?_
 refine a8 (c2Q ) ?_
 refine u2 I_4 Tryd.zeroValue130 (cs := [(vi 0), (vi 0), (vi 0)]) rfl fun g_7 w_8 I_9 a6F => ?_
 refine k3 I_9 Tryd.sizeOf130 (vs := [(vi 0), (vi 0), (vi 0)]) (cs' := [(vi 0), (vi 0), (vi 0)]) rfl rfl (nb rfl) rfl rfl fun K6 q5 a8S => ?_
 refine d9 (ldA Tryd.isAgg27 Tryd.sizeOf27 rfl ((q5.bring 1).at1 (o := 0) (vs := (d6 x0)) (nb rfl) rfl)) ?_
 refine f5 (cap := []) (fun args w => Tryd.call77 args w) ?_
 refine i6 (Fi := [bx g_7 130 [(vi 0), (vi 0), (vi 0)]]) (Fr := [bx g_2 27 (d6 x0)]) q5 (h g_7) (fun h5b b7g h5c b8w b3a e3l g2F e3m => ?_) (fun _ _ _ _ _ q => q.elim)
 obtain ⟨a2Z, rfl, rfl, h⟩ := e3m
 refine a8 J0 ?_
 refine d9 (ld1 Tryd.isAgg3 (b3a.at1 (o := 2) (vs := [(vi a2Z.fbad)]) (nb rfl) rfl)) ?_
 refine a8 (o4 _ _ _ _ _ _) ?_
 refine a3g (fun b2N => ?_) (fun b2N => ?_)
 ·replace h := h.1 b2N
  refine a8 J0 ?_
  refine d9 (ld1 Tryd.isAgg3 (b3a.at1 (o := 2) (vs := [(vi a2Z.fbad)]) (nb rfl) rfl)) ?_
  exact hR a2Z.fbad b7g _ b3a.drop.drop h
 ·replace h := h.2 b2N
  refine a8 (b5l _ _) ?_
  refine u2 b3a Tryd.zeroValue133 (cs := [(Value.bool false), (Value.bool false)]) rfl fun c2k b6m e3n h5d => ?_
  refine k3 e3n Tryd.sizeOf133 (vs := [(Value.bool true), (Value.bool true)]) (cs' := [(Value.bool true), (Value.bool true)]) rfl rfl (nb rfl) rfl rfl fun w4 b2H e2b => ?_
  refine d9 (ldA Tryd.isAgg27 Tryd.sizeOf27 rfl ((b2H.bring 2).at1 (o := 0) (vs := (d6 x0)) (nb rfl) rfl)) ?_
  refine f5 (cap := []) (fun args w => Tryd.call78 args w) ?_
  refine i6 (Fi := [bx c2k 133 [(Value.bool true), (Value.bool true)]]) (Fr := [bx g_7 130 (o6 a2Z), bx g_2 27 (d6 x0)]) b2H (h c2k) (fun c9B a7y f9U w5 a3u d4M b8M c9C => ?_) (fun _ _ _ _ _ q => q.elim)
  obtain ⟨b1s, rfl, rfl, h⟩ := c9C
  refine d9 (ldA Tryd.isAgg133 Tryd.sizeOf133 rfl (a3u.at1 (o := 0) (vs := (k7 b1s)) (nb rfl) rfl)) ?_
  refine f5 (cap := []) (fun args w => Tryd.call68 args w) ?_
  refine i6 (Fi := []) (Fr := [bx c2k 133 (k7 b1s), bx g_7 130 (o6 a2Z), bx g_2 27 (d6 x0)]) a3u (h) (fun h5e c2j h5f b2f c5J c9F g2H e3o => ?_) (fun _ _ _ _ _ q => q.elim)
  obtain ⟨b7h, rfl, rfl, h⟩ := e3o
  exact hR b7h c2j _ c5J.drop.drop.drop h
theorem b3c (x0 : d5) {H : Hp} {K : Int → Hp → Prop} (h : a0Q x0 H K) : a3t x0 H K := by
 intro w I
 refine g0k ?_
 refine b1u x0 I (fun r0 H' w' I' hk => ⟨H', _, I', r0, rfl, rfl, hk⟩) h
end Go.Proofs.YtnhkdkcgdcgmdaaDoor
