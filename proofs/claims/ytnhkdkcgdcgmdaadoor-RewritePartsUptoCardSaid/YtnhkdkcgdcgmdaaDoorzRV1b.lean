/- Typed formulas of the program's functions, and the theorems that the contracts follow from them; printed by lift.py off the code. -/
import Derived.Test.YtnhkdkcgdcgmdaaDoorzRV1
namespace Go.Proofs.YtnhkdkcgdcgmdaaDoor
open Go.RowKit
set_option maxRecDepth 100000
set_option maxHeartbeats 2000000
def o2 (o9 : Bool) (H : Hp) (K : Bool → Hp → Prop) : Prop :=
 (o9 = true →
 K true H) ∧
 (o9 = false →
 K false H)
def a4M (x0 : ByteArray) (H : Hp) (K : Bool → Hp → Prop) : Prop :=
 (x0 = ⟨#[118, 97, 114]⟩ →
 o2 (decide (x0 = ⟨#[118, 97, 114]⟩)) H K) ∧
 (¬ (x0 = ⟨#[118, 97, 114]⟩) →
 (x0 = ⟨#[97, 114, 114, 97, 121]⟩ →
 o2 (decide (x0 = ⟨#[97, 114, 114, 97, 121]⟩)) H K) ∧
 (¬ (x0 = ⟨#[97, 114, 114, 97, 121]⟩) →
 (x0 = ⟨#[105, 102]⟩ →
 o2 (decide (x0 = ⟨#[105, 102]⟩)) H K) ∧
 (¬ (x0 = ⟨#[105, 102]⟩) →
 (x0 = ⟨#[101, 108, 115, 101]⟩ →
 o2 (decide (x0 = ⟨#[101, 108, 115, 101]⟩)) H K) ∧
 (¬ (x0 = ⟨#[101, 108, 115, 101]⟩) →
 (x0 = ⟨#[119, 104, 105, 108, 101]⟩ →
 o2 (decide (x0 = ⟨#[119, 104, 105, 108, 101]⟩)) H K) ∧
 (¬ (x0 = ⟨#[119, 104, 105, 108, 101]⟩) →
 (x0 = ⟨#[97, 115, 115, 101, 114, 116]⟩ →
 o2 (decide (x0 = ⟨#[97, 115, 115, 101, 114, 116]⟩)) H K) ∧
 (¬ (x0 = ⟨#[97, 115, 115, 101, 114, 116]⟩) →
 (x0 = ⟨#[97, 115, 115, 117, 109, 101]⟩ →
 o2 (decide (x0 = ⟨#[97, 115, 115, 117, 109, 101]⟩)) H K) ∧
 (¬ (x0 = ⟨#[97, 115, 115, 117, 109, 101]⟩) →
 (x0 = ⟨#[115, 107, 105, 112]⟩ →
 o2 (decide (x0 = ⟨#[115, 107, 105, 112]⟩)) H K) ∧
 (¬ (x0 = ⟨#[115, 107, 105, 112]⟩) →
 (x0 = ⟨#[105, 110, 112, 117, 116]⟩ →
 o2 (decide (x0 = ⟨#[105, 110, 112, 117, 116]⟩)) H K) ∧
 (¬ (x0 = ⟨#[105, 110, 112, 117, 116]⟩) →
 (x0 = ⟨#[116, 114, 117, 101]⟩ →
 o2 (decide (x0 = ⟨#[116, 114, 117, 101]⟩)) H K) ∧
 (¬ (x0 = ⟨#[116, 114, 117, 101]⟩) →
 o2 (decide (x0 = ⟨#[102, 97, 108, 115, 101]⟩)) H K))))))))))
theorem b8G (x0 : ByteArray) {w0 w : World} {ps0 : Nat → Prop} {H0 H : Hp} {K : Bool → Hp → Prop} {R : Value → World → Prop} {E : Pan} (I : Inv w0 ps0 H0 H [] w) (hR : ∀ (r0 : Bool) (H' : Hp) (w' : World) (_ : Inv w0 ps0 H0 H' [] w') (_ : K r0 H'), R (Value.bool r0) w') (h : a4M x0 H K) : d3N (Value.string x0) w R E := by
 unfold a4M at h
 unfold d3N
 have hj1 : ∀ (o9 : Bool) (H : Hp) (w : World) (_ : Inv w0 ps0 H0 H [] w) (_ : o2 o9 H K), c4F (Value.bool o9) w R E := by
  intro o9 H w I h
  unfold c4F
  intro _
  unfold o2 at h
  refine j9 (fun c_1 => ?_) (fun c_1 => ?_)
  ·replace h := h.1 c_1
   exact hR true H _ I h
  ·replace h := h.2 c_1
   exact hR false H _ I h
 refine s8 fun j1 hx1 => ?_
 refine a8 (I6 _ _ _ _ _) ?_
 refine g8 (fun a1F => ?_) (fun a1F => ?_)
 ·replace h := h.1 a1F
  exact hx1 _ _ (hj1 (decide (x0 = ⟨#[118, 97, 114]⟩)) H _ I h)
 ·replace h := h.2 a1F
  refine a8 (I6 _ _ _ _ _) ?_
  refine g8 (fun c1A => ?_) (fun c1A => ?_)
  ·replace h := h.1 c1A
   exact hx1 _ _ (hj1 (decide (x0 = ⟨#[97, 114, 114, 97, 121]⟩)) H _ I h)
  ·replace h := h.2 c1A
   refine a8 (I6 _ _ _ _ _) ?_
   refine g8 (fun c_9 => ?_) (fun c_9 => ?_)
   ·replace h := h.1 c_9
    exact hx1 _ _ (hj1 (decide (x0 = ⟨#[105, 102]⟩)) H _ I h)
   ·replace h := h.2 c_9
    refine a8 (I6 _ _ _ _ _) ?_
    refine g8 (fun c_8 => ?_) (fun c_8 => ?_)
    ·replace h := h.1 c_8
     exact hx1 _ _ (hj1 (decide (x0 = ⟨#[101, 108, 115, 101]⟩)) H _ I h)
    ·replace h := h.2 c_8
     refine a8 (I6 _ _ _ _ _) ?_
     refine g8 (fun c_7 => ?_) (fun c_7 => ?_)
     ·replace h := h.1 c_7
      exact hx1 _ _ (hj1 (decide (x0 = ⟨#[119, 104, 105, 108, 101]⟩)) H _ I h)
     ·replace h := h.2 c_7
      refine a8 (I6 _ _ _ _ _) ?_
      refine g8 (fun c_6 => ?_) (fun c_6 => ?_)
      ·replace h := h.1 c_6
       exact hx1 _ _ (hj1 (decide (x0 = ⟨#[97, 115, 115, 101, 114, 116]⟩)) H _ I h)
      ·replace h := h.2 c_6
       refine a8 (I6 _ _ _ _ _) ?_
       refine g8 (fun c_5 => ?_) (fun c_5 => ?_)
       ·replace h := h.1 c_5
        exact hx1 _ _ (hj1 (decide (x0 = ⟨#[97, 115, 115, 117, 109, 101]⟩)) H _ I h)
       ·replace h := h.2 c_5
        refine a8 (I6 _ _ _ _ _) ?_
        refine g8 (fun c_4 => ?_) (fun c_4 => ?_)
        ·replace h := h.1 c_4
         exact hx1 _ _ (hj1 (decide (x0 = ⟨#[115, 107, 105, 112]⟩)) H _ I h)
        ·replace h := h.2 c_4
         refine a8 (I6 _ _ _ _ _) ?_
         refine g8 (fun c_3 => ?_) (fun c_3 => ?_)
         ·replace h := h.1 c_3
          exact hx1 _ _ (hj1 (decide (x0 = ⟨#[105, 110, 112, 117, 116]⟩)) H _ I h)
         ·replace h := h.2 c_3
          refine a8 (I6 _ _ _ _ _) ?_
          refine g8 (fun c_2 => ?_) (fun c_2 => ?_)
          ·replace h := h.1 c_2
           exact hx1 _ _ (hj1 (decide (x0 = ⟨#[116, 114, 117, 101]⟩)) H _ I h)
          ·replace h := h.2 c_2
           refine a8 (I6 _ _ _ _ _) ?_
           exact hx1 _ _ (hj1 (decide (x0 = ⟨#[102, 97, 108, 115, 101]⟩)) H _ I h)
theorem c0F (x0 : ByteArray) {H : Hp} {K : Bool → Hp → Prop} (h : a4M x0 H K) : a2E x0 H K := by
 intro w I
 refine e8r ?_
 refine b8G x0 I (fun r0 H' w' I' hk => ⟨H', _, I', r0, rfl, rfl, hk⟩) h
def a2W (x0 : R5) (H : Hp) (K : f6 → Hp → Prop) : Prop :=
 K (f6.F0 (K4.mk x0)) H
theorem b5D (x0 : R5) {w0 w : World} {ps0 : Nat → Prop} {H0 H : Hp} {K : f6 → Hp → Prop} {R : Value → World → Prop} {E : Pan} (I : Inv w0 ps0 H0 H [] w) (hR : ∀ (r0 : f6) (H' : Hp) (w' : World) (_ : Inv w0 ps0 H0 H' [] w') (_ : K r0 H'), R (A6 r0) w') (h : a2W x0 H K) : F91 (Value.agg (v6 x0).toArray) w R E := by
 unfold a2W at h
 unfold F91
 refine F7 I (cs := (v6 x0)) rfl fun g_2 w_3 I_4 k_5 => ?_
 refine d9 (ldA Tryd.isAgg63 Tryd.sizeOf63 rfl (I_4.at1 (o := 0) (vs := (v6 x0)) (nb rfl) rfl)) ?_
 refine a8 (c7J _ _ _ _ _ _ _ _ _ _ _ _ _ _) ?_
 refine a8 (c4y (K4.mk x0)) ?_
 exact hR (f6.F0 (K4.mk x0)) H _ I_4.drop h
theorem b6J (x0 : R5) {H : Hp} {K : f6 → Hp → Prop} (h : a2W x0 H K) : a8P x0 H K := by
 intro w I
 refine f5U ?_
 refine b5D x0 I (fun r0 H' w' I' hk => ⟨H', _, I', r0, rfl, rfl, hk⟩) h
def B6 (h3B : Int) (b9D : Bool) (cr_1j3 : C8) (H : Hp) (K : Bool → Hp → Prop) : Prop :=
 (b9D = true →
 K (decide (h3B = 2)) H) ∧
 (b9D = false →
 K false H)
def J8 (c5j : Int) (a7h : Int) (b9E : Bool) (cr_1j2 : C8) (H : Hp) (K : Bool → Hp → Prop) : Prop :=
 (b9E = true →
 K (decide (c5j = 1)) H) ∧
 (b9E = false →
 (a7h = 6 →
 B6 c5j (decide (a7h = 6)) cr_1j2 H K) ∧
 (¬ (a7h = 6) →
 (a7h = 7 →
 B6 c5j (decide (a7h = 7)) cr_1j2 H K) ∧
 (¬ (a7h = 7) →
 (a7h = 8 →
 B6 c5j (decide (a7h = 8)) cr_1j2 H K) ∧
 (¬ (a7h = 8) →
 (a7h = 9 →
 B6 c5j (decide (a7h = 9)) cr_1j2 H K) ∧
 (¬ (a7h = 9) →
 B6 c5j (decide (a7h = 10)) cr_1j2 H K)))))
def J9 (a7x : Int) (a7i : Int) (b9F : Bool) (cr_1j1 : C8) (H : Hp) (K : Bool → Hp → Prop) : Prop :=
 (b9F = true →
 K (decide (a7x = 0)) H) ∧
 (b9F = false →
 (a7i = 4 →
 J8 a7x a7i (decide (a7i = 4)) cr_1j1 H K) ∧
 (¬ (a7i = 4) →
 J8 a7x a7i (decide (a7i = 5)) cr_1j1 H K))
def a1b (x0 : C8) (H : Hp) (K : Bool → Hp → Prop) : Prop :=
 a2i (f6.B0 x0) H (fun (T2 : ByteArray) (a5Z : Bool) (H_6 : Hp) =>
 ((((!decide (x0.m3.b9 = 1)) && (!decide (x0.m3.g9 = 0))) || ((!a5Z) && (!decide (x0.m3.g1 = ⟨#[]⟩)))) = true →
 K false H_6) ∧
 ((((!decide (x0.m3.b9 = 1)) && (!decide (x0.m3.g9 = 0))) || ((!a5Z) && (!decide (x0.m3.g1 = ⟨#[]⟩)))) = false →
 (x0.m3.b9 = 1 →
 K ((decide (0 ≤ x0.m3.g9)) && (decide ((x0.m3.d8.n : Int) = 0))) H_6) ∧
 (¬ (x0.m3.b9 = 1) →
 (x0.m3.b9 = 2 →
 J9 (x0.m3.d8.n : Int) x0.m3.b9 (decide (x0.m3.b9 = 2)) x0 H_6 K) ∧
 (¬ (x0.m3.b9 = 2) →
 J9 (x0.m3.d8.n : Int) x0.m3.b9 (decide (x0.m3.b9 = 3)) x0 H_6 K))))
theorem b2s (x0 : C8) {w0 w : World} {ps0 : Nat → Prop} {H0 H : Hp} {K : Bool → Hp → Prop} {R : Value → World → Prop} {E : Pan} (I : Inv w0 ps0 H0 H [] w) (hR : ∀ (r0 : Bool) (H' : Hp) (w' : World) (_ : Inv w0 ps0 H0 H' [] w') (_ : K r0 H'), R (Value.bool r0) w') (h : a1b x0 H K) : d3T (Value.agg (b8 x0.m3).toArray) w R E := by
 unfold a1b at h
 unfold d3T
 refine F7 I (cs := (b8 x0.m3)) rfl fun g_2 w_3 I_4 k_5 => ?_
 refine a8 H9 ?_
 refine a8 i8 ?_
 refine d9 (ld1 Tryd.isAgg22 (I_4.at1 (o := 3) (vs := [(vs x0.m3.d8)]) (nb rfl) rfl)) ?_
 refine a8 (q6 _ _ _) ?_
 refine d9 (ldA Tryd.isAgg123 Tryd.sizeOf123 rfl (I_4.at1 (o := 0) (vs := (b8 x0.m3)) (nb rfl) rfl)) ?_
 refine a8 (a9G x0) ?_
 refine f5 (cap := []) (fun args w => Tryd.call118 args w) ?_
 refine i6 (Fi := []) (Fr := [bx g_2 123 (b8 x0.m3)]) I_4 (h) (fun c1t H_6 b8E w_7 I_8 c1u k_9 a7Z => ?_) (fun _ _ _ _ _ q => q.elim)
 obtain ⟨T2, a5Z, rfl, rfl, h⟩ := a7Z
 refine a8 (i4 _ _ (Value.string T2) rfl) ?_
 refine a8 (i4 _ _ (Value.bool a5Z) rfl) ?_
 refine a8 H9 ?_
 refine a8 m9 ?_
 refine d9 (ld1 Tryd.isAgg3 (I_8.at1 (o := 0) (vs := [(vi x0.m3.b9)]) (nb rfl) rfl)) ?_
 refine a8 (o4 _ _ _ _ _ _) ?_
 refine a8 (Pu.g fun hb => by have b6 := hb; first | exact H9 | (simp only [d7 b6, b7 b6, b7 hb, m8 b6]; exact H9) | (simp only [d7 b6, b7 b6, b7 hb, f8 b6, f9]; exact H9)) ?_
 refine a8 (Pu.g fun hb => by have b6 := hb; first | exact B4 | (simp only [b7 b6]; exact B4) | (simp only [d7 b6, b7 b6, b7 hb, f8 b6, f9]; exact B4)) ?_
 refine d9 (Ld.g fun hb => by have b6 := hb; first | exact (ld1 Tryd.isAgg2 (I_8.at1 (o := 1) (vs := [(vi x0.m3.g9)]) (nb rfl) rfl)) | (simp only [b7 b6]; exact (ld1 Tryd.isAgg2 (I_8.at1 (o := 1) (vs := [(vi x0.m3.g9)]) (nb rfl) rfl))) | (simp only [d7 b6, b7 b6, b7 hb, f8 b6, f9]; exact (ld1 Tryd.isAgg2 (I_8.at1 (o := 1) (vs := [(vi x0.m3.g9)]) (nb rfl) rfl)))) ?_
 refine a8 (Pu.g fun hb => by have b6 := hb; first | exact (o4 _ _ _ _ _ _) | (simp only [b7 b6]; exact (o4 _ _ _ _ _ _)) | (simp only [d7 b6, b7 b6, b7 hb, f8 b6, f9]; exact (o4 _ _ _ _ _ _))) ?_
 refine a8 (k9 _ _) ?_
 try simp only [m4]
 refine a8 (Pu.g fun hb => by have b6 := hb; first | exact (C4 _) | (simp only [b7 b6]; exact (C4 _)) | (simp only [d7 b6, b7 b6, b7 hb, l9 b6, f9]; exact (C4 _))) ?_
 try simp only [F8]
 refine a8 (Pu.e (E3 _ _ _) (Pu.g fun hb => by obtain ⟨b6, i5⟩ := J3 hb; first | exact H9 | (simp only [d7 b6, b7 b6, d7 i5, b7 i5, b7 hb, f9]; exact H9) | (simp only [d7 b6, b7 b6, d7 i5, b7 i5, b7 hb, m8 hb]; exact H9) | (simp only [d7 b6, b7 b6, d7 i5, b7 i5, b7 hb, f8 hb, f9]; exact H9))) ?_
 refine a8 (Pu.e (E3 _ _ _) (Pu.g fun hb => by obtain ⟨b6, i5⟩ := J3 hb; first | exact U6 | (simp only [b7 hb]; exact U6) | (simp only [d7 b6, b7 b6, d7 i5, b7 i5, b7 hb, m8 hb]; exact U6) | (simp only [d7 b6, b7 b6, d7 i5, b7 i5, b7 hb, f8 hb, f9]; exact U6))) ?_
 refine d9 (Ld.e (E3 _ _ _) (Ld.g fun hb => by obtain ⟨b6, i5⟩ := J3 hb; first | exact (ld1 Tryd.isAgg9 (I_8.at1 (o := 2) (vs := [(Value.string x0.m3.g1)]) (nb rfl) rfl)) | (simp only [b7 hb]; exact (ld1 Tryd.isAgg9 (I_8.at1 (o := 2) (vs := [(Value.string x0.m3.g1)]) (nb rfl) rfl))) | (simp only [d7 b6, b7 b6, d7 i5, b7 i5, b7 hb, m8 hb]; exact (ld1 Tryd.isAgg9 (I_8.at1 (o := 2) (vs := [(Value.string x0.m3.g1)]) (nb rfl) rfl))) | (simp only [d7 b6, b7 b6, d7 i5, b7 i5, b7 hb, f8 hb, f9]; exact (ld1 Tryd.isAgg9 (I_8.at1 (o := 2) (vs := [(Value.string x0.m3.g1)]) (nb rfl) rfl))))) ?_
 refine a8 (Pu.e (E3 _ _ _) (Pu.g fun hb => by obtain ⟨b6, i5⟩ := J3 hb; first | exact (b1S _ _ _ _ _) | (simp only [b7 hb]; exact (b1S _ _ _ _ _)) | (simp only [d7 b6, b7 b6, d7 i5, b7 i5, b7 hb, m8 hb]; exact (b1S _ _ _ _ _)) | (simp only [d7 b6, b7 b6, d7 i5, b7 i5, b7 hb, f8 hb, f9]; exact (b1S _ _ _ _ _)))) ?_
 refine a8 (Pu.g fun hb => by have b6 := hb; first | exact (k9 _ _) | (simp only [b7 b6, J1 b6]; exact (k9 _ _)) | (simp only [d7 b6, b7 b6, b7 hb, l9 b6, f9]; exact (k9 _ _))) ?_
 refine a8 (A5 _ _) ?_
 refine j9 (fun c1B => ?_) (fun c1B => ?_)
 ·replace h := h.1 c1B
  exact hR false H_6 _ I_8.drop h
 ·replace h := h.2 c1B
  refine a8 H9 ?_
  refine a8 m9 ?_
  refine d9 (ld1 Tryd.isAgg3 (I_8.at1 (o := 0) (vs := [(vi x0.m3.b9)]) (nb rfl) rfl)) ?_
  refine a8 (f4 _ _ _ _ _ _) ?_
  refine g8 (fun a8c => ?_) (fun a8c => ?_)
  ·replace h := h.1 a8c
   refine a8 H9 ?_
   refine a8 B4 ?_
   refine d9 (ld1 Tryd.isAgg2 (I_8.at1 (o := 1) (vs := [(vi x0.m3.g9)]) (nb rfl) rfl)) ?_
   refine a8 (a0y _ _ _ _ _ _) ?_
   try simp only [m4]
   refine a8 (Pu.g fun hb => by have b6 := hb; first | exact (f4 _ _ _ _ _ _) | (simp only [b7 b6]; exact (f4 _ _ _ _ _ _)) | (simp only [d7 b6, b7 b6, b7 hb, f8 b6, f9]; exact (f4 _ _ _ _ _ _))) ?_
   refine a8 (k9 _ _) ?_
   exact hR ((decide (0 ≤ x0.m3.g9)) && (decide ((x0.m3.d8.n : Int) = 0))) H_6 _ I_8.drop h
  ·replace h := h.2 a8c
   have hj1 : ∀ (b9F : Bool) (H : Hp) (w : World) (_ : Inv w0 ps0 H0 H [bx g_2 123 (b8 x0.m3)] w) (_ : J9 (x0.m3.d8.n : Int) x0.m3.b9 b9F x0 H K), c4O (vi (x0.m3.d8.n : Int)) (vi x0.m3.b9) (Value.bool b9F) w R E := by
    intro b9F H w I h
    unfold c4O
    intro _
    unfold J9 at h
    refine j9 (fun b2t => ?_) (fun b2t => ?_)
    ·replace h := h.1 b2t
     refine a8 (f4 _ _ _ _ _ _) ?_
     exact hR (decide ((x0.m3.d8.n : Int) = 0)) H _ I.drop h
    ·replace h := h.2 b2t
     have hj2 : ∀ (b9E : Bool) (H : Hp) (w : World) (_ : Inv w0 ps0 H0 H [bx g_2 123 (b8 x0.m3)] w) (_ : J8 (x0.m3.d8.n : Int) x0.m3.b9 b9E x0 H K), c4N (vi (x0.m3.d8.n : Int)) (vi x0.m3.b9) (Value.bool b9E) w R E := by
      intro b9E H w I h
      unfold c4N
      intro _
      unfold J8 at h
      refine j9 (fun a3x => ?_) (fun a3x => ?_)
      ·replace h := h.1 a3x
       refine a8 (f4 _ _ _ _ _ _) ?_
       exact hR (decide ((x0.m3.d8.n : Int) = 1)) H _ I.drop h
      ·replace h := h.2 a3x
       have hj3 : ∀ (b9D : Bool) (H : Hp) (w : World) (_ : Inv w0 ps0 H0 H [bx g_2 123 (b8 x0.m3)] w) (_ : B6 (x0.m3.d8.n : Int) b9D x0 H K), c4M (vi (x0.m3.d8.n : Int)) (Value.bool b9D) w R E := by
        intro b9D H w I h
        unfold c4M
        intro _
        unfold B6 at h
        refine j9 (fun a5v => ?_) (fun a5v => ?_)
        ·replace h := h.1 a5v
         refine a8 (f4 _ _ _ _ _ _) ?_
         exact hR (decide ((x0.m3.d8.n : Int) = 2)) H _ I.drop h
        ·replace h := h.2 a5v
         exact hR false H _ I.drop h
       refine s8 fun j3 hx3 => ?_
       refine a8 (f4 _ _ _ _ _ _) ?_
       refine g8 (fun b2u => ?_) (fun b2u => ?_)
       ·replace h := h.1 b2u
        exact hx3 _ _ (hj3 (decide (x0.m3.b9 = 6)) H _ I h)
       ·replace h := h.2 b2u
        refine a8 (f4 _ _ _ _ _ _) ?_
        refine g8 (fun b2v => ?_) (fun b2v => ?_)
        ·replace h := h.1 b2v
         exact hx3 _ _ (hj3 (decide (x0.m3.b9 = 7)) H _ I h)
        ·replace h := h.2 b2v
         refine a8 (f4 _ _ _ _ _ _) ?_
         refine g8 (fun a8d => ?_) (fun a8d => ?_)
         ·replace h := h.1 a8d
          exact hx3 _ _ (hj3 (decide (x0.m3.b9 = 8)) H _ I h)
         ·replace h := h.2 a8d
          refine a8 (f4 _ _ _ _ _ _) ?_
          refine g8 (fun b2w => ?_) (fun b2w => ?_)
          ·replace h := h.1 b2w
           exact hx3 _ _ (hj3 (decide (x0.m3.b9 = 9)) H _ I h)
          ·replace h := h.2 b2w
           refine a8 (f4 _ _ _ _ _ _) ?_
           exact hx3 _ _ (hj3 (decide (x0.m3.b9 = 10)) H _ I h)
     refine s8 fun j2 hx2 => ?_
     refine a8 (f4 _ _ _ _ _ _) ?_
     refine g8 (fun a5w => ?_) (fun a5w => ?_)
     ·replace h := h.1 a5w
      exact hx2 _ _ (hj2 (decide (x0.m3.b9 = 4)) H _ I h)
     ·replace h := h.2 a5w
      refine a8 (f4 _ _ _ _ _ _) ?_
      exact hx2 _ _ (hj2 (decide (x0.m3.b9 = 5)) H _ I h)
   refine s8 fun j1 hx1 => ?_
   refine a8 (f4 _ _ _ _ _ _) ?_
   refine g8 (fun b2x => ?_) (fun b2x => ?_)
   ·replace h := h.1 b2x
    exact hx1 _ _ (hj1 (decide (x0.m3.b9 = 2)) H_6 _ I_8 h)
   ·replace h := h.2 b2x
    refine a8 (f4 _ _ _ _ _ _) ?_
    exact hx1 _ _ (hj1 (decide (x0.m3.b9 = 3)) H_6 _ I_8 h)
theorem b3E (x0 : C8) {H : Hp} {K : Bool → Hp → Prop} (h : a1b x0 H K) : a3V x0 H K := by
 intro w I
 refine e8E ?_
 refine b2s x0 I (fun r0 H' w' I' hk => ⟨H', _, I', r0, rfl, rfl, hk⟩) h
def K0 (b9G : Bool) (cr_6j2 : E2) (cr_1j2 : G3) (H : Hp) (K : Bool → Hp → Prop) : Prop :=
 (b9G = true →
 K (decide (cr_6j2.fexprs = 0 ∧ cr_6j2.fparts = 2)) H) ∧
 (b9G = false →
 K false H)
def K1 (a7i : Int) (b9H : Bool) (cr_6j1 : E2) (cr_1j1 : G3) (H : Hp) (K : Bool → Hp → Prop) : Prop :=
 (b9H = true →
 K (decide (cr_6j1.fexprs = 0 ∧ cr_6j1.fparts = 0)) H) ∧
 (b9H = false →
 (a7i = 4 →
 K (decide (cr_6j1.fexprs = 0 ∧ cr_6j1.fparts = 1)) H) ∧
 (¬ (a7i = 4) →
 (a7i = 5 →
 K0 (decide (a7i = 5)) cr_6j1 cr_1j1 H K) ∧
 (¬ (a7i = 5) →
 K0 (decide (a7i = 6)) cr_6j1 cr_1j1 H K)))
def a1d (x0 : G3) (H : Hp) (K : Bool → Hp → Prop) : Prop :=
 (x0.l7.b9 = 3 →
 K (((decide (1 ≤ x0.l7.fOp)) && (decide (x0.l7.fOp ≤ 6))) && (decide ((x0.l7.g5.n : Int) = 2 ∧ (x0.l7.i7.n : Int) = 0))) H) ∧
 (¬ (x0.l7.b9 = 3) →
 (¬ (x0.l7.fOp = 0) →
 K false H) ∧
 (x0.l7.fOp = 0 →
 (x0.l7.b9 = 1 →
 K1 x0.l7.b9 (decide (x0.l7.b9 = 1)) (E2.mk (x0.l7.g5.n : Int) (x0.l7.i7.n : Int)) x0 H K) ∧
 (¬ (x0.l7.b9 = 1) →
 K1 x0.l7.b9 (decide (x0.l7.b9 = 2)) (E2.mk (x0.l7.g5.n : Int) (x0.l7.i7.n : Int)) x0 H K)))
theorem b2y (x0 : G3) {w0 w : World} {ps0 : Nat → Prop} {H0 H : Hp} {K : Bool → Hp → Prop} {R : Value → World → Prop} {E : Pan} (I : Inv w0 ps0 H0 H [] w) (hR : ∀ (r0 : Bool) (H' : Hp) (w' : World) (_ : Inv w0 ps0 H0 H' [] w') (_ : K r0 H'), R (Value.bool r0) w') (h : a1d x0 H K) : d3X (Value.agg (d6 x0.l7).toArray) w R E := by
 unfold a1d at h
 unfold d3X
 refine F7 I (cs := (d6 x0.l7)) rfl fun g_2 w_3 I_4 k_5 => ?_
 refine a8 X2 ?_
 refine a8 u1 ?_
 refine d9 (ld1 Tryd.isAgg22 (I_4.at1 (o := 2) (vs := [(vs x0.l7.g5)]) (nb rfl) rfl)) ?_
 refine a8 (q6 _ _ _) ?_
 refine a8 X2 ?_
 refine a8 s5 ?_
 refine d9 (ld1 Tryd.isAgg25 (I_4.at1 (o := 3) (vs := [(vs x0.l7.i7)]) (nb rfl) rfl)) ?_
 refine a8 (H8 _ _ _) ?_
 refine a8 (a3i _ _) ?_
 refine u2 I_4 Tryd.zeroValue223 (cs := [(vi 0), (vi 0)]) rfl fun g_7 w_8 I_9 a6F => ?_
 refine k3 I_9 Tryd.sizeOf223 (vs := [(vi (x0.l7.g5.n : Int)), (vi (x0.l7.i7.n : Int))]) (cs' := [(vi (x0.l7.g5.n : Int)), (vi (x0.l7.i7.n : Int))]) rfl rfl (nb rfl) rfl rfl fun K6 q5 a8S => ?_
 refine a8 X2 ?_
 refine a8 B3 ?_
 refine d9 (ld1 Tryd.isAgg3 ((q5.bring 1).at1 (o := 0) (vs := [(vi x0.l7.b9)]) (nb rfl) rfl)) ?_
 refine a8 (f4 _ _ _ _ _ _) ?_
 refine g8 (fun a3x => ?_) (fun a3x => ?_)
 ·replace h := h.1 a3x
  refine a8 X2 ?_
  refine a8 G9 ?_
  refine d9 (ld1 Tryd.isAgg3 ((q5.bring 1).at1 (o := 1) (vs := [(vi x0.l7.fOp)]) (nb rfl) rfl)) ?_
  refine a8 (a0y _ _ _ _ _ _) ?_
  refine a8 (Pu.g fun hb => by have b6 := hb; first | exact X2 | (simp only [d7 b6, b7 b6, b7 hb, m8 b6]; exact X2) | (simp only [d7 b6, b7 b6, b7 hb, f8 b6, f9]; exact X2)) ?_
  refine a8 (Pu.g fun hb => by have b6 := hb; first | exact G9 | (simp only [b7 b6]; exact G9) | (simp only [d7 b6, b7 b6, b7 hb, f8 b6, f9]; exact G9)) ?_
  refine d9 (Ld.g fun hb => by have b6 := hb; first | exact (ld1 Tryd.isAgg3 ((q5.bring 1).at1 (o := 1) (vs := [(vi x0.l7.fOp)]) (nb rfl) rfl)) | (simp only [b7 b6]; exact (ld1 Tryd.isAgg3 ((q5.bring 1).at1 (o := 1) (vs := [(vi x0.l7.fOp)]) (nb rfl) rfl))) | (simp only [d7 b6, b7 b6, b7 hb, f8 b6, f9]; exact (ld1 Tryd.isAgg3 ((q5.bring 1).at1 (o := 1) (vs := [(vi x0.l7.fOp)]) (nb rfl) rfl)))) ?_
  refine a8 (Pu.g fun hb => by have b6 := hb; first | exact (a0x _ _ _ _ _ _) | (simp only [b7 b6]; exact (a0x _ _ _ _ _ _)) | (simp only [d7 b6, b7 b6, b7 hb, f8 b6, f9]; exact (a0x _ _ _ _ _ _))) ?_
  refine a8 (k9 _ _) ?_
  refine d9 (Ld.g fun hb => by have b6 := hb; first | exact (ldA Tryd.isAgg223 Tryd.sizeOf223 rfl (q5.at1 (o := 0) (vs := [(vi (x0.l7.g5.n : Int)), (vi (x0.l7.i7.n : Int))]) (nb rfl) rfl)) | (simp only [d7 b6, b7 b6, b7 hb, m8 b6]; exact (ldA Tryd.isAgg223 Tryd.sizeOf223 rfl (q5.at1 (o := 0) (vs := [(vi (x0.l7.g5.n : Int)), (vi (x0.l7.i7.n : Int))]) (nb rfl) rfl))) | (simp only [d7 b6, b7 b6, b7 hb, f8 b6, f9]; exact (ldA Tryd.isAgg223 Tryd.sizeOf223 rfl (q5.at1 (o := 0) (vs := [(vi (x0.l7.g5.n : Int)), (vi (x0.l7.i7.n : Int))]) (nb rfl) rfl)))) ?_
  refine a8 (Pu.g fun hb => by have b6 := hb; first | exact (a3i _ _) | (simp only [d7 b6, b7 b6, b7 hb, m8 b6]; exact (a3i _ _)) | (simp only [d7 b6, b7 b6, b7 hb, f8 b6, f9]; exact (a3i _ _))) ?_
  refine a8 (Pu.g fun hb => by have b6 := hb; first | exact (a8t _ _ _ _ _ _) | (simp only [b7 b6]; exact (a8t _ _ _ _ _ _)) | (simp only [d7 b6, b7 b6, b7 hb, f8 b6, f9]; exact (a8t _ _ _ _ _ _))) ?_
  refine a8 (k9 _ _) ?_
  exact hR (((decide (1 ≤ x0.l7.fOp)) && (decide (x0.l7.fOp ≤ 6))) && (decide ((x0.l7.g5.n : Int) = 2 ∧ (x0.l7.i7.n : Int) = 0))) H _ q5.drop.drop h
 ·replace h := h.2 a3x
  refine a8 X2 ?_
  refine a8 G9 ?_
  refine d9 (ld1 Tryd.isAgg3 ((q5.bring 1).at1 (o := 1) (vs := [(vi x0.l7.fOp)]) (nb rfl) rfl)) ?_
  refine a8 (o4 _ _ _ _ _ _) ?_
  refine a3g (fun b2u => ?_) (fun b2u => ?_)
  ·replace h := h.1 b2u
   exact hR false H _ q5.drop.drop h
  ·replace h := h.2 b2u
   refine a8 X2 ?_
   refine a8 B3 ?_
   refine d9 (ld1 Tryd.isAgg3 ((q5.bring 1).at1 (o := 0) (vs := [(vi x0.l7.b9)]) (nb rfl) rfl)) ?_
   have hj1 : ∀ (b9H : Bool) (H : Hp) (w : World) (_ : Inv w0 ps0 H0 H [bx g_7 223 [(vi (E2.mk (x0.l7.g5.n : Int) (x0.l7.i7.n : Int)).fexprs), (vi (E2.mk (x0.l7.g5.n : Int) (x0.l7.i7.n : Int)).fparts)], bx g_2 138 (d6 x0.l7)] w) (_ : K1 x0.l7.b9 b9H (E2.mk (x0.l7.g5.n : Int) (x0.l7.i7.n : Int)) x0 H K), c4R (Value.pointer (some ⟨g_7, 0, none⟩)) (vi x0.l7.b9) (Value.bool b9H) w R E := by
    intro b9H H w I h
    unfold c4R
    intro _
    unfold K1 at h
    refine j9 (fun a8d => ?_) (fun a8d => ?_)
    ·replace h := h.1 a8d
     refine d9 (ldA Tryd.isAgg223 Tryd.sizeOf223 rfl (I.at1 (o := 0) (vs := [(vi (E2.mk (x0.l7.g5.n : Int) (x0.l7.i7.n : Int)).fexprs), (vi (E2.mk (x0.l7.g5.n : Int) (x0.l7.i7.n : Int)).fparts)]) (nb rfl) rfl)) ?_
     refine a8 (d3E ) ?_
     refine a8 (a8t _ _ _ _ _ _) ?_
     exact hR (decide ((E2.mk (x0.l7.g5.n : Int) (x0.l7.i7.n : Int)).fexprs = 0 ∧ (E2.mk (x0.l7.g5.n : Int) (x0.l7.i7.n : Int)).fparts = 0)) H _ I.drop.drop h
    ·replace h := h.2 a8d
     refine a8 (f4 _ _ _ _ _ _) ?_
     refine g8 (fun b2w => ?_) (fun b2w => ?_)
     ·replace h := h.1 b2w
      refine d9 (ldA Tryd.isAgg223 Tryd.sizeOf223 rfl (I.at1 (o := 0) (vs := [(vi (E2.mk (x0.l7.g5.n : Int) (x0.l7.i7.n : Int)).fexprs), (vi (E2.mk (x0.l7.g5.n : Int) (x0.l7.i7.n : Int)).fparts)]) (nb rfl) rfl)) ?_
      refine a8 (a3i _ _) ?_
      refine a8 (a8t _ _ _ _ _ _) ?_
      exact hR (decide ((E2.mk (x0.l7.g5.n : Int) (x0.l7.i7.n : Int)).fexprs = 0 ∧ (E2.mk (x0.l7.g5.n : Int) (x0.l7.i7.n : Int)).fparts = 1)) H _ I.drop.drop h
     ·replace h := h.2 b2w
      have hj2 : ∀ (b9G : Bool) (H : Hp) (w : World) (_ : Inv w0 ps0 H0 H [bx g_7 223 [(vi (E2.mk (x0.l7.g5.n : Int) (x0.l7.i7.n : Int)).fexprs), (vi (E2.mk (x0.l7.g5.n : Int) (x0.l7.i7.n : Int)).fparts)], bx g_2 138 (d6 x0.l7)] w) (_ : K0 b9G (E2.mk (x0.l7.g5.n : Int) (x0.l7.i7.n : Int)) x0 H K), c4Q (Value.pointer (some ⟨g_7, 0, none⟩)) (Value.bool b9G) w R E := by
       intro b9G H w I h
       unfold c4Q
       intro _
       unfold K0 at h
       refine j9 (fun b2z => ?_) (fun b2z => ?_)
       ·replace h := h.1 b2z
        refine d9 (ldA Tryd.isAgg223 Tryd.sizeOf223 rfl (I.at1 (o := 0) (vs := [(vi (E2.mk (x0.l7.g5.n : Int) (x0.l7.i7.n : Int)).fexprs), (vi (E2.mk (x0.l7.g5.n : Int) (x0.l7.i7.n : Int)).fparts)]) (nb rfl) rfl)) ?_
        refine a8 (a3i _ _) ?_
        refine a8 (a8t _ _ _ _ _ _) ?_
        exact hR (decide ((E2.mk (x0.l7.g5.n : Int) (x0.l7.i7.n : Int)).fexprs = 0 ∧ (E2.mk (x0.l7.g5.n : Int) (x0.l7.i7.n : Int)).fparts = 2)) H _ I.drop.drop h
       ·replace h := h.2 b2z
        exact hR false H _ I.drop.drop h
      refine s8 fun j2 hx2 => ?_
      refine a8 (f4 _ _ _ _ _ _) ?_
      refine g8 (fun a5v => ?_) (fun a5v => ?_)
      ·replace h := h.1 a5v
       exact hx2 _ _ (hj2 (decide (x0.l7.b9 = 5)) H _ ((I.bring 1).bring 1) h)
      ·replace h := h.2 a5v
       refine a8 (f4 _ _ _ _ _ _) ?_
       exact hx2 _ _ (hj2 (decide (x0.l7.b9 = 6)) H _ ((I.bring 1).bring 1) h)
   refine s8 fun j1 hx1 => ?_
   refine a8 (f4 _ _ _ _ _ _) ?_
   refine g8 (fun b2v => ?_) (fun b2v => ?_)
   ·replace h := h.1 b2v
    exact hx1 _ _ (hj1 (decide (x0.l7.b9 = 1)) H _ ((q5.bring 1).bring 1) h)
   ·replace h := h.2 b2v
    refine a8 (f4 _ _ _ _ _ _) ?_
    exact hx1 _ _ (hj1 (decide (x0.l7.b9 = 2)) H _ ((q5.bring 1).bring 1) h)
theorem b3F (x0 : G3) {H : Hp} {K : Bool → Hp → Prop} (h : a1d x0 H K) : a3W x0 H K := by
 intro w I
 refine e8N ?_
 refine b2y x0 I (fun r0 H' w' I' hk => ⟨H', _, I', r0, rfl, rfl, hk⟩) h
def y5 (R9 : (List f6)) (H : Hp) (K : Sl → Hp → Prop) : Prop :=
 ∀ (A7 : Sl) (U8 : Hp), Hle H U8 → SlH U8 1 p9 A7 R9 → A7.n ≤ A7.c →
 K A7 U8
def y6 (a0X : Sl) (a6H : Int) (r6 : (List f6)) (p6 : Int) (H : Hp) (n2 : ((List f6) × Int) → Hp → Prop) (K : Sl → Hp → Prop) : Prop :=
 (p6 < a6H →
 (0 : Int) ≤ p6 ∧ (p6 : Int) < a0X.n ∧ ∃ x_1 : d5, EltH H a0X p6 4 (d6 x_1) ∧
 a8R x_1 H (fun (L0 : f6) (Z9 : Hp) =>
 (r6.length + ([L0] : List f6).length) * 17 ≤ 140737488355328 ∧
 n2 ((r6 ++ [L0]), (IntKind.wrap .i64 (p6 + 1))) Z9)) ∧
 (¬ (p6 < a6H) →
 y5 r6 H K)
def A0 (x0 : Sl) (H : Hp) (K : Sl → Hp → Prop) : Prop :=
 TL (([], 0) : (List f6) × Int) H fun (s : (List f6) × Int) H n2 => y6 x0 (x0.n : Int) s.1 s.2 H n2 K
theorem a1x (x0 : Sl) {w0 w : World} {ps0 : Nat → Prop} {H0 H : Hp} {K : Sl → Hp → Prop} {R : Value → World → Prop} {E : Pan} (I : Inv w0 ps0 H0 H [] w) (hR : ∀ (r0 : Sl) (H' : Hp) (w' : World) (_ : Inv w0 ps0 H0 H' [] w') (_ : K r0 H'), R (vs r0) w') (h : A0 x0 H K) : d4a (vs x0) (Value.func (.func 176) #[] #[]) w R E := by
 unfold A0 at h
 unfold d4a
 have hj1 : ∀ (R9 : (List f6)) (A7 : Sl) (Fs5j1 : Frag) (H : Hp) (w : World) (_ : RowL 152 1 p9 A7 R9 Fs5j1) (_ : Inv w0 ps0 H0 H [Fs5j1] w) (_ : y5 R9 H K), c4S (vs A7) w R E := by
  intro R9 A7 Fs5j1 H w b1i I h
  unfold c4S
  intro _
  unfold y5 at h
  obtain ⟨U8, b2o, b4P, a5V, a6I⟩ := Inv.freezeC I b1i (by decide)
  replace h := h A7 U8 b4P a5V a6I
  exact hR A7 U8 _ b2o h
 refine s8 fun j1 hx1 => ?_
 refine a8 (H8 _ _ _) ?_
 obtain ⟨a5u, a0E, b6A, b6B⟩ := h
 refine I0 (J := fun n l w => ∃ (s : (List f6) × Int) (H : Hp) (S2 : Sl) (Fs5l2 : Frag) , n = a0E s ∧ l = (match s with | (r6, p6) => [(vs S2), (vi p6)]) ∧ (match s with | (r6, p6) => RowL 152 1 p9 S2 r6 Fs5l2) ∧ (match s with | (r6, p6) => Inv w0 ps0 H0 H [Fs5l2] w) ∧ a5u s H) ⟨_, ([], 0), H, (Sl.mk none 0 0), [], rfl, rfl, (RowL.nil N0 R4), I.nil, b6A⟩ ?_
 rintro d4u τ_50 w next2 ⟨⟨r6, p6⟩, H, S2, Fs5l2, rfl, a4C, a2S, I, b6C⟩ hn2
 dsimp only at a4C I a2S
 simp only [List.map_cons, List.map_nil, List.cons.injEq, and_true] at a4C
 obtain ⟨e5, e10⟩ := a4C
 simp only [e5, e10]
 obtain ⟨n2, hm2, h⟩ : ∃ n2 : ((List f6) × Int) → Hp → Prop, (∀ s' H', n2 s' H' → a5u s' H' ∧ a0E s' < a0E (r6, p6)) ∧ y6 x0 (x0.n : Int) r6 p6 H n2 K := ⟨_, fun _ _ h => h, b6B (r6, p6) H (fun s' H' => a5u s' H' ∧ a0E s' < a0E (r6, p6)) b6C (fun _ _ a b => ⟨a, b⟩)⟩
 unfold d2y
 unfold y6 at h
 refine a8 (o3 _ _ _ _ _ _) ?_
 refine g8 (fun a3v => ?_) (fun a3v => ?_)
 ·replace h := h.1 a3v
  obtain ⟨h_4, h_5, x_1, h_7, h⟩ := h
  obtain ⟨g_2, o_3, h_6, h_7⟩ := h_7
  refine a8 (T9 h_6 _ _ _ _ h_4 h_5) ?_
  refine d9 (ldA (vs := (d6 x_1)) Tryd.isAgg27 Tryd.sizeOf27 rfl (I.atH h_7)) ?_
  refine u2 I Tryd.zeroValue27 (cs := [(vi 0), (vi 0), (Value.slice none 0 0), (Value.slice none 0 0)]) rfl fun g_9 l0 a3w b4Q => ?_
  refine k3 a3w Tryd.sizeOf27 (vs := (d6 x_1)) (cs' := (d6 x_1)) rfl rfl (nb rfl) rfl rfl fun a2w J7 a2T => ?_
  refine d9 (ldA Tryd.isAgg27 Tryd.sizeOf27 rfl (J7.at1 (o := 0) (vs := (d6 x_1)) (nb rfl) rfl)) ?_
  refine f5 (cap := []) (fun args w => Tryd.call176 args w) ?_
  refine i6 (Fi := []) (Fr := [bx g_9 27 (d6 x_1), Fs5l2]) J7 (h) (fun c9g Z9 c5f a1C a5r c9h c9i b2p => ?_) (fun _ _ _ _ _ q => q.elim)
  obtain ⟨L0, rfl, rfl, h⟩ := b2p
  refine a5R (e := 152) (c := p9) (xs := [L0]) a5r (b1V _) rfl rfl N0 R4 (nb rfl) fun c5g b8F w4 a8a a0F a8V => ?_
  obtain ⟨b2q, h⟩ := h
  refine b9w (s := S2) (xs := r6) (a0F.bring 2) a2S (a8a.srcO ((a0F.bring 2).bring 1)) b2q fun a7v b0P z2 a9Q a7w c5h => ?_
  refine a8 (s9 _ _ _ _ _ _) ?_
  exact hn2 _ _ _ (hm2 _ _ h).2 ⟨((r6 ++ [L0]), (IntKind.wrap .i64 (p6 + 1))), Z9, a7v, b0P, rfl, rfl, a9Q, ((a7w.bring 1).drop.bring 1).drop, (hm2 _ _ h).1⟩
 ·replace h := h.2 a3v
  exact hx1 _ _ (hj1 r6 S2 Fs5l2 H _ a2S I h)
theorem a1G (x0 : Sl) {H : Hp} {K : Sl → Hp → Prop} (h : A0 x0 H K) : z7 x0 H K := by
 intro w I
 refine e8R ?_
 refine a1x x0 I (fun r0 H' w' I' hk => ⟨H', _, I', r0, rfl, rfl, hk⟩) h
def a1e (x0 : a0z) (H : Hp) (K : Bool → Hp → Prop) : Prop :=
 K ((decide (0 ≤ x0.O0.a5W)) && (decide (x0.O0.a5W ≤ 2147483647))) H
theorem b2A (x0 : a0z) {w0 w : World} {ps0 : Nat → Prop} {H0 H : Hp} {K : Bool → Hp → Prop} {R : Value → World → Prop} {E : Pan} (I : Inv w0 ps0 H0 H [] w) (hR : ∀ (r0 : Bool) (H' : Hp) (w' : World) (_ : Inv w0 ps0 H0 H' [] w') (_ : K r0 H'), R (Value.bool r0) w') (h : a1e x0 H K) : d4c (Value.agg (a1R x0.O0).toArray) w R E := by
 unfold a1e at h
 unfold d4c
 refine F7 I (cs := (a1R x0.O0)) rfl fun g_2 w_3 I_4 k_5 => ?_
 refine a8 a7F ?_
 refine a8 b1e ?_
 refine d9 (ld1 Tryd.isAgg3 (I_4.at1 (o := 1) (vs := [(vi x0.O0.a5W)]) (nb rfl) rfl)) ?_
 refine a8 (a0y _ _ _ _ _ _) ?_
 refine a8 (Pu.g fun hb => by have b6 := hb; first | exact a7F | (simp only [d7 b6, b7 b6, b7 hb, m8 b6]; exact a7F) | (simp only [d7 b6, b7 b6, b7 hb, f8 b6, f9]; exact a7F)) ?_
 refine a8 (Pu.g fun hb => by have b6 := hb; first | exact b1e | (simp only [b7 b6]; exact b1e) | (simp only [d7 b6, b7 b6, b7 hb, f8 b6, f9]; exact b1e)) ?_
 refine d9 (Ld.g fun hb => by have b6 := hb; first | exact (ld1 Tryd.isAgg3 (I_4.at1 (o := 1) (vs := [(vi x0.O0.a5W)]) (nb rfl) rfl)) | (simp only [b7 b6]; exact (ld1 Tryd.isAgg3 (I_4.at1 (o := 1) (vs := [(vi x0.O0.a5W)]) (nb rfl) rfl))) | (simp only [d7 b6, b7 b6, b7 hb, f8 b6, f9]; exact (ld1 Tryd.isAgg3 (I_4.at1 (o := 1) (vs := [(vi x0.O0.a5W)]) (nb rfl) rfl)))) ?_
 refine a8 (Pu.g fun hb => by have b6 := hb; first | exact (a0x _ _ _ _ _ _) | (simp only [b7 b6]; exact (a0x _ _ _ _ _ _)) | (simp only [d7 b6, b7 b6, b7 hb, f8 b6, f9]; exact (a0x _ _ _ _ _ _))) ?_
 refine a8 (k9 _ _) ?_
 exact hR ((decide (0 ≤ x0.O0.a5W)) && (decide (x0.O0.a5W ≤ 2147483647))) H _ I_4.drop h
theorem b3G (x0 : a0z) {H : Hp} {K : Bool → Hp → Prop} (h : a1e x0 H K) : a7r x0 H K := by
 intro w I
 refine e8V ?_
 refine b2A x0 I (fun r0 H' w' I' hk => ⟨H', _, I', r0, rfl, rfl, hk⟩) h
def K2 (a4D : Bool) (e5O : Int) (b9I : Bool) (cr_6j1 : A9) (cr_1j1 : K4) (H : Hp) (K : Bool → Hp → Prop) : Prop :=
 (b9I = true →
 K (a4D && (decide (cr_6j1.fexprs = 0 ∧ cr_6j1.fconds = 1))) H) ∧
 (b9I = false →
 (e5O = 7 →
 K (a4D && (decide (cr_6j1.fexprs = 0 ∧ cr_6j1.fconds = 0))) H) ∧
 (¬ (e5O = 7) →
 K false H))
def a1f (x0 : K4) (H : Hp) (K : Bool → Hp → Prop) : Prop :=
 (x0.f7.b9 = 1 →
 K ((!(decide (0 < (IntKind.wrap .i64 ((x0.f7.M8.n : Int) + (x0.f7.I5.n : Int)))))) && (decide ((x0.f7.g5.n : Int) = 1 ∧ (x0.f7.q9.n : Int) = 0))) H) ∧
 (¬ (x0.f7.b9 = 1) →
 (x0.f7.b9 = 2 →
 K ((!(decide (0 < (IntKind.wrap .i64 ((x0.f7.M8.n : Int) + (x0.f7.I5.n : Int)))))) && (decide ((x0.f7.g5.n : Int) = 2 ∧ (x0.f7.q9.n : Int) = 0))) H) ∧
 (¬ (x0.f7.b9 = 2) →
 (x0.f7.b9 = 3 →
 K ((decide (x0.f7.g1 = ⟨#[]⟩)) && (decide ((x0.f7.g5.n : Int) = 0 ∧ (x0.f7.q9.n : Int) = 1))) H) ∧
 (¬ (x0.f7.b9 = 3) →
 (x0.f7.b9 = 4 →
 K (((decide (x0.f7.g1 = ⟨#[]⟩)) && (decide ((x0.f7.I5.n : Int) = 0))) && (decide ((x0.f7.g5.n : Int) = 0 ∧ (x0.f7.q9.n : Int) = 1))) H) ∧
 (¬ (x0.f7.b9 = 4) →
 (x0.f7.b9 = 5 →
 K2 ((decide (x0.f7.g1 = ⟨#[]⟩)) && (!(decide (0 < (IntKind.wrap .i64 ((x0.f7.M8.n : Int) + (x0.f7.I5.n : Int))))))) x0.f7.b9 (decide (x0.f7.b9 = 5)) (A9.mk (x0.f7.g5.n : Int) (x0.f7.q9.n : Int)) x0 H K) ∧
 (¬ (x0.f7.b9 = 5) →
 K2 ((decide (x0.f7.g1 = ⟨#[]⟩)) && (!(decide (0 < (IntKind.wrap .i64 ((x0.f7.M8.n : Int) + (x0.f7.I5.n : Int))))))) x0.f7.b9 (decide (x0.f7.b9 = 6)) (A9.mk (x0.f7.g5.n : Int) (x0.f7.q9.n : Int)) x0 H K)))))
theorem b2B (x0 : K4) {w0 w : World} {ps0 : Nat → Prop} {H0 H : Hp} {K : Bool → Hp → Prop} {R : Value → World → Prop} {E : Pan} (I : Inv w0 ps0 H0 H [] w) (hR : ∀ (r0 : Bool) (H' : Hp) (w' : World) (_ : Inv w0 ps0 H0 H' [] w') (_ : K r0 H'), R (Value.bool r0) w') (h : a1f x0 H K) : d4e (Value.agg (v6 x0.f7).toArray) w R E := by
 unfold a1f at h
 unfold d4e
 refine F7 I (cs := (v6 x0.f7)) rfl fun g_2 w_3 I_4 k_5 => ?_
 refine a8 E0 ?_
 refine a8 c2P ?_
 refine d9 (ld1 Tryd.isAgg42 (I_4.at1 (o := 4) (vs := [(vs x0.f7.M8)]) (nb rfl) rfl)) ?_
 refine a8 (a8s _ _ _) ?_
 refine a8 E0 ?_
 refine a8 a8B ?_
 refine d9 (ld1 Tryd.isAgg42 (I_4.at1 (o := 5) (vs := [(vs x0.f7.I5)]) (nb rfl) rfl)) ?_
 refine a8 (a8s _ _ _) ?_
 refine a8 (s9 _ _ _ _ _ _) ?_
 refine a8 (D7 _ _ _ _ _ _) ?_
 refine a8 E0 ?_
 refine a8 c2O ?_
 refine d9 (ld1 Tryd.isAgg22 (I_4.at1 (o := 2) (vs := [(vs x0.f7.g5)]) (nb rfl) rfl)) ?_
 refine a8 (q6 _ _ _) ?_
 refine a8 E0 ?_
 refine a8 c2N ?_
 refine d9 (ld1 Tryd.isAgg25 (I_4.at1 (o := 3) (vs := [(vs x0.f7.q9)]) (nb rfl) rfl)) ?_
 refine a8 (H8 _ _ _) ?_
 refine a8 (D6 _ _) ?_
 refine u2 I_4 Tryd.zeroValue227 (cs := [(vi 0), (vi 0)]) rfl fun g_7 w_8 I_9 a6F => ?_
 refine k3 I_9 Tryd.sizeOf227 (vs := [(vi (x0.f7.g5.n : Int)), (vi (x0.f7.q9.n : Int))]) (cs' := [(vi (x0.f7.g5.n : Int)), (vi (x0.f7.q9.n : Int))]) rfl rfl (nb rfl) rfl rfl fun K6 q5 a8S => ?_
 refine a8 E0 ?_
 refine a8 b1c ?_
 refine d9 (ld1 Tryd.isAgg9 ((q5.bring 1).at1 (o := 1) (vs := [(Value.string x0.f7.g1)]) (nb rfl) rfl)) ?_
 refine a8 (I6 _ _ _ _ _) ?_
 try simp only [m4]
 refine a8 (Pu.g fun hb => by have b6 := hb; first | exact (C4 _) | (simp only [b7 b6]; exact (C4 _)) | (simp only [d7 b6, b7 b6, b7 hb, f8 b6, f9]; exact (C4 _))) ?_
 refine a8 (k9 _ _) ?_
 refine a8 E0 ?_
 refine a8 a8A ?_
 refine d9 (ld1 Tryd.isAgg3 ((q5.bring 1).at1 (o := 0) (vs := [(vi x0.f7.b9)]) (nb rfl) rfl)) ?_
 refine a8 (f4 _ _ _ _ _ _) ?_
 refine g8 (fun a3x => ?_) (fun a3x => ?_)
 ·replace h := h.1 a3x
  refine a8 (C4 _) ?_
  refine d9 (Ld.g fun hb => by have b6 := hb; first | exact (ldA Tryd.isAgg227 Tryd.sizeOf227 rfl (q5.at1 (o := 0) (vs := [(vi (x0.f7.g5.n : Int)), (vi (x0.f7.q9.n : Int))]) (nb rfl) rfl)) | (simp only [d7 b6, b7 b6, b7 hb, m8 b6]; exact (ldA Tryd.isAgg227 Tryd.sizeOf227 rfl (q5.at1 (o := 0) (vs := [(vi (x0.f7.g5.n : Int)), (vi (x0.f7.q9.n : Int))]) (nb rfl) rfl))) | (simp only [d7 b6, b7 b6, b7 hb, f8 b6, f9]; exact (ldA Tryd.isAgg227 Tryd.sizeOf227 rfl (q5.at1 (o := 0) (vs := [(vi (x0.f7.g5.n : Int)), (vi (x0.f7.q9.n : Int))]) (nb rfl) rfl)))) ?_
  refine a8 (Pu.g fun hb => by have b6 := hb; first | exact (D6 _ _) | (simp only [d7 b6, b7 b6, b7 hb, m8 b6]; exact (D6 _ _)) | (simp only [d7 b6, b7 b6, b7 hb, f8 b6, f9]; exact (D6 _ _))) ?_
  refine a8 (Pu.g fun hb => by have b6 := hb; first | exact (M7 _ _ _ _ _ _) | (simp only [b7 b6]; exact (M7 _ _ _ _ _ _)) | (simp only [d7 b6, b7 b6, b7 hb, f8 b6, f9]; exact (M7 _ _ _ _ _ _))) ?_
  refine a8 (k9 _ _) ?_
  exact hR ((!(decide (0 < (IntKind.wrap .i64 ((x0.f7.M8.n : Int) + (x0.f7.I5.n : Int)))))) && (decide ((x0.f7.g5.n : Int) = 1 ∧ (x0.f7.q9.n : Int) = 0))) H _ q5.drop.drop h
 ·replace h := h.2 a3x
  refine a8 (f4 _ _ _ _ _ _) ?_
  refine g8 (fun b2u => ?_) (fun b2u => ?_)
  ·replace h := h.1 b2u
   refine a8 (C4 _) ?_
   refine d9 (Ld.g fun hb => by have b6 := hb; first | exact (ldA Tryd.isAgg227 Tryd.sizeOf227 rfl (q5.at1 (o := 0) (vs := [(vi (x0.f7.g5.n : Int)), (vi (x0.f7.q9.n : Int))]) (nb rfl) rfl)) | (simp only [d7 b6, b7 b6, b7 hb, m8 b6]; exact (ldA Tryd.isAgg227 Tryd.sizeOf227 rfl (q5.at1 (o := 0) (vs := [(vi (x0.f7.g5.n : Int)), (vi (x0.f7.q9.n : Int))]) (nb rfl) rfl))) | (simp only [d7 b6, b7 b6, b7 hb, f8 b6, f9]; exact (ldA Tryd.isAgg227 Tryd.sizeOf227 rfl (q5.at1 (o := 0) (vs := [(vi (x0.f7.g5.n : Int)), (vi (x0.f7.q9.n : Int))]) (nb rfl) rfl)))) ?_
   refine a8 (Pu.g fun hb => by have b6 := hb; first | exact (D6 _ _) | (simp only [d7 b6, b7 b6, b7 hb, m8 b6]; exact (D6 _ _)) | (simp only [d7 b6, b7 b6, b7 hb, f8 b6, f9]; exact (D6 _ _))) ?_
   refine a8 (Pu.g fun hb => by have b6 := hb; first | exact (M7 _ _ _ _ _ _) | (simp only [b7 b6]; exact (M7 _ _ _ _ _ _)) | (simp only [d7 b6, b7 b6, b7 hb, f8 b6, f9]; exact (M7 _ _ _ _ _ _))) ?_
   refine a8 (k9 _ _) ?_
   exact hR ((!(decide (0 < (IntKind.wrap .i64 ((x0.f7.M8.n : Int) + (x0.f7.I5.n : Int)))))) && (decide ((x0.f7.g5.n : Int) = 2 ∧ (x0.f7.q9.n : Int) = 0))) H _ q5.drop.drop h
  ·replace h := h.2 b2u
   refine a8 (f4 _ _ _ _ _ _) ?_
   refine g8 (fun b2v => ?_) (fun b2v => ?_)
   ·replace h := h.1 b2v
    refine a8 E0 ?_
    refine a8 b1c ?_
    refine d9 (ld1 Tryd.isAgg9 ((q5.bring 1).at1 (o := 1) (vs := [(Value.string x0.f7.g1)]) (nb rfl) rfl)) ?_
    refine a8 (I6 _ _ _ _ _) ?_
    refine d9 (Ld.g fun hb => by have b6 := hb; first | exact (ldA Tryd.isAgg227 Tryd.sizeOf227 rfl (q5.at1 (o := 0) (vs := [(vi (x0.f7.g5.n : Int)), (vi (x0.f7.q9.n : Int))]) (nb rfl) rfl)) | (simp only [d7 b6, b7 b6, b7 hb, m8 b6]; exact (ldA Tryd.isAgg227 Tryd.sizeOf227 rfl (q5.at1 (o := 0) (vs := [(vi (x0.f7.g5.n : Int)), (vi (x0.f7.q9.n : Int))]) (nb rfl) rfl))) | (simp only [d7 b6, b7 b6, b7 hb, f8 b6, f9]; exact (ldA Tryd.isAgg227 Tryd.sizeOf227 rfl (q5.at1 (o := 0) (vs := [(vi (x0.f7.g5.n : Int)), (vi (x0.f7.q9.n : Int))]) (nb rfl) rfl)))) ?_
    refine a8 (Pu.g fun hb => by have b6 := hb; first | exact (D6 _ _) | (simp only [d7 b6, b7 b6, b7 hb, m8 b6]; exact (D6 _ _)) | (simp only [d7 b6, b7 b6, b7 hb, f8 b6, f9]; exact (D6 _ _))) ?_
    refine a8 (Pu.g fun hb => by have b6 := hb; first | exact (M7 _ _ _ _ _ _) | (simp only [b7 b6]; exact (M7 _ _ _ _ _ _)) | (simp only [d7 b6, b7 b6, b7 hb, f8 b6, f9]; exact (M7 _ _ _ _ _ _))) ?_
    refine a8 (k9 _ _) ?_
    exact hR ((decide (x0.f7.g1 = ⟨#[]⟩)) && (decide ((x0.f7.g5.n : Int) = 0 ∧ (x0.f7.q9.n : Int) = 1))) H _ q5.drop.drop h
   ·replace h := h.2 b2v
    refine a8 (f4 _ _ _ _ _ _) ?_
    refine g8 (fun a8d => ?_) (fun a8d => ?_)
    ·replace h := h.1 a8d
     refine a8 E0 ?_
     refine a8 b1c ?_
     refine d9 (ld1 Tryd.isAgg9 ((q5.bring 1).at1 (o := 1) (vs := [(Value.string x0.f7.g1)]) (nb rfl) rfl)) ?_
     refine a8 (I6 _ _ _ _ _) ?_
     refine a8 (Pu.g fun hb => by have b6 := hb; first | exact E0 | (simp only [d7 b6, b7 b6, b7 hb, m8 b6]; exact E0) | (simp only [d7 b6, b7 b6, b7 hb, f8 b6, f9]; exact E0)) ?_
     refine a8 (Pu.g fun hb => by have b6 := hb; first | exact a8B | (simp only [b7 b6]; exact a8B) | (simp only [d7 b6, b7 b6, b7 hb, f8 b6, f9]; exact a8B)) ?_
     refine d9 (Ld.g fun hb => by have b6 := hb; first | exact (ld1 Tryd.isAgg42 ((q5.bring 1).at1 (o := 5) (vs := [(vs x0.f7.I5)]) (nb rfl) rfl)) | (simp only [b7 b6]; exact (ld1 Tryd.isAgg42 ((q5.bring 1).at1 (o := 5) (vs := [(vs x0.f7.I5)]) (nb rfl) rfl))) | (simp only [d7 b6, b7 b6, b7 hb, f8 b6, f9]; exact (ld1 Tryd.isAgg42 ((q5.bring 1).at1 (o := 5) (vs := [(vs x0.f7.I5)]) (nb rfl) rfl)))) ?_
     refine a8 (Pu.g fun hb => by have b6 := hb; first | exact (a8s _ _ _) | (simp only [b7 b6]; exact (a8s _ _ _)) | (simp only [d7 b6, b7 b6, b7 hb, f8 b6, f9]; exact (a8s _ _ _))) ?_
     refine a8 (Pu.g fun hb => by have b6 := hb; first | exact (f4 _ _ _ _ _ _) | (simp only [b7 b6]; exact (f4 _ _ _ _ _ _)) | (simp only [d7 b6, b7 b6, b7 hb, f8 b6, f9]; exact (f4 _ _ _ _ _ _))) ?_
     refine a8 (k9 _ _) ?_
     refine d9 (Ld.g fun hb => by have b6 := hb; first | exact (ldA Tryd.isAgg227 Tryd.sizeOf227 rfl (q5.at1 (o := 0) (vs := [(vi (x0.f7.g5.n : Int)), (vi (x0.f7.q9.n : Int))]) (nb rfl) rfl)) | (simp only [d7 b6, b7 b6, b7 hb, m8 b6]; exact (ldA Tryd.isAgg227 Tryd.sizeOf227 rfl (q5.at1 (o := 0) (vs := [(vi (x0.f7.g5.n : Int)), (vi (x0.f7.q9.n : Int))]) (nb rfl) rfl))) | (simp only [d7 b6, b7 b6, b7 hb, f8 b6, f9]; exact (ldA Tryd.isAgg227 Tryd.sizeOf227 rfl (q5.at1 (o := 0) (vs := [(vi (x0.f7.g5.n : Int)), (vi (x0.f7.q9.n : Int))]) (nb rfl) rfl)))) ?_
     refine a8 (Pu.g fun hb => by have b6 := hb; first | exact (D6 _ _) | (simp only [d7 b6, b7 b6, b7 hb, m8 b6]; exact (D6 _ _)) | (simp only [d7 b6, b7 b6, b7 hb, f8 b6, f9]; exact (D6 _ _))) ?_
     refine a8 (Pu.g fun hb => by have b6 := hb; first | exact (M7 _ _ _ _ _ _) | (simp only [b7 b6]; exact (M7 _ _ _ _ _ _)) | (simp only [d7 b6, b7 b6, b7 hb, f8 b6, f9]; exact (M7 _ _ _ _ _ _))) ?_
     refine a8 (k9 _ _) ?_
     exact hR (((decide (x0.f7.g1 = ⟨#[]⟩)) && (decide ((x0.f7.I5.n : Int) = 0))) && (decide ((x0.f7.g5.n : Int) = 0 ∧ (x0.f7.q9.n : Int) = 1))) H _ q5.drop.drop h
    ·replace h := h.2 a8d
     have hj1 : ∀ (b9I : Bool) (H : Hp) (w : World) (_ : Inv w0 ps0 H0 H [bx g_7 227 [(vi (A9.mk (x0.f7.g5.n : Int) (x0.f7.q9.n : Int)).fexprs), (vi (A9.mk (x0.f7.g5.n : Int) (x0.f7.q9.n : Int)).fconds)], bx g_2 179 (v6 x0.f7)] w) (_ : K2 ((decide (x0.f7.g1 = ⟨#[]⟩)) && (!(decide (0 < (IntKind.wrap .i64 ((x0.f7.M8.n : Int) + (x0.f7.I5.n : Int))))))) x0.f7.b9 b9I (A9.mk (x0.f7.g5.n : Int) (x0.f7.q9.n : Int)) x0 H K), c4T (Value.pointer (some ⟨g_7, 0, none⟩)) (Value.bool ((decide (x0.f7.g1 = ⟨#[]⟩)) && (!(decide (0 < (IntKind.wrap .i64 ((x0.f7.M8.n : Int) + (x0.f7.I5.n : Int)))))))) (vi x0.f7.b9) (Value.bool b9I) w R E := by
      intro b9I H w I h
      unfold c4T
      intro _
      unfold K2 at h
      refine j9 (fun a5v => ?_) (fun a5v => ?_)
      ·replace h := h.1 a5v
       refine d9 (Ld.g fun hb => by have b6 := hb; first | exact (ldA Tryd.isAgg227 Tryd.sizeOf227 rfl (I.at1 (o := 0) (vs := [(vi (A9.mk (x0.f7.g5.n : Int) (x0.f7.q9.n : Int)).fexprs), (vi (A9.mk (x0.f7.g5.n : Int) (x0.f7.q9.n : Int)).fconds)]) (nb rfl) rfl)) | (simp only [d7 b6, b7 b6, b7 hb, m8 b6]; exact (ldA Tryd.isAgg227 Tryd.sizeOf227 rfl (I.at1 (o := 0) (vs := [(vi (A9.mk (x0.f7.g5.n : Int) (x0.f7.q9.n : Int)).fexprs), (vi (A9.mk (x0.f7.g5.n : Int) (x0.f7.q9.n : Int)).fconds)]) (nb rfl) rfl))) | (simp only [d7 b6, b7 b6, b7 hb, f8 b6, f9]; exact (ldA Tryd.isAgg227 Tryd.sizeOf227 rfl (I.at1 (o := 0) (vs := [(vi (A9.mk (x0.f7.g5.n : Int) (x0.f7.q9.n : Int)).fexprs), (vi (A9.mk (x0.f7.g5.n : Int) (x0.f7.q9.n : Int)).fconds)]) (nb rfl) rfl)))) ?_
       refine a8 (Pu.g fun hb => by have b6 := hb; first | exact (D6 _ _) | (simp only [d7 b6, b7 b6, b7 hb, m8 b6]; exact (D6 _ _)) | (simp only [d7 b6, b7 b6, b7 hb, f8 b6, f9]; exact (D6 _ _))) ?_
       refine a8 (Pu.g fun hb => by have b6 := hb; first | exact (M7 _ _ _ _ _ _) | (simp only [b7 b6]; exact (M7 _ _ _ _ _ _)) | (simp only [d7 b6, b7 b6, b7 hb, f8 b6, f9]; exact (M7 _ _ _ _ _ _))) ?_
       refine a8 (k9 _ _) ?_
       exact hR (((decide (x0.f7.g1 = ⟨#[]⟩)) && (!(decide (0 < (IntKind.wrap .i64 ((x0.f7.M8.n : Int) + (x0.f7.I5.n : Int))))))) && (decide ((A9.mk (x0.f7.g5.n : Int) (x0.f7.q9.n : Int)).fexprs = 0 ∧ (A9.mk (x0.f7.g5.n : Int) (x0.f7.q9.n : Int)).fconds = 1))) H _ I.drop.drop h
      ·replace h := h.2 a5v
       refine a8 (f4 _ _ _ _ _ _) ?_
       refine g8 (fun b2z => ?_) (fun b2z => ?_)
       ·replace h := h.1 b2z
        refine d9 (Ld.g fun hb => by have b6 := hb; first | exact (ldA Tryd.isAgg227 Tryd.sizeOf227 rfl (I.at1 (o := 0) (vs := [(vi (A9.mk (x0.f7.g5.n : Int) (x0.f7.q9.n : Int)).fexprs), (vi (A9.mk (x0.f7.g5.n : Int) (x0.f7.q9.n : Int)).fconds)]) (nb rfl) rfl)) | (simp only [d7 b6, b7 b6, b7 hb, m8 b6]; exact (ldA Tryd.isAgg227 Tryd.sizeOf227 rfl (I.at1 (o := 0) (vs := [(vi (A9.mk (x0.f7.g5.n : Int) (x0.f7.q9.n : Int)).fexprs), (vi (A9.mk (x0.f7.g5.n : Int) (x0.f7.q9.n : Int)).fconds)]) (nb rfl) rfl))) | (simp only [d7 b6, b7 b6, b7 hb, f8 b6, f9]; exact (ldA Tryd.isAgg227 Tryd.sizeOf227 rfl (I.at1 (o := 0) (vs := [(vi (A9.mk (x0.f7.g5.n : Int) (x0.f7.q9.n : Int)).fexprs), (vi (A9.mk (x0.f7.g5.n : Int) (x0.f7.q9.n : Int)).fconds)]) (nb rfl) rfl)))) ?_
        refine a8 (Pu.g fun hb => by have b6 := hb; first | exact (b6i ) | (simp only [d7 b6, b7 b6, b7 hb, m8 b6]; exact (b6i )) | (simp only [d7 b6, b7 b6, b7 hb, f8 b6, f9]; exact (b6i ))) ?_
        refine a8 (Pu.g fun hb => by have b6 := hb; first | exact (M7 _ _ _ _ _ _) | (simp only [b7 b6]; exact (M7 _ _ _ _ _ _)) | (simp only [d7 b6, b7 b6, b7 hb, f8 b6, f9]; exact (M7 _ _ _ _ _ _))) ?_
        refine a8 (k9 _ _) ?_
        exact hR (((decide (x0.f7.g1 = ⟨#[]⟩)) && (!(decide (0 < (IntKind.wrap .i64 ((x0.f7.M8.n : Int) + (x0.f7.I5.n : Int))))))) && (decide ((A9.mk (x0.f7.g5.n : Int) (x0.f7.q9.n : Int)).fexprs = 0 ∧ (A9.mk (x0.f7.g5.n : Int) (x0.f7.q9.n : Int)).fconds = 0))) H _ I.drop.drop h
       ·replace h := h.2 b2z
        exact hR false H _ I.drop.drop h
     refine s8 fun j1 hx1 => ?_
     refine a8 (f4 _ _ _ _ _ _) ?_
     refine g8 (fun b2w => ?_) (fun b2w => ?_)
     ·replace h := h.1 b2w
      exact hx1 _ _ (hj1 (decide (x0.f7.b9 = 5)) H _ ((q5.bring 1).bring 1) h)
     ·replace h := h.2 b2w
      refine a8 (f4 _ _ _ _ _ _) ?_
      exact hx1 _ _ (hj1 (decide (x0.f7.b9 = 6)) H _ ((q5.bring 1).bring 1) h)
theorem b3H (x0 : K4) {H : Hp} {K : Bool → Hp → Prop} (h : a1f x0 H K) : a3X x0 H K := by
 intro w I
 refine e9y ?_
 refine b2B x0 I (fun r0 H' w' I' hk => ⟨H', _, I', r0, rfl, rfl, hk⟩) h
end Go.Proofs.YtnhkdkcgdcgmdaaDoor
