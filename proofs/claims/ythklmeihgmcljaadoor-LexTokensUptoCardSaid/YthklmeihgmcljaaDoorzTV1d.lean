/- Typed formulas of the program's functions, and the theorems that the contracts follow from them; printed by lift.py off the code. -/
import Derived.Test.YthklmeihgmcljaaDoorzTV1
namespace Go.Proofs.YthklmeihgmcljaaDoor
open Go.RowKit
set_option maxRecDepth 100000
set_option maxHeartbeats 2000000
def H7 (H : Hp) (K : Bool → Hp → Prop) : Prop :=
 L0 ⟨#[120, 49, 60, 61, 45, 53, 35, 99]⟩ H (fun a k b i =>
 L0 ⟨#[97, 32, 38, 32, 98]⟩ i (fun l g j c =>
 ∃ d : a6, (((decide (b = 0)) && (decide ((a.n : Int) = 5))) = true → (0 : Int) ≤ 1 ∧ (1 : Int) < a.n ∧ EltH c a 1 5 (b6 d)) ∧
 ∃ e : a6, ((((decide (b = 0)) && (decide ((a.n : Int) = 5))) && (decide (d.G5 = ⟨#[60, 61]⟩))) = true → (0 : Int) ≤ 3 ∧ (3 : Int) < a.n ∧ EltH c a 3 5 (b6 e)) ∧
 ∃ f : a6, (((((decide (b = 0)) && (decide ((a.n : Int) = 5))) && (decide (d.G5 = ⟨#[60, 61]⟩))) && (decide (e.O7 = 5))) = true → (0 : Int) ≤ 4 ∧ (4 : Int) < a.n ∧ EltH c a 4 5 (b6 f)) ∧
 K (((((((decide (b = 0)) && (decide ((a.n : Int) = 5))) && (decide (d.G5 = ⟨#[60, 61]⟩))) && (decide (e.O7 = 5))) && (decide (f.fAt.m6 = 1 ∧ f.fAt.r6 = 9))) && (decide (j = 20))) && (decide (g.m6 = 1 ∧ g.r6 = 3))) c))
theorem X3 {H : Hp} {K : Bool → Hp → Prop} (h : H7 H K) : P5 H K := by
 refine Ct.of fun w0 w ps0 H0 R E I hR => a9M ?_
 unfold H7 at h
 unfold F8
 refine f8 Tryd.call9 h I ?_
 rintro _ _ _ aa q _ _ ⟨r, m, o, rfl, rfl, h⟩
 refine a7 (b8 _ _ _ rfl) ?_
 refine a7 (b8 _ _ _ rfl) ?_
 refine a7 (b8 _ _ (vi o) rfl) ?_
 refine s8 q Tryd.zeroValue25 (cs := [(vi 0), (vi 0)]) rfl fun ab ac s ad => ?_
 refine g8 s Tryd.sizeOf25 (vs := (c8 m)) (cs' := (c8 m)) rfl rfl (nb rfl) rfl rfl fun ae t af => ?_
 refine f8 Tryd.call9 h t ?_
 rintro _ u _ ag y _ _ ⟨ah, i, p, rfl, rfl, h⟩
 refine a7 (b8 _ _ _ rfl) ?_
 refine a7 (b8 _ _ _ rfl) ?_
 refine a7 (b8 _ _ (vi p) rfl) ?_
 refine s8 y Tryd.zeroValue25 (cs := [(vi 0), (vi 0)]) rfl fun ai aj z ak => ?_
 refine g8 z Tryd.sizeOf25 (vs := (c8 i)) (cs' := (c8 i)) rfl rfl (nb rfl) rfl rfl fun al e am => ?_
 refine a7 (k6 _ _ _ _ _ _) ?_
 simp only [o3]
 refine a7 (Pu.g fun hb => by have a := hb; simp only [m1 a]; exact (Z8 _ _ _)) ?_
 refine a7 (Pu.g fun hb => by have a := hb; simp only [m1 a]; with_reducible exact (k6 _ _ _ _ _ _)) ?_
 refine a7 (s4 _ _) ?_
 simp only [o3]
 obtain ⟨j, b, h⟩ := h
 obtain ⟨an, ao, b⟩ := a4H b
 refine a7 (Pu.g fun hb => by have a := hb; simp only [m1 a]; exact (T5 (b hb).2.2.1 _ _ _ _ (b hb).1 (b hb).2.1)) ?_
 refine a7 (Pu.g fun hb => by have a := hb; simp only [m1 a]; with_reducible exact Q5) ?_
 refine o0 (Ld.g fun hb => by have a := hb; simp only [m1 a]; exact (ld1 (v := (Value.string j.G5)) Tryd.isAgg9 ((e.atH (b hb).2.2.2).sub (k := 1) (n := 1) (nb rfl)))) ?_
 refine a7 (Pu.g fun hb => by have a := hb; simp only [m1 a]; with_reducible exact (q7 _ _ _ _ _)) ?_
 refine a7 (s4 _ _) ?_
 simp only [o3]
 obtain ⟨l, c, h⟩ := h
 obtain ⟨ap, aq, c⟩ := a4H c
 refine a7 (Pu.g fun hb => by have a := hb; simp only [m1 a]; exact (T5 (c hb).2.2.1 _ _ _ _ (c hb).1 (c hb).2.1)) ?_
 refine a7 (Pu.g fun hb => by have a := hb; simp only [m1 a]; with_reducible exact a1O) ?_
 refine o0 (Ld.g fun hb => by have a := hb; simp only [m1 a]; exact (ld1 (v := (vi l.O7)) Tryd.isAgg2 ((e.atH (c hb).2.2.2).sub (k := 2) (n := 1) (nb rfl)))) ?_
 refine a7 (Pu.g fun hb => by have a := hb; simp only [m1 a]; with_reducible exact (k6 _ _ _ _ _ _)) ?_
 refine a7 (s4 _ _) ?_
 simp only [o3]
 obtain ⟨f, d, h⟩ := h
 obtain ⟨ar, au, d⟩ := a4H d
 refine a7 (Pu.g fun hb => by have a := hb; simp only [m1 a]; exact (T5 (d hb).2.2.1 _ _ _ _ (d hb).1 (d hb).2.1)) ?_
 refine a7 (Pu.g fun hb => by have a := hb; simp only [m1 a]; with_reducible exact a0u) ?_
 refine o0 (Ld.g fun hb => by have a := hb; simp only [m1 a]; exact (ldA (vs := (c8 f.fAt)) Tryd.isAgg25 Tryd.sizeOf25 rfl ((e.atH (d hb).2.2.2).sub (k := 3) (n := 2) (nb rfl)))) ?_
 refine a7 (Pu.g fun hb => by have a := hb; with_reducible exact (M0 _ _)) ?_
 refine a7 (Pu.g fun hb => by have a := hb; simp only [m1 a]; with_reducible exact (a3b _ _ _ _ _ _)) ?_
 refine a7 (s4 _ _) ?_
 simp only [o3]
 refine a7 (Pu.g fun hb => by have a := hb; simp only [m1 a]; with_reducible exact (k6 _ _ _ _ _ _)) ?_
 refine a7 (s4 _ _) ?_
 refine o0 (Ld.g fun hb => by have a := hb; exact (lW Tryd.isAgg25 Tryd.sizeOf25 rfl e)) ?_
 refine a7 (Pu.g fun hb => by have a := hb; with_reducible exact (M0 _ _)) ?_
 refine a7 (Pu.g fun hb => by have a := hb; simp only [m1 a]; with_reducible exact (a3b _ _ _ _ _ _)) ?_
 refine a7 (s4 _ _) ?_
 exact hR _ u _ _ e.drop.drop ⟨(((((((decide (o = 0)) && (decide ((r.n : Int) = 5))) && (decide (j.G5 = ⟨#[60, 61]⟩))) && (decide (l.O7 = 5))) && (decide (f.fAt.m6 = 1 ∧ f.fAt.r6 = 9))) && (decide (p = 20))) && (decide (i.m6 = 1 ∧ i.r6 = 3))), rfl, rfl, h⟩
def f9 (k7 : Bool) (H : Hp) (K : Bool → Hp → Prop) : Prop :=
 (k7 = true →
 K true H) ∧
 (k7 = false →
 K false H)
def R3 (x0 : ByteArray) (H : Hp) (K : Bool → Hp → Prop) : Prop :=
 (x0 = ⟨#[118, 97, 114]⟩ →
 f9 (decide (x0 = ⟨#[118, 97, 114]⟩)) H K) ∧
 (¬ (x0 = ⟨#[118, 97, 114]⟩) →
 (x0 = ⟨#[97, 114, 114, 97, 121]⟩ →
 f9 (decide (x0 = ⟨#[97, 114, 114, 97, 121]⟩)) H K) ∧
 (¬ (x0 = ⟨#[97, 114, 114, 97, 121]⟩) →
 (x0 = ⟨#[105, 102]⟩ →
 f9 (decide (x0 = ⟨#[105, 102]⟩)) H K) ∧
 (¬ (x0 = ⟨#[105, 102]⟩) →
 (x0 = ⟨#[101, 108, 115, 101]⟩ →
 f9 (decide (x0 = ⟨#[101, 108, 115, 101]⟩)) H K) ∧
 (¬ (x0 = ⟨#[101, 108, 115, 101]⟩) →
 (x0 = ⟨#[119, 104, 105, 108, 101]⟩ →
 f9 (decide (x0 = ⟨#[119, 104, 105, 108, 101]⟩)) H K) ∧
 (¬ (x0 = ⟨#[119, 104, 105, 108, 101]⟩) →
 (x0 = ⟨#[97, 115, 115, 101, 114, 116]⟩ →
 f9 (decide (x0 = ⟨#[97, 115, 115, 101, 114, 116]⟩)) H K) ∧
 (¬ (x0 = ⟨#[97, 115, 115, 101, 114, 116]⟩) →
 (x0 = ⟨#[97, 115, 115, 117, 109, 101]⟩ →
 f9 (decide (x0 = ⟨#[97, 115, 115, 117, 109, 101]⟩)) H K) ∧
 (¬ (x0 = ⟨#[97, 115, 115, 117, 109, 101]⟩) →
 (x0 = ⟨#[115, 107, 105, 112]⟩ →
 f9 (decide (x0 = ⟨#[115, 107, 105, 112]⟩)) H K) ∧
 (¬ (x0 = ⟨#[115, 107, 105, 112]⟩) →
 (x0 = ⟨#[105, 110, 112, 117, 116]⟩ →
 f9 (decide (x0 = ⟨#[105, 110, 112, 117, 116]⟩)) H K) ∧
 (¬ (x0 = ⟨#[105, 110, 112, 117, 116]⟩) →
 (x0 = ⟨#[116, 114, 117, 101]⟩ →
 f9 (decide (x0 = ⟨#[116, 114, 117, 101]⟩)) H K) ∧
 (¬ (x0 = ⟨#[116, 114, 117, 101]⟩) →
 f9 (decide (x0 = ⟨#[102, 97, 108, 115, 101]⟩)) H K))))))))))
theorem a1y (x0 : ByteArray) {H : Hp} {K : Bool → Hp → Prop} (h : R3 x0 H K) : Q8 x0 H K := by
 refine Ct.of fun w0 w ps0 H0 R E I hR => a7S ?_
 unfold R3 at h
 unfold F13
 have hj1 : ∀ (k7 : Bool) (H : Hp) (w : World) (_ : Inv w0 ps0 H0 H [] w) (_ : f9 k7 H K), a3d (Value.bool k7) w R E := by
  intro k7 H w I h
  unfold a3d
  intro _
  unfold f9 at h
  refine m0 h (fun _ h => ?_) (fun _ h => ?_)
  ·exact hR _ H _ _ I ⟨true, rfl, rfl, h⟩
  ·exact hR _ H _ _ I ⟨false, rfl, rfl, h⟩
 refine r5 fun j1 hx1 => ?_
 refine a7 (q7 _ _ _ _ _) ?_
 refine d7 h (fun _ h => ?_) (fun _ h => ?_)
 ·exact hx1 _ _ (hj1 (decide (x0 = ⟨#[118, 97, 114]⟩)) H _ I h)
 ·refine a7 (q7 _ _ _ _ _) ?_
  refine d7 h (fun _ h => ?_) (fun _ h => ?_)
  ·exact hx1 _ _ (hj1 (decide (x0 = ⟨#[97, 114, 114, 97, 121]⟩)) H _ I h)
  ·refine a7 (q7 _ _ _ _ _) ?_
   refine d7 h (fun _ h => ?_) (fun _ h => ?_)
   ·exact hx1 _ _ (hj1 (decide (x0 = ⟨#[105, 102]⟩)) H _ I h)
   ·refine a7 (q7 _ _ _ _ _) ?_
    refine d7 h (fun _ h => ?_) (fun _ h => ?_)
    ·exact hx1 _ _ (hj1 (decide (x0 = ⟨#[101, 108, 115, 101]⟩)) H _ I h)
    ·refine a7 (q7 _ _ _ _ _) ?_
     refine d7 h (fun _ h => ?_) (fun _ h => ?_)
     ·exact hx1 _ _ (hj1 (decide (x0 = ⟨#[119, 104, 105, 108, 101]⟩)) H _ I h)
     ·refine a7 (q7 _ _ _ _ _) ?_
      refine d7 h (fun _ h => ?_) (fun _ h => ?_)
      ·exact hx1 _ _ (hj1 (decide (x0 = ⟨#[97, 115, 115, 101, 114, 116]⟩)) H _ I h)
      ·refine a7 (q7 _ _ _ _ _) ?_
       refine d7 h (fun _ h => ?_) (fun _ h => ?_)
       ·exact hx1 _ _ (hj1 (decide (x0 = ⟨#[97, 115, 115, 117, 109, 101]⟩)) H _ I h)
       ·refine a7 (q7 _ _ _ _ _) ?_
        refine d7 h (fun _ h => ?_) (fun _ h => ?_)
        ·exact hx1 _ _ (hj1 (decide (x0 = ⟨#[115, 107, 105, 112]⟩)) H _ I h)
        ·refine a7 (q7 _ _ _ _ _) ?_
         refine d7 h (fun _ h => ?_) (fun _ h => ?_)
         ·exact hx1 _ _ (hj1 (decide (x0 = ⟨#[105, 110, 112, 117, 116]⟩)) H _ I h)
         ·refine a7 (q7 _ _ _ _ _) ?_
          refine d7 h (fun _ h => ?_) (fun _ h => ?_)
          ·exact hx1 _ _ (hj1 (decide (x0 = ⟨#[116, 114, 117, 101]⟩)) H _ I h)
          ·refine a7 (q7 _ _ _ _ _) ?_
           exact hx1 _ _ (hj1 (decide (x0 = ⟨#[102, 97, 108, 115, 101]⟩)) H _ I h)
def P2 (x0 : Int) (H : Hp) (K : Bool → Hp → Prop) : Prop :=
 v6 x0 H (fun a b =>
 K ((decide (a = 3)) || (decide (a = 4))) b)
theorem a0E (x0 : Int) {H : Hp} {K : Bool → Hp → Prop} (h : P2 x0 H K) : O8 x0 H K := by
 refine Ct.of fun w0 w ps0 H0 R E I hR => a8e ?_
 unfold P2 at h
 unfold F29
 refine f8 Tryd.call30 h I ?_
 rintro _ c _ e d _ _ ⟨b, rfl, rfl, h⟩
 refine a7 (k6 _ _ _ _ _ _) ?_
 simp only [o3]
 refine a7 (Pu.g fun hb => by have a := hb; simp only [m1 a]; with_reducible exact (k6 _ _ _ _ _ _)) ?_
 refine a7 (K9 _ _) ?_
 exact hR _ c _ _ d ⟨((decide (b = 3)) || (decide (b = 4))), rfl, rfl, h⟩
def u5 (b0c : Int) (a8B : Int) (P6 : Int) (H : Hp) (K : Int → Int → Bool → Hp → Prop) : Prop :=
 ((((decide (P6 < a8B)) || (decide (1114111 < P6))) || ((decide (55296 ≤ P6)) && (decide (P6 < 57344)))) = true →
 K 65533 1 false H) ∧
 ((((decide (P6 < a8B)) || (decide (1114111 < P6))) || ((decide (55296 ≤ P6)) && (decide (P6 < 57344)))) = false →
 K P6 b0c true H)
def A5 (U0 : ByteArray) (R4 : Int) (a6v : Int) (b0d : Int) (R8 : Int) (v7 : Int) (H : Hp) (n3 : (Int × Int) → Hp → Prop) (K : Int → Int → Bool → Hp → Prop) : Prop :=
 (v7 < a6v →
 ((decide ((U0.size : Int) ≤ (IntKind.wrap .i64 (R4 + v7)))) = false → (0 : Int) ≤ IntKind.wrap .i64 (R4 + v7) ∧ IntKind.wrap .i64 (R4 + v7) < (U0.size : Int)) ∧
 (((decide ((U0.size : Int) ≤ (IntKind.wrap .i64 (R4 + v7)))) || (decide (((U0.get! (IntKind.wrap .i64 (R4 + v7) : Int).toNat).toNat : Int) < 128))) = false → (0 : Int) ≤ IntKind.wrap .i64 (R4 + v7) ∧ IntKind.wrap .i64 (R4 + v7) < (U0.size : Int)) ∧
 ((((decide ((U0.size : Int) ≤ (IntKind.wrap .i64 (R4 + v7)))) || (decide (((U0.get! (IntKind.wrap .i64 (R4 + v7) : Int).toNat).toNat : Int) < 128))) || (decide (192 ≤ ((U0.get! (IntKind.wrap .i64 (R4 + v7) : Int).toNat).toNat : Int)))) = true →
 K 65533 1 false H) ∧
 ((((decide ((U0.size : Int) ≤ (IntKind.wrap .i64 (R4 + v7)))) || (decide (((U0.get! (IntKind.wrap .i64 (R4 + v7) : Int).toNat).toNat : Int) < 128))) || (decide (192 ≤ ((U0.get! (IntKind.wrap .i64 (R4 + v7) : Int).toNat).toNat : Int)))) = false →
 (0 : Int) ≤ IntKind.wrap .i64 (R4 + v7) ∧ IntKind.wrap .i64 (R4 + v7) < (U0.size : Int) ∧
 n3 ((IntKind.wrap .i64 ((IntKind.wrap .i64 ((IntKind.wrap .i64 (64 * R8)) + (IntKind.wrap .i64 ((U0.get! (IntKind.wrap .i64 (R4 + v7) : Int).toNat).toNat : Int)))) - 128)), (IntKind.wrap .i64 (v7 + 1))) H)) ∧
 (¬ (v7 < a6v) →
 u5 a6v b0d R8 H K)
def p6 (O9 : ByteArray) (y6 : Int) (O1 : Int) (a0U : Int) (a1l : Int) (H : Hp) (K : Int → Int → Bool → Hp → Prop) : Prop :=
 TL ((a1l, 1) : Int × Int) H fun (s : Int × Int) H n3 => A5 O9 y6 O1 a0U s.1 s.2 H n3 K
def K6 (x0 : ByteArray) (x1 : Int) (H : Hp) (K : Int → Int → Bool → Hp → Prop) : Prop :=
 (0 : Int) ≤ x1 ∧ x1 < (x0.size : Int) ∧
 ((IntKind.wrap .i64 ((x0.get! (x1 : Int).toNat).toNat : Int)) < 128 →
 K (IntKind.wrap .i64 ((x0.get! (x1 : Int).toNat).toNat : Int)) 1 true H) ∧
 (¬ ((IntKind.wrap .i64 ((x0.get! (x1 : Int).toNat).toNat : Int)) < 128) →
 (((decide (194 ≤ (IntKind.wrap .i64 ((x0.get! (x1 : Int).toNat).toNat : Int)))) && (decide ((IntKind.wrap .i64 ((x0.get! (x1 : Int).toNat).toNat : Int)) < 224))) = true →
 p6 x0 x1 2 128 (IntKind.wrap .i64 ((IntKind.wrap .i64 ((x0.get! (x1 : Int).toNat).toNat : Int)) - 192)) H K) ∧
 (((decide (194 ≤ (IntKind.wrap .i64 ((x0.get! (x1 : Int).toNat).toNat : Int)))) && (decide ((IntKind.wrap .i64 ((x0.get! (x1 : Int).toNat).toNat : Int)) < 224))) = false →
 (((decide (224 ≤ (IntKind.wrap .i64 ((x0.get! (x1 : Int).toNat).toNat : Int)))) && (decide ((IntKind.wrap .i64 ((x0.get! (x1 : Int).toNat).toNat : Int)) < 240))) = true →
 p6 x0 x1 3 2048 (IntKind.wrap .i64 ((IntKind.wrap .i64 ((x0.get! (x1 : Int).toNat).toNat : Int)) - 224)) H K) ∧
 (((decide (224 ≤ (IntKind.wrap .i64 ((x0.get! (x1 : Int).toNat).toNat : Int)))) && (decide ((IntKind.wrap .i64 ((x0.get! (x1 : Int).toNat).toNat : Int)) < 240))) = false →
 (((decide (240 ≤ (IntKind.wrap .i64 ((x0.get! (x1 : Int).toNat).toNat : Int)))) && (decide ((IntKind.wrap .i64 ((x0.get! (x1 : Int).toNat).toNat : Int)) < 245))) = true →
 p6 x0 x1 4 65536 (IntKind.wrap .i64 ((IntKind.wrap .i64 ((x0.get! (x1 : Int).toNat).toNat : Int)) - 240)) H K) ∧
 (((decide (240 ≤ (IntKind.wrap .i64 ((x0.get! (x1 : Int).toNat).toNat : Int)))) && (decide ((IntKind.wrap .i64 ((x0.get! (x1 : Int).toNat).toNat : Int)) < 245))) = false →
 K 65533 1 false H))))
theorem Z2 (x0 : ByteArray) (x1 : Int) {H : Hp} {K : Int → Int → Bool → Hp → Prop} (h : K6 x0 x1 H K) : u1 x0 x1 H K := by
 refine Ct.of fun w0 w ps0 H0 R E I hR => a8g ?_
 unfold K6 at h
 unfold F31
 obtain ⟨o, p, h⟩ := h
 refine a7 (E9 _ _ _ o p) ?_
 refine a7 (a0Q _ _) ?_
 have hj1 : ∀ (O1 : Int) (a0U : Int) (a1l : Int) (H : Hp) (w : World) (_ : Inv w0 ps0 H0 H [] w) (_ : p6 x0 x1 O1 a0U a1l H K), a3s (Value.string x0) (vi x1) (vi O1) (vi a0U) (vi a1l) w R E := by
  intro O1 a0U a1l H w I h
  unfold a3s
  intro _
  unfold p6 at h
  have hj2 : ∀ (P6 : Int) (H : Hp) (w : World) (_ : Inv w0 ps0 H0 H [] w) (_ : u5 O1 a0U P6 H K), a3r (vi O1) (vi a0U) (vi P6) w R E := by
   intro P6 H w I h
   unfold a3r
   intro _
   unfold u5 at h
   refine a7 (A9 _ _ _ _ _ _) ?_
   simp only [o3]
   refine a7 (Pu.g fun hb => by have c := hb; simp only [m1 c]; with_reducible exact (V1 _ _ _ _ _ _)) ?_
   refine a7 (K9 _ _) ?_
   simp only [o3]
   refine a7 (Pu.g fun hb => by have c := hb; simp only [m1 c]; with_reducible exact (P9 _ _ _ _ _ _)) ?_
   simp only [a1f, a0P]
   refine a7 (Pu.e (O6 _ _ _) (Pu.g fun hb => by obtain ⟨c, d⟩ := U7 hb; simp only [m1 hb]; with_reducible exact (A9 _ _ _ _ _ _))) ?_
   refine a7 (Pu.g fun hb => by have c := hb; simp only [m1 c, a0f c]; with_reducible exact (s4 _ _)) ?_
   refine a7 (K9 _ _) ?_
   refine m0 h (fun _ h => ?_) (fun _ h => ?_)
   ·exact hR _ H _ _ I ⟨65533, 1, false, rfl, rfl, h⟩
   ·exact hR _ H _ _ I ⟨P6, O1, true, rfl, rfl, h⟩
  refine r5 fun j2 hx2 => ?_
  obtain ⟨k, j, q, r⟩ := h
  refine u6 (J := fun n l w => ∃ (s : Int × Int) (H : Hp) , n = j s ∧ l = (match s with | (R8, v7) => [(vi R8), (vi v7)]) ∧ (match s with | (R8, v7) => Inv w0 ps0 H0 H [] w) ∧ k s H) ⟨_, (a1l, 1), H, rfl, rfl, I, q⟩ ?_
  rintro y z w next3 ⟨⟨R8, v7⟩, H, rfl, m, I, t⟩ hn3
  dsimp only at m I
  simp only [List.map_cons, List.map_nil, List.cons.injEq, and_true] at m
  obtain ⟨e10, e11⟩ := m
  simp only [e10, e11]
  obtain ⟨n3, hm3, h⟩ : ∃ n3 : (Int × Int) → Hp → Prop, (∀ s' H', n3 s' H' → k s' H' ∧ j s' < j (R8, v7)) ∧ A5 x0 x1 O1 a0U R8 v7 H n3 K := ⟨_, fun _ _ h => h, r (R8, v7) H (fun s' H' => k s' H' ∧ j s' < j (R8, v7)) t (fun _ _ a b => ⟨a, b⟩)⟩
  unfold a5y
  unfold A5 at h
  refine a7 (A9 _ _ _ _ _ _) ?_
  refine d7 h (fun _ h => ?_) (fun _ h => ?_)
  ·refine a7 (q6 _ _ _ _ _ _) ?_
   refine a7 (y5 _) ?_
   refine a7 (P9 _ _ _ _ _ _) ?_
   simp only [o3]
   refine a7 (Pu.g fun hb => by have c := hb; simp only [m1 c]; with_reducible exact (q6 _ _ _ _ _ _)) ?_
   obtain ⟨f, h⟩ := h
   refine a7 (Pu.g fun hb => by have c := hb; simp only [m1 c]; with_reducible exact (E9 _ _ _ (f hb).1 (f hb).2)) ?_
   refine a7 (Pu.g fun hb => by have c := hb; simp only [m1 c]; with_reducible exact (A9 _ _ _ _ _ _)) ?_
   refine a7 (K9 _ _) ?_
   simp only [o3]
   refine a7 (Pu.g fun hb => by have c := hb; simp only [m1 c]; with_reducible exact (q6 _ _ _ _ _ _)) ?_
   obtain ⟨i, h⟩ := h
   refine a7 (Pu.g fun hb => by have c := hb; simp only [m1 c]; with_reducible exact (E9 _ _ _ (i hb).1 (i hb).2)) ?_
   refine a7 (Pu.g fun hb => by have c := hb; simp only [m1 c]; with_reducible exact (P9 _ _ _ _ _ _)) ?_
   refine a7 (K9 _ _) ?_
   refine m0 h (fun _ h => ?_) (fun _ h => ?_)
   ·exact hR _ H _ _ I ⟨65533, 1, false, rfl, rfl, h⟩
   ·refine a7 (a5i _ _ _ _ _ _) ?_
    refine a7 (q6 _ _ _ _ _ _) ?_
    obtain ⟨u, v, h⟩ := h
    refine a7 (E9 _ _ _ u v) ?_
    refine a7 (a0Q _ _) ?_
    refine a7 (q6 _ _ _ _ _ _) ?_
    refine a7 (X9 _ _ _ _ _ _) ?_
    refine a7 (q6 _ _ _ _ _ _) ?_
    exact hn3 _ _ _ (hm3 _ _ h).2 ⟨((IntKind.wrap .i64 ((IntKind.wrap .i64 ((IntKind.wrap .i64 (64 * R8)) + (IntKind.wrap .i64 ((x0.get! (IntKind.wrap .i64 (x1 + v7) : Int).toNat).toNat : Int)))) - 128)), (IntKind.wrap .i64 (v7 + 1))), H, rfl, rfl, I, (hm3 _ _ h).1⟩
  ·exact hx2 _ _ (hj2 R8 H _ I h)
 refine r5 fun j1 hx1 => ?_
 refine a7 (A9 _ _ _ _ _ _) ?_
 refine d7 h (fun _ h => ?_) (fun _ h => ?_)
 ·exact hR _ H _ _ I ⟨(IntKind.wrap .i64 ((x0.get! (x1 : Int).toNat).toNat : Int)), 1, true, rfl, rfl, h⟩
 ·refine a7 (P9 _ _ _ _ _ _) ?_
  simp only [o3]
  refine a7 (Pu.g fun hb => by have c := hb; simp only [m1 c]; with_reducible exact (A9 _ _ _ _ _ _)) ?_
  refine a7 (s4 _ _) ?_
  refine m0 h (fun _ h => ?_) (fun _ h => ?_)
  ·refine a7 (X9 _ _ _ _ _ _) ?_
   exact hx1 _ _ (hj1 2 128 (IntKind.wrap .i64 ((IntKind.wrap .i64 ((x0.get! (x1 : Int).toNat).toNat : Int)) - 192)) H _ I h)
  ·refine a7 (P9 _ _ _ _ _ _) ?_
   simp only [o3]
   refine a7 (Pu.g fun hb => by have c := hb; simp only [m1 c]; with_reducible exact (A9 _ _ _ _ _ _)) ?_
   refine a7 (s4 _ _) ?_
   refine m0 h (fun _ h => ?_) (fun _ h => ?_)
   ·refine a7 (X9 _ _ _ _ _ _) ?_
    exact hx1 _ _ (hj1 3 2048 (IntKind.wrap .i64 ((IntKind.wrap .i64 ((x0.get! (x1 : Int).toNat).toNat : Int)) - 224)) H _ I h)
   ·refine a7 (P9 _ _ _ _ _ _) ?_
    simp only [o3]
    refine a7 (Pu.g fun hb => by have c := hb; simp only [m1 c]; with_reducible exact (A9 _ _ _ _ _ _)) ?_
    refine a7 (s4 _ _) ?_
    refine m0 h (fun _ h => ?_) (fun _ h => ?_)
    ·refine a7 (X9 _ _ _ _ _ _) ?_
     exact hx1 _ _ (hj1 4 65536 (IntKind.wrap .i64 ((IntKind.wrap .i64 ((x0.get! (x1 : Int).toNat).toNat : Int)) - 240)) H _ I h)
    ·exact hR _ H _ _ I ⟨65533, 1, false, rfl, rfl, h⟩
def A6 (a2h : ByteArray) (R5 : Int) (H : Hp) (n2 : Int → Hp → Prop) (n4 : Int → Hp → Prop) (K : Int → Hp → Prop) : Prop :=
 ((decide (R5 < (a2h.size : Int))) = true → (0 : Int) ≤ R5 ∧ R5 < (a2h.size : Int)) ∧
 (((decide (R5 < (a2h.size : Int))) && (!decide (((a2h.get! (R5 : Int).toNat).toNat : Int) = 10))) = true →
 n4 (IntKind.wrap .i64 (R5 + 1)) H) ∧
 (((decide (R5 < (a2h.size : Int))) && (!decide (((a2h.get! (R5 : Int).toNat).toNat : Int) = 10))) = false →
 n2 R5 H)
def r8 (y6 : Int) (H : Hp) (K : Int → Hp → Prop) : Prop :=
 K y6 H
def A7 (a8A : ByteArray) (a0v : Int) (a4O : Int) (a6u : Int) (H : Hp) (n2 : Int → Hp → Prop) (K : Int → Hp → Prop) : Prop :=
 (((!decide (a4O = 1)) && (!decide (a4O = 2))) = true →
 r8 a0v H K) ∧
 (((!decide (a4O = 1)) && (!decide (a4O = 2))) = false →
 n2 (IntKind.wrap .i64 (a0v + a6u)) H)
def A8 (p9 : ByteArray) (C4 : Int) (H : Hp) (n2 : Int → Hp → Prop) (K : Int → Hp → Prop) : Prop :=
 (C4 < (p9.size : Int) →
 t1 p9 C4 H (fun b c a =>
 (0 : Int) ≤ C4 ∧ C4 < (p9.size : Int) ∧
 (((p9.get! (C4 : Int).toNat).toNat : Int) = 35 →
 TL (C4 : Int) a fun (s : Int) H n4 => A6 p9 s H n2 n4 K) ∧
 (¬ (((p9.get! (C4 : Int).toNat).toNat : Int) = 35) →
 A7 p9 C4 b c a n2 K))) ∧
 (¬ (C4 < (p9.size : Int)) →
 r8 C4 H K)
def K7 (x0 : ByteArray) (x1 : Int) (H : Hp) (K : Int → Hp → Prop) : Prop :=
 TL (x1 : Int) H fun (s : Int) H n2 => A8 x0 s H n2 K
theorem Z3 (x0 : ByteArray) (x1 : Int) {H : Hp} {K : Int → Hp → Prop} (h : K7 x0 x1 H K) : J3 x0 x1 H K := by
 refine Ct.of fun w0 w ps0 H0 R E I hR => a8a ?_
 unfold K7 at h
 unfold F24
 have hj1 : ∀ (y6 : Int) (H : Hp) (w : World) (_ : Inv w0 ps0 H0 H [] w) (_ : r8 y6 H K), a3j (vi y6) w R E := by
  intro y6 H w I h
  unfold a3j
  intro _
  unfold r8 at h
  exact hR _ H _ _ I ⟨y6, rfl, rfl, h⟩
 refine r5 fun j1 hx1 => ?_
 obtain ⟨j, e, t, u⟩ := h
 refine u6 (J := fun n l w => ∃ (s : Int) (H : Hp) , n = e s ∧ l = [(vi s)] ∧ Inv w0 ps0 H0 H [] w ∧ j s H) ⟨_, x1, H, rfl, rfl, I, t⟩ ?_
 rintro ad ae w next2 ⟨C4, H, rfl, o, I, v⟩ hn2
 simp only [List.map_cons, List.map_nil, List.cons.injEq, and_true] at o
 have e1 := o
 simp only [e1]
 obtain ⟨n2, hm2, h⟩ : ∃ n2 : Int → Hp → Prop, (∀ s' H', n2 s' H' → j s' H' ∧ e s' < e C4) ∧ A8 x0 C4 H n2 K := ⟨_, fun _ _ h => h, u C4 H (fun s' H' => j s' H' ∧ e s' < e C4) v (fun _ _ a b => ⟨a, b⟩)⟩
 unfold a5w
 unfold A8 at h
 refine a7 (y5 _) ?_
 refine a7 (A9 _ _ _ _ _ _) ?_
 refine d7 h (fun _ h => ?_) (fun _ h => ?_)
 ·refine f8 Tryd.call45 h I ?_
  rintro _ p _ af q _ _ ⟨k, i, rfl, rfl, h⟩
  refine a7 (b8 _ _ (vi k) rfl) ?_
  refine a7 (b8 _ _ (vi i) rfl) ?_
  have hj3 : ∀ (a0v : Int) (H : Hp) (w : World) (_ : Inv w0 ps0 H0 H [] w) (_ : A7 x0 a0v k i H n2 K), a3k (Value.string x0) (vi a0v) (vi k) (vi i) w j1 next2 R E := by
   intro a0v H w I h
   unfold a3k
   intro _
   unfold A7 at h
   refine a7 (E5 _ _ _ _ _ _) ?_
   simp only [o3]
   refine a7 (Pu.g fun hb => by have c := hb; simp only [m1 c]; with_reducible exact (E5 _ _ _ _ _ _)) ?_
   refine a7 (s4 _ _) ?_
   refine m0 h (fun _ h => ?_) (fun _ h => ?_)
   ·exact hx1 _ _ (hj1 a0v H _ I h)
   ·refine a7 (q6 _ _ _ _ _ _) ?_
    exact hn2 _ _ _ (hm2 _ _ h).2 ⟨(IntKind.wrap .i64 (a0v + i)), H, rfl, rfl, I, (hm2 _ _ h).1⟩
  refine r5 fun j3 hx3 => ?_
  obtain ⟨y, z, h⟩ := h
  refine a7 (E9 _ _ _ y z) ?_
  refine a7 (k6 _ _ _ _ _ _) ?_
  refine d7 h (fun _ h => ?_) (fun _ h => ?_)
  ·obtain ⟨m, f, aa, ab⟩ := h
   refine u6 (J := fun n l w => ∃ (s : Int) (H : Hp) , n = f s ∧ l = [(vi s)] ∧ Inv w0 ps0 H0 H [] w ∧ m s H) ⟨_, C4, p, rfl, rfl, q, aa⟩ ?_
   rintro ag ah w next4 ⟨R5, H, rfl, r, I, ac⟩ hn4
   simp only [List.map_cons, List.map_nil, List.cons.injEq, and_true] at r
   have e1 := r
   simp only [e1]
   obtain ⟨n4, hm4, h⟩ : ∃ n4 : Int → Hp → Prop, (∀ s' H', n4 s' H' → m s' H' ∧ f s' < f R5) ∧ A6 x0 R5 H n2 n4 K := ⟨_, fun _ _ h => h, ab R5 H (fun s' H' => m s' H' ∧ f s' < f R5) ac (fun _ _ a b => ⟨a, b⟩)⟩
   unfold a5v
   unfold A6 at h
   refine a7 (y5 _) ?_
   refine a7 (A9 _ _ _ _ _ _) ?_
   simp only [o3]
   obtain ⟨d, h⟩ := h
   refine a7 (Pu.g fun hb => by have c := hb; simp only [m1 c]; with_reducible exact (E9 _ _ _ (d hb).1 (d hb).2)) ?_
   refine a7 (Pu.g fun hb => by have c := hb; simp only [m1 c]; with_reducible exact (E5 _ _ _ _ _ _)) ?_
   refine a7 (s4 _ _) ?_
   refine m0 h (fun _ h => ?_) (fun _ h => ?_)
   ·refine a7 (q6 _ _ _ _ _ _) ?_
    exact hn4 _ _ _ (hm4 _ _ h).2 ⟨(IntKind.wrap .i64 (R5 + 1)), H, rfl, rfl, I, (hm4 _ _ h).1⟩
   ·exact hn2 _ _ _ (hm2 _ _ h).2 ⟨R5, H, rfl, rfl, I, (hm2 _ _ h).1⟩
  ·exact hx3 _ _ (hj3 C4 p _ q h)
 ·exact hx1 _ _ (hj1 C4 H _ I h)
def L9 (x0 : ByteArray) (x1 : Int) (H : Hp) (K : a6 → Int → Int → Hp → Prop) : Prop :=
 t1 x0 x1 H (fun b q c =>
 (b = 3 →
 L3 x0 x1 c (fun a e g =>
 (0 : Int) ≤ x1 ∧ (x1 : Int) ≤ a ∧ (a : Int) ≤ x0.size ∧
 J1 (x0.extract (x1 : Int).toNat (a : Int).toNat) g (fun f d =>
 (f = true →
 K (a6.mk 3 (x0.extract (x1 : Int).toNat (a : Int).toNat) 0 (a8.mk 0 0)) a 0 d) ∧
 (f = false →
 (32 < e →
 K (a6.mk 0 ⟨#[]⟩ 0 (a8.mk 0 0)) 0 22 d) ∧
 (¬ (32 < e) →
 K (a6.mk 1 (x0.extract (x1 : Int).toNat (a : Int).toNat) 0 (a8.mk 0 0)) a 0 d))))) ∧
 (¬ (b = 3) →
 (b = 4 →
 F1 x0 x1 c (fun i j k l =>
 K i j k l)) ∧
 (¬ (b = 4) →
 (b = 5 →
 J4 x0 x1 c (fun m n o p =>
 K m n o p)) ∧
 (¬ (b = 5) →
 K (a6.mk 0 ⟨#[]⟩ 0 (a8.mk 0 0)) 0 20 c))))
theorem Z6 (x0 : ByteArray) (x1 : Int) {H : Hp} {K : a6 → Int → Int → Hp → Prop} (h : L9 x0 x1 H K) : L4 x0 x1 H K := by
 refine Ct.of fun w0 w ps0 H0 R E I hR => a8c ?_
 unfold L9 at h
 unfold F26
 refine s8 I Tryd.zeroValue33 (cs := [(vi 0), (Value.string ⟨#[]⟩), (vi 0), (vi 0), (vi 0)]) rfl fun ah ai s aj => ?_
 refine f8 Tryd.call45 h s ?_
 rintro _ t _ ak b _ _ ⟨u, v, rfl, rfl, h⟩
 refine a7 (b8 _ _ (vi u) rfl) ?_
 refine a7 (b8 _ _ (vi v) rfl) ?_
 refine a7 (k6 _ _ _ _ _ _) ?_
 refine d7 h (fun _ h => ?_) (fun _ h => ?_)
 ·refine f8 Tryd.call46 h b ?_
  rintro _ _ _ al y _ _ ⟨a, z, rfl, rfl, h⟩
  refine a7 (b8 _ _ (vi a) rfl) ?_
  refine a7 (b8 _ _ (vi z) rfl) ?_
  obtain ⟨aa, ab, ac, h⟩ := h
  refine a7 (O0 x0 Tryd.underlying9 aa ab ac) ?_
  refine f8 Tryd.call14 h y ?_
  rintro _ e _ am f _ _ ⟨an, rfl, rfl, h⟩
  refine m0 h (fun _ h => ?_) (fun _ h => ?_)
  ·refine a7 (C3 _ _) ?_
   refine g8 f Tryd.sizeOf33 (vs := [(vi 3), (Value.string (x0.extract (x1 : Int).toNat (a : Int).toNat)), (vi 0), (vi 0), (vi 0)]) (cs' := [(vi 3), (Value.string (x0.extract (x1 : Int).toNat (a : Int).toNat)), (vi 0), (vi 0), (vi 0)]) rfl rfl (nb rfl) rfl rfl fun ao g ap => ?_
   refine o5 Tryd.isAgg33 Tryd.sizeOf33 rfl (g.at1 (o := 0) (vs := [(vi 3), (Value.string (x0.extract (x1 : Int).toNat (a : Int).toNat)), (vi 0), (vi 0), (vi 0)]) (nb rfl) rfl) ?_
   exact hR _ e _ _ g.drop ⟨(a6.mk 3 (x0.extract (x1 : Int).toNat (a : Int).toNat) 0 (a8.mk 0 0)), a, 0, rfl, rfl, h⟩
  ·refine a7 (V1 _ _ _ _ _ _) ?_
   refine d7 h (fun _ h => ?_) (fun _ h => ?_)
   ·refine a7 (N5 ) ?_
    refine g8 f Tryd.sizeOf33 (vs := [(vi 0), (Value.string ⟨#[]⟩), (vi 0), (vi 0), (vi 0)]) (cs' := [(vi 0), (Value.string ⟨#[]⟩), (vi 0), (vi 0), (vi 0)]) rfl rfl (nb rfl) rfl rfl fun aq i ar => ?_
    refine o5 Tryd.isAgg33 Tryd.sizeOf33 rfl (i.at1 (o := 0) (vs := [(vi 0), (Value.string ⟨#[]⟩), (vi 0), (vi 0), (vi 0)]) (nb rfl) rfl) ?_
    exact hR _ e _ _ i.drop ⟨(a6.mk 0 ⟨#[]⟩ 0 (a8.mk 0 0)), 0, 22, rfl, rfl, h⟩
   ·refine a7 (C3 _ _) ?_
    refine g8 f Tryd.sizeOf33 (vs := [(vi 1), (Value.string (x0.extract (x1 : Int).toNat (a : Int).toNat)), (vi 0), (vi 0), (vi 0)]) (cs' := [(vi 1), (Value.string (x0.extract (x1 : Int).toNat (a : Int).toNat)), (vi 0), (vi 0), (vi 0)]) rfl rfl (nb rfl) rfl rfl fun au j av => ?_
    refine o5 Tryd.isAgg33 Tryd.sizeOf33 rfl (j.at1 (o := 0) (vs := [(vi 1), (Value.string (x0.extract (x1 : Int).toNat (a : Int).toNat)), (vi 0), (vi 0), (vi 0)]) (nb rfl) rfl) ?_
    exact hR _ e _ _ j.drop ⟨(a6.mk 1 (x0.extract (x1 : Int).toNat (a : Int).toNat) 0 (a8.mk 0 0)), a, 0, rfl, rfl, h⟩
 ·refine a7 (k6 _ _ _ _ _ _) ?_
  refine d7 h (fun _ h => ?_) (fun _ h => ?_)
  ·refine f8 Tryd.call47 h b ?_
   rintro _ ad _ aw ae _ _ ⟨c, k, l, rfl, rfl, h⟩
   refine a7 (b8 _ _ _ rfl) ?_
   refine a7 (b8 _ _ (vi k) rfl) ?_
   refine a7 (b8 _ _ (vi l) rfl) ?_
   refine g8 ae Tryd.sizeOf33 (vs := (b6 c)) (cs' := (b6 c)) rfl rfl (nb rfl) rfl rfl fun ax m ay => ?_
   refine o5 Tryd.isAgg33 Tryd.sizeOf33 rfl (m.at1 (o := 0) (vs := (b6 c)) (nb rfl) rfl) ?_
   exact hR _ ad _ _ m.drop ⟨c, k, l, rfl, rfl, h⟩
  ·refine a7 (k6 _ _ _ _ _ _) ?_
   refine d7 h (fun _ h => ?_) (fun _ h => ?_)
   ·refine f8 Tryd.call48 h b ?_
    rintro _ af _ az ag _ _ ⟨d, n, p, rfl, rfl, h⟩
    refine a7 (b8 _ _ _ rfl) ?_
    refine a7 (b8 _ _ (vi n) rfl) ?_
    refine a7 (b8 _ _ (vi p) rfl) ?_
    refine g8 ag Tryd.sizeOf33 (vs := (b6 d)) (cs' := (b6 d)) rfl rfl (nb rfl) rfl rfl fun ba q bb => ?_
    refine o5 Tryd.isAgg33 Tryd.sizeOf33 rfl (q.at1 (o := 0) (vs := (b6 d)) (nb rfl) rfl) ?_
    exact hR _ af _ _ q.drop ⟨d, n, p, rfl, rfl, h⟩
   ·refine a7 (N5 ) ?_
    refine g8 b Tryd.sizeOf33 (vs := [(vi 0), (Value.string ⟨#[]⟩), (vi 0), (vi 0), (vi 0)]) (cs' := [(vi 0), (Value.string ⟨#[]⟩), (vi 0), (vi 0), (vi 0)]) rfl rfl (nb rfl) rfl rfl fun bc r bd => ?_
    refine o5 Tryd.isAgg33 Tryd.sizeOf33 rfl (r.at1 (o := 0) (vs := [(vi 0), (Value.string ⟨#[]⟩), (vi 0), (vi 0), (vi 0)]) (nb rfl) rfl) ?_
    exact hR _ t _ _ r.drop ⟨(a6.mk 0 ⟨#[]⟩ 0 (a8.mk 0 0)), 0, 20, rfl, rfl, h⟩
def M9 (H : Hp) (K : Int → Int → Hp → Prop) : Prop :=
 K 0 0 H
def E1 (p9 : ByteArray) (b : ByteArray) (a : Nat) (H : Hp) (n2 : Nat → Hp → Prop) (K : Int → Int → Hp → Prop) : Prop :=
 (a < b.size →
 (¬ (((Utf8.decode b a).1 : Int) = 65533) →
 n2 (a + (Utf8.decode b a).2) H) ∧
 (((Utf8.decode b a).1 : Int) = 65533 →
 (0 : Int) ≤ ((a : Nat) : Int) ∧ (((a : Nat) : Int) : Int) ≤ p9.size ∧
 B0 (p9.extract (((a : Nat) : Int) : Int).toNat p9.size) H (fun e c d =>
 (c = 1 →
 K ((a : Nat) : Int) 11 d) ∧
 (¬ (c = 1) →
 n2 (a + (Utf8.decode b a).2) d)))) ∧
 (¬ (a < b.size) →
 M9 H K)
def P3 (x0 : ByteArray) (H : Hp) (K : Int → Int → Hp → Prop) : Prop :=
 (65536 < (x0.size : Int) →
 K 0 10 H) ∧
 (¬ (65536 < (x0.size : Int)) →
 TL (0 : Nat) H fun (s : Nat) H n2 => E1 x0 x0 s H n2 K)
theorem a0F (x0 : ByteArray) {H : Hp} {K : Int → Int → Hp → Prop} (h : P3 x0 H K) : T2 x0 H K := by
 refine Ct.of fun w0 w ps0 H0 R E I hR => a7U ?_
 unfold P3 at h
 unfold F17
 refine a7 (y5 _) ?_
 refine a7 (V1 _ _ _ _ _ _) ?_
 refine d7 h (fun _ h => ?_) (fun _ h => ?_)
 ·exact hR _ H _ _ I ⟨0, 10, rfl, rfl, h⟩
 ·have hj1 : ∀ (H : Hp) (w : World) (_ : Inv w0 ps0 H0 H [] w) (_ : M9 H K), a3f w R E := by
   intro H w I h
   unfold a3f
   intro _
   unfold M9 at h
   exact hR _ H _ _ I ⟨0, 0, rfl, rfl, h⟩
  refine r5 fun j1 hx1 => ?_
  refine a2e Tryd.underlying9 x0 I fun m aa o ab => ?_
  obtain ⟨f, d, p, q⟩ := h
  refine u6 (J := fun n l w => ∃ (s : Nat) (H : Hp) , n = d s ∧ l = [] ∧ Inv w0 ps0 H0 H [itf m x0 s] w ∧ f s H) ⟨_, 0, H, rfl, rfl, o, p⟩ ?_
  rintro ac ad w next2 ⟨c, H, rfl, r, I, t⟩ hn2
  clear r
  obtain ⟨n2, hm2, h⟩ : ∃ n2 : Nat → Hp → Prop, (∀ s' H', n2 s' H' → f s' H' ∧ d s' < d c) ∧ E1 x0 x0 c H n2 K := ⟨_, fun _ _ h => h, q c H (fun s' H' => f s' H' ∧ d s' < d c) t (fun _ _ a b => ⟨a, b⟩)⟩
  unfold a5p
  unfold E1 at h
  refine a2Z I (fun g ae i af => ?_) (fun g => ?_)
  ·replace h := h.1 g
   refine a7 (b8 _ _ (Value.bool true) rfl) ?_
   refine O5 (fun e => ?_) (fun e => by cases e)
   refine a7 (b8 _ _ (vi ((c : Nat) : Int)) rfl) ?_
   refine a7 (b8 _ _ (Value.int .i32 ((Utf8.decode x0 c).1 : Int)) rfl) ?_
   refine a7 (E5 _ _ _ _ _ _) ?_
   refine Y1 h (fun _ h => ?_) (fun _ h => ?_)
   ·exact hn2 _ _ _ (hm2 _ _ h).2 ⟨(c + (Utf8.decode x0 c).2), H, rfl, rfl, i, (hm2 _ _ h).1⟩
   ·obtain ⟨u, v, h⟩ := h
    refine a7 (a4h x0 Tryd.underlying9 u v) ?_
    refine f8 Tryd.call33 h i ?_
    rintro _ j _ ag k _ _ ⟨y, z, rfl, rfl, h⟩
    refine a7 (b8 _ _ (Value.int .i32 y) rfl) ?_
    refine a7 (b8 _ _ (vi z) rfl) ?_
    refine a7 (k6 _ _ _ _ _ _) ?_
    refine d7 h (fun _ h => ?_) (fun _ h => ?_)
    ·exact hR _ j _ _ k.drop ⟨((c : Nat) : Int), 11, rfl, rfl, h⟩
    ·exact hn2 _ _ _ (hm2 _ _ h).2 ⟨(c + (Utf8.decode x0 c).2), j, rfl, rfl, k, (hm2 _ _ h).1⟩
  ·replace h := h.2 g
   refine a7 (b8 _ _ (Value.bool false) rfl) ?_
   refine O5 (fun e => by cases e) (fun e => ?_)
   exact hx1 _ _ (hj1 H _ I.drop h)
def N2 (x0 : Int) (H : Hp) (K : Bool → Hp → Prop) : Prop :=
 K (!decide (x0 = 10)) H
theorem U1 (x0 : Int) {H : Hp} {K : Bool → Hp → Prop} (h : N2 x0 H K) : C9 x0 H K := by
 refine Ct.of fun w0 w ps0 H0 R E I hR => a8l ?_
 unfold N2 at h
 unfold F40
 refine a7 (E5 _ _ _ _ _ _) ?_
 exact hR _ H _ _ I ⟨(!decide (x0 = 10)), rfl, rfl, h⟩
def D6 (x0 : Int) (H : Hp) (K : Bool → Hp → Prop) : Prop :=
 v6 x0 H (fun a b =>
 K (decide (a = 4)) b)
theorem U2 (x0 : Int) {H : Hp} {K : Bool → Hp → Prop} (h : D6 x0 H K) : D2 x0 H K := by
 refine Ct.of fun w0 w ps0 H0 R E I hR => a8z ?_
 unfold D6 at h
 unfold F58
 refine f8 Tryd.call30 h I ?_
 rintro _ a _ d b _ _ ⟨c, rfl, rfl, h⟩
 refine a7 (k6 _ _ _ _ _ _) ?_
 exact hR _ a _ _ b ⟨(decide (c = 4)), rfl, rfl, h⟩
def G2 (x0 : b5) (j : (List a6)) (H : Hp) (K : a6 → Int → b5 → (List a6) → Hp → Prop) : Prop :=
 o8 (g5 x0) j H (fun a c d k =>
 V3 a 10 64 k (fun l b m =>
 j9 (g5 c) d m (fun n e f =>
 okI b ∧
 ((!(!isNilI b) && (decide (1 < (a.size : Int)))) = true → (0 : Int) ≤ 0 ∧ 0 < (a.size : Int)) ∧
 TG ((!((!isNilI b) || ((decide (1 < (a.size : Int))) && (decide (((a.get! (0 : Int).toNat).toNat : Int) = 48)))) && e) = true) (v6 n f) 0 f (fun (g : Int) (i : Hp) =>
 ((((!isNilI b) || ((decide (1 < (a.size : Int))) && (decide (((a.get! (0 : Int).toNat).toNat : Int) = 48)))) || (e && (decide (g = 3)))) = true →
 K (a6.mk 2 a 0 (a8.mk 0 0)) 21 (g5 c) d i) ∧
 ((((!isNilI b) || ((decide (1 < (a.size : Int))) && (decide (((a.get! (0 : Int).toNat).toNat : Int) = 48)))) || (e && (decide (g = 3)))) = false →
 K (a6.mk 2 a l (a8.mk 0 0)) 0 (g5 c) d i)))))
theorem W4 (x0 : b5) (z : (List a6)) {H : Hp} {K : a6 → Int → b5 → (List a6) → Hp → Prop} (h : G2 x0 z H K) : O4 x0 z H K := by
 intro g0 aj ak al
 refine Ct.of fun w0 w ps0 H0 R E I hR => a8n ?_
 unfold G2 at h
 unfold F42
 refine s8 I Tryd.zeroValue33 (cs := [(vi 0), (Value.string ⟨#[]⟩), (vi 0), (vi 0), (vi 0)]) rfl fun am aw an ax => ?_
 refine f8 Tryd.call37 (h g0 aj ak al) ((an.bring 2).bring 2) ?_
 rintro _ _ _ ay ao _ _ ⟨c, n, q, r, s, rfl, rfl, y, h⟩
 refine a7 (C3 _ _) ?_
 refine s8 ao Tryd.zeroValue33 (cs := [(vi 0), (Value.string ⟨#[]⟩), (vi 0), (vi 0), (vi 0)]) rfl fun ap az aq ba => ?_
 refine g8 aq Tryd.sizeOf33 (vs := [(vi 2), (Value.string c), (vi 0), (vi 0), (vi 0)]) (cs' := [(vi 2), (Value.string c), (vi 0), (vi 0), (vi 0)]) rfl rfl (nb rfl) rfl rfl fun bb aa bc => ?_
 refine a7 Q5 ?_
 refine o0 (l1 Tryd.isAgg9 aa rfl) ?_
 refine f8 Tryd.call59 h aa ?_
 rintro _ _ _ bd ar _ _ ⟨f, t, rfl, rfl, h⟩
 refine a7 (b8 _ _ (vi f) rfl) ?_
 refine a7 (b8 _ _ t rfl) ?_
 refine f8 Tryd.call20 (h g0 r s y) ((ar.bring 2).bring 2) ?_
 rintro _ ab _ ac j _ _ ⟨au, u, rfl, rfl, h⟩
 refine a7 (b8 _ _ (Value.int .i32 au) rfl) ?_
 refine a7 (b8 _ _ (Value.bool u) rfl) ?_
 obtain ⟨av, h⟩ := h
 refine a7 (a5l _ av) ?_
 refine a7 (Pu.g fun hb => by have a := hb; with_reducible exact Q5) ?_
 refine o0 (Ld.g fun hb => by have a := hb; simp only [m1 a]; exact (l1 Tryd.isAgg9 (j.bring 2) rfl)) ?_
 refine a7 (Pu.g fun hb => by have a := hb; simp only [m1 a]; with_reducible exact (y5 _)) ?_
 refine a7 (Pu.g fun hb => by have a := hb; simp only [m1 a]; with_reducible exact (V1 _ _ _ _ _ _)) ?_
 simp only [o3, a1f]
 refine a7 (Pu.e (O6 _ _ _) (Pu.g fun hb => by obtain ⟨a, b⟩ := U7 hb; with_reducible exact Q5)) ?_
 refine o0 (Ld.e (O6 _ _ _) (Ld.g fun hb => by obtain ⟨a, b⟩ := U7 hb; simp only [m1 hb]; exact (l1 Tryd.isAgg9 (j.bring 2) rfl))) ?_
 obtain ⟨d, h⟩ := h
 refine a7 (Pu.e (O6 _ _ _) (Pu.g fun hb => by obtain ⟨a, b⟩ := U7 hb; simp only [m1 hb]; with_reducible exact (E9 _ _ _ (d hb).1 (d hb).2))) ?_
 refine a7 (Pu.e (O6 _ _ _) (Pu.g fun hb => by obtain ⟨a, b⟩ := U7 hb; simp only [m1 hb]; with_reducible exact (k6 _ _ _ _ _ _))) ?_
 refine a7 (Pu.g fun hb => by have a := hb; simp only [m1 a, a0f a]; with_reducible exact (s4 _ _)) ?_
 refine a7 (K9 _ _) ?_
 simp only [o3, a1f, a0P]
 refine a1N (O6 _ _ _) ?_
 refine S6 (D := fun ad v => ∃ (m : Int) (k : Hp) , ad = (gv (!((!isNilI t) || ((decide (1 < (c.size : Int))) && (decide (((c.get! (0 : Int).toNat).toNat : Int) = 48)))) && u) true (vi m)) ∧ (Inv w0 ps0 H0 k [bx g0 44 (g6 n r), s, bx ap 33 [(vi 2), (Value.string c), (vi 0), (vi 0), (vi 0)], bx am 33 [(vi 0), (Value.string ⟨#[]⟩), (vi 0), (vi 0), (vi 0)]] v) ∧ (∀ i, i < ac.heap.size → ¬ inF [] i → v.heap[i]? = ac.heap[i]?) ∧ Hle ab k ∧ (((((!isNilI t) || ((decide (1 < (c.size : Int))) && (decide (((c.get! (0 : Int).toNat).toNat : Int) = 48)))) || (u && (decide (m = 3)))) = true →
 K (a6.mk 2 c 0 (a8.mk 0 0)) 21 (g5 n) q k) ∧
 ((((!isNilI t) || ((decide (1 < (c.size : Int))) && (decide (((c.get! (0 : Int).toNat).toNat : Int) = 48)))) || (u && (decide (m = 3)))) = false →
 K (a6.mk 2 c f (a8.mk 0 0)) 0 (g5 n) q k))) (fun l => ?_) (fun l => ?_) ?_
 ·replace h := h.1 l
  obtain ⟨a, b⟩ := U7 l
  simp only [m1 l]
  refine f8 Tryd.call30 h j ?_
  rintro _ k _ v p ae af ⟨m, rfl, rfl, h⟩
  exact ⟨m, k, by rfl, p, af, ae, h⟩
 ·exact ⟨0, ab, by rw [a0r l], j, fun _ _ _ => rfl, Hle.refl _, h.2 l⟩
 ·clear h
  rintro ad v ⟨m, k, rfl, p, af, ae, h⟩
  refine a7 (Pu.e (O6 _ _ _) (Pu.g fun hb => by obtain ⟨a, b⟩ := U7 hb; simp only [m1 hb]; with_reducible exact (k6 _ _ _ _ _ _))) ?_
  refine a7 (Pu.g fun hb => by have a := hb; simp only [m1 a, a0f a]; with_reducible exact (s4 _ _)) ?_
  refine a7 (K9 _ _) ?_
  refine m0 h (fun _ h => ?_) (fun _ h => ?_)
  ·refine o0 (ldA Tryd.isAgg33 Tryd.sizeOf33 rfl ((p.bring 2).at1 (o := 0) (vs := [(vi 2), (Value.string c), (vi 0), (vi 0), (vi 0)]) (nb rfl) rfl)) ?_
   refine g8 (p.bring 3) Tryd.sizeOf33 (vs := [(vi 2), (Value.string c), (vi 0), (vi 0), (vi 0)]) (cs' := [(vi 2), (Value.string c), (vi 0), (vi 0), (vi 0)]) rfl rfl (nb rfl) rfl rfl fun be ag bf => ?_
   refine o5 Tryd.isAgg33 Tryd.sizeOf33 rfl (ag.at1 (o := 0) (vs := [(vi 2), (Value.string c), (vi 0), (vi 0), (vi 0)]) (nb rfl) rfl) ?_
   exact hR _ k _ _ (((ag.drop.bring 2).drop.bring 1).bring 1) ⟨(a6.mk 2 c 0 (a8.mk 0 0)), 21, (g5 n), q, r, s, rfl, rfl, y, h⟩
  ·refine a7 a1O ?_
   refine g8 (p.bring 2) Tryd.sizeOf2 (vs := [(vi f)]) (cs' := [(vi 2), (Value.string c), (vi f), (vi 0), (vi 0)]) rfl rfl (nb rfl) rfl rfl fun bg ah bh => ?_
   refine o0 (ldA Tryd.isAgg33 Tryd.sizeOf33 rfl (ah.at1 (o := 0) (vs := [(vi 2), (Value.string c), (vi f), (vi 0), (vi 0)]) (nb rfl) rfl)) ?_
   refine g8 (ah.bring 3) Tryd.sizeOf33 (vs := [(vi 2), (Value.string c), (vi f), (vi 0), (vi 0)]) (cs' := [(vi 2), (Value.string c), (vi f), (vi 0), (vi 0)]) rfl rfl (nb rfl) rfl rfl fun bi ai bj => ?_
   refine o5 Tryd.isAgg33 Tryd.sizeOf33 rfl (ai.at1 (o := 0) (vs := [(vi 2), (Value.string c), (vi f), (vi 0), (vi 0)]) (nb rfl) rfl) ?_
   exact hR _ k _ _ ((ai.drop.drop.bring 1).bring 1) ⟨(a6.mk 2 c f (a8.mk 0 0)), 0, (g5 n), q, r, s, rfl, rfl, y, h⟩
end Go.Proofs.YthklmeihgmcljaaDoor
