/- Typed formulas of the program's functions, and the theorems that the contracts follow from them; printed by lift.py off the code. -/
import Derived.Test.YthklmeihgmcljaaDoorzLV1
namespace Go.Proofs.YthklmeihgmcljaaDoor
open Go.RowKit
set_option maxRecDepth 100000
set_option maxHeartbeats 2000000
def B3 (H : Hp) (K : Bool → Hp → Prop) : Prop :=
 C7 ⟨#[120, 49, 60, 61, 45, 53, 35, 99]⟩ H (fun a k b i =>
 C7 ⟨#[97, 32, 38, 32, 98]⟩ i (fun l g j c =>
 ∃ d : a6, (((decide (b = 0)) && (decide ((a.n : Int) = 5))) = true → (0 : Int) ≤ 1 ∧ (1 : Int) < a.n ∧ EltH c a 1 5 (b7 d)) ∧
 ∃ e : a6, ((((decide (b = 0)) && (decide ((a.n : Int) = 5))) && (decide (d.M8 = ⟨#[60, 61]⟩))) = true → (0 : Int) ≤ 3 ∧ (3 : Int) < a.n ∧ EltH c a 3 5 (b7 e)) ∧
 ∃ f : a6, (((((decide (b = 0)) && (decide ((a.n : Int) = 5))) && (decide (d.M8 = ⟨#[60, 61]⟩))) && (decide (e.S0 = 5))) = true → (0 : Int) ≤ 4 ∧ (4 : Int) < a.n ∧ EltH c a 4 5 (b7 f)) ∧
 K (((((((decide (b = 0)) && (decide ((a.n : Int) = 5))) && (decide (d.M8 = ⟨#[60, 61]⟩))) && (decide (e.S0 = 5))) && (decide (f.fAt.o4 = 1 ∧ f.fAt.s6 = 9))) && (decide (j = 20))) && (decide (g.o4 = 1 ∧ g.s6 = 3))) c))
theorem O5 {H : Hp} {K : Bool → Hp → Prop} (h : B3 H K) : B2 H K := by
 refine Ct.of fun w0 w ps0 H0 R E I hR => a6G ?_
 unfold B3 at h
 unfold F8
 refine j7 Tryd.call9 h I ?_
 rintro _ _ _ aa q _ _ ⟨r, m, o, rfl, rfl, h⟩
 refine a7 (d8 _ _ _ rfl) ?_
 refine a7 (d8 _ _ _ rfl) ?_
 refine a7 (d8 _ _ (vi o) rfl) ?_
 refine B5 q Tryd.zeroValue25 (cs := [(vi 0), (vi 0)]) rfl fun ab ac s ad => ?_
 refine o3 s Tryd.sizeOf25 (vs := (s5 m)) (cs' := (s5 m)) rfl rfl (nb rfl) rfl rfl fun ae t af => ?_
 refine j7 Tryd.call9 h t ?_
 rintro _ u _ ag y _ _ ⟨ah, i, p, rfl, rfl, h⟩
 refine a7 (d8 _ _ _ rfl) ?_
 refine a7 (d8 _ _ _ rfl) ?_
 refine a7 (d8 _ _ (vi p) rfl) ?_
 refine B5 y Tryd.zeroValue25 (cs := [(vi 0), (vi 0)]) rfl fun ai aj z ak => ?_
 refine o3 z Tryd.sizeOf25 (vs := (s5 i)) (cs' := (s5 i)) rfl rfl (nb rfl) rfl rfl fun al e am => ?_
 refine a7 (l8 _ _ _ _ _ _) ?_
 simp only [s7]
 refine a7 (Pu.g fun hb => by have a := hb; simp only [m1 a]; exact (a0r _ _ _)) ?_
 refine a7 (Pu.g fun hb => by have a := hb; simp only [m1 a]; with_reducible exact (l8 _ _ _ _ _ _)) ?_
 refine a7 (A6 _ _) ?_
 simp only [s7]
 obtain ⟨j, b, h⟩ := h
 obtain ⟨an, ao, b⟩ := Y4 b
 refine a7 (Pu.g fun hb => by have a := hb; simp only [m1 a]; exact (P4 (b hb).2.2.1 _ _ _ _ (b hb).1 (b hb).2.1)) ?_
 refine a7 (Pu.g fun hb => by have a := hb; simp only [m1 a]; with_reducible exact H5) ?_
 refine o5 (Ld.g fun hb => by have a := hb; simp only [m1 a]; exact (ld1 (v := (Value.string j.M8)) Tryd.isAgg9 ((e.atH (b hb).2.2.2).sub (k := 1) (n := 1) (nb rfl)))) ?_
 refine a7 (Pu.g fun hb => by have a := hb; simp only [m1 a]; with_reducible exact (C0 _ _ _ _ _)) ?_
 refine a7 (A6 _ _) ?_
 simp only [s7]
 obtain ⟨l, c, h⟩ := h
 obtain ⟨ap, aq, c⟩ := Y4 c
 refine a7 (Pu.g fun hb => by have a := hb; simp only [m1 a]; exact (P4 (c hb).2.2.1 _ _ _ _ (c hb).1 (c hb).2.1)) ?_
 refine a7 (Pu.g fun hb => by have a := hb; simp only [m1 a]; with_reducible exact Y7) ?_
 refine o5 (Ld.g fun hb => by have a := hb; simp only [m1 a]; exact (ld1 (v := (vi l.S0)) Tryd.isAgg2 ((e.atH (c hb).2.2.2).sub (k := 2) (n := 1) (nb rfl)))) ?_
 refine a7 (Pu.g fun hb => by have a := hb; simp only [m1 a]; with_reducible exact (l8 _ _ _ _ _ _)) ?_
 refine a7 (A6 _ _) ?_
 simp only [s7]
 obtain ⟨f, d, h⟩ := h
 obtain ⟨ar, au, d⟩ := Y4 d
 refine a7 (Pu.g fun hb => by have a := hb; simp only [m1 a]; exact (P4 (d hb).2.2.1 _ _ _ _ (d hb).1 (d hb).2.1)) ?_
 refine a7 (Pu.g fun hb => by have a := hb; simp only [m1 a]; with_reducible exact S1) ?_
 refine o5 (Ld.g fun hb => by have a := hb; simp only [m1 a]; exact (ldA (vs := (s5 f.fAt)) Tryd.isAgg25 Tryd.sizeOf25 rfl ((e.atH (d hb).2.2.2).sub (k := 3) (n := 2) (nb rfl)))) ?_
 refine a7 (Pu.g fun hb => by have a := hb; with_reducible exact (F1 _ _)) ?_
 refine a7 (Pu.g fun hb => by have a := hb; simp only [m1 a]; with_reducible exact (X1 _ _ _ _ _ _)) ?_
 refine a7 (A6 _ _) ?_
 simp only [s7]
 refine a7 (Pu.g fun hb => by have a := hb; simp only [m1 a]; with_reducible exact (l8 _ _ _ _ _ _)) ?_
 refine a7 (A6 _ _) ?_
 refine o5 (Ld.g fun hb => by have a := hb; exact (lW Tryd.isAgg25 Tryd.sizeOf25 rfl e)) ?_
 refine a7 (Pu.g fun hb => by have a := hb; with_reducible exact (F1 _ _)) ?_
 refine a7 (Pu.g fun hb => by have a := hb; simp only [m1 a]; with_reducible exact (X1 _ _ _ _ _ _)) ?_
 refine a7 (A6 _ _) ?_
 exact hR _ u _ _ e.drop.drop ⟨(((((((decide (o = 0)) && (decide ((r.n : Int) = 5))) && (decide (j.M8 = ⟨#[60, 61]⟩))) && (decide (l.S0 = 5))) && (decide (f.fAt.o4 = 1 ∧ f.fAt.s6 = 9))) && (decide (p = 20))) && (decide (i.o4 = 1 ∧ i.s6 = 3))), rfl, rfl, h⟩
def d9 (k6 : Bool) (H : Hp) (K : Bool → Hp → Prop) : Prop :=
 (k6 = true →
 K true H) ∧
 (k6 = false →
 K false H)
def J3 (x0 : ByteArray) (H : Hp) (K : Bool → Hp → Prop) : Prop :=
 (x0 = ⟨#[118, 97, 114]⟩ →
 d9 (decide (x0 = ⟨#[118, 97, 114]⟩)) H K) ∧
 (¬ (x0 = ⟨#[118, 97, 114]⟩) →
 (x0 = ⟨#[97, 114, 114, 97, 121]⟩ →
 d9 (decide (x0 = ⟨#[97, 114, 114, 97, 121]⟩)) H K) ∧
 (¬ (x0 = ⟨#[97, 114, 114, 97, 121]⟩) →
 (x0 = ⟨#[105, 102]⟩ →
 d9 (decide (x0 = ⟨#[105, 102]⟩)) H K) ∧
 (¬ (x0 = ⟨#[105, 102]⟩) →
 (x0 = ⟨#[101, 108, 115, 101]⟩ →
 d9 (decide (x0 = ⟨#[101, 108, 115, 101]⟩)) H K) ∧
 (¬ (x0 = ⟨#[101, 108, 115, 101]⟩) →
 (x0 = ⟨#[119, 104, 105, 108, 101]⟩ →
 d9 (decide (x0 = ⟨#[119, 104, 105, 108, 101]⟩)) H K) ∧
 (¬ (x0 = ⟨#[119, 104, 105, 108, 101]⟩) →
 (x0 = ⟨#[97, 115, 115, 101, 114, 116]⟩ →
 d9 (decide (x0 = ⟨#[97, 115, 115, 101, 114, 116]⟩)) H K) ∧
 (¬ (x0 = ⟨#[97, 115, 115, 101, 114, 116]⟩) →
 (x0 = ⟨#[97, 115, 115, 117, 109, 101]⟩ →
 d9 (decide (x0 = ⟨#[97, 115, 115, 117, 109, 101]⟩)) H K) ∧
 (¬ (x0 = ⟨#[97, 115, 115, 117, 109, 101]⟩) →
 (x0 = ⟨#[115, 107, 105, 112]⟩ →
 d9 (decide (x0 = ⟨#[115, 107, 105, 112]⟩)) H K) ∧
 (¬ (x0 = ⟨#[115, 107, 105, 112]⟩) →
 (x0 = ⟨#[105, 110, 112, 117, 116]⟩ →
 d9 (decide (x0 = ⟨#[105, 110, 112, 117, 116]⟩)) H K) ∧
 (¬ (x0 = ⟨#[105, 110, 112, 117, 116]⟩) →
 (x0 = ⟨#[116, 114, 117, 101]⟩ →
 d9 (decide (x0 = ⟨#[116, 114, 117, 101]⟩)) H K) ∧
 (¬ (x0 = ⟨#[116, 114, 117, 101]⟩) →
 d9 (decide (x0 = ⟨#[102, 97, 108, 115, 101]⟩)) H K))))))))))
theorem W4 (x0 : ByteArray) {H : Hp} {K : Bool → Hp → Prop} (h : J3 x0 H K) : I0 x0 H K := by
 refine Ct.of fun w0 w ps0 H0 R E I hR => a5c ?_
 unfold J3 at h
 unfold F13
 have hj1 : ∀ (k6 : Bool) (H : Hp) (w : World) (_ : Inv w0 ps0 H0 H [] w) (_ : d9 k6 H K), a0W (Value.bool k6) w R E := by
  intro k6 H w I h
  unfold a0W
  intro _
  unfold d9 at h
  refine o6 h (fun _ h => ?_) (fun _ h => ?_)
  ·exact hR _ H _ _ I ⟨true, rfl, rfl, h⟩
  ·exact hR _ H _ _ I ⟨false, rfl, rfl, h⟩
 refine A7 fun j1 hx1 => ?_
 refine a7 (C0 _ _ _ _ _) ?_
 refine k7 h (fun _ h => ?_) (fun _ h => ?_)
 ·exact hx1 _ _ (hj1 (decide (x0 = ⟨#[118, 97, 114]⟩)) H _ I h)
 ·refine a7 (C0 _ _ _ _ _) ?_
  refine k7 h (fun _ h => ?_) (fun _ h => ?_)
  ·exact hx1 _ _ (hj1 (decide (x0 = ⟨#[97, 114, 114, 97, 121]⟩)) H _ I h)
  ·refine a7 (C0 _ _ _ _ _) ?_
   refine k7 h (fun _ h => ?_) (fun _ h => ?_)
   ·exact hx1 _ _ (hj1 (decide (x0 = ⟨#[105, 102]⟩)) H _ I h)
   ·refine a7 (C0 _ _ _ _ _) ?_
    refine k7 h (fun _ h => ?_) (fun _ h => ?_)
    ·exact hx1 _ _ (hj1 (decide (x0 = ⟨#[101, 108, 115, 101]⟩)) H _ I h)
    ·refine a7 (C0 _ _ _ _ _) ?_
     refine k7 h (fun _ h => ?_) (fun _ h => ?_)
     ·exact hx1 _ _ (hj1 (decide (x0 = ⟨#[119, 104, 105, 108, 101]⟩)) H _ I h)
     ·refine a7 (C0 _ _ _ _ _) ?_
      refine k7 h (fun _ h => ?_) (fun _ h => ?_)
      ·exact hx1 _ _ (hj1 (decide (x0 = ⟨#[97, 115, 115, 101, 114, 116]⟩)) H _ I h)
      ·refine a7 (C0 _ _ _ _ _) ?_
       refine k7 h (fun _ h => ?_) (fun _ h => ?_)
       ·exact hx1 _ _ (hj1 (decide (x0 = ⟨#[97, 115, 115, 117, 109, 101]⟩)) H _ I h)
       ·refine a7 (C0 _ _ _ _ _) ?_
        refine k7 h (fun _ h => ?_) (fun _ h => ?_)
        ·exact hx1 _ _ (hj1 (decide (x0 = ⟨#[115, 107, 105, 112]⟩)) H _ I h)
        ·refine a7 (C0 _ _ _ _ _) ?_
         refine k7 h (fun _ h => ?_) (fun _ h => ?_)
         ·exact hx1 _ _ (hj1 (decide (x0 = ⟨#[105, 110, 112, 117, 116]⟩)) H _ I h)
         ·refine a7 (C0 _ _ _ _ _) ?_
          refine k7 h (fun _ h => ?_) (fun _ h => ?_)
          ·exact hx1 _ _ (hj1 (decide (x0 = ⟨#[116, 114, 117, 101]⟩)) H _ I h)
          ·refine a7 (C0 _ _ _ _ _) ?_
           exact hx1 _ _ (hj1 (decide (x0 = ⟨#[102, 97, 108, 115, 101]⟩)) H _ I h)
def G3 (x0 : Int) (H : Hp) (K : Bool → Hp → Prop) : Prop :=
 r9 x0 H (fun a b =>
 K ((decide (a = 3)) || (decide (a = 4))) b)
theorem S8 (x0 : Int) {H : Hp} {K : Bool → Hp → Prop} (h : G3 x0 H K) : G0 x0 H K := by
 refine Ct.of fun w0 w ps0 H0 R E I hR => a5i ?_
 unfold G3 at h
 unfold F29
 refine j7 Tryd.call30 h I ?_
 rintro _ c _ e d _ _ ⟨b, rfl, rfl, h⟩
 refine a7 (l8 _ _ _ _ _ _) ?_
 simp only [s7]
 refine a7 (Pu.g fun hb => by have a := hb; simp only [m1 a]; with_reducible exact (l8 _ _ _ _ _ _)) ?_
 refine a7 (Q3 _ _) ?_
 exact hR _ c _ _ d ⟨((decide (b = 3)) || (decide (b = 4))), rfl, rfl, h⟩
def D9 (H : Hp) (K : Int → Int → Hp → Prop) : Prop :=
 K 0 0 H
def z8 (a3G : ByteArray) (b : ByteArray) (a : Nat) (H : Hp) (n2 : Nat → Hp → Prop) (K : Int → Int → Hp → Prop) : Prop :=
 (a < b.size →
 (¬ (((Utf8.decode b a).1 : Int) = 65533) →
 n2 (a + (Utf8.decode b a).2) H) ∧
 (((Utf8.decode b a).1 : Int) = 65533 →
 (0 : Int) ≤ ((a : Nat) : Int) ∧ (((a : Nat) : Int) : Int) ≤ a3G.size ∧
 t8 (a3G.extract (((a : Nat) : Int) : Int).toNat a3G.size) H (fun e c d =>
 (c = 1 →
 K ((a : Nat) : Int) 11 d) ∧
 (¬ (c = 1) →
 n2 (a + (Utf8.decode b a).2) d)))) ∧
 (¬ (a < b.size) →
 D9 H K)
def G4 (x0 : ByteArray) (H : Hp) (K : Int → Int → Hp → Prop) : Prop :=
 (65536 < (x0.size : Int) →
 K 0 10 H) ∧
 (¬ (65536 < (x0.size : Int)) →
 TL (0 : Nat) H fun (s : Nat) H n2 => z8 x0 x0 s H n2 K)
theorem S9 (x0 : ByteArray) {H : Hp} {K : Int → Int → Hp → Prop} (h : G4 x0 H K) : L2 x0 H K := by
 refine Ct.of fun w0 w ps0 H0 R E I hR => a5d ?_
 unfold G4 at h
 unfold F17
 refine a7 (L4 _) ?_
 refine a7 (T8 _ _ _ _ _ _) ?_
 refine k7 h (fun _ h => ?_) (fun _ h => ?_)
 ·exact hR _ H _ _ I ⟨0, 10, rfl, rfl, h⟩
 ·have hj1 : ∀ (H : Hp) (w : World) (_ : Inv w0 ps0 H0 H [] w) (_ : D9 H K), a0X w R E := by
   intro H w I h
   unfold a0X
   intro _
   unfold D9 at h
   exact hR _ H _ _ I ⟨0, 0, rfl, rfl, h⟩
  refine A7 fun j1 hx1 => ?_
  refine a0f Tryd.underlying9 x0 I fun m aa o ab => ?_
  obtain ⟨f, d, p, q⟩ := h
  refine D2 (J := fun n l w => ∃ (s : Nat) (H : Hp) , n = d s ∧ l = [] ∧ Inv w0 ps0 H0 H [itf m x0 s] w ∧ f s H) ⟨_, 0, H, rfl, rfl, o, p⟩ ?_
  rintro ac ad w next2 ⟨c, H, rfl, r, I, t⟩ hn2
  clear r
  obtain ⟨n2, hm2, h⟩ : ∃ n2 : Nat → Hp → Prop, (∀ s' H', n2 s' H' → f s' H' ∧ d s' < d c) ∧ z8 x0 x0 c H n2 K := ⟨_, fun _ _ h => h, q c H (fun s' H' => f s' H' ∧ d s' < d c) t (fun _ _ a b => ⟨a, b⟩)⟩
  unfold a2K
  unfold z8 at h
  refine a0T I (fun g ae i af => ?_) (fun g => ?_)
  ·replace h := h.1 g
   refine a7 (d8 _ _ (Value.bool true) rfl) ?_
   refine K1 (fun e => ?_) (fun e => by cases e)
   refine a7 (d8 _ _ (vi ((c : Nat) : Int)) rfl) ?_
   refine a7 (d8 _ _ (Value.int .i32 ((Utf8.decode x0 c).1 : Int)) rfl) ?_
   refine a7 (T9 _ _ _ _ _ _) ?_
   refine a3y h (fun _ h => ?_) (fun _ h => ?_)
   ·exact hn2 _ _ _ (hm2 _ _ h).2 ⟨(c + (Utf8.decode x0 c).2), H, rfl, rfl, i, (hm2 _ _ h).1⟩
   ·obtain ⟨u, v, h⟩ := h
    refine a7 (a1H x0 Tryd.underlying9 u v) ?_
    refine j7 Tryd.call33 h i ?_
    rintro _ j _ ag k _ _ ⟨y, z, rfl, rfl, h⟩
    refine a7 (d8 _ _ (Value.int .i32 y) rfl) ?_
    refine a7 (d8 _ _ (vi z) rfl) ?_
    refine a7 (l8 _ _ _ _ _ _) ?_
    refine k7 h (fun _ h => ?_) (fun _ h => ?_)
    ·exact hR _ j _ _ k.drop ⟨((c : Nat) : Int), 11, rfl, rfl, h⟩
    ·exact hn2 _ _ _ (hm2 _ _ h).2 ⟨(c + (Utf8.decode x0 c).2), j, rfl, rfl, k, (hm2 _ _ h).1⟩
  ·replace h := h.2 g
   refine a7 (d8 _ _ (Value.bool false) rfl) ?_
   refine K1 (fun e => by cases e) (fun e => ?_)
   exact hx1 _ _ (hj1 H _ I.drop h)
def E2 (x0 : Int) (H : Hp) (K : Bool → Hp → Prop) : Prop :=
 K (!decide (x0 = 10)) H
theorem M0 (x0 : Int) {H : Hp} {K : Bool → Hp → Prop} (h : E2 x0 H K) : y2 x0 H K := by
 refine Ct.of fun w0 w ps0 H0 R E I hR => a5n ?_
 unfold E2 at h
 unfold F40
 refine a7 (T9 _ _ _ _ _ _) ?_
 exact hR _ H _ _ I ⟨(!decide (x0 = 10)), rfl, rfl, h⟩
def y8 (x0 : Int) (H : Hp) (K : Bool → Hp → Prop) : Prop :=
 r9 x0 H (fun a b =>
 K (decide (a = 4)) b)
theorem M1 (x0 : Int) {H : Hp} {K : Bool → Hp → Prop} (h : y8 x0 H K) : y4 x0 H K := by
 refine Ct.of fun w0 w ps0 H0 R E I hR => a5w ?_
 unfold y8 at h
 unfold F58
 refine j7 Tryd.call30 h I ?_
 rintro _ a _ d b _ _ ⟨c, rfl, rfl, h⟩
 refine a7 (l8 _ _ _ _ _ _) ?_
 exact hR _ a _ _ b ⟨(decide (c = 4)), rfl, rfl, h⟩
def B0 (x0 : a8) (j : (List a6)) (H : Hp) (K : a6 → Int → a8 → (List a6) → Hp → Prop) : Prop :=
 m4 (f7 x0) j H (fun a c d k =>
 N3 a 10 64 k (fun l b m =>
 g9 (f7 c) d m (fun n e f =>
 okI b ∧
 ((!(!isNilI b) && (decide (1 < (a.size : Int)))) = true → (0 : Int) ≤ 0 ∧ 0 < (a.size : Int)) ∧
 TG ((!((!isNilI b) || ((decide (1 < (a.size : Int))) && (decide (((a.get! (0 : Int).toNat).toNat : Int) = 48)))) && e) = true) (r9 n f) 0 f (fun (g : Int) (i : Hp) =>
 ((((!isNilI b) || ((decide (1 < (a.size : Int))) && (decide (((a.get! (0 : Int).toNat).toNat : Int) = 48)))) || (e && (decide (g = 3)))) = true →
 K (a6.mk 2 a 0 (b6.mk 0 0)) 21 (f7 c) d i) ∧
 ((((!isNilI b) || ((decide (1 < (a.size : Int))) && (decide (((a.get! (0 : Int).toNat).toNat : Int) = 48)))) || (e && (decide (g = 3)))) = false →
 K (a6.mk 2 a l (b6.mk 0 0)) 0 (f7 c) d i)))))
theorem O1 (x0 : a8) (z : (List a6)) {H : Hp} {K : a6 → Int → a8 → (List a6) → Hp → Prop} (h : B0 x0 z H K) : F7 x0 z H K := by
 intro g0 aj ak al
 refine Ct.of fun w0 w ps0 H0 R E I hR => a5p ?_
 unfold B0 at h
 unfold F42
 refine B5 I Tryd.zeroValue33 (cs := [(vi 0), (Value.string ⟨#[]⟩), (vi 0), (vi 0), (vi 0)]) rfl fun am aw an ax => ?_
 refine j7 Tryd.call37 (h g0 aj ak al) ((an.bring 2).bring 2) ?_
 rintro _ _ _ ay ao _ _ ⟨c, n, q, r, s, rfl, rfl, y, h⟩
 refine a7 (J6 _ _) ?_
 refine B5 ao Tryd.zeroValue33 (cs := [(vi 0), (Value.string ⟨#[]⟩), (vi 0), (vi 0), (vi 0)]) rfl fun ap az aq ba => ?_
 refine o3 aq Tryd.sizeOf33 (vs := [(vi 2), (Value.string c), (vi 0), (vi 0), (vi 0)]) (cs' := [(vi 2), (Value.string c), (vi 0), (vi 0), (vi 0)]) rfl rfl (nb rfl) rfl rfl fun bb aa bc => ?_
 refine a7 H5 ?_
 refine o5 (l1 Tryd.isAgg9 aa rfl) ?_
 refine j7 Tryd.call59 h aa ?_
 rintro _ _ _ bd ar _ _ ⟨f, t, rfl, rfl, h⟩
 refine a7 (d8 _ _ (vi f) rfl) ?_
 refine a7 (d8 _ _ t rfl) ?_
 refine j7 Tryd.call20 (h g0 r s y) ((ar.bring 2).bring 2) ?_
 rintro _ ab _ ac j _ _ ⟨au, u, rfl, rfl, h⟩
 refine a7 (d8 _ _ (Value.int .i32 au) rfl) ?_
 refine a7 (d8 _ _ (Value.bool u) rfl) ?_
 obtain ⟨av, h⟩ := h
 refine a7 (a2I _ av) ?_
 refine a7 (Pu.g fun hb => by have a := hb; with_reducible exact H5) ?_
 refine o5 (Ld.g fun hb => by have a := hb; simp only [m1 a]; exact (l1 Tryd.isAgg9 (j.bring 2) rfl)) ?_
 refine a7 (Pu.g fun hb => by have a := hb; simp only [m1 a]; with_reducible exact (L4 _)) ?_
 refine a7 (Pu.g fun hb => by have a := hb; simp only [m1 a]; with_reducible exact (T8 _ _ _ _ _ _)) ?_
 simp only [s7, a4i]
 refine a7 (Pu.e (O7 _ _ _) (Pu.g fun hb => by obtain ⟨a, b⟩ := V2 hb; with_reducible exact H5)) ?_
 refine o5 (Ld.e (O7 _ _ _) (Ld.g fun hb => by obtain ⟨a, b⟩ := V2 hb; simp only [m1 hb]; exact (l1 Tryd.isAgg9 (j.bring 2) rfl))) ?_
 obtain ⟨d, h⟩ := h
 refine a7 (Pu.e (O7 _ _ _) (Pu.g fun hb => by obtain ⟨a, b⟩ := V2 hb; simp only [m1 hb]; with_reducible exact (a4x _ _ _ (d hb).1 (d hb).2))) ?_
 refine a7 (Pu.e (O7 _ _ _) (Pu.g fun hb => by obtain ⟨a, b⟩ := V2 hb; simp only [m1 hb]; with_reducible exact (l8 _ _ _ _ _ _))) ?_
 refine a7 (Pu.g fun hb => by have a := hb; simp only [m1 a, a2C a]; with_reducible exact (A6 _ _)) ?_
 refine a7 (Q3 _ _) ?_
 simp only [s7, a4i, a4S]
 refine a6t (O7 _ _ _) ?_
 refine U1 (D := fun ad v => ∃ (m : Int) (k : Hp) , ad = (gv (!((!isNilI t) || ((decide (1 < (c.size : Int))) && (decide (((c.get! (0 : Int).toNat).toNat : Int) = 48)))) && u) true (vi m)) ∧ (Inv w0 ps0 H0 k [bx g0 44 (f8 n r), s, bx ap 33 [(vi 2), (Value.string c), (vi 0), (vi 0), (vi 0)], bx am 33 [(vi 0), (Value.string ⟨#[]⟩), (vi 0), (vi 0), (vi 0)]] v) ∧ (∀ i, i < ac.heap.size → ¬ inF [] i → v.heap[i]? = ac.heap[i]?) ∧ Hle ab k ∧ (((((!isNilI t) || ((decide (1 < (c.size : Int))) && (decide (((c.get! (0 : Int).toNat).toNat : Int) = 48)))) || (u && (decide (m = 3)))) = true →
 K (a6.mk 2 c 0 (b6.mk 0 0)) 21 (f7 n) q k) ∧
 ((((!isNilI t) || ((decide (1 < (c.size : Int))) && (decide (((c.get! (0 : Int).toNat).toNat : Int) = 48)))) || (u && (decide (m = 3)))) = false →
 K (a6.mk 2 c f (b6.mk 0 0)) 0 (f7 n) q k))) (fun l => ?_) (fun l => ?_) ?_
 ·replace h := h.1 l
  obtain ⟨a, b⟩ := V2 l
  simp only [m1 l]
  refine j7 Tryd.call30 h j ?_
  rintro _ k _ v p ae af ⟨m, rfl, rfl, h⟩
  exact ⟨m, k, by rfl, p, af, ae, h⟩
 ·exact ⟨0, ab, by rw [a0P l], j, fun _ _ _ => rfl, Hle.refl _, h.2 l⟩
 ·clear h
  rintro ad v ⟨m, k, rfl, p, af, ae, h⟩
  refine a7 (Pu.e (O7 _ _ _) (Pu.g fun hb => by obtain ⟨a, b⟩ := V2 hb; simp only [m1 hb]; with_reducible exact (l8 _ _ _ _ _ _))) ?_
  refine a7 (Pu.g fun hb => by have a := hb; simp only [m1 a, a2C a]; with_reducible exact (A6 _ _)) ?_
  refine a7 (Q3 _ _) ?_
  refine o6 h (fun _ h => ?_) (fun _ h => ?_)
  ·refine o5 (ldA Tryd.isAgg33 Tryd.sizeOf33 rfl ((p.bring 2).at1 (o := 0) (vs := [(vi 2), (Value.string c), (vi 0), (vi 0), (vi 0)]) (nb rfl) rfl)) ?_
   refine o3 (p.bring 3) Tryd.sizeOf33 (vs := [(vi 2), (Value.string c), (vi 0), (vi 0), (vi 0)]) (cs' := [(vi 2), (Value.string c), (vi 0), (vi 0), (vi 0)]) rfl rfl (nb rfl) rfl rfl fun be ag bf => ?_
   refine D1 Tryd.isAgg33 Tryd.sizeOf33 rfl (ag.at1 (o := 0) (vs := [(vi 2), (Value.string c), (vi 0), (vi 0), (vi 0)]) (nb rfl) rfl) ?_
   exact hR _ k _ _ (((ag.drop.bring 2).drop.bring 1).bring 1) ⟨(a6.mk 2 c 0 (b6.mk 0 0)), 21, (f7 n), q, r, s, rfl, rfl, y, h⟩
  ·refine a7 Y7 ?_
   refine o3 (p.bring 2) Tryd.sizeOf2 (vs := [(vi f)]) (cs' := [(vi 2), (Value.string c), (vi f), (vi 0), (vi 0)]) rfl rfl (nb rfl) rfl rfl fun bg ah bh => ?_
   refine o5 (ldA Tryd.isAgg33 Tryd.sizeOf33 rfl (ah.at1 (o := 0) (vs := [(vi 2), (Value.string c), (vi f), (vi 0), (vi 0)]) (nb rfl) rfl)) ?_
   refine o3 (ah.bring 3) Tryd.sizeOf33 (vs := [(vi 2), (Value.string c), (vi f), (vi 0), (vi 0)]) (cs' := [(vi 2), (Value.string c), (vi f), (vi 0), (vi 0)]) rfl rfl (nb rfl) rfl rfl fun bi ai bj => ?_
   refine D1 Tryd.isAgg33 Tryd.sizeOf33 rfl (ai.at1 (o := 0) (vs := [(vi 2), (Value.string c), (vi f), (vi 0), (vi 0)]) (nb rfl) rfl) ?_
   exact hR _ k _ _ ((ai.drop.drop.bring 1).bring 1) ⟨(a6.mk 2 c f (b6.mk 0 0)), 0, (f7 n), q, r, s, rfl, rfl, y, h⟩
end Go.Proofs.YthklmeihgmcljaaDoor
