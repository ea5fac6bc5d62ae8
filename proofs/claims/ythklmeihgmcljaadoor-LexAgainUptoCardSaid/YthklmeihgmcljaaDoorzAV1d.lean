/- Typed formulas of the program's functions, and the theorems that the contracts follow from them; printed by lift.py off the code. -/
import Derived.Test.YthklmeihgmcljaaDoorzAV1
namespace Go.Proofs.YthklmeihgmcljaaDoor
open Go.RowKit
set_option maxRecDepth 100000
set_option maxHeartbeats 2000000
def C4 (H : Hp) (K : Bool → Hp → Prop) : Prop :=
 y5 ⟨#[120, 49, 60, 61, 45, 53, 35, 99]⟩ H (fun a k b i =>
 y5 ⟨#[97, 32, 38, 32, 98]⟩ i (fun l g j c =>
 ∃ d : a6, (((decide (b = 0)) && (decide ((a.n : Int) = 5))) = true → (0 : Int) ≤ 1 ∧ (1 : Int) < a.n ∧ EltH c a 1 5 (b9 d)) ∧
 ∃ e : a6, ((((decide (b = 0)) && (decide ((a.n : Int) = 5))) && (decide (d.t7 = ⟨#[60, 61]⟩))) = true → (0 : Int) ≤ 3 ∧ (3 : Int) < a.n ∧ EltH c a 3 5 (b9 e)) ∧
 ∃ f : a6, (((((decide (b = 0)) && (decide ((a.n : Int) = 5))) && (decide (d.t7 = ⟨#[60, 61]⟩))) && (decide (e.K2 = 5))) = true → (0 : Int) ≤ 4 ∧ (4 : Int) < a.n ∧ EltH c a 4 5 (b9 f)) ∧
 K (((((((decide (b = 0)) && (decide ((a.n : Int) = 5))) && (decide (d.t7 = ⟨#[60, 61]⟩))) && (decide (e.K2 = 5))) && (decide (f.fAt.s5 = 1 ∧ f.fAt.y2 = 9))) && (decide (j = 20))) && (decide (g.s5 = 1 ∧ g.y2 = 3))) c))
theorem Q1 {H : Hp} {K : Bool → Hp → Prop} (h : C4 H K) : C2 H K := by
 refine Ct.of fun w0 w ps0 H0 R E I hR => a6V ?_
 unfold C4 at h
 unfold F8
 refine i7 Tryd.call9 h I ?_
 rintro _ _ _ aa q _ _ ⟨r, m, o, rfl, rfl, h⟩
 refine a7 (f6 _ _ _ rfl) ?_
 refine a7 (f6 _ _ _ rfl) ?_
 refine a7 (f6 _ _ (vi o) rfl) ?_
 refine B5 q Tryd.zeroValue25 (cs := [(vi 0), (vi 0)]) rfl fun ab ac s ad => ?_
 refine o9 s Tryd.sizeOf25 (vs := (m6 m)) (cs' := (m6 m)) rfl rfl (nb rfl) rfl rfl fun ae t af => ?_
 refine i7 Tryd.call9 h t ?_
 rintro _ u _ ag y _ _ ⟨ah, i, p, rfl, rfl, h⟩
 refine a7 (f6 _ _ _ rfl) ?_
 refine a7 (f6 _ _ _ rfl) ?_
 refine a7 (f6 _ _ (vi p) rfl) ?_
 refine B5 y Tryd.zeroValue25 (cs := [(vi 0), (vi 0)]) rfl fun ai aj z ak => ?_
 refine o9 z Tryd.sizeOf25 (vs := (m6 i)) (cs' := (m6 i)) rfl rfl (nb rfl) rfl rfl fun al e am => ?_
 refine a7 (m0 _ _ _ _ _ _) ?_
 simp only [v8]
 refine a7 (Pu.g fun hb => by have a := hb; simp only [m7 a]; exact (O8 _ _ _)) ?_
 refine a7 (Pu.g fun hb => by have a := hb; simp only [m7 a]; with_reducible exact (m0 _ _ _ _ _ _)) ?_
 refine a7 (E3 _ _) ?_
 simp only [v8]
 obtain ⟨j, b, h⟩ := h
 obtain ⟨an, ao, b⟩ := a2q b
 refine a7 (Pu.g fun hb => by have a := hb; simp only [m7 a]; exact (E6 (b hb).2.2.1 _ _ _ _ (b hb).1 (b hb).2.1)) ?_
 refine a7 (Pu.g fun hb => by have a := hb; simp only [m7 a]; with_reducible exact C1) ?_
 refine q6 (Ld.g fun hb => by have a := hb; simp only [m7 a]; exact (ld1 (v := (Value.string j.t7)) Tryd.isAgg9 ((e.atH (b hb).2.2.2).sub (k := 1) (n := 1) (nb rfl)))) ?_
 refine a7 (Pu.g fun hb => by have a := hb; simp only [m7 a]; with_reducible exact (C9 _ _ _ _ _)) ?_
 refine a7 (E3 _ _) ?_
 simp only [v8]
 obtain ⟨l, c, h⟩ := h
 obtain ⟨ap, aq, c⟩ := a2q c
 refine a7 (Pu.g fun hb => by have a := hb; simp only [m7 a]; exact (E6 (c hb).2.2.1 _ _ _ _ (c hb).1 (c hb).2.1)) ?_
 refine a7 (Pu.g fun hb => by have a := hb; simp only [m7 a]; with_reducible exact P9) ?_
 refine q6 (Ld.g fun hb => by have a := hb; simp only [m7 a]; exact (ld1 (v := (vi l.K2)) Tryd.isAgg2 ((e.atH (c hb).2.2.2).sub (k := 2) (n := 1) (nb rfl)))) ?_
 refine a7 (Pu.g fun hb => by have a := hb; simp only [m7 a]; with_reducible exact (m0 _ _ _ _ _ _)) ?_
 refine a7 (E3 _ _) ?_
 simp only [v8]
 obtain ⟨f, d, h⟩ := h
 obtain ⟨ar, au, d⟩ := a2q d
 refine a7 (Pu.g fun hb => by have a := hb; simp only [m7 a]; exact (E6 (d hb).2.2.1 _ _ _ _ (d hb).1 (d hb).2.1)) ?_
 refine a7 (Pu.g fun hb => by have a := hb; simp only [m7 a]; with_reducible exact Z9) ?_
 refine q6 (Ld.g fun hb => by have a := hb; simp only [m7 a]; exact (ldA (vs := (m6 f.fAt)) Tryd.isAgg25 Tryd.sizeOf25 rfl ((e.atH (d hb).2.2.2).sub (k := 3) (n := 2) (nb rfl)))) ?_
 refine a7 (Pu.g fun hb => by have a := hb; with_reducible exact (P2 _ _)) ?_
 refine a7 (Pu.g fun hb => by have a := hb; simp only [m7 a]; with_reducible exact (a1a _ _ _ _ _ _)) ?_
 refine a7 (E3 _ _) ?_
 simp only [v8]
 refine a7 (Pu.g fun hb => by have a := hb; simp only [m7 a]; with_reducible exact (m0 _ _ _ _ _ _)) ?_
 refine a7 (E3 _ _) ?_
 refine q6 (Ld.g fun hb => by have a := hb; exact (lW Tryd.isAgg25 Tryd.sizeOf25 rfl e)) ?_
 refine a7 (Pu.g fun hb => by have a := hb; with_reducible exact (P2 _ _)) ?_
 refine a7 (Pu.g fun hb => by have a := hb; simp only [m7 a]; with_reducible exact (a1a _ _ _ _ _ _)) ?_
 refine a7 (E3 _ _) ?_
 exact hR _ u _ _ e.drop.drop ⟨(((((((decide (o = 0)) && (decide ((r.n : Int) = 5))) && (decide (j.t7 = ⟨#[60, 61]⟩))) && (decide (l.K2 = 5))) && (decide (f.fAt.s5 = 1 ∧ f.fAt.y2 = 9))) && (decide (p = 20))) && (decide (i.s5 = 1 ∧ i.y2 = 3))), rfl, rfl, h⟩
def f7 (k8 : Bool) (H : Hp) (K : Bool → Hp → Prop) : Prop :=
 (k8 = true →
 K true H) ∧
 (k8 = false →
 K false H)
def K6 (x0 : ByteArray) (H : Hp) (K : Bool → Hp → Prop) : Prop :=
 (x0 = ⟨#[118, 97, 114]⟩ →
 f7 (decide (x0 = ⟨#[118, 97, 114]⟩)) H K) ∧
 (¬ (x0 = ⟨#[118, 97, 114]⟩) →
 (x0 = ⟨#[97, 114, 114, 97, 121]⟩ →
 f7 (decide (x0 = ⟨#[97, 114, 114, 97, 121]⟩)) H K) ∧
 (¬ (x0 = ⟨#[97, 114, 114, 97, 121]⟩) →
 (x0 = ⟨#[105, 102]⟩ →
 f7 (decide (x0 = ⟨#[105, 102]⟩)) H K) ∧
 (¬ (x0 = ⟨#[105, 102]⟩) →
 (x0 = ⟨#[101, 108, 115, 101]⟩ →
 f7 (decide (x0 = ⟨#[101, 108, 115, 101]⟩)) H K) ∧
 (¬ (x0 = ⟨#[101, 108, 115, 101]⟩) →
 (x0 = ⟨#[119, 104, 105, 108, 101]⟩ →
 f7 (decide (x0 = ⟨#[119, 104, 105, 108, 101]⟩)) H K) ∧
 (¬ (x0 = ⟨#[119, 104, 105, 108, 101]⟩) →
 (x0 = ⟨#[97, 115, 115, 101, 114, 116]⟩ →
 f7 (decide (x0 = ⟨#[97, 115, 115, 101, 114, 116]⟩)) H K) ∧
 (¬ (x0 = ⟨#[97, 115, 115, 101, 114, 116]⟩) →
 (x0 = ⟨#[97, 115, 115, 117, 109, 101]⟩ →
 f7 (decide (x0 = ⟨#[97, 115, 115, 117, 109, 101]⟩)) H K) ∧
 (¬ (x0 = ⟨#[97, 115, 115, 117, 109, 101]⟩) →
 (x0 = ⟨#[115, 107, 105, 112]⟩ →
 f7 (decide (x0 = ⟨#[115, 107, 105, 112]⟩)) H K) ∧
 (¬ (x0 = ⟨#[115, 107, 105, 112]⟩) →
 (x0 = ⟨#[105, 110, 112, 117, 116]⟩ →
 f7 (decide (x0 = ⟨#[105, 110, 112, 117, 116]⟩)) H K) ∧
 (¬ (x0 = ⟨#[105, 110, 112, 117, 116]⟩) →
 (x0 = ⟨#[116, 114, 117, 101]⟩ →
 f7 (decide (x0 = ⟨#[116, 114, 117, 101]⟩)) H K) ∧
 (¬ (x0 = ⟨#[116, 114, 117, 101]⟩) →
 f7 (decide (x0 = ⟨#[102, 97, 108, 115, 101]⟩)) H K))))))))))
theorem X7 (x0 : ByteArray) {H : Hp} {K : Bool → Hp → Prop} (h : K6 x0 H K) : K3 x0 H K := by
 refine Ct.of fun w0 w ps0 H0 R E I hR => a5w ?_
 unfold K6 at h
 unfold F13
 have hj1 : ∀ (k8 : Bool) (H : Hp) (w : World) (_ : Inv w0 ps0 H0 H [] w) (_ : f7 k8 H K), a1b (Value.bool k8) w R E := by
  intro k8 H w I h
  unfold a1b
  intro _
  unfold f7 at h
  refine o7 h (fun _ h => ?_) (fun _ h => ?_)
  ·exact hR _ H _ _ I ⟨true, rfl, rfl, h⟩
  ·exact hR _ H _ _ I ⟨false, rfl, rfl, h⟩
 refine y4 fun j1 hx1 => ?_
 refine a7 (C9 _ _ _ _ _) ?_
 refine j9 h (fun _ h => ?_) (fun _ h => ?_)
 ·exact hx1 _ _ (hj1 (decide (x0 = ⟨#[118, 97, 114]⟩)) H _ I h)
 ·refine a7 (C9 _ _ _ _ _) ?_
  refine j9 h (fun _ h => ?_) (fun _ h => ?_)
  ·exact hx1 _ _ (hj1 (decide (x0 = ⟨#[97, 114, 114, 97, 121]⟩)) H _ I h)
  ·refine a7 (C9 _ _ _ _ _) ?_
   refine j9 h (fun _ h => ?_) (fun _ h => ?_)
   ·exact hx1 _ _ (hj1 (decide (x0 = ⟨#[105, 102]⟩)) H _ I h)
   ·refine a7 (C9 _ _ _ _ _) ?_
    refine j9 h (fun _ h => ?_) (fun _ h => ?_)
    ·exact hx1 _ _ (hj1 (decide (x0 = ⟨#[101, 108, 115, 101]⟩)) H _ I h)
    ·refine a7 (C9 _ _ _ _ _) ?_
     refine j9 h (fun _ h => ?_) (fun _ h => ?_)
     ·exact hx1 _ _ (hj1 (decide (x0 = ⟨#[119, 104, 105, 108, 101]⟩)) H _ I h)
     ·refine a7 (C9 _ _ _ _ _) ?_
      refine j9 h (fun _ h => ?_) (fun _ h => ?_)
      ·exact hx1 _ _ (hj1 (decide (x0 = ⟨#[97, 115, 115, 101, 114, 116]⟩)) H _ I h)
      ·refine a7 (C9 _ _ _ _ _) ?_
       refine j9 h (fun _ h => ?_) (fun _ h => ?_)
       ·exact hx1 _ _ (hj1 (decide (x0 = ⟨#[97, 115, 115, 117, 109, 101]⟩)) H _ I h)
       ·refine a7 (C9 _ _ _ _ _) ?_
        refine j9 h (fun _ h => ?_) (fun _ h => ?_)
        ·exact hx1 _ _ (hj1 (decide (x0 = ⟨#[115, 107, 105, 112]⟩)) H _ I h)
        ·refine a7 (C9 _ _ _ _ _) ?_
         refine j9 h (fun _ h => ?_) (fun _ h => ?_)
         ·exact hx1 _ _ (hj1 (decide (x0 = ⟨#[105, 110, 112, 117, 116]⟩)) H _ I h)
         ·refine a7 (C9 _ _ _ _ _) ?_
          refine j9 h (fun _ h => ?_) (fun _ h => ?_)
          ·exact hx1 _ _ (hj1 (decide (x0 = ⟨#[116, 114, 117, 101]⟩)) H _ I h)
          ·refine a7 (C9 _ _ _ _ _) ?_
           exact hx1 _ _ (hj1 (decide (x0 = ⟨#[102, 97, 108, 115, 101]⟩)) H _ I h)
def I0 (x0 : Int) (H : Hp) (K : Bool → Hp → Prop) : Prop :=
 t6 x0 H (fun a b =>
 K ((decide (a = 3)) || (decide (a = 4))) b)
theorem U1 (x0 : Int) {H : Hp} {K : Bool → Hp → Prop} (h : I0 x0 H K) : H6 x0 H K := by
 refine Ct.of fun w0 w ps0 H0 R E I hR => a5C ?_
 unfold I0 at h
 unfold F29
 refine i7 Tryd.call30 h I ?_
 rintro _ c _ e d _ _ ⟨b, rfl, rfl, h⟩
 refine a7 (m0 _ _ _ _ _ _) ?_
 simp only [v8]
 refine a7 (Pu.g fun hb => by have a := hb; simp only [m7 a]; with_reducible exact (m0 _ _ _ _ _ _)) ?_
 refine a7 (P8 _ _) ?_
 exact hR _ c _ _ d ⟨((decide (b = 3)) || (decide (b = 4))), rfl, rfl, h⟩
def E9 (H : Hp) (K : Int → Int → Hp → Prop) : Prop :=
 K 0 0 H
def B0 (a3U : ByteArray) (b : ByteArray) (a : Nat) (H : Hp) (n2 : Nat → Hp → Prop) (K : Int → Int → Hp → Prop) : Prop :=
 (a < b.size →
 (¬ (((Utf8.decode b a).1 : Int) = 65533) →
 n2 (a + (Utf8.decode b a).2) H) ∧
 (((Utf8.decode b a).1 : Int) = 65533 →
 (0 : Int) ≤ ((a : Nat) : Int) ∧ (((a : Nat) : Int) : Int) ≤ a3U.size ∧
 u5 (a3U.extract (((a : Nat) : Int) : Int).toNat a3U.size) H (fun e c d =>
 (c = 1 →
 K ((a : Nat) : Int) 11 d) ∧
 (¬ (c = 1) →
 n2 (a + (Utf8.decode b a).2) d)))) ∧
 (¬ (a < b.size) →
 E9 H K)
def J0 (x0 : ByteArray) (H : Hp) (K : Int → Int → Hp → Prop) : Prop :=
 (65536 < (x0.size : Int) →
 K 0 10 H) ∧
 (¬ (65536 < (x0.size : Int)) →
 TL (0 : Nat) H fun (s : Nat) H n2 => B0 x0 x0 s H n2 K)
theorem U2 (x0 : ByteArray) {H : Hp} {K : Int → Int → Hp → Prop} (h : J0 x0 H K) : M8 x0 H K := by
 refine Ct.of fun w0 w ps0 H0 R E I hR => a5x ?_
 unfold J0 at h
 unfold F17
 refine a7 (J4 _) ?_
 refine a7 (V1 _ _ _ _ _ _) ?_
 refine j9 h (fun _ h => ?_) (fun _ h => ?_)
 ·exact hR _ H _ _ I ⟨0, 10, rfl, rfl, h⟩
 ·have hj1 : ∀ (H : Hp) (w : World) (_ : Inv w0 ps0 H0 H [] w) (_ : E9 H K), a1c w R E := by
   intro H w I h
   unfold a1c
   intro _
   unfold E9 at h
   exact hR _ H _ _ I ⟨0, 0, rfl, rfl, h⟩
  refine y4 fun j1 hx1 => ?_
  refine a0p Tryd.underlying9 x0 I fun m aa o ab => ?_
  obtain ⟨f, d, p, q⟩ := h
  refine E1 (J := fun n l w => ∃ (s : Nat) (H : Hp) , n = d s ∧ l = [] ∧ Inv w0 ps0 H0 H [itf m x0 s] w ∧ f s H) ⟨_, 0, H, rfl, rfl, o, p⟩ ?_
  rintro ac ad w next2 ⟨c, H, rfl, r, I, t⟩ hn2
  clear r
  obtain ⟨n2, hm2, h⟩ : ∃ n2 : Nat → Hp → Prop, (∀ s' H', n2 s' H' → f s' H' ∧ d s' < d c) ∧ B0 x0 x0 c H n2 K := ⟨_, fun _ _ h => h, q c H (fun s' H' => f s' H' ∧ d s' < d c) t (fun _ _ a b => ⟨a, b⟩)⟩
  unfold a3c
  unfold B0 at h
  refine a0Y I (fun g ae i af => ?_) (fun g => ?_)
  ·replace h := h.1 g
   refine a7 (f6 _ _ (Value.bool true) rfl) ?_
   refine L8 (fun e => ?_) (fun e => by cases e)
   refine a7 (f6 _ _ (vi ((c : Nat) : Int)) rfl) ?_
   refine a7 (f6 _ _ (Value.int .i32 ((Utf8.decode x0 c).1 : Int)) rfl) ?_
   refine a7 (K9 _ _ _ _ _ _) ?_
   refine a3Q h (fun _ h => ?_) (fun _ h => ?_)
   ·exact hn2 _ _ _ (hm2 _ _ h).2 ⟨(c + (Utf8.decode x0 c).2), H, rfl, rfl, i, (hm2 _ _ h).1⟩
   ·obtain ⟨u, v, h⟩ := h
    refine a7 (a1Q x0 Tryd.underlying9 u v) ?_
    refine i7 Tryd.call33 h i ?_
    rintro _ j _ ag k _ _ ⟨y, z, rfl, rfl, h⟩
    refine a7 (f6 _ _ (Value.int .i32 y) rfl) ?_
    refine a7 (f6 _ _ (vi z) rfl) ?_
    refine a7 (m0 _ _ _ _ _ _) ?_
    refine j9 h (fun _ h => ?_) (fun _ h => ?_)
    ·exact hR _ j _ _ k.drop ⟨((c : Nat) : Int), 11, rfl, rfl, h⟩
    ·exact hn2 _ _ _ (hm2 _ _ h).2 ⟨(c + (Utf8.decode x0 c).2), j, rfl, rfl, k, (hm2 _ _ h).1⟩
  ·replace h := h.2 g
   refine a7 (f6 _ _ (Value.bool false) rfl) ?_
   refine L8 (fun e => by cases e) (fun e => ?_)
   exact hx1 _ _ (hj1 H _ I.drop h)
def F7 (x0 : Int) (H : Hp) (K : Bool → Hp → Prop) : Prop :=
 K (!decide (x0 = 10)) H
theorem N4 (x0 : Int) {H : Hp} {K : Bool → Hp → Prop} (h : F7 x0 H K) : y9 x0 H K := by
 refine Ct.of fun w0 w ps0 H0 R E I hR => a5H ?_
 unfold F7 at h
 unfold F40
 refine a7 (K9 _ _ _ _ _ _) ?_
 exact hR _ H _ _ I ⟨(!decide (x0 = 10)), rfl, rfl, h⟩
def A4 (x0 : Int) (H : Hp) (K : Bool → Hp → Prop) : Prop :=
 t6 x0 H (fun a b =>
 K (decide (a = 4)) b)
theorem N5 (x0 : Int) {H : Hp} {K : Bool → Hp → Prop} (h : A4 x0 H K) : z6 x0 H K := by
 refine Ct.of fun w0 w ps0 H0 R E I hR => a5Q ?_
 unfold A4 at h
 unfold F58
 refine i7 Tryd.call30 h I ?_
 rintro _ a _ d b _ _ ⟨c, rfl, rfl, h⟩
 refine a7 (m0 _ _ _ _ _ _) ?_
 exact hR _ a _ _ b ⟨(decide (c = 4)), rfl, rfl, h⟩
def B9 (x0 : a8) (j : (List a6)) (H : Hp) (K : a6 → Int → a8 → (List a6) → Hp → Prop) : Prop :=
 o0 (f8 x0) j H (fun a c d k =>
 O9 a 10 64 k (fun l b m =>
 i6 (f8 c) d m (fun n e f =>
 okI b ∧
 ((!(!isNilI b) && (decide (1 < (a.size : Int)))) = true → (0 : Int) ≤ 0 ∧ 0 < (a.size : Int)) ∧
 TG ((!((!isNilI b) || ((decide (1 < (a.size : Int))) && (decide (((a.get! (0 : Int).toNat).toNat : Int) = 48)))) && e) = true) (t6 n f) 0 f (fun (g : Int) (i : Hp) =>
 ((((!isNilI b) || ((decide (1 < (a.size : Int))) && (decide (((a.get! (0 : Int).toNat).toNat : Int) = 48)))) || (e && (decide (g = 3)))) = true →
 K (a6.mk 2 a 0 (b7.mk 0 0)) 21 (f8 c) d i) ∧
 ((((!isNilI b) || ((decide (1 < (a.size : Int))) && (decide (((a.get! (0 : Int).toNat).toNat : Int) = 48)))) || (e && (decide (g = 3)))) = false →
 K (a6.mk 2 a l (b7.mk 0 0)) 0 (f8 c) d i)))))
theorem P5 (x0 : a8) (z : (List a6)) {H : Hp} {K : a6 → Int → a8 → (List a6) → Hp → Prop} (h : B9 x0 z H K) : G9 x0 z H K := by
 intro g0 aj ak al
 refine Ct.of fun w0 w ps0 H0 R E I hR => a5J ?_
 unfold B9 at h
 unfold F42
 refine B5 I Tryd.zeroValue33 (cs := [(vi 0), (Value.string ⟨#[]⟩), (vi 0), (vi 0), (vi 0)]) rfl fun am aw an ax => ?_
 refine i7 Tryd.call37 (h g0 aj ak al) ((an.bring 2).bring 2) ?_
 rintro _ _ _ ay ao _ _ ⟨c, n, q, r, s, rfl, rfl, y, h⟩
 refine a7 (L1 _ _) ?_
 refine B5 ao Tryd.zeroValue33 (cs := [(vi 0), (Value.string ⟨#[]⟩), (vi 0), (vi 0), (vi 0)]) rfl fun ap az aq ba => ?_
 refine o9 aq Tryd.sizeOf33 (vs := [(vi 2), (Value.string c), (vi 0), (vi 0), (vi 0)]) (cs' := [(vi 2), (Value.string c), (vi 0), (vi 0), (vi 0)]) rfl rfl (nb rfl) rfl rfl fun bb aa bc => ?_
 refine a7 C1 ?_
 refine q6 (l1 Tryd.isAgg9 aa rfl) ?_
 refine i7 Tryd.call59 h aa ?_
 rintro _ _ _ bd ar _ _ ⟨f, t, rfl, rfl, h⟩
 refine a7 (f6 _ _ (vi f) rfl) ?_
 refine a7 (f6 _ _ t rfl) ?_
 refine i7 Tryd.call20 (h g0 r s y) ((ar.bring 2).bring 2) ?_
 rintro _ ab _ ac j _ _ ⟨au, u, rfl, rfl, h⟩
 refine a7 (f6 _ _ (Value.int .i32 au) rfl) ?_
 refine a7 (f6 _ _ (Value.bool u) rfl) ?_
 obtain ⟨av, h⟩ := h
 refine a7 (a3a _ av) ?_
 refine a7 (Pu.g fun hb => by have a := hb; with_reducible exact C1) ?_
 refine q6 (Ld.g fun hb => by have a := hb; simp only [m7 a]; exact (l1 Tryd.isAgg9 (j.bring 2) rfl)) ?_
 refine a7 (Pu.g fun hb => by have a := hb; simp only [m7 a]; with_reducible exact (J4 _)) ?_
 refine a7 (Pu.g fun hb => by have a := hb; simp only [m7 a]; with_reducible exact (V1 _ _ _ _ _ _)) ?_
 simp only [v8, a4x]
 refine a7 (Pu.e (Q3 _ _ _) (Pu.g fun hb => by obtain ⟨a, b⟩ := W4 hb; with_reducible exact C1)) ?_
 refine q6 (Ld.e (Q3 _ _ _) (Ld.g fun hb => by obtain ⟨a, b⟩ := W4 hb; simp only [m7 hb]; exact (l1 Tryd.isAgg9 (j.bring 2) rfl))) ?_
 obtain ⟨d, h⟩ := h
 refine a7 (Pu.e (Q3 _ _ _) (Pu.g fun hb => by obtain ⟨a, b⟩ := W4 hb; simp only [m7 hb]; with_reducible exact (a4M _ _ _ (d hb).1 (d hb).2))) ?_
 refine a7 (Pu.e (Q3 _ _ _) (Pu.g fun hb => by obtain ⟨a, b⟩ := W4 hb; simp only [m7 hb]; with_reducible exact (m0 _ _ _ _ _ _))) ?_
 refine a7 (Pu.g fun hb => by have a := hb; simp only [m7 a, a2V a]; with_reducible exact (E3 _ _)) ?_
 refine a7 (P8 _ _) ?_
 simp only [v8, a4x, a5k]
 refine a6O (Q3 _ _ _) ?_
 refine V3 (D := fun ad v => ∃ (m : Int) (k : Hp) , ad = (gv (!((!isNilI t) || ((decide (1 < (c.size : Int))) && (decide (((c.get! (0 : Int).toNat).toNat : Int) = 48)))) && u) true (vi m)) ∧ (Inv w0 ps0 H0 k [bx g0 44 (f9 n r), s, bx ap 33 [(vi 2), (Value.string c), (vi 0), (vi 0), (vi 0)], bx am 33 [(vi 0), (Value.string ⟨#[]⟩), (vi 0), (vi 0), (vi 0)]] v) ∧ (∀ i, i < ac.heap.size → ¬ inF [] i → v.heap[i]? = ac.heap[i]?) ∧ Hle ab k ∧ (((((!isNilI t) || ((decide (1 < (c.size : Int))) && (decide (((c.get! (0 : Int).toNat).toNat : Int) = 48)))) || (u && (decide (m = 3)))) = true →
 K (a6.mk 2 c 0 (b7.mk 0 0)) 21 (f8 n) q k) ∧
 ((((!isNilI t) || ((decide (1 < (c.size : Int))) && (decide (((c.get! (0 : Int).toNat).toNat : Int) = 48)))) || (u && (decide (m = 3)))) = false →
 K (a6.mk 2 c f (b7.mk 0 0)) 0 (f8 n) q k))) (fun l => ?_) (fun l => ?_) ?_
 ·replace h := h.1 l
  obtain ⟨a, b⟩ := W4 l
  simp only [m7 l]
  refine i7 Tryd.call30 h j ?_
  rintro _ k _ v p ae af ⟨m, rfl, rfl, h⟩
  exact ⟨m, k, by rfl, p, af, ae, h⟩
 ·exact ⟨0, ab, by rw [a0o l], j, fun _ _ _ => rfl, Hle.refl _, h.2 l⟩
 ·clear h
  rintro ad v ⟨m, k, rfl, p, af, ae, h⟩
  refine a7 (Pu.e (Q3 _ _ _) (Pu.g fun hb => by obtain ⟨a, b⟩ := W4 hb; simp only [m7 hb]; with_reducible exact (m0 _ _ _ _ _ _))) ?_
  refine a7 (Pu.g fun hb => by have a := hb; simp only [m7 a, a2V a]; with_reducible exact (E3 _ _)) ?_
  refine a7 (P8 _ _) ?_
  refine o7 h (fun _ h => ?_) (fun _ h => ?_)
  ·refine q6 (ldA Tryd.isAgg33 Tryd.sizeOf33 rfl ((p.bring 2).at1 (o := 0) (vs := [(vi 2), (Value.string c), (vi 0), (vi 0), (vi 0)]) (nb rfl) rfl)) ?_
   refine o9 (p.bring 3) Tryd.sizeOf33 (vs := [(vi 2), (Value.string c), (vi 0), (vi 0), (vi 0)]) (cs' := [(vi 2), (Value.string c), (vi 0), (vi 0), (vi 0)]) rfl rfl (nb rfl) rfl rfl fun be ag bf => ?_
   refine E0 Tryd.isAgg33 Tryd.sizeOf33 rfl (ag.at1 (o := 0) (vs := [(vi 2), (Value.string c), (vi 0), (vi 0), (vi 0)]) (nb rfl) rfl) ?_
   exact hR _ k _ _ (((ag.drop.bring 2).drop.bring 1).bring 1) ⟨(a6.mk 2 c 0 (b7.mk 0 0)), 21, (f8 n), q, r, s, rfl, rfl, y, h⟩
  ·refine a7 P9 ?_
   refine o9 (p.bring 2) Tryd.sizeOf2 (vs := [(vi f)]) (cs' := [(vi 2), (Value.string c), (vi f), (vi 0), (vi 0)]) rfl rfl (nb rfl) rfl rfl fun bg ah bh => ?_
   refine q6 (ldA Tryd.isAgg33 Tryd.sizeOf33 rfl (ah.at1 (o := 0) (vs := [(vi 2), (Value.string c), (vi f), (vi 0), (vi 0)]) (nb rfl) rfl)) ?_
   refine o9 (ah.bring 3) Tryd.sizeOf33 (vs := [(vi 2), (Value.string c), (vi f), (vi 0), (vi 0)]) (cs' := [(vi 2), (Value.string c), (vi f), (vi 0), (vi 0)]) rfl rfl (nb rfl) rfl rfl fun bi ai bj => ?_
   refine E0 Tryd.isAgg33 Tryd.sizeOf33 rfl (ai.at1 (o := 0) (vs := [(vi 2), (Value.string c), (vi f), (vi 0), (vi 0)]) (nb rfl) rfl) ?_
   exact hR _ k _ _ ((ai.drop.drop.bring 1).bring 1) ⟨(a6.mk 2 c f (b7.mk 0 0)), 0, (f8 n), q, r, s, rfl, rfl, y, h⟩
end Go.Proofs.YthklmeihgmcljaaDoor
