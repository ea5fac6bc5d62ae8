/- Typed formulas of the program's functions, and the theorems that the contracts follow from them; printed by lift.py off the code. -/
import Derived.Test.YthklmeihgmcljaaGreatDoorzCV1
namespace Go.Proofs.YthklmeihgmcljaaGreatDoor
open Go.RowKit
set_option maxRecDepth 100000
set_option maxHeartbeats 2000000
def a2S (x0 : ByteArray) (H : Hp) (K : l7 → b9 → Int → Hp → Prop) : Prop :=
 E1 x0 H (fun a b c d =>
 K a b c d)
theorem a8d (x0) {H K} (h : a2S x0 H K) : a1f x0 H K := by
 refine Ct.of fun w0 w ps0 H0 R E I hR => c5B ?_
 unfold a2S at h
 unfold F9
 refine m7 I Tryz.zeroValue26 (cs := [(nS), (nS)]) rfl fun k l e m => ?_
 refine m7 e Tryz.zeroValue28 (cs := [(vi 0), (vi 0)]) rfl fun n p f q => ?_
 refine g8 Tryz.call20 h f ?_
 rintro _ g _ r i _ _ ⟨a, b, d, rfl, rfl, h⟩
 refine a7 (j7 _ _ _ rfl) (a7 (j7 _ _ _ rfl) (a7 (j7 _ _ (vi d) rfl) ?_))
 refine g6 (i.bring 1) Tryz.sizeOf26 (vs := (p7 a)) (cs' := (p7 a)) rfl rfl (nb rfl) rfl rfl fun s j t => ?_
 refine g6 (j.bring 1) Tryz.sizeOf28 (vs := (d9 b)) (cs' := (d9 b)) rfl rfl (nb rfl) rfl rfl fun u c v => ?_
 refine u1 Tryz.isAgg26 Tryz.sizeOf26 rfl ((c.bring 1).at1 (o := 0) (vs := (p7 a)) (nb rfl) rfl) ?_
 refine u1 Tryz.isAgg28 Tryz.sizeOf28 rfl (c.at1 (o := 0) (vs := (d9 b)) (nb rfl) rfl) ?_
 exact hR _ g _ _ c.drop.drop ⟨a, b, d, rfl, rfl, h⟩
def X3 (x0 : b8) (H : Hp) (K : b5 → Hp → Prop) : Prop :=
 (0 : Int) ≤ x0.fat ∧ (x0.fat : Int) < x0.fl.n ∧ ∃ a : b5, EltH H x0.fl x0.fat 5 (d8 a) ∧
 K a H
theorem a4P (x0) {H K} (h : X3 x0 H K) : W8 x0 H K := by
 intro g0
 refine Ct.of fun w0 w ps0 H0 R E I hR => c2Y ?_
 unfold X3 at h
 unfold F63
 refine m7 I Tryz.zeroValue103 (cs := [(vi 0), (eS), (vi 0), (vi 0), (vi 0)]) rfl fun j k e l => ?_
 refine U3 e fun m b => ?_
 refine o8 (q7 _) ?_
 refine o8 b6r ?_
 refine o8 (q7 _) ?_
 refine o8 a2L ?_
 refine A0 (l1 Tryz.isAgg61 (b.bring 1) rfl) ?_
 refine A0 (l1 Tryz.isAgg3 (b.bring 1) rfl) ?_
 obtain ⟨f, g, a, c, h⟩ := h
 obtain ⟨n, p, i, c⟩ := c
 refine o8 (b3r i _ _ _ _ f g) ?_
 refine A0 (ldA (vs := (d8 a)) Tryz.isAgg103 Tryz.sizeOf103 rfl (b.atH c)) ?_
 refine g6 b Tryz.sizeOf103 (vs := (d8 a)) (cs' := (d8 a)) rfl rfl (nb rfl) rfl rfl fun q d r => ?_
 refine u1 Tryz.isAgg103 Tryz.sizeOf103 rfl (d.at1 (o := 0) (vs := (d8 a)) (nb rfl) rfl) ?_
 exact hR _ H _ _ d.drop ⟨a, rfl, rfl, h⟩
def a2t (x0 : b8) (x1 : ByteArray) (H : Hp) (K : Bool → Hp → Prop) : Prop :=
 W8 x0 H (fun a b =>
 K (((decide (x0.fbad = 0)) && ((decide (a.f7 = 3)) || (decide (a.f7 = 4)))) && (decide (a.A8 = x1))) b)
theorem a2u (x0 x1) {H K} (h : a2t x0 x1 H K) : s9 x0 x1 H K := by
 intro g0
 refine Ct.of fun w0 w ps0 H0 R E I hR => c2I ?_
 unfold a2t at h
 unfold F23
 refine g8 Tryz.call63 (h g0) I ?_
 rintro _ f _ k i _ _ ⟨d, rfl, rfl, h⟩
 refine m7 i Tryz.zeroValue103 (cs := [(vi 0), (eS), (vi 0), (vi 0), (vi 0)]) rfl fun l m j n => ?_
 refine g6 j Tryz.sizeOf103 (vs := (d8 d)) (cs' := (d8 d)) rfl rfl (nb rfl) rfl rfl fun o c p => ?_
 refine a7 (q7 _) (a7 b6q (g7 (l1 Tryz.isAgg3 (c.bring 1) rfl) (a7 pEq ?_)))
 refine a7 (Pu.g fun a => by with_reducible exact a0m) ?_
 refine g7 (Ld.g fun a => by simp only [m6 a]; exact (l1 Tryz.isAgg3 c rfl)) ?_
 refine a7 (Pu.g fun a => by simp only [m6 a]; with_reducible exact pEq) ?_
 simp only [C9, b0t]
 refine a7 (Pu.e (b1j _ _ _) (Pu.g fun hb => by obtain ⟨a, b⟩ := b6o hb; with_reducible exact a0m)) ?_
 refine g7 (Ld.e (b1j _ _ _) (Ld.g fun hb => by obtain ⟨a, b⟩ := b6o hb; simp only [m6 hb]; exact (l1 Tryz.isAgg3 c rfl))) ?_
 refine a7 (Pu.e (b1j _ _ _) (Pu.g fun hb => by obtain ⟨a, b⟩ := b6o hb; simp only [m6 hb]; with_reducible exact pEq)) ?_
 refine a7 (Pu.g fun a => by simp only [m6 a, c2r a]; with_reducible exact (L0 _ _)) ?_
 refine a7 (I0 _ _) ?_
 refine a7 (Pu.g fun a => by with_reducible exact Q6) ?_
 refine g7 (Ld.g fun a => by simp only [m6 a]; exact (l1 Tryz.isAgg9 c rfl)) ?_
 simp only [C9]
 refine a7 (Pu.g fun a => by simp only [m6 a]; with_reducible exact (R5 _ _ _ _ _)) ?_
 refine a7 (I0 _ _) ?_
 exact hR _ f _ _ c.drop ⟨(((decide (x0.fbad = 0)) && ((decide (d.f7 = 3)) || (decide (d.f7 = 4)))) && (decide (d.A8 = x1))), rfl, rfl, h⟩
def V0 (s8 : b8) (a : f8) (b : f8) (H : Hp) (K : f8 → b8 → Hp → Prop) : Prop :=
 K a s8 H
def P3 (a3H : Int) (d : f8) (m5 : b8) (e : f8) (H : Hp) (n2 : (f8 × b8 × f8) → Hp → Prop) (K : f8 → b8 → Hp → Prop) : Prop :=
 N7 m5 ⟨#[124, 124]⟩ H (fun f g i =>
 (f = true →
 S1 g a3H i (fun j k l =>
 ∀ (a : Sl) (b : Hp), Hle l b → SlH b 4 g9 a [d, j] → a.n ≤ a.c →
 n2 ((f8.mk 6 0 (Sl.mk none 0 0) a), k, e) b)) ∧
 (f = false →
 V0 g d e i K))
def X4 (x0 : b8) (x1 : Int) (H : Hp) (K : f8 → b8 → Hp → Prop) : Prop :=
 S1 x0 x1 H (fun a b c =>
 TL ((a, b, (f8.mk 0 0 (Sl.mk none 0 0) (Sl.mk none 0 0))) : f8 × b8 × f8) c fun (s : f8 × b8 × f8) H n2 => P3 x1 s.1 s.2.1 s.2.2 H n2 K)
theorem a4Q (x0 x1) {H K} (h : X4 x0 x1 H K) : a1O x0 x1 H K := by
 intro g0
 refine Ct.of fun w0 w ps0 H0 R E I hR => c2P ?_
 unfold X4 at h
 unfold F43
 refine m7 I Tryz.zeroValue49 (cs := [(vi 0), (vi 0), (nS), (nS)]) rfl fun m ay ab az => ?_
 refine g8 Tryz.call90 (h g0) (ab.bring 1) ?_
 rintro _ ac _ ba ad _ _ ⟨p, ae, rfl, rfl, h⟩
 refine m7 ad Tryz.zeroValue49 (cs := [(vi 0), (vi 0), (nS), (nS)]) rfl fun q bb af bc => ?_
 refine g6 af Tryz.sizeOf49 (vs := (g9 p)) (cs' := (g9 p)) rfl rfl (nb rfl) rfl rfl fun bd ag be => ?_
 have hj1 : ∀ (s8 : b8) (g : f8) (r : f8) H w (_ : Inv w0 ps0 H0 H [bx g0 66 (j8 s8), bx q 49 (g9 g), bx m 49 (g9 r)] w) (_ : V0 s8 g r H K), b3H (Value.pointer (some ⟨m, 0, none⟩)) (Value.pointer (some ⟨q, 0, none⟩)) w R E := by
  intro s8 g r H w I h
  unfold b3H
  intro _
  unfold V0 at h
  refine g7 (lW Tryz.isAgg49 Tryz.sizeOf49 rfl (I.bring 1)) ?_
  refine g6 (I.bring 2) Tryz.sizeOf49 (vs := (g9 g)) (cs' := (g9 g)) rfl rfl (nb rfl) rfl rfl fun bf u bg => ?_
  refine u1 Tryz.isAgg49 Tryz.sizeOf49 rfl (u.at1 (o := 0) (vs := (g9 g)) (nb rfl) rfl) ?_
  exact hR _ H _ _ (u.drop.bring 1).drop ⟨g, s8, rfl, rfl, h⟩
 refine u7 fun j1 hx1 => ?_
 obtain ⟨t, i, ah, ai⟩ := h
 refine E8 (J := fun n l w => ∃ (s : f8 × b8 × f8) (H : Hp) , n = i s ∧ l = (match s with | (d, m5, f) => []) ∧ (match s with | (d, m5, f) => Inv w0 ps0 H0 H [bx q 49 (g9 d), bx g0 66 (j8 m5), bx m 49 (g9 f)] w) ∧ t s H) ⟨_, (p, ae, (f8.mk 0 0 (Sl.mk none 0 0) (Sl.mk none 0 0))), ac, rfl, rfl, (((ag.bring 2).bring 2).bring 2), ah⟩ ?_
 rintro bh bi w next2 ⟨⟨d, m5, f⟩, H, rfl, v, I, aj⟩ hn2
 dsimp only at v I
 clear v
 obtain ⟨n2, hm2, h⟩ : ∃ n2 : (f8 × b8 × f8) → Hp → Prop, (∀ s' H', n2 s' H' → t s' H' ∧ i s' < i (d, m5, f)) ∧ P3 x1 d m5 f H n2 K := ⟨_, fun _ _ h => h, ai (d, m5, f) H (fun s' H' => t s' H' ∧ i s' < i (d, m5, f)) aj (fun _ _ a b => ⟨a, b⟩)⟩
 unfold b7C
 unfold P3 at h
 refine g8 Tryz.call67 (h g0) (I.bring 1) ?_
 rintro _ ak _ bj y _ _ ⟨bk, z, rfl, rfl, h⟩
 refine m8 h (fun _ h => ?_) (fun _ h => ?_)
 ·refine U3 y fun bl j => ?_
  refine A0 (lW Tryz.isAgg49 Tryz.sizeOf49 rfl (j.bring 1)) ?_
  refine g8 Tryz.call90 (h g0) j ?_
  rintro _ _ _ bm al _ am ⟨an, ao, rfl, rfl, h⟩
  refine ⟨(am _ (j.bring 1).lt1 (Inv.Y1 (Fi := [bx g0 66 (j8 z)]) ((j.bring 1).bring 1))), ?_⟩
  refine U4 (e := 49) (c := g9) (xs := [d, an]) al (b1l _ _ _ _ _ _ _ _ _ _ _ _ _ _ _ _) rfl rfl R6 R7 (nb rfl) fun k bn bo ap aq bp => ?_
  refine o8 (a4t _ _ _ _) ?_
  refine g6 (aq.bring 2) Tryz.sizeOf49 (vs := [(vi 6), (vi 0), (nS), (vs k)]) (cs' := [(vi 6), (vi 0), (nS), (vs k)]) rfl rfl (nb rfl) rfl rfl fun bq ar br => ?_
  obtain ⟨aa, au, av, aw, ax⟩ := Inv.freezeC (ar.bring 1) ap (by decide)
  replace h := h k aa av aw ax
  exact hn2 _ _ _ (hm2 _ _ h).2 ⟨((f8.mk 6 0 (Sl.mk none 0 0) k), ao, f), aa, rfl, rfl, (((au.bring 2).bring 2).bring 2), (hm2 _ _ h).1⟩
 ·exact hx1 _ _ (hj1 z d f ak _ (((y.bring 2).bring 2).bring 2) h)
def D2 (a9n : Bool) (a : Int) (H : Hp) (K : Int → Hp → Prop) : Prop :=
 (a9n = true →
 K 3 H) ∧
 (a9n = false →
 K 6 H)
def O1 (a9o : Bool) (a : Int) (H : Hp) (K : Int → Hp → Prop) : Prop :=
 (a9o = true →
 K 6 H) ∧
 (a9o = false →
 K0 48 57 a H (fun g b =>
 (g = true →
 K 4 b) ∧
 (g = false →
 (a = 95 →
 D2 (decide (a = 95)) a b K) ∧
 (¬ (a = 95) →
 K0 97 122 a b (fun c i =>
 (c = true →
 D2 c a i K) ∧
 (c = false →
 K0 65 90 a i (fun d j =>
 (d = true →
 D2 d a j K) ∧
 (d = false →
 K0 192 591 a j (fun e k =>
 (e = true →
 D2 e a k K) ∧
 (e = false →
 K0 913 969 a k (fun f l =>
 (f = true →
 D2 f a l K) ∧
 (f = false →
 K0 1040 1103 a l (fun m n =>
 D2 m a n K)))))))))))))
def o7 (b0b : Int) (a9p : Bool) (a : Int) (H : Hp) (K : Int → Hp → Prop) : Prop :=
 (a9p = true →
 K 5 H) ∧
 (a9p = false →
 (b0b = 215 →
 O1 (decide (b0b = 215)) a H K) ∧
 (¬ (b0b = 215) →
 (b0b = 247 →
 O1 (decide (b0b = 247)) a H K) ∧
 (¬ (b0b = 247) →
 O1 (decide (b0b = 930)) a H K)))
def O2 (y9 : Int) (U1 : Bool) (a : Int) (H : Hp) (K : Int → Hp → Prop) : Prop :=
 (U1 = true →
 K 1 H) ∧
 (U1 = false →
 (y9 = 10 →
 K 2 H) ∧
 (¬ (y9 = 10) →
 (y9 = 59 →
 o7 y9 (decide (y9 = 59)) a H K) ∧
 (¬ (y9 = 59) →
 (y9 = 44 →
 o7 y9 (decide (y9 = 44)) a H K) ∧
 (¬ (y9 = 44) →
 (y9 = 123 →
 o7 y9 (decide (y9 = 123)) a H K) ∧
 (¬ (y9 = 123) →
 (y9 = 125 →
 o7 y9 (decide (y9 = 125)) a H K) ∧
 (¬ (y9 = 125) →
 (y9 = 40 →
 o7 y9 (decide (y9 = 40)) a H K) ∧
 (¬ (y9 = 40) →
 (y9 = 41 →
 o7 y9 (decide (y9 = 41)) a H K) ∧
 (¬ (y9 = 41) →
 (y9 = 91 →
 o7 y9 (decide (y9 = 91)) a H K) ∧
 (¬ (y9 = 91) →
 (y9 = 93 →
 o7 y9 (decide (y9 = 93)) a H K) ∧
 (¬ (y9 = 93) →
 (y9 = 61 →
 o7 y9 (decide (y9 = 61)) a H K) ∧
 (¬ (y9 = 61) →
 (y9 = 33 →
 o7 y9 (decide (y9 = 33)) a H K) ∧
 (¬ (y9 = 33) →
 (y9 = 60 →
 o7 y9 (decide (y9 = 60)) a H K) ∧
 (¬ (y9 = 60) →
 (y9 = 62 →
 o7 y9 (decide (y9 = 62)) a H K) ∧
 (¬ (y9 = 62) →
 (y9 = 43 →
 o7 y9 (decide (y9 = 43)) a H K) ∧
 (¬ (y9 = 43) →
 (y9 = 45 →
 o7 y9 (decide (y9 = 45)) a H K) ∧
 (¬ (y9 = 45) →
 (y9 = 42 →
 o7 y9 (decide (y9 = 42)) a H K) ∧
 (¬ (y9 = 42) →
 (y9 = 47 →
 o7 y9 (decide (y9 = 47)) a H K) ∧
 (¬ (y9 = 47) →
 (y9 = 37 →
 o7 y9 (decide (y9 = 37)) a H K) ∧
 (¬ (y9 = 37) →
 (y9 = 38 →
 o7 y9 (decide (y9 = 38)) a H K) ∧
 (¬ (y9 = 38) →
 o7 y9 (decide (y9 = 124)) a H K))))))))))))))))))))
def a3s (x0 : Int) (H : Hp) (K : Int → Hp → Prop) : Prop :=
 (x0 = 32 →
 O2 x0 (decide (x0 = 32)) x0 H K) ∧
 (¬ (x0 = 32) →
 (x0 = 9 →
 O2 x0 (decide (x0 = 9)) x0 H K) ∧
 (¬ (x0 = 9) →
 O2 x0 (decide (x0 = 13)) x0 H K))
theorem a8A (x0) {H K} (h : a3s x0 H K) : P0 x0 H K := by
 refine Ct.of fun w0 w ps0 H0 R E I hR => c0T ?_
 unfold a3s at h
 unfold c3G
 refine Y0 I (cs := [(Value.int .i32 x0)]) rfl fun a u b v => ?_
 refine g7 (l1 Tryz.isAgg21 b rfl) ?_
 have hj1 : ∀ (U1 : Bool) H w (_ : Inv w0 ps0 H0 H [bx a 21 [(Value.int .i32 x0)]] w) (_ : O2 x0 U1 x0 H K), b1D (Value.pointer (some ⟨a, 0, none⟩)) (Value.int .i32 x0) (vB U1) w R E := by
  intro U1 H w I h
  unfold b1D
  intro _
  unfold O2 at h
  refine m8 h (fun _ h => ?_) (fun _ h => ?_)
  ·exact hR _ H _ _ I.drop ⟨1, rfl, rfl, h⟩
  ·refine a7 pEq ?_
   refine j9 h (fun _ h => ?_) (fun _ h => ?_)
   ·exact hR _ H _ _ I.drop ⟨2, rfl, rfl, h⟩
   ·have hj2 : ∀ (a9p : Bool) H w (_ : Inv w0 ps0 H0 H [bx a 21 [(Value.int .i32 x0)]] w) (_ : o7 x0 a9p x0 H K), b1C (Value.pointer (some ⟨a, 0, none⟩)) (Value.int .i32 x0) (vB a9p) w R E := by
     intro a9p H w I h
     unfold b1C
     intro _
     unfold o7 at h
     refine m8 h (fun _ h => ?_) (fun _ h => ?_)
     ·exact hR _ H _ _ I.drop ⟨5, rfl, rfl, h⟩
     ·have hj3 : ∀ (a9o : Bool) H w (_ : Inv w0 ps0 H0 H [bx a 21 [(Value.int .i32 x0)]] w) (_ : O1 a9o x0 H K), b1B (Value.pointer (some ⟨a, 0, none⟩)) (vB a9o) w R E := by
       intro a9o H w I h
       unfold b1B
       intro _
       unfold O1 at h
       refine m8 h (fun _ h => ?_) (fun _ h => ?_)
       ·exact hR _ H _ _ I.drop ⟨6, rfl, rfl, h⟩
       ·refine a7 (V6 _ _ _) ?_
        refine a4V (cap := [(Value.pointer (some ⟨a, 0, none⟩))]) Tryz.call151 (h a) I ?_
        rintro _ d _ y c _ _ ⟨z, rfl, rfl, h⟩
        refine m8 h (fun _ h => ?_) (fun _ h => ?_)
        ·exact hR _ d _ _ c.drop ⟨4, rfl, rfl, h⟩
        ·have hj4 : ∀ (a9n : Bool) H w (_ : Inv w0 ps0 H0 H [bx a 21 [(Value.int .i32 x0)]] w) (_ : D2 a9n x0 H K), b1A (vB a9n) w R E := by
          intro a9n H w I h
          unfold b1A
          intro _
          unfold D2 at h
          refine m8 h (fun _ h => ?_) (fun _ h => ?_)
          ·exact hR _ H _ _ I.drop ⟨3, rfl, rfl, h⟩
          ·exact hR _ H _ _ I.drop ⟨6, rfl, rfl, h⟩
         refine u7 fun j4 hx4 => ?_
         refine g7 (l1 Tryz.isAgg21 c rfl) (a7 pEq ?_)
         refine j9 h (fun _ h => ?_) (fun _ h => ?_)
         ·exact hx4 _ _ (hj4 (decide (x0 = 95)) d _ c h)
         ·refine a4V (cap := [(Value.pointer (some ⟨a, 0, none⟩))]) Tryz.call151 (h a) c ?_
          rintro _ j _ aa e _ _ ⟨k, rfl, rfl, h⟩
          refine m8 h (fun _ h => ?_) (fun _ h => ?_)
          ·exact hx4 _ _ (hj4 k j _ e h)
          ·refine a4V (cap := [(Value.pointer (some ⟨a, 0, none⟩))]) Tryz.call151 (h a) e ?_
           rintro _ l _ ab f _ _ ⟨m, rfl, rfl, h⟩
           refine m8 h (fun _ h => ?_) (fun _ h => ?_)
           ·exact hx4 _ _ (hj4 m l _ f h)
           ·refine a4V (cap := [(Value.pointer (some ⟨a, 0, none⟩))]) Tryz.call151 (h a) f ?_
            rintro _ n _ ac g _ _ ⟨o, rfl, rfl, h⟩
            refine m8 h (fun _ h => ?_) (fun _ h => ?_)
            ·exact hx4 _ _ (hj4 o n _ g h)
            ·refine a4V (cap := [(Value.pointer (some ⟨a, 0, none⟩))]) Tryz.call151 (h a) g ?_
             rintro _ p _ ad i _ _ ⟨q, rfl, rfl, h⟩
             refine m8 h (fun _ h => ?_) (fun _ h => ?_)
             ·exact hx4 _ _ (hj4 q p _ i h)
             ·refine a4V (cap := [(Value.pointer (some ⟨a, 0, none⟩))]) Tryz.call151 (h a) i ?_
              rintro _ r _ ae s _ _ ⟨t, rfl, rfl, h⟩
              exact hx4 _ _ (hj4 t r _ s h)
      refine u7 fun j3 hx3 => ?_
      refine a7 pEq ?_
      refine j9 h (fun _ h => ?_) (fun _ h => ?_)
      ·exact hx3 _ _ (hj3 (decide (x0 = 215)) H _ I h)
      ·refine a7 pEq ?_
       refine j9 h (fun _ h => ?_) (fun _ h => ?_)
       ·exact hx3 _ _ (hj3 (decide (x0 = 247)) H _ I h)
       ·refine a7 pEq ?_
        exact hx3 _ _ (hj3 (decide (x0 = 930)) H _ I h)
    refine u7 fun j2 hx2 => ?_
    refine a7 pEq ?_
    refine j9 h (fun _ h => ?_) (fun _ h => ?_)
    ·exact hx2 _ _ (hj2 (decide (x0 = 59)) H _ I h)
    ·refine a7 pEq ?_
     refine j9 h (fun _ h => ?_) (fun _ h => ?_)
     ·exact hx2 _ _ (hj2 (decide (x0 = 44)) H _ I h)
     ·refine a7 pEq ?_
      refine j9 h (fun _ h => ?_) (fun _ h => ?_)
      ·exact hx2 _ _ (hj2 (decide (x0 = 123)) H _ I h)
      ·refine a7 pEq ?_
       refine j9 h (fun _ h => ?_) (fun _ h => ?_)
       ·exact hx2 _ _ (hj2 (decide (x0 = 125)) H _ I h)
       ·refine a7 pEq ?_
        refine j9 h (fun _ h => ?_) (fun _ h => ?_)
        ·exact hx2 _ _ (hj2 (decide (x0 = 40)) H _ I h)
        ·refine a7 pEq ?_
         refine j9 h (fun _ h => ?_) (fun _ h => ?_)
         ·exact hx2 _ _ (hj2 (decide (x0 = 41)) H _ I h)
         ·refine a7 pEq ?_
          refine j9 h (fun _ h => ?_) (fun _ h => ?_)
          ·exact hx2 _ _ (hj2 (decide (x0 = 91)) H _ I h)
          ·refine a7 pEq ?_
           refine j9 h (fun _ h => ?_) (fun _ h => ?_)
           ·exact hx2 _ _ (hj2 (decide (x0 = 93)) H _ I h)
           ·refine a7 pEq ?_
            refine j9 h (fun _ h => ?_) (fun _ h => ?_)
            ·exact hx2 _ _ (hj2 (decide (x0 = 61)) H _ I h)
            ·refine a7 pEq ?_
             refine j9 h (fun _ h => ?_) (fun _ h => ?_)
             ·exact hx2 _ _ (hj2 (decide (x0 = 33)) H _ I h)
             ·refine a7 pEq ?_
              refine j9 h (fun _ h => ?_) (fun _ h => ?_)
              ·exact hx2 _ _ (hj2 (decide (x0 = 60)) H _ I h)
              ·refine a7 pEq ?_
               refine j9 h (fun _ h => ?_) (fun _ h => ?_)
               ·exact hx2 _ _ (hj2 (decide (x0 = 62)) H _ I h)
               ·refine a7 pEq ?_
                refine j9 h (fun _ h => ?_) (fun _ h => ?_)
                ·exact hx2 _ _ (hj2 (decide (x0 = 43)) H _ I h)
                ·refine a7 pEq ?_
                 refine j9 h (fun _ h => ?_) (fun _ h => ?_)
                 ·exact hx2 _ _ (hj2 (decide (x0 = 45)) H _ I h)
                 ·refine a7 pEq ?_
                  refine j9 h (fun _ h => ?_) (fun _ h => ?_)
                  ·exact hx2 _ _ (hj2 (decide (x0 = 42)) H _ I h)
                  ·refine a7 pEq ?_
                   refine j9 h (fun _ h => ?_) (fun _ h => ?_)
                   ·exact hx2 _ _ (hj2 (decide (x0 = 47)) H _ I h)
                   ·refine a7 pEq ?_
                    refine j9 h (fun _ h => ?_) (fun _ h => ?_)
                    ·exact hx2 _ _ (hj2 (decide (x0 = 37)) H _ I h)
                    ·refine a7 pEq ?_
                     refine j9 h (fun _ h => ?_) (fun _ h => ?_)
                     ·exact hx2 _ _ (hj2 (decide (x0 = 38)) H _ I h)
                     ·refine a7 pEq ?_
                      exact hx2 _ _ (hj2 (decide (x0 = 124)) H _ I h)
 refine u7 fun j1 hx1 => ?_
 refine a7 pEq ?_
 refine j9 h (fun _ h => ?_) (fun _ h => ?_)
 ·exact hx1 _ _ (hj1 (decide (x0 = 32)) H _ b h)
 ·refine a7 pEq ?_
  refine j9 h (fun _ h => ?_) (fun _ h => ?_)
  ·exact hx1 _ _ (hj1 (decide (x0 = 9)) H _ b h)
  ·refine a7 pEq ?_
   exact hx1 _ _ (hj1 (decide (x0 = 13)) H _ b h)
def a3t (x0 : Int) (H : Hp) (K : Bool → Hp → Prop) : Prop :=
 P0 x0 H (fun a b =>
 K ((decide (a = 3)) || (decide (a = 4))) b)
theorem a8B (x0) {H K} (h : a3t x0 H K) : a1K x0 H K := by
 refine Ct.of fun w0 w ps0 H0 R E I hR => c1i ?_
 unfold a3t at h
 unfold c3V
 refine g8 Tryz.call132 h I ?_
 rintro _ c _ e d _ _ ⟨b, rfl, rfl, h⟩
 refine a7 pEq ?_
 simp only [C9]
 refine a7 (Pu.g fun a => by simp only [m6 a]; with_reducible exact pEq) ?_
 refine a7 (L0 _ _) ?_
 exact hR _ c _ _ d ⟨((decide (b = 3)) || (decide (b = 4))), rfl, rfl, h⟩
def O3 (b1U : Int) (H : Hp) (K : Int → Hp → Prop) : Prop :=
 K b1U H
def O4 (b : ByteArray) (a6j : Int) (a : Nat) (H : Hp) (n2 : (Int × Nat) → Hp → Prop) (K : Int → Hp → Prop) : Prop :=
 (a < b.size →
 n2 ((IntKind.wrap .i64 (a6j + 1)), (a + (Utf8.decode b a).2)) H) ∧
 (¬ (a < b.size) →
 O3 a6j H K)
def W4 (x0 : ByteArray) (H : Hp) (K : Int → Hp → Prop) : Prop :=
 TL ((0, 0) : Int × Nat) H fun (s : Int × Nat) H n2 => O4 x0 s.1 s.2 H n2 K
theorem a4A (x0) {H K} (h : W4 x0 H K) : W2 x0 H K := by
 refine Ct.of fun w0 w ps0 H0 R E I hR => c1n ?_
 unfold W4 at h
 unfold c4a
 have hj1 : ∀ (b1U : Int) H w (_ : Inv w0 ps0 H0 H [] w) (_ : O3 b1U H K), b1J (vi b1U) w R E := by
  intro b1U H w I h
  unfold b1J
  intro _
  unfold O3 at h
  exact hR _ H _ _ I ⟨b1U, rfl, rfl, h⟩
 refine u7 fun j1 hx1 => ?_
 refine a9g Tryz.underlying9 x0 I fun j r k t => ?_
 obtain ⟨f, d, m, o⟩ := h
 refine E8 (J := fun n l w => ∃ (s : Int × Nat) (H : Hp) , n = d s ∧ l = (match s with | (a6j, c) => [(vi a6j)]) ∧ (match s with | (a6j, c) => Inv w0 ps0 H0 H [itf j x0 c] w) ∧ f s H) ⟨_, (0, 0), H, rfl, rfl, k, m⟩ ?_
 rintro u v w next2 ⟨⟨a6j, c⟩, H, rfl, g, I, p⟩ hn2
 dsimp only at g I
 simp only [List.map_cons, List.map_nil, List.cons.injEq, and_true] at g
 have e2 := g
 simp only [e2]
 obtain ⟨n2, hm2, h⟩ : ∃ n2 : (Int × Nat) → Hp → Prop, (∀ s' H', n2 s' H' → f s' H' ∧ d s' < d (a6j, c)) ∧ O4 x0 a6j c H n2 K := ⟨_, fun _ _ h => h, o (a6j, c) H (fun s' H' => f s' H' ∧ d s' < d (a6j, c)) p (fun _ _ a b => ⟨a, b⟩)⟩
 unfold b5E
 unfold O4 at h
 refine b0w I (fun i y q z => ?_) (fun i => ?_)
 ·replace h := h.1 i
  refine a7 (j7 _ _ (vB true) rfl) ?_
  refine a0G (fun e => ?_) (fun e => by cases e)
  refine a7 pAd ?_
  exact hn2 _ _ _ (hm2 _ _ h).2 ⟨((IntKind.wrap .i64 (a6j + 1)), (c + (Utf8.decode x0 c).2)), H, rfl, rfl, q, (hm2 _ _ h).1⟩
 ·replace h := h.2 i
  refine a7 (j7 _ _ (vB false) rfl) ?_
  refine a0G (fun e => by cases e) (fun e => ?_)
  exact hx1 _ _ (hj1 a6j H _ I.drop h)
def z8 (q9 : Int) (r7 : Int) (u2 : Int) (a6E : Bool) (a6F : Bool) (a5z : (List ByteArray)) (H : Hp) (K : Bool → k7 → (List ByteArray) → Hp → Prop) : Prop :=
 K true (k7.mk q9 r7 u2 a6E a6F (Sl.mk none 0 0)) a5z H
def a0W (x0 : k7) (a : (List ByteArray)) (x1 : d7) (x2 : Int) (H : Hp) (K : Bool → k7 → (List ByteArray) → Hp → Prop) : Prop :=
 (4096 < (IntKind.wrap .i64 (x0.fnodes + 1)) →
 K false (k7.mk (IntKind.wrap .i64 (x0.fnodes + 1)) x0.fdepth 33 x0.fform x0.fnamed (Sl.mk none 0 0)) a H) ∧
 (¬ (4096 < (IntKind.wrap .i64 (x0.fnodes + 1))) →
 (64 < x2 →
 K false (k7.mk (IntKind.wrap .i64 (x0.fnodes + 1)) x0.fdepth 32 x0.fform x0.fnamed (Sl.mk none 0 0)) a H) ∧
 (¬ (64 < x2) →
 TG (x0.fform = false) (a2M x1 H) false H (fun (c : Bool) (j : Hp) =>
 a0A x1 j (fun b e d =>
 (e = true →
 TG (x0.fnamed = false) (a2w b d) false d (fun (f : Bool) (k : Hp) =>
 M1 a b k (fun g i =>
 ((!g) = true →
 (a.length + ([b] : List ByteArray).length) * 17 ≤ 140737488355328 ∧
 z8 (IntKind.wrap .i64 (x0.fnodes + 1)) (if x2 > x0.fdepth then x2 else x0.fdepth) x0.fe (x0.fform || (!c)) (x0.fnamed || (!f)) (a ++ [b]) i K) ∧
 ((!g) = false →
 z8 (IntKind.wrap .i64 (x0.fnodes + 1)) (if x2 > x0.fdepth then x2 else x0.fdepth) x0.fe (x0.fform || (!c)) (x0.fnamed || (!f)) a i K)))) ∧
 (e = false →
 z8 (IntKind.wrap .i64 (x0.fnodes + 1)) (if x2 > x0.fdepth then x2 else x0.fdepth) x0.fe (x0.fform || (!c)) x0.fnamed a d K)))))
theorem a6k (x0 b x1 x2) {H K} (h : a0W x0 b x1 x2 H K) : a0K x0 b x1 x2 H K := by
 intro g0 f n q
 refine Ct.of fun w0 w ps0 H0 R E I hR => c0L ?_
 unfold a0W at h
 unfold c3y
 refine a7 (q7 _) (a7 a7U (g7 (l1 Tryz.isAgg3 I rfl) (a7 pAd (a7 (q7 _) ?_))))
 refine a7 a7U ?_
 refine g6 I Tryz.sizeOf3 (vs := [(vi (IntKind.wrap .i64 (x0.fnodes + 1)))]) (cs' := [(vi (IntKind.wrap .i64 (x0.fnodes + 1))), (vi x0.fdepth), (vi x0.fe), (vB x0.fform), (vB x0.fnamed), (vs f)]) rfl rfl (nb rfl) rfl rfl fun bd v be => ?_
 refine a7 (q7 _) (a7 a7U (g7 (l1 Tryz.isAgg3 v rfl) (a7 pGt ?_)))
 refine j9 h (fun _ h => ?_) (fun _ h => ?_)
 ·refine a7 (q7 _) (a7 a3T ?_)
  refine g6 v Tryz.sizeOf29 (vs := [(vi 33)]) (cs' := [(vi (IntKind.wrap .i64 (x0.fnodes + 1))), (vi x0.fdepth), (vi 33), (vB x0.fform), (vB x0.fnamed), (vs f)]) rfl rfl (nb rfl) rfl rfl fun bf au bg => ?_
  exact hR _ H _ _ ((au.bring 1).bring 1) ⟨false, (k7.mk (IntKind.wrap .i64 (x0.fnodes + 1)) x0.fdepth 33 x0.fform x0.fnamed (Sl.mk none 0 0)), b, f, n, rfl, rfl, q, h⟩
 ·refine a7 pGt ?_
  refine j9 h (fun _ h => ?_) (fun _ h => ?_)
  ·refine a7 (q7 _) (a7 a3T ?_)
   refine g6 v Tryz.sizeOf29 (vs := [(vi 32)]) (cs' := [(vi (IntKind.wrap .i64 (x0.fnodes + 1))), (vi x0.fdepth), (vi 32), (vB x0.fform), (vB x0.fnamed), (vs f)]) rfl rfl (nb rfl) rfl rfl fun bh av bi => ?_
   exact hR _ H _ _ ((av.bring 1).bring 1) ⟨false, (k7.mk (IntKind.wrap .i64 (x0.fnodes + 1)) x0.fdepth 32 x0.fform x0.fnamed (Sl.mk none 0 0)), b, f, n, rfl, rfl, q, h⟩
  ·refine a7 (q7 _) (a7 b0F (g7 (l1 Tryz.isAgg3 v rfl) (a7 (c2p _ _ _ _ _) (a7 (q7 _) ?_))))
   refine a7 b0F ?_
   refine g6 v Tryz.sizeOf3 (vs := [(vi (if x2 > x0.fdepth then x2 else x0.fdepth))]) (cs' := [(vi (IntKind.wrap .i64 (x0.fnodes + 1))), (vi (if x2 > x0.fdepth then x2 else x0.fdepth)), (vi x0.fe), (vB x0.fform), (vB x0.fnamed), (vs f)]) rfl rfl (nb rfl) rfl rfl fun ai ac bj => ?_
   refine a7 (q7 _) (a7 a7V (g7 (l1 Tryz.isAgg4 ac rfl) ?_))
   simp only [C9]
   refine O5 (D := fun aj y => ∃ (d : Bool) (r : Hp), aj = (gv x0.fform false (vB d)) ∧ (Inv w0 ps0 H0 r [bx g0 79 [(vi (IntKind.wrap .i64 (x0.fnodes + 1))), (vi (if x2 > x0.fdepth then x2 else x0.fdepth)), (vi x0.fe), (vB x0.fform), (vB x0.fnamed), (vs f)], n] y) ∧ (∀ i, i < ai.heap.size → ¬ inF [] i → y.heap[i]? = ai.heap[i]?) ∧ Hle H r ∧ (a0A x1 r (fun (k : ByteArray) (z : Bool) (o : Hp) =>
 (z = true →
 TG (x0.fnamed = false) (a2w k o) false o (fun (j : Bool) (l : Hp) =>
 M1 b k l (fun (t : Bool) (m : Hp) =>
 ((!t) = true →
 (b.length + ([k] : List ByteArray).length) * 17 ≤ 140737488355328 ∧
 z8 (IntKind.wrap .i64 (x0.fnodes + 1)) (if x2 > x0.fdepth then x2 else x0.fdepth) x0.fe (x0.fform || (!d)) (x0.fnamed || (!j)) (b ++ [k]) m K) ∧
 ((!t) = false →
 z8 (IntKind.wrap .i64 (x0.fnodes + 1)) (if x2 > x0.fdepth then x2 else x0.fdepth) x0.fe (x0.fform || (!d)) (x0.fnamed || (!j)) b m K)))) ∧
 (z = false →
 z8 (IntKind.wrap .i64 (x0.fnodes + 1)) (if x2 > x0.fdepth then x2 else x0.fdepth) x0.fe (x0.fform || (!d)) x0.fnamed b o K)))) (fun u => ?_) (fun u => ?_) ?_
   ·replace h := h.1 u
    have a := u
    simp only [m6 a]
    refine a7G ac h (fun d r y ad ak al h => ?_)
    exact ⟨d, r, by rfl, ad, al, ak, h⟩
   ·exact ⟨false, H, by rw [X9 u], ac, fun _ _ _ => rfl, Hle.refl _, h.2 u⟩
   ·clear h
    rintro aj y ⟨d, r, rfl, ad, al, ak, h⟩
    refine a7 (Pu.g fun a => by simp only [m6 a]; with_reducible exact (T8 _)) ?_
    refine a7 (L0 _ _) (a7 (q7 _) (a7 a7V ?_))
    refine g6 ad Tryz.sizeOf4 (vs := [(vB (x0.fform || (!d)))]) (cs' := [(vi (IntKind.wrap .i64 (x0.fnodes + 1))), (vi (if x2 > x0.fdepth then x2 else x0.fdepth)), (vi x0.fe), (vB (x0.fform || (!d))), (vB x0.fnamed), (vs f)]) rfl rfl (nb rfl) rfl rfl fun bk aw bl => ?_
    have hj1 : ∀ (q9 : Int) (r7 : Int) (u2 : Int) (a6E : Bool) (a6F : Bool) (a5z : (List ByteArray)) (a8e : Sl) (a8f : Frag) H w (_ : RowL 9 1 F7 a8e a5z a8f) (_ : Inv w0 ps0 H0 H [bx g0 79 [(vi q9), (vi r7), (vi u2), (vB a6E), (vB a6F), (vs a8e)], a8f] w) (_ : z8 q9 r7 u2 a6E a6F a5z H K), b1v w R E := by
     intro q9 r7 u2 a6E a6F a5z a8e a8f H w b8P I h
     unfold b1v
     intro _
     unfold z8 at h
     exact hR _ H _ _ ((I.bring 1).bring 1) ⟨true, (k7.mk q9 r7 u2 a6E a6F (Sl.mk none 0 0)), a5z, a8e, a8f, rfl, rfl, b8P, h⟩
    refine u7 fun j1 hx1 => ?_
    refine g8 Tryz.call143 h aw ?_
    rintro _ o _ am aa _ _ ⟨k, z, rfl, rfl, h⟩
    refine a7 (j7 _ _ (Value.string k) rfl) (a7 (j7 _ _ (vB z) rfl) ?_)
    refine a0G (fun ae => ?_) (fun ae => ?_)
    ·replace h := h.1 ae
     refine a7 (q7 _) (a7 a7W (g7 (l1 Tryz.isAgg4 aa rfl) ?_))
     simp only [C9]
     refine O5 (D := fun an ab => ∃ (j : Bool) (l : Hp) , an = (gv x0.fnamed false (vB j)) ∧ (Inv w0 ps0 H0 l [bx g0 79 [(vi (IntKind.wrap .i64 (x0.fnodes + 1))), (vi (if x2 > x0.fdepth then x2 else x0.fdepth)), (vi x0.fe), (vB (x0.fform || (!d))), (vB x0.fnamed), (vs f)], n] ab) ∧ (∀ i, i < am.heap.size → ¬ inF [] i → ab.heap[i]? = am.heap[i]?) ∧ Hle o l ∧ (M1 b k l (fun (t : Bool) (m : Hp) =>
 ((!t) = true →
 (b.length + ([k] : List ByteArray).length) * 17 ≤ 140737488355328 ∧
 z8 (IntKind.wrap .i64 (x0.fnodes + 1)) (if x2 > x0.fdepth then x2 else x0.fdepth) x0.fe (x0.fform || (!d)) (x0.fnamed || (!j)) (b ++ [k]) m K) ∧
 ((!t) = false →
 z8 (IntKind.wrap .i64 (x0.fnodes + 1)) (if x2 > x0.fdepth then x2 else x0.fdepth) x0.fe (x0.fform || (!d)) (x0.fnamed || (!j)) b m K)))) (fun p => ?_) (fun p => ?_) ?_
     ·replace h := h.1 p
      have a := p
      simp only [m6 a]
      refine g8 Tryz.call144 h aa ?_
      rintro _ l _ ab af ao ap ⟨j, rfl, rfl, h⟩
      exact ⟨j, l, by rfl, af, ap, ao, h⟩
     ·exact ⟨false, o, by rw [X9 p], aa, fun _ _ _ => rfl, Hle.refl _, h.2 p⟩
     ·clear h
      rintro an ab ⟨j, l, rfl, af, ap, ao, h⟩
      refine a7 (Pu.g fun a => by simp only [m6 a]; with_reducible exact (T8 _)) ?_
      refine a7 (L0 _ _) (a7 (q7 _) (a7 a7W ?_))
      refine g6 af Tryz.sizeOf4 (vs := [(vB (x0.fnamed || (!j)))]) (cs' := [(vi (IntKind.wrap .i64 (x0.fnodes + 1))), (vi (if x2 > x0.fdepth then x2 else x0.fdepth)), (vi x0.fe), (vB (x0.fform || (!d))), (vB (x0.fnamed || (!j))), (vs f)]) rfl rfl (nb rfl) rfl rfl fun bm aq bn => ?_
      refine a7 (q7 _) (a7 a7X (g7 (l1 Tryz.isAgg77 aq rfl) ?_))
      refine g8 Tryz.call145 (h f n q) (aq.bring 1) ?_
      rintro _ m _ bo ag _ _ ⟨t, rfl, rfl, h⟩
      refine a7 (T8 _) ?_
      refine m8 h (fun _ h => ?_) (fun _ h => ?_)
      ·refine a7 (q7 _) (a7 a7X (g7 (l1 Tryz.isAgg77 (ag.bring 1) rfl) ?_))
       refine U4 (e := 9) (c := F7) (xs := [k]) ag (c0y _) rfl rfl a5K a5L (nb rfl) fun bp bq br ax ar bs => ?_
       obtain ⟨ay, h⟩ := h
       refine c2E (s := f) (xs := b) (ar.bring 1) q (ax.srcO ((ar.bring 1).bring 1)) ay fun ah az bt ba bb bu => ?_
       refine a7 (q7 _) (a7 a7X ?_)
       refine g6 ((bb.bring 1).drop.bring 1) Tryz.sizeOf77 (vs := [(vs ah)]) (cs' := [(vi (IntKind.wrap .i64 (x0.fnodes + 1))), (vi (if x2 > x0.fdepth then x2 else x0.fdepth)), (vi x0.fe), (vB (x0.fform || (!d))), (vB (x0.fnamed || (!j))), (vs ah)]) rfl rfl (nb rfl) rfl rfl fun bv bc bw => ?_
       exact hx1 _ _ (hj1 (IntKind.wrap .i64 (x0.fnodes + 1)) (if x2 > x0.fdepth then x2 else x0.fdepth) x0.fe (x0.fform || (!d)) (x0.fnamed || (!j)) (b ++ [k]) ah az m _ ba ((bc.bring 1).bring 1) h)
      ·exact hx1 _ _ (hj1 (IntKind.wrap .i64 (x0.fnodes + 1)) (if x2 > x0.fdepth then x2 else x0.fdepth) x0.fe (x0.fform || (!d)) (x0.fnamed || (!j)) b f n m _ q (ag.bring 1) h)
    ·replace h := h.2 ae
     exact hx1 _ _ (hj1 (IntKind.wrap .i64 (x0.fnodes + 1)) (if x2 > x0.fdepth then x2 else x0.fdepth) x0.fe (x0.fform || (!d)) x0.fnamed b f n o _ q ((aa.bring 1).bring 1) h)
def P4 (c5E : Int) (b : b9) (a : b7) (H : Hp) (K : Bool → Hp → Prop) : Prop :=
 K (((decide (c5E = 0)) && (decide (a.f7 = 1))) && (decide (a.N6 = 7))) H
def P5 (b6H : Int) (Y6 : Int) (e : b9) (a4x : Int) (a : b7) (H : Hp) (n4 : (Int × b7) → Hp → Prop) (K : Bool → Hp → Prop) : Prop :=
 (1 < a4x →
 ∃ b : b7, ((((!decide (Y6 = 0)) || (!decide (a.f7 = b6H))) || (!decide ((a.E4.n : Int) = 2))) = false → (0 : Int) ≤ 1 ∧ (1 : Int) < a.E4.n ∧ EltH H a.E4 1 4 (c8 b)) ∧
 ∃ c : b7, (((((!decide (Y6 = 0)) || (!decide (a.f7 = b6H))) || (!decide ((a.E4.n : Int) = 2))) || (!decide (b.f7 = 1))) = false → (0 : Int) ≤ 1 ∧ (1 : Int) < a.E4.n ∧ EltH H a.E4 1 4 (c8 c)) ∧
 ((((((!decide (Y6 = 0)) || (!decide (a.f7 = b6H))) || (!decide ((a.E4.n : Int) = 2))) || (!decide (b.f7 = 1))) || (!decide (c.N6 = 7))) = true →
 K false H) ∧
 ((((((!decide (Y6 = 0)) || (!decide (a.f7 = b6H))) || (!decide ((a.E4.n : Int) = 2))) || (!decide (b.f7 = 1))) || (!decide (c.N6 = 7))) = false →
 (0 : Int) ≤ 0 ∧ (0 : Int) < a.E4.n ∧ ∃ d : b7, EltH H a.E4 0 4 (c8 d) ∧
 n4 ((IntKind.wrap .i64 (a4x - 1)), d) H)) ∧
 (¬ (1 < a4x) →
 P4 Y6 e a H K)
def P6 (b8Q : Int) (c7a : Int) (b4d : ByteArray) (H : Hp) (K : Bool → Hp → Prop) : Prop :=
 a3l b4d H (fun c d a b =>
 (64 < b8Q →
 K (decide (a = 41)) b) ∧
 (¬ (64 < b8Q) →
 TL ((b8Q, c) : Int × b7) b fun (s : Int × b7) H n4 => P5 c7a a d s.1 s.2 H n4 K))
def P7 (b8R : Int) (c7b : Int) (b8S : ByteArray) (a4k : ByteArray) (a6l : Int) (H : Hp) (n5 : (ByteArray × Int) → Hp → Prop) (K : Bool → Hp → Prop) : Prop :=
 (a6l < b8R →
 a4k.size + b8S.size ≤ 9223372036854775807 ∧
 (a4k ++ b8S).size + (⟨#[55]⟩ : ByteArray).size ≤ 9223372036854775807 ∧
 n5 (((a4k ++ b8S) ++ (⟨#[55]⟩ : ByteArray)), (IntKind.wrap .i64 (a6l + 1))) H) ∧
 (¬ (a6l < b8R) →
 P6 b8R c7b a4k H K)
def E5 (b6E : Int) (U1 : Int) (a8g : ByteArray) (H : Hp) (K : Bool → Hp → Prop) : Prop :=
 TL ((⟨#[55]⟩, 1) : ByteArray × Int) H fun (s : ByteArray × Int) H n5 => P7 b6E U1 a8g s.1 s.2 H n5 K
def a1Q (x0 : Int) (x1 : Bool) (H : Hp) (K : Bool → Hp → Prop) : Prop :=
 a1g H (fun b a =>
 ((!b) = true →
 K false a) ∧
 ((!b) = false →
 (((decide (x0 < 1)) || (decide (300 < x0))) = true →
 K true a) ∧
 (((decide (x0 < 1)) || (decide (300 < x0))) = false →
 (x1 = true →
 E5 x0 7 ⟨#[32, 45, 32]⟩ a K) ∧
 (x1 = false →
 E5 x0 6 ⟨#[32, 43, 32]⟩ a K))))
theorem a4R (x0 x1) {H K} (h : a1Q x0 x1 H K) : X0 x0 x1 H K := by
 refine Ct.of fun w0 w ps0 H0 R E I hR => c5z ?_
 unfold a1Q at h
 unfold F5
 refine g8 Tryz.call8 h I ?_
 rintro _ q _ bb r _ _ ⟨bc, rfl, rfl, h⟩
 refine a7 (T8 _) ?_
 refine m8 h (fun _ h => ?_) (fun _ h => ?_)
 ·exact hR _ q _ _ r ⟨false, rfl, rfl, h⟩
 ·refine a7 pLs ?_
  simp only [C9]
  refine a7 (Pu.g fun c => by simp only [m6 c]; with_reducible exact pGt) ?_
  refine a7 (L0 _ _) ?_
  refine m8 h (fun _ h => ?_) (fun _ h => ?_)
  ·exact hR _ q _ _ r ⟨true, rfl, rfl, h⟩
  ·have hj1 : ∀ (U1 : Int) (a8g : ByteArray) H w (_ : Inv w0 ps0 H0 H [] w) (_ : E5 x0 U1 a8g H K), b6B (vi x0) (vi U1) (Value.string a8g) w R E := by
    intro U1 a8g H w I h
    unfold b6B
    intro _
    unfold E5 at h
    have hj2 : ∀ (b4d : ByteArray) H w (_ : Inv w0 ps0 H0 H [] w) (_ : P6 x0 U1 b4d H K), b6A (vi x0) (vi U1) (Value.string b4d) w R E := by
     intro b4d H w I h
     unfold b6A
     intro _
     unfold P6 at h
     refine g8 Tryz.call13 h I ?_
     rintro _ ag _ bd aj _ _ ⟨u, i, j, rfl, rfl, h⟩
     refine a7 (j7 _ _ _ rfl) (a7 (j7 _ _ _ rfl) (a7 (j7 _ _ (vi j) rfl) ?_))
     refine m7 aj Tryz.zeroValue40 (cs := [(vi 0), (vi 0), (eS), (nS)]) rfl fun y be ak bf => ?_
     refine m7 ak Tryz.zeroValue28 (cs := [(vi 0), (vi 0)]) rfl fun ah bg al bh => ?_
     refine g6 (al.bring 1) Tryz.sizeOf40 (vs := (c8 u)) (cs' := (c8 u)) rfl rfl (nb rfl) rfl rfl fun bi am bj => ?_
     refine g6 (am.bring 1) Tryz.sizeOf28 (vs := (d9 i)) (cs' := (d9 i)) rfl rfl (nb rfl) rfl rfl fun bk ai bl => ?_
     refine a7 pGt ?_
     refine j9 h (fun _ h => ?_) (fun _ h => ?_)
     ·refine a7 pEq ?_
      exact hR _ ag _ _ ai.drop.drop ⟨(decide (j = 41)), rfl, rfl, h⟩
     ·have hj3 : ∀ (m : b7) H w (_ : Inv w0 ps0 H0 H [bx ah 28 (d9 i), bx y 40 (c8 m)] w) (_ : P4 j i m H K), b6z (Value.pointer (some ⟨y, 0, none⟩)) (vi j) w R E := by
       intro m H w I h
       unfold b6z
       intro _
       unfold P4 at h
       refine a7 pEq ?_
       refine a7 (Pu.g fun c => by with_reducible exact a2f) ?_
       refine g7 (Ld.g fun c => by simp only [m6 c]; exact (l1 Tryz.isAgg3 (I.bring 1) rfl)) ?_
       refine a7 (Pu.g fun c => by simp only [m6 c]; with_reducible exact pEq) ?_
       refine a7 (I0 _ _) ?_
       refine a7 (Pu.g fun c => by with_reducible exact a6s) ?_
       refine g7 (Ld.g fun c => by simp only [m6 c]; exact (l1 Tryz.isAgg2 (I.bring 1) rfl)) ?_
       refine a7 (Pu.g fun c => by simp only [m6 c]; with_reducible exact pEq) ?_
       refine a7 (I0 _ _) ?_
       exact hR _ H _ _ I.drop.drop ⟨(((decide (j = 0)) && (decide (m.f7 = 1))) && (decide (m.N6 = 7))), rfl, rfl, h⟩
      refine u7 fun j3 hx3 => ?_
      obtain ⟨z, o, an, ao⟩ := h
      refine E8 (J := fun n l w => ∃ (s : Int × b7) (H : Hp) , n = o s ∧ l = (match s with | (a4x, f) => [(vi a4x)]) ∧ (match s with | (a4x, f) => Inv w0 ps0 H0 H [bx ah 28 (d9 i), bx y 40 (c8 f)] w) ∧ z s H) ⟨_, (x0, u), ag, rfl, rfl, ((ai.bring 1).bring 1), an⟩ ?_
      rintro bm bn w next4 ⟨⟨a4x, f⟩, H, rfl, aa, I, ap⟩ hn4
      dsimp only at aa I
      simp only [List.map_cons, List.map_nil, List.cons.injEq, and_true] at aa
      have e12 := aa
      simp only [e12]
      obtain ⟨n4, hm4, h⟩ : ∃ n4 : (Int × b7) → Hp → Prop, (∀ s' H', n4 s' H' → z s' H' ∧ o s' < o (a4x, f)) ∧ P5 U1 j i a4x f H n4 K := ⟨_, fun _ _ h => h, ao (a4x, f) H (fun s' H' => z s' H' ∧ o s' < o (a4x, f)) ap (fun _ _ a b => ⟨a, b⟩)⟩
      unfold b9Z
      unfold P5 at h
      refine a7 pGt ?_
      refine j9 h (fun _ h => ?_) (fun _ h => ?_)
      ·refine a7 pNe ?_
       refine a7 (Pu.g fun c => by with_reducible exact a2f) ?_
       refine g7 (Ld.g fun c => by simp only [m6 c]; exact (l1 Tryz.isAgg3 (I.bring 1) rfl)) ?_
       simp only [C9]
       refine a7 (Pu.g fun c => by simp only [m6 c]; with_reducible exact pNe) ?_
       refine a7 (L0 _ _) ?_
       refine a7 (Pu.g fun c => by with_reducible exact a3S) ?_
       refine g7 (Ld.g fun c => by simp only [m6 c]; exact (l1 Tryz.isAgg38 (I.bring 1) rfl)) ?_
       refine a7 (Pu.g fun c => by simp only [m6 c]; with_reducible exact (a4E _ _ _)) ?_
       refine a7 (Pu.g fun c => by simp only [m6 c]; with_reducible exact pNe) ?_
       refine a7 (L0 _ _) ?_
       refine a7 (Pu.g fun c => by with_reducible exact a3S) ?_
       refine g7 (Ld.g fun c => by simp only [m6 c]; exact (l1 Tryz.isAgg38 (I.bring 1) rfl)) ?_
       obtain ⟨ab, d, h⟩ := h
       obtain ⟨bo, bp, d⟩ := b0u d
       refine a7 (Pu.g fun hb => by have c := hb; simp only [m6 c]; with_reducible exact (a6L (d hb).2.2.1 _ _ _ _ (d hb).1 (d hb).2.1)) ?_
       refine a7 (Pu.g fun c => by simp only [m6 c]; with_reducible exact a2f) ?_
       refine g7 (Ld.g fun hb => by have c := hb; simp only [m6 c]; exact (ld1 (v := (vi ab.f7)) Tryz.isAgg3 ((I.atH (d hb).2.2.2).sub (k := 0) (n := 1) (nb rfl)))) ?_
       refine a7 (Pu.g fun c => by simp only [m6 c]; with_reducible exact pNe) ?_
       refine a7 (L0 _ _) ?_
       refine a7 (Pu.g fun c => by with_reducible exact a3S) ?_
       refine g7 (Ld.g fun c => by simp only [m6 c]; exact (l1 Tryz.isAgg38 (I.bring 1) rfl)) ?_
       obtain ⟨ac, e, h⟩ := h
       obtain ⟨bq, br, e⟩ := b0u e
       refine a7 (Pu.g fun hb => by have c := hb; simp only [m6 c]; with_reducible exact (a6L (e hb).2.2.1 _ _ _ _ (e hb).1 (e hb).2.1)) ?_
       refine a7 (Pu.g fun c => by simp only [m6 c]; with_reducible exact a6s) ?_
       refine g7 (Ld.g fun hb => by have c := hb; simp only [m6 c]; exact (ld1 (v := (vi ac.N6)) Tryz.isAgg2 ((I.atH (e hb).2.2.2).sub (k := 1) (n := 1) (nb rfl)))) ?_
       refine a7 (Pu.g fun c => by simp only [m6 c]; with_reducible exact pNe) ?_
       refine a7 (L0 _ _) ?_
       refine m8 h (fun _ h => ?_) (fun _ h => ?_)
       ·exact hR _ H _ _ I.drop.drop ⟨false, rfl, rfl, h⟩
       ·refine a7 a3S (g7 (l1 Tryz.isAgg38 (I.bring 1) rfl) ?_)
        obtain ⟨aq, ar, t, ad, h⟩ := h
        obtain ⟨bs, bt, au, ad⟩ := ad
        refine a7 (a6L au _ _ _ _ aq ar) (g7 (ldA (vs := (c8 t)) Tryz.isAgg40 Tryz.sizeOf40 rfl (I.atH ad)) ?_)
        refine g6 (I.bring 1) Tryz.sizeOf40 (vs := (c8 t)) (cs' := (c8 t)) rfl rfl (nb rfl) rfl rfl fun bu av bv => ?_
        refine a7 pSu ?_
        exact hn4 _ _ _ (hm4 _ _ h).2 ⟨((IntKind.wrap .i64 (a4x - 1)), t), H, rfl, rfl, (av.bring 1), (hm4 _ _ h).1⟩
      ·exact hx3 _ _ (hj3 f H _ ((I.bring 1).bring 1) h)
    refine u7 fun j2 hx2 => ?_
    obtain ⟨ae, p, aw, ax⟩ := h
    refine E8 (J := fun n l w => ∃ (s : ByteArray × Int) (H : Hp) , n = p s ∧ l = (match s with | (a4k, a6l) => [(Value.string a4k), (vi a6l)]) ∧ (match s with | (a4k, a6l) => Inv w0 ps0 H0 H [] w) ∧ ae s H) ⟨_, (⟨#[55]⟩, 1), H, rfl, rfl, I, aw⟩ ?_
    rintro bw bz w next5 ⟨⟨a4k, a6l⟩, H, rfl, af, I, ay⟩ hn5
    dsimp only at af I
    simp only [List.map_cons, List.map_nil, List.cons.injEq, and_true] at af
    obtain ⟨e7, e8⟩ := af
    simp only [e7, e8]
    obtain ⟨n5, hm5, h⟩ : ∃ n5 : (ByteArray × Int) → Hp → Prop, (∀ s' H', n5 s' H' → ae s' H' ∧ p s' < p (a4k, a6l)) ∧ P7 x0 U1 a8g a4k a6l H n5 K := ⟨_, fun _ _ h => h, ax (a4k, a6l) H (fun s' H' => ae s' H' ∧ p s' < p (a4k, a6l)) ay (fun _ _ a b => ⟨a, b⟩)⟩
    unfold c0a
    unfold P7 at h
    refine a7 pLs ?_
    refine j9 h (fun _ h => ?_) (fun _ h => ?_)
    ·obtain ⟨az, h⟩ := h
     refine a7 (b7n _ _ _ a4k a8g az) ?_
     obtain ⟨ba, h⟩ := h
     refine a7 (b7n _ _ _ (a4k ++ a8g) ⟨#[55]⟩ ba) (a7 pAd ?_)
     exact hn5 _ _ _ (hm5 _ _ h).2 ⟨(((a4k ++ a8g) ++ (⟨#[55]⟩ : ByteArray)), (IntKind.wrap .i64 (a6l + 1))), H, rfl, rfl, I, (hm5 _ _ h).1⟩
    ·exact hx2 _ _ (hj2 a4k H _ I h)
   refine u7 fun j1 hx1 => ?_
   refine m8 h (fun _ h => ?_) (fun _ h => ?_)
   ·exact hx1 _ _ (hj1 7 ⟨#[32, 45, 32]⟩ q _ r h)
   ·exact hx1 _ _ (hj1 6 ⟨#[32, 43, 32]⟩ q _ r h)
def a3K (x0 : a8) (x1 : ByteArray) (H : Hp) (K : Bool → Hp → Prop) : Prop :=
 u9 x0 H (fun a b =>
 K (((decide (a.f7 = 3)) || (decide (a.f7 = 4))) && (decide (a.A8 = x1))) b)
theorem a6U (x0 x1) {H K} (h : a3K x0 x1 H K) : i6 x0 x1 H K := by
 intro g0
 refine Ct.of fun w0 w ps0 H0 R E I hR => c2T ?_
 unfold a3K at h
 unfold F53
 refine g8 Tryz.call51 (h g0) I ?_
 rintro _ d _ i e _ _ ⟨c, rfl, rfl, h⟩
 refine m7 e Tryz.zeroValue103 (cs := [(vi 0), (eS), (vi 0), (vi 0), (vi 0)]) rfl fun j k f l => ?_
 refine g6 f Tryz.sizeOf103 (vs := (d8 c)) (cs' := (d8 c)) rfl rfl (nb rfl) rfl rfl fun m b n => ?_
 refine a7 a0m (g7 (l1 Tryz.isAgg3 b rfl) (a7 pEq ?_))
 refine a7 (Pu.g fun a => by with_reducible exact a0m) ?_
 refine g7 (Ld.g fun a => by simp only [m6 a]; exact (l1 Tryz.isAgg3 b rfl)) ?_
 refine a7 (Pu.g fun a => by simp only [m6 a]; with_reducible exact pEq) ?_
 refine a7 (L0 _ _) ?_
 refine a7 (Pu.g fun a => by with_reducible exact Q6) ?_
 refine g7 (Ld.g fun a => by simp only [m6 a]; exact (l1 Tryz.isAgg9 b rfl)) ?_
 simp only [C9]
 refine a7 (Pu.g fun a => by simp only [m6 a]; with_reducible exact (R5 _ _ _ _ _)) ?_
 refine a7 (I0 _ _) ?_
 exact hR _ d _ _ b.drop ⟨(((decide (c.f7 = 3)) || (decide (c.f7 = 4))) && (decide (c.A8 = x1))), rfl, rfl, h⟩
def a1y (x0 : a8) (H : Hp) (K : Bool → Hp → Prop) : Prop :=
 u9 x0 H (fun a e =>
 TG ((decide (a.f7 = 1)) = false) (i6 x0 ⟨#[105, 102]⟩ e) false e (fun (b : Bool) (f : Hp) =>
 TG (((decide (a.f7 = 1)) || b) = false) (i6 x0 ⟨#[119, 104, 105, 108, 101]⟩ f) false f (fun (c : Bool) (g : Hp) =>
 TG ((((decide (a.f7 = 1)) || b) || c) = false) (i6 x0 ⟨#[97, 115, 115, 101, 114, 116]⟩ g) false g (fun (d : Bool) (i : Hp) =>
 TG (((((decide (a.f7 = 1)) || b) || c) || d) = false) (i6 x0 ⟨#[97, 115, 115, 117, 109, 101]⟩ i) false i (fun (j : Bool) (k : Hp) =>
 TG ((((((decide (a.f7 = 1)) || b) || c) || d) || j) = false) (i6 x0 ⟨#[115, 107, 105, 112]⟩ k) false k (fun (l : Bool) (m : Hp) =>
 K ((((((decide (a.f7 = 1)) || b) || c) || d) || j) || l) m))))))
theorem a4B (x0) {H K} (h : a1y x0 H K) : L9 x0 H K := by
 intro g0
 refine Ct.of fun w0 w ps0 H0 R E I hR => c2W ?_
 unfold a1y at h
 unfold F56
 refine g8 Tryz.call51 (h g0) I ?_
 rintro _ af _ ag ah _ _ ⟨c, rfl, rfl, h⟩
 refine a7 a4Y (a7 pEq ?_)
 simp only [C9]
 refine O5 (D := fun ai t => ∃ (a : Bool) (n : Hp) , ai = (gv (decide (c.f7 = 1)) false (vB a)) ∧ (Inv w0 ps0 H0 n [bx g0 101 (b6 x0)] t) ∧ (∀ i, i < ag.heap.size → ¬ inF [bx g0 101 (b6 x0)] i → t.heap[i]? = ag.heap[i]?) ∧ Hle af n ∧ (TG (((decide (c.f7 = 1)) || a) = false) (i6 x0 ⟨#[119, 104, 105, 108, 101]⟩ n) false n (fun (b : Bool) (m : Hp) =>
 TG ((((decide (c.f7 = 1)) || a) || b) = false) (i6 x0 ⟨#[97, 115, 115, 101, 114, 116]⟩ m) false m (fun (d : Bool) (g : Hp) =>
 TG (((((decide (c.f7 = 1)) || a) || b) || d) = false) (i6 x0 ⟨#[97, 115, 115, 117, 109, 101]⟩ g) false g (fun (e : Bool) (f : Hp) =>
 TG ((((((decide (c.f7 = 1)) || a) || b) || d) || e) = false) (i6 x0 ⟨#[115, 107, 105, 112]⟩ f) false f (fun (k : Bool) (j : Hp) =>
 K ((((((decide (c.f7 = 1)) || a) || b) || d) || e) || k) j)))))) (fun o => ?_) (fun o => ?_) ?_
 ·replace h := h.1 o
  have l := o
  simp only [m6 l]
  refine g8 Tryz.call53 (h g0) ah ?_
  rintro _ n _ t z aj ak ⟨a, rfl, rfl, h⟩
  exact ⟨a, n, by rfl, z, ak, aj, h⟩
 ·exact ⟨false, af, by rw [X9 o], ah, fun _ _ _ => rfl, Hle.refl _, h.2 o⟩
 ·clear h
  rintro ai t ⟨a, n, rfl, z, ak, aj, h⟩
  refine a7 (L0 _ _) ?_
  simp only [C9]
  refine O5 (D := fun al u => ∃ (b : Bool) (m : Hp) , al = (gv ((decide (c.f7 = 1)) || a) false (vB b)) ∧ (Inv w0 ps0 H0 m [bx g0 101 (b6 x0)] u) ∧ (∀ i, i < t.heap.size → ¬ inF [bx g0 101 (b6 x0)] i → u.heap[i]? = t.heap[i]?) ∧ Hle n m ∧ (TG ((((decide (c.f7 = 1)) || a) || b) = false) (i6 x0 ⟨#[97, 115, 115, 101, 114, 116]⟩ m) false m (fun (d : Bool) (g : Hp) =>
 TG (((((decide (c.f7 = 1)) || a) || b) || d) = false) (i6 x0 ⟨#[97, 115, 115, 117, 109, 101]⟩ g) false g (fun (e : Bool) (f : Hp) =>
 TG ((((((decide (c.f7 = 1)) || a) || b) || d) || e) = false) (i6 x0 ⟨#[115, 107, 105, 112]⟩ f) false f (fun (k : Bool) (j : Hp) =>
 K ((((((decide (c.f7 = 1)) || a) || b) || d) || e) || k) j))))) (fun p => ?_) (fun p => ?_) ?_
  ·replace h := h.1 p
   have l := p
   simp only [m6 l]
   refine g8 Tryz.call53 (h g0) z ?_
   rintro _ m _ u aa am an ⟨b, rfl, rfl, h⟩
   exact ⟨b, m, by rfl, aa, an, am, h⟩
  ·exact ⟨false, n, by rw [X9 p], z, fun _ _ _ => rfl, Hle.refl _, h.2 p⟩
  ·clear h
   rintro al u ⟨b, m, rfl, aa, an, am, h⟩
   refine a7 (L0 _ _) ?_
   simp only [C9]
   refine O5 (D := fun ao v => ∃ (d : Bool) (g : Hp) , ao = (gv (((decide (c.f7 = 1)) || a) || b) false (vB d)) ∧ (Inv w0 ps0 H0 g [bx g0 101 (b6 x0)] v) ∧ (∀ i, i < u.heap.size → ¬ inF [bx g0 101 (b6 x0)] i → v.heap[i]? = u.heap[i]?) ∧ Hle m g ∧ (TG (((((decide (c.f7 = 1)) || a) || b) || d) = false) (i6 x0 ⟨#[97, 115, 115, 117, 109, 101]⟩ g) false g (fun (e : Bool) (f : Hp) =>
 TG ((((((decide (c.f7 = 1)) || a) || b) || d) || e) = false) (i6 x0 ⟨#[115, 107, 105, 112]⟩ f) false f (fun (k : Bool) (j : Hp) =>
 K ((((((decide (c.f7 = 1)) || a) || b) || d) || e) || k) j)))) (fun q => ?_) (fun q => ?_) ?_
   ·replace h := h.1 q
    have l := q
    simp only [m6 l]
    refine g8 Tryz.call53 (h g0) aa ?_
    rintro _ g _ v ab ap aq ⟨d, rfl, rfl, h⟩
    exact ⟨d, g, by rfl, ab, aq, ap, h⟩
   ·exact ⟨false, m, by rw [X9 q], aa, fun _ _ _ => rfl, Hle.refl _, h.2 q⟩
   ·clear h
    rintro ao v ⟨d, g, rfl, ab, aq, ap, h⟩
    refine a7 (L0 _ _) ?_
    simp only [C9]
    refine O5 (D := fun ar y => ∃ (e : Bool) (f : Hp) , ar = (gv ((((decide (c.f7 = 1)) || a) || b) || d) false (vB e)) ∧ (Inv w0 ps0 H0 f [bx g0 101 (b6 x0)] y) ∧ (∀ i, i < v.heap.size → ¬ inF [bx g0 101 (b6 x0)] i → y.heap[i]? = v.heap[i]?) ∧ Hle g f ∧ (TG ((((((decide (c.f7 = 1)) || a) || b) || d) || e) = false) (i6 x0 ⟨#[115, 107, 105, 112]⟩ f) false f (fun (k : Bool) (j : Hp) =>
 K ((((((decide (c.f7 = 1)) || a) || b) || d) || e) || k) j))) (fun r => ?_) (fun r => ?_) ?_
    ·replace h := h.1 r
     have l := r
     simp only [m6 l]
     refine g8 Tryz.call53 (h g0) ab ?_
     rintro _ f _ y ac au av ⟨e, rfl, rfl, h⟩
     exact ⟨e, f, by rfl, ac, av, au, h⟩
    ·exact ⟨false, g, by rw [X9 r], ab, fun _ _ _ => rfl, Hle.refl _, h.2 r⟩
    ·clear h
     rintro ar y ⟨e, f, rfl, ac, av, au, h⟩
     refine a7 (L0 _ _) ?_
     simp only [C9]
     refine O5 (D := fun aw ad => ∃ (k : Bool) (j : Hp) , aw = (gv (((((decide (c.f7 = 1)) || a) || b) || d) || e) false (vB k)) ∧ (Inv w0 ps0 H0 j [bx g0 101 (b6 x0)] ad) ∧ (∀ i, i < y.heap.size → ¬ inF [bx g0 101 (b6 x0)] i → ad.heap[i]? = y.heap[i]?) ∧ Hle f j ∧ (K ((((((decide (c.f7 = 1)) || a) || b) || d) || e) || k) j)) (fun s => ?_) (fun s => ?_) ?_
     ·replace h := h.1 s
      have l := s
      simp only [m6 l]
      refine g8 Tryz.call53 (h g0) ac ?_
      rintro _ j _ ad ae ax ay ⟨k, rfl, rfl, h⟩
      exact ⟨k, j, by rfl, ae, ay, ax, h⟩
     ·exact ⟨false, f, by rw [X9 s], ac, fun _ _ _ => rfl, Hle.refl _, h.2 s⟩
     ·clear h
      rintro aw ad ⟨k, j, rfl, ae, ay, ax, h⟩
      refine a7 (L0 _ _) ?_
      exact hR _ j _ _ ae ⟨((((((decide (c.f7 = 1)) || a) || b) || d) || e) || k), rfl, rfl, h⟩
def a3g [PanQ] (x0 : a8) (H : Hp) (K : Hp → Prop) : Prop :=
 u9 x0 H (fun a b =>
 PanQ.q (Value.iface 98 (Value.agg #[(vi a.fAt.v7), (vi a.fAt.C8), (vi 40)])))
theorem a6m [PanQ] (x0 : a8) {H : Hp} {K : Hp → Prop} (h : a3g x0 H K) : C3 x0 H K := by
 intro g0
 refine Ct.ofE fun w0 w ps0 H0 R E I hR hE => c2S ?_
 unfold a3g at h
 unfold F52
 refine g8 Tryz.call51 (h g0) I ?_
 rintro _ b _ c a _ _ ⟨d, rfl, rfl, h⟩
 refine a7 a8L (a7 (a8v _ _ _) (a7 (a9N _ _ _) ?_))
 exact a4D (hE _ _ _ _ a ⟨_, rfl, h⟩)
def a3w (x0 : a8) (x1 : ByteArray) (H : Hp) (K : Bool → a8 → Hp → Prop) : Prop :=
 i6 x0 x1 H (fun a b =>
 ((!a) = true →
 K false x0 b) ∧
 ((!a) = false →
 K true (a8.mk x0.fl (IntKind.wrap .i64 (x0.fn + 1))) b))
theorem a6y (x0 x1) {H K} (h : a3w x0 x1 H K) : r8 x0 x1 H K := by
 intro g0
 refine Ct.of fun w0 w ps0 H0 R E I hR => c0H ?_
 unfold a3w at h
 unfold c3u
 refine g8 Tryz.call53 (h g0) I ?_
 rintro _ b _ d a _ _ ⟨e, rfl, rfl, h⟩
 refine a7 (T8 _) ?_
 refine m8 h (fun _ h => ?_) (fun _ h => ?_)
 ·exact hR _ b _ _ a ⟨false, x0, rfl, rfl, h⟩
 ·refine a7 (q7 _) (a7 a2o (g7 (l1 Tryz.isAgg3 a rfl) (a7 pAd (a7 (q7 _) ?_))))
  refine a7 a2o ?_
  refine g6 a Tryz.sizeOf3 (vs := [(vi (IntKind.wrap .i64 (x0.fn + 1)))]) (cs' := [(vs x0.fl), (vi (IntKind.wrap .i64 (x0.fn + 1)))]) rfl rfl (nb rfl) rfl rfl fun f c g => ?_
  exact hR _ b _ _ c ⟨true, (a8.mk x0.fl (IntKind.wrap .i64 (x0.fn + 1))), rfl, rfl, h⟩
def a1z (x0 : a8) (H : Hp) (K : Bool → Hp → Prop) : Prop :=
 u9 x0 H (fun a c =>
 TG (((decide (a.f7 = 1)) || (decide (a.f7 = 2))) = false) (i6 x0 ⟨#[45]⟩ c) false c (fun (b : Bool) (d : Hp) =>
 TG ((((decide (a.f7 = 1)) || (decide (a.f7 = 2))) || b) = false) (i6 x0 ⟨#[105, 110, 112, 117, 116]⟩ d) false d (fun (e : Bool) (f : Hp) =>
 TG (((((decide (a.f7 = 1)) || (decide (a.f7 = 2))) || b) || e) = false) (i6 x0 ⟨#[40]⟩ f) false f (fun (g : Bool) (i : Hp) =>
 K (((((decide (a.f7 = 1)) || (decide (a.f7 = 2))) || b) || e) || g) i))))
theorem a4C (x0) {H K} (h : a1z x0 H K) : E0 x0 H K := by
 intro g0
 refine Ct.of fun w0 w ps0 H0 R E I hR => c1b ?_
 unfold a1z at h
 unfold c3O
 refine g8 Tryz.call51 (h g0) I ?_
 rintro _ u _ v y _ _ ⟨b, rfl, rfl, h⟩
 refine a7 a4Y (a7 pEq ?_)
 simp only [C9]
 refine a7 (Pu.g fun a => by simp only [m6 a]; with_reducible exact pEq) ?_
 refine a7 (L0 _ _) ?_
 simp only [C9]
 refine O5 (D := fun z o => ∃ (c : Bool) (k : Hp) , z = (gv ((decide (b.f7 = 1)) || (decide (b.f7 = 2))) false (vB c)) ∧ (Inv w0 ps0 H0 k [bx g0 101 (b6 x0)] o) ∧ (∀ i, i < v.heap.size → ¬ inF [bx g0 101 (b6 x0)] i → o.heap[i]? = v.heap[i]?) ∧ Hle u k ∧ (TG ((((decide (b.f7 = 1)) || (decide (b.f7 = 2))) || c) = false) (i6 x0 ⟨#[105, 110, 112, 117, 116]⟩ k) false k (fun (d : Bool) (e : Hp) =>
 TG (((((decide (b.f7 = 1)) || (decide (b.f7 = 2))) || c) || d) = false) (i6 x0 ⟨#[40]⟩ e) false e (fun (j : Bool) (f : Hp) =>
 K (((((decide (b.f7 = 1)) || (decide (b.f7 = 2))) || c) || d) || j) f)))) (fun l => ?_) (fun l => ?_) ?_
 ·replace h := h.1 l
  have a := l
  simp only [m6 a]
  refine g8 Tryz.call53 (h g0) y ?_
  rintro _ k _ o q aa ab ⟨c, rfl, rfl, h⟩
  exact ⟨c, k, by rfl, q, ab, aa, h⟩
 ·exact ⟨false, u, by rw [X9 l], y, fun _ _ _ => rfl, Hle.refl _, h.2 l⟩
 ·clear h
  rintro z o ⟨c, k, rfl, q, ab, aa, h⟩
  refine a7 (L0 _ _) ?_
  simp only [C9]
  refine O5 (D := fun ac p => ∃ (d : Bool) (e : Hp) , ac = (gv (((decide (b.f7 = 1)) || (decide (b.f7 = 2))) || c) false (vB d)) ∧ (Inv w0 ps0 H0 e [bx g0 101 (b6 x0)] p) ∧ (∀ i, i < o.heap.size → ¬ inF [bx g0 101 (b6 x0)] i → p.heap[i]? = o.heap[i]?) ∧ Hle k e ∧ (TG (((((decide (b.f7 = 1)) || (decide (b.f7 = 2))) || c) || d) = false) (i6 x0 ⟨#[40]⟩ e) false e (fun (j : Bool) (f : Hp) =>
 K (((((decide (b.f7 = 1)) || (decide (b.f7 = 2))) || c) || d) || j) f))) (fun m => ?_) (fun m => ?_) ?_
  ·replace h := h.1 m
   have a := m
   simp only [m6 a]
   refine g8 Tryz.call53 (h g0) q ?_
   rintro _ e _ p r ad ae ⟨d, rfl, rfl, h⟩
   exact ⟨d, e, by rfl, r, ae, ad, h⟩
  ·exact ⟨false, k, by rw [X9 m], q, fun _ _ _ => rfl, Hle.refl _, h.2 m⟩
  ·clear h
   rintro ac p ⟨d, e, rfl, r, ae, ad, h⟩
   refine a7 (L0 _ _) ?_
   simp only [C9]
   refine O5 (D := fun af s => ∃ (j : Bool) (f : Hp) , af = (gv ((((decide (b.f7 = 1)) || (decide (b.f7 = 2))) || c) || d) false (vB j)) ∧ (Inv w0 ps0 H0 f [bx g0 101 (b6 x0)] s) ∧ (∀ i, i < p.heap.size → ¬ inF [bx g0 101 (b6 x0)] i → s.heap[i]? = p.heap[i]?) ∧ Hle e f ∧ (K (((((decide (b.f7 = 1)) || (decide (b.f7 = 2))) || c) || d) || j) f)) (fun n => ?_) (fun n => ?_) ?_
   ·replace h := h.1 n
    have a := n
    simp only [m6 a]
    refine g8 Tryz.call53 (h g0) r ?_
    rintro _ f _ s t ag ah ⟨j, rfl, rfl, h⟩
    exact ⟨j, f, by rfl, t, ah, ag, h⟩
   ·exact ⟨false, e, by rw [X9 n], r, fun _ _ _ => rfl, Hle.refl _, h.2 n⟩
   ·clear h
    rintro af s ⟨j, f, rfl, t, ah, ag, h⟩
    refine a7 (L0 _ _) ?_
    exact hR _ f _ _ t ⟨(((((decide (b.f7 = 1)) || (decide (b.f7 = 2))) || c) || d) || j), rfl, rfl, h⟩
def a0E [PanQ] (x0 : a8) (x1 : Int) (x2 : ByteArray) (H : Hp) (K : b7 → a8 → Hp → Prop) : Prop :=
 E0 x0 H (fun a b =>
 A9 x0 (IntKind.wrap .i64 (x1 + 1)) a b (fun c =>
 K3 x0 (IntKind.wrap .i64 (x1 + 1)) c (fun d e f =>
 A4 e x2 f (fun g i =>
 K d g i))))
theorem a6a [PanQ] (x0 : a8) (x1 : Int) (x2 : ByteArray) {H : Hp} {K : b7 → a8 → Hp → Prop} (h : a0E x0 x1 x2 H K) : Q9 x0 x1 x2 H K := by
 intro g0
 refine Ct.ofE fun w0 w ps0 H0 R E I hR hE => c0I ?_
 unfold a0E at h
 unfold c3v
 refine m7 I Tryz.zeroValue40 (cs := [(vi 0), (vi 0), (eS), (nS)]) rfl fun m n d p => ?_
 refine a7 pAd ?_
 refine g8 Tryz.call141 (h g0) (d.bring 1) ?_
 rintro _ _ _ q e _ _ ⟨r, rfl, rfl, h⟩
 refine u6 hE Tryz.call55 (h g0) e ?_
 rintro _ _ _ s f _ _ ⟨rfl, rfl, h⟩
 refine a7 pAd ?_
 refine u6 hE Tryz.call35 (h g0) f ?_
 rintro _ _ _ t g _ _ ⟨a, u, rfl, rfl, h⟩
 refine m7 g Tryz.zeroValue40 (cs := [(vi 0), (vi 0), (eS), (nS)]) rfl fun v y i z => ?_
 refine g6 i Tryz.sizeOf40 (vs := (c8 a)) (cs' := (c8 a)) rfl rfl (nb rfl) rfl rfl fun aa j ab => ?_
 refine u6 hE Tryz.call103 (h g0) (j.bring 1) ?_
 rintro _ k _ ac b _ _ ⟨l, rfl, rfl, h⟩
 refine g7 (lW Tryz.isAgg40 Tryz.sizeOf40 rfl (b.bring 1)) ?_
 refine g6 (b.bring 2) Tryz.sizeOf40 (vs := (c8 a)) (cs' := (c8 a)) rfl rfl (nb rfl) rfl rfl fun ad c ae => ?_
 refine u1 Tryz.isAgg40 Tryz.sizeOf40 rfl (c.at1 (o := 0) (vs := (c8 a)) (nb rfl) rfl) ?_
 exact hR _ k _ _ (c.drop.bring 1).drop ⟨a, l, rfl, rfl, h⟩
def a3L (x0 : b7) (H : Hp) (K : Int → Hp → Prop) : Prop :=
 ∀ (a : Sl) (b : Hp), Hle H b → SlH b 1 p9 a [(d7.D1 (F0.mk x0))] → a.n ≤ a.c →
 a1h a b (fun d e =>
 K d.fe e)
theorem a8P (x0) {H K} (h : a3L x0 H K) : a3A x0 H K := by
 refine Ct.of fun w0 w ps0 H0 R E I hR => c2M ?_
 unfold a3L at h
 unfold F36
 refine Y0 I (cs := (c8 x0)) rfl fun p q a r => ?_
 refine g7 (lW Tryz.isAgg40 Tryz.sizeOf40 rfl a) (a7 (a8M _ _ _ _ _ _) (a7 (a5p (F0.mk x0)) ?_))
 refine U4 (e := 131) (c := p9) (xs := [(d7.D1 (F0.mk x0))]) a (a6N _) rfl rfl M8 Q1 (nb rfl) fun d s t f g u => ?_
 obtain ⟨i, j, k, l, m⟩ := Inv.freezeC g f (by decide)
 replace h := h d i k l m
 refine g8 Tryz.call74 h j ?_
 rintro _ n _ v b _ _ ⟨o, y, rfl, rfl, h⟩
 refine a7 (q7 _) (a7 a3T (g7 (l1 Tryz.isAgg29 b rfl) ?_))
 exact hR _ n _ _ b.drop.drop ⟨o.fe, rfl, rfl, h⟩
def a2B (x0 : Int) (H : Hp) (K : Bool → Hp → Prop) : Prop :=
 K (!decide (x0 = 10)) H
theorem a5A (x0) {H K} (h : a2B x0 H K) : Z6 x0 H K := by
 refine Ct.of fun w0 w ps0 H0 R E I hR => c0W ?_
 unfold a2B at h
 unfold c3J
 refine a7 pNe ?_
 exact hR _ H _ _ I ⟨(!decide (x0 = 10)), rfl, rfl, h⟩
def a1A (x0 : d6) (a : (List b5)) (H : Hp) (K : d6 → (List b5) → Hp → Prop) : Prop :=
 Q2 (p6 x0) a H (fun e f =>
 V8 e f (fun b c d =>
 (b = 10 →
 K (d6.mk x0.fs (IntKind.wrap .i64 (x0.fn + c)) (b9.mk (IntKind.wrap .i64 (x0.fat.v7 + 1)) 1) (Sl.mk none 0 0)) a d) ∧
 (¬ (b = 10) →
 K (d6.mk x0.fs (IntKind.wrap .i64 (x0.fn + c)) (b9.mk x0.fat.v7 (IntKind.wrap .i64 (x0.fat.C8 + 1))) (Sl.mk none 0 0)) a d)))
theorem a6V (x0 c) {H K} (h : a1A x0 c H K) : y7 x0 c H K := by
 intro g0 b d e
 refine Ct.of fun w0 w ps0 H0 R E I hR => c1g ?_
 unfold a1A at h
 unfold c3T
 refine g8 Tryz.call135 (h g0 b d e) ((I.bring 1).bring 1) ?_
 rintro _ n _ o k _ _ ⟨p, rfl, rfl, h⟩
 refine g8 Tryz.call128 h k ?_
 rintro _ g _ q i _ _ ⟨l, a, rfl, rfl, h⟩
 refine a7 (j7 _ _ (Value.int .i32 l) rfl) (a7 (j7 _ _ (vi a) rfl) (a7 (q7 _) (a7 U2 (g7 (l1 Tryz.isAgg3 i rfl) ?_))))
 refine a7 pAd (a7 (q7 _) (a7 U2 ?_))
 refine g6 i Tryz.sizeOf3 (vs := [(vi (IntKind.wrap .i64 (x0.fn + a)))]) (cs' := [(Value.string x0.fs), (vi (IntKind.wrap .i64 (x0.fn + a))), (vi x0.fat.v7), (vi x0.fat.C8), (vs b)]) rfl rfl (nb rfl) rfl rfl fun r j s => ?_
 refine a7 (q7 _) (a7 a3i (a7 b0D (g7 (l1 Tryz.isAgg3 j rfl) (a7 pAd ?_))))
 refine a7 (q7 _) (a7 a3i (a7 b0D ?_))
 refine g6 j Tryz.sizeOf3 (vs := [(vi (IntKind.wrap .i64 (x0.fat.C8 + 1)))]) (cs' := [(Value.string x0.fs), (vi (IntKind.wrap .i64 (x0.fn + a))), (vi x0.fat.v7), (vi (IntKind.wrap .i64 (x0.fat.C8 + 1))), (vs b)]) rfl rfl (nb rfl) rfl rfl fun t f u => ?_
 refine a7 pEq ?_
 refine j9 h (fun _ h => ?_) (fun _ h => ?_)
 ·refine a7 (q7 _) (a7 a3i (a7 b6t (g7 (l1 Tryz.isAgg3 f rfl) (a7 pAd ?_))))
  refine a7 (a8s _ _) (a7 (q7 _) (a7 a3i ?_))
  refine g6 f Tryz.sizeOf28 (vs := [(vi (IntKind.wrap .i64 (x0.fat.v7 + 1))), (vi 1)]) (cs' := [(Value.string x0.fs), (vi (IntKind.wrap .i64 (x0.fn + a))), (vi (IntKind.wrap .i64 (x0.fat.v7 + 1))), (vi 1), (vs b)]) rfl rfl (nb rfl) rfl rfl fun v m y => ?_
  exact hR _ g _ _ ((m.bring 1).bring 1) ⟨(d6.mk x0.fs (IntKind.wrap .i64 (x0.fn + a)) (b9.mk (IntKind.wrap .i64 (x0.fat.v7 + 1)) 1) (Sl.mk none 0 0)), c, b, d, rfl, rfl, e, h⟩
 ·exact hR _ g _ _ ((f.bring 1).bring 1) ⟨(d6.mk x0.fs (IntKind.wrap .i64 (x0.fn + a)) (b9.mk x0.fat.v7 (IntKind.wrap .i64 (x0.fat.C8 + 1))) (Sl.mk none 0 0)), c, b, d, rfl, rfl, e, h⟩
def t7 (U1 : Int) (q9 : ByteArray) (r7 : Int) (u2 : b9) (B0 : (List b5)) (H : Hp) (K : ByteArray → d6 → (List b5) → Hp → Prop) : Prop :=
 (0 : Int) ≤ U1 ∧ (U1 : Int) ≤ r7 ∧ (r7 : Int) ≤ q9.size ∧
 K (q9.extract (U1 : Int).toNat (r7 : Int).toNat) (d6.mk q9 r7 u2 (Sl.mk none 0 0)) B0 H
def y3 (b0a : Int) (E7 : Int) (v6 : Bool) (m9 : ByteArray) (o0 : Int) (l9 : b9) (m1 : (List b5)) (H : Hp) (n2 : (Int × Bool × ByteArray × Int × b9 × (List b5)) → Hp → Prop) (K : ByteArray → d6 → (List b5) → Hp → Prop) : Prop :=
 TG (v6 = true) (Z7 E7 H) false H (fun (b : Bool) (c : Hp) =>
 ((v6 && b) = true →
 y7 (d6.mk m9 o0 l9 (Sl.mk none 0 0)) m1 c (fun a d e =>
 u4 (p6 a) d e (fun f g i =>
 n2 (f, g, a.fs, a.fn, a.fat, d) i))) ∧
 ((v6 && b) = false →
 t7 b0a m9 o0 l9 m1 c K))
def H8 (x0 : d6) (a : (List b5)) (H : Hp) (K : ByteArray → d6 → (List b5) → Hp → Prop) : Prop :=
 u4 (p6 x0) a H (fun b c d =>
 TL ((b, c, x0.fs, x0.fn, x0.fat, a) : Int × Bool × ByteArray × Int × b9 × (List b5)) d fun (s : Int × Bool × ByteArray × Int × b9 × (List b5)) H n2 => y3 x0.fn s.1 s.2.1 s.2.2.1 s.2.2.2.1 s.2.2.2.2.1 s.2.2.2.2.2 H n2 K)
theorem a0s (x0 q) {H K} (h : H8 x0 q H K) : C5 x0 q H K := by
 intro g0 y z aa
 refine Ct.of fun w0 w ps0 H0 R E I hR => a9j ?_
 unfold H8 at h
 unfold b4b
 refine a7 (q7 _) (a7 U2 (g7 (l1 Tryz.isAgg3 I rfl) ?_))
 have hj1 : ∀ (q9 : ByteArray) (r7 : Int) (u2 : b9) (B0 : (List b5)) (R4 : Sl) (K5 : Frag) H w (_ : RowL 103 5 d8 R4 B0 K5) (_ : Inv w0 ps0 H0 H [bx g0 155 [(Value.string q9), (vi r7), (vi u2.v7), (vi u2.C8), (vs R4)], K5] w) (_ : t7 x0.fn q9 r7 u2 B0 H K), a3Z (Value.pointer (some ⟨g0, 0, none⟩)) (vi x0.fn) w R E := by
  intro q9 r7 u2 B0 R4 K5 H w a2q I h
  unfold a3Z
  intro _
  unfold t7 at h
  refine U3 I fun ax r => ?_
  refine o8 (q7 _) ?_
  refine o8 a4q ?_
  refine o8 (q7 _) ?_
  refine o8 U2 ?_
  refine A0 (l1 Tryz.isAgg9 r rfl) ?_
  refine A0 (l1 Tryz.isAgg3 r rfl) ?_
  obtain ⟨ak, al, am, h⟩ := h
  refine o8 (a7R q9 Tryz.underlying9 ak al am) ?_
  exact hR _ H _ _ ((r.bring 1).bring 1) ⟨(q9.extract (x0.fn : Int).toNat (r7 : Int).toNat), (d6.mk q9 r7 u2 (Sl.mk none 0 0)), B0, R4, K5, rfl, rfl, a2q, h⟩
 refine u7 fun j1 hx1 => ?_
 refine g8 Tryz.call100 (h g0 y z aa) ((I.bring 1).bring 1) ?_
 rintro _ an _ ay ao _ _ ⟨ab, ac, rfl, rfl, h⟩
 refine a7 (j7 _ _ (Value.int .i32 ab) rfl) (a7 (j7 _ _ (vB ac) rfl) ?_)
 obtain ⟨t, g, ap, aq⟩ := h
 refine E8 (J := fun n l w => ∃ (s : Int × Bool × ByteArray × Int × b9 × (List b5)) (H : Hp) (G1 : Sl) (C2 : Frag) , n = g s ∧ l = (match s with | (E7, v6, m9, o0, l9, m1) => [(Value.int .i32 E7), (vB v6)]) ∧ (match s with | (E7, v6, m9, o0, l9, m1) => RowL 103 5 d8 G1 m1 C2) ∧ (match s with | (E7, v6, m9, o0, l9, m1) => Inv w0 ps0 H0 H [bx g0 155 [(Value.string m9), (vi o0), (vi l9.v7), (vi l9.C8), (vs G1)], C2] w) ∧ t s H) ⟨_, (ab, ac, x0.fs, x0.fn, x0.fat, q), an, y, z, rfl, rfl, aa, ((ao.bring 1).bring 1), ap⟩ ?_
 rintro az ba w next2 ⟨⟨E7, v6, m9, o0, l9, m1⟩, H, G1, C2, rfl, u, O0, I, ar⟩ hn2
 dsimp only at u I O0
 simp only [List.map_cons, List.map_nil, List.cons.injEq, and_true] at u
 obtain ⟨e6, e7⟩ := u
 simp only [e6, e7]
 obtain ⟨n2, hm2, h⟩ : ∃ n2 : (Int × Bool × ByteArray × Int × b9 × (List b5)) → Hp → Prop, (∀ s' H', n2 s' H' → t s' H' ∧ g s' < g (E7, v6, m9, o0, l9, m1)) ∧ y3 x0.fn E7 v6 m9 o0 l9 m1 H n2 K := ⟨_, fun _ _ h => h, aq (E7, v6, m9, o0, l9, m1) H (fun s' H' => t s' H' ∧ g s' < g (E7, v6, m9, o0, l9, m1)) ar (fun _ _ a b => ⟨a, b⟩)⟩
 unfold a7F
 unfold y3 at h
 simp only [C9]
 refine O5 (D := fun ad j => ∃ (f : Bool) (c : Hp) , ad = (gv v6 true (vB f)) ∧ (Inv w0 ps0 H0 c [bx g0 155 [(Value.string m9), (vi o0), (vi l9.v7), (vi l9.C8), (vs G1)], C2] j) ∧ (∀ i, i < w.heap.size → ¬ inF [] i → j.heap[i]? = w.heap[i]?) ∧ Hle H c ∧ (((v6 && f) = true →
 y7 (d6.mk m9 o0 l9 (Sl.mk none 0 0)) m1 c (fun (d : d6) (k : (List b5)) (au : Hp) =>
 u4 (p6 d) k au (fun (m : Int) (o : Bool) (v : Hp) =>
 n2 (m, o, d.fs, d.fn, d.fat, k) v))) ∧
 ((v6 && f) = false →
 t7 x0.fn m9 o0 l9 m1 c K))) (fun e => ?_) (fun e => ?_) ?_
 ·replace h := h.1 e
  have ae := e
  simp only [m6 ae]
  refine g8 Tryz.call131 h I ?_
  rintro _ c _ j p af ag ⟨f, rfl, rfl, h⟩
  exact ⟨f, c, by rfl, p, ag, af, h⟩
 ·exact ⟨false, H, by rw [X9 e], I, fun _ _ _ => rfl, Hle.refl _, h.2 e⟩
 ·clear h
  rintro ad j ⟨f, c, rfl, p, ag, af, h⟩
  refine a7 (I0 _ _) ?_
  refine m8 h (fun _ h => ?_) (fun _ h => ?_)
  ·refine g8 Tryz.call152 (h g0 G1 C2 O0) ((p.bring 1).bring 1) ?_
   rintro _ _ _ bb av _ _ ⟨d, k, ah, ai, rfl, rfl, aj, h⟩
   refine g8 Tryz.call100 (h g0 ah ai aj) ((av.bring 1).bring 1) ?_
   rintro _ v _ bc aw _ _ ⟨m, o, rfl, rfl, h⟩
   refine a7 (j7 _ _ (Value.int .i32 m) rfl) (a7 (j7 _ _ (vB o) rfl) ?_)
   exact hn2 _ _ _ (hm2 _ _ h).2 ⟨(m, o, d.fs, d.fn, d.fat, k), v, ah, ai, rfl, rfl, aj, ((aw.bring 1).bring 1), (hm2 _ _ h).1⟩
  ·exact hx1 _ _ (hj1 m9 o0 l9 m1 G1 C2 c _ O0 ((p.bring 1).bring 1) h)
def a0X (x0 : d6) (j : (List b5)) (H : Hp) (K : b5 → Int → d6 → (List b5) → Hp → Prop) : Prop :=
 G9 (p6 x0) j H (fun a c d k =>
 a5T a 10 64 k (fun l b m =>
 u4 (p6 c) d m (fun n e f =>
 okI b ∧
 ((!(!isNilI b) && (decide (1 < (a.size : Int)))) = true → (0 : Int) ≤ 0 ∧ 0 < (a.size : Int)) ∧
 TG ((!((!isNilI b) || ((decide (1 < (a.size : Int))) && (decide (((a.get! (0 : Int).toNat).toNat : Int) = 48)))) && e) = true) (P0 n f) 0 f (fun (g : Int) (i : Hp) =>
 ((((!isNilI b) || ((decide (1 < (a.size : Int))) && (decide (((a.get! (0 : Int).toNat).toNat : Int) = 48)))) || (e && (decide (g = 3)))) = true →
 K (b5.mk 2 a 0 (b9.mk 0 0)) 21 (p6 c) d i) ∧
 ((((!isNilI b) || ((decide (1 < (a.size : Int))) && (decide (((a.get! (0 : Int).toNat).toNat : Int) = 48)))) || (e && (decide (g = 3)))) = false →
 K (b5.mk 2 a l (b9.mk 0 0)) 0 (p6 c) d i)))))
theorem a6n (x0 z) {H K} (h : a0X x0 z H K) : a2Z x0 z H K := by
 intro g0 aj ak al
 refine Ct.of fun w0 w ps0 H0 R E I hR => c0Y ?_
 unfold a0X at h
 unfold c3L
 refine m7 I Tryz.zeroValue103 (cs := [(vi 0), (eS), (vi 0), (vi 0), (vi 0)]) rfl fun am aw an ax => ?_
 refine g8 Tryz.call133 (h g0 aj ak al) ((an.bring 2).bring 2) ?_
 rintro _ _ _ ay ao _ _ ⟨c, n, q, r, s, rfl, rfl, y, h⟩
 refine a7 (a3X _ _) ?_
 refine m7 ao Tryz.zeroValue103 (cs := [(vi 0), (eS), (vi 0), (vi 0), (vi 0)]) rfl fun ap az aq ba => ?_
 refine g6 aq Tryz.sizeOf103 (vs := [(vi 2), (Value.string c), (vi 0), (vi 0), (vi 0)]) (cs' := [(vi 2), (Value.string c), (vi 0), (vi 0), (vi 0)]) rfl rfl (nb rfl) rfl rfl fun bb aa bc => ?_
 refine a7 Q6 (g7 (l1 Tryz.isAgg9 aa rfl) ?_)
 refine g8 Tryz.call158 h aa ?_
 rintro _ _ _ bd ar _ _ ⟨f, t, rfl, rfl, h⟩
 refine a7 (j7 _ _ (vi f) rfl) (a7 (j7 _ _ t rfl) ?_)
 refine g8 Tryz.call100 (h g0 r s y) ((ar.bring 2).bring 2) ?_
 rintro _ ab _ ac j _ _ ⟨au, u, rfl, rfl, h⟩
 refine a7 (j7 _ _ (Value.int .i32 au) rfl) (a7 (j7 _ _ (vB u) rfl) ?_)
 obtain ⟨av, h⟩ := h
 refine a7 (b6v _ av) ?_
 refine a7 (Pu.g fun a => by with_reducible exact Q6) ?_
 refine g7 (Ld.g fun a => by simp only [m6 a]; exact (l1 Tryz.isAgg9 (j.bring 2) rfl)) ?_
 refine a7 (Pu.g fun a => by simp only [m6 a]; with_reducible exact (a5o _)) ?_
 refine a7 (Pu.g fun a => by simp only [m6 a]; with_reducible exact pGt) ?_
 simp only [C9, b0t]
 refine a7 (Pu.e (a2b _ _ _) (Pu.g fun hb => by obtain ⟨a, b⟩ := a4s hb; with_reducible exact Q6)) ?_
 refine g7 (Ld.e (a2b _ _ _) (Ld.g fun hb => by obtain ⟨a, b⟩ := a4s hb; simp only [m6 hb]; exact (l1 Tryz.isAgg9 (j.bring 2) rfl))) ?_
 obtain ⟨d, h⟩ := h
 refine a7 (Pu.e (a2b _ _ _) (Pu.g fun hb => by obtain ⟨a, b⟩ := a4s hb; simp only [m6 hb]; with_reducible exact (c0x _ _ _ (d hb).1 (d hb).2))) ?_
 refine a7 (Pu.e (a2b _ _ _) (Pu.g fun hb => by obtain ⟨a, b⟩ := a4s hb; simp only [m6 hb]; with_reducible exact pEq)) ?_
 refine a7 (Pu.g fun a => by simp only [m6 a, b0s a]; with_reducible exact (I0 _ _)) ?_
 refine a7 (L0 _ _) ?_
 simp only [C9, b0t, b7m]
 refine b9W (a2b _ _ _) ?_
 refine O5 (D := fun ad v => ∃ (m : Int) (k : Hp) , ad = (gv (!((!isNilI t) || ((decide (1 < (c.size : Int))) && (decide (((c.get! (0 : Int).toNat).toNat : Int) = 48)))) && u) true (vi m)) ∧ (Inv w0 ps0 H0 k [bx g0 155 (q8 n r), s, bx ap 103 [(vi 2), (Value.string c), (vi 0), (vi 0), (vi 0)], bx am 103 [(vi 0), (eS), (vi 0), (vi 0), (vi 0)]] v) ∧ (∀ i, i < ac.heap.size → ¬ inF [] i → v.heap[i]? = ac.heap[i]?) ∧ Hle ab k ∧ (((((!isNilI t) || ((decide (1 < (c.size : Int))) && (decide (((c.get! (0 : Int).toNat).toNat : Int) = 48)))) || (u && (decide (m = 3)))) = true →
 K (b5.mk 2 c 0 (b9.mk 0 0)) 21 (p6 n) q k) ∧
 ((((!isNilI t) || ((decide (1 < (c.size : Int))) && (decide (((c.get! (0 : Int).toNat).toNat : Int) = 48)))) || (u && (decide (m = 3)))) = false →
 K (b5.mk 2 c f (b9.mk 0 0)) 0 (p6 n) q k))) (fun l => ?_) (fun l => ?_) ?_
 ·replace h := h.1 l
  obtain ⟨a, b⟩ := a4s l
  simp only [m6 l]
  refine g8 Tryz.call132 h j ?_
  rintro _ k _ v p ae af ⟨m, rfl, rfl, h⟩
  exact ⟨m, k, by rfl, p, af, ae, h⟩
 ·exact ⟨0, ab, by rw [X9 l], j, fun _ _ _ => rfl, Hle.refl _, h.2 l⟩
 ·clear h
  rintro ad v ⟨m, k, rfl, p, af, ae, h⟩
  refine a7 (Pu.e (a2b _ _ _) (Pu.g fun hb => by obtain ⟨a, b⟩ := a4s hb; simp only [m6 hb]; with_reducible exact pEq)) ?_
  refine a7 (Pu.g fun a => by simp only [m6 a, b0s a]; with_reducible exact (I0 _ _)) ?_
  refine a7 (L0 _ _) ?_
  refine m8 h (fun _ h => ?_) (fun _ h => ?_)
  ·refine g7 (ldA Tryz.isAgg103 Tryz.sizeOf103 rfl ((p.bring 2).at1 (o := 0) (vs := [(vi 2), (Value.string c), (vi 0), (vi 0), (vi 0)]) (nb rfl) rfl)) ?_
   refine g6 (p.bring 3) Tryz.sizeOf103 (vs := [(vi 2), (Value.string c), (vi 0), (vi 0), (vi 0)]) (cs' := [(vi 2), (Value.string c), (vi 0), (vi 0), (vi 0)]) rfl rfl (nb rfl) rfl rfl fun be ag bf => ?_
   refine u1 Tryz.isAgg103 Tryz.sizeOf103 rfl (ag.at1 (o := 0) (vs := [(vi 2), (Value.string c), (vi 0), (vi 0), (vi 0)]) (nb rfl) rfl) ?_
   exact hR _ k _ _ (((ag.drop.bring 2).drop.bring 1).bring 1) ⟨(b5.mk 2 c 0 (b9.mk 0 0)), 21, (p6 n), q, r, s, rfl, rfl, y, h⟩
  ·refine a7 a5J ?_
   refine g6 (p.bring 2) Tryz.sizeOf2 (vs := [(vi f)]) (cs' := [(vi 2), (Value.string c), (vi f), (vi 0), (vi 0)]) rfl rfl (nb rfl) rfl rfl fun bg ah bh => ?_
   refine g7 (ldA Tryz.isAgg103 Tryz.sizeOf103 rfl (ah.at1 (o := 0) (vs := [(vi 2), (Value.string c), (vi f), (vi 0), (vi 0)]) (nb rfl) rfl)) ?_
   refine g6 (ah.bring 3) Tryz.sizeOf103 (vs := [(vi 2), (Value.string c), (vi f), (vi 0), (vi 0)]) (cs' := [(vi 2), (Value.string c), (vi f), (vi 0), (vi 0)]) rfl rfl (nb rfl) rfl rfl fun bi ai bj => ?_
   refine u1 Tryz.isAgg103 Tryz.sizeOf103 rfl (ai.at1 (o := 0) (vs := [(vi 2), (Value.string c), (vi f), (vi 0), (vi 0)]) (nb rfl) rfl) ?_
   exact hR _ k _ _ ((ai.drop.drop.bring 1).bring 1) ⟨(b5.mk 2 c f (b9.mk 0 0)), 0, (p6 n), q, r, s, rfl, rfl, y, h⟩
def B1 (S9 : (List d7)) (H : Hp) (K : Sl → Hp → Prop) : Prop :=
 ∀ (C6 : Sl) (a : Hp), Hle H a → SlH a 1 p9 C6 S9 → C6.n ≤ C6.c →
 K C6 a
def B2 (A5 : Sl) (a3I : Int) (u0 : (List d7)) (r9 : Int) (H : Hp) (n2 : ((List d7) × Int) → Hp → Prop) (K : Sl → Hp → Prop) : Prop :=
 (r9 < a3I →
 (0 : Int) ≤ r9 ∧ (r9 : Int) < A5.n ∧ ∃ a : b7, EltH H A5 r9 4 (c8 a) ∧
 a5c a H (fun b c =>
 (u0.length + ([b] : List d7).length) * 17 ≤ 140737488355328 ∧
 n2 ((u0 ++ [b]), (IntKind.wrap .i64 (r9 + 1))) c)) ∧
 (¬ (r9 < a3I) →
 B1 u0 H K)
def G3 (x0 : Sl) (H : Hp) (K : Sl → Hp → Prop) : Prop :=
 TL (([], 0) : (List d7) × Int) H fun (s : (List d7) × Int) H n2 => B2 x0 (x0.n : Int) s.1 s.2 H n2 K
theorem a0e (x0) {H K} (h : G3 x0 H K) : y8 x0 H K := by
 refine Ct.of fun w0 w ps0 H0 R E I hR => c1q ?_
 unfold G3 at h
 unfold c4d
 have hj1 : ∀ (S9 : (List d7)) (C6 : Sl) (Fs5j1 : Frag) H w (_ : RowL 131 1 p9 C6 S9 Fs5j1) (_ : Inv w0 ps0 H0 H [Fs5j1] w) (_ : B1 S9 H K), b1N (vs C6) w R E := by
  intro S9 C6 Fs5j1 H w a6x I h
  unfold b1N
  intro _
  unfold B1 at h
  obtain ⟨k, q, r, t, u⟩ := Inv.freezeC I a6x (by decide)
  replace h := h C6 k r t u
  exact hR _ k _ _ q ⟨C6, rfl, rfl, h⟩
 refine u7 fun j1 hx1 => ?_
 refine a7 (a4E _ _ _) ?_
 obtain ⟨f, d, v, y⟩ := h
 refine E8 (J := fun n l w => ∃ (s : (List d7) × Int) (H : Hp) (T1 : Sl) (Fs5l2 : Frag) , n = d s ∧ l = (match s with | (u0, r9) => [(vs T1), (vi r9)]) ∧ (match s with | (u0, r9) => RowL 131 1 p9 T1 u0 Fs5l2) ∧ (match s with | (u0, r9) => Inv w0 ps0 H0 H [Fs5l2] w) ∧ f s H) ⟨_, ([], 0), H, (Sl.mk none 0 0), [], rfl, rfl, (RowL.nil M8 Q1), I.nil, v⟩ ?_
 rintro am an w next2 ⟨⟨u0, r9⟩, H, T1, Fs5l2, rfl, g, a1j, I, z⟩ hn2
 dsimp only at g I a1j
 simp only [List.map_cons, List.map_nil, List.cons.injEq, and_true] at g
 obtain ⟨e5, e10⟩ := g
 simp only [e5, e10]
 obtain ⟨n2, hm2, h⟩ : ∃ n2 : ((List d7) × Int) → Hp → Prop, (∀ s' H', n2 s' H' → f s' H' ∧ d s' < d (u0, r9)) ∧ B2 x0 (x0.n : Int) u0 r9 H n2 K := ⟨_, fun _ _ h => h, y (u0, r9) H (fun s' H' => f s' H' ∧ d s' < d (u0, r9)) z (fun _ _ a b => ⟨a, b⟩)⟩
 unfold b5F
 unfold B2 at h
 refine a7 pLs ?_
 refine j9 h (fun _ h => ?_) (fun _ h => ?_)
 ·obtain ⟨aa, ab, i, j, h⟩ := h
  obtain ⟨ao, ap, ac, j⟩ := j
  refine a7 (a6L ac _ _ _ _ aa ab) (g7 (ldA (vs := (c8 i)) Tryz.isAgg40 Tryz.sizeOf40 rfl (I.atH j)) ?_)
  refine m7 I Tryz.zeroValue40 (cs := [(vi 0), (vi 0), (eS), (nS)]) rfl fun aq ar ad au => ?_
  refine g6 ad Tryz.sizeOf40 (vs := (c8 i)) (cs' := (c8 i)) rfl rfl (nb rfl) rfl rfl fun av m aw => ?_
  refine g7 (lW Tryz.isAgg40 Tryz.sizeOf40 rfl m) ?_
  refine g8 Tryz.call208 h m ?_
  rintro _ ae _ ax af _ _ ⟨o, rfl, rfl, h⟩
  refine U4 (e := 131) (c := p9) (xs := [o]) af (a6N _) rfl rfl M8 Q1 (nb rfl) fun ay az ba ag p bb => ?_
  obtain ⟨ah, h⟩ := h
  refine a7D (s := T1) (xs := u0) (p.bring 2) a1j (ag.srcO ((p.bring 2).bring 1)) ah fun ai aj bc ak al bd => ?_
  refine a7 pAd ?_
  exact hn2 _ _ _ (hm2 _ _ h).2 ⟨((u0 ++ [o]), (IntKind.wrap .i64 (r9 + 1))), ae, ai, aj, rfl, rfl, ak, ((al.bring 1).drop.bring 1).drop, (hm2 _ _ h).1⟩
 ·exact hx1 _ _ (hj1 u0 T1 Fs5l2 H _ a1j I h)
def a1B (x0 : F0) (H : Hp) (K : Sl → Hp → Prop) : Prop :=
 y8 x0.s6.E4 H (fun a b =>
 K a b)
theorem a6W (x0) {H K} (h : a1B x0 H K) : a3D x0 H K := by
 refine Ct.of fun w0 w ps0 H0 R E I hR => c1p ?_
 unfold a1B at h
 unfold c4c
 refine Y0 I (cs := (c8 x0.s6)) rfl fun e f a g => ?_
 refine a7 X8 (a7 a3S (g7 (l1 Tryz.isAgg38 a rfl) ?_))
 refine g8 Tryz.call207 h a ?_
 rintro _ b _ i c _ _ ⟨d, rfl, rfl, h⟩
 exact hR _ b _ _ c.drop ⟨d, rfl, rfl, h⟩
def N3 (a9q : Bool) (a : F6) (b : R1) (H : Hp) (K : Bool → Hp → Prop) : Prop :=
 (a9q = true →
 K (decide (a.fexprs = 0 ∧ a.fparts = 2)) H) ∧
 (a9q = false →
 K false H)
def N4 (a4b : Int) (a9r : Bool) (a : F6) (b : R1) (H : Hp) (K : Bool → Hp → Prop) : Prop :=
 (a9r = true →
 K (decide (a.fexprs = 0 ∧ a.fparts = 0)) H) ∧
 (a9r = false →
 (a4b = 4 →
 K (decide (a.fexprs = 0 ∧ a.fparts = 1)) H) ∧
 (¬ (a4b = 4) →
 (a4b = 5 →
 N3 (decide (a4b = 5)) a b H K) ∧
 (¬ (a4b = 5) →
 N3 (decide (a4b = 6)) a b H K)))
def a1Y (x0 : R1) (H : Hp) (K : Bool → Hp → Prop) : Prop :=
 (x0.o9.f7 = 3 →
 K (((decide (1 ≤ x0.o9.fOp)) && (decide (x0.o9.fOp ≤ 6))) && (decide ((x0.o9.l8.n : Int) = 2 ∧ (x0.o9.E2.n : Int) = 0))) H) ∧
 (¬ (x0.o9.f7 = 3) →
 (¬ (x0.o9.fOp = 0) →
 K false H) ∧
 (x0.o9.fOp = 0 →
 (x0.o9.f7 = 1 →
 N4 x0.o9.f7 (decide (x0.o9.f7 = 1)) (F6.mk (x0.o9.l8.n : Int) (x0.o9.E2.n : Int)) x0 H K) ∧
 (¬ (x0.o9.f7 = 1) →
 N4 x0.o9.f7 (decide (x0.o9.f7 = 2)) (F6.mk (x0.o9.l8.n : Int) (x0.o9.E2.n : Int)) x0 H K)))
theorem a7h (x0) {H K} (h : a1Y x0 H K) : a1T x0 H K := by
 refine Ct.of fun w0 w ps0 H0 R E I hR => c1s ?_
 unfold a1Y at h
 unfold c4f
 refine Y0 I (cs := (g9 x0.o9)) rfl fun e i d j => ?_
 refine a7 a0p (a7 b0z (g7 (l1 Tryz.isAgg38 d rfl) (a7 (a4E _ _ _) (a7 a0p ?_))))
 refine a7 b0y (g7 (l1 Tryz.isAgg47 d rfl) (a7 (a8K _ _ _) (a7 (a3Y _ _) ?_)))
 refine m7 d Tryz.zeroValue260 (cs := [(vi 0), (vi 0)]) rfl fun c k f l => ?_
 refine g6 f Tryz.sizeOf260 (vs := [(vi (x0.o9.l8.n : Int)), (vi (x0.o9.E2.n : Int))]) (cs' := [(vi (x0.o9.l8.n : Int)), (vi (x0.o9.E2.n : Int))]) rfl rfl (nb rfl) rfl rfl fun m b p => ?_
 refine a7 a0p (a7 b0x (g7 (l1 Tryz.isAgg3 (b.bring 1) rfl) (a7 pEq ?_)))
 refine j9 h (fun _ h => ?_) (fun _ h => ?_)
 ·refine a7 a0p (a7 a7T (g7 (l1 Tryz.isAgg3 (b.bring 1) rfl) (a7 pGe ?_)))
  refine a7 (Pu.g fun a => by with_reducible exact a0p) ?_
  refine a7 (Pu.g fun a => by simp only [m6 a]; with_reducible exact a7T) ?_
  refine g7 (Ld.g fun a => by simp only [m6 a]; exact (l1 Tryz.isAgg3 (b.bring 1) rfl)) ?_
  refine a7 (Pu.g fun a => by simp only [m6 a]; with_reducible exact pLe) ?_
  refine a7 (I0 _ _) ?_
  refine g7 (Ld.g fun a => by exact (ldA Tryz.isAgg260 Tryz.sizeOf260 rfl (b.at1 (o := 0) (vs := [(vi (x0.o9.l8.n : Int)), (vi (x0.o9.E2.n : Int))]) (nb rfl) rfl))) ?_
  refine a7 (Pu.g fun a => by with_reducible exact (a3Y _ _)) ?_
  refine a7 (Pu.g fun a => by simp only [m6 a]; with_reducible exact (a7k _ _ _ _ _ _)) ?_
  refine a7 (I0 _ _) ?_
  exact hR _ H _ _ b.drop.drop ⟨(((decide (1 ≤ x0.o9.fOp)) && (decide (x0.o9.fOp ≤ 6))) && (decide ((x0.o9.l8.n : Int) = 2 ∧ (x0.o9.E2.n : Int) = 0))), rfl, rfl, h⟩
 ·refine a7 a0p (a7 a7T (g7 (l1 Tryz.isAgg3 (b.bring 1) rfl) (a7 pNe ?_)))
  refine a6J h (fun _ h => ?_) (fun _ h => ?_)
  ·exact hR _ H _ _ b.drop.drop ⟨false, rfl, rfl, h⟩
  ·refine a7 a0p (a7 b0x (g7 (l1 Tryz.isAgg3 (b.bring 1) rfl) ?_))
   have hj1 : ∀ (a9r : Bool) H w (_ : Inv w0 ps0 H0 H [bx c 260 [(vi (F6.mk (x0.o9.l8.n : Int) (x0.o9.E2.n : Int)).fexprs), (vi (F6.mk (x0.o9.l8.n : Int) (x0.o9.E2.n : Int)).fparts)], bx e 146 (g9 x0.o9)] w) (_ : N4 x0.o9.f7 a9r (F6.mk (x0.o9.l8.n : Int) (x0.o9.E2.n : Int)) x0 H K), b1P (Value.pointer (some ⟨c, 0, none⟩)) (vi x0.o9.f7) (vB a9r) w R E := by
    intro a9r H w I h
    unfold b1P
    intro _
    unfold N4 at h
    refine m8 h (fun _ h => ?_) (fun _ h => ?_)
    ·refine g7 (ldA Tryz.isAgg260 Tryz.sizeOf260 rfl (I.at1 (o := 0) (vs := [(vi (F6.mk (x0.o9.l8.n : Int) (x0.o9.E2.n : Int)).fexprs), (vi (F6.mk (x0.o9.l8.n : Int) (x0.o9.E2.n : Int)).fparts)]) (nb rfl) rfl)) (a7 (b6x ) (a7 (a7k _ _ _ _ _ _) ?_))
     exact hR _ H _ _ I.drop.drop ⟨(decide ((F6.mk (x0.o9.l8.n : Int) (x0.o9.E2.n : Int)).fexprs = 0 ∧ (F6.mk (x0.o9.l8.n : Int) (x0.o9.E2.n : Int)).fparts = 0)), rfl, rfl, h⟩
    ·refine a7 pEq ?_
     refine j9 h (fun _ h => ?_) (fun _ h => ?_)
     ·refine g7 (ldA Tryz.isAgg260 Tryz.sizeOf260 rfl (I.at1 (o := 0) (vs := [(vi (F6.mk (x0.o9.l8.n : Int) (x0.o9.E2.n : Int)).fexprs), (vi (F6.mk (x0.o9.l8.n : Int) (x0.o9.E2.n : Int)).fparts)]) (nb rfl) rfl)) (a7 (a3Y _ _) (a7 (a7k _ _ _ _ _ _) ?_))
      exact hR _ H _ _ I.drop.drop ⟨(decide ((F6.mk (x0.o9.l8.n : Int) (x0.o9.E2.n : Int)).fexprs = 0 ∧ (F6.mk (x0.o9.l8.n : Int) (x0.o9.E2.n : Int)).fparts = 1)), rfl, rfl, h⟩
     ·have hj2 : ∀ (a9q : Bool) H w (_ : Inv w0 ps0 H0 H [bx c 260 [(vi (F6.mk (x0.o9.l8.n : Int) (x0.o9.E2.n : Int)).fexprs), (vi (F6.mk (x0.o9.l8.n : Int) (x0.o9.E2.n : Int)).fparts)], bx e 146 (g9 x0.o9)] w) (_ : N3 a9q (F6.mk (x0.o9.l8.n : Int) (x0.o9.E2.n : Int)) x0 H K), b1O (Value.pointer (some ⟨c, 0, none⟩)) (vB a9q) w R E := by
       intro a9q H w I h
       unfold b1O
       intro _
       unfold N3 at h
       refine m8 h (fun _ h => ?_) (fun _ h => ?_)
       ·refine g7 (ldA Tryz.isAgg260 Tryz.sizeOf260 rfl (I.at1 (o := 0) (vs := [(vi (F6.mk (x0.o9.l8.n : Int) (x0.o9.E2.n : Int)).fexprs), (vi (F6.mk (x0.o9.l8.n : Int) (x0.o9.E2.n : Int)).fparts)]) (nb rfl) rfl)) (a7 (a3Y _ _) (a7 (a7k _ _ _ _ _ _) ?_))
        exact hR _ H _ _ I.drop.drop ⟨(decide ((F6.mk (x0.o9.l8.n : Int) (x0.o9.E2.n : Int)).fexprs = 0 ∧ (F6.mk (x0.o9.l8.n : Int) (x0.o9.E2.n : Int)).fparts = 2)), rfl, rfl, h⟩
       ·exact hR _ H _ _ I.drop.drop ⟨false, rfl, rfl, h⟩
      refine u7 fun j2 hx2 => ?_
      refine a7 pEq ?_
      refine j9 h (fun _ h => ?_) (fun _ h => ?_)
      ·exact hx2 _ _ (hj2 (decide (x0.o9.f7 = 5)) H _ ((I.bring 1).bring 1) h)
      ·refine a7 pEq ?_
       exact hx2 _ _ (hj2 (decide (x0.o9.f7 = 6)) H _ ((I.bring 1).bring 1) h)
   refine u7 fun j1 hx1 => ?_
   refine a7 pEq ?_
   refine j9 h (fun _ h => ?_) (fun _ h => ?_)
   ·exact hx1 _ _ (hj1 (decide (x0.o9.f7 = 1)) H _ ((b.bring 1).bring 1) h)
   ·refine a7 pEq ?_
    exact hx1 _ _ (hj1 (decide (x0.o9.f7 = 2)) H _ ((b.bring 1).bring 1) h)
def a1C (x0 : R1) (H : Hp) (K : Sl → Hp → Prop) : Prop :=
 y8 x0.o9.l8 H (fun d e =>
 C4 x0.o9.E2 e (fun f g =>
 ∀ (a : Sl) (b : Hp), Hle g b → SlH b 1 csl a [d, f] → a.n ≤ a.c →
 C0 a b (fun i j =>
 K i j)))
theorem a6X (x0) {H K} (h : a1C x0 H K) : a3E x0 H K := by
 refine Ct.of fun w0 w ps0 H0 R E I hR => c1t ?_
 unfold a1C at h
 unfold c4g
 refine Y0 I (cs := (g9 x0.o9)) rfl fun v y b z => ?_
 refine U3 b fun aa a => ?_
 refine o8 a0p ?_
 refine o8 b0z ?_
 refine o8 a0p ?_
 refine o8 b0y ?_
 refine A0 (l1 Tryz.isAgg38 a rfl) ?_
 refine A0 (l1 Tryz.isAgg47 a rfl) ?_
 refine g8 Tryz.call207 h a ?_
 rintro _ _ _ ab d _ f ⟨g, rfl, rfl, h⟩
 refine ⟨(f _ a.lt1 (Inv.Y1 (Fi := []) a)), ?_⟩
 refine g8 Tryz.call211 h d ?_
 rintro _ _ _ ac i _ _ ⟨j, rfl, rfl, h⟩
 refine U4 (e := 128) (c := csl) (xs := [g, j]) i (b3y _ _ _ _ _ _) rfl rfl b3c b3d (nb rfl) fun k ad ae l m af => ?_
 obtain ⟨n, o, p, q, r⟩ := Inv.freezeC m l (by decide)
 replace h := h k n p q r
 refine g8 Tryz.call75 h o ?_
 rintro _ s _ ag t _ _ ⟨u, rfl, rfl, h⟩
 exact hR _ s _ _ t.drop ⟨u, rfl, rfl, h⟩
end Go.Proofs.YthklmeihgmcljaaGreatDoor
