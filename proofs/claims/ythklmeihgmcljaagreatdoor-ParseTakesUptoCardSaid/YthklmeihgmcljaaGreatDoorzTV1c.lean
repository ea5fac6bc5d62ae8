/- Typed formulas of the program's functions, and the theorems that the contracts follow from them; printed by lift.py off the code. -/
import Derived.Test.YthklmeihgmcljaaGreatDoorzTV1
namespace Go.Proofs.YthklmeihgmcljaaGreatDoor
open Go.RowKit
set_option maxRecDepth 100000
set_option maxHeartbeats 2000000
def a3M (x0 : ByteArray) (H : Hp) (K : l7 → b8 → Int → Hp → Prop) : Prop :=
 G4 x0 H (fun a b c d =>
 K a b c d)
theorem a8P (x0) {H K} (h : a3M x0 H K) : W1 x0 H K := by
 refine Ct.of fun w0 w ps0 H0 R E I hR => c6V ?_
 unfold a3M at h
 unfold F9
 refine p6 I Tryz.zeroValue26 (cs := [(nS), (nS)]) rfl fun k l e m => ?_
 refine p6 e Tryz.zeroValue28 (cs := [(vi 0), (vi 0)]) rfl fun n p f q => ?_
 refine g9 Tryz.call20 h f ?_
 rintro _ g _ r i _ _ ⟨a, b, d, rfl, rfl, h⟩
 refine a7 (j9 _ _ _ rfl) (a7 (j9 _ _ _ rfl) (a7 (j9 _ _ (vi d) rfl) ?_))
 refine i6 (i.bring 1) Tryz.sizeOf26 (vs := (l9 a)) (cs' := (l9 a)) rfl rfl (nb rfl) rfl rfl fun s j t => ?_
 refine i6 (j.bring 1) Tryz.sizeOf28 (vs := (j8 b)) (cs' := (j8 b)) rfl rfl (nb rfl) rfl rfl fun u c v => ?_
 refine A5 Tryz.isAgg26 Tryz.sizeOf26 rfl ((c.bring 1).at1 (o := 0) (vs := (l9 a)) (nb rfl) rfl) ?_
 refine A5 Tryz.isAgg28 Tryz.sizeOf28 rfl (c.at1 (o := 0) (vs := (j8 b)) (nb rfl) rfl) ?_
 exact hR _ g _ _ c.drop.drop ⟨a, b, d, rfl, rfl, h⟩
def Z2 (x0 : b6) (H : Hp) (K : b5 → Hp → Prop) : Prop :=
 (0 : Int) ≤ x0.fat ∧ (x0.fat : Int) < x0.fl.n ∧ ∃ a : b5, EltH H x0.fl x0.fat 5 (f9 a) ∧
 K a H
theorem a5x (x0) {H K} (h : Z2 x0 H K) : Y8 x0 H K := by
 intro g0
 refine Ct.of fun w0 w ps0 H0 R E I hR => c4e ?_
 unfold Z2 at h
 unfold F63
 refine p6 I Tryz.zeroValue103 (cs := [(vi 0), (eS), (vi 0), (vi 0), (vi 0)]) rfl fun j k e l => ?_
 refine W4 e fun m b => ?_
 refine r8 (u2 _) ?_
 refine r8 b7q ?_
 refine r8 (u2 _) ?_
 refine r8 a3C ?_
 refine C4 (l1 Tryz.isAgg61 (b.bring 1) rfl) ?_
 refine C4 (l1 Tryz.isAgg3 (b.bring 1) rfl) ?_
 obtain ⟨f, g, a, c, h⟩ := h
 obtain ⟨n, p, i, c⟩ := c
 refine r8 (b4c i _ _ _ _ f g) ?_
 refine C4 (ldA (vs := (f9 a)) Tryz.isAgg103 Tryz.sizeOf103 rfl (b.atH c)) ?_
 refine i6 b Tryz.sizeOf103 (vs := (f9 a)) (cs' := (f9 a)) rfl rfl (nb rfl) rfl rfl fun q d r => ?_
 refine A5 Tryz.isAgg103 Tryz.sizeOf103 rfl (d.at1 (o := 0) (vs := (f9 a)) (nb rfl) rfl) ?_
 exact hR _ H _ _ d.drop ⟨a, rfl, rfl, h⟩
def a3g (x0 : b6) (x1 : ByteArray) (H : Hp) (K : Bool → Hp → Prop) : Prop :=
 Y8 x0 H (fun a b =>
 K (((decide (x0.fbad = 0)) && ((decide (a.c8 = 3)) || (decide (a.c8 = 4)))) && (decide (a.B6 = x1))) b)
theorem a3h (x0 x1) {H K} (h : a3g x0 x1 H K) : y4 x0 x1 H K := by
 intro g0
 refine Ct.of fun w0 w ps0 H0 R E I hR => c3M ?_
 unfold a3g at h
 unfold F23
 refine g9 Tryz.call63 (h g0) I ?_
 rintro _ f _ k i _ _ ⟨d, rfl, rfl, h⟩
 refine p6 i Tryz.zeroValue103 (cs := [(vi 0), (eS), (vi 0), (vi 0), (vi 0)]) rfl fun l m j n => ?_
 refine i6 j Tryz.sizeOf103 (vs := (f9 d)) (cs' := (f9 d)) rfl rfl (nb rfl) rfl rfl fun o c p => ?_
 refine a7 (u2 _) (a7 b7p (g6 (l1 Tryz.isAgg3 (c.bring 1) rfl) (a7 pEq ?_)))
 refine a7 (Pu.g fun a => by with_reducible exact a0L) ?_
 refine g6 (Ld.g fun a => by simp only [m1 a]; exact (l1 Tryz.isAgg3 c rfl)) ?_
 refine a7 (Pu.g fun a => by simp only [m1 a]; with_reducible exact pEq) ?_
 simp only [E5, a9S]
 refine a7 (Pu.e (b1Z _ _ _) (Pu.g fun hb => by obtain ⟨a, b⟩ := b7l hb; with_reducible exact a0L)) ?_
 refine g6 (Ld.e (b1Z _ _ _) (Ld.g fun hb => by obtain ⟨a, b⟩ := b7l hb; simp only [m1 hb]; exact (l1 Tryz.isAgg3 c rfl))) ?_
 refine a7 (Pu.e (b1Z _ _ _) (Pu.g fun hb => by obtain ⟨a, b⟩ := b7l hb; simp only [m1 hb]; with_reducible exact pEq)) ?_
 refine a7 (Pu.g fun a => by simp only [m1 a, c3t a]; with_reducible exact (P6 _ _)) ?_
 refine a7 (C1 _ _) ?_
 refine a7 (Pu.g fun a => by with_reducible exact S3) ?_
 refine g6 (Ld.g fun a => by simp only [m1 a]; exact (l1 Tryz.isAgg9 c rfl)) ?_
 simp only [E5]
 refine a7 (Pu.g fun a => by simp only [m1 a]; with_reducible exact (R9 _ _ _ _ _)) ?_
 refine a7 (C1 _ _) ?_
 exact hR _ f _ _ c.drop ⟨(((decide (x0.fbad = 0)) && ((decide (d.c8 = 3)) || (decide (d.c8 = 4)))) && (decide (d.B6 = x1))), rfl, rfl, h⟩
def W8 (u5 : b6) (a : f8) (b : f8) (H : Hp) (K : f8 → b6 → Hp → Prop) : Prop :=
 K a u5 H
def R5 (a0g : Int) (d : f8) (p5 : b6) (e : f8) (H : Hp) (n2 : (f8 × b6 × f8) → Hp → Prop) (K : f8 → b6 → Hp → Prop) : Prop :=
 P8 p5 ⟨#[124, 124]⟩ H (fun f g i =>
 (f = true →
 T9 g a0g i (fun j k l =>
 ∀ (a : Sl) (b : Hp), Hle l b → SlH b 4 g8 a [d, j] → a.n ≤ a.c →
 n2 ((f8.mk 6 0 (Sl.mk none 0 0) a), k, e) b)) ∧
 (f = false →
 W8 g d e i K))
def Z3 (x0 : b6) (x1 : Int) (H : Hp) (K : f8 → b6 → Hp → Prop) : Prop :=
 T9 x0 x1 H (fun a b c =>
 TL ((a, b, (f8.mk 0 0 (Sl.mk none 0 0) (Sl.mk none 0 0))) : f8 × b6 × f8) c fun (s : f8 × b6 × f8) H n2 => R5 x1 s.1 s.2.1 s.2.2 H n2 K)
theorem a5y (x0 x1) {H K} (h : Z3 x0 x1 H K) : a2v x0 x1 H K := by
 intro g0
 refine Ct.of fun w0 w ps0 H0 R E I hR => c3R ?_
 unfold Z3 at h
 unfold F43
 refine p6 I Tryz.zeroValue49 (cs := [(vi 0), (vi 0), (nS), (nS)]) rfl fun m ay ab az => ?_
 refine g9 Tryz.call90 (h g0) (ab.bring 1) ?_
 rintro _ ac _ ba ad _ _ ⟨p, ae, rfl, rfl, h⟩
 refine p6 ad Tryz.zeroValue49 (cs := [(vi 0), (vi 0), (nS), (nS)]) rfl fun q bb af bc => ?_
 refine i6 af Tryz.sizeOf49 (vs := (g8 p)) (cs' := (g8 p)) rfl rfl (nb rfl) rfl rfl fun bd ag be => ?_
 have hj1 : ∀ (u5 : b6) (g : f8) (r : f8) H w (_ : Inv w0 ps0 H0 H [bx g0 66 (m5 u5), bx q 49 (g8 g), bx m 49 (g8 r)] w) (_ : W8 u5 g r H K), b4t (Value.pointer (some ⟨m, 0, none⟩)) (Value.pointer (some ⟨q, 0, none⟩)) w R E := by
  intro u5 g r H w I h
  unfold b4t
  intro _
  unfold W8 at h
  refine g6 (lW Tryz.isAgg49 Tryz.sizeOf49 rfl (I.bring 1)) ?_
  refine i6 (I.bring 2) Tryz.sizeOf49 (vs := (g8 g)) (cs' := (g8 g)) rfl rfl (nb rfl) rfl rfl fun bf u bg => ?_
  refine A5 Tryz.isAgg49 Tryz.sizeOf49 rfl (u.at1 (o := 0) (vs := (g8 g)) (nb rfl) rfl) ?_
  exact hR _ H _ _ (u.drop.bring 1).drop ⟨g, u5, rfl, rfl, h⟩
 refine z8 fun j1 hx1 => ?_
 obtain ⟨t, i, ah, ai⟩ := h
 refine G7 (J := fun n l w => ∃ (s : f8 × b6 × f8) (H : Hp) , n = i s ∧ l = (match s with | (d, p5, f) => []) ∧ (match s with | (d, p5, f) => Inv w0 ps0 H0 H [bx q 49 (g8 d), bx g0 66 (m5 p5), bx m 49 (g8 f)] w) ∧ t s H) ⟨_, (p, ae, (f8.mk 0 0 (Sl.mk none 0 0) (Sl.mk none 0 0))), ac, rfl, rfl, (((ag.bring 2).bring 2).bring 2), ah⟩ ?_
 rintro bh bi w next2 ⟨⟨d, p5, f⟩, H, rfl, v, I, aj⟩ hn2
 dsimp only at v I
 clear v
 obtain ⟨n2, hm2, h⟩ : ∃ n2 : (f8 × b6 × f8) → Hp → Prop, (∀ s' H', n2 s' H' → t s' H' ∧ i s' < i (d, p5, f)) ∧ R5 x1 d p5 f H n2 K := ⟨_, fun _ _ h => h, ai (d, p5, f) H (fun s' H' => t s' H' ∧ i s' < i (d, p5, f)) aj (fun _ _ a b => ⟨a, b⟩)⟩
 unfold b8x
 unfold R5 at h
 refine g9 Tryz.call67 (h g0) (I.bring 1) ?_
 rintro _ ak _ bj y _ _ ⟨bk, z, rfl, rfl, h⟩
 refine p7 h (fun _ h => ?_) (fun _ h => ?_)
 ·refine W4 y fun bl j => ?_
  refine C4 (lW Tryz.isAgg49 Tryz.sizeOf49 rfl (j.bring 1)) ?_
  refine g9 Tryz.call90 (h g0) j ?_
  rintro _ _ _ bm al _ am ⟨an, ao, rfl, rfl, h⟩
  refine ⟨(am _ (j.bring 1).lt1 (Inv.Z9 (Fi := [bx g0 66 (m5 z)]) ((j.bring 1).bring 1))), ?_⟩
  refine W5 (e := 49) (c := g8) (xs := [d, an]) al (b2a _ _ _ _ _ _ _ _ _ _ _ _ _ _ _ _) rfl rfl T3 T4 (nb rfl) fun k bn bo ap aq bp => ?_
  refine r8 (a5d _ _ _ _) ?_
  refine i6 (aq.bring 2) Tryz.sizeOf49 (vs := [(vi 6), (vi 0), (nS), (vs k)]) (cs' := [(vi 6), (vi 0), (nS), (vs k)]) rfl rfl (nb rfl) rfl rfl fun bq ar br => ?_
  obtain ⟨aa, au, av, aw, ax⟩ := Inv.freezeC (ar.bring 1) ap (by decide)
  replace h := h k aa av aw ax
  exact hn2 _ _ _ (hm2 _ _ h).2 ⟨((f8.mk 6 0 (Sl.mk none 0 0) k), ao, f), aa, rfl, rfl, (((au.bring 2).bring 2).bring 2), (hm2 _ _ h).1⟩
 ·exact hx1 _ _ (hj1 z d f ak _ (((y.bring 2).bring 2).bring 2) h)
def E6 (b0b : Bool) (a : Int) (H : Hp) (K : Int → Hp → Prop) : Prop :=
 (b0b = true →
 K 3 H) ∧
 (b0b = false →
 K 6 H)
def Q2 (b0c : Bool) (a : Int) (H : Hp) (K : Int → Hp → Prop) : Prop :=
 (b0c = true →
 K 6 H) ∧
 (b0c = false →
 M2 48 57 a H (fun g b =>
 (g = true →
 K 4 b) ∧
 (g = false →
 (a = 95 →
 E6 (decide (a = 95)) a b K) ∧
 (¬ (a = 95) →
 M2 97 122 a b (fun c i =>
 (c = true →
 E6 c a i K) ∧
 (c = false →
 M2 65 90 a i (fun d j =>
 (d = true →
 E6 d a j K) ∧
 (d = false →
 M2 192 591 a j (fun e k =>
 (e = true →
 E6 e a k K) ∧
 (e = false →
 M2 913 969 a k (fun f l =>
 (f = true →
 E6 f a l K) ∧
 (f = false →
 M2 1040 1103 a l (fun m n =>
 E6 m a n K)))))))))))))
def q7 (b0W : Int) (b0d : Bool) (a : Int) (H : Hp) (K : Int → Hp → Prop) : Prop :=
 (b0d = true →
 K 5 H) ∧
 (b0d = false →
 (b0W = 215 →
 Q2 (decide (b0W = 215)) a H K) ∧
 (¬ (b0W = 215) →
 (b0W = 247 →
 Q2 (decide (b0W = 247)) a H K) ∧
 (¬ (b0W = 247) →
 Q2 (decide (b0W = 930)) a H K)))
def Q3 (B5 : Int) (a1x : Bool) (a : Int) (H : Hp) (K : Int → Hp → Prop) : Prop :=
 (a1x = true →
 K 1 H) ∧
 (a1x = false →
 (B5 = 10 →
 K 2 H) ∧
 (¬ (B5 = 10) →
 (B5 = 59 →
 q7 B5 (decide (B5 = 59)) a H K) ∧
 (¬ (B5 = 59) →
 (B5 = 44 →
 q7 B5 (decide (B5 = 44)) a H K) ∧
 (¬ (B5 = 44) →
 (B5 = 123 →
 q7 B5 (decide (B5 = 123)) a H K) ∧
 (¬ (B5 = 123) →
 (B5 = 125 →
 q7 B5 (decide (B5 = 125)) a H K) ∧
 (¬ (B5 = 125) →
 (B5 = 40 →
 q7 B5 (decide (B5 = 40)) a H K) ∧
 (¬ (B5 = 40) →
 (B5 = 41 →
 q7 B5 (decide (B5 = 41)) a H K) ∧
 (¬ (B5 = 41) →
 (B5 = 91 →
 q7 B5 (decide (B5 = 91)) a H K) ∧
 (¬ (B5 = 91) →
 (B5 = 93 →
 q7 B5 (decide (B5 = 93)) a H K) ∧
 (¬ (B5 = 93) →
 (B5 = 61 →
 q7 B5 (decide (B5 = 61)) a H K) ∧
 (¬ (B5 = 61) →
 (B5 = 33 →
 q7 B5 (decide (B5 = 33)) a H K) ∧
 (¬ (B5 = 33) →
 (B5 = 60 →
 q7 B5 (decide (B5 = 60)) a H K) ∧
 (¬ (B5 = 60) →
 (B5 = 62 →
 q7 B5 (decide (B5 = 62)) a H K) ∧
 (¬ (B5 = 62) →
 (B5 = 43 →
 q7 B5 (decide (B5 = 43)) a H K) ∧
 (¬ (B5 = 43) →
 (B5 = 45 →
 q7 B5 (decide (B5 = 45)) a H K) ∧
 (¬ (B5 = 45) →
 (B5 = 42 →
 q7 B5 (decide (B5 = 42)) a H K) ∧
 (¬ (B5 = 42) →
 (B5 = 47 →
 q7 B5 (decide (B5 = 47)) a H K) ∧
 (¬ (B5 = 47) →
 (B5 = 37 →
 q7 B5 (decide (B5 = 37)) a H K) ∧
 (¬ (B5 = 37) →
 (B5 = 38 →
 q7 B5 (decide (B5 = 38)) a H K) ∧
 (¬ (B5 = 38) →
 q7 B5 (decide (B5 = 124)) a H K))))))))))))))))))))
def a4g (x0 : Int) (H : Hp) (K : Int → Hp → Prop) : Prop :=
 (x0 = 32 →
 Q3 x0 (decide (x0 = 32)) x0 H K) ∧
 (¬ (x0 = 32) →
 (x0 = 9 →
 Q3 x0 (decide (x0 = 9)) x0 H K) ∧
 (¬ (x0 = 9) →
 Q3 x0 (decide (x0 = 13)) x0 H K))
theorem a9o (x0) {H K} (h : a4g x0 H K) : R1 x0 H K := by
 refine Ct.of fun w0 w ps0 H0 R E I hR => c1U ?_
 unfold a4g at h
 unfold c4Q
 refine T7 I (cs := [(Value.int .i32 x0)]) rfl fun a u b v => ?_
 refine g6 (l1 Tryz.isAgg21 b rfl) ?_
 have hj1 : ∀ (a1x : Bool) H w (_ : Inv w0 ps0 H0 H [bx a 21 [(Value.int .i32 x0)]] w) (_ : Q3 x0 a1x x0 H K), b2s (Value.pointer (some ⟨a, 0, none⟩)) (Value.int .i32 x0) (vB a1x) w R E := by
  intro a1x H w I h
  unfold b2s
  intro _
  unfold Q3 at h
  refine p7 h (fun _ h => ?_) (fun _ h => ?_)
  ·exact hR _ H _ _ I.drop ⟨1, rfl, rfl, h⟩
  ·refine a7 pEq ?_
   refine m6 h (fun _ h => ?_) (fun _ h => ?_)
   ·exact hR _ H _ _ I.drop ⟨2, rfl, rfl, h⟩
   ·have hj2 : ∀ (b0d : Bool) H w (_ : Inv w0 ps0 H0 H [bx a 21 [(Value.int .i32 x0)]] w) (_ : q7 x0 b0d x0 H K), b2r (Value.pointer (some ⟨a, 0, none⟩)) (Value.int .i32 x0) (vB b0d) w R E := by
     intro b0d H w I h
     unfold b2r
     intro _
     unfold q7 at h
     refine p7 h (fun _ h => ?_) (fun _ h => ?_)
     ·exact hR _ H _ _ I.drop ⟨5, rfl, rfl, h⟩
     ·have hj3 : ∀ (b0c : Bool) H w (_ : Inv w0 ps0 H0 H [bx a 21 [(Value.int .i32 x0)]] w) (_ : Q2 b0c x0 H K), b2q (Value.pointer (some ⟨a, 0, none⟩)) (vB b0c) w R E := by
       intro b0c H w I h
       unfold b2q
       intro _
       unfold Q2 at h
       refine p7 h (fun _ h => ?_) (fun _ h => ?_)
       ·exact hR _ H _ _ I.drop ⟨6, rfl, rfl, h⟩
       ·refine a7 (Z6 _ _ _) ?_
        refine a5C (cap := [(Value.pointer (some ⟨a, 0, none⟩))]) Tryz.call151 (h a) I ?_
        rintro _ d _ y c _ _ ⟨z, rfl, rfl, h⟩
        refine p7 h (fun _ h => ?_) (fun _ h => ?_)
        ·exact hR _ d _ _ c.drop ⟨4, rfl, rfl, h⟩
        ·have hj4 : ∀ (b0b : Bool) H w (_ : Inv w0 ps0 H0 H [bx a 21 [(Value.int .i32 x0)]] w) (_ : E6 b0b x0 H K), b2p (vB b0b) w R E := by
          intro b0b H w I h
          unfold b2p
          intro _
          unfold E6 at h
          refine p7 h (fun _ h => ?_) (fun _ h => ?_)
          ·exact hR _ H _ _ I.drop ⟨3, rfl, rfl, h⟩
          ·exact hR _ H _ _ I.drop ⟨6, rfl, rfl, h⟩
         refine z8 fun j4 hx4 => ?_
         refine g6 (l1 Tryz.isAgg21 c rfl) (a7 pEq ?_)
         refine m6 h (fun _ h => ?_) (fun _ h => ?_)
         ·exact hx4 _ _ (hj4 (decide (x0 = 95)) d _ c h)
         ·refine a5C (cap := [(Value.pointer (some ⟨a, 0, none⟩))]) Tryz.call151 (h a) c ?_
          rintro _ j _ aa e _ _ ⟨k, rfl, rfl, h⟩
          refine p7 h (fun _ h => ?_) (fun _ h => ?_)
          ·exact hx4 _ _ (hj4 k j _ e h)
          ·refine a5C (cap := [(Value.pointer (some ⟨a, 0, none⟩))]) Tryz.call151 (h a) e ?_
           rintro _ l _ ab f _ _ ⟨m, rfl, rfl, h⟩
           refine p7 h (fun _ h => ?_) (fun _ h => ?_)
           ·exact hx4 _ _ (hj4 m l _ f h)
           ·refine a5C (cap := [(Value.pointer (some ⟨a, 0, none⟩))]) Tryz.call151 (h a) f ?_
            rintro _ n _ ac g _ _ ⟨o, rfl, rfl, h⟩
            refine p7 h (fun _ h => ?_) (fun _ h => ?_)
            ·exact hx4 _ _ (hj4 o n _ g h)
            ·refine a5C (cap := [(Value.pointer (some ⟨a, 0, none⟩))]) Tryz.call151 (h a) g ?_
             rintro _ p _ ad i _ _ ⟨q, rfl, rfl, h⟩
             refine p7 h (fun _ h => ?_) (fun _ h => ?_)
             ·exact hx4 _ _ (hj4 q p _ i h)
             ·refine a5C (cap := [(Value.pointer (some ⟨a, 0, none⟩))]) Tryz.call151 (h a) i ?_
              rintro _ r _ ae s _ _ ⟨t, rfl, rfl, h⟩
              exact hx4 _ _ (hj4 t r _ s h)
      refine z8 fun j3 hx3 => ?_
      refine a7 pEq ?_
      refine m6 h (fun _ h => ?_) (fun _ h => ?_)
      ·exact hx3 _ _ (hj3 (decide (x0 = 215)) H _ I h)
      ·refine a7 pEq ?_
       refine m6 h (fun _ h => ?_) (fun _ h => ?_)
       ·exact hx3 _ _ (hj3 (decide (x0 = 247)) H _ I h)
       ·refine a7 pEq ?_
        exact hx3 _ _ (hj3 (decide (x0 = 930)) H _ I h)
    refine z8 fun j2 hx2 => ?_
    refine a7 pEq ?_
    refine m6 h (fun _ h => ?_) (fun _ h => ?_)
    ·exact hx2 _ _ (hj2 (decide (x0 = 59)) H _ I h)
    ·refine a7 pEq ?_
     refine m6 h (fun _ h => ?_) (fun _ h => ?_)
     ·exact hx2 _ _ (hj2 (decide (x0 = 44)) H _ I h)
     ·refine a7 pEq ?_
      refine m6 h (fun _ h => ?_) (fun _ h => ?_)
      ·exact hx2 _ _ (hj2 (decide (x0 = 123)) H _ I h)
      ·refine a7 pEq ?_
       refine m6 h (fun _ h => ?_) (fun _ h => ?_)
       ·exact hx2 _ _ (hj2 (decide (x0 = 125)) H _ I h)
       ·refine a7 pEq ?_
        refine m6 h (fun _ h => ?_) (fun _ h => ?_)
        ·exact hx2 _ _ (hj2 (decide (x0 = 40)) H _ I h)
        ·refine a7 pEq ?_
         refine m6 h (fun _ h => ?_) (fun _ h => ?_)
         ·exact hx2 _ _ (hj2 (decide (x0 = 41)) H _ I h)
         ·refine a7 pEq ?_
          refine m6 h (fun _ h => ?_) (fun _ h => ?_)
          ·exact hx2 _ _ (hj2 (decide (x0 = 91)) H _ I h)
          ·refine a7 pEq ?_
           refine m6 h (fun _ h => ?_) (fun _ h => ?_)
           ·exact hx2 _ _ (hj2 (decide (x0 = 93)) H _ I h)
           ·refine a7 pEq ?_
            refine m6 h (fun _ h => ?_) (fun _ h => ?_)
            ·exact hx2 _ _ (hj2 (decide (x0 = 61)) H _ I h)
            ·refine a7 pEq ?_
             refine m6 h (fun _ h => ?_) (fun _ h => ?_)
             ·exact hx2 _ _ (hj2 (decide (x0 = 33)) H _ I h)
             ·refine a7 pEq ?_
              refine m6 h (fun _ h => ?_) (fun _ h => ?_)
              ·exact hx2 _ _ (hj2 (decide (x0 = 60)) H _ I h)
              ·refine a7 pEq ?_
               refine m6 h (fun _ h => ?_) (fun _ h => ?_)
               ·exact hx2 _ _ (hj2 (decide (x0 = 62)) H _ I h)
               ·refine a7 pEq ?_
                refine m6 h (fun _ h => ?_) (fun _ h => ?_)
                ·exact hx2 _ _ (hj2 (decide (x0 = 43)) H _ I h)
                ·refine a7 pEq ?_
                 refine m6 h (fun _ h => ?_) (fun _ h => ?_)
                 ·exact hx2 _ _ (hj2 (decide (x0 = 45)) H _ I h)
                 ·refine a7 pEq ?_
                  refine m6 h (fun _ h => ?_) (fun _ h => ?_)
                  ·exact hx2 _ _ (hj2 (decide (x0 = 42)) H _ I h)
                  ·refine a7 pEq ?_
                   refine m6 h (fun _ h => ?_) (fun _ h => ?_)
                   ·exact hx2 _ _ (hj2 (decide (x0 = 47)) H _ I h)
                   ·refine a7 pEq ?_
                    refine m6 h (fun _ h => ?_) (fun _ h => ?_)
                    ·exact hx2 _ _ (hj2 (decide (x0 = 37)) H _ I h)
                    ·refine a7 pEq ?_
                     refine m6 h (fun _ h => ?_) (fun _ h => ?_)
                     ·exact hx2 _ _ (hj2 (decide (x0 = 38)) H _ I h)
                     ·refine a7 pEq ?_
                      exact hx2 _ _ (hj2 (decide (x0 = 124)) H _ I h)
 refine z8 fun j1 hx1 => ?_
 refine a7 pEq ?_
 refine m6 h (fun _ h => ?_) (fun _ h => ?_)
 ·exact hx1 _ _ (hj1 (decide (x0 = 32)) H _ b h)
 ·refine a7 pEq ?_
  refine m6 h (fun _ h => ?_) (fun _ h => ?_)
  ·exact hx1 _ _ (hj1 (decide (x0 = 9)) H _ b h)
  ·refine a7 pEq ?_
   exact hx1 _ _ (hj1 (decide (x0 = 13)) H _ b h)
def a4h (x0 : Int) (H : Hp) (K : Bool → Hp → Prop) : Prop :=
 R1 x0 H (fun a b =>
 K ((decide (a = 3)) || (decide (a = 4))) b)
theorem a9p (x0) {H K} (h : a4h x0 H K) : a2q x0 H K := by
 refine Ct.of fun w0 w ps0 H0 R E I hR => c2j ?_
 unfold a4h at h
 unfold c5f
 refine g9 Tryz.call132 h I ?_
 rintro _ c _ e d _ _ ⟨b, rfl, rfl, h⟩
 refine a7 pEq ?_
 simp only [E5]
 refine a7 (Pu.g fun a => by simp only [m1 a]; with_reducible exact pEq) ?_
 refine a7 (P6 _ _) ?_
 exact hR _ c _ _ d ⟨((decide (b = 3)) || (decide (b = 4))), rfl, rfl, h⟩
def Q5 (b2K : Int) (H : Hp) (K : Int → Hp → Prop) : Prop :=
 K b2K H
def Q6 (b : ByteArray) (a6P : Int) (a : Nat) (H : Hp) (n2 : (Int × Nat) → Hp → Prop) (K : Int → Hp → Prop) : Prop :=
 (a < b.size →
 n2 ((IntKind.wrap .i64 (a6P + 1)), (a + (Utf8.decode b a).2)) H) ∧
 (¬ (a < b.size) →
 Q5 a6P H K)
def Y4 (x0 : ByteArray) (H : Hp) (K : Int → Hp → Prop) : Prop :=
 TL ((0, 0) : Int × Nat) H fun (s : Int × Nat) H n2 => Q6 x0 s.1 s.2 H n2 K
theorem a5k (x0) {H K} (h : Y4 x0 H K) : Y2 x0 H K := by
 refine Ct.of fun w0 w ps0 H0 R E I hR => c2o ?_
 unfold Y4 at h
 unfold c5k
 have hj1 : ∀ (b2K : Int) H w (_ : Inv w0 ps0 H0 H [] w) (_ : Q5 b2K H K), b2y (vi b2K) w R E := by
  intro b2K H w I h
  unfold b2y
  intro _
  unfold Q5 at h
  exact hR _ H _ _ I ⟨b2K, rfl, rfl, h⟩
 refine z8 fun j1 hx1 => ?_
 refine a9U Tryz.underlying9 x0 I fun j r k t => ?_
 obtain ⟨f, d, m, o⟩ := h
 refine G7 (J := fun n l w => ∃ (s : Int × Nat) (H : Hp) , n = d s ∧ l = (match s with | (a6P, c) => [(vi a6P)]) ∧ (match s with | (a6P, c) => Inv w0 ps0 H0 H [itf j x0 c] w) ∧ f s H) ⟨_, (0, 0), H, rfl, rfl, k, m⟩ ?_
 rintro u v w next2 ⟨⟨a6P, c⟩, H, rfl, g, I, p⟩ hn2
 dsimp only at g I
 simp only [List.map_cons, List.map_nil, List.cons.injEq, and_true] at g
 have e2 := g
 simp only [e2]
 obtain ⟨n2, hm2, h⟩ : ∃ n2 : (Int × Nat) → Hp → Prop, (∀ s' H', n2 s' H' → f s' H' ∧ d s' < d (a6P, c)) ∧ Q6 x0 a6P c H n2 K := ⟨_, fun _ _ h => h, o (a6P, c) H (fun s' H' => f s' H' ∧ d s' < d (a6P, c)) p (fun _ _ a b => ⟨a, b⟩)⟩
 unfold b6w
 unfold Q6 at h
 refine b1p I (fun i y q z => ?_) (fun i => ?_)
 ·replace h := h.1 i
  refine a7 (j9 _ _ (vB true) rfl) ?_
  refine a1h (fun e => ?_) (fun e => by cases e)
  refine a7 pAd ?_
  exact hn2 _ _ _ (hm2 _ _ h).2 ⟨((IntKind.wrap .i64 (a6P + 1)), (c + (Utf8.decode x0 c).2)), H, rfl, rfl, q, (hm2 _ _ h).1⟩
 ·replace h := h.2 i
  refine a7 (j9 _ _ (vB false) rfl) ?_
  refine a1h (fun e => by cases e) (fun e => ?_)
  exact hx1 _ _ (hj1 a6P H _ I.drop h)
def B7 (t7 : Int) (t8 : Int) (y9 : Int) (a7i : Bool) (a7j : Bool) (a6h : (List ByteArray)) (H : Hp) (K : Bool → m8 → (List ByteArray) → Hp → Prop) : Prop :=
 K true (m8.mk t7 t8 y9 a7i a7j (Sl.mk none 0 0)) a6h H
def a1B (x0 : m8) (a : (List ByteArray)) (x1 : d8) (x2 : Int) (H : Hp) (K : Bool → m8 → (List ByteArray) → Hp → Prop) : Prop :=
 (4096 < (IntKind.wrap .i64 (x0.fnodes + 1)) →
 K false (m8.mk (IntKind.wrap .i64 (x0.fnodes + 1)) x0.fdepth 33 x0.fform x0.fnamed (Sl.mk none 0 0)) a H) ∧
 (¬ (4096 < (IntKind.wrap .i64 (x0.fnodes + 1))) →
 (64 < x2 →
 K false (m8.mk (IntKind.wrap .i64 (x0.fnodes + 1)) x0.fdepth 32 x0.fform x0.fnamed (Sl.mk none 0 0)) a H) ∧
 (¬ (64 < x2) →
 TG (x0.fform = false) (a3F x1 H) false H (fun (c : Bool) (j : Hp) =>
 a0Y x1 j (fun b e d =>
 (e = true →
 TG (x0.fnamed = false) (a3j b d) false d (fun (f : Bool) (k : Hp) =>
 O1 a b k (fun g i =>
 ((!g) = true →
 (a.length + ([b] : List ByteArray).length) * 17 ≤ 140737488355328 ∧
 B7 (IntKind.wrap .i64 (x0.fnodes + 1)) (if x2 > x0.fdepth then x2 else x0.fdepth) x0.fe (x0.fform || (!c)) (x0.fnamed || (!f)) (a ++ [b]) i K) ∧
 ((!g) = false →
 B7 (IntKind.wrap .i64 (x0.fnodes + 1)) (if x2 > x0.fdepth then x2 else x0.fdepth) x0.fe (x0.fform || (!c)) (x0.fnamed || (!f)) a i K)))) ∧
 (e = false →
 B7 (IntKind.wrap .i64 (x0.fnodes + 1)) (if x2 > x0.fdepth then x2 else x0.fdepth) x0.fe (x0.fform || (!c)) x0.fnamed a d K)))))
theorem a6Q (x0 b x1 x2) {H K} (h : a1B x0 b x1 x2 H K) : a1o x0 b x1 x2 H K := by
 intro g0 f n q
 refine Ct.of fun w0 w ps0 H0 R E I hR => c1M ?_
 unfold a1B at h
 unfold c4I
 refine a7 (u2 _) (a7 a8G (g6 (l1 Tryz.isAgg3 I rfl) (a7 pAd (a7 (u2 _) ?_))))
 refine a7 a8G ?_
 refine i6 I Tryz.sizeOf3 (vs := [(vi (IntKind.wrap .i64 (x0.fnodes + 1)))]) (cs' := [(vi (IntKind.wrap .i64 (x0.fnodes + 1))), (vi x0.fdepth), (vi x0.fe), (vB x0.fform), (vB x0.fnamed), (vs f)]) rfl rfl (nb rfl) rfl rfl fun bd v be => ?_
 refine a7 (u2 _) (a7 a8G (g6 (l1 Tryz.isAgg3 v rfl) (a7 pGt ?_)))
 refine m6 h (fun _ h => ?_) (fun _ h => ?_)
 ·refine a7 (u2 _) (a7 a5F ?_)
  refine i6 v Tryz.sizeOf29 (vs := [(vi 33)]) (cs' := [(vi (IntKind.wrap .i64 (x0.fnodes + 1))), (vi x0.fdepth), (vi 33), (vB x0.fform), (vB x0.fnamed), (vs f)]) rfl rfl (nb rfl) rfl rfl fun bf au bg => ?_
  exact hR _ H _ _ ((au.bring 1).bring 1) ⟨false, (m8.mk (IntKind.wrap .i64 (x0.fnodes + 1)) x0.fdepth 33 x0.fform x0.fnamed (Sl.mk none 0 0)), b, f, n, rfl, rfl, q, h⟩
 ·refine a7 pGt ?_
  refine m6 h (fun _ h => ?_) (fun _ h => ?_)
  ·refine a7 (u2 _) (a7 a5F ?_)
   refine i6 v Tryz.sizeOf29 (vs := [(vi 32)]) (cs' := [(vi (IntKind.wrap .i64 (x0.fnodes + 1))), (vi x0.fdepth), (vi 32), (vB x0.fform), (vB x0.fnamed), (vs f)]) rfl rfl (nb rfl) rfl rfl fun bh av bi => ?_
   exact hR _ H _ _ ((av.bring 1).bring 1) ⟨false, (m8.mk (IntKind.wrap .i64 (x0.fnodes + 1)) x0.fdepth 32 x0.fform x0.fnamed (Sl.mk none 0 0)), b, f, n, rfl, rfl, q, h⟩
  ·refine a7 (u2 _) (a7 b1u (g6 (l1 Tryz.isAgg3 v rfl) (a7 (c3r _ _ _ _ _) (a7 (u2 _) ?_))))
   refine a7 b1u ?_
   refine i6 v Tryz.sizeOf3 (vs := [(vi (if x2 > x0.fdepth then x2 else x0.fdepth))]) (cs' := [(vi (IntKind.wrap .i64 (x0.fnodes + 1))), (vi (if x2 > x0.fdepth then x2 else x0.fdepth)), (vi x0.fe), (vB x0.fform), (vB x0.fnamed), (vs f)]) rfl rfl (nb rfl) rfl rfl fun ai ac bj => ?_
   refine a7 (u2 _) (a7 a8H (g6 (l1 Tryz.isAgg4 ac rfl) ?_))
   simp only [E5]
   refine G6 (D := fun aj y => ∃ (d : Bool) (r : Hp), aj = (gv x0.fform false (vB d)) ∧ (Inv w0 ps0 H0 r [bx g0 79 [(vi (IntKind.wrap .i64 (x0.fnodes + 1))), (vi (if x2 > x0.fdepth then x2 else x0.fdepth)), (vi x0.fe), (vB x0.fform), (vB x0.fnamed), (vs f)], n] y) ∧ (∀ i, i < ai.heap.size → ¬ inF [] i → y.heap[i]? = ai.heap[i]?) ∧ Hle H r ∧ (a0Y x1 r (fun (k : ByteArray) (z : Bool) (o : Hp) =>
 (z = true →
 TG (x0.fnamed = false) (a3j k o) false o (fun (j : Bool) (l : Hp) =>
 O1 b k l (fun (t : Bool) (m : Hp) =>
 ((!t) = true →
 (b.length + ([k] : List ByteArray).length) * 17 ≤ 140737488355328 ∧
 B7 (IntKind.wrap .i64 (x0.fnodes + 1)) (if x2 > x0.fdepth then x2 else x0.fdepth) x0.fe (x0.fform || (!d)) (x0.fnamed || (!j)) (b ++ [k]) m K) ∧
 ((!t) = false →
 B7 (IntKind.wrap .i64 (x0.fnodes + 1)) (if x2 > x0.fdepth then x2 else x0.fdepth) x0.fe (x0.fform || (!d)) (x0.fnamed || (!j)) b m K)))) ∧
 (z = false →
 B7 (IntKind.wrap .i64 (x0.fnodes + 1)) (if x2 > x0.fdepth then x2 else x0.fdepth) x0.fe (x0.fform || (!d)) x0.fnamed b o K)))) (fun u => ?_) (fun u => ?_) ?_
   ·replace h := h.1 u
    have a := u
    simp only [m1 a]
    refine a8q ac h (fun d r y ad ak al h => ?_)
    exact ⟨d, r, by rfl, ad, al, ak, h⟩
   ·exact ⟨false, H, by rw [R8 u], ac, fun _ _ _ => rfl, Hle.refl _, h.2 u⟩
   ·clear h
    rintro aj y ⟨d, r, rfl, ad, al, ak, h⟩
    refine a7 (Pu.g fun a => by simp only [m1 a]; with_reducible exact (T2 _)) ?_
    refine a7 (P6 _ _) (a7 (u2 _) (a7 a8H ?_))
    refine i6 ad Tryz.sizeOf4 (vs := [(vB (x0.fform || (!d)))]) (cs' := [(vi (IntKind.wrap .i64 (x0.fnodes + 1))), (vi (if x2 > x0.fdepth then x2 else x0.fdepth)), (vi x0.fe), (vB (x0.fform || (!d))), (vB x0.fnamed), (vs f)]) rfl rfl (nb rfl) rfl rfl fun bk aw bl => ?_
    have hj1 : ∀ (t7 : Int) (t8 : Int) (y9 : Int) (a7i : Bool) (a7j : Bool) (a6h : (List ByteArray)) (a8Q : Sl) (a8R : Frag) H w (_ : RowL 9 1 K2 a8Q a6h a8R) (_ : Inv w0 ps0 H0 H [bx g0 79 [(vi t7), (vi t8), (vi y9), (vB a7i), (vB a7j), (vs a8Q)], a8R] w) (_ : B7 t7 t8 y9 a7i a7j a6h H K), b2k w R E := by
     intro t7 t8 y9 a7i a7j a6h a8Q a8R H w b9N I h
     unfold b2k
     intro _
     unfold B7 at h
     exact hR _ H _ _ ((I.bring 1).bring 1) ⟨true, (m8.mk t7 t8 y9 a7i a7j (Sl.mk none 0 0)), a6h, a8Q, a8R, rfl, rfl, b9N, h⟩
    refine z8 fun j1 hx1 => ?_
    refine g9 Tryz.call143 h aw ?_
    rintro _ o _ am aa _ _ ⟨k, z, rfl, rfl, h⟩
    refine a7 (j9 _ _ (Value.string k) rfl) (a7 (j9 _ _ (vB z) rfl) ?_)
    refine a1h (fun ae => ?_) (fun ae => ?_)
    ·replace h := h.1 ae
     refine a7 (u2 _) (a7 a8I (g6 (l1 Tryz.isAgg4 aa rfl) ?_))
     simp only [E5]
     refine G6 (D := fun an ab => ∃ (j : Bool) (l : Hp) , an = (gv x0.fnamed false (vB j)) ∧ (Inv w0 ps0 H0 l [bx g0 79 [(vi (IntKind.wrap .i64 (x0.fnodes + 1))), (vi (if x2 > x0.fdepth then x2 else x0.fdepth)), (vi x0.fe), (vB (x0.fform || (!d))), (vB x0.fnamed), (vs f)], n] ab) ∧ (∀ i, i < am.heap.size → ¬ inF [] i → ab.heap[i]? = am.heap[i]?) ∧ Hle o l ∧ (O1 b k l (fun (t : Bool) (m : Hp) =>
 ((!t) = true →
 (b.length + ([k] : List ByteArray).length) * 17 ≤ 140737488355328 ∧
 B7 (IntKind.wrap .i64 (x0.fnodes + 1)) (if x2 > x0.fdepth then x2 else x0.fdepth) x0.fe (x0.fform || (!d)) (x0.fnamed || (!j)) (b ++ [k]) m K) ∧
 ((!t) = false →
 B7 (IntKind.wrap .i64 (x0.fnodes + 1)) (if x2 > x0.fdepth then x2 else x0.fdepth) x0.fe (x0.fform || (!d)) (x0.fnamed || (!j)) b m K)))) (fun p => ?_) (fun p => ?_) ?_
     ·replace h := h.1 p
      have a := p
      simp only [m1 a]
      refine g9 Tryz.call144 h aa ?_
      rintro _ l _ ab af ao ap ⟨j, rfl, rfl, h⟩
      exact ⟨j, l, by rfl, af, ap, ao, h⟩
     ·exact ⟨false, o, by rw [R8 p], aa, fun _ _ _ => rfl, Hle.refl _, h.2 p⟩
     ·clear h
      rintro an ab ⟨j, l, rfl, af, ap, ao, h⟩
      refine a7 (Pu.g fun a => by simp only [m1 a]; with_reducible exact (T2 _)) ?_
      refine a7 (P6 _ _) (a7 (u2 _) (a7 a8I ?_))
      refine i6 af Tryz.sizeOf4 (vs := [(vB (x0.fnamed || (!j)))]) (cs' := [(vi (IntKind.wrap .i64 (x0.fnodes + 1))), (vi (if x2 > x0.fdepth then x2 else x0.fdepth)), (vi x0.fe), (vB (x0.fform || (!d))), (vB (x0.fnamed || (!j))), (vs f)]) rfl rfl (nb rfl) rfl rfl fun bm aq bn => ?_
      refine a7 (u2 _) (a7 a8J (g6 (l1 Tryz.isAgg77 aq rfl) ?_))
      refine g9 Tryz.call145 (h f n q) (aq.bring 1) ?_
      rintro _ m _ bo ag _ _ ⟨t, rfl, rfl, h⟩
      refine a7 (T2 _) ?_
      refine p7 h (fun _ h => ?_) (fun _ h => ?_)
      ·refine a7 (u2 _) (a7 a8J (g6 (l1 Tryz.isAgg77 (ag.bring 1) rfl) ?_))
       refine W5 (e := 9) (c := K2) (xs := [k]) ag (c1z _) rfl rfl a6r a6s (nb rfl) fun bp bq br ax ar bs => ?_
       obtain ⟨ay, h⟩ := h
       refine c3I (s := f) (xs := b) (ar.bring 1) q (ax.srcO ((ar.bring 1).bring 1)) ay fun ah az bt ba bb bu => ?_
       refine a7 (u2 _) (a7 a8J ?_)
       refine i6 ((bb.bring 1).drop.bring 1) Tryz.sizeOf77 (vs := [(vs ah)]) (cs' := [(vi (IntKind.wrap .i64 (x0.fnodes + 1))), (vi (if x2 > x0.fdepth then x2 else x0.fdepth)), (vi x0.fe), (vB (x0.fform || (!d))), (vB (x0.fnamed || (!j))), (vs ah)]) rfl rfl (nb rfl) rfl rfl fun bv bc bw => ?_
       exact hx1 _ _ (hj1 (IntKind.wrap .i64 (x0.fnodes + 1)) (if x2 > x0.fdepth then x2 else x0.fdepth) x0.fe (x0.fform || (!d)) (x0.fnamed || (!j)) (b ++ [k]) ah az m _ ba ((bc.bring 1).bring 1) h)
      ·exact hx1 _ _ (hj1 (IntKind.wrap .i64 (x0.fnodes + 1)) (if x2 > x0.fdepth then x2 else x0.fdepth) x0.fe (x0.fform || (!d)) (x0.fnamed || (!j)) b f n m _ q (ag.bring 1) h)
    ·replace h := h.2 ae
     exact hx1 _ _ (hj1 (IntKind.wrap .i64 (x0.fnodes + 1)) (if x2 > x0.fdepth then x2 else x0.fdepth) x0.fe (x0.fform || (!d)) x0.fnamed b f n o _ q ((aa.bring 1).bring 1) h)
def u6 (H : Hp) (K : Bool → Hp → Prop) : Prop :=
 K true H
def q8 (a0g : Sl) (a7S : Sl) (a7T : Int) (H8 : Int) (H : Hp) (n2 : Int → Hp → Prop) (K : Bool → Hp → Prop) : Prop :=
 (H8 < a7T →
 (0 : Int) ≤ H8 ∧ (H8 : Int) < a7S.n ∧ ∃ a : f8, EltH H a7S H8 4 (g8 a) ∧
 (0 : Int) ≤ H8 ∧ (H8 : Int) < a0g.n ∧ ∃ b : f8, EltH H a0g H8 4 (g8 b) ∧
 a0O a b H (fun c d =>
 ((!c) = true →
 K false d) ∧
 ((!c) = false →
 n2 (IntKind.wrap .i64 (H8 + 1)) d))) ∧
 (¬ (H8 < a7T) →
 u6 H K)
def v8 (x0 : Sl) (x1 : Sl) (H : Hp) (K : Bool → Hp → Prop) : Prop :=
 (¬ ((x0.n : Int) = (x1.n : Int)) →
 K false H) ∧
 ((x0.n : Int) = (x1.n : Int) →
 TL (0 : Int) H fun (s : Int) H n2 => q8 x1 x0 (x0.n : Int) s H n2 K)
theorem L8 (x0 x1) {H K} (h : v8 x0 x1 H K) : l0 x0 x1 H K := by
 refine Ct.of fun w0 w ps0 H0 R E I hR => c4v ?_
 unfold v8 at h
 unfold F95
 refine a7 (a5n _ _ _) (a7 (a5n _ _ _) (a7 pNe ?_))
 refine a1T h (fun _ h => ?_) (fun _ h => ?_)
 ·exact hR _ H _ _ I ⟨false, rfl, rfl, h⟩
 ·have hj1 : ∀ H w (_ : Inv w0 ps0 H0 H [] w) (_ : u6 H K), b4O w R E := by
   intro H w I h
   unfold b4O
   intro _
   unfold u6 at h
   exact hR _ H _ _ I ⟨true, rfl, rfl, h⟩
  refine z8 fun j1 hx1 => ?_
  refine a7 (a5n _ _ _) ?_
  obtain ⟨d, c, q, r⟩ := h
  refine G7 (J := fun n l w => ∃ (s : Int) (H : Hp) , n = c s ∧ l = [(vi s)] ∧ Inv w0 ps0 H0 H [] w ∧ d s H) ⟨_, 0, H, rfl, rfl, I, q⟩ ?_
  rintro ae af w next2 ⟨H8, H, rfl, k, I, t⟩ hn2
  simp only [List.map_cons, List.map_nil, List.cons.injEq, and_true] at k
  have e17 := k
  simp only [e17]
  obtain ⟨n2, hm2, h⟩ : ∃ n2 : Int → Hp → Prop, (∀ s' H', n2 s' H' → d s' H' ∧ c s' < c H8) ∧ q8 x1 x0 (x0.n : Int) H8 H n2 K := ⟨_, fun _ _ h => h, r H8 H (fun s' H' => d s' H' ∧ c s' < c H8) t (fun _ _ a b => ⟨a, b⟩)⟩
  unfold b8L
  unfold q8 at h
  refine a7 pLs ?_
  refine m6 h (fun _ h => ?_) (fun _ h => ?_)
  ·obtain ⟨u, v, e, f, h⟩ := h
   obtain ⟨ag, ah, y, f⟩ := f
   refine a7 (b0T y _ _ _ _ u v) (g6 (ldA (vs := (g8 e)) Tryz.isAgg49 Tryz.sizeOf49 rfl (I.atH f)) ?_)
   refine p6 I Tryz.zeroValue49 (cs := [(vi 0), (vi 0), (nS), (nS)]) rfl fun ai aj z ak => ?_
   refine i6 z Tryz.sizeOf49 (vs := (g8 e)) (cs' := (g8 e)) rfl rfl (nb rfl) rfl rfl fun al m am => ?_
   obtain ⟨aa, ab, g, i, h⟩ := h
   obtain ⟨an, ao, ac, i⟩ := i
   refine a7 (b0T ac _ _ _ _ aa ab) (g6 (ldA (vs := (g8 g)) Tryz.isAgg49 Tryz.sizeOf49 rfl (m.atH i)) ?_)
   refine p6 m Tryz.zeroValue49 (cs := [(vi 0), (vi 0), (nS), (nS)]) rfl fun ap aq ad ar => ?_
   refine i6 ad Tryz.sizeOf49 (vs := (g8 g)) (cs' := (g8 g)) rfl rfl (nb rfl) rfl rfl fun au j av => ?_
   refine g6 (lW Tryz.isAgg49 Tryz.sizeOf49 rfl (j.bring 1)) (g6 (lW Tryz.isAgg49 Tryz.sizeOf49 rfl j) ?_)
   refine g9 Tryz.call96 h j ?_
   rintro _ o _ aw p _ _ ⟨ax, rfl, rfl, h⟩
   refine a7 (T2 _) ?_
   refine p7 h (fun _ h => ?_) (fun _ h => ?_)
   ·exact hR _ o _ _ p.drop.drop ⟨false, rfl, rfl, h⟩
   ·refine a7 pAd ?_
    exact hn2 _ _ _ (hm2 _ _ h).2 ⟨(IntKind.wrap .i64 (H8 + 1)), o, rfl, rfl, p.drop.drop, (hm2 _ _ h).1⟩
  ·exact hx1 _ _ (hj1 H _ I h)
def a4i (x0 : l7) (x1 : l7) (H : Hp) (K : Bool → Hp → Prop) : Prop :=
 a1j x0 H (fun a c =>
 TG (a = true) (a1j x1 c) false c (fun (b : Bool) (d : Hp) =>
 TG ((a && b) = true) (E1 x0.a1U x1.a1U d) false d (fun (e : Bool) (f : Hp) =>
 TG (((a && b) && e) = true) (d6 x0.a0J x1.a0J f) false f (fun (g : Bool) (i : Hp) =>
 K (((a && b) && e) && g) i))))
theorem a9q (x0 x1) {H K} (h : a4i x0 x1 H K) : a2r x0 x1 H K := by
 refine Ct.of fun w0 w ps0 H0 R E I hR => c3K ?_
 unfold a4i at h
 unfold F19
 refine T7 I (cs := (l9 x0)) rfl fun u am al an => ?_
 refine T7 al (cs := (l9 x1)) rfl fun v ao z ap => ?_
 refine g6 (lW Tryz.isAgg26 Tryz.sizeOf26 rfl (z.bring 1)) ?_
 refine g9 Tryz.call45 h z ?_
 rintro _ aa _ ab s _ _ ⟨f, rfl, rfl, h⟩
 refine g6 (Ld.g fun a => by exact (lW Tryz.isAgg26 Tryz.sizeOf26 rfl s)) ?_
 refine G6 (D := fun ac q => ∃ (b : Bool) (m : Hp) , ac = (gv f true (vB b)) ∧ (Inv w0 ps0 H0 m [bx v 26 (l9 x1), bx u 26 (l9 x0)] q) ∧ (∀ i, i < ab.heap.size → ¬ inF [] i → q.heap[i]? = ab.heap[i]?) ∧ Hle aa m ∧ (TG ((f && b) = true) (E1 x0.a1U x1.a1U m) false m (fun (c : Bool) (d : Hp) =>
 TG (((f && b) && c) = true) (d6 x0.a0J x1.a0J d) false d (fun (j : Bool) (e : Hp) =>
 K (((f && b) && c) && j) e)))) (fun n => ?_) (fun n => ?_) ?_
 ·replace h := h.1 n
  have a := n
  simp only [m1 a]
  refine g9 Tryz.call45 h s ?_
  rintro _ m _ q k ad ae ⟨b, rfl, rfl, h⟩
  exact ⟨b, m, by rfl, k, ae, ad, h⟩
 ·exact ⟨false, aa, by rw [R8 n], s, fun _ _ _ => rfl, Hle.refl _, h.2 n⟩
 ·clear h
  rintro ac q ⟨b, m, rfl, k, ae, ad, h⟩
  refine a7 (C1 _ _) ?_
  refine a7 (Pu.g fun a => by with_reducible exact a4E) ?_
  refine g6 (Ld.g fun a => by simp only [m1 a]; exact (l1 Tryz.isAgg23 (k.bring 1) rfl)) ?_
  refine a7 (Pu.g fun a => by with_reducible exact a4E) ?_
  refine g6 (Ld.g fun a => by simp only [m1 a]; exact (l1 Tryz.isAgg23 k rfl)) ?_
  refine G6 (D := fun af r => ∃ (c : Bool) (d : Hp) , af = (gv (f && b) true (vB c)) ∧ (Inv w0 ps0 H0 d [bx v 26 (l9 x1), bx u 26 (l9 x0)] r) ∧ (∀ i, i < q.heap.size → ¬ inF [] i → r.heap[i]? = q.heap[i]?) ∧ Hle m d ∧ (TG (((f && b) && c) = true) (d6 x0.a0J x1.a0J d) false d (fun (j : Bool) (e : Hp) =>
 K (((f && b) && c) && j) e))) (fun o => ?_) (fun o => ?_) ?_
  ·replace h := h.1 o
   have a := o
   simp only [m1 a]
   refine g9 Tryz.call46 h k ?_
   rintro _ d _ r l ag ah ⟨c, rfl, rfl, h⟩
   exact ⟨c, d, by rfl, l, ah, ag, h⟩
  ·exact ⟨false, m, by rw [R8 o], k, fun _ _ _ => rfl, Hle.refl _, h.2 o⟩
  ·clear h
   rintro af r ⟨c, d, rfl, l, ah, ag, h⟩
   refine a7 (C1 _ _) ?_
   refine a7 (Pu.g fun a => by with_reducible exact a2M) ?_
   refine g6 (Ld.g fun a => by simp only [m1 a]; exact (l1 Tryz.isAgg24 (l.bring 1) rfl)) ?_
   refine a7 (Pu.g fun a => by with_reducible exact a2M) ?_
   refine g6 (Ld.g fun a => by simp only [m1 a]; exact (l1 Tryz.isAgg24 l rfl)) ?_
   refine G6 (D := fun ai t => ∃ (j : Bool) (e : Hp) , ai = (gv ((f && b) && c) true (vB j)) ∧ (Inv w0 ps0 H0 e [bx v 26 (l9 x1), bx u 26 (l9 x0)] t) ∧ (∀ i, i < r.heap.size → ¬ inF [] i → t.heap[i]? = r.heap[i]?) ∧ Hle d e ∧ (K (((f && b) && c) && j) e)) (fun p => ?_) (fun p => ?_) ?_
   ·replace h := h.1 p
    have a := p
    simp only [m1 a]
    refine g9 Tryz.call47 h l ?_
    rintro _ e _ t y aj ak ⟨j, rfl, rfl, h⟩
    exact ⟨j, e, by rfl, y, ak, aj, h⟩
   ·exact ⟨false, d, by rw [R8 p], l, fun _ _ _ => rfl, Hle.refl _, h.2 p⟩
   ·clear h
    rintro ai t ⟨j, e, rfl, y, ak, aj, h⟩
    refine a7 (C1 _ _) ?_
    exact hR _ e _ _ y.drop.drop ⟨(((f && b) && c) && j), rfl, rfl, h⟩
def a4w (x0 : a8) (x1 : ByteArray) (H : Hp) (K : Bool → Hp → Prop) : Prop :=
 B1 x0 H (fun a b =>
 K (((decide (a.c8 = 3)) || (decide (a.c8 = 4))) && (decide (a.B6 = x1))) b)
theorem a7y (x0 x1) {H K} (h : a4w x0 x1 H K) : i7 x0 x1 H K := by
 intro g0
 refine Ct.of fun w0 w ps0 H0 R E I hR => c3Z ?_
 unfold a4w at h
 unfold F53
 refine g9 Tryz.call51 (h g0) I ?_
 rintro _ d _ i e _ _ ⟨c, rfl, rfl, h⟩
 refine p6 e Tryz.zeroValue103 (cs := [(vi 0), (eS), (vi 0), (vi 0), (vi 0)]) rfl fun j k f l => ?_
 refine i6 f Tryz.sizeOf103 (vs := (f9 c)) (cs' := (f9 c)) rfl rfl (nb rfl) rfl rfl fun m b n => ?_
 refine a7 a0L (g6 (l1 Tryz.isAgg3 b rfl) (a7 pEq ?_))
 refine a7 (Pu.g fun a => by with_reducible exact a0L) ?_
 refine g6 (Ld.g fun a => by simp only [m1 a]; exact (l1 Tryz.isAgg3 b rfl)) ?_
 refine a7 (Pu.g fun a => by simp only [m1 a]; with_reducible exact pEq) ?_
 refine a7 (P6 _ _) ?_
 refine a7 (Pu.g fun a => by with_reducible exact S3) ?_
 refine g6 (Ld.g fun a => by simp only [m1 a]; exact (l1 Tryz.isAgg9 b rfl)) ?_
 simp only [E5]
 refine a7 (Pu.g fun a => by simp only [m1 a]; with_reducible exact (R9 _ _ _ _ _)) ?_
 refine a7 (C1 _ _) ?_
 exact hR _ d _ _ b.drop ⟨(((decide (c.c8 = 3)) || (decide (c.c8 = 4))) && (decide (c.B6 = x1))), rfl, rfl, h⟩
def a2e (x0 : a8) (H : Hp) (K : Bool → Hp → Prop) : Prop :=
 B1 x0 H (fun a e =>
 TG ((decide (a.c8 = 1)) = false) (i7 x0 ⟨#[105, 102]⟩ e) false e (fun (b : Bool) (f : Hp) =>
 TG (((decide (a.c8 = 1)) || b) = false) (i7 x0 ⟨#[119, 104, 105, 108, 101]⟩ f) false f (fun (c : Bool) (g : Hp) =>
 TG ((((decide (a.c8 = 1)) || b) || c) = false) (i7 x0 ⟨#[97, 115, 115, 101, 114, 116]⟩ g) false g (fun (d : Bool) (i : Hp) =>
 TG (((((decide (a.c8 = 1)) || b) || c) || d) = false) (i7 x0 ⟨#[97, 115, 115, 117, 109, 101]⟩ i) false i (fun (j : Bool) (k : Hp) =>
 TG ((((((decide (a.c8 = 1)) || b) || c) || d) || j) = false) (i7 x0 ⟨#[115, 107, 105, 112]⟩ k) false k (fun (l : Bool) (m : Hp) =>
 K ((((((decide (a.c8 = 1)) || b) || c) || d) || j) || l) m))))))
theorem a5l (x0) {H K} (h : a2e x0 H K) : N8 x0 H K := by
 intro g0
 refine Ct.of fun w0 w ps0 H0 R E I hR => c4c ?_
 unfold a2e at h
 unfold F56
 refine g9 Tryz.call51 (h g0) I ?_
 rintro _ af _ ag ah _ _ ⟨c, rfl, rfl, h⟩
 refine a7 a5E (a7 pEq ?_)
 simp only [E5]
 refine G6 (D := fun ai t => ∃ (a : Bool) (n : Hp) , ai = (gv (decide (c.c8 = 1)) false (vB a)) ∧ (Inv w0 ps0 H0 n [bx g0 101 (b7 x0)] t) ∧ (∀ i, i < ag.heap.size → ¬ inF [bx g0 101 (b7 x0)] i → t.heap[i]? = ag.heap[i]?) ∧ Hle af n ∧ (TG (((decide (c.c8 = 1)) || a) = false) (i7 x0 ⟨#[119, 104, 105, 108, 101]⟩ n) false n (fun (b : Bool) (m : Hp) =>
 TG ((((decide (c.c8 = 1)) || a) || b) = false) (i7 x0 ⟨#[97, 115, 115, 101, 114, 116]⟩ m) false m (fun (d : Bool) (g : Hp) =>
 TG (((((decide (c.c8 = 1)) || a) || b) || d) = false) (i7 x0 ⟨#[97, 115, 115, 117, 109, 101]⟩ g) false g (fun (e : Bool) (f : Hp) =>
 TG ((((((decide (c.c8 = 1)) || a) || b) || d) || e) = false) (i7 x0 ⟨#[115, 107, 105, 112]⟩ f) false f (fun (k : Bool) (j : Hp) =>
 K ((((((decide (c.c8 = 1)) || a) || b) || d) || e) || k) j)))))) (fun o => ?_) (fun o => ?_) ?_
 ·replace h := h.1 o
  have l := o
  simp only [m1 l]
  refine g9 Tryz.call53 (h g0) ah ?_
  rintro _ n _ t z aj ak ⟨a, rfl, rfl, h⟩
  exact ⟨a, n, by rfl, z, ak, aj, h⟩
 ·exact ⟨false, af, by rw [R8 o], ah, fun _ _ _ => rfl, Hle.refl _, h.2 o⟩
 ·clear h
  rintro ai t ⟨a, n, rfl, z, ak, aj, h⟩
  refine a7 (P6 _ _) ?_
  simp only [E5]
  refine G6 (D := fun al u => ∃ (b : Bool) (m : Hp) , al = (gv ((decide (c.c8 = 1)) || a) false (vB b)) ∧ (Inv w0 ps0 H0 m [bx g0 101 (b7 x0)] u) ∧ (∀ i, i < t.heap.size → ¬ inF [bx g0 101 (b7 x0)] i → u.heap[i]? = t.heap[i]?) ∧ Hle n m ∧ (TG ((((decide (c.c8 = 1)) || a) || b) = false) (i7 x0 ⟨#[97, 115, 115, 101, 114, 116]⟩ m) false m (fun (d : Bool) (g : Hp) =>
 TG (((((decide (c.c8 = 1)) || a) || b) || d) = false) (i7 x0 ⟨#[97, 115, 115, 117, 109, 101]⟩ g) false g (fun (e : Bool) (f : Hp) =>
 TG ((((((decide (c.c8 = 1)) || a) || b) || d) || e) = false) (i7 x0 ⟨#[115, 107, 105, 112]⟩ f) false f (fun (k : Bool) (j : Hp) =>
 K ((((((decide (c.c8 = 1)) || a) || b) || d) || e) || k) j))))) (fun p => ?_) (fun p => ?_) ?_
  ·replace h := h.1 p
   have l := p
   simp only [m1 l]
   refine g9 Tryz.call53 (h g0) z ?_
   rintro _ m _ u aa am an ⟨b, rfl, rfl, h⟩
   exact ⟨b, m, by rfl, aa, an, am, h⟩
  ·exact ⟨false, n, by rw [R8 p], z, fun _ _ _ => rfl, Hle.refl _, h.2 p⟩
  ·clear h
   rintro al u ⟨b, m, rfl, aa, an, am, h⟩
   refine a7 (P6 _ _) ?_
   simp only [E5]
   refine G6 (D := fun ao v => ∃ (d : Bool) (g : Hp) , ao = (gv (((decide (c.c8 = 1)) || a) || b) false (vB d)) ∧ (Inv w0 ps0 H0 g [bx g0 101 (b7 x0)] v) ∧ (∀ i, i < u.heap.size → ¬ inF [bx g0 101 (b7 x0)] i → v.heap[i]? = u.heap[i]?) ∧ Hle m g ∧ (TG (((((decide (c.c8 = 1)) || a) || b) || d) = false) (i7 x0 ⟨#[97, 115, 115, 117, 109, 101]⟩ g) false g (fun (e : Bool) (f : Hp) =>
 TG ((((((decide (c.c8 = 1)) || a) || b) || d) || e) = false) (i7 x0 ⟨#[115, 107, 105, 112]⟩ f) false f (fun (k : Bool) (j : Hp) =>
 K ((((((decide (c.c8 = 1)) || a) || b) || d) || e) || k) j)))) (fun q => ?_) (fun q => ?_) ?_
   ·replace h := h.1 q
    have l := q
    simp only [m1 l]
    refine g9 Tryz.call53 (h g0) aa ?_
    rintro _ g _ v ab ap aq ⟨d, rfl, rfl, h⟩
    exact ⟨d, g, by rfl, ab, aq, ap, h⟩
   ·exact ⟨false, m, by rw [R8 q], aa, fun _ _ _ => rfl, Hle.refl _, h.2 q⟩
   ·clear h
    rintro ao v ⟨d, g, rfl, ab, aq, ap, h⟩
    refine a7 (P6 _ _) ?_
    simp only [E5]
    refine G6 (D := fun ar y => ∃ (e : Bool) (f : Hp) , ar = (gv ((((decide (c.c8 = 1)) || a) || b) || d) false (vB e)) ∧ (Inv w0 ps0 H0 f [bx g0 101 (b7 x0)] y) ∧ (∀ i, i < v.heap.size → ¬ inF [bx g0 101 (b7 x0)] i → y.heap[i]? = v.heap[i]?) ∧ Hle g f ∧ (TG ((((((decide (c.c8 = 1)) || a) || b) || d) || e) = false) (i7 x0 ⟨#[115, 107, 105, 112]⟩ f) false f (fun (k : Bool) (j : Hp) =>
 K ((((((decide (c.c8 = 1)) || a) || b) || d) || e) || k) j))) (fun r => ?_) (fun r => ?_) ?_
    ·replace h := h.1 r
     have l := r
     simp only [m1 l]
     refine g9 Tryz.call53 (h g0) ab ?_
     rintro _ f _ y ac au av ⟨e, rfl, rfl, h⟩
     exact ⟨e, f, by rfl, ac, av, au, h⟩
    ·exact ⟨false, g, by rw [R8 r], ab, fun _ _ _ => rfl, Hle.refl _, h.2 r⟩
    ·clear h
     rintro ar y ⟨e, f, rfl, ac, av, au, h⟩
     refine a7 (P6 _ _) ?_
     simp only [E5]
     refine G6 (D := fun aw ad => ∃ (k : Bool) (j : Hp) , aw = (gv (((((decide (c.c8 = 1)) || a) || b) || d) || e) false (vB k)) ∧ (Inv w0 ps0 H0 j [bx g0 101 (b7 x0)] ad) ∧ (∀ i, i < y.heap.size → ¬ inF [bx g0 101 (b7 x0)] i → ad.heap[i]? = y.heap[i]?) ∧ Hle f j ∧ (K ((((((decide (c.c8 = 1)) || a) || b) || d) || e) || k) j)) (fun s => ?_) (fun s => ?_) ?_
     ·replace h := h.1 s
      have l := s
      simp only [m1 l]
      refine g9 Tryz.call53 (h g0) ac ?_
      rintro _ j _ ad ae ax ay ⟨k, rfl, rfl, h⟩
      exact ⟨k, j, by rfl, ae, ay, ax, h⟩
     ·exact ⟨false, f, by rw [R8 s], ac, fun _ _ _ => rfl, Hle.refl _, h.2 s⟩
     ·clear h
      rintro aw ad ⟨k, j, rfl, ae, ay, ax, h⟩
      refine a7 (P6 _ _) ?_
      exact hR _ j _ _ ae ⟨((((((decide (c.c8 = 1)) || a) || b) || d) || e) || k), rfl, rfl, h⟩
def a3Z [PanQ] (x0 : a8) (H : Hp) (K : Hp → Prop) : Prop :=
 B1 x0 H (fun a b =>
 PanQ.q (Value.iface 98 (Value.agg #[(vi a.fAt.D9), (vi a.fAt.L6), (vi 40)])))
theorem a6R [PanQ] (x0 : a8) {H : Hp} {K : Hp → Prop} (h : a3Z x0 H K) : D8 x0 H K := by
 intro g0
 refine Ct.ofE fun w0 w ps0 H0 R E I hR hE => c3Y ?_
 unfold a3Z at h
 unfold F52
 refine g9 Tryz.call51 (h g0) I ?_
 rintro _ b _ c a _ _ ⟨d, rfl, rfl, h⟩
 refine a7 a9A (a7 (a9k _ _ _) (a7 (b0D _ _ _) ?_))
 exact a7O (hE _ _ _ _ a ⟨_, rfl, h⟩)
def a4k (x0 : a8) (x1 : ByteArray) (H : Hp) (K : Bool → a8 → Hp → Prop) : Prop :=
 i7 x0 x1 H (fun a b =>
 ((!a) = true →
 K false x0 b) ∧
 ((!a) = false →
 K true (a8.mk x0.fl (IntKind.wrap .i64 (x0.fn + 1))) b))
theorem a7f (x0 x1) {H K} (h : a4k x0 x1 H K) : u0 x0 x1 H K := by
 intro g0
 refine Ct.of fun w0 w ps0 H0 R E I hR => c1I ?_
 unfold a4k at h
 unfold c4E
 refine g9 Tryz.call53 (h g0) I ?_
 rintro _ b _ d a _ _ ⟨e, rfl, rfl, h⟩
 refine a7 (T2 _) ?_
 refine p7 h (fun _ h => ?_) (fun _ h => ?_)
 ·exact hR _ b _ _ a ⟨false, x0, rfl, rfl, h⟩
 ·refine a7 (u2 _) (a7 a2W (g6 (l1 Tryz.isAgg3 a rfl) (a7 pAd (a7 (u2 _) ?_))))
  refine a7 a2W ?_
  refine i6 a Tryz.sizeOf3 (vs := [(vi (IntKind.wrap .i64 (x0.fn + 1)))]) (cs' := [(vs x0.fl), (vi (IntKind.wrap .i64 (x0.fn + 1)))]) rfl rfl (nb rfl) rfl rfl fun f c g => ?_
  exact hR _ b _ _ c ⟨true, (a8.mk x0.fl (IntKind.wrap .i64 (x0.fn + 1))), rfl, rfl, h⟩
def a2f (x0 : a8) (H : Hp) (K : Bool → Hp → Prop) : Prop :=
 B1 x0 H (fun a c =>
 TG (((decide (a.c8 = 1)) || (decide (a.c8 = 2))) = false) (i7 x0 ⟨#[45]⟩ c) false c (fun (b : Bool) (d : Hp) =>
 TG ((((decide (a.c8 = 1)) || (decide (a.c8 = 2))) || b) = false) (i7 x0 ⟨#[105, 110, 112, 117, 116]⟩ d) false d (fun (e : Bool) (f : Hp) =>
 TG (((((decide (a.c8 = 1)) || (decide (a.c8 = 2))) || b) || e) = false) (i7 x0 ⟨#[40]⟩ f) false f (fun (g : Bool) (i : Hp) =>
 K (((((decide (a.c8 = 1)) || (decide (a.c8 = 2))) || b) || e) || g) i))))
theorem a5m (x0) {H K} (h : a2f x0 H K) : G3 x0 H K := by
 intro g0
 refine Ct.of fun w0 w ps0 H0 R E I hR => c2c ?_
 unfold a2f at h
 unfold c4Y
 refine g9 Tryz.call51 (h g0) I ?_
 rintro _ u _ v y _ _ ⟨b, rfl, rfl, h⟩
 refine a7 a5E (a7 pEq ?_)
 simp only [E5]
 refine a7 (Pu.g fun a => by simp only [m1 a]; with_reducible exact pEq) ?_
 refine a7 (P6 _ _) ?_
 simp only [E5]
 refine G6 (D := fun z o => ∃ (c : Bool) (k : Hp) , z = (gv ((decide (b.c8 = 1)) || (decide (b.c8 = 2))) false (vB c)) ∧ (Inv w0 ps0 H0 k [bx g0 101 (b7 x0)] o) ∧ (∀ i, i < v.heap.size → ¬ inF [bx g0 101 (b7 x0)] i → o.heap[i]? = v.heap[i]?) ∧ Hle u k ∧ (TG ((((decide (b.c8 = 1)) || (decide (b.c8 = 2))) || c) = false) (i7 x0 ⟨#[105, 110, 112, 117, 116]⟩ k) false k (fun (d : Bool) (e : Hp) =>
 TG (((((decide (b.c8 = 1)) || (decide (b.c8 = 2))) || c) || d) = false) (i7 x0 ⟨#[40]⟩ e) false e (fun (j : Bool) (f : Hp) =>
 K (((((decide (b.c8 = 1)) || (decide (b.c8 = 2))) || c) || d) || j) f)))) (fun l => ?_) (fun l => ?_) ?_
 ·replace h := h.1 l
  have a := l
  simp only [m1 a]
  refine g9 Tryz.call53 (h g0) y ?_
  rintro _ k _ o q aa ab ⟨c, rfl, rfl, h⟩
  exact ⟨c, k, by rfl, q, ab, aa, h⟩
 ·exact ⟨false, u, by rw [R8 l], y, fun _ _ _ => rfl, Hle.refl _, h.2 l⟩
 ·clear h
  rintro z o ⟨c, k, rfl, q, ab, aa, h⟩
  refine a7 (P6 _ _) ?_
  simp only [E5]
  refine G6 (D := fun ac p => ∃ (d : Bool) (e : Hp) , ac = (gv (((decide (b.c8 = 1)) || (decide (b.c8 = 2))) || c) false (vB d)) ∧ (Inv w0 ps0 H0 e [bx g0 101 (b7 x0)] p) ∧ (∀ i, i < o.heap.size → ¬ inF [bx g0 101 (b7 x0)] i → p.heap[i]? = o.heap[i]?) ∧ Hle k e ∧ (TG (((((decide (b.c8 = 1)) || (decide (b.c8 = 2))) || c) || d) = false) (i7 x0 ⟨#[40]⟩ e) false e (fun (j : Bool) (f : Hp) =>
 K (((((decide (b.c8 = 1)) || (decide (b.c8 = 2))) || c) || d) || j) f))) (fun m => ?_) (fun m => ?_) ?_
  ·replace h := h.1 m
   have a := m
   simp only [m1 a]
   refine g9 Tryz.call53 (h g0) q ?_
   rintro _ e _ p r ad ae ⟨d, rfl, rfl, h⟩
   exact ⟨d, e, by rfl, r, ae, ad, h⟩
  ·exact ⟨false, k, by rw [R8 m], q, fun _ _ _ => rfl, Hle.refl _, h.2 m⟩
  ·clear h
   rintro ac p ⟨d, e, rfl, r, ae, ad, h⟩
   refine a7 (P6 _ _) ?_
   simp only [E5]
   refine G6 (D := fun af s => ∃ (j : Bool) (f : Hp) , af = (gv ((((decide (b.c8 = 1)) || (decide (b.c8 = 2))) || c) || d) false (vB j)) ∧ (Inv w0 ps0 H0 f [bx g0 101 (b7 x0)] s) ∧ (∀ i, i < p.heap.size → ¬ inF [bx g0 101 (b7 x0)] i → s.heap[i]? = p.heap[i]?) ∧ Hle e f ∧ (K (((((decide (b.c8 = 1)) || (decide (b.c8 = 2))) || c) || d) || j) f)) (fun n => ?_) (fun n => ?_) ?_
   ·replace h := h.1 n
    have a := n
    simp only [m1 a]
    refine g9 Tryz.call53 (h g0) r ?_
    rintro _ f _ s t ag ah ⟨j, rfl, rfl, h⟩
    exact ⟨j, f, by rfl, t, ah, ag, h⟩
   ·exact ⟨false, e, by rw [R8 n], r, fun _ _ _ => rfl, Hle.refl _, h.2 n⟩
   ·clear h
    rintro af s ⟨j, f, rfl, t, ah, ag, h⟩
    refine a7 (P6 _ _) ?_
    exact hR _ f _ _ t ⟨(((((decide (b.c8 = 1)) || (decide (b.c8 = 2))) || c) || d) || j), rfl, rfl, h⟩
def a1e [PanQ] (x0 : a8) (x1 : Int) (x2 : ByteArray) (H : Hp) (K : b9 → a8 → Hp → Prop) : Prop :=
 G3 x0 H (fun a b =>
 C2 x0 (IntKind.wrap .i64 (x1 + 1)) a b (fun c =>
 O8 x0 (IntKind.wrap .i64 (x1 + 1)) c (fun d e f =>
 B8 e x2 f (fun g i =>
 K d g i))))
theorem a6G [PanQ] (x0 : a8) (x1 : Int) (x2 : ByteArray) {H : Hp} {K : b9 → a8 → Hp → Prop} (h : a1e x0 x1 x2 H K) : S7 x0 x1 x2 H K := by
 intro g0
 refine Ct.ofE fun w0 w ps0 H0 R E I hR hE => c1J ?_
 unfold a1e at h
 unfold c4F
 refine p6 I Tryz.zeroValue40 (cs := [(vi 0), (vi 0), (eS), (nS)]) rfl fun m n d p => ?_
 refine a7 pAd ?_
 refine g9 Tryz.call141 (h g0) (d.bring 1) ?_
 rintro _ _ _ q e _ _ ⟨r, rfl, rfl, h⟩
 refine A0 hE Tryz.call55 (h g0) e ?_
 rintro _ _ _ s f _ _ ⟨rfl, rfl, h⟩
 refine a7 pAd ?_
 refine A0 hE Tryz.call35 (h g0) f ?_
 rintro _ _ _ t g _ _ ⟨a, u, rfl, rfl, h⟩
 refine p6 g Tryz.zeroValue40 (cs := [(vi 0), (vi 0), (eS), (nS)]) rfl fun v y i z => ?_
 refine i6 i Tryz.sizeOf40 (vs := (d9 a)) (cs' := (d9 a)) rfl rfl (nb rfl) rfl rfl fun aa j ab => ?_
 refine A0 hE Tryz.call103 (h g0) (j.bring 1) ?_
 rintro _ k _ ac b _ _ ⟨l, rfl, rfl, h⟩
 refine g6 (lW Tryz.isAgg40 Tryz.sizeOf40 rfl (b.bring 1)) ?_
 refine i6 (b.bring 2) Tryz.sizeOf40 (vs := (d9 a)) (cs' := (d9 a)) rfl rfl (nb rfl) rfl rfl fun ad c ae => ?_
 refine A5 Tryz.isAgg40 Tryz.sizeOf40 rfl (c.at1 (o := 0) (vs := (d9 a)) (nb rfl) rfl) ?_
 exact hR _ k _ _ (c.drop.bring 1).drop ⟨a, l, rfl, rfl, h⟩
def a3q (x0 : Int) (H : Hp) (K : Bool → Hp → Prop) : Prop :=
 K (!decide (x0 = 10)) H
theorem a6i (x0) {H K} (h : a3q x0 H K) : a0w x0 H K := by
 refine Ct.of fun w0 w ps0 H0 R E I hR => c1X ?_
 unfold a3q at h
 unfold c4T
 refine a7 pNe ?_
 exact hR _ H _ _ I ⟨(!decide (x0 = 10)), rfl, rfl, h⟩
def a2g (x0 : d7) (a : (List b5)) (H : Hp) (K : d7 → (List b5) → Hp → Prop) : Prop :=
 S1 (s7 x0) a H (fun e f =>
 X7 e f (fun b c d =>
 (b = 10 →
 K (d7.mk x0.fs (IntKind.wrap .i64 (x0.fn + c)) (b8.mk (IntKind.wrap .i64 (x0.fat.D9 + 1)) 1) (Sl.mk none 0 0)) a d) ∧
 (¬ (b = 10) →
 K (d7.mk x0.fs (IntKind.wrap .i64 (x0.fn + c)) (b8.mk x0.fat.D9 (IntKind.wrap .i64 (x0.fat.L6 + 1))) (Sl.mk none 0 0)) a d)))
theorem a7z (x0 c) {H K} (h : a2g x0 c H K) : B3 x0 c H K := by
 intro g0 b d e
 refine Ct.of fun w0 w ps0 H0 R E I hR => c2h ?_
 unfold a2g at h
 unfold c5d
 refine g9 Tryz.call135 (h g0 b d e) ((I.bring 1).bring 1) ?_
 rintro _ n _ o k _ _ ⟨p, rfl, rfl, h⟩
 refine g9 Tryz.call128 h k ?_
 rintro _ g _ q i _ _ ⟨l, a, rfl, rfl, h⟩
 refine a7 (j9 _ _ (Value.int .i32 l) rfl) (a7 (j9 _ _ (vi a) rfl) (a7 (u2 _) (a7 V9 (g6 (l1 Tryz.isAgg3 i rfl) ?_))))
 refine a7 pAd (a7 (u2 _) (a7 V9 ?_))
 refine i6 i Tryz.sizeOf3 (vs := [(vi (IntKind.wrap .i64 (x0.fn + a)))]) (cs' := [(Value.string x0.fs), (vi (IntKind.wrap .i64 (x0.fn + a))), (vi x0.fat.D9), (vi x0.fat.L6), (vs b)]) rfl rfl (nb rfl) rfl rfl fun r j s => ?_
 refine a7 (u2 _) (a7 a4b (a7 b1s (g6 (l1 Tryz.isAgg3 j rfl) (a7 pAd ?_))))
 refine a7 (u2 _) (a7 a4b (a7 b1s ?_))
 refine i6 j Tryz.sizeOf3 (vs := [(vi (IntKind.wrap .i64 (x0.fat.L6 + 1)))]) (cs' := [(Value.string x0.fs), (vi (IntKind.wrap .i64 (x0.fn + a))), (vi x0.fat.D9), (vi (IntKind.wrap .i64 (x0.fat.L6 + 1))), (vs b)]) rfl rfl (nb rfl) rfl rfl fun t f u => ?_
 refine a7 pEq ?_
 refine m6 h (fun _ h => ?_) (fun _ h => ?_)
 ·refine a7 (u2 _) (a7 a4b (a7 b7s (g6 (l1 Tryz.isAgg3 f rfl) (a7 pAd ?_))))
  refine a7 (a9h _ _) (a7 (u2 _) (a7 a4b ?_))
  refine i6 f Tryz.sizeOf28 (vs := [(vi (IntKind.wrap .i64 (x0.fat.D9 + 1))), (vi 1)]) (cs' := [(Value.string x0.fs), (vi (IntKind.wrap .i64 (x0.fn + a))), (vi (IntKind.wrap .i64 (x0.fat.D9 + 1))), (vi 1), (vs b)]) rfl rfl (nb rfl) rfl rfl fun v m y => ?_
  exact hR _ g _ _ ((m.bring 1).bring 1) ⟨(d7.mk x0.fs (IntKind.wrap .i64 (x0.fn + a)) (b8.mk (IntKind.wrap .i64 (x0.fat.D9 + 1)) 1) (Sl.mk none 0 0)), c, b, d, rfl, rfl, e, h⟩
 ·exact hR _ g _ _ ((f.bring 1).bring 1) ⟨(d7.mk x0.fs (IntKind.wrap .i64 (x0.fn + a)) (b8.mk x0.fat.D9 (IntKind.wrap .i64 (x0.fat.L6 + 1))) (Sl.mk none 0 0)), c, b, d, rfl, rfl, e, h⟩
def y6 (a1x : Int) (t7 : ByteArray) (t8 : Int) (y9 : b8) (C3 : (List b5)) (H : Hp) (K : ByteArray → d7 → (List b5) → Hp → Prop) : Prop :=
 (0 : Int) ≤ a1x ∧ (a1x : Int) ≤ t8 ∧ (t8 : Int) ≤ t7.size ∧
 K (t7.extract (a1x : Int).toNat (t8 : Int).toNat) (d7.mk t7 t8 y9 (Sl.mk none 0 0)) C3 H
def A8 (b0V : Int) (H9 : Int) (A4 : Bool) (p8 : ByteArray) (p9 : Int) (o6 : b8) (o7 : (List b5)) (H : Hp) (n2 : (Int × Bool × ByteArray × Int × b8 × (List b5)) → Hp → Prop) (K : ByteArray → d7 → (List b5) → Hp → Prop) : Prop :=
 TG (A4 = true) (a0x H9 H) false H (fun (b : Bool) (c : Hp) =>
 ((A4 && b) = true →
 B3 (d7.mk p8 p9 o6 (Sl.mk none 0 0)) o7 c (fun a d e =>
 z7 (s7 a) d e (fun f g i =>
 n2 (f, g, a.fs, a.fn, a.fat, d) i))) ∧
 ((A4 && b) = false →
 y6 b0V p8 p9 o6 o7 c K))
def L2 (x0 : d7) (a : (List b5)) (H : Hp) (K : ByteArray → d7 → (List b5) → Hp → Prop) : Prop :=
 z7 (s7 x0) a H (fun b c d =>
 TL ((b, c, x0.fs, x0.fn, x0.fat, a) : Int × Bool × ByteArray × Int × b8 × (List b5)) d fun (s : Int × Bool × ByteArray × Int × b8 × (List b5)) H n2 => A8 x0.fn s.1 s.2.1 s.2.2.1 s.2.2.2.1 s.2.2.2.2.1 s.2.2.2.2.2 H n2 K)
theorem a0S (x0 q) {H K} (h : L2 x0 q H K) : E2 x0 q H K := by
 intro g0 y z aa
 refine Ct.of fun w0 w ps0 H0 R E I hR => a9X ?_
 unfold L2 at h
 unfold b4R
 refine a7 (u2 _) (a7 V9 (g6 (l1 Tryz.isAgg3 I rfl) ?_))
 have hj1 : ∀ (t7 : ByteArray) (t8 : Int) (y9 : b8) (C3 : (List b5)) (T1 : Sl) (M5 : Frag) H w (_ : RowL 103 5 f9 T1 C3 M5) (_ : Inv w0 ps0 H0 H [bx g0 155 [(Value.string t7), (vi t8), (vi y9.D9), (vi y9.L6), (vs T1)], M5] w) (_ : y6 x0.fn t7 t8 y9 C3 H K), a4L (Value.pointer (some ⟨g0, 0, none⟩)) (vi x0.fn) w R E := by
  intro t7 t8 y9 C3 T1 M5 H w a2Z I h
  unfold a4L
  intro _
  unfold y6 at h
  refine W4 I fun ax r => ?_
  refine r8 (u2 _) ?_
  refine r8 a5c ?_
  refine r8 (u2 _) ?_
  refine r8 V9 ?_
  refine C4 (l1 Tryz.isAgg9 r rfl) ?_
  refine C4 (l1 Tryz.isAgg3 r rfl) ?_
  obtain ⟨ak, al, am, h⟩ := h
  refine r8 (a8C t7 Tryz.underlying9 ak al am) ?_
  exact hR _ H _ _ ((r.bring 1).bring 1) ⟨(t7.extract (x0.fn : Int).toNat (t8 : Int).toNat), (d7.mk t7 t8 y9 (Sl.mk none 0 0)), C3, T1, M5, rfl, rfl, a2Z, h⟩
 refine z8 fun j1 hx1 => ?_
 refine g9 Tryz.call100 (h g0 y z aa) ((I.bring 1).bring 1) ?_
 rintro _ an _ ay ao _ _ ⟨ab, ac, rfl, rfl, h⟩
 refine a7 (j9 _ _ (Value.int .i32 ab) rfl) (a7 (j9 _ _ (vB ac) rfl) ?_)
 obtain ⟨t, g, ap, aq⟩ := h
 refine G7 (J := fun n l w => ∃ (s : Int × Bool × ByteArray × Int × b8 × (List b5)) (H : Hp) (K4 : Sl) (D7 : Frag) , n = g s ∧ l = (match s with | (H9, A4, p8, p9, o6, o7) => [(Value.int .i32 H9), (vB A4)]) ∧ (match s with | (H9, A4, p8, p9, o6, o7) => RowL 103 5 f9 K4 o7 D7) ∧ (match s with | (H9, A4, p8, p9, o6, o7) => Inv w0 ps0 H0 H [bx g0 155 [(Value.string p8), (vi p9), (vi o6.D9), (vi o6.L6), (vs K4)], D7] w) ∧ t s H) ⟨_, (ab, ac, x0.fs, x0.fn, x0.fat, q), an, y, z, rfl, rfl, aa, ((ao.bring 1).bring 1), ap⟩ ?_
 rintro az ba w next2 ⟨⟨H9, A4, p8, p9, o6, o7⟩, H, K4, D7, rfl, u, Q1, I, ar⟩ hn2
 dsimp only at u I Q1
 simp only [List.map_cons, List.map_nil, List.cons.injEq, and_true] at u
 obtain ⟨e6, e7⟩ := u
 simp only [e6, e7]
 obtain ⟨n2, hm2, h⟩ : ∃ n2 : (Int × Bool × ByteArray × Int × b8 × (List b5)) → Hp → Prop, (∀ s' H', n2 s' H' → t s' H' ∧ g s' < g (H9, A4, p8, p9, o6, o7)) ∧ A8 x0.fn H9 A4 p8 p9 o6 o7 H n2 K := ⟨_, fun _ _ h => h, aq (H9, A4, p8, p9, o6, o7) H (fun s' H' => t s' H' ∧ g s' < g (H9, A4, p8, p9, o6, o7)) ar (fun _ _ a b => ⟨a, b⟩)⟩
 unfold a8p
 unfold A8 at h
 simp only [E5]
 refine G6 (D := fun ad j => ∃ (f : Bool) (c : Hp) , ad = (gv A4 true (vB f)) ∧ (Inv w0 ps0 H0 c [bx g0 155 [(Value.string p8), (vi p9), (vi o6.D9), (vi o6.L6), (vs K4)], D7] j) ∧ (∀ i, i < w.heap.size → ¬ inF [] i → j.heap[i]? = w.heap[i]?) ∧ Hle H c ∧ (((A4 && f) = true →
 B3 (d7.mk p8 p9 o6 (Sl.mk none 0 0)) o7 c (fun (d : d7) (k : (List b5)) (au : Hp) =>
 z7 (s7 d) k au (fun (m : Int) (o : Bool) (v : Hp) =>
 n2 (m, o, d.fs, d.fn, d.fat, k) v))) ∧
 ((A4 && f) = false →
 y6 x0.fn p8 p9 o6 o7 c K))) (fun e => ?_) (fun e => ?_) ?_
 ·replace h := h.1 e
  have ae := e
  simp only [m1 ae]
  refine g9 Tryz.call131 h I ?_
  rintro _ c _ j p af ag ⟨f, rfl, rfl, h⟩
  exact ⟨f, c, by rfl, p, ag, af, h⟩
 ·exact ⟨false, H, by rw [R8 e], I, fun _ _ _ => rfl, Hle.refl _, h.2 e⟩
 ·clear h
  rintro ad j ⟨f, c, rfl, p, ag, af, h⟩
  refine a7 (C1 _ _) ?_
  refine p7 h (fun _ h => ?_) (fun _ h => ?_)
  ·refine g9 Tryz.call152 (h g0 K4 D7 Q1) ((p.bring 1).bring 1) ?_
   rintro _ _ _ bb av _ _ ⟨d, k, ah, ai, rfl, rfl, aj, h⟩
   refine g9 Tryz.call100 (h g0 ah ai aj) ((av.bring 1).bring 1) ?_
   rintro _ v _ bc aw _ _ ⟨m, o, rfl, rfl, h⟩
   refine a7 (j9 _ _ (Value.int .i32 m) rfl) (a7 (j9 _ _ (vB o) rfl) ?_)
   exact hn2 _ _ _ (hm2 _ _ h).2 ⟨(m, o, d.fs, d.fn, d.fat, k), v, ah, ai, rfl, rfl, aj, ((aw.bring 1).bring 1), (hm2 _ _ h).1⟩
  ·exact hx1 _ _ (hj1 p8 p9 o6 o7 K4 D7 c _ Q1 ((p.bring 1).bring 1) h)
def a1C (x0 : d7) (j : (List b5)) (H : Hp) (K : b5 → Int → d7 → (List b5) → Hp → Prop) : Prop :=
 L0 (s7 x0) j H (fun a c d k =>
 a6z a 10 64 k (fun l b m =>
 z7 (s7 c) d m (fun n e f =>
 okI b ∧
 ((!(!isNilI b) && (decide (1 < (a.size : Int)))) = true → (0 : Int) ≤ 0 ∧ 0 < (a.size : Int)) ∧
 TG ((!((!isNilI b) || ((decide (1 < (a.size : Int))) && (decide (((a.get! (0 : Int).toNat).toNat : Int) = 48)))) && e) = true) (R1 n f) 0 f (fun (g : Int) (i : Hp) =>
 ((((!isNilI b) || ((decide (1 < (a.size : Int))) && (decide (((a.get! (0 : Int).toNat).toNat : Int) = 48)))) || (e && (decide (g = 3)))) = true →
 K (b5.mk 2 a 0 (b8.mk 0 0)) 21 (s7 c) d i) ∧
 ((((!isNilI b) || ((decide (1 < (a.size : Int))) && (decide (((a.get! (0 : Int).toNat).toNat : Int) = 48)))) || (e && (decide (g = 3)))) = false →
 K (b5.mk 2 a l (b8.mk 0 0)) 0 (s7 c) d i)))))
theorem a6S (x0 z) {H K} (h : a1C x0 z H K) : a3U x0 z H K := by
 intro g0 aj ak al
 refine Ct.of fun w0 w ps0 H0 R E I hR => c1Z ?_
 unfold a1C at h
 unfold c4V
 refine p6 I Tryz.zeroValue103 (cs := [(vi 0), (eS), (vi 0), (vi 0), (vi 0)]) rfl fun am aw an ax => ?_
 refine g9 Tryz.call133 (h g0 aj ak al) ((an.bring 2).bring 2) ?_
 rintro _ _ _ ay ao _ _ ⟨c, n, q, r, s, rfl, rfl, y, h⟩
 refine a7 (a4J _ _) ?_
 refine p6 ao Tryz.zeroValue103 (cs := [(vi 0), (eS), (vi 0), (vi 0), (vi 0)]) rfl fun ap az aq ba => ?_
 refine i6 aq Tryz.sizeOf103 (vs := [(vi 2), (Value.string c), (vi 0), (vi 0), (vi 0)]) (cs' := [(vi 2), (Value.string c), (vi 0), (vi 0), (vi 0)]) rfl rfl (nb rfl) rfl rfl fun bb aa bc => ?_
 refine a7 S3 (g6 (l1 Tryz.isAgg9 aa rfl) ?_)
 refine g9 Tryz.call158 h aa ?_
 rintro _ _ _ bd ar _ _ ⟨f, t, rfl, rfl, h⟩
 refine a7 (j9 _ _ (vi f) rfl) (a7 (j9 _ _ t rfl) ?_)
 refine g9 Tryz.call100 (h g0 r s y) ((ar.bring 2).bring 2) ?_
 rintro _ ab _ ac j _ _ ⟨au, u, rfl, rfl, h⟩
 refine a7 (j9 _ _ (Value.int .i32 au) rfl) (a7 (j9 _ _ (vB u) rfl) ?_)
 obtain ⟨av, h⟩ := h
 refine a7 (b7u _ av) ?_
 refine a7 (Pu.g fun a => by with_reducible exact S3) ?_
 refine g6 (Ld.g fun a => by simp only [m1 a]; exact (l1 Tryz.isAgg9 (j.bring 2) rfl)) ?_
 refine a7 (Pu.g fun a => by simp only [m1 a]; with_reducible exact (a5i _)) ?_
 refine a7 (Pu.g fun a => by simp only [m1 a]; with_reducible exact pGt) ?_
 simp only [E5, a9S]
 refine a7 (Pu.e (a0t _ _ _) (Pu.g fun hb => by obtain ⟨a, b⟩ := a3A hb; with_reducible exact S3)) ?_
 refine g6 (Ld.e (a0t _ _ _) (Ld.g fun hb => by obtain ⟨a, b⟩ := a3A hb; simp only [m1 hb]; exact (l1 Tryz.isAgg9 (j.bring 2) rfl))) ?_
 obtain ⟨d, h⟩ := h
 refine a7 (Pu.e (a0t _ _ _) (Pu.g fun hb => by obtain ⟨a, b⟩ := a3A hb; simp only [m1 hb]; with_reducible exact (c1y _ _ _ (d hb).1 (d hb).2))) ?_
 refine a7 (Pu.e (a0t _ _ _) (Pu.g fun hb => by obtain ⟨a, b⟩ := a3A hb; simp only [m1 hb]; with_reducible exact pEq)) ?_
 refine a7 (Pu.g fun a => by simp only [m1 a, a9y a]; with_reducible exact (C1 _ _)) ?_
 refine a7 (P6 _ _) ?_
 simp only [E5, a9S, b8i]
 refine b7m (a0t _ _ _) ?_
 refine G6 (D := fun ad v => ∃ (m : Int) (k : Hp) , ad = (gv (!((!isNilI t) || ((decide (1 < (c.size : Int))) && (decide (((c.get! (0 : Int).toNat).toNat : Int) = 48)))) && u) true (vi m)) ∧ (Inv w0 ps0 H0 k [bx g0 155 (t6 n r), s, bx ap 103 [(vi 2), (Value.string c), (vi 0), (vi 0), (vi 0)], bx am 103 [(vi 0), (eS), (vi 0), (vi 0), (vi 0)]] v) ∧ (∀ i, i < ac.heap.size → ¬ inF [] i → v.heap[i]? = ac.heap[i]?) ∧ Hle ab k ∧ (((((!isNilI t) || ((decide (1 < (c.size : Int))) && (decide (((c.get! (0 : Int).toNat).toNat : Int) = 48)))) || (u && (decide (m = 3)))) = true →
 K (b5.mk 2 c 0 (b8.mk 0 0)) 21 (s7 n) q k) ∧
 ((((!isNilI t) || ((decide (1 < (c.size : Int))) && (decide (((c.get! (0 : Int).toNat).toNat : Int) = 48)))) || (u && (decide (m = 3)))) = false →
 K (b5.mk 2 c f (b8.mk 0 0)) 0 (s7 n) q k))) (fun l => ?_) (fun l => ?_) ?_
 ·replace h := h.1 l
  obtain ⟨a, b⟩ := a3A l
  simp only [m1 l]
  refine g9 Tryz.call132 h j ?_
  rintro _ k _ v p ae af ⟨m, rfl, rfl, h⟩
  exact ⟨m, k, by rfl, p, af, ae, h⟩
 ·exact ⟨0, ab, by rw [R8 l], j, fun _ _ _ => rfl, Hle.refl _, h.2 l⟩
 ·clear h
  rintro ad v ⟨m, k, rfl, p, af, ae, h⟩
  refine a7 (Pu.e (a0t _ _ _) (Pu.g fun hb => by obtain ⟨a, b⟩ := a3A hb; simp only [m1 hb]; with_reducible exact pEq)) ?_
  refine a7 (Pu.g fun a => by simp only [m1 a, a9y a]; with_reducible exact (C1 _ _)) ?_
  refine a7 (P6 _ _) ?_
  refine p7 h (fun _ h => ?_) (fun _ h => ?_)
  ·refine g6 (ldA Tryz.isAgg103 Tryz.sizeOf103 rfl ((p.bring 2).at1 (o := 0) (vs := [(vi 2), (Value.string c), (vi 0), (vi 0), (vi 0)]) (nb rfl) rfl)) ?_
   refine i6 (p.bring 3) Tryz.sizeOf103 (vs := [(vi 2), (Value.string c), (vi 0), (vi 0), (vi 0)]) (cs' := [(vi 2), (Value.string c), (vi 0), (vi 0), (vi 0)]) rfl rfl (nb rfl) rfl rfl fun be ag bf => ?_
   refine A5 Tryz.isAgg103 Tryz.sizeOf103 rfl (ag.at1 (o := 0) (vs := [(vi 2), (Value.string c), (vi 0), (vi 0), (vi 0)]) (nb rfl) rfl) ?_
   exact hR _ k _ _ (((ag.drop.bring 2).drop.bring 1).bring 1) ⟨(b5.mk 2 c 0 (b8.mk 0 0)), 21, (s7 n), q, r, s, rfl, rfl, y, h⟩
  ·refine a7 a6q ?_
   refine i6 (p.bring 2) Tryz.sizeOf2 (vs := [(vi f)]) (cs' := [(vi 2), (Value.string c), (vi f), (vi 0), (vi 0)]) rfl rfl (nb rfl) rfl rfl fun bg ah bh => ?_
   refine g6 (ldA Tryz.isAgg103 Tryz.sizeOf103 rfl (ah.at1 (o := 0) (vs := [(vi 2), (Value.string c), (vi f), (vi 0), (vi 0)]) (nb rfl) rfl)) ?_
   refine i6 (ah.bring 3) Tryz.sizeOf103 (vs := [(vi 2), (Value.string c), (vi f), (vi 0), (vi 0)]) (cs' := [(vi 2), (Value.string c), (vi f), (vi 0), (vi 0)]) rfl rfl (nb rfl) rfl rfl fun bi ai bj => ?_
   refine A5 Tryz.isAgg103 Tryz.sizeOf103 rfl (ai.at1 (o := 0) (vs := [(vi 2), (Value.string c), (vi f), (vi 0), (vi 0)]) (nb rfl) rfl) ?_
   exact hR _ k _ _ ((ai.drop.drop.bring 1).bring 1) ⟨(b5.mk 2 c f (b8.mk 0 0)), 0, (s7 n), q, r, s, rfl, rfl, y, h⟩
def C5 (U8 : (List d8)) (H : Hp) (K : Sl → Hp → Prop) : Prop :=
 ∀ (E3 : Sl) (a : Hp), Hle H a → SlH a 1 v7 E3 U8 → E3.n ≤ E3.c →
 K E3 a
def C6 (B9 : Sl) (a4u : Int) (y8 : (List d8)) (u1 : Int) (H : Hp) (n2 : ((List d8) × Int) → Hp → Prop) (K : Sl → Hp → Prop) : Prop :=
 (u1 < a4u →
 (0 : Int) ≤ u1 ∧ (u1 : Int) < B9.n ∧ ∃ a : b9, EltH H B9 u1 4 (d9 a) ∧
 a5J a H (fun b c =>
 (y8.length + ([b] : List d8).length) * 17 ≤ 140737488355328 ∧
 n2 ((y8 ++ [b]), (IntKind.wrap .i64 (u1 + 1))) c)) ∧
 (¬ (u1 < a4u) →
 C5 y8 H K)
def K5 (x0 : Sl) (H : Hp) (K : Sl → Hp → Prop) : Prop :=
 TL (([], 0) : (List d8) × Int) H fun (s : (List d8) × Int) H n2 => C6 x0 (x0.n : Int) s.1 s.2 H n2 K
theorem a0C (x0) {H K} (h : K5 x0 H K) : B4 x0 H K := by
 refine Ct.of fun w0 w ps0 H0 R E I hR => c2r ?_
 unfold K5 at h
 unfold c5n
 have hj1 : ∀ (U8 : (List d8)) (E3 : Sl) (Fs5j1 : Frag) H w (_ : RowL 131 1 v7 E3 U8 Fs5j1) (_ : Inv w0 ps0 H0 H [Fs5j1] w) (_ : C5 U8 H K), b2C (vs E3) w R E := by
  intro U8 E3 Fs5j1 H w a7e I h
  unfold b2C
  intro _
  unfold C5 at h
  obtain ⟨k, q, r, t, u⟩ := Inv.freezeC I a7e (by decide)
  replace h := h E3 k r t u
  exact hR _ k _ _ q ⟨E3, rfl, rfl, h⟩
 refine z8 fun j1 hx1 => ?_
 refine a7 (a3v _ _ _) ?_
 obtain ⟨f, d, v, y⟩ := h
 refine G7 (J := fun n l w => ∃ (s : (List d8) × Int) (H : Hp) (V0 : Sl) (Fs5l2 : Frag) , n = d s ∧ l = (match s with | (y8, u1) => [(vs V0), (vi u1)]) ∧ (match s with | (y8, u1) => RowL 131 1 v7 V0 y8 Fs5l2) ∧ (match s with | (y8, u1) => Inv w0 ps0 H0 H [Fs5l2] w) ∧ f s H) ⟨_, ([], 0), H, (Sl.mk none 0 0), [], rfl, rfl, (RowL.nil S0 U2), I.nil, v⟩ ?_
 rintro am an w next2 ⟨⟨y8, u1⟩, H, V0, Fs5l2, rfl, g, a1M, I, z⟩ hn2
 dsimp only at g I a1M
 simp only [List.map_cons, List.map_nil, List.cons.injEq, and_true] at g
 obtain ⟨e5, e10⟩ := g
 simp only [e5, e10]
 obtain ⟨n2, hm2, h⟩ : ∃ n2 : ((List d8) × Int) → Hp → Prop, (∀ s' H', n2 s' H' → f s' H' ∧ d s' < d (y8, u1)) ∧ C6 x0 (x0.n : Int) y8 u1 H n2 K := ⟨_, fun _ _ h => h, y (y8, u1) H (fun s' H' => f s' H' ∧ d s' < d (y8, u1)) z (fun _ _ a b => ⟨a, b⟩)⟩
 unfold b6x
 unfold C6 at h
 refine a7 pLs ?_
 refine m6 h (fun _ h => ?_) (fun _ h => ?_)
 ·obtain ⟨aa, ab, i, j, h⟩ := h
  obtain ⟨ao, ap, ac, j⟩ := j
  refine a7 (a8D ac _ _ _ _ aa ab) (g6 (ldA (vs := (d9 i)) Tryz.isAgg40 Tryz.sizeOf40 rfl (I.atH j)) ?_)
  refine p6 I Tryz.zeroValue40 (cs := [(vi 0), (vi 0), (eS), (nS)]) rfl fun aq ar ad au => ?_
  refine i6 ad Tryz.sizeOf40 (vs := (d9 i)) (cs' := (d9 i)) rfl rfl (nb rfl) rfl rfl fun av m aw => ?_
  refine g6 (lW Tryz.isAgg40 Tryz.sizeOf40 rfl m) ?_
  refine g9 Tryz.call208 h m ?_
  rintro _ ae _ ax af _ _ ⟨o, rfl, rfl, h⟩
  refine W5 (e := 131) (c := v7) (xs := [o]) af (a8F _) rfl rfl S0 U2 (nb rfl) fun ay az ba ag p bb => ?_
  obtain ⟨ah, h⟩ := h
  refine a8n (s := V0) (xs := y8) (p.bring 2) a1M (ag.srcO ((p.bring 2).bring 1)) ah fun ai aj bc ak al bd => ?_
  refine a7 pAd ?_
  exact hn2 _ _ _ (hm2 _ _ h).2 ⟨((y8 ++ [o]), (IntKind.wrap .i64 (u1 + 1))), ae, ai, aj, rfl, rfl, ak, ((al.bring 1).drop.bring 1).drop, (hm2 _ _ h).1⟩
 ·exact hx1 _ _ (hj1 y8 V0 Fs5l2 H _ a1M I h)
def a2h (x0 : N0) (H : Hp) (K : Sl → Hp → Prop) : Prop :=
 B4 x0.u4.P7 H (fun a b =>
 K a b)
theorem a7A (x0) {H K} (h : a2h x0 H K) : a4q x0 H K := by
 refine Ct.of fun w0 w ps0 H0 R E I hR => c2q ?_
 unfold a2h at h
 unfold c5m
 refine T7 I (cs := (d9 x0.u4)) rfl fun e f a g => ?_
 refine a7 Z7 (a7 a6W (g6 (l1 Tryz.isAgg38 a rfl) ?_))
 refine g9 Tryz.call207 h a ?_
 rintro _ b _ i c _ _ ⟨d, rfl, rfl, h⟩
 exact hR _ b _ _ c.drop ⟨d, rfl, rfl, h⟩
def P3 (b0e : Bool) (a : K0) (b : S9) (H : Hp) (K : Bool → Hp → Prop) : Prop :=
 (b0e = true →
 K (decide (a.fexprs = 0 ∧ a.fparts = 2)) H) ∧
 (b0e = false →
 K false H)
def P4 (a4N : Int) (b0f : Bool) (a : K0) (b : S9) (H : Hp) (K : Bool → Hp → Prop) : Prop :=
 (b0f = true →
 K (decide (a.fexprs = 0 ∧ a.fparts = 0)) H) ∧
 (b0f = false →
 (a4N = 4 →
 K (decide (a.fexprs = 0 ∧ a.fparts = 1)) H) ∧
 (¬ (a4N = 4) →
 (a4N = 5 →
 P3 (decide (a4N = 5)) a b H K) ∧
 (¬ (a4N = 5) →
 P3 (decide (a4N = 6)) a b H K)))
def a2F (x0 : S9) (H : Hp) (K : Bool → Hp → Prop) : Prop :=
 (x0.r9.c8 = 3 →
 K (((decide (1 ≤ x0.r9.fOp)) && (decide (x0.r9.fOp ≤ 6))) && (decide ((x0.r9.m7.n : Int) = 2 ∧ (x0.r9.E4.n : Int) = 0))) H) ∧
 (¬ (x0.r9.c8 = 3) →
 (¬ (x0.r9.fOp = 0) →
 K false H) ∧
 (x0.r9.fOp = 0 →
 (x0.r9.c8 = 1 →
 P4 x0.r9.c8 (decide (x0.r9.c8 = 1)) (K0.mk (x0.r9.m7.n : Int) (x0.r9.E4.n : Int)) x0 H K) ∧
 (¬ (x0.r9.c8 = 1) →
 P4 x0.r9.c8 (decide (x0.r9.c8 = 2)) (K0.mk (x0.r9.m7.n : Int) (x0.r9.E4.n : Int)) x0 H K)))
theorem a7L (x0) {H K} (h : a2F x0 H K) : a2z x0 H K := by
 refine Ct.of fun w0 w ps0 H0 R E I hR => c2t ?_
 unfold a2F at h
 unfold c5p
 refine T7 I (cs := (g8 x0.r9)) rfl fun e i d j => ?_
 refine a7 a0M (a7 a7a (g6 (l1 Tryz.isAgg38 d rfl) (a7 (a3v _ _ _) (a7 a0M ?_))))
 refine a7 a6Z (g6 (l1 Tryz.isAgg47 d rfl) (a7 (a5n _ _ _) (a7 (a4K _ _) ?_)))
 refine p6 d Tryz.zeroValue260 (cs := [(vi 0), (vi 0)]) rfl fun c k f l => ?_
 refine i6 f Tryz.sizeOf260 (vs := [(vi (x0.r9.m7.n : Int)), (vi (x0.r9.E4.n : Int))]) (cs' := [(vi (x0.r9.m7.n : Int)), (vi (x0.r9.E4.n : Int))]) rfl rfl (nb rfl) rfl rfl fun m b p => ?_
 refine a7 a0M (a7 a6Y (g6 (l1 Tryz.isAgg3 (b.bring 1) rfl) (a7 pEq ?_)))
 refine m6 h (fun _ h => ?_) (fun _ h => ?_)
 ·refine a7 a0M (a7 a5G (g6 (l1 Tryz.isAgg3 (b.bring 1) rfl) (a7 pGe ?_)))
  refine a7 (Pu.g fun a => by with_reducible exact a0M) ?_
  refine a7 (Pu.g fun a => by simp only [m1 a]; with_reducible exact a5G) ?_
  refine g6 (Ld.g fun a => by simp only [m1 a]; exact (l1 Tryz.isAgg3 (b.bring 1) rfl)) ?_
  refine a7 (Pu.g fun a => by simp only [m1 a]; with_reducible exact pLe) ?_
  refine a7 (C1 _ _) ?_
  refine g6 (Ld.g fun a => by exact (ldA Tryz.isAgg260 Tryz.sizeOf260 rfl (b.at1 (o := 0) (vs := [(vi (x0.r9.m7.n : Int)), (vi (x0.r9.E4.n : Int))]) (nb rfl) rfl))) ?_
  refine a7 (Pu.g fun a => by with_reducible exact (a4K _ _)) ?_
  refine a7 (Pu.g fun a => by simp only [m1 a]; with_reducible exact (a7P _ _ _ _ _ _)) ?_
  refine a7 (C1 _ _) ?_
  exact hR _ H _ _ b.drop.drop ⟨(((decide (1 ≤ x0.r9.fOp)) && (decide (x0.r9.fOp ≤ 6))) && (decide ((x0.r9.m7.n : Int) = 2 ∧ (x0.r9.E4.n : Int) = 0))), rfl, rfl, h⟩
 ·refine a7 a0M (a7 a5G (g6 (l1 Tryz.isAgg3 (b.bring 1) rfl) (a7 pNe ?_)))
  refine a1T h (fun _ h => ?_) (fun _ h => ?_)
  ·exact hR _ H _ _ b.drop.drop ⟨false, rfl, rfl, h⟩
  ·refine a7 a0M (a7 a6Y (g6 (l1 Tryz.isAgg3 (b.bring 1) rfl) ?_))
   have hj1 : ∀ (b0f : Bool) H w (_ : Inv w0 ps0 H0 H [bx c 260 [(vi (K0.mk (x0.r9.m7.n : Int) (x0.r9.E4.n : Int)).fexprs), (vi (K0.mk (x0.r9.m7.n : Int) (x0.r9.E4.n : Int)).fparts)], bx e 146 (g8 x0.r9)] w) (_ : P4 x0.r9.c8 b0f (K0.mk (x0.r9.m7.n : Int) (x0.r9.E4.n : Int)) x0 H K), b2E (Value.pointer (some ⟨c, 0, none⟩)) (vi x0.r9.c8) (vB b0f) w R E := by
    intro b0f H w I h
    unfold b2E
    intro _
    unfold P4 at h
    refine p7 h (fun _ h => ?_) (fun _ h => ?_)
    ·refine g6 (ldA Tryz.isAgg260 Tryz.sizeOf260 rfl (I.at1 (o := 0) (vs := [(vi (K0.mk (x0.r9.m7.n : Int) (x0.r9.E4.n : Int)).fexprs), (vi (K0.mk (x0.r9.m7.n : Int) (x0.r9.E4.n : Int)).fparts)]) (nb rfl) rfl)) (a7 (b7w ) (a7 (a7P _ _ _ _ _ _) ?_))
     exact hR _ H _ _ I.drop.drop ⟨(decide ((K0.mk (x0.r9.m7.n : Int) (x0.r9.E4.n : Int)).fexprs = 0 ∧ (K0.mk (x0.r9.m7.n : Int) (x0.r9.E4.n : Int)).fparts = 0)), rfl, rfl, h⟩
    ·refine a7 pEq ?_
     refine m6 h (fun _ h => ?_) (fun _ h => ?_)
     ·refine g6 (ldA Tryz.isAgg260 Tryz.sizeOf260 rfl (I.at1 (o := 0) (vs := [(vi (K0.mk (x0.r9.m7.n : Int) (x0.r9.E4.n : Int)).fexprs), (vi (K0.mk (x0.r9.m7.n : Int) (x0.r9.E4.n : Int)).fparts)]) (nb rfl) rfl)) (a7 (a4K _ _) (a7 (a7P _ _ _ _ _ _) ?_))
      exact hR _ H _ _ I.drop.drop ⟨(decide ((K0.mk (x0.r9.m7.n : Int) (x0.r9.E4.n : Int)).fexprs = 0 ∧ (K0.mk (x0.r9.m7.n : Int) (x0.r9.E4.n : Int)).fparts = 1)), rfl, rfl, h⟩
     ·have hj2 : ∀ (b0e : Bool) H w (_ : Inv w0 ps0 H0 H [bx c 260 [(vi (K0.mk (x0.r9.m7.n : Int) (x0.r9.E4.n : Int)).fexprs), (vi (K0.mk (x0.r9.m7.n : Int) (x0.r9.E4.n : Int)).fparts)], bx e 146 (g8 x0.r9)] w) (_ : P3 b0e (K0.mk (x0.r9.m7.n : Int) (x0.r9.E4.n : Int)) x0 H K), b2D (Value.pointer (some ⟨c, 0, none⟩)) (vB b0e) w R E := by
       intro b0e H w I h
       unfold b2D
       intro _
       unfold P3 at h
       refine p7 h (fun _ h => ?_) (fun _ h => ?_)
       ·refine g6 (ldA Tryz.isAgg260 Tryz.sizeOf260 rfl (I.at1 (o := 0) (vs := [(vi (K0.mk (x0.r9.m7.n : Int) (x0.r9.E4.n : Int)).fexprs), (vi (K0.mk (x0.r9.m7.n : Int) (x0.r9.E4.n : Int)).fparts)]) (nb rfl) rfl)) (a7 (a4K _ _) (a7 (a7P _ _ _ _ _ _) ?_))
        exact hR _ H _ _ I.drop.drop ⟨(decide ((K0.mk (x0.r9.m7.n : Int) (x0.r9.E4.n : Int)).fexprs = 0 ∧ (K0.mk (x0.r9.m7.n : Int) (x0.r9.E4.n : Int)).fparts = 2)), rfl, rfl, h⟩
       ·exact hR _ H _ _ I.drop.drop ⟨false, rfl, rfl, h⟩
      refine z8 fun j2 hx2 => ?_
      refine a7 pEq ?_
      refine m6 h (fun _ h => ?_) (fun _ h => ?_)
      ·exact hx2 _ _ (hj2 (decide (x0.r9.c8 = 5)) H _ ((I.bring 1).bring 1) h)
      ·refine a7 pEq ?_
       exact hx2 _ _ (hj2 (decide (x0.r9.c8 = 6)) H _ ((I.bring 1).bring 1) h)
   refine z8 fun j1 hx1 => ?_
   refine a7 pEq ?_
   refine m6 h (fun _ h => ?_) (fun _ h => ?_)
   ·exact hx1 _ _ (hj1 (decide (x0.r9.c8 = 1)) H _ ((b.bring 1).bring 1) h)
   ·refine a7 pEq ?_
    exact hx1 _ _ (hj1 (decide (x0.r9.c8 = 2)) H _ ((b.bring 1).bring 1) h)
def a2i (x0 : S9) (H : Hp) (K : Sl → Hp → Prop) : Prop :=
 B4 x0.r9.m7 H (fun d e =>
 E0 x0.r9.E4 e (fun f g =>
 ∀ (a : Sl) (b : Hp), Hle g b → SlH b 1 csl a [d, f] → a.n ≤ a.c →
 D5 a b (fun i j =>
 K i j)))
theorem a7B (x0) {H K} (h : a2i x0 H K) : a4r x0 H K := by
 refine Ct.of fun w0 w ps0 H0 R E I hR => c2u ?_
 unfold a2i at h
 unfold c5q
 refine T7 I (cs := (g8 x0.r9)) rfl fun v y b z => ?_
 refine W4 b fun aa a => ?_
 refine r8 a0M ?_
 refine r8 a7a ?_
 refine r8 a0M ?_
 refine r8 a6Z ?_
 refine C4 (l1 Tryz.isAgg38 a rfl) ?_
 refine C4 (l1 Tryz.isAgg47 a rfl) ?_
 refine g9 Tryz.call207 h a ?_
 rintro _ _ _ ab d _ f ⟨g, rfl, rfl, h⟩
 refine ⟨(f _ a.lt1 (Inv.Z9 (Fi := []) a)), ?_⟩
 refine g9 Tryz.call211 h d ?_
 rintro _ _ _ ac i _ _ ⟨j, rfl, rfl, h⟩
 refine W5 (e := 128) (c := csl) (xs := [g, j]) i (b4j _ _ _ _ _ _) rfl rfl b3O b3P (nb rfl) fun k ad ae l m af => ?_
 obtain ⟨n, o, p, q, r⟩ := Inv.freezeC m l (by decide)
 replace h := h k n p q r
 refine g9 Tryz.call75 h o ?_
 rintro _ s _ ag t _ _ ⟨u, rfl, rfl, h⟩
 exact hR _ s _ _ t.drop ⟨u, rfl, rfl, h⟩
end Go.Proofs.YthklmeihgmcljaaGreatDoor
