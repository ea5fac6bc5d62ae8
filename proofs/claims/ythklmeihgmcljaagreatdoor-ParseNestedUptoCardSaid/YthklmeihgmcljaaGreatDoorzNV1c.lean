/- Typed formulas of the program's functions, and the theorems that the contracts follow from them; printed by lift.py off the code. -/
import Derived.Test.YthklmeihgmcljaaGreatDoorzNV1
namespace Go.Proofs.YthklmeihgmcljaaGreatDoor
open Go.RowKit
set_option maxRecDepth 100000
set_option maxHeartbeats 2000000
def a2U (x0 : ByteArray) (H : Hp) (K : l9 → c8 → Int → Hp → Prop) : Prop :=
 E2 x0 H (fun a b c d =>
 K a b c d)
theorem a8e (x0) {H K} (h : a2U x0 H K) : Y3 x0 H K := by
 refine Ct.of fun w0 w ps0 H0 R E I hR => c5w ?_
 unfold a2U at h
 unfold F9
 refine p8 I Tryz.zeroValue26 (cs := [(nS), (nS)]) rfl fun k l e m => ?_
 refine p8 e Tryz.zeroValue28 (cs := [(vi 0), (vi 0)]) rfl fun n p f q => ?_
 refine g8 Tryz.call20 h f ?_
 rintro _ g _ r i _ _ ⟨a, b, d, rfl, rfl, h⟩
 refine b5 (j8 _ _ _ rfl) (b5 (j8 _ _ _ rfl) (b5 (j8 _ _ (vi d) rfl) ?_))
 refine g7 (i.bring 1) Tryz.sizeOf26 (vs := (p9 a)) (cs' := (p9 a)) rfl rfl (nb rfl) rfl rfl fun s j t => ?_
 refine g7 (j.bring 1) Tryz.sizeOf28 (vs := (j9 b)) (cs' := (j9 b)) rfl rfl (nb rfl) rfl rfl fun u c v => ?_
 refine y2 Tryz.isAgg26 Tryz.sizeOf26 rfl ((c.bring 1).at1 (o := 0) (vs := (p9 a)) (nb rfl) rfl) ?_
 refine y2 Tryz.isAgg28 Tryz.sizeOf28 rfl (c.at1 (o := 0) (vs := (j9 b)) (nb rfl) rfl) ?_
 exact hR _ g _ _ c.drop.drop ⟨a, b, d, rfl, rfl, h⟩
def X5 (x0 : b8) (H : Hp) (K : b7 → Hp → Prop) : Prop :=
 (0 : Int) ≤ x0.fat ∧ (x0.fat : Int) < x0.fl.n ∧ ∃ a : b7, EltH H x0.fl x0.fat 5 (d9 a) ∧
 K a H
theorem a4O (x0) {H K} (h : X5 x0 H K) : X0 x0 H K := by
 intro g0
 refine Ct.of fun w0 w ps0 H0 R E I hR => c2H ?_
 unfold X5 at h
 unfold F63
 refine p8 I Tryz.zeroValue103 (cs := [(vi 0), (eS), (vi 0), (vi 0), (vi 0)]) rfl fun j k e l => ?_
 refine V7 e fun m b => ?_
 refine p7 (s9 _) ?_
 refine p7 b6o ?_
 refine p7 (s9 _) ?_
 refine p7 a2M ?_
 refine C7 (l1 Tryz.isAgg61 (b.bring 1) rfl) ?_
 refine C7 (l1 Tryz.isAgg3 (b.bring 1) rfl) ?_
 obtain ⟨f, g, a, c, h⟩ := h
 obtain ⟨n, p, i, c⟩ := c
 refine p7 (b3i i _ _ _ _ f g) ?_
 refine C7 (ldA (vs := (d9 a)) Tryz.isAgg103 Tryz.sizeOf103 rfl (b.atH c)) ?_
 refine g7 b Tryz.sizeOf103 (vs := (d9 a)) (cs' := (d9 a)) rfl rfl (nb rfl) rfl rfl fun q d r => ?_
 refine y2 Tryz.isAgg103 Tryz.sizeOf103 rfl (d.at1 (o := 0) (vs := (d9 a)) (nb rfl) rfl) ?_
 exact hR _ H _ _ d.drop ⟨a, rfl, rfl, h⟩
def a2v (x0 : b8) (x1 : ByteArray) (H : Hp) (K : Bool → Hp → Prop) : Prop :=
 X0 x0 H (fun a b =>
 K (((decide (x0.fbad = 0)) && ((decide (a.g6 = 3)) || (decide (a.g6 = 4)))) && (decide (a.B3 = x1))) b)
theorem a2w (x0 x1) {H K} (h : a2v x0 x1 H K) : u1 x0 x1 H K := by
 intro g0
 refine Ct.of fun w0 w ps0 H0 R E I hR => c2t ?_
 unfold a2v at h
 unfold F23
 refine g8 Tryz.call63 (h g0) I ?_
 rintro _ f _ k i _ _ ⟨d, rfl, rfl, h⟩
 refine p8 i Tryz.zeroValue103 (cs := [(vi 0), (eS), (vi 0), (vi 0), (vi 0)]) rfl fun l m j n => ?_
 refine g7 j Tryz.sizeOf103 (vs := (d9 d)) (cs' := (d9 d)) rfl rfl (nb rfl) rfl rfl fun o c p => ?_
 refine b5 (s9 _) (b5 b6n (g9 (l1 Tryz.isAgg3 (c.bring 1) rfl) (b5 pEq ?_)))
 refine b5 (Pu.g fun a => by with_reducible exact a0q) ?_
 refine g9 (Ld.g fun a => by simp only [o9 a]; exact (l1 Tryz.isAgg3 c rfl)) ?_
 refine b5 (Pu.g fun a => by simp only [o9 a]; with_reducible exact pEq) ?_
 simp only [D2, b0p]
 refine b5 (Pu.e (b1f _ _ _) (Pu.g fun hb => by obtain ⟨a, b⟩ := b6k hb; with_reducible exact a0q)) ?_
 refine g9 (Ld.e (b1f _ _ _) (Ld.g fun hb => by obtain ⟨a, b⟩ := b6k hb; simp only [o9 hb]; exact (l1 Tryz.isAgg3 c rfl))) ?_
 refine b5 (Pu.e (b1f _ _ _) (Pu.g fun hb => by obtain ⟨a, b⟩ := b6k hb; simp only [o9 hb]; with_reducible exact pEq)) ?_
 refine b5 (Pu.g fun a => by simp only [o9 a, c2d a]; with_reducible exact (N5 _ _)) ?_
 refine b5 (F6 _ _) ?_
 refine b5 (Pu.g fun a => by with_reducible exact Q5) ?_
 refine g9 (Ld.g fun a => by simp only [o9 a]; exact (l1 Tryz.isAgg9 c rfl)) ?_
 simp only [D2]
 refine b5 (Pu.g fun a => by simp only [o9 a]; with_reducible exact (R6 _ _ _ _ _)) ?_
 refine b5 (F6 _ _) ?_
 exact hR _ f _ _ c.drop ⟨(((decide (x0.fbad = 0)) && ((decide (d.g6 = 3)) || (decide (d.g6 = 4)))) && (decide (d.B3 = x1))), rfl, rfl, h⟩
def V0 (t8 : b8) (a : f7) (b : f7) (H : Hp) (K : f7 → b8 → Hp → Prop) : Prop :=
 K a t8 H
def P7 (a3I : Int) (d : f7) (m9 : b8) (e : f7) (H : Hp) (n2 : (f7 × b8 × f7) → Hp → Prop) (K : f7 → b8 → Hp → Prop) : Prop :=
 N7 m9 ⟨#[124, 124]⟩ H (fun f g i =>
 (f = true →
 S2 g a3I i (fun j k l =>
 ∀ (a : Sl) (b : Hp), Hle l b → SlH b 4 i6 a [d, j] → a.n ≤ a.c →
 n2 ((f7.mk 6 0 (Sl.mk none 0 0) a), k, e) b)) ∧
 (f = false →
 V0 g d e i K))
def X6 (x0 : b8) (x1 : Int) (H : Hp) (K : f7 → b8 → Hp → Prop) : Prop :=
 S2 x0 x1 H (fun a b c =>
 TL ((a, b, (f7.mk 0 0 (Sl.mk none 0 0) (Sl.mk none 0 0))) : f7 × b8 × f7) c fun (s : f7 × b8 × f7) H n2 => P7 x1 s.1 s.2.1 s.2.2 H n2 K)
theorem a4P (x0 x1) {H K} (h : X6 x0 x1 H K) : a1M x0 x1 H K := by
 intro g0
 refine Ct.of fun w0 w ps0 H0 R E I hR => c2y ?_
 unfold X6 at h
 unfold F43
 refine p8 I Tryz.zeroValue49 (cs := [(vi 0), (vi 0), (nS), (nS)]) rfl fun m ay ab az => ?_
 refine g8 Tryz.call90 (h g0) (ab.bring 1) ?_
 rintro _ ac _ ba ad _ _ ⟨p, ae, rfl, rfl, h⟩
 refine p8 ad Tryz.zeroValue49 (cs := [(vi 0), (vi 0), (nS), (nS)]) rfl fun q bb af bc => ?_
 refine g7 af Tryz.sizeOf49 (vs := (i6 p)) (cs' := (i6 p)) rfl rfl (nb rfl) rfl rfl fun bd ag be => ?_
 have hj1 : ∀ (t8 : b8) (g : f7) (r : f7) H w (_ : Inv w0 ps0 H0 H [bx g0 66 (l0 t8), bx q 49 (i6 g), bx m 49 (i6 r)] w) (_ : V0 t8 g r H K), b3z (Value.pointer (some ⟨m, 0, none⟩)) (Value.pointer (some ⟨q, 0, none⟩)) w R E := by
  intro t8 g r H w I h
  unfold b3z
  intro _
  unfold V0 at h
  refine g9 (lW Tryz.isAgg49 Tryz.sizeOf49 rfl (I.bring 1)) ?_
  refine g7 (I.bring 2) Tryz.sizeOf49 (vs := (i6 g)) (cs' := (i6 g)) rfl rfl (nb rfl) rfl rfl fun bf u bg => ?_
  refine y2 Tryz.isAgg49 Tryz.sizeOf49 rfl (u.at1 (o := 0) (vs := (i6 g)) (nb rfl) rfl) ?_
  exact hR _ H _ _ (u.drop.bring 1).drop ⟨g, t8, rfl, rfl, h⟩
 refine v8 fun j1 hx1 => ?_
 obtain ⟨t, i, ah, ai⟩ := h
 refine E9 (J := fun n l w => ∃ (s : f7 × b8 × f7) (H : Hp) , n = i s ∧ l = (match s with | (d, m9, f) => []) ∧ (match s with | (d, m9, f) => Inv w0 ps0 H0 H [bx q 49 (i6 d), bx g0 66 (l0 m9), bx m 49 (i6 f)] w) ∧ t s H) ⟨_, (p, ae, (f7.mk 0 0 (Sl.mk none 0 0) (Sl.mk none 0 0))), ac, rfl, rfl, (((ag.bring 2).bring 2).bring 2), ah⟩ ?_
 rintro bh bi w next2 ⟨⟨d, m9, f⟩, H, rfl, v, I, aj⟩ hn2
 dsimp only at v I
 clear v
 obtain ⟨n2, hm2, h⟩ : ∃ n2 : (f7 × b8 × f7) → Hp → Prop, (∀ s' H', n2 s' H' → t s' H' ∧ i s' < i (d, m9, f)) ∧ P7 x1 d m9 f H n2 K := ⟨_, fun _ _ h => h, ai (d, m9, f) H (fun s' H' => t s' H' ∧ i s' < i (d, m9, f)) aj (fun _ _ a b => ⟨a, b⟩)⟩
 unfold b7w
 unfold P7 at h
 refine g8 Tryz.call67 (h g0) (I.bring 1) ?_
 rintro _ ak _ bj y _ _ ⟨bk, z, rfl, rfl, h⟩
 refine p5 h (fun _ h => ?_) (fun _ h => ?_)
 ·refine V7 y fun bl j => ?_
  refine C7 (lW Tryz.isAgg49 Tryz.sizeOf49 rfl (j.bring 1)) ?_
  refine g8 Tryz.call90 (h g0) j ?_
  rintro _ _ _ bm al _ am ⟨an, ao, rfl, rfl, h⟩
  refine ⟨(am _ (j.bring 1).lt1 (Inv.Y1 (Fi := [bx g0 66 (l0 z)]) ((j.bring 1).bring 1))), ?_⟩
  refine U7 (e := 49) (c := i6) (xs := [d, an]) al (b1h _ _ _ _ _ _ _ _ _ _ _ _ _ _ _ _) rfl rfl R7 R8 (nb rfl) fun k bn bo ap aq bp => ?_
  refine p7 (a4s _ _ _ _) ?_
  refine g7 (aq.bring 2) Tryz.sizeOf49 (vs := [(vi 6), (vi 0), (nS), (vs k)]) (cs' := [(vi 6), (vi 0), (nS), (vs k)]) rfl rfl (nb rfl) rfl rfl fun bq ar br => ?_
  obtain ⟨aa, au, av, aw, ax⟩ := Inv.freezeC (ar.bring 1) ap (by decide)
  replace h := h k aa av aw ax
  exact hn2 _ _ _ (hm2 _ _ h).2 ⟨((f7.mk 6 0 (Sl.mk none 0 0) k), ao, f), aa, rfl, rfl, (((au.bring 2).bring 2).bring 2), (hm2 _ _ h).1⟩
 ·exact hx1 _ _ (hj1 z d f ak _ (((y.bring 2).bring 2).bring 2) h)
def D3 (a9l : Bool) (a : Int) (H : Hp) (K : Int → Hp → Prop) : Prop :=
 (a9l = true →
 K 3 H) ∧
 (a9l = false →
 K 6 H)
def O1 (a9m : Bool) (a : Int) (H : Hp) (K : Int → Hp → Prop) : Prop :=
 (a9m = true →
 K 6 H) ∧
 (a9m = false →
 J5 48 57 a H (fun g b =>
 (g = true →
 K 4 b) ∧
 (g = false →
 (a = 95 →
 D3 (decide (a = 95)) a b K) ∧
 (¬ (a = 95) →
 J5 97 122 a b (fun c i =>
 (c = true →
 D3 c a i K) ∧
 (c = false →
 J5 65 90 a i (fun d j =>
 (d = true →
 D3 d a j K) ∧
 (d = false →
 J5 192 591 a j (fun e k =>
 (e = true →
 D3 e a k K) ∧
 (e = false →
 J5 913 969 a k (fun f l =>
 (f = true →
 D3 f a l K) ∧
 (f = false →
 J5 1040 1103 a l (fun m n =>
 D3 m a n K)))))))))))))
def p6 (a9Z : Int) (a9n : Bool) (a : Int) (H : Hp) (K : Int → Hp → Prop) : Prop :=
 (a9n = true →
 K 5 H) ∧
 (a9n = false →
 (a9Z = 215 →
 O1 (decide (a9Z = 215)) a H K) ∧
 (¬ (a9Z = 215) →
 (a9Z = 247 →
 O1 (decide (a9Z = 247)) a H K) ∧
 (¬ (a9Z = 247) →
 O1 (decide (a9Z = 930)) a H K)))
def O2 (z8 : Int) (Q7 : Bool) (a : Int) (H : Hp) (K : Int → Hp → Prop) : Prop :=
 (Q7 = true →
 K 1 H) ∧
 (Q7 = false →
 (z8 = 10 →
 K 2 H) ∧
 (¬ (z8 = 10) →
 (z8 = 59 →
 p6 z8 (decide (z8 = 59)) a H K) ∧
 (¬ (z8 = 59) →
 (z8 = 44 →
 p6 z8 (decide (z8 = 44)) a H K) ∧
 (¬ (z8 = 44) →
 (z8 = 123 →
 p6 z8 (decide (z8 = 123)) a H K) ∧
 (¬ (z8 = 123) →
 (z8 = 125 →
 p6 z8 (decide (z8 = 125)) a H K) ∧
 (¬ (z8 = 125) →
 (z8 = 40 →
 p6 z8 (decide (z8 = 40)) a H K) ∧
 (¬ (z8 = 40) →
 (z8 = 41 →
 p6 z8 (decide (z8 = 41)) a H K) ∧
 (¬ (z8 = 41) →
 (z8 = 91 →
 p6 z8 (decide (z8 = 91)) a H K) ∧
 (¬ (z8 = 91) →
 (z8 = 93 →
 p6 z8 (decide (z8 = 93)) a H K) ∧
 (¬ (z8 = 93) →
 (z8 = 61 →
 p6 z8 (decide (z8 = 61)) a H K) ∧
 (¬ (z8 = 61) →
 (z8 = 33 →
 p6 z8 (decide (z8 = 33)) a H K) ∧
 (¬ (z8 = 33) →
 (z8 = 60 →
 p6 z8 (decide (z8 = 60)) a H K) ∧
 (¬ (z8 = 60) →
 (z8 = 62 →
 p6 z8 (decide (z8 = 62)) a H K) ∧
 (¬ (z8 = 62) →
 (z8 = 43 →
 p6 z8 (decide (z8 = 43)) a H K) ∧
 (¬ (z8 = 43) →
 (z8 = 45 →
 p6 z8 (decide (z8 = 45)) a H K) ∧
 (¬ (z8 = 45) →
 (z8 = 42 →
 p6 z8 (decide (z8 = 42)) a H K) ∧
 (¬ (z8 = 42) →
 (z8 = 47 →
 p6 z8 (decide (z8 = 47)) a H K) ∧
 (¬ (z8 = 47) →
 (z8 = 37 →
 p6 z8 (decide (z8 = 37)) a H K) ∧
 (¬ (z8 = 37) →
 (z8 = 38 →
 p6 z8 (decide (z8 = 38)) a H K) ∧
 (¬ (z8 = 38) →
 p6 z8 (decide (z8 = 124)) a H K))))))))))))))))))))
def a3r (x0 : Int) (H : Hp) (K : Int → Hp → Prop) : Prop :=
 (x0 = 32 →
 O2 x0 (decide (x0 = 32)) x0 H K) ∧
 (¬ (x0 = 32) →
 (x0 = 9 →
 O2 x0 (decide (x0 = 9)) x0 H K) ∧
 (¬ (x0 = 9) →
 O2 x0 (decide (x0 = 13)) x0 H K))
theorem a8x (x0) {H K} (h : a3r x0 H K) : O9 x0 H K := by
 refine Ct.of fun w0 w ps0 H0 R E I hR => c0E ?_
 unfold a3r at h
 unfold c3p
 refine a0p I (cs := [(Value.int .i32 x0)]) rfl fun a u b v => ?_
 refine g9 (l1 Tryz.isAgg21 b rfl) ?_
 have hj1 : ∀ (Q7 : Bool) H w (_ : Inv w0 ps0 H0 H [bx a 21 [(Value.int .i32 x0)]] w) (_ : O2 x0 Q7 x0 H K), b1z (Value.pointer (some ⟨a, 0, none⟩)) (Value.int .i32 x0) (vB Q7) w R E := by
  intro Q7 H w I h
  unfold b1z
  intro _
  unfold O2 at h
  refine p5 h (fun _ h => ?_) (fun _ h => ?_)
  ·exact hR _ H _ _ I.drop ⟨1, rfl, rfl, h⟩
  ·refine b5 pEq ?_
   refine k7 h (fun _ h => ?_) (fun _ h => ?_)
   ·exact hR _ H _ _ I.drop ⟨2, rfl, rfl, h⟩
   ·have hj2 : ∀ (a9n : Bool) H w (_ : Inv w0 ps0 H0 H [bx a 21 [(Value.int .i32 x0)]] w) (_ : p6 x0 a9n x0 H K), b1y (Value.pointer (some ⟨a, 0, none⟩)) (Value.int .i32 x0) (vB a9n) w R E := by
     intro a9n H w I h
     unfold b1y
     intro _
     unfold p6 at h
     refine p5 h (fun _ h => ?_) (fun _ h => ?_)
     ·exact hR _ H _ _ I.drop ⟨5, rfl, rfl, h⟩
     ·have hj3 : ∀ (a9m : Bool) H w (_ : Inv w0 ps0 H0 H [bx a 21 [(Value.int .i32 x0)]] w) (_ : O1 a9m x0 H K), b1x (Value.pointer (some ⟨a, 0, none⟩)) (vB a9m) w R E := by
       intro a9m H w I h
       unfold b1x
       intro _
       unfold O1 at h
       refine p5 h (fun _ h => ?_) (fun _ h => ?_)
       ·exact hR _ H _ _ I.drop ⟨6, rfl, rfl, h⟩
       ·refine b5 (X9 _ _ _) ?_
        refine a4T (cap := [(Value.pointer (some ⟨a, 0, none⟩))]) Tryz.call151 (h a) I ?_
        rintro _ d _ y c _ _ ⟨z, rfl, rfl, h⟩
        refine p5 h (fun _ h => ?_) (fun _ h => ?_)
        ·exact hR _ d _ _ c.drop ⟨4, rfl, rfl, h⟩
        ·have hj4 : ∀ (a9l : Bool) H w (_ : Inv w0 ps0 H0 H [bx a 21 [(Value.int .i32 x0)]] w) (_ : D3 a9l x0 H K), b1w (vB a9l) w R E := by
          intro a9l H w I h
          unfold b1w
          intro _
          unfold D3 at h
          refine p5 h (fun _ h => ?_) (fun _ h => ?_)
          ·exact hR _ H _ _ I.drop ⟨3, rfl, rfl, h⟩
          ·exact hR _ H _ _ I.drop ⟨6, rfl, rfl, h⟩
         refine v8 fun j4 hx4 => ?_
         refine g9 (l1 Tryz.isAgg21 c rfl) (b5 pEq ?_)
         refine k7 h (fun _ h => ?_) (fun _ h => ?_)
         ·exact hx4 _ _ (hj4 (decide (x0 = 95)) d _ c h)
         ·refine a4T (cap := [(Value.pointer (some ⟨a, 0, none⟩))]) Tryz.call151 (h a) c ?_
          rintro _ j _ aa e _ _ ⟨k, rfl, rfl, h⟩
          refine p5 h (fun _ h => ?_) (fun _ h => ?_)
          ·exact hx4 _ _ (hj4 k j _ e h)
          ·refine a4T (cap := [(Value.pointer (some ⟨a, 0, none⟩))]) Tryz.call151 (h a) e ?_
           rintro _ l _ ab f _ _ ⟨m, rfl, rfl, h⟩
           refine p5 h (fun _ h => ?_) (fun _ h => ?_)
           ·exact hx4 _ _ (hj4 m l _ f h)
           ·refine a4T (cap := [(Value.pointer (some ⟨a, 0, none⟩))]) Tryz.call151 (h a) f ?_
            rintro _ n _ ac g _ _ ⟨o, rfl, rfl, h⟩
            refine p5 h (fun _ h => ?_) (fun _ h => ?_)
            ·exact hx4 _ _ (hj4 o n _ g h)
            ·refine a4T (cap := [(Value.pointer (some ⟨a, 0, none⟩))]) Tryz.call151 (h a) g ?_
             rintro _ p _ ad i _ _ ⟨q, rfl, rfl, h⟩
             refine p5 h (fun _ h => ?_) (fun _ h => ?_)
             ·exact hx4 _ _ (hj4 q p _ i h)
             ·refine a4T (cap := [(Value.pointer (some ⟨a, 0, none⟩))]) Tryz.call151 (h a) i ?_
              rintro _ r _ ae s _ _ ⟨t, rfl, rfl, h⟩
              exact hx4 _ _ (hj4 t r _ s h)
      refine v8 fun j3 hx3 => ?_
      refine b5 pEq ?_
      refine k7 h (fun _ h => ?_) (fun _ h => ?_)
      ·exact hx3 _ _ (hj3 (decide (x0 = 215)) H _ I h)
      ·refine b5 pEq ?_
       refine k7 h (fun _ h => ?_) (fun _ h => ?_)
       ·exact hx3 _ _ (hj3 (decide (x0 = 247)) H _ I h)
       ·refine b5 pEq ?_
        exact hx3 _ _ (hj3 (decide (x0 = 930)) H _ I h)
    refine v8 fun j2 hx2 => ?_
    refine b5 pEq ?_
    refine k7 h (fun _ h => ?_) (fun _ h => ?_)
    ·exact hx2 _ _ (hj2 (decide (x0 = 59)) H _ I h)
    ·refine b5 pEq ?_
     refine k7 h (fun _ h => ?_) (fun _ h => ?_)
     ·exact hx2 _ _ (hj2 (decide (x0 = 44)) H _ I h)
     ·refine b5 pEq ?_
      refine k7 h (fun _ h => ?_) (fun _ h => ?_)
      ·exact hx2 _ _ (hj2 (decide (x0 = 123)) H _ I h)
      ·refine b5 pEq ?_
       refine k7 h (fun _ h => ?_) (fun _ h => ?_)
       ·exact hx2 _ _ (hj2 (decide (x0 = 125)) H _ I h)
       ·refine b5 pEq ?_
        refine k7 h (fun _ h => ?_) (fun _ h => ?_)
        ·exact hx2 _ _ (hj2 (decide (x0 = 40)) H _ I h)
        ·refine b5 pEq ?_
         refine k7 h (fun _ h => ?_) (fun _ h => ?_)
         ·exact hx2 _ _ (hj2 (decide (x0 = 41)) H _ I h)
         ·refine b5 pEq ?_
          refine k7 h (fun _ h => ?_) (fun _ h => ?_)
          ·exact hx2 _ _ (hj2 (decide (x0 = 91)) H _ I h)
          ·refine b5 pEq ?_
           refine k7 h (fun _ h => ?_) (fun _ h => ?_)
           ·exact hx2 _ _ (hj2 (decide (x0 = 93)) H _ I h)
           ·refine b5 pEq ?_
            refine k7 h (fun _ h => ?_) (fun _ h => ?_)
            ·exact hx2 _ _ (hj2 (decide (x0 = 61)) H _ I h)
            ·refine b5 pEq ?_
             refine k7 h (fun _ h => ?_) (fun _ h => ?_)
             ·exact hx2 _ _ (hj2 (decide (x0 = 33)) H _ I h)
             ·refine b5 pEq ?_
              refine k7 h (fun _ h => ?_) (fun _ h => ?_)
              ·exact hx2 _ _ (hj2 (decide (x0 = 60)) H _ I h)
              ·refine b5 pEq ?_
               refine k7 h (fun _ h => ?_) (fun _ h => ?_)
               ·exact hx2 _ _ (hj2 (decide (x0 = 62)) H _ I h)
               ·refine b5 pEq ?_
                refine k7 h (fun _ h => ?_) (fun _ h => ?_)
                ·exact hx2 _ _ (hj2 (decide (x0 = 43)) H _ I h)
                ·refine b5 pEq ?_
                 refine k7 h (fun _ h => ?_) (fun _ h => ?_)
                 ·exact hx2 _ _ (hj2 (decide (x0 = 45)) H _ I h)
                 ·refine b5 pEq ?_
                  refine k7 h (fun _ h => ?_) (fun _ h => ?_)
                  ·exact hx2 _ _ (hj2 (decide (x0 = 42)) H _ I h)
                  ·refine b5 pEq ?_
                   refine k7 h (fun _ h => ?_) (fun _ h => ?_)
                   ·exact hx2 _ _ (hj2 (decide (x0 = 47)) H _ I h)
                   ·refine b5 pEq ?_
                    refine k7 h (fun _ h => ?_) (fun _ h => ?_)
                    ·exact hx2 _ _ (hj2 (decide (x0 = 37)) H _ I h)
                    ·refine b5 pEq ?_
                     refine k7 h (fun _ h => ?_) (fun _ h => ?_)
                     ·exact hx2 _ _ (hj2 (decide (x0 = 38)) H _ I h)
                     ·refine b5 pEq ?_
                      exact hx2 _ _ (hj2 (decide (x0 = 124)) H _ I h)
 refine v8 fun j1 hx1 => ?_
 refine b5 pEq ?_
 refine k7 h (fun _ h => ?_) (fun _ h => ?_)
 ·exact hx1 _ _ (hj1 (decide (x0 = 32)) H _ b h)
 ·refine b5 pEq ?_
  refine k7 h (fun _ h => ?_) (fun _ h => ?_)
  ·exact hx1 _ _ (hj1 (decide (x0 = 9)) H _ b h)
  ·refine b5 pEq ?_
   exact hx1 _ _ (hj1 (decide (x0 = 13)) H _ b h)
def a3s (x0 : Int) (H : Hp) (K : Bool → Hp → Prop) : Prop :=
 O9 x0 H (fun a b =>
 K ((decide (a = 3)) || (decide (a = 4))) b)
theorem a8y (x0) {H K} (h : a3s x0 H K) : a1G x0 H K := by
 refine Ct.of fun w0 w ps0 H0 R E I hR => c0T ?_
 unfold a3s at h
 unfold c3E
 refine g8 Tryz.call132 h I ?_
 rintro _ c _ e d _ _ ⟨b, rfl, rfl, h⟩
 refine b5 pEq ?_
 simp only [D2]
 refine b5 (Pu.g fun a => by simp only [o9 a]; with_reducible exact pEq) ?_
 refine b5 (N5 _ _) ?_
 exact hR _ c _ _ d ⟨((decide (b = 3)) || (decide (b = 4))), rfl, rfl, h⟩
def O3 (b1R : Int) (H : Hp) (K : Int → Hp → Prop) : Prop :=
 K b1R H
def O4 (b : ByteArray) (a6l : Int) (a : Nat) (H : Hp) (n2 : (Int × Nat) → Hp → Prop) (K : Int → Hp → Prop) : Prop :=
 (a < b.size →
 n2 ((IntKind.wrap .i64 (a6l + 1)), (a + (Utf8.decode b a).2)) H) ∧
 (¬ (a < b.size) →
 O3 a6l H K)
def W5 (x0 : ByteArray) (H : Hp) (K : Int → Hp → Prop) : Prop :=
 TL ((0, 0) : Int × Nat) H fun (s : Int × Nat) H n2 => O4 x0 s.1 s.2 H n2 K
theorem a4A (x0) {H K} (h : W5 x0 H K) : W3 x0 H K := by
 refine Ct.of fun w0 w ps0 H0 R E I hR => c0Y ?_
 unfold W5 at h
 unfold c3J
 have hj1 : ∀ (b1R : Int) H w (_ : Inv w0 ps0 H0 H [] w) (_ : O3 b1R H K), b1F (vi b1R) w R E := by
  intro b1R H w I h
  unfold b1F
  intro _
  unfold O3 at h
  exact hR _ H _ _ I ⟨b1R, rfl, rfl, h⟩
 refine v8 fun j1 hx1 => ?_
 refine a9e Tryz.underlying9 x0 I fun j r k t => ?_
 obtain ⟨f, d, m, o⟩ := h
 refine E9 (J := fun n l w => ∃ (s : Int × Nat) (H : Hp) , n = d s ∧ l = (match s with | (a6l, c) => [(vi a6l)]) ∧ (match s with | (a6l, c) => Inv w0 ps0 H0 H [itf j x0 c] w) ∧ f s H) ⟨_, (0, 0), H, rfl, rfl, k, m⟩ ?_
 rintro u v w next2 ⟨⟨a6l, c⟩, H, rfl, g, I, p⟩ hn2
 dsimp only at g I
 simp only [List.map_cons, List.map_nil, List.cons.injEq, and_true] at g
 have e2 := g
 simp only [e2]
 obtain ⟨n2, hm2, h⟩ : ∃ n2 : (Int × Nat) → Hp → Prop, (∀ s' H', n2 s' H' → f s' H' ∧ d s' < d (a6l, c)) ∧ O4 x0 a6l c H n2 K := ⟨_, fun _ _ h => h, o (a6l, c) H (fun s' H' => f s' H' ∧ d s' < d (a6l, c)) p (fun _ _ a b => ⟨a, b⟩)⟩
 unfold b5x
 unfold O4 at h
 refine b0s I (fun i y q z => ?_) (fun i => ?_)
 ·replace h := h.1 i
  refine b5 (j8 _ _ (vB true) rfl) ?_
  refine a0H (fun e => ?_) (fun e => by cases e)
  refine b5 pAd ?_
  exact hn2 _ _ _ (hm2 _ _ h).2 ⟨((IntKind.wrap .i64 (a6l + 1)), (c + (Utf8.decode x0 c).2)), H, rfl, rfl, q, (hm2 _ _ h).1⟩
 ·replace h := h.2 i
  refine b5 (j8 _ _ (vB false) rfl) ?_
  refine a0H (fun e => by cases e) (fun e => ?_)
  exact hx1 _ _ (hj1 a6l H _ I.drop h)
def A5 (r9 : Int) (s6 : Int) (u7 : Int) (a6B : Bool) (a6C : Bool) (a5z : (List ByteArray)) (H : Hp) (K : Bool → l7 → (List ByteArray) → Hp → Prop) : Prop :=
 K true (l7.mk r9 s6 u7 a6B a6C (Sl.mk none 0 0)) a5z H
def a0W (x0 : l7) (a : (List ByteArray)) (x1 : d8) (x2 : Int) (H : Hp) (K : Bool → l7 → (List ByteArray) → Hp → Prop) : Prop :=
 (4096 < (IntKind.wrap .i64 (x0.fnodes + 1)) →
 K false (l7.mk (IntKind.wrap .i64 (x0.fnodes + 1)) x0.fdepth 33 x0.fform x0.fnamed (Sl.mk none 0 0)) a H) ∧
 (¬ (4096 < (IntKind.wrap .i64 (x0.fnodes + 1))) →
 (64 < x2 →
 K false (l7.mk (IntKind.wrap .i64 (x0.fnodes + 1)) x0.fdepth 32 x0.fform x0.fnamed (Sl.mk none 0 0)) a H) ∧
 (¬ (64 < x2) →
 TG (x0.fform = false) (a2O x1 H) false H (fun (c : Bool) (j : Hp) =>
 a0B x1 j (fun b e d =>
 (e = true →
 TG (x0.fnamed = false) (a2z b d) false d (fun (f : Bool) (k : Hp) =>
 M0 a b k (fun g i =>
 ((!g) = true →
 (a.length + ([b] : List ByteArray).length) * 17 ≤ 140737488355328 ∧
 A5 (IntKind.wrap .i64 (x0.fnodes + 1)) (if x2 > x0.fdepth then x2 else x0.fdepth) x0.fe (x0.fform || (!c)) (x0.fnamed || (!f)) (a ++ [b]) i K) ∧
 ((!g) = false →
 A5 (IntKind.wrap .i64 (x0.fnodes + 1)) (if x2 > x0.fdepth then x2 else x0.fdepth) x0.fe (x0.fform || (!c)) (x0.fnamed || (!f)) a i K)))) ∧
 (e = false →
 A5 (IntKind.wrap .i64 (x0.fnodes + 1)) (if x2 > x0.fdepth then x2 else x0.fdepth) x0.fe (x0.fform || (!c)) x0.fnamed a d K)))))
theorem a6m (x0 b x1 x2) {H K} (h : a0W x0 b x1 x2 H K) : a0K x0 b x1 x2 H K := by
 intro g0 f n q
 refine Ct.of fun w0 w ps0 H0 R E I hR => c0w ?_
 unfold a0W at h
 unfold c3h
 refine b5 (s9 _) (b5 a7U (g9 (l1 Tryz.isAgg3 I rfl) (b5 pAd (b5 (s9 _) ?_))))
 refine b5 a7U ?_
 refine g7 I Tryz.sizeOf3 (vs := [(vi (IntKind.wrap .i64 (x0.fnodes + 1)))]) (cs' := [(vi (IntKind.wrap .i64 (x0.fnodes + 1))), (vi x0.fdepth), (vi x0.fe), (vB x0.fform), (vB x0.fnamed), (vs f)]) rfl rfl (nb rfl) rfl rfl fun bd v be => ?_
 refine b5 (s9 _) (b5 a7U (g9 (l1 Tryz.isAgg3 v rfl) (b5 pGt ?_)))
 refine k7 h (fun _ h => ?_) (fun _ h => ?_)
 ·refine b5 (s9 _) (b5 a4Y ?_)
  refine g7 v Tryz.sizeOf29 (vs := [(vi 33)]) (cs' := [(vi (IntKind.wrap .i64 (x0.fnodes + 1))), (vi x0.fdepth), (vi 33), (vB x0.fform), (vB x0.fnamed), (vs f)]) rfl rfl (nb rfl) rfl rfl fun bf au bg => ?_
  exact hR _ H _ _ ((au.bring 1).bring 1) ⟨false, (l7.mk (IntKind.wrap .i64 (x0.fnodes + 1)) x0.fdepth 33 x0.fform x0.fnamed (Sl.mk none 0 0)), b, f, n, rfl, rfl, q, h⟩
 ·refine b5 pGt ?_
  refine k7 h (fun _ h => ?_) (fun _ h => ?_)
  ·refine b5 (s9 _) (b5 a4Y ?_)
   refine g7 v Tryz.sizeOf29 (vs := [(vi 32)]) (cs' := [(vi (IntKind.wrap .i64 (x0.fnodes + 1))), (vi x0.fdepth), (vi 32), (vB x0.fform), (vB x0.fnamed), (vs f)]) rfl rfl (nb rfl) rfl rfl fun bh av bi => ?_
   exact hR _ H _ _ ((av.bring 1).bring 1) ⟨false, (l7.mk (IntKind.wrap .i64 (x0.fnodes + 1)) x0.fdepth 32 x0.fform x0.fnamed (Sl.mk none 0 0)), b, f, n, rfl, rfl, q, h⟩
  ·refine b5 (s9 _) (b5 b0D (g9 (l1 Tryz.isAgg3 v rfl) (b5 (c2b _ _ _ _ _) (b5 (s9 _) ?_))))
   refine b5 b0D ?_
   refine g7 v Tryz.sizeOf3 (vs := [(vi (if x2 > x0.fdepth then x2 else x0.fdepth))]) (cs' := [(vi (IntKind.wrap .i64 (x0.fnodes + 1))), (vi (if x2 > x0.fdepth then x2 else x0.fdepth)), (vi x0.fe), (vB x0.fform), (vB x0.fnamed), (vs f)]) rfl rfl (nb rfl) rfl rfl fun ai ac bj => ?_
   refine b5 (s9 _) (b5 a7V (g9 (l1 Tryz.isAgg4 ac rfl) ?_))
   simp only [D2]
   refine N6 (D := fun aj y => ∃ (d : Bool) (r : Hp), aj = (gv x0.fform false (vB d)) ∧ (Inv w0 ps0 H0 r [bx g0 79 [(vi (IntKind.wrap .i64 (x0.fnodes + 1))), (vi (if x2 > x0.fdepth then x2 else x0.fdepth)), (vi x0.fe), (vB x0.fform), (vB x0.fnamed), (vs f)], n] y) ∧ (∀ i, i < ai.heap.size → ¬ inF [] i → y.heap[i]? = ai.heap[i]?) ∧ Hle H r ∧ (a0B x1 r (fun (k : ByteArray) (z : Bool) (o : Hp) =>
 (z = true →
 TG (x0.fnamed = false) (a2z k o) false o (fun (j : Bool) (l : Hp) =>
 M0 b k l (fun (t : Bool) (m : Hp) =>
 ((!t) = true →
 (b.length + ([k] : List ByteArray).length) * 17 ≤ 140737488355328 ∧
 A5 (IntKind.wrap .i64 (x0.fnodes + 1)) (if x2 > x0.fdepth then x2 else x0.fdepth) x0.fe (x0.fform || (!d)) (x0.fnamed || (!j)) (b ++ [k]) m K) ∧
 ((!t) = false →
 A5 (IntKind.wrap .i64 (x0.fnodes + 1)) (if x2 > x0.fdepth then x2 else x0.fdepth) x0.fe (x0.fform || (!d)) (x0.fnamed || (!j)) b m K)))) ∧
 (z = false →
 A5 (IntKind.wrap .i64 (x0.fnodes + 1)) (if x2 > x0.fdepth then x2 else x0.fdepth) x0.fe (x0.fform || (!d)) x0.fnamed b o K)))) (fun u => ?_) (fun u => ?_) ?_
   ·replace h := h.1 u
    have a := u
    simp only [o9 a]
    refine a7H ac h (fun d r y ad ak al h => ?_)
    exact ⟨d, r, by rfl, ad, al, ak, h⟩
   ·exact ⟨false, H, by rw [W9 u], ac, fun _ _ _ => rfl, Hle.refl _, h.2 u⟩
   ·clear h
    rintro aj y ⟨d, r, rfl, ad, al, ak, h⟩
    refine b5 (Pu.g fun a => by simp only [o9 a]; with_reducible exact (U5 _)) ?_
    refine b5 (N5 _ _) (b5 (s9 _) (b5 a7V ?_))
    refine g7 ad Tryz.sizeOf4 (vs := [(vB (x0.fform || (!d)))]) (cs' := [(vi (IntKind.wrap .i64 (x0.fnodes + 1))), (vi (if x2 > x0.fdepth then x2 else x0.fdepth)), (vi x0.fe), (vB (x0.fform || (!d))), (vB x0.fnamed), (vs f)]) rfl rfl (nb rfl) rfl rfl fun bk aw bl => ?_
    have hj1 : ∀ (r9 : Int) (s6 : Int) (u7 : Int) (a6B : Bool) (a6C : Bool) (a5z : (List ByteArray)) (a8f : Sl) (a8g : Frag) H w (_ : RowL 9 1 G0 a8f a5z a8g) (_ : Inv w0 ps0 H0 H [bx g0 79 [(vi r9), (vi s6), (vi u7), (vB a6B), (vB a6C), (vs a8f)], a8g] w) (_ : A5 r9 s6 u7 a6B a6C a5z H K), b1r w R E := by
     intro r9 s6 u7 a6B a6C a5z a8f a8g H w b8H I h
     unfold b1r
     intro _
     unfold A5 at h
     exact hR _ H _ _ ((I.bring 1).bring 1) ⟨true, (l7.mk r9 s6 u7 a6B a6C (Sl.mk none 0 0)), a5z, a8f, a8g, rfl, rfl, b8H, h⟩
    refine v8 fun j1 hx1 => ?_
    refine g8 Tryz.call143 h aw ?_
    rintro _ o _ am aa _ _ ⟨k, z, rfl, rfl, h⟩
    refine b5 (j8 _ _ (Value.string k) rfl) (b5 (j8 _ _ (vB z) rfl) ?_)
    refine a0H (fun ae => ?_) (fun ae => ?_)
    ·replace h := h.1 ae
     refine b5 (s9 _) (b5 a7W (g9 (l1 Tryz.isAgg4 aa rfl) ?_))
     simp only [D2]
     refine N6 (D := fun an ab => ∃ (j : Bool) (l : Hp) , an = (gv x0.fnamed false (vB j)) ∧ (Inv w0 ps0 H0 l [bx g0 79 [(vi (IntKind.wrap .i64 (x0.fnodes + 1))), (vi (if x2 > x0.fdepth then x2 else x0.fdepth)), (vi x0.fe), (vB (x0.fform || (!d))), (vB x0.fnamed), (vs f)], n] ab) ∧ (∀ i, i < am.heap.size → ¬ inF [] i → ab.heap[i]? = am.heap[i]?) ∧ Hle o l ∧ (M0 b k l (fun (t : Bool) (m : Hp) =>
 ((!t) = true →
 (b.length + ([k] : List ByteArray).length) * 17 ≤ 140737488355328 ∧
 A5 (IntKind.wrap .i64 (x0.fnodes + 1)) (if x2 > x0.fdepth then x2 else x0.fdepth) x0.fe (x0.fform || (!d)) (x0.fnamed || (!j)) (b ++ [k]) m K) ∧
 ((!t) = false →
 A5 (IntKind.wrap .i64 (x0.fnodes + 1)) (if x2 > x0.fdepth then x2 else x0.fdepth) x0.fe (x0.fform || (!d)) (x0.fnamed || (!j)) b m K)))) (fun p => ?_) (fun p => ?_) ?_
     ·replace h := h.1 p
      have a := p
      simp only [o9 a]
      refine g8 Tryz.call144 h aa ?_
      rintro _ l _ ab af ao ap ⟨j, rfl, rfl, h⟩
      exact ⟨j, l, by rfl, af, ap, ao, h⟩
     ·exact ⟨false, o, by rw [W9 p], aa, fun _ _ _ => rfl, Hle.refl _, h.2 p⟩
     ·clear h
      rintro an ab ⟨j, l, rfl, af, ap, ao, h⟩
      refine b5 (Pu.g fun a => by simp only [o9 a]; with_reducible exact (U5 _)) ?_
      refine b5 (N5 _ _) (b5 (s9 _) (b5 a7W ?_))
      refine g7 af Tryz.sizeOf4 (vs := [(vB (x0.fnamed || (!j)))]) (cs' := [(vi (IntKind.wrap .i64 (x0.fnodes + 1))), (vi (if x2 > x0.fdepth then x2 else x0.fdepth)), (vi x0.fe), (vB (x0.fform || (!d))), (vB (x0.fnamed || (!j))), (vs f)]) rfl rfl (nb rfl) rfl rfl fun bm aq bn => ?_
      refine b5 (s9 _) (b5 a7X (g9 (l1 Tryz.isAgg77 aq rfl) ?_))
      refine g8 Tryz.call145 (h f n q) (aq.bring 1) ?_
      rintro _ m _ bo ag _ _ ⟨t, rfl, rfl, h⟩
      refine b5 (U5 _) ?_
      refine p5 h (fun _ h => ?_) (fun _ h => ?_)
      ·refine b5 (s9 _) (b5 a7X (g9 (l1 Tryz.isAgg77 (ag.bring 1) rfl) ?_))
       refine U7 (e := 9) (c := G0) (xs := [k]) ag (c0j _) rfl rfl a5K a5L (nb rfl) fun bp bq br ax ar bs => ?_
       obtain ⟨ay, h⟩ := h
       refine c2q (s := f) (xs := b) (ar.bring 1) q (ax.srcO ((ar.bring 1).bring 1)) ay fun ah az bt ba bb bu => ?_
       refine b5 (s9 _) (b5 a7X ?_)
       refine g7 ((bb.bring 1).drop.bring 1) Tryz.sizeOf77 (vs := [(vs ah)]) (cs' := [(vi (IntKind.wrap .i64 (x0.fnodes + 1))), (vi (if x2 > x0.fdepth then x2 else x0.fdepth)), (vi x0.fe), (vB (x0.fform || (!d))), (vB (x0.fnamed || (!j))), (vs ah)]) rfl rfl (nb rfl) rfl rfl fun bv bc bw => ?_
       exact hx1 _ _ (hj1 (IntKind.wrap .i64 (x0.fnodes + 1)) (if x2 > x0.fdepth then x2 else x0.fdepth) x0.fe (x0.fform || (!d)) (x0.fnamed || (!j)) (b ++ [k]) ah az m _ ba ((bc.bring 1).bring 1) h)
      ·exact hx1 _ _ (hj1 (IntKind.wrap .i64 (x0.fnodes + 1)) (if x2 > x0.fdepth then x2 else x0.fdepth) x0.fe (x0.fform || (!d)) (x0.fnamed || (!j)) b f n m _ q (ag.bring 1) h)
    ·replace h := h.2 ae
     exact hx1 _ _ (hj1 (IntKind.wrap .i64 (x0.fnodes + 1)) (if x2 > x0.fdepth then x2 else x0.fdepth) x0.fe (x0.fform || (!d)) x0.fnamed b f n o _ q ((aa.bring 1).bring 1) h)
def a3L (x0 : b6) (x1 : ByteArray) (H : Hp) (K : Bool → Hp → Prop) : Prop :=
 y8 x0 H (fun a b =>
 K (((decide (a.g6 = 3)) || (decide (a.g6 = 4))) && (decide (a.B3 = x1))) b)
theorem a6R (x0 x1) {H K} (h : a3L x0 x1 H K) : i7 x0 x1 H K := by
 intro g0
 refine Ct.of fun w0 w ps0 H0 R E I hR => c2C ?_
 unfold a3L at h
 unfold F53
 refine g8 Tryz.call51 (h g0) I ?_
 rintro _ d _ i e _ _ ⟨c, rfl, rfl, h⟩
 refine p8 e Tryz.zeroValue103 (cs := [(vi 0), (eS), (vi 0), (vi 0), (vi 0)]) rfl fun j k f l => ?_
 refine g7 f Tryz.sizeOf103 (vs := (d9 c)) (cs' := (d9 c)) rfl rfl (nb rfl) rfl rfl fun m b n => ?_
 refine b5 a0q (g9 (l1 Tryz.isAgg3 b rfl) (b5 pEq ?_))
 refine b5 (Pu.g fun a => by with_reducible exact a0q) ?_
 refine g9 (Ld.g fun a => by simp only [o9 a]; exact (l1 Tryz.isAgg3 b rfl)) ?_
 refine b5 (Pu.g fun a => by simp only [o9 a]; with_reducible exact pEq) ?_
 refine b5 (N5 _ _) ?_
 refine b5 (Pu.g fun a => by with_reducible exact Q5) ?_
 refine g9 (Ld.g fun a => by simp only [o9 a]; exact (l1 Tryz.isAgg9 b rfl)) ?_
 simp only [D2]
 refine b5 (Pu.g fun a => by simp only [o9 a]; with_reducible exact (R6 _ _ _ _ _)) ?_
 refine b5 (F6 _ _) ?_
 exact hR _ d _ _ b.drop ⟨(((decide (c.g6 = 3)) || (decide (c.g6 = 4))) && (decide (c.B3 = x1))), rfl, rfl, h⟩
def a1v (x0 : b6) (H : Hp) (K : Bool → Hp → Prop) : Prop :=
 y8 x0 H (fun a e =>
 TG ((decide (a.g6 = 1)) = false) (i7 x0 ⟨#[105, 102]⟩ e) false e (fun (b : Bool) (f : Hp) =>
 TG (((decide (a.g6 = 1)) || b) = false) (i7 x0 ⟨#[119, 104, 105, 108, 101]⟩ f) false f (fun (c : Bool) (g : Hp) =>
 TG ((((decide (a.g6 = 1)) || b) || c) = false) (i7 x0 ⟨#[97, 115, 115, 101, 114, 116]⟩ g) false g (fun (d : Bool) (i : Hp) =>
 TG (((((decide (a.g6 = 1)) || b) || c) || d) = false) (i7 x0 ⟨#[97, 115, 115, 117, 109, 101]⟩ i) false i (fun (j : Bool) (k : Hp) =>
 TG ((((((decide (a.g6 = 1)) || b) || c) || d) || j) = false) (i7 x0 ⟨#[115, 107, 105, 112]⟩ k) false k (fun (l : Bool) (m : Hp) =>
 K ((((((decide (a.g6 = 1)) || b) || c) || d) || j) || l) m))))))
theorem a4B (x0) {H K} (h : a1v x0 H K) : L8 x0 H K := by
 intro g0
 refine Ct.of fun w0 w ps0 H0 R E I hR => c2F ?_
 unfold a1v at h
 unfold F56
 refine g8 Tryz.call51 (h g0) I ?_
 rintro _ af _ ag ah _ _ ⟨c, rfl, rfl, h⟩
 refine b5 a4X (b5 pEq ?_)
 simp only [D2]
 refine N6 (D := fun ai t => ∃ (a : Bool) (n : Hp) , ai = (gv (decide (c.g6 = 1)) false (vB a)) ∧ (Inv w0 ps0 H0 n [bx g0 101 (b9 x0)] t) ∧ (∀ i, i < ag.heap.size → ¬ inF [bx g0 101 (b9 x0)] i → t.heap[i]? = ag.heap[i]?) ∧ Hle af n ∧ (TG (((decide (c.g6 = 1)) || a) = false) (i7 x0 ⟨#[119, 104, 105, 108, 101]⟩ n) false n (fun (b : Bool) (m : Hp) =>
 TG ((((decide (c.g6 = 1)) || a) || b) = false) (i7 x0 ⟨#[97, 115, 115, 101, 114, 116]⟩ m) false m (fun (d : Bool) (g : Hp) =>
 TG (((((decide (c.g6 = 1)) || a) || b) || d) = false) (i7 x0 ⟨#[97, 115, 115, 117, 109, 101]⟩ g) false g (fun (e : Bool) (f : Hp) =>
 TG ((((((decide (c.g6 = 1)) || a) || b) || d) || e) = false) (i7 x0 ⟨#[115, 107, 105, 112]⟩ f) false f (fun (k : Bool) (j : Hp) =>
 K ((((((decide (c.g6 = 1)) || a) || b) || d) || e) || k) j)))))) (fun o => ?_) (fun o => ?_) ?_
 ·replace h := h.1 o
  have l := o
  simp only [o9 l]
  refine g8 Tryz.call53 (h g0) ah ?_
  rintro _ n _ t z aj ak ⟨a, rfl, rfl, h⟩
  exact ⟨a, n, by rfl, z, ak, aj, h⟩
 ·exact ⟨false, af, by rw [W9 o], ah, fun _ _ _ => rfl, Hle.refl _, h.2 o⟩
 ·clear h
  rintro ai t ⟨a, n, rfl, z, ak, aj, h⟩
  refine b5 (N5 _ _) ?_
  simp only [D2]
  refine N6 (D := fun al u => ∃ (b : Bool) (m : Hp) , al = (gv ((decide (c.g6 = 1)) || a) false (vB b)) ∧ (Inv w0 ps0 H0 m [bx g0 101 (b9 x0)] u) ∧ (∀ i, i < t.heap.size → ¬ inF [bx g0 101 (b9 x0)] i → u.heap[i]? = t.heap[i]?) ∧ Hle n m ∧ (TG ((((decide (c.g6 = 1)) || a) || b) = false) (i7 x0 ⟨#[97, 115, 115, 101, 114, 116]⟩ m) false m (fun (d : Bool) (g : Hp) =>
 TG (((((decide (c.g6 = 1)) || a) || b) || d) = false) (i7 x0 ⟨#[97, 115, 115, 117, 109, 101]⟩ g) false g (fun (e : Bool) (f : Hp) =>
 TG ((((((decide (c.g6 = 1)) || a) || b) || d) || e) = false) (i7 x0 ⟨#[115, 107, 105, 112]⟩ f) false f (fun (k : Bool) (j : Hp) =>
 K ((((((decide (c.g6 = 1)) || a) || b) || d) || e) || k) j))))) (fun p => ?_) (fun p => ?_) ?_
  ·replace h := h.1 p
   have l := p
   simp only [o9 l]
   refine g8 Tryz.call53 (h g0) z ?_
   rintro _ m _ u aa am an ⟨b, rfl, rfl, h⟩
   exact ⟨b, m, by rfl, aa, an, am, h⟩
  ·exact ⟨false, n, by rw [W9 p], z, fun _ _ _ => rfl, Hle.refl _, h.2 p⟩
  ·clear h
   rintro al u ⟨b, m, rfl, aa, an, am, h⟩
   refine b5 (N5 _ _) ?_
   simp only [D2]
   refine N6 (D := fun ao v => ∃ (d : Bool) (g : Hp) , ao = (gv (((decide (c.g6 = 1)) || a) || b) false (vB d)) ∧ (Inv w0 ps0 H0 g [bx g0 101 (b9 x0)] v) ∧ (∀ i, i < u.heap.size → ¬ inF [bx g0 101 (b9 x0)] i → v.heap[i]? = u.heap[i]?) ∧ Hle m g ∧ (TG (((((decide (c.g6 = 1)) || a) || b) || d) = false) (i7 x0 ⟨#[97, 115, 115, 117, 109, 101]⟩ g) false g (fun (e : Bool) (f : Hp) =>
 TG ((((((decide (c.g6 = 1)) || a) || b) || d) || e) = false) (i7 x0 ⟨#[115, 107, 105, 112]⟩ f) false f (fun (k : Bool) (j : Hp) =>
 K ((((((decide (c.g6 = 1)) || a) || b) || d) || e) || k) j)))) (fun q => ?_) (fun q => ?_) ?_
   ·replace h := h.1 q
    have l := q
    simp only [o9 l]
    refine g8 Tryz.call53 (h g0) aa ?_
    rintro _ g _ v ab ap aq ⟨d, rfl, rfl, h⟩
    exact ⟨d, g, by rfl, ab, aq, ap, h⟩
   ·exact ⟨false, m, by rw [W9 q], aa, fun _ _ _ => rfl, Hle.refl _, h.2 q⟩
   ·clear h
    rintro ao v ⟨d, g, rfl, ab, aq, ap, h⟩
    refine b5 (N5 _ _) ?_
    simp only [D2]
    refine N6 (D := fun ar y => ∃ (e : Bool) (f : Hp) , ar = (gv ((((decide (c.g6 = 1)) || a) || b) || d) false (vB e)) ∧ (Inv w0 ps0 H0 f [bx g0 101 (b9 x0)] y) ∧ (∀ i, i < v.heap.size → ¬ inF [bx g0 101 (b9 x0)] i → y.heap[i]? = v.heap[i]?) ∧ Hle g f ∧ (TG ((((((decide (c.g6 = 1)) || a) || b) || d) || e) = false) (i7 x0 ⟨#[115, 107, 105, 112]⟩ f) false f (fun (k : Bool) (j : Hp) =>
 K ((((((decide (c.g6 = 1)) || a) || b) || d) || e) || k) j))) (fun r => ?_) (fun r => ?_) ?_
    ·replace h := h.1 r
     have l := r
     simp only [o9 l]
     refine g8 Tryz.call53 (h g0) ab ?_
     rintro _ f _ y ac au av ⟨e, rfl, rfl, h⟩
     exact ⟨e, f, by rfl, ac, av, au, h⟩
    ·exact ⟨false, g, by rw [W9 r], ab, fun _ _ _ => rfl, Hle.refl _, h.2 r⟩
    ·clear h
     rintro ar y ⟨e, f, rfl, ac, av, au, h⟩
     refine b5 (N5 _ _) ?_
     simp only [D2]
     refine N6 (D := fun aw ad => ∃ (k : Bool) (j : Hp) , aw = (gv (((((decide (c.g6 = 1)) || a) || b) || d) || e) false (vB k)) ∧ (Inv w0 ps0 H0 j [bx g0 101 (b9 x0)] ad) ∧ (∀ i, i < y.heap.size → ¬ inF [bx g0 101 (b9 x0)] i → ad.heap[i]? = y.heap[i]?) ∧ Hle f j ∧ (K ((((((decide (c.g6 = 1)) || a) || b) || d) || e) || k) j)) (fun s => ?_) (fun s => ?_) ?_
     ·replace h := h.1 s
      have l := s
      simp only [o9 l]
      refine g8 Tryz.call53 (h g0) ac ?_
      rintro _ j _ ad ae ax ay ⟨k, rfl, rfl, h⟩
      exact ⟨k, j, by rfl, ae, ay, ax, h⟩
     ·exact ⟨false, f, by rw [W9 s], ac, fun _ _ _ => rfl, Hle.refl _, h.2 s⟩
     ·clear h
      rintro aw ad ⟨k, j, rfl, ae, ay, ax, h⟩
      refine b5 (N5 _ _) ?_
      exact hR _ j _ _ ae ⟨((((((decide (c.g6 = 1)) || a) || b) || d) || e) || k), rfl, rfl, h⟩
def a3j [PanQ] (x0 : b6) (H : Hp) (K : Hp → Prop) : Prop :=
 y8 x0 H (fun a b =>
 PanQ.q (Value.iface 98 (Value.agg #[(vi a.fAt.A6), (vi a.fAt.E7), (vi 40)])))
theorem a6n [PanQ] (x0 : b6) {H : Hp} {K : Hp → Prop} (h : a3j x0 H K) : C6 x0 H K := by
 intro g0
 refine Ct.ofE fun w0 w ps0 H0 R E I hR hE => c2B ?_
 unfold a3j at h
 unfold F52
 refine g8 Tryz.call51 (h g0) I ?_
 rintro _ b _ c a _ _ ⟨d, rfl, rfl, h⟩
 refine b5 a8J (b5 (a8t _ _ _) (b5 (a9K _ _ _) ?_))
 exact a7f (hE _ _ _ _ a ⟨_, rfl, h⟩)
def a3w (x0 : b6) (x1 : ByteArray) (H : Hp) (K : Bool → b6 → Hp → Prop) : Prop :=
 i7 x0 x1 H (fun a b =>
 ((!a) = true →
 K false x0 b) ∧
 ((!a) = false →
 K true (b6.mk x0.fl (IntKind.wrap .i64 (x0.fn + 1))) b))
theorem a6y (x0 x1) {H K} (h : a3w x0 x1 H K) : s7 x0 x1 H K := by
 intro g0
 refine Ct.of fun w0 w ps0 H0 R E I hR => c0s ?_
 unfold a3w at h
 unfold c3d
 refine g8 Tryz.call53 (h g0) I ?_
 rintro _ b _ d a _ _ ⟨e, rfl, rfl, h⟩
 refine b5 (U5 _) ?_
 refine p5 h (fun _ h => ?_) (fun _ h => ?_)
 ·exact hR _ b _ _ a ⟨false, x0, rfl, rfl, h⟩
 ·refine b5 (s9 _) (b5 a2p (g9 (l1 Tryz.isAgg3 a rfl) (b5 pAd (b5 (s9 _) ?_))))
  refine b5 a2p ?_
  refine g7 a Tryz.sizeOf3 (vs := [(vi (IntKind.wrap .i64 (x0.fn + 1)))]) (cs' := [(vs x0.fl), (vi (IntKind.wrap .i64 (x0.fn + 1)))]) rfl rfl (nb rfl) rfl rfl fun f c g => ?_
  exact hR _ b _ _ c ⟨true, (b6.mk x0.fl (IntKind.wrap .i64 (x0.fn + 1))), rfl, rfl, h⟩
def a1w (x0 : b6) (H : Hp) (K : Bool → Hp → Prop) : Prop :=
 y8 x0 H (fun a c =>
 TG (((decide (a.g6 = 1)) || (decide (a.g6 = 2))) = false) (i7 x0 ⟨#[45]⟩ c) false c (fun (b : Bool) (d : Hp) =>
 TG ((((decide (a.g6 = 1)) || (decide (a.g6 = 2))) || b) = false) (i7 x0 ⟨#[105, 110, 112, 117, 116]⟩ d) false d (fun (e : Bool) (f : Hp) =>
 TG (((((decide (a.g6 = 1)) || (decide (a.g6 = 2))) || b) || e) = false) (i7 x0 ⟨#[40]⟩ f) false f (fun (g : Bool) (i : Hp) =>
 K (((((decide (a.g6 = 1)) || (decide (a.g6 = 2))) || b) || e) || g) i))))
theorem a4C (x0) {H K} (h : a1w x0 H K) : E1 x0 H K := by
 intro g0
 refine Ct.of fun w0 w ps0 H0 R E I hR => c0M ?_
 unfold a1w at h
 unfold c3x
 refine g8 Tryz.call51 (h g0) I ?_
 rintro _ u _ v y _ _ ⟨b, rfl, rfl, h⟩
 refine b5 a4X (b5 pEq ?_)
 simp only [D2]
 refine b5 (Pu.g fun a => by simp only [o9 a]; with_reducible exact pEq) ?_
 refine b5 (N5 _ _) ?_
 simp only [D2]
 refine N6 (D := fun z o => ∃ (c : Bool) (k : Hp) , z = (gv ((decide (b.g6 = 1)) || (decide (b.g6 = 2))) false (vB c)) ∧ (Inv w0 ps0 H0 k [bx g0 101 (b9 x0)] o) ∧ (∀ i, i < v.heap.size → ¬ inF [bx g0 101 (b9 x0)] i → o.heap[i]? = v.heap[i]?) ∧ Hle u k ∧ (TG ((((decide (b.g6 = 1)) || (decide (b.g6 = 2))) || c) = false) (i7 x0 ⟨#[105, 110, 112, 117, 116]⟩ k) false k (fun (d : Bool) (e : Hp) =>
 TG (((((decide (b.g6 = 1)) || (decide (b.g6 = 2))) || c) || d) = false) (i7 x0 ⟨#[40]⟩ e) false e (fun (j : Bool) (f : Hp) =>
 K (((((decide (b.g6 = 1)) || (decide (b.g6 = 2))) || c) || d) || j) f)))) (fun l => ?_) (fun l => ?_) ?_
 ·replace h := h.1 l
  have a := l
  simp only [o9 a]
  refine g8 Tryz.call53 (h g0) y ?_
  rintro _ k _ o q aa ab ⟨c, rfl, rfl, h⟩
  exact ⟨c, k, by rfl, q, ab, aa, h⟩
 ·exact ⟨false, u, by rw [W9 l], y, fun _ _ _ => rfl, Hle.refl _, h.2 l⟩
 ·clear h
  rintro z o ⟨c, k, rfl, q, ab, aa, h⟩
  refine b5 (N5 _ _) ?_
  simp only [D2]
  refine N6 (D := fun ac p => ∃ (d : Bool) (e : Hp) , ac = (gv (((decide (b.g6 = 1)) || (decide (b.g6 = 2))) || c) false (vB d)) ∧ (Inv w0 ps0 H0 e [bx g0 101 (b9 x0)] p) ∧ (∀ i, i < o.heap.size → ¬ inF [bx g0 101 (b9 x0)] i → p.heap[i]? = o.heap[i]?) ∧ Hle k e ∧ (TG (((((decide (b.g6 = 1)) || (decide (b.g6 = 2))) || c) || d) = false) (i7 x0 ⟨#[40]⟩ e) false e (fun (j : Bool) (f : Hp) =>
 K (((((decide (b.g6 = 1)) || (decide (b.g6 = 2))) || c) || d) || j) f))) (fun m => ?_) (fun m => ?_) ?_
  ·replace h := h.1 m
   have a := m
   simp only [o9 a]
   refine g8 Tryz.call53 (h g0) q ?_
   rintro _ e _ p r ad ae ⟨d, rfl, rfl, h⟩
   exact ⟨d, e, by rfl, r, ae, ad, h⟩
  ·exact ⟨false, k, by rw [W9 m], q, fun _ _ _ => rfl, Hle.refl _, h.2 m⟩
  ·clear h
   rintro ac p ⟨d, e, rfl, r, ae, ad, h⟩
   refine b5 (N5 _ _) ?_
   simp only [D2]
   refine N6 (D := fun af s => ∃ (j : Bool) (f : Hp) , af = (gv ((((decide (b.g6 = 1)) || (decide (b.g6 = 2))) || c) || d) false (vB j)) ∧ (Inv w0 ps0 H0 f [bx g0 101 (b9 x0)] s) ∧ (∀ i, i < p.heap.size → ¬ inF [bx g0 101 (b9 x0)] i → s.heap[i]? = p.heap[i]?) ∧ Hle e f ∧ (K (((((decide (b.g6 = 1)) || (decide (b.g6 = 2))) || c) || d) || j) f)) (fun n => ?_) (fun n => ?_) ?_
   ·replace h := h.1 n
    have a := n
    simp only [o9 a]
    refine g8 Tryz.call53 (h g0) r ?_
    rintro _ f _ s t ag ah ⟨j, rfl, rfl, h⟩
    exact ⟨j, f, by rfl, t, ah, ag, h⟩
   ·exact ⟨false, e, by rw [W9 n], r, fun _ _ _ => rfl, Hle.refl _, h.2 n⟩
   ·clear h
    rintro af s ⟨j, f, rfl, t, ah, ag, h⟩
    refine b5 (N5 _ _) ?_
    exact hR _ f _ _ t ⟨(((((decide (b.g6 = 1)) || (decide (b.g6 = 2))) || c) || d) || j), rfl, rfl, h⟩
def a0F [PanQ] (x0 : b6) (x1 : Int) (x2 : ByteArray) (H : Hp) (K : d7 → b6 → Hp → Prop) : Prop :=
 E1 x0 H (fun a b =>
 B1 x0 (IntKind.wrap .i64 (x1 + 1)) a b (fun c =>
 M7 x0 (IntKind.wrap .i64 (x1 + 1)) c (fun d e f =>
 A7 e x2 f (fun g i =>
 K d g i))))
theorem a6a [PanQ] (x0 : b6) (x1 : Int) (x2 : ByteArray) {H : Hp} {K : d7 → b6 → Hp → Prop} (h : a0F x0 x1 x2 H K) : Q9 x0 x1 x2 H K := by
 intro g0
 refine Ct.ofE fun w0 w ps0 H0 R E I hR hE => c0t ?_
 unfold a0F at h
 unfold c3e
 refine p8 I Tryz.zeroValue40 (cs := [(vi 0), (vi 0), (eS), (nS)]) rfl fun m n d p => ?_
 refine b5 pAd ?_
 refine g8 Tryz.call141 (h g0) (d.bring 1) ?_
 rintro _ _ _ q e _ _ ⟨r, rfl, rfl, h⟩
 refine v7 hE Tryz.call55 (h g0) e ?_
 rintro _ _ _ s f _ _ ⟨rfl, rfl, h⟩
 refine b5 pAd ?_
 refine v7 hE Tryz.call35 (h g0) f ?_
 rintro _ _ _ t g _ _ ⟨a, u, rfl, rfl, h⟩
 refine p8 g Tryz.zeroValue40 (cs := [(vi 0), (vi 0), (eS), (nS)]) rfl fun v y i z => ?_
 refine g7 i Tryz.sizeOf40 (vs := (f9 a)) (cs' := (f9 a)) rfl rfl (nb rfl) rfl rfl fun aa j ab => ?_
 refine v7 hE Tryz.call103 (h g0) (j.bring 1) ?_
 rintro _ k _ ac b _ _ ⟨l, rfl, rfl, h⟩
 refine g9 (lW Tryz.isAgg40 Tryz.sizeOf40 rfl (b.bring 1)) ?_
 refine g7 (b.bring 2) Tryz.sizeOf40 (vs := (f9 a)) (cs' := (f9 a)) rfl rfl (nb rfl) rfl rfl fun ad c ae => ?_
 refine y2 Tryz.isAgg40 Tryz.sizeOf40 rfl (c.at1 (o := 0) (vs := (f9 a)) (nb rfl) rfl) ?_
 exact hR _ k _ _ (c.drop.bring 1).drop ⟨a, l, rfl, rfl, h⟩
def a2D (x0 : Int) (H : Hp) (K : Bool → Hp → Prop) : Prop :=
 K (!decide (x0 = 10)) H
theorem a5A (x0) {H K} (h : a2D x0 H K) : Z9 x0 H K := by
 refine Ct.of fun w0 w ps0 H0 R E I hR => c0H ?_
 unfold a2D at h
 unfold c3s
 refine b5 pNe ?_
 exact hR _ H _ _ I ⟨(!decide (x0 = 10)), rfl, rfl, h⟩
def a1x (x0 : d6) (a : (List b7)) (H : Hp) (K : d6 → (List b7) → Hp → Prop) : Prop :=
 Q1 (q9 x0) a H (fun e f =>
 V9 e f (fun b c d =>
 (b = 10 →
 K (d6.mk x0.fs (IntKind.wrap .i64 (x0.fn + c)) (c8.mk (IntKind.wrap .i64 (x0.fat.A6 + 1)) 1) (Sl.mk none 0 0)) a d) ∧
 (¬ (b = 10) →
 K (d6.mk x0.fs (IntKind.wrap .i64 (x0.fn + c)) (c8.mk x0.fat.A6 (IntKind.wrap .i64 (x0.fat.E7 + 1))) (Sl.mk none 0 0)) a d)))
theorem a6S (x0 c) {H K} (h : a1x x0 c H K) : z6 x0 c H K := by
 intro g0 b d e
 refine Ct.of fun w0 w ps0 H0 R E I hR => c0R ?_
 unfold a1x at h
 unfold c3C
 refine g8 Tryz.call135 (h g0 b d e) ((I.bring 1).bring 1) ?_
 rintro _ n _ o k _ _ ⟨p, rfl, rfl, h⟩
 refine g8 Tryz.call128 h k ?_
 rintro _ g _ q i _ _ ⟨l, a, rfl, rfl, h⟩
 refine b5 (j8 _ _ (Value.int .i32 l) rfl) (b5 (j8 _ _ (vi a) rfl) (b5 (s9 _) (b5 U2 (g9 (l1 Tryz.isAgg3 i rfl) ?_))))
 refine b5 pAd (b5 (s9 _) (b5 U2 ?_))
 refine g7 i Tryz.sizeOf3 (vs := [(vi (IntKind.wrap .i64 (x0.fn + a)))]) (cs' := [(Value.string x0.fs), (vi (IntKind.wrap .i64 (x0.fn + a))), (vi x0.fat.A6), (vi x0.fat.E7), (vs b)]) rfl rfl (nb rfl) rfl rfl fun r j s => ?_
 refine b5 (s9 _) (b5 a3l (b5 b0B (g9 (l1 Tryz.isAgg3 j rfl) (b5 pAd ?_))))
 refine b5 (s9 _) (b5 a3l (b5 b0B ?_))
 refine g7 j Tryz.sizeOf3 (vs := [(vi (IntKind.wrap .i64 (x0.fat.E7 + 1)))]) (cs' := [(Value.string x0.fs), (vi (IntKind.wrap .i64 (x0.fn + a))), (vi x0.fat.A6), (vi (IntKind.wrap .i64 (x0.fat.E7 + 1))), (vs b)]) rfl rfl (nb rfl) rfl rfl fun t f u => ?_
 refine b5 pEq ?_
 refine k7 h (fun _ h => ?_) (fun _ h => ?_)
 ·refine b5 (s9 _) (b5 a3l (b5 b6q (g9 (l1 Tryz.isAgg3 f rfl) (b5 pAd ?_))))
  refine b5 (a6c _ _) (b5 (s9 _) (b5 a3l ?_))
  refine g7 f Tryz.sizeOf28 (vs := [(vi (IntKind.wrap .i64 (x0.fat.A6 + 1))), (vi 1)]) (cs' := [(Value.string x0.fs), (vi (IntKind.wrap .i64 (x0.fn + a))), (vi (IntKind.wrap .i64 (x0.fat.A6 + 1))), (vi 1), (vs b)]) rfl rfl (nb rfl) rfl rfl fun v m y => ?_
  exact hR _ g _ _ ((m.bring 1).bring 1) ⟨(d6.mk x0.fs (IntKind.wrap .i64 (x0.fn + a)) (c8.mk (IntKind.wrap .i64 (x0.fat.A6 + 1)) 1) (Sl.mk none 0 0)), c, b, d, rfl, rfl, e, h⟩
 ·exact hR _ g _ _ ((f.bring 1).bring 1) ⟨(d6.mk x0.fs (IntKind.wrap .i64 (x0.fn + a)) (c8.mk x0.fat.A6 (IntKind.wrap .i64 (x0.fat.E7 + 1))) (Sl.mk none 0 0)), c, b, d, rfl, rfl, e, h⟩
def u4 (Q7 : Int) (r9 : ByteArray) (s6 : Int) (u7 : c8) (B2 : (List b7)) (H : Hp) (K : ByteArray → d6 → (List b7) → Hp → Prop) : Prop :=
 (0 : Int) ≤ Q7 ∧ (Q7 : Int) ≤ s6 ∧ (s6 : Int) ≤ r9.size ∧
 K (r9.extract (Q7 : Int).toNat (s6 : Int).toNat) (d6.mk r9 s6 u7 (Sl.mk none 0 0)) B2 H
def y4 (a9Y : Int) (E8 : Int) (y1 : Bool) (o7 : ByteArray) (o8 : Int) (m6 : c8) (m8 : (List b7)) (H : Hp) (n2 : (Int × Bool × ByteArray × Int × c8 × (List b7)) → Hp → Prop) (K : ByteArray → d6 → (List b7) → Hp → Prop) : Prop :=
 TG (y1 = true) (a0b E8 H) false H (fun (b : Bool) (c : Hp) =>
 ((y1 && b) = true →
 z6 (d6.mk o7 o8 m6 (Sl.mk none 0 0)) m8 c (fun a d e =>
 u9 (q9 a) d e (fun f g i =>
 n2 (f, g, a.fs, a.fn, a.fat, d) i))) ∧
 ((y1 && b) = false →
 u4 a9Y o7 o8 m6 m8 c K))
def H8 (x0 : d6) (a : (List b7)) (H : Hp) (K : ByteArray → d6 → (List b7) → Hp → Prop) : Prop :=
 u9 (q9 x0) a H (fun b c d =>
 TL ((b, c, x0.fs, x0.fn, x0.fat, a) : Int × Bool × ByteArray × Int × c8 × (List b7)) d fun (s : Int × Bool × ByteArray × Int × c8 × (List b7)) H n2 => y4 x0.fn s.1 s.2.1 s.2.2.1 s.2.2.2.1 s.2.2.2.2.1 s.2.2.2.2.2 H n2 K)
theorem a0v (x0 q) {H K} (h : H8 x0 q H K) : C9 x0 q H K := by
 intro g0 y z aa
 refine Ct.of fun w0 w ps0 H0 R E I hR => a9h ?_
 unfold H8 at h
 unfold b3T
 refine b5 (s9 _) (b5 U2 (g9 (l1 Tryz.isAgg3 I rfl) ?_))
 have hj1 : ∀ (r9 : ByteArray) (s6 : Int) (u7 : c8) (B2 : (List b7)) (R5 : Sl) (K3 : Frag) H w (_ : RowL 103 5 d9 R5 B2 K3) (_ : Inv w0 ps0 H0 H [bx g0 155 [(Value.string r9), (vi s6), (vi u7.A6), (vi u7.E7), (vs R5)], K3] w) (_ : u4 x0.fn r9 s6 u7 B2 H K), a3X (Value.pointer (some ⟨g0, 0, none⟩)) (vi x0.fn) w R E := by
  intro r9 s6 u7 B2 R5 K3 H w a2r I h
  unfold a3X
  intro _
  unfold u4 at h
  refine V7 I fun ax r => ?_
  refine p7 (s9 _) ?_
  refine p7 a4p ?_
  refine p7 (s9 _) ?_
  refine p7 U2 ?_
  refine C7 (l1 Tryz.isAgg9 r rfl) ?_
  refine C7 (l1 Tryz.isAgg3 r rfl) ?_
  obtain ⟨ak, al, am, h⟩ := h
  refine p7 (a7Q r9 Tryz.underlying9 ak al am) ?_
  exact hR _ H _ _ ((r.bring 1).bring 1) ⟨(r9.extract (x0.fn : Int).toNat (s6 : Int).toNat), (d6.mk r9 s6 u7 (Sl.mk none 0 0)), B2, R5, K3, rfl, rfl, a2r, h⟩
 refine v8 fun j1 hx1 => ?_
 refine g8 Tryz.call100 (h g0 y z aa) ((I.bring 1).bring 1) ?_
 rintro _ an _ ay ao _ _ ⟨ab, ac, rfl, rfl, h⟩
 refine b5 (j8 _ _ (Value.int .i32 ab) rfl) (b5 (j8 _ _ (vB ac) rfl) ?_)
 obtain ⟨t, g, ap, aq⟩ := h
 refine E9 (J := fun n l w => ∃ (s : Int × Bool × ByteArray × Int × c8 × (List b7)) (H : Hp) (G3 : Sl) (C5 : Frag) , n = g s ∧ l = (match s with | (E8, y1, o7, o8, m6, m8) => [(Value.int .i32 E8), (vB y1)]) ∧ (match s with | (E8, y1, o7, o8, m6, m8) => RowL 103 5 d9 G3 m8 C5) ∧ (match s with | (E8, y1, o7, o8, m6, m8) => Inv w0 ps0 H0 H [bx g0 155 [(Value.string o7), (vi o8), (vi m6.A6), (vi m6.E7), (vs G3)], C5] w) ∧ t s H) ⟨_, (ab, ac, x0.fs, x0.fn, x0.fat, q), an, y, z, rfl, rfl, aa, ((ao.bring 1).bring 1), ap⟩ ?_
 rintro az ba w next2 ⟨⟨E8, y1, o7, o8, m6, m8⟩, H, G3, C5, rfl, u, O0, I, ar⟩ hn2
 dsimp only at u I O0
 simp only [List.map_cons, List.map_nil, List.cons.injEq, and_true] at u
 obtain ⟨e6, e7⟩ := u
 simp only [e6, e7]
 obtain ⟨n2, hm2, h⟩ : ∃ n2 : (Int × Bool × ByteArray × Int × c8 × (List b7)) → Hp → Prop, (∀ s' H', n2 s' H' → t s' H' ∧ g s' < g (E8, y1, o7, o8, m6, m8)) ∧ y4 x0.fn E8 y1 o7 o8 m6 m8 H n2 K := ⟨_, fun _ _ h => h, aq (E8, y1, o7, o8, m6, m8) H (fun s' H' => t s' H' ∧ g s' < g (E8, y1, o7, o8, m6, m8)) ar (fun _ _ a b => ⟨a, b⟩)⟩
 unfold a7G
 unfold y4 at h
 simp only [D2]
 refine N6 (D := fun ad j => ∃ (f : Bool) (c : Hp) , ad = (gv y1 true (vB f)) ∧ (Inv w0 ps0 H0 c [bx g0 155 [(Value.string o7), (vi o8), (vi m6.A6), (vi m6.E7), (vs G3)], C5] j) ∧ (∀ i, i < w.heap.size → ¬ inF [] i → j.heap[i]? = w.heap[i]?) ∧ Hle H c ∧ (((y1 && f) = true →
 z6 (d6.mk o7 o8 m6 (Sl.mk none 0 0)) m8 c (fun (d : d6) (k : (List b7)) (au : Hp) =>
 u9 (q9 d) k au (fun (m : Int) (o : Bool) (v : Hp) =>
 n2 (m, o, d.fs, d.fn, d.fat, k) v))) ∧
 ((y1 && f) = false →
 u4 x0.fn o7 o8 m6 m8 c K))) (fun e => ?_) (fun e => ?_) ?_
 ·replace h := h.1 e
  have ae := e
  simp only [o9 ae]
  refine g8 Tryz.call131 h I ?_
  rintro _ c _ j p af ag ⟨f, rfl, rfl, h⟩
  exact ⟨f, c, by rfl, p, ag, af, h⟩
 ·exact ⟨false, H, by rw [W9 e], I, fun _ _ _ => rfl, Hle.refl _, h.2 e⟩
 ·clear h
  rintro ad j ⟨f, c, rfl, p, ag, af, h⟩
  refine b5 (F6 _ _) ?_
  refine p5 h (fun _ h => ?_) (fun _ h => ?_)
  ·refine g8 Tryz.call152 (h g0 G3 C5 O0) ((p.bring 1).bring 1) ?_
   rintro _ _ _ bb av _ _ ⟨d, k, ah, ai, rfl, rfl, aj, h⟩
   refine g8 Tryz.call100 (h g0 ah ai aj) ((av.bring 1).bring 1) ?_
   rintro _ v _ bc aw _ _ ⟨m, o, rfl, rfl, h⟩
   refine b5 (j8 _ _ (Value.int .i32 m) rfl) (b5 (j8 _ _ (vB o) rfl) ?_)
   exact hn2 _ _ _ (hm2 _ _ h).2 ⟨(m, o, d.fs, d.fn, d.fat, k), v, ah, ai, rfl, rfl, aj, ((aw.bring 1).bring 1), (hm2 _ _ h).1⟩
  ·exact hx1 _ _ (hj1 o7 o8 m6 m8 G3 C5 c _ O0 ((p.bring 1).bring 1) h)
def a0X (x0 : d6) (j : (List b7)) (H : Hp) (K : b7 → Int → d6 → (List b7) → Hp → Prop) : Prop :=
 G9 (q9 x0) j H (fun a c d k =>
 a5T a 10 64 k (fun l b m =>
 u9 (q9 c) d m (fun n e f =>
 okI b ∧
 ((!(!isNilI b) && (decide (1 < (a.size : Int)))) = true → (0 : Int) ≤ 0 ∧ 0 < (a.size : Int)) ∧
 TG ((!((!isNilI b) || ((decide (1 < (a.size : Int))) && (decide (((a.get! (0 : Int).toNat).toNat : Int) = 48)))) && e) = true) (O9 n f) 0 f (fun (g : Int) (i : Hp) =>
 ((((!isNilI b) || ((decide (1 < (a.size : Int))) && (decide (((a.get! (0 : Int).toNat).toNat : Int) = 48)))) || (e && (decide (g = 3)))) = true →
 K (b7.mk 2 a 0 (c8.mk 0 0)) 21 (q9 c) d i) ∧
 ((((!isNilI b) || ((decide (1 < (a.size : Int))) && (decide (((a.get! (0 : Int).toNat).toNat : Int) = 48)))) || (e && (decide (g = 3)))) = false →
 K (b7.mk 2 a l (c8.mk 0 0)) 0 (q9 c) d i)))))
theorem a6o (x0 z) {H K} (h : a0X x0 z H K) : a3e x0 z H K := by
 intro g0 aj ak al
 refine Ct.of fun w0 w ps0 H0 R E I hR => c0J ?_
 unfold a0X at h
 unfold c3u
 refine p8 I Tryz.zeroValue103 (cs := [(vi 0), (eS), (vi 0), (vi 0), (vi 0)]) rfl fun am aw an ax => ?_
 refine g8 Tryz.call133 (h g0 aj ak al) ((an.bring 2).bring 2) ?_
 rintro _ _ _ ay ao _ _ ⟨c, n, q, r, s, rfl, rfl, y, h⟩
 refine b5 (a3V _ _) ?_
 refine p8 ao Tryz.zeroValue103 (cs := [(vi 0), (eS), (vi 0), (vi 0), (vi 0)]) rfl fun ap az aq ba => ?_
 refine g7 aq Tryz.sizeOf103 (vs := [(vi 2), (Value.string c), (vi 0), (vi 0), (vi 0)]) (cs' := [(vi 2), (Value.string c), (vi 0), (vi 0), (vi 0)]) rfl rfl (nb rfl) rfl rfl fun bb aa bc => ?_
 refine b5 Q5 (g9 (l1 Tryz.isAgg9 aa rfl) ?_)
 refine g8 Tryz.call158 h aa ?_
 rintro _ _ _ bd ar _ _ ⟨f, t, rfl, rfl, h⟩
 refine b5 (j8 _ _ (vi f) rfl) (b5 (j8 _ _ t rfl) ?_)
 refine g8 Tryz.call100 (h g0 r s y) ((ar.bring 2).bring 2) ?_
 rintro _ ab _ ac j _ _ ⟨au, u, rfl, rfl, h⟩
 refine b5 (j8 _ _ (Value.int .i32 au) rfl) (b5 (j8 _ _ (vB u) rfl) ?_)
 obtain ⟨av, h⟩ := h
 refine b5 (b6s _ av) ?_
 refine b5 (Pu.g fun a => by with_reducible exact Q5) ?_
 refine g9 (Ld.g fun a => by simp only [o9 a]; exact (l1 Tryz.isAgg9 (j.bring 2) rfl)) ?_
 refine b5 (Pu.g fun a => by simp only [o9 a]; with_reducible exact (a3B _)) ?_
 refine b5 (Pu.g fun a => by simp only [o9 a]; with_reducible exact pGt) ?_
 simp only [D2, b0p]
 refine b5 (Pu.e (a1Y _ _ _) (Pu.g fun hb => by obtain ⟨a, b⟩ := a4r hb; with_reducible exact Q5)) ?_
 refine g9 (Ld.e (a1Y _ _ _) (Ld.g fun hb => by obtain ⟨a, b⟩ := a4r hb; simp only [o9 hb]; exact (l1 Tryz.isAgg9 (j.bring 2) rfl))) ?_
 obtain ⟨d, h⟩ := h
 refine b5 (Pu.e (a1Y _ _ _) (Pu.g fun hb => by obtain ⟨a, b⟩ := a4r hb; simp only [o9 hb]; with_reducible exact (c0i _ _ _ (d hb).1 (d hb).2))) ?_
 refine b5 (Pu.e (a1Y _ _ _) (Pu.g fun hb => by obtain ⟨a, b⟩ := a4r hb; simp only [o9 hb]; with_reducible exact pEq)) ?_
 refine b5 (Pu.g fun a => by simp only [o9 a, b0o a]; with_reducible exact (F6 _ _)) ?_
 refine b5 (N5 _ _) ?_
 simp only [D2, b0p, b7i]
 refine b9K (a1Y _ _ _) ?_
 refine N6 (D := fun ad v => ∃ (m : Int) (k : Hp) , ad = (gv (!((!isNilI t) || ((decide (1 < (c.size : Int))) && (decide (((c.get! (0 : Int).toNat).toNat : Int) = 48)))) && u) true (vi m)) ∧ (Inv w0 ps0 H0 k [bx g0 155 (r8 n r), s, bx ap 103 [(vi 2), (Value.string c), (vi 0), (vi 0), (vi 0)], bx am 103 [(vi 0), (eS), (vi 0), (vi 0), (vi 0)]] v) ∧ (∀ i, i < ac.heap.size → ¬ inF [] i → v.heap[i]? = ac.heap[i]?) ∧ Hle ab k ∧ (((((!isNilI t) || ((decide (1 < (c.size : Int))) && (decide (((c.get! (0 : Int).toNat).toNat : Int) = 48)))) || (u && (decide (m = 3)))) = true →
 K (b7.mk 2 c 0 (c8.mk 0 0)) 21 (q9 n) q k) ∧
 ((((!isNilI t) || ((decide (1 < (c.size : Int))) && (decide (((c.get! (0 : Int).toNat).toNat : Int) = 48)))) || (u && (decide (m = 3)))) = false →
 K (b7.mk 2 c f (c8.mk 0 0)) 0 (q9 n) q k))) (fun l => ?_) (fun l => ?_) ?_
 ·replace h := h.1 l
  obtain ⟨a, b⟩ := a4r l
  simp only [o9 l]
  refine g8 Tryz.call132 h j ?_
  rintro _ k _ v p ae af ⟨m, rfl, rfl, h⟩
  exact ⟨m, k, by rfl, p, af, ae, h⟩
 ·exact ⟨0, ab, by rw [W9 l], j, fun _ _ _ => rfl, Hle.refl _, h.2 l⟩
 ·clear h
  rintro ad v ⟨m, k, rfl, p, af, ae, h⟩
  refine b5 (Pu.e (a1Y _ _ _) (Pu.g fun hb => by obtain ⟨a, b⟩ := a4r hb; simp only [o9 hb]; with_reducible exact pEq)) ?_
  refine b5 (Pu.g fun a => by simp only [o9 a, b0o a]; with_reducible exact (F6 _ _)) ?_
  refine b5 (N5 _ _) ?_
  refine p5 h (fun _ h => ?_) (fun _ h => ?_)
  ·refine g9 (ldA Tryz.isAgg103 Tryz.sizeOf103 rfl ((p.bring 2).at1 (o := 0) (vs := [(vi 2), (Value.string c), (vi 0), (vi 0), (vi 0)]) (nb rfl) rfl)) ?_
   refine g7 (p.bring 3) Tryz.sizeOf103 (vs := [(vi 2), (Value.string c), (vi 0), (vi 0), (vi 0)]) (cs' := [(vi 2), (Value.string c), (vi 0), (vi 0), (vi 0)]) rfl rfl (nb rfl) rfl rfl fun be ag bf => ?_
   refine y2 Tryz.isAgg103 Tryz.sizeOf103 rfl (ag.at1 (o := 0) (vs := [(vi 2), (Value.string c), (vi 0), (vi 0), (vi 0)]) (nb rfl) rfl) ?_
   exact hR _ k _ _ (((ag.drop.bring 2).drop.bring 1).bring 1) ⟨(b7.mk 2 c 0 (c8.mk 0 0)), 21, (q9 n), q, r, s, rfl, rfl, y, h⟩
  ·refine b5 a5J ?_
   refine g7 (p.bring 2) Tryz.sizeOf2 (vs := [(vi f)]) (cs' := [(vi 2), (Value.string c), (vi f), (vi 0), (vi 0)]) rfl rfl (nb rfl) rfl rfl fun bg ah bh => ?_
   refine g9 (ldA Tryz.isAgg103 Tryz.sizeOf103 rfl (ah.at1 (o := 0) (vs := [(vi 2), (Value.string c), (vi f), (vi 0), (vi 0)]) (nb rfl) rfl)) ?_
   refine g7 (ah.bring 3) Tryz.sizeOf103 (vs := [(vi 2), (Value.string c), (vi f), (vi 0), (vi 0)]) (cs' := [(vi 2), (Value.string c), (vi f), (vi 0), (vi 0)]) rfl rfl (nb rfl) rfl rfl fun bi ai bj => ?_
   refine y2 Tryz.isAgg103 Tryz.sizeOf103 rfl (ai.at1 (o := 0) (vs := [(vi 2), (Value.string c), (vi f), (vi 0), (vi 0)]) (nb rfl) rfl) ?_
   exact hR _ k _ _ ((ai.drop.drop.bring 1).bring 1) ⟨(b7.mk 2 c f (c8.mk 0 0)), 0, (q9 n), q, r, s, rfl, rfl, y, h⟩
def B4 (T0 : (List d8)) (H : Hp) (K : Sl → Hp → Prop) : Prop :=
 ∀ (D1 : Sl) (a : Hp), Hle H a → SlH a 1 u0 D1 T0 → D1.n ≤ D1.c →
 K D1 a
def B5 (A8 : Sl) (a3J : Int) (u6 : (List d8)) (s8 : Int) (H : Hp) (n2 : ((List d8) × Int) → Hp → Prop) (K : Sl → Hp → Prop) : Prop :=
 (s8 < a3J →
 (0 : Int) ≤ s8 ∧ (s8 : Int) < A8.n ∧ ∃ a : d7, EltH H A8 s8 4 (f9 a) ∧
 a5c a H (fun b c =>
 (u6.length + ([b] : List d8).length) * 17 ≤ 140737488355328 ∧
 n2 ((u6 ++ [b]), (IntKind.wrap .i64 (s8 + 1))) c)) ∧
 (¬ (s8 < a3J) →
 B4 u6 H K)
def G4 (x0 : Sl) (H : Hp) (K : Sl → Hp → Prop) : Prop :=
 TL (([], 0) : (List d8) × Int) H fun (s : (List d8) × Int) H n2 => B5 x0 (x0.n : Int) s.1 s.2 H n2 K
theorem a0h (x0) {H K} (h : G4 x0 H K) : z7 x0 H K := by
 refine Ct.of fun w0 w ps0 H0 R E I hR => c1b ?_
 unfold G4 at h
 unfold c3M
 have hj1 : ∀ (T0 : (List d8)) (D1 : Sl) (Fs5j1 : Frag) H w (_ : RowL 131 1 u0 D1 T0 Fs5j1) (_ : Inv w0 ps0 H0 H [Fs5j1] w) (_ : B4 T0 H K), b1J (vs D1) w R E := by
  intro T0 D1 Fs5j1 H w a6x I h
  unfold b1J
  intro _
  unfold B4 at h
  obtain ⟨k, q, r, t, u⟩ := Inv.freezeC I a6x (by decide)
  replace h := h D1 k r t u
  exact hR _ k _ _ q ⟨D1, rfl, rfl, h⟩
 refine v8 fun j1 hx1 => ?_
 refine b5 (a5S _ _ _) ?_
 obtain ⟨f, d, v, y⟩ := h
 refine E9 (J := fun n l w => ∃ (s : (List d8) × Int) (H : Hp) (T2 : Sl) (Fs5l2 : Frag) , n = d s ∧ l = (match s with | (u6, s8) => [(vs T2), (vi s8)]) ∧ (match s with | (u6, s8) => RowL 131 1 u0 T2 u6 Fs5l2) ∧ (match s with | (u6, s8) => Inv w0 ps0 H0 H [Fs5l2] w) ∧ f s H) ⟨_, ([], 0), H, (Sl.mk none 0 0), [], rfl, rfl, (RowL.nil Q0 S5), I.nil, v⟩ ?_
 rintro am an w next2 ⟨⟨u6, s8⟩, H, T2, Fs5l2, rfl, g, a1h, I, z⟩ hn2
 dsimp only at g I a1h
 simp only [List.map_cons, List.map_nil, List.cons.injEq, and_true] at g
 obtain ⟨e5, e10⟩ := g
 simp only [e5, e10]
 obtain ⟨n2, hm2, h⟩ : ∃ n2 : ((List d8) × Int) → Hp → Prop, (∀ s' H', n2 s' H' → f s' H' ∧ d s' < d (u6, s8)) ∧ B5 x0 (x0.n : Int) u6 s8 H n2 K := ⟨_, fun _ _ h => h, y (u6, s8) H (fun s' H' => f s' H' ∧ d s' < d (u6, s8)) z (fun _ _ a b => ⟨a, b⟩)⟩
 unfold b5y
 unfold B5 at h
 refine b5 pLs ?_
 refine k7 h (fun _ h => ?_) (fun _ h => ?_)
 ·obtain ⟨aa, ab, i, j, h⟩ := h
  obtain ⟨ao, ap, ac, j⟩ := j
  refine b5 (b3h ac _ _ _ _ aa ab) (g9 (ldA (vs := (f9 i)) Tryz.isAgg40 Tryz.sizeOf40 rfl (I.atH j)) ?_)
  refine p8 I Tryz.zeroValue40 (cs := [(vi 0), (vi 0), (eS), (nS)]) rfl fun aq ar ad au => ?_
  refine g7 ad Tryz.sizeOf40 (vs := (f9 i)) (cs' := (f9 i)) rfl rfl (nb rfl) rfl rfl fun av m aw => ?_
  refine g9 (lW Tryz.isAgg40 Tryz.sizeOf40 rfl m) ?_
  refine g8 Tryz.call208 h m ?_
  rintro _ ae _ ax af _ _ ⟨o, rfl, rfl, h⟩
  refine U7 (e := 131) (c := u0) (xs := [o]) af (a7T _) rfl rfl Q0 S5 (nb rfl) fun ay az ba ag p bb => ?_
  obtain ⟨ah, h⟩ := h
  refine a7E (s := T2) (xs := u6) (p.bring 2) a1h (ag.srcO ((p.bring 2).bring 1)) ah fun ai aj bc ak al bd => ?_
  refine b5 pAd ?_
  exact hn2 _ _ _ (hm2 _ _ h).2 ⟨((u6 ++ [o]), (IntKind.wrap .i64 (s8 + 1))), ae, ai, aj, rfl, rfl, ak, ((al.bring 1).drop.bring 1).drop, (hm2 _ _ h).1⟩
 ·exact hx1 _ _ (hj1 u6 T2 Fs5l2 H _ a1h I h)
def a1y (x0 : K9) (H : Hp) (K : Sl → Hp → Prop) : Prop :=
 z7 x0.t6.P0 H (fun a b =>
 K a b)
theorem a6T (x0) {H K} (h : a1y x0 H K) : a3E x0 H K := by
 refine Ct.of fun w0 w ps0 H0 R E I hR => c1a ?_
 unfold a1y at h
 unfold c3L
 refine a0p I (cs := (f9 x0.t6)) rfl fun e f a g => ?_
 refine b5 Y0 (b5 b0t (g9 (l1 Tryz.isAgg38 a rfl) ?_))
 refine g8 Tryz.call207 h a ?_
 rintro _ b _ i c _ _ ⟨d, rfl, rfl, h⟩
 exact hR _ b _ _ c.drop ⟨d, rfl, rfl, h⟩
def N2 (a9o : Bool) (a : F7) (b : R3) (H : Hp) (K : Bool → Hp → Prop) : Prop :=
 (a9o = true →
 K (decide (a.fexprs = 0 ∧ a.fparts = 2)) H) ∧
 (a9o = false →
 K false H)
def N3 (a3Z : Int) (a9p : Bool) (a : F7) (b : R3) (H : Hp) (K : Bool → Hp → Prop) : Prop :=
 (a9p = true →
 K (decide (a.fexprs = 0 ∧ a.fparts = 0)) H) ∧
 (a9p = false →
 (a3Z = 4 →
 K (decide (a.fexprs = 0 ∧ a.fparts = 1)) H) ∧
 (¬ (a3Z = 4) →
 (a3Z = 5 →
 N2 (decide (a3Z = 5)) a b H K) ∧
 (¬ (a3Z = 5) →
 N2 (decide (a3Z = 6)) a b H K)))
def a1W (x0 : R3) (H : Hp) (K : Bool → Hp → Prop) : Prop :=
 (x0.q7.g6 = 3 →
 K (((decide (1 ≤ x0.q7.fOp)) && (decide (x0.q7.fOp ≤ 6))) && (decide ((x0.q7.m5.n : Int) = 2 ∧ (x0.q7.E3.n : Int) = 0))) H) ∧
 (¬ (x0.q7.g6 = 3) →
 (¬ (x0.q7.fOp = 0) →
 K false H) ∧
 (x0.q7.fOp = 0 →
 (x0.q7.g6 = 1 →
 N3 x0.q7.g6 (decide (x0.q7.g6 = 1)) (F7.mk (x0.q7.m5.n : Int) (x0.q7.E3.n : Int)) x0 H K) ∧
 (¬ (x0.q7.g6 = 1) →
 N3 x0.q7.g6 (decide (x0.q7.g6 = 2)) (F7.mk (x0.q7.m5.n : Int) (x0.q7.E3.n : Int)) x0 H K)))
theorem a7c (x0) {H K} (h : a1W x0 H K) : a1R x0 H K := by
 refine Ct.of fun w0 w ps0 H0 R E I hR => c1d ?_
 unfold a1W at h
 unfold c3O
 refine a0p I (cs := (i6 x0.q7)) rfl fun e i d j => ?_
 refine b5 a0s (b5 b0x (g9 (l1 Tryz.isAgg38 d rfl) (b5 (a5S _ _ _) (b5 a0s ?_))))
 refine b5 b0w (g9 (l1 Tryz.isAgg47 d rfl) (b5 (a8I _ _ _) (b5 (a3W _ _) ?_)))
 refine p8 d Tryz.zeroValue260 (cs := [(vi 0), (vi 0)]) rfl fun c k f l => ?_
 refine g7 f Tryz.sizeOf260 (vs := [(vi (x0.q7.m5.n : Int)), (vi (x0.q7.E3.n : Int))]) (cs' := [(vi (x0.q7.m5.n : Int)), (vi (x0.q7.E3.n : Int))]) rfl rfl (nb rfl) rfl rfl fun m b p => ?_
 refine b5 a0s (b5 b0v (g9 (l1 Tryz.isAgg3 (b.bring 1) rfl) (b5 pEq ?_)))
 refine k7 h (fun _ h => ?_) (fun _ h => ?_)
 ·refine b5 a0s (b5 a7S (g9 (l1 Tryz.isAgg3 (b.bring 1) rfl) (b5 pGe ?_)))
  refine b5 (Pu.g fun a => by with_reducible exact a0s) ?_
  refine b5 (Pu.g fun a => by simp only [o9 a]; with_reducible exact a7S) ?_
  refine g9 (Ld.g fun a => by simp only [o9 a]; exact (l1 Tryz.isAgg3 (b.bring 1) rfl)) ?_
  refine b5 (Pu.g fun a => by simp only [o9 a]; with_reducible exact pLe) ?_
  refine b5 (F6 _ _) ?_
  refine g9 (Ld.g fun a => by exact (ldA Tryz.isAgg260 Tryz.sizeOf260 rfl (b.at1 (o := 0) (vs := [(vi (x0.q7.m5.n : Int)), (vi (x0.q7.E3.n : Int))]) (nb rfl) rfl))) ?_
  refine b5 (Pu.g fun a => by with_reducible exact (a3W _ _)) ?_
  refine b5 (Pu.g fun a => by simp only [o9 a]; with_reducible exact (a7g _ _ _ _ _ _)) ?_
  refine b5 (F6 _ _) ?_
  exact hR _ H _ _ b.drop.drop ⟨(((decide (1 ≤ x0.q7.fOp)) && (decide (x0.q7.fOp ≤ 6))) && (decide ((x0.q7.m5.n : Int) = 2 ∧ (x0.q7.E3.n : Int) = 0))), rfl, rfl, h⟩
 ·refine b5 a0s (b5 a7S (g9 (l1 Tryz.isAgg3 (b.bring 1) rfl) (b5 pNe ?_)))
  refine a6H h (fun _ h => ?_) (fun _ h => ?_)
  ·exact hR _ H _ _ b.drop.drop ⟨false, rfl, rfl, h⟩
  ·refine b5 a0s (b5 b0v (g9 (l1 Tryz.isAgg3 (b.bring 1) rfl) ?_))
   have hj1 : ∀ (a9p : Bool) H w (_ : Inv w0 ps0 H0 H [bx c 260 [(vi (F7.mk (x0.q7.m5.n : Int) (x0.q7.E3.n : Int)).fexprs), (vi (F7.mk (x0.q7.m5.n : Int) (x0.q7.E3.n : Int)).fparts)], bx e 146 (i6 x0.q7)] w) (_ : N3 x0.q7.g6 a9p (F7.mk (x0.q7.m5.n : Int) (x0.q7.E3.n : Int)) x0 H K), b1L (Value.pointer (some ⟨c, 0, none⟩)) (vi x0.q7.g6) (vB a9p) w R E := by
    intro a9p H w I h
    unfold b1L
    intro _
    unfold N3 at h
    refine p5 h (fun _ h => ?_) (fun _ h => ?_)
    ·refine g9 (ldA Tryz.isAgg260 Tryz.sizeOf260 rfl (I.at1 (o := 0) (vs := [(vi (F7.mk (x0.q7.m5.n : Int) (x0.q7.E3.n : Int)).fexprs), (vi (F7.mk (x0.q7.m5.n : Int) (x0.q7.E3.n : Int)).fparts)]) (nb rfl) rfl)) (b5 (b6u ) (b5 (a7g _ _ _ _ _ _) ?_))
     exact hR _ H _ _ I.drop.drop ⟨(decide ((F7.mk (x0.q7.m5.n : Int) (x0.q7.E3.n : Int)).fexprs = 0 ∧ (F7.mk (x0.q7.m5.n : Int) (x0.q7.E3.n : Int)).fparts = 0)), rfl, rfl, h⟩
    ·refine b5 pEq ?_
     refine k7 h (fun _ h => ?_) (fun _ h => ?_)
     ·refine g9 (ldA Tryz.isAgg260 Tryz.sizeOf260 rfl (I.at1 (o := 0) (vs := [(vi (F7.mk (x0.q7.m5.n : Int) (x0.q7.E3.n : Int)).fexprs), (vi (F7.mk (x0.q7.m5.n : Int) (x0.q7.E3.n : Int)).fparts)]) (nb rfl) rfl)) (b5 (a3W _ _) (b5 (a7g _ _ _ _ _ _) ?_))
      exact hR _ H _ _ I.drop.drop ⟨(decide ((F7.mk (x0.q7.m5.n : Int) (x0.q7.E3.n : Int)).fexprs = 0 ∧ (F7.mk (x0.q7.m5.n : Int) (x0.q7.E3.n : Int)).fparts = 1)), rfl, rfl, h⟩
     ·have hj2 : ∀ (a9o : Bool) H w (_ : Inv w0 ps0 H0 H [bx c 260 [(vi (F7.mk (x0.q7.m5.n : Int) (x0.q7.E3.n : Int)).fexprs), (vi (F7.mk (x0.q7.m5.n : Int) (x0.q7.E3.n : Int)).fparts)], bx e 146 (i6 x0.q7)] w) (_ : N2 a9o (F7.mk (x0.q7.m5.n : Int) (x0.q7.E3.n : Int)) x0 H K), b1K (Value.pointer (some ⟨c, 0, none⟩)) (vB a9o) w R E := by
       intro a9o H w I h
       unfold b1K
       intro _
       unfold N2 at h
       refine p5 h (fun _ h => ?_) (fun _ h => ?_)
       ·refine g9 (ldA Tryz.isAgg260 Tryz.sizeOf260 rfl (I.at1 (o := 0) (vs := [(vi (F7.mk (x0.q7.m5.n : Int) (x0.q7.E3.n : Int)).fexprs), (vi (F7.mk (x0.q7.m5.n : Int) (x0.q7.E3.n : Int)).fparts)]) (nb rfl) rfl)) (b5 (a3W _ _) (b5 (a7g _ _ _ _ _ _) ?_))
        exact hR _ H _ _ I.drop.drop ⟨(decide ((F7.mk (x0.q7.m5.n : Int) (x0.q7.E3.n : Int)).fexprs = 0 ∧ (F7.mk (x0.q7.m5.n : Int) (x0.q7.E3.n : Int)).fparts = 2)), rfl, rfl, h⟩
       ·exact hR _ H _ _ I.drop.drop ⟨false, rfl, rfl, h⟩
      refine v8 fun j2 hx2 => ?_
      refine b5 pEq ?_
      refine k7 h (fun _ h => ?_) (fun _ h => ?_)
      ·exact hx2 _ _ (hj2 (decide (x0.q7.g6 = 5)) H _ ((I.bring 1).bring 1) h)
      ·refine b5 pEq ?_
       exact hx2 _ _ (hj2 (decide (x0.q7.g6 = 6)) H _ ((I.bring 1).bring 1) h)
   refine v8 fun j1 hx1 => ?_
   refine b5 pEq ?_
   refine k7 h (fun _ h => ?_) (fun _ h => ?_)
   ·exact hx1 _ _ (hj1 (decide (x0.q7.g6 = 1)) H _ ((b.bring 1).bring 1) h)
   ·refine b5 pEq ?_
    exact hx1 _ _ (hj1 (decide (x0.q7.g6 = 2)) H _ ((b.bring 1).bring 1) h)
def a1z (x0 : R3) (H : Hp) (K : Sl → Hp → Prop) : Prop :=
 z7 x0.q7.m5 H (fun d e =>
 C8 x0.q7.E3 e (fun f g =>
 ∀ (a : Sl) (b : Hp), Hle g b → SlH b 1 csl a [d, f] → a.n ≤ a.c →
 C3 a b (fun i j =>
 K i j)))
theorem a6U (x0) {H K} (h : a1z x0 H K) : a3F x0 H K := by
 refine Ct.of fun w0 w ps0 H0 R E I hR => c1e ?_
 unfold a1z at h
 unfold c3P
 refine a0p I (cs := (i6 x0.q7)) rfl fun v y b z => ?_
 refine V7 b fun aa a => ?_
 refine p7 a0s ?_
 refine p7 b0x ?_
 refine p7 a0s ?_
 refine p7 b0w ?_
 refine C7 (l1 Tryz.isAgg38 a rfl) ?_
 refine C7 (l1 Tryz.isAgg47 a rfl) ?_
 refine g8 Tryz.call207 h a ?_
 rintro _ _ _ ab d _ f ⟨g, rfl, rfl, h⟩
 refine ⟨(f _ a.lt1 (Inv.Y1 (Fi := []) a)), ?_⟩
 refine g8 Tryz.call211 h d ?_
 rintro _ _ _ ac i _ _ ⟨j, rfl, rfl, h⟩
 refine U7 (e := 128) (c := csl) (xs := [g, j]) i (b3p _ _ _ _ _ _) rfl rfl b2T b2U (nb rfl) fun k ad ae l m af => ?_
 obtain ⟨n, o, p, q, r⟩ := Inv.freezeC m l (by decide)
 replace h := h k n p q r
 refine g8 Tryz.call75 h o ?_
 rintro _ s _ ag t _ _ ⟨u, rfl, rfl, h⟩
 exact hR _ s _ _ t.drop ⟨u, rfl, rfl, h⟩
end Go.Proofs.YthklmeihgmcljaaGreatDoor
