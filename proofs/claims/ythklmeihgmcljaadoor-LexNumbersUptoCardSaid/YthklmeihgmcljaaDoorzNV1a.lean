/- Typed formulas of the program's functions, and the theorems that the contracts follow from them; printed by lift.py off the code. -/
import Derived.Test.YthklmeihgmcljaaDoorzNV1
namespace Go.Proofs.YthklmeihgmcljaaDoor
open Go.RowKit
set_option maxRecDepth 100000
set_option maxHeartbeats 2000000
def u1 (x0 : Int) (H : Hp) (K : Bool → Hp → Prop) : Prop :=
 A6 H (fun e d =>
 ((!e) = true →
 K false d) ∧
 ((!e) = false →
 (x0 < 0 →
 K true d) ∧
 (¬ (x0 < 0) →
 E2 x0 d (fun a k =>
 r9 a k (fun c q f l =>
 (⟨#[48]⟩ : ByteArray).size + a.size ≤ 9223372036854775807 ∧
 r9 ((⟨#[48]⟩ : ByteArray) ++ a) l (fun r g m o =>
 a.size + (⟨#[120]⟩ : ByteArray).size ≤ 9223372036854775807 ∧
 r9 (a ++ (⟨#[120]⟩ : ByteArray)) o (fun s i p j =>
 ∃ b : a6, (((decide (f = 0)) && (decide ((c.n : Int) = 2))) = true → (0 : Int) ≤ 0 ∧ (0 : Int) < c.n ∧ EltH j c 0 5 (b7 b)) ∧
 K (((((((decide (f = 0)) && (decide ((c.n : Int) = 2))) && (decide (b.a0w = 2 ∧ b.N2 = a ∧ b.T1 = x0 ∧ b.fAt.o4 = 1 ∧ b.fAt.r5 = 1))) && (decide (m = 21))) && (decide (g.o4 = 1 ∧ g.r5 = 1))) && (decide (p = 21))) && (decide (i.o4 = 1 ∧ i.r5 = 1))) j)))))))
theorem K0 (x0 : Int) {H : Hp} {K : Bool → Hp → Prop} (h : u1 x0 H K) : u0 x0 H K := by
 refine Ct.of fun w0 w ps0 H0 R E I hR => a6B ?_
 unfold u1 at h
 unfold F5
 refine g9 Tryd.call8 h I ?_
 rintro _ k _ am i _ _ ⟨an, rfl, rfl, h⟩
 refine a8 (a4K _) ?_
 refine o9 h (fun _ h => ?_) (fun _ h => ?_)
 ·exact hR _ k _ _ i ⟨false, rfl, rfl, h⟩
 ·refine a8 (X2 _ _ _ _ _ _) ?_
  refine k6 h (fun _ h => ?_) (fun _ h => ?_)
  ·exact hR _ k _ _ i ⟨true, rfl, rfl, h⟩
  ·refine g9 Tryd.call12 h i ?_
   rintro _ _ _ ao s _ _ ⟨j, rfl, rfl, h⟩
   refine g9 Tryd.call9 h s ?_
   rintro _ _ _ ap t _ _ ⟨u, l, m, rfl, rfl, h⟩
   refine a8 (c8 _ _ _ rfl) ?_
   refine a8 (c8 _ _ _ rfl) ?_
   refine a8 (c8 _ _ (vi m) rfl) ?_
   refine u5 t Tryd.zeroValue25 (cs := [(vi 0), (vi 0)]) rfl fun aq ar v au => ?_
   refine m7 v Tryd.sizeOf25 (vs := (o8 l)) (cs' := (o8 l)) rfl rfl (nb rfl) rfl rfl fun av y aw => ?_
   obtain ⟨z, h⟩ := h
   refine a8 (a0H _ _ _ ⟨#[48]⟩ j z) ?_
   refine g9 Tryd.call9 h y ?_
   rintro _ _ _ ax aa _ _ ⟨ay, e, q, rfl, rfl, h⟩
   refine a8 (c8 _ _ _ rfl) ?_
   refine a8 (c8 _ _ _ rfl) ?_
   refine a8 (c8 _ _ (vi q) rfl) ?_
   refine u5 aa Tryd.zeroValue25 (cs := [(vi 0), (vi 0)]) rfl fun az ba ab bb => ?_
   refine m7 ab Tryd.sizeOf25 (vs := (o8 e)) (cs' := (o8 e)) rfl rfl (nb rfl) rfl rfl fun bc ac bd => ?_
   obtain ⟨ad, h⟩ := h
   refine a8 (a0H _ _ _ j ⟨#[120]⟩ ad) ?_
   refine g9 Tryd.call9 h ac ?_
   rintro _ ae _ be af _ _ ⟨bf, f, r, rfl, rfl, h⟩
   refine a8 (c8 _ _ _ rfl) ?_
   refine a8 (c8 _ _ _ rfl) ?_
   refine a8 (c8 _ _ (vi r) rfl) ?_
   refine u5 af Tryd.zeroValue25 (cs := [(vi 0), (vi 0)]) rfl fun bg bh ag bi => ?_
   refine m7 ag Tryd.sizeOf25 (vs := (o8 f)) (cs' := (o8 f)) rfl rfl (nb rfl) rfl rfl fun bj ah bk => ?_
   refine a8 (H6 _ _) ?_
   refine u5 ah Tryd.zeroValue25 (cs := [(vi 0), (vi 0)]) rfl fun bl bm ai bn => ?_
   refine m7 ai Tryd.sizeOf25 (vs := [(vi 1), (vi 1)]) (cs' := [(vi 1), (vi 1)]) rfl rfl (nb rfl) rfl rfl fun bo aj bp => ?_
   refine P5 aj fun bq c => ?_
   refine m0 (k8 _ _ _ _ _ _) ?_
   simp only [t6]
   refine m0 (Pu.g fun hb => by have a := hb; simp only [o2 a]; exact (a0f _ _ _)) ?_
   refine m0 (Pu.g fun hb => by have a := hb; simp only [o2 a]; with_reducible exact (k8 _ _ _ _ _ _)) ?_
   refine m0 (t7 _ _) ?_
   simp only [t6]
   obtain ⟨d, b, h⟩ := h
   obtain ⟨ak, al, b⟩ := a0v b
   refine m0 (Pu.g fun hb => by have a := hb; simp only [o2 a]; exact (R1 (b hb).2.2.1 _ _ _ _ (b hb).1 (b hb).2.1)) ?_
   refine a6S (p := (Value.pointer (some ⟨ak, al + (0 : Int).toNat * 5, none⟩))) rfl (Ld.g fun hb => by have a := hb; simp only [o2 a]; exact (ldA (vs := (b7 d)) Tryd.isAgg33 Tryd.sizeOf33 rfl (c.atH (b hb).2.2.2))) ?_
   refine y4 (Ld.g fun hb => by have a := hb; exact (ldA Tryd.isAgg25 Tryd.sizeOf25 rfl (c.at1 (o := 0) (vs := [(vi 1), (vi 1)]) (nb rfl) rfl))) ?_
   refine m0 (Pu.g fun hb => by have a := hb; simp only [o2 a]; with_reducible exact (V5 _ _ _ _ _)) ?_
   refine m0 (Pu.g fun hb => by have a := hb; simp only [o2 a]; with_reducible exact (a3y _ _ _ _ _ _ _ _ _ _ _ _)) ?_
   refine m0 (t7 _ _) ?_
   simp only [t6]
   refine m0 (Pu.g fun hb => by have a := hb; simp only [o2 a]; with_reducible exact (k8 _ _ _ _ _ _)) ?_
   refine m0 (t7 _ _) ?_
   refine y4 (Ld.g fun hb => by have a := hb; exact (lW Tryd.isAgg25 Tryd.sizeOf25 rfl (c.bring 2))) ?_
   refine y4 (Ld.g fun hb => by have a := hb; exact (ldA Tryd.isAgg25 Tryd.sizeOf25 rfl (c.at1 (o := 0) (vs := [(vi 1), (vi 1)]) (nb rfl) rfl))) ?_
   refine m0 (Pu.g fun hb => by have a := hb; simp only [o2 a]; with_reducible exact (R0 _ _ _ _ _ _)) ?_
   refine m0 (t7 _ _) ?_
   simp only [t6]
   refine m0 (Pu.g fun hb => by have a := hb; simp only [o2 a]; with_reducible exact (k8 _ _ _ _ _ _)) ?_
   refine m0 (t7 _ _) ?_
   refine y4 (Ld.g fun hb => by have a := hb; exact (lW Tryd.isAgg25 Tryd.sizeOf25 rfl (c.bring 1))) ?_
   refine y4 (Ld.g fun hb => by have a := hb; exact (ldA Tryd.isAgg25 Tryd.sizeOf25 rfl (c.at1 (o := 0) (vs := [(vi 1), (vi 1)]) (nb rfl) rfl))) ?_
   refine m0 (Pu.g fun hb => by have a := hb; simp only [o2 a]; with_reducible exact (R0 _ _ _ _ _ _)) ?_
   refine m0 (t7 _ _) ?_
   exact hR _ ae _ _ c.drop.drop.drop.drop ⟨(((((((decide (m = 0)) && (decide ((u.n : Int) = 2))) && (decide (d.a0w = 2 ∧ d.N2 = j ∧ d.T1 = x0 ∧ d.fAt.o4 = 1 ∧ d.fAt.r5 = 1))) && (decide (q = 21))) && (decide (e.o4 = 1 ∧ e.r5 = 1))) && (decide (r = 21))) && (decide (f.o4 = 1 ∧ f.r5 = 1))), rfl, rfl, h⟩
def G7 (x0 : ByteArray) (H : Hp) (K : Bool → Hp → Prop) : Prop :=
 s7 x0 H (fun a b =>
 K (decide (32 < a)) b)
theorem V6 (x0 : ByteArray) {H : Hp} {K : Bool → Hp → Prop} (h : G7 x0 H K) : G6 x0 H K := by
 refine Ct.of fun w0 w ps0 H0 R E I hR => a5c ?_
 unfold G7 at h
 unfold F28
 refine g9 Tryd.call50 h I ?_
 rintro _ a _ d b _ _ ⟨c, rfl, rfl, h⟩
 refine a8 (a0E _ _ _ _ _ _) ?_
 exact hR _ a _ _ b ⟨(decide (32 < c)), rfl, rfl, h⟩
def B5 (x0 : a7) (a : (List a6)) (H : Hp) (K : ByteArray → Hp → Prop) : Prop :=
 (0 : Int) ≤ x0.fn ∧ (x0.fn : Int) ≤ x0.fs.size ∧
 K (x0.fs.extract (x0.fn : Int).toNat x0.fs.size) H
theorem O4 (x0 : a7) (b : (List a6)) {H : Hp} {K : ByteArray → Hp → Prop} (h : B5 x0 b H K) : q6 x0 b H K := by
 intro g0 e f g
 refine Ct.of fun w0 w ps0 H0 R E I hR => a5h ?_
 unfold B5 at h
 unfold F39
 refine P5 I fun i a => ?_
 refine m0 (o3 _) ?_
 refine m0 J8 ?_
 refine m0 (o3 _) ?_
 refine m0 s5 ?_
 refine y4 (l1 Tryd.isAgg9 a rfl) ?_
 refine y4 (l1 Tryd.isAgg3 a rfl) ?_
 obtain ⟨c, d, h⟩ := h
 refine m0 (a1A x0.fs Tryd.underlying9 c d) ?_
 exact hR _ H _ _ ((a.bring 1).bring 1) ⟨(x0.fs.extract (x0.fn : Int).toNat x0.fs.size), rfl, rfl, h⟩
def s8 (x0 : ByteArray) (x1 : ByteArray) (H : Hp) (K : Bool → Hp → Prop) : Prop :=
 ((decide ((x1.size : Int) ≤ (x0.size : Int))) = true → (0 : Int) ≤ (x1.size : Int) ∧ ((x1.size : Int) : Int) ≤ x0.size) ∧
 K ((decide ((x1.size : Int) ≤ (x0.size : Int))) && (decide ((x0.extract 0 ((x1.size : Int) : Int).toNat) = x1))) H
theorem I0 (x0 : ByteArray) (x1 : ByteArray) {H : Hp} {K : Bool → Hp → Prop} (h : s8 x0 x1 H K) : B4 x0 x1 H K := by
 refine Ct.of fun w0 w ps0 H0 R E I hR => a5q ?_
 unfold s8 at h
 unfold F57
 refine a8 (K5 _) ?_
 refine a8 (K5 _) ?_
 refine a8 (a4J _ _ _ _ _ _) ?_
 simp only [t6]
 refine a8 (Pu.g fun hb => by have a := hb; simp only [o2 a]; with_reducible exact (K5 _)) ?_
 obtain ⟨b, h⟩ := h
 refine a8 (Pu.g fun hb => by have a := hb; simp only [o2 a]; with_reducible exact (a1B x0 Tryd.underlying9 (b hb).1 (b hb).2)) ?_
 refine a8 (Pu.g fun hb => by have a := hb; simp only [o2 a]; with_reducible exact (B3 _ _ _ _ _)) ?_
 refine a8 (t7 _ _) ?_
 exact hR _ H _ _ I ⟨((decide ((x1.size : Int) ≤ (x0.size : Int))) && (decide ((x0.extract 0 ((x1.size : Int) : Int).toNat) = x1))), rfl, rfl, h⟩
def B6 (x0 : a7) (a : (List a6)) (H : Hp) (K : a7 → (List a6) → Hp → Prop) : Prop :=
 q6 (f6 x0) a H (fun e f =>
 s1 e f (fun b c d =>
 (b = 10 →
 K (a7.mk x0.fs (IntKind.wrap .i64 (x0.fn + c)) (b6.mk (IntKind.wrap .i64 (x0.fat.o4 + 1)) 1) (Sl.mk none 0 0)) a d) ∧
 (¬ (b = 10) →
 K (a7.mk x0.fs (IntKind.wrap .i64 (x0.fn + c)) (b6.mk x0.fat.o4 (IntKind.wrap .i64 (x0.fat.r5 + 1))) (Sl.mk none 0 0)) a d)))
theorem O5 (x0 : a7) (c : (List a6)) {H : Hp} {K : a7 → (List a6) → Hp → Prop} (h : B6 x0 c H K) : j7 x0 c H K := by
 intro g0 b d e
 refine Ct.of fun w0 w ps0 H0 R E I hR => a5p ?_
 unfold B6 at h
 unfold F56
 refine g9 Tryd.call39 (h g0 b d e) ((I.bring 1).bring 1) ?_
 rintro _ n _ o k _ _ ⟨p, rfl, rfl, h⟩
 refine g9 Tryd.call33 h k ?_
 rintro _ g _ q i _ _ ⟨l, a, rfl, rfl, h⟩
 refine a8 (c8 _ _ (Value.int .i32 l) rfl) ?_
 refine a8 (c8 _ _ (vi a) rfl) ?_
 refine a8 (o3 _) ?_
 refine a8 s5 ?_
 refine o7 (l1 Tryd.isAgg3 i rfl) ?_
 refine a8 (P6 _ _ _ _ _ _) ?_
 refine a8 (o3 _) ?_
 refine a8 s5 ?_
 refine m7 i Tryd.sizeOf3 (vs := [(vi (IntKind.wrap .i64 (x0.fn + a)))]) (cs' := [(Value.string x0.fs), (vi (IntKind.wrap .i64 (x0.fn + a))), (vi x0.fat.o4), (vi x0.fat.r5), (vs b)]) rfl rfl (nb rfl) rfl rfl fun r j s => ?_
 refine a8 (o3 _) ?_
 refine a8 G2 ?_
 refine a8 X8 ?_
 refine o7 (l1 Tryd.isAgg3 j rfl) ?_
 refine a8 (P6 _ _ _ _ _ _) ?_
 refine a8 (o3 _) ?_
 refine a8 G2 ?_
 refine a8 X8 ?_
 refine m7 j Tryd.sizeOf3 (vs := [(vi (IntKind.wrap .i64 (x0.fat.r5 + 1)))]) (cs' := [(Value.string x0.fs), (vi (IntKind.wrap .i64 (x0.fn + a))), (vi x0.fat.o4), (vi (IntKind.wrap .i64 (x0.fat.r5 + 1))), (vs b)]) rfl rfl (nb rfl) rfl rfl fun t f u => ?_
 refine a8 (k8 _ _ _ _ _ _) ?_
 refine k6 h (fun _ h => ?_) (fun _ h => ?_)
 ·refine a8 (o3 _) ?_
  refine a8 G2 ?_
  refine a8 a1Y ?_
  refine o7 (l1 Tryd.isAgg3 f rfl) ?_
  refine a8 (P6 _ _ _ _ _ _) ?_
  refine a8 (H6 _ _) ?_
  refine a8 (o3 _) ?_
  refine a8 G2 ?_
  refine m7 f Tryd.sizeOf25 (vs := [(vi (IntKind.wrap .i64 (x0.fat.o4 + 1))), (vi 1)]) (cs' := [(Value.string x0.fs), (vi (IntKind.wrap .i64 (x0.fn + a))), (vi (IntKind.wrap .i64 (x0.fat.o4 + 1))), (vi 1), (vs b)]) rfl rfl (nb rfl) rfl rfl fun v m y => ?_
  exact hR _ g _ _ ((m.bring 1).bring 1) ⟨(a7.mk x0.fs (IntKind.wrap .i64 (x0.fn + a)) (b6.mk (IntKind.wrap .i64 (x0.fat.o4 + 1)) 1) (Sl.mk none 0 0)), c, b, d, rfl, rfl, e, h⟩
 ·exact hR _ g _ _ ((f.bring 1).bring 1) ⟨(a7.mk x0.fs (IntKind.wrap .i64 (x0.fn + a)) (b6.mk x0.fat.o4 (IntKind.wrap .i64 (x0.fat.r5 + 1))) (Sl.mk none 0 0)), c, b, d, rfl, rfl, e, h⟩
def y1 (x0 : Int) (H : Hp) (K : Bool → Hp → Prop) : Prop :=
 r3 x0 H (fun a b =>
 K ((decide (a = 1)) || (decide (a = 2))) b)
theorem K6 (x0 : Int) {H : Hp} {K : Bool → Hp → Prop} (h : y1 x0 H K) : v7 x0 H K := by
 refine Ct.of fun w0 w ps0 H0 R E I hR => a5f ?_
 unfold y1 at h
 unfold F36
 refine g9 Tryd.call30 h I ?_
 rintro _ c _ e d _ _ ⟨b, rfl, rfl, h⟩
 refine a8 (k8 _ _ _ _ _ _) ?_
 simp only [t6]
 refine a8 (Pu.g fun hb => by have a := hb; simp only [o2 a]; with_reducible exact (k8 _ _ _ _ _ _)) ?_
 refine a8 (X3 _ _) ?_
 exact hR _ c _ _ d ⟨((decide (b = 1)) || (decide (b = 2))), rfl, rfl, h⟩
def f8 (C1 : Int) (f9 : ByteArray) (g5 : Int) (j8 : b6) (k9 : (List a6)) (H : Hp) (K : ByteArray → a7 → (List a6) → Hp → Prop) : Prop :=
 (0 : Int) ≤ C1 ∧ (C1 : Int) ≤ g5 ∧ (g5 : Int) ≤ f9.size ∧
 K (f9.extract (C1 : Int).toNat (g5 : Int).toNat) (a7.mk f9 g5 j8 (Sl.mk none 0 0)) k9 H
def i6 (W4 : Int) (p1 : Int) (k7 : Bool) (d6 : ByteArray) (d7 : Int) (c6 : b6) (c7 : (List a6)) (H : Hp) (n2 : (Int × Bool × ByteArray × Int × b6 × (List a6)) → Hp → Prop) (K : ByteArray → a7 → (List a6) → Hp → Prop) : Prop :=
 TG (k7 = true) (v7 p1 H) false H (fun (b : Bool) (c : Hp) =>
 ((k7 && b) = true →
 j7 (a7.mk d6 d7 c6 (Sl.mk none 0 0)) c7 c (fun a d e =>
 g8 (f6 a) d e (fun f g i =>
 n2 (f, g, a.fs, a.fn, a.fat, d) i))) ∧
 ((k7 && b) = false →
 f8 W4 d6 d7 c6 c7 c K))
def m4 (x0 : a7) (a : (List a6)) (H : Hp) (K : ByteArray → a7 → (List a6) → Hp → Prop) : Prop :=
 g8 (f6 x0) a H (fun b c d =>
 TL ((b, c, x0.fs, x0.fn, x0.fat, a) : Int × Bool × ByteArray × Int × b6 × (List a6)) d fun (s : Int × Bool × ByteArray × Int × b6 × (List a6)) H n2 => i6 x0.fn s.1 s.2.1 s.2.2.1 s.2.2.2.1 s.2.2.2.2.1 s.2.2.2.2.2 H n2 K)
theorem y6 (x0 : a7) (q : (List a6)) {H : Hp} {K : ByteArray → a7 → (List a6) → Hp → Prop} (h : m4 x0 q H K) : l8 x0 q H K := by
 intro g0 y z aa
 refine Ct.of fun w0 w ps0 H0 R E I hR => X9 ?_
 unfold m4 at h
 unfold F37
 refine a8 (o3 _) ?_
 refine a8 s5 ?_
 refine o7 (l1 Tryd.isAgg3 I rfl) ?_
 have hj1 : ∀ (f9 : ByteArray) (g5 : Int) (j8 : b6) (k9 : (List a6)) (q8 : Sl) (m9 : Frag) (H : Hp) (w : World) (_ : RowL 33 5 b7 q8 k9 m9) (_ : Inv w0 ps0 H0 H [bx g0 44 [(Value.string f9), (vi g5), (vi j8.o4), (vi j8.r5), (vs q8)], m9] w) (_ : f8 x0.fn f9 g5 j8 k9 H K), J9 (Value.pointer (some ⟨g0, 0, none⟩)) (vi x0.fn) w R E := by
  intro f9 g5 j8 k9 q8 m9 H w C7 I h
  unfold J9
  intro _
  unfold f8 at h
  refine P5 I fun ax r => ?_
  refine m0 (o3 _) ?_
  refine m0 J8 ?_
  refine m0 (o3 _) ?_
  refine m0 s5 ?_
  refine y4 (l1 Tryd.isAgg9 r rfl) ?_
  refine y4 (l1 Tryd.isAgg3 r rfl) ?_
  obtain ⟨ak, al, am, h⟩ := h
  refine m0 (Q9 f9 Tryd.underlying9 ak al am) ?_
  exact hR _ H _ _ ((r.bring 1).bring 1) ⟨(f9.extract (x0.fn : Int).toNat (g5 : Int).toNat), (a7.mk f9 g5 j8 (Sl.mk none 0 0)), k9, q8, m9, rfl, rfl, C7, h⟩
 refine B2 fun j1 hx1 => ?_
 refine g9 Tryd.call20 (h g0 y z aa) ((I.bring 1).bring 1) ?_
 rintro _ an _ ay ao _ _ ⟨ab, ac, rfl, rfl, h⟩
 refine a8 (c8 _ _ (Value.int .i32 ab) rfl) ?_
 refine a8 (c8 _ _ (Value.bool ac) rfl) ?_
 obtain ⟨t, g, ap, aq⟩ := h
 refine D2 (J := fun n l w => ∃ (s : Int × Bool × ByteArray × Int × b6 × (List a6)) (H : Hp) (m1 : Sl) (l7 : Frag) , n = g s ∧ l = (match s with | (p1, k7, d6, d7, c6, c7) => [(Value.int .i32 p1), (Value.bool k7)]) ∧ (match s with | (p1, k7, d6, d7, c6, c7) => RowL 33 5 b7 m1 c7 l7) ∧ (match s with | (p1, k7, d6, d7, c6, c7) => Inv w0 ps0 H0 H [bx g0 44 [(Value.string d6), (vi d7), (vi c6.o4), (vi c6.r5), (vs m1)], l7] w) ∧ t s H) ⟨_, (ab, ac, x0.fs, x0.fn, x0.fat, q), an, y, z, rfl, rfl, aa, ((ao.bring 1).bring 1), ap⟩ ?_
 rintro az ba w next2 ⟨⟨p1, k7, d6, d7, c6, c7⟩, H, m1, l7, rfl, u, p5, I, ar⟩ hn2
 dsimp only at u I p5
 simp only [List.map_cons, List.map_nil, List.cons.injEq, and_true] at u
 obtain ⟨e6, e7⟩ := u
 simp only [e6, e7]
 obtain ⟨n2, hm2, h⟩ : ∃ n2 : (Int × Bool × ByteArray × Int × b6 × (List a6)) → Hp → Prop, (∀ s' H', n2 s' H' → t s' H' ∧ g s' < g (p1, k7, d6, d7, c6, c7)) ∧ i6 x0.fn p1 k7 d6 d7 c6 c7 H n2 K := ⟨_, fun _ _ h => h, aq (p1, k7, d6, d7, c6, c7) H (fun s' H' => t s' H' ∧ g s' < g (p1, k7, d6, d7, c6, c7)) ar (fun _ _ a b => ⟨a, b⟩)⟩
 unfold T2
 unfold i6 at h
 simp only [t6]
 refine S9 (D := fun ad j => ∃ (f : Bool) (c : Hp) , ad = (gv k7 true (Value.bool f)) ∧ (Inv w0 ps0 H0 c [bx g0 44 [(Value.string d6), (vi d7), (vi c6.o4), (vi c6.r5), (vs m1)], l7] j) ∧ (∀ i, i < w.heap.size → ¬ inF [] i → j.heap[i]? = w.heap[i]?) ∧ Hle H c ∧ (((k7 && f) = true →
 j7 (a7.mk d6 d7 c6 (Sl.mk none 0 0)) c7 c (fun (d : a7) (k : (List a6)) (au : Hp) =>
 g8 (f6 d) k au (fun (m : Int) (o : Bool) (v : Hp) =>
 n2 (m, o, d.fs, d.fn, d.fat, k) v))) ∧
 ((k7 && f) = false →
 f8 x0.fn d6 d7 c6 c7 c K))) (fun e => ?_) (fun e => ?_) ?_
 ·replace h := h.1 e
  have ae := e
  simp only [o2 ae]
  refine g9 Tryd.call36 h I ?_
  rintro _ c _ j p af ag ⟨f, rfl, rfl, h⟩
  exact ⟨f, c, by rfl, p, ag, af, h⟩
 ·exact ⟨false, H, by rw [Z2 e], I, fun _ _ _ => rfl, Hle.refl _, h.2 e⟩
 ·clear h
  rintro ad j ⟨f, c, rfl, p, ag, af, h⟩
  refine a8 (t7 _ _) ?_
  refine o9 h (fun _ h => ?_) (fun _ h => ?_)
  ·refine g9 Tryd.call56 (h g0 m1 l7 p5) ((p.bring 1).bring 1) ?_
   rintro _ _ _ bb av _ _ ⟨d, k, ah, ai, rfl, rfl, aj, h⟩
   refine g9 Tryd.call20 (h g0 ah ai aj) ((av.bring 1).bring 1) ?_
   rintro _ v _ bc aw _ _ ⟨m, o, rfl, rfl, h⟩
   refine a8 (c8 _ _ (Value.int .i32 m) rfl) ?_
   refine a8 (c8 _ _ (Value.bool o) rfl) ?_
   exact hn2 _ _ _ (hm2 _ _ h).2 ⟨(m, o, d.fs, d.fn, d.fat, k), v, ah, ai, rfl, rfl, aj, ((aw.bring 1).bring 1), (hm2 _ _ h).1⟩
  ·exact hx1 _ _ (hj1 d6 d7 c6 c7 m1 l7 c _ p5 ((p.bring 1).bring 1) h)
def r6 (a : a6) (f9 : ByteArray) (g5 : Int) (j8 : b6) (k9 : (List a6)) (b : a6) (H : Hp) (K : a6 → Int → a7 → (List a6) → Hp → Prop) : Prop :=
 K a 0 (a7.mk f9 g5 j8 (Sl.mk none 0 0)) k9 H
def B7 (x0 : a7) (i : (List a6)) (H : Hp) (K : a6 → Int → a7 → (List a6) → Hp → Prop) : Prop :=
 o5 (f6 x0) i H (fun b a c j =>
 G5 b j (fun d e =>
 (d = true →
 r6 (a6.mk 3 b 0 (b6.mk 0 0)) a.fs a.fn a.fat c (a6.mk 0 ⟨#[]⟩ 0 (b6.mk 0 0)) e K) ∧
 (d = false →
 G6 b e (fun f g =>
 (f = true →
 K (a6.mk 1 b 0 (b6.mk 0 0)) 22 (f6 a) c g) ∧
 (f = false →
 r6 (a6.mk 1 b 0 (b6.mk 0 0)) a.fs a.fn a.fat c (a6.mk 0 ⟨#[]⟩ 0 (b6.mk 0 0)) g K)))))
theorem O6 (x0 : a7) (j : (List a6)) {H : Hp} {K : a6 → Int → a7 → (List a6) → Hp → Prop} (h : B7 x0 j H K) : F0 x0 j H K := by
 intro g0 s t u
 refine Ct.of fun w0 w ps0 H0 R E I hR => a5j ?_
 unfold B7 at h
 unfold F41
 refine u5 I Tryd.zeroValue33 (cs := [(vi 0), (Value.string ⟨#[]⟩), (vi 0), (vi 0), (vi 0)]) rfl fun k ac v ad => ?_
 refine g9 Tryd.call37 (h g0 s t u) ((v.bring 2).bring 2) ?_
 rintro _ _ _ ae y _ _ ⟨a, b, d, e, f, rfl, rfl, l, h⟩
 refine a8 (H7 _ _) ?_
 refine u5 y Tryd.zeroValue33 (cs := [(vi 0), (Value.string ⟨#[]⟩), (vi 0), (vi 0), (vi 0)]) rfl fun m af z ag => ?_
 refine m7 z Tryd.sizeOf33 (vs := [(vi 1), (Value.string a), (vi 0), (vi 0), (vi 0)]) (cs' := [(vi 1), (Value.string a), (vi 0), (vi 0), (vi 0)]) rfl rfl (nb rfl) rfl rfl fun ah n ai => ?_
 have hj1 : ∀ (c : a6) (f9 : ByteArray) (g5 : Int) (j8 : b6) (H : Hp) (w : World) (_ : Inv w0 ps0 H0 H [bx m 33 (b7 c), bx g0 44 [(Value.string f9), (vi g5), (vi j8.o4), (vi j8.r5), (vs e)], bx k 33 [(vi (a6.mk 0 ⟨#[]⟩ 0 (b6.mk 0 0)).a0w), (Value.string (a6.mk 0 ⟨#[]⟩ 0 (b6.mk 0 0)).N2), (vi (a6.mk 0 ⟨#[]⟩ 0 (b6.mk 0 0)).T1), (vi (a6.mk 0 ⟨#[]⟩ 0 (b6.mk 0 0)).fAt.o4), (vi (a6.mk 0 ⟨#[]⟩ 0 (b6.mk 0 0)).fAt.r5)], f] w) (_ : r6 c f9 g5 j8 d (a6.mk 0 ⟨#[]⟩ 0 (b6.mk 0 0)) H K), a0R (Value.pointer (some ⟨k, 0, none⟩)) (Value.pointer (some ⟨m, 0, none⟩)) w R E := by
  intro c f9 g5 j8 H w I h
  unfold a0R
  intro _
  unfold r6 at h
  refine o7 (lW Tryd.isAgg33 Tryd.sizeOf33 rfl I) ?_
  refine m7 (I.bring 2) Tryd.sizeOf33 (vs := (b7 c)) (cs' := (b7 c)) rfl rfl (nb rfl) rfl rfl fun aj p ak => ?_
  refine C3 Tryd.isAgg33 Tryd.sizeOf33 rfl (p.at1 (o := 0) (vs := (b7 c)) (nb rfl) rfl) ?_
  exact hR _ H _ _ ((p.drop.drop.bring 1).bring 1) ⟨c, 0, (a7.mk f9 g5 j8 (Sl.mk none 0 0)), d, e, f, rfl, rfl, l, h⟩
 refine B2 fun j1 hx1 => ?_
 refine a8 F7 ?_
 refine o7 (l1 Tryd.isAgg9 n rfl) ?_
 refine g9 Tryd.call13 h n ?_
 rintro _ aa _ al g _ _ ⟨am, rfl, rfl, h⟩
 refine o9 h (fun _ h => ?_) (fun _ h => ?_)
 ·refine a8 a1X ?_
  refine m7 g Tryd.sizeOf3 (vs := [(vi 3)]) (cs' := [(vi 3), (Value.string a), (vi 0), (vi 0), (vi 0)]) rfl rfl (nb rfl) rfl rfl fun an ab ao => ?_
  exact hx1 _ _ (hj1 (a6.mk 3 a 0 (b6.mk 0 0)) b.fs b.fn b.fat aa _ ((((ab.bring 2).bring 3).bring 3).bring 3) h)
 ·refine a8 F7 ?_
  refine o7 (l1 Tryd.isAgg9 g rfl) ?_
  refine g9 Tryd.call28 h g ?_
  rintro _ q _ ap i _ _ ⟨aq, rfl, rfl, h⟩
  refine o9 h (fun _ h => ?_) (fun _ h => ?_)
  ·refine o7 (ldA Tryd.isAgg33 Tryd.sizeOf33 rfl (i.at1 (o := 0) (vs := [(vi 1), (Value.string a), (vi 0), (vi 0), (vi 0)]) (nb rfl) rfl)) ?_
   refine m7 (i.bring 3) Tryd.sizeOf33 (vs := [(vi 1), (Value.string a), (vi 0), (vi 0), (vi 0)]) (cs' := [(vi 1), (Value.string a), (vi 0), (vi 0), (vi 0)]) rfl rfl (nb rfl) rfl rfl fun ar r au => ?_
   refine C3 Tryd.isAgg33 Tryd.sizeOf33 rfl (r.at1 (o := 0) (vs := [(vi 1), (Value.string a), (vi 0), (vi 0), (vi 0)]) (nb rfl) rfl) ?_
   exact hR _ q _ _ ((r.drop.drop.bring 1).bring 1) ⟨(a6.mk 1 a 0 (b6.mk 0 0)), 22, (f6 b), d, e, f, rfl, rfl, l, h⟩
  ·exact hx1 _ _ (hj1 (a6.mk 1 a 0 (b6.mk 0 0)) b.fs b.fn b.fat q _ ((((i.bring 2).bring 3).bring 3).bring 3) h)
end Go.Proofs.YthklmeihgmcljaaDoor
