/- Typed formulas of the program's functions, and the theorems that the contracts follow from them; printed by lift.py off the code. -/
import Derived.Test.YthklmeihgmcljaaDoorzWV1
namespace Go.Proofs.YthklmeihgmcljaaDoor
open Go.RowKit
set_option maxRecDepth 100000
set_option maxHeartbeats 2000000
def q7 (a0D : Int) (H : Hp) (K : Int → Hp → Prop) : Prop :=
 K a0D H
def q8 (b : ByteArray) (Q2 : Int) (a : Nat) (H : Hp) (n2 : (Int × Nat) → Hp → Prop) (K : Int → Hp → Prop) : Prop :=
 (a < b.size →
 n2 ((IntKind.wrap .i64 (Q2 + 1)), (a + (Utf8.decode b a).2)) H) ∧
 (¬ (a < b.size) →
 q7 Q2 H K)
def v6 (x0 : ByteArray) (H : Hp) (K : Int → Hp → Prop) : Prop :=
 TL ((0, 0) : Int × Nat) H fun (s : Int × Nat) H n2 => q8 x0 s.1 s.2 H n2 K
theorem M5 (x0 : ByteArray) {H : Hp} {K : Int → Hp → Prop} (h : v6 x0 H K) : u9 x0 H K := by
 refine Ct.of fun w0 w ps0 H0 R E I hR => a6t ?_
 unfold v6 at h
 unfold F50
 have hj1 : ∀ (a0D : Int) (H : Hp) (w : World) (_ : Inv w0 ps0 H0 H [] w) (_ : q7 a0D H K), a1O (vi a0D) w R E := by
  intro a0D H w I h
  unfold a1O
  intro _
  unfold q7 at h
  exact hR _ H _ _ I ⟨a0D, rfl, rfl, h⟩
 refine u4 fun j1 hx1 => ?_
 refine X7 Tryd.underlying9 x0 I fun j r k t => ?_
 obtain ⟨f, d, m, o⟩ := h
 refine B4 (J := fun n l w => ∃ (s : Int × Nat) (H : Hp) , n = d s ∧ l = (match s with | (Q2, c) => [(vi Q2)]) ∧ (match s with | (Q2, c) => Inv w0 ps0 H0 H [itf j x0 c] w) ∧ f s H) ⟨_, (0, 0), H, rfl, rfl, k, m⟩ ?_
 rintro u v w next2 ⟨⟨Q2, c⟩, H, rfl, g, I, p⟩ hn2
 dsimp only at g I
 simp only [List.map_cons, List.map_nil, List.cons.injEq, and_true] at g
 have e2 := g
 simp only [e2]
 obtain ⟨n2, hm2, h⟩ : ∃ n2 : (Int × Nat) → Hp → Prop, (∀ s' H', n2 s' H' → f s' H' ∧ d s' < d (Q2, c)) ∧ q8 x0 Q2 c H n2 K := ⟨_, fun _ _ h => h, o (Q2, c) H (fun s' H' => f s' H' ∧ d s' < d (Q2, c)) p (fun _ _ a b => ⟨a, b⟩)⟩
 unfold a3L
 unfold q8 at h
 refine a0j I (fun i y q z => ?_) (fun i => ?_)
 ·replace h := h.1 i
  refine a7 (d7 _ _ (Value.bool true) rfl) ?_
  refine J3 (fun e => ?_) (fun e => by cases e)
  refine a7 (E8 _ _ _ _ _ _) ?_
  exact hn2 _ _ _ (hm2 _ _ h).2 ⟨((IntKind.wrap .i64 (Q2 + 1)), (c + (Utf8.decode x0 c).2)), H, rfl, rfl, q, (hm2 _ _ h).1⟩
 ·replace h := h.2 i
  refine a7 (d7 _ _ (Value.bool false) rfl) ?_
  refine J3 (fun e => by cases e) (fun e => ?_)
  exact hx1 _ _ (hj1 Q2 H _ I.drop h)
def G8 (x0 : Int) (x1 : Int) (x2 : Int) (H : Hp) (K : Bool → Hp → Prop) : Prop :=
 K ((decide (x1 ≤ x0)) && (decide (x0 ≤ x2))) H
theorem P8 (x0 : Int) (x1 : Int) (x2 : Int) {H : Hp} {K : Bool → Hp → Prop} (h : G8 x0 x1 x2 H K) : i7 x0 x1 x2 H K := by
 refine Ct.of fun w0 w ps0 H0 R E I hR => a6v ?_
 unfold G8 at h
 unfold F52
 refine a7 (P3 _ _ _ _ _ _) ?_
 simp only [m5]
 refine a7 (Pu.g fun hb => by have a := hb; simp only [j7 a]; with_reducible exact (a0g _ _ _ _ _ _)) ?_
 refine a7 (r9 _ _) ?_
 exact hR _ H _ _ I ⟨((decide (x1 ≤ x0)) && (decide (x0 ≤ x2))), rfl, rfl, h⟩
def t8 (a0E : Int) (H : Hp) (K : Bool → Hp → Prop) : Prop :=
 K (decide (a0E ≤ 32)) H
def s1 (T2 : ByteArray) (G4 : Int) (z8 : Int) (H : Hp) (n2 : (Int × Int) → Hp → Prop) (K : Bool → Hp → Prop) : Prop :=
 (z8 < (T2.size : Int) →
 C9 T2 z8 H (fun d e b f =>
 C3 d f (fun a c =>
 (((!b) || ((!decide (a = 3)) && ((!decide (a = 4)) || (decide (G4 = 0))))) = true →
 K false c) ∧
 (((!b) || ((!decide (a = 3)) && ((!decide (a = 4)) || (decide (G4 = 0))))) = false →
 n2 ((IntKind.wrap .i64 (G4 + 1)), (IntKind.wrap .i64 (z8 + e))) c)))) ∧
 (¬ (z8 < (T2.size : Int)) →
 t8 G4 H K)
def D5 (x0 : ByteArray) (H : Hp) (K : Bool → Hp → Prop) : Prop :=
 TG (((decide (x0 = ⟨#[]⟩)) || (decide (128 < (x0.size : Int)))) = false) (s8 x0 H) false H (fun (a : Bool) (b : Hp) =>
 ((((decide (x0 = ⟨#[]⟩)) || (decide (128 < (x0.size : Int)))) || a) = true →
 K false b) ∧
 ((((decide (x0 = ⟨#[]⟩)) || (decide (128 < (x0.size : Int)))) || a) = false →
 TL ((0, 0) : Int × Int) b fun (s : Int × Int) H n2 => s1 x0 s.1 s.2 H n2 K))
theorem S4 (x0 : ByteArray) {H : Hp} {K : Bool → Hp → Prop} (h : D5 x0 H K) : r6 x0 H K := by
 refine Ct.of fun w0 w ps0 H0 R E I hR => a6b ?_
 unfold D5 at h
 unfold F16
 refine a7 (r3 _ _ _ _ _) ?_
 simp only [m5]
 refine a7 (Pu.g fun hb => by have c := hb; simp only [j7 c]; with_reducible exact (F1 _)) ?_
 refine a7 (Pu.g fun hb => by have c := hb; simp only [j7 c]; with_reducible exact (W4 _ _ _ _ _ _)) ?_
 refine a7 (v8 _ _) ?_
 simp only [m5]
 refine y4 (D := fun v q => ∃ (o : Bool) (j : Hp) , v = (gv ((decide (x0 = ⟨#[]⟩)) || (decide (128 < (x0.size : Int)))) false (Value.bool o)) ∧ (Inv w0 ps0 H0 j [] q) ∧ (∀ i, i < w.heap.size → ¬ inF [] i → q.heap[i]? = w.heap[i]?) ∧ Hle H j ∧ (((((decide (x0 = ⟨#[]⟩)) || (decide (128 < (x0.size : Int)))) || o) = true →
 K false j) ∧
 ((((decide (x0 = ⟨#[]⟩)) || (decide (128 < (x0.size : Int)))) || o) = false →
 TL ((0, 0) : Int × Int) j fun (s : Int × Int) H n2 => s1 x0 s.1 s.2 H n2 K))) (fun k => ?_) (fun k => ?_) ?_
 ·replace h := h.1 k
  have c := k
  simp only [j7 c]
  refine f9 Tryd.call14 h I ?_
  rintro _ j _ q r y z ⟨o, rfl, rfl, h⟩
  exact ⟨o, j, by rfl, r, z, y, h⟩
 ·exact ⟨false, H, by rw [J4 k], I, fun _ _ _ => rfl, Hle.refl _, h.2 k⟩
 ·clear h
  rintro v q ⟨o, j, rfl, r, z, y, h⟩
  refine a7 (v8 _ _) ?_
  refine m3 h (fun _ h => ?_) (fun _ h => ?_)
  ·exact hR _ j _ _ r ⟨false, rfl, rfl, h⟩
  ·have hj1 : ∀ (a0E : Int) (H : Hp) (w : World) (_ : Inv w0 ps0 H0 H [] w) (_ : t8 a0E H K), a1D (vi a0E) w R E := by
    intro a0E H w I h
    unfold a1D
    intro _
    unfold t8 at h
    refine a7 (a0g _ _ _ _ _ _) ?_
    exact hR _ H _ _ I ⟨(decide (a0E ≤ 32)), rfl, rfl, h⟩
   refine u4 fun j1 hx1 => ?_
   obtain ⟨t, p, ad, ae⟩ := h
   refine B4 (J := fun n l w => ∃ (s : Int × Int) (H : Hp) , n = p s ∧ l = (match s with | (G4, z8) => [(vi G4), (vi z8)]) ∧ (match s with | (G4, z8) => Inv w0 ps0 H0 H [] w) ∧ t s H) ⟨_, (0, 0), j, rfl, rfl, r, ad⟩ ?_
   rintro aj ak w next2 ⟨⟨G4, z8⟩, H, rfl, u, I, af⟩ hn2
   dsimp only at u I
   simp only [List.map_cons, List.map_nil, List.cons.injEq, and_true] at u
   obtain ⟨e3, e4⟩ := u
   simp only [e3, e4]
   obtain ⟨n2, hm2, h⟩ : ∃ n2 : (Int × Int) → Hp → Prop, (∀ s' H', n2 s' H' → t s' H' ∧ p s' < p (G4, z8)) ∧ s1 x0 G4 z8 H n2 K := ⟨_, fun _ _ h => h, ae (G4, z8) H (fun s' H' => t s' H' ∧ p s' < p (G4, z8)) af (fun _ _ a b => ⟨a, b⟩)⟩
   unfold a3B
   unfold s1 at h
   refine a7 (F1 _) ?_
   refine a7 (I0 _ _ _ _ _ _) ?_
   refine g5 h (fun _ h => ?_) (fun _ h => ?_)
   ·refine f9 Tryd.call31 h I ?_
    rintro _ al _ am ag _ _ ⟨ah, aa, ai, rfl, rfl, h⟩
    refine a7 (d7 _ _ (vi ah) rfl) ?_
    refine a7 (d7 _ _ (vi aa) rfl) ?_
    refine a7 (d7 _ _ (Value.bool ai) rfl) ?_
    refine f9 Tryd.call32 h ag ?_
    rintro _ ab _ an ac _ _ ⟨ao, rfl, rfl, h⟩
    refine a7 (a1w _) ?_
    simp only [m5]
    refine a7 (Pu.g fun hb => by have c := hb; simp only [j7 c]; with_reducible exact (K2 _ _ _ _ _ _)) ?_
    simp only [Q7, R8]
    refine a7 (Pu.e (B5 _ _ _) (Pu.g fun hb => by obtain ⟨c, d⟩ := H5 hb; simp only [j7 hb]; with_reducible exact (K2 _ _ _ _ _ _))) ?_
    simp only [Q7, a5M]
    refine a7 (Pu.e (a5r _ _ _) (Pu.g fun hb => by obtain ⟨m, f⟩ := a7A hb; obtain ⟨c, d⟩ := H5 m; simp only [j7 hb]; with_reducible exact (l0 _ _ _ _ _ _))) ?_
    refine a7 (Pu.e (B5 _ _ _) (Pu.g fun hb => by obtain ⟨c, d⟩ := H5 hb; simp only [j7 hb, a5L hb]; with_reducible exact (v8 _ _))) ?_
    refine a7 (Pu.g fun hb => by have c := hb; simp only [j7 c, P5 c]; with_reducible exact (r9 _ _)) ?_
    refine a7 (v8 _ _) ?_
    refine m3 h (fun _ h => ?_) (fun _ h => ?_)
    ·exact hR _ ab _ _ ac ⟨false, rfl, rfl, h⟩
    ·refine a7 (E8 _ _ _ _ _ _) ?_
     refine a7 (E8 _ _ _ _ _ _) ?_
     exact hn2 _ _ _ (hm2 _ _ h).2 ⟨((IntKind.wrap .i64 (G4 + 1)), (IntKind.wrap .i64 (z8 + aa))), ab, rfl, rfl, ac, (hm2 _ _ h).1⟩
   ·exact hx1 _ _ (hj1 G4 H _ I h)
def A0 (x0 : ByteArray) (H : Hp) (K : Bool → Hp → Prop) : Prop :=
 C2 H (fun a d =>
 TG (a = true) (t6 x0 d) false d (fun (b : Bool) (e : Hp) =>
 TG (a = true) (s8 x0 e) false e (fun (c : Bool) (f : Hp) =>
 TG ((a && (b == c)) = true) (C0 x0 f) false f (fun (i : Bool) (g : Hp) =>
 TG ((a && (b == c)) = true) (r6 x0 g) false g (fun (j : Bool) (k : Hp) =>
 K ((a && (b == c)) && (i == j)) k)))))
theorem N8 (x0 : ByteArray) {H : Hp} {K : Bool → Hp → Prop} (h : A0 x0 H K) : y8 x0 H K := by
 refine Ct.of fun w0 w ps0 H0 R E I hR => a7M ?_
 unfold A0 at h
 unfold F7
 refine f9 Tryd.call8 h I ?_
 rintro _ ab _ ac ad _ _ ⟨d, rfl, rfl, h⟩
 simp only [m5]
 refine y4 (D := fun ae r => ∃ (c : Bool) (m : Hp) , ae = (gv d true (Value.bool c)) ∧ (Inv w0 ps0 H0 m [] r) ∧ (∀ i, i < ac.heap.size → ¬ inF [] i → r.heap[i]? = ac.heap[i]?) ∧ Hle ab m ∧ (TG (d = true) (s8 x0 m) false m (fun (b : Bool) (j : Hp) =>
 TG ((d && (c == b)) = true) (C0 x0 j) false j (fun (l : Bool) (e : Hp) =>
 TG ((d && (c == b)) = true) (r6 x0 e) false e (fun (k : Bool) (f : Hp) =>
 K ((d && (c == b)) && (l == k)) f))))) (fun n => ?_) (fun n => ?_) ?_
 ·replace h := h.1 n
  have a := n
  simp only [j7 a]
  refine f9 Tryd.call13 h ad ?_
  rintro _ m _ r u af ag ⟨c, rfl, rfl, h⟩
  exact ⟨c, m, by rfl, u, ag, af, h⟩
 ·exact ⟨false, ab, by rw [J4 n], ad, fun _ _ _ => rfl, Hle.refl _, h.2 n⟩
 ·clear h
  rintro ae r ⟨c, m, rfl, u, ag, af, h⟩
  refine y4 (D := fun ah s => ∃ (b : Bool) (j : Hp) , ah = (gv d true (Value.bool b)) ∧ (Inv w0 ps0 H0 j [] s) ∧ (∀ i, i < r.heap.size → ¬ inF [] i → s.heap[i]? = r.heap[i]?) ∧ Hle m j ∧ (TG ((d && (c == b)) = true) (C0 x0 j) false j (fun (l : Bool) (e : Hp) =>
 TG ((d && (c == b)) = true) (r6 x0 e) false e (fun (k : Bool) (f : Hp) =>
 K ((d && (c == b)) && (l == k)) f)))) (fun o => ?_) (fun o => ?_) ?_
  ·replace h := h.1 o
   have a := o
   simp only [j7 a]
   refine f9 Tryd.call14 h u ?_
   rintro _ j _ s v ai aj ⟨b, rfl, rfl, h⟩
   exact ⟨b, j, by rfl, v, aj, ai, h⟩
  ·exact ⟨false, m, by rw [J4 o], u, fun _ _ _ => rfl, Hle.refl _, h.2 o⟩
  ·clear h
   rintro ah s ⟨b, j, rfl, v, aj, ai, h⟩
   refine a7 (Pu.g fun hb => by have a := hb; simp only [j7 a]; with_reducible exact (a1z _ _ _ _)) ?_
   refine a7 (r9 _ _) ?_
   simp only [m5]
   refine y4 (D := fun ak t => ∃ (l : Bool) (e : Hp) , ak = (gv (d && (c == b)) true (Value.bool l)) ∧ (Inv w0 ps0 H0 e [] t) ∧ (∀ i, i < s.heap.size → ¬ inF [] i → t.heap[i]? = s.heap[i]?) ∧ Hle j e ∧ (TG ((d && (c == b)) = true) (r6 x0 e) false e (fun (k : Bool) (f : Hp) =>
 K ((d && (c == b)) && (l == k)) f))) (fun p => ?_) (fun p => ?_) ?_
   ·replace h := h.1 p
    have a := p
    simp only [j7 a]
    refine f9 Tryd.call15 h v ?_
    rintro _ e _ t y al am ⟨l, rfl, rfl, h⟩
    exact ⟨l, e, by rfl, y, am, al, h⟩
   ·exact ⟨false, j, by rw [J4 p], v, fun _ _ _ => rfl, Hle.refl _, h.2 p⟩
   ·clear h
    rintro ak t ⟨l, e, rfl, y, am, al, h⟩
    refine y4 (D := fun an z => ∃ (k : Bool) (f : Hp) , an = (gv (d && (c == b)) true (Value.bool k)) ∧ (Inv w0 ps0 H0 f [] z) ∧ (∀ i, i < t.heap.size → ¬ inF [] i → z.heap[i]? = t.heap[i]?) ∧ Hle e f ∧ (K ((d && (c == b)) && (l == k)) f)) (fun q => ?_) (fun q => ?_) ?_
    ·replace h := h.1 q
     have a := q
     simp only [j7 a]
     refine f9 Tryd.call16 h y ?_
     rintro _ f _ z aa ao ap ⟨k, rfl, rfl, h⟩
     exact ⟨k, f, by rfl, aa, ap, ao, h⟩
    ·exact ⟨false, e, by rw [J4 q], y, fun _ _ _ => rfl, Hle.refl _, h.2 q⟩
    ·clear h
     rintro an z ⟨k, f, rfl, aa, ap, ao, h⟩
     refine a7 (Pu.g fun hb => by have a := hb; simp only [j7 a]; with_reducible exact (a1z _ _ _ _)) ?_
     refine a7 (r9 _ _) ?_
     exact hR _ f _ _ aa ⟨((d && (c == b)) && (l == k)), rfl, rfl, h⟩
def s7 (C7 : ByteArray) (C8 : Int) (B6 : b5) (A4 : (List a6)) (H : Hp) (n1 : (ByteArray × Int × b5 × (List a6)) → Hp → Prop) (K : a8 → (List a6) → Hp → Prop) : Prop :=
 r7 (a8.mk C7 C8 B6 (Sl.mk none 0 0)) A4 H (fun d e =>
 E2 d ⟨#[35]⟩ e (fun b c =>
 (b = true →
 m7 (a8.mk C7 C8 B6 (Sl.mk none 0 0)) A4 c (fun l f g i =>
 m2 (f6 f) g i (fun m a j k =>
 n1 (a.fs, a.fn, a.fat, j) k))) ∧
 (b = false →
 K (a8.mk C7 C8 B6 (Sl.mk none 0 0)) A4 c)))
def B7 (x0 : a8) (b : (List a6)) (H : Hp) (K : a8 → (List a6) → Hp → Prop) : Prop :=
 m2 (f6 x0) b H (fun e a c d =>
 TL ((a.fs, a.fn, a.fat, c) : ByteArray × Int × b5 × (List a6)) d fun (s : ByteArray × Int × b5 × (List a6)) H n1 => s7 s.1 s.2.1 s.2.2.1 s.2.2.2 H n1 K)
theorem Q3 (x0 : a8) (g : (List a6)) {H : Hp} {K : a8 → (List a6) → Hp → Prop} (h : B7 x0 g H K) : u7 x0 g H K := by
 intro g0 k m o
 refine Ct.of fun w0 w ps0 H0 R E I hR => a6d ?_
 unfold B7 at h
 unfold F19
 refine f9 Tryd.call37 (h g0 k m o) ((I.bring 1).bring 1) ?_
 rintro _ p _ an q _ _ ⟨ao, d, r, t, u, rfl, rfl, v, h⟩
 obtain ⟨e, c, y, z⟩ := h
 refine B4 (J := fun n l w => ∃ (s : ByteArray × Int × b5 × (List a6)) (H : Hp) (N9 : Sl) (O0 : Frag) , n = c s ∧ l = (match s with | (C7, C8, B6, A4) => []) ∧ (match s with | (C7, C8, B6, A4) => RowL 33 5 b6 N9 A4 O0) ∧ (match s with | (C7, C8, B6, A4) => Inv w0 ps0 H0 H [bx g0 44 [(Value.string C7), (vi C8), (vi B6.r8), (vi B6.y2), (vs N9)], O0] w) ∧ e s H) ⟨_, (d.fs, d.fn, d.fat, r), p, t, u, rfl, rfl, v, ((q.bring 1).bring 1), y⟩ ?_
 rintro ap aq w next1 ⟨⟨C7, C8, B6, A4⟩, H, N9, O0, rfl, i, U8, I, aa⟩ hn1
 dsimp only at i I U8
 clear i
 obtain ⟨n1, hm1, h⟩ : ∃ n1 : (ByteArray × Int × b5 × (List a6)) → Hp → Prop, (∀ s' H', n1 s' H' → e s' H' ∧ c s' < c (C7, C8, B6, A4)) ∧ s7 C7 C8 B6 A4 H n1 K := ⟨_, fun _ _ h => h, z (C7, C8, B6, A4) H (fun s' H' => e s' H' ∧ c s' < c (C7, C8, B6, A4)) aa (fun _ _ a b => ⟨a, b⟩)⟩
 unfold a3D
 unfold s7 at h
 refine f9 Tryd.call39 (h g0 N9 O0 U8) ((I.bring 1).bring 1) ?_
 rintro _ _ _ ar ab _ _ ⟨au, rfl, rfl, h⟩
 refine f9 Tryd.call38 h ab ?_
 rintro _ ac _ av j _ _ ⟨aw, rfl, rfl, h⟩
 refine m3 h (fun _ h => ?_) (fun _ h => ?_)
 ·refine f9 Tryd.call37 (h g0 N9 O0 U8) ((j.bring 1).bring 1) ?_
  rintro _ _ _ ax ad _ _ ⟨ay, az, ba, ae, af, rfl, rfl, ag, h⟩
  refine f9 Tryd.call37 (h g0 ae af ag) ((ad.bring 1).bring 1) ?_
  rintro _ ah _ bb ai _ _ ⟨bc, f, aj, ak, al, rfl, rfl, am, h⟩
  exact hn1 _ _ _ (hm1 _ _ h).2 ⟨(f.fs, f.fn, f.fat, aj), ah, ak, al, rfl, rfl, am, ((ai.bring 1).bring 1), (hm1 _ _ h).1⟩
 ·exact hR _ ac _ _ ((j.bring 1).bring 1) ⟨(a8.mk C7 C8 B6 (Sl.mk none 0 0)), A4, N9, O0, rfl, rfl, U8, h⟩
def k7 (E3 : Int) (g7 : ByteArray) (g8 : Int) (k9 : b5) (l8 : (List a6)) (H : Hp) (K : ByteArray → a8 → (List a6) → Hp → Prop) : Prop :=
 (0 : Int) ≤ E3 ∧ (E3 : Int) ≤ g8 ∧ (g8 : Int) ≤ g7.size ∧
 K (g7.extract (E3 : Int).toNat (g8 : Int).toNat) (a8.mk g7 g8 k9 (Sl.mk none 0 0)) l8 H
def l9 (Z8 : Int) (p8 : Int) (l7 : Bool) (c8 : ByteArray) (d6 : Int) (c6 : b5) (c7 : (List a6)) (H : Hp) (n2 : (Int × Bool × ByteArray × Int × b5 × (List a6)) → Hp → Prop) (K : ByteArray → a8 → (List a6) → Hp → Prop) : Prop :=
 TG (l7 = true) (E1 p8 H) false H (fun (b : Bool) (c : Hp) =>
 ((l7 && b) = true →
 k8 (a8.mk c8 d6 c6 (Sl.mk none 0 0)) c7 c (fun a d e =>
 i8 (f6 a) d e (fun f g i =>
 n2 (f, g, a.fs, a.fn, a.fat, d) i))) ∧
 ((l7 && b) = false →
 k7 Z8 c8 d6 c6 c7 c K))
def p5 (x0 : a8) (a : (List a6)) (H : Hp) (K : ByteArray → a8 → (List a6) → Hp → Prop) : Prop :=
 i8 (f6 x0) a H (fun b c d =>
 TL ((b, c, x0.fs, x0.fn, x0.fat, a) : Int × Bool × ByteArray × Int × b5 × (List a6)) d fun (s : Int × Bool × ByteArray × Int × b5 × (List a6)) H n2 => l9 x0.fn s.1 s.2.1 s.2.2.1 s.2.2.2.1 s.2.2.2.2.1 s.2.2.2.2.2 H n2 K)
theorem E4 (x0 : a8) (q : (List a6)) {H : Hp} {K : ByteArray → a8 → (List a6) → Hp → Prop} (h : p5 x0 q H K) : p1 x0 q H K := by
 intro g0 y z aa
 refine Ct.of fun w0 w ps0 H0 R E I hR => a0n ?_
 unfold p5 at h
 unfold F37
 refine a7 (o7 _) ?_
 refine a7 u6 ?_
 refine q9 (l1 Tryd.isAgg3 I rfl) ?_
 have hj1 : ∀ (g7 : ByteArray) (g8 : Int) (k9 : b5) (l8 : (List a6)) (s4 : Sl) (o5 : Frag) (H : Hp) (w : World) (_ : RowL 33 5 b6 s4 l8 o5) (_ : Inv w0 ps0 H0 H [bx g0 44 [(Value.string g7), (vi g8), (vi k9.r8), (vi k9.y2), (vs s4)], o5] w) (_ : k7 x0.fn g7 g8 k9 l8 H K), N2 (Value.pointer (some ⟨g0, 0, none⟩)) (vi x0.fn) w R E := by
  intro g7 g8 k9 l8 s4 o5 H w F6 I h
  unfold N2
  intro _
  unfold k7 at h
  refine U5 I fun ax r => ?_
  refine p6 (o7 _) ?_
  refine p6 N1 ?_
  refine p6 (o7 _) ?_
  refine p6 u6 ?_
  refine G3 (l1 Tryd.isAgg9 r rfl) ?_
  refine G3 (l1 Tryd.isAgg3 r rfl) ?_
  obtain ⟨ak, al, am, h⟩ := h
  refine p6 (U6 g7 Tryd.underlying9 ak al am) ?_
  exact hR _ H _ _ ((r.bring 1).bring 1) ⟨(g7.extract (x0.fn : Int).toNat (g8 : Int).toNat), (a8.mk g7 g8 k9 (Sl.mk none 0 0)), l8, s4, o5, rfl, rfl, F6, h⟩
 refine u4 fun j1 hx1 => ?_
 refine f9 Tryd.call20 (h g0 y z aa) ((I.bring 1).bring 1) ?_
 rintro _ an _ ay ao _ _ ⟨ab, ac, rfl, rfl, h⟩
 refine a7 (d7 _ _ (Value.int .i32 ab) rfl) ?_
 refine a7 (d7 _ _ (Value.bool ac) rfl) ?_
 obtain ⟨t, g, ap, aq⟩ := h
 refine B4 (J := fun n l w => ∃ (s : Int × Bool × ByteArray × Int × b5 × (List a6)) (H : Hp) (m6 : Sl) (m0 : Frag) , n = g s ∧ l = (match s with | (p8, l7, c8, d6, c6, c7) => [(Value.int .i32 p8), (Value.bool l7)]) ∧ (match s with | (p8, l7, c8, d6, c6, c7) => RowL 33 5 b6 m6 c7 m0) ∧ (match s with | (p8, l7, c8, d6, c6, c7) => Inv w0 ps0 H0 H [bx g0 44 [(Value.string c8), (vi d6), (vi c6.r8), (vi c6.y2), (vs m6)], m0] w) ∧ t s H) ⟨_, (ab, ac, x0.fs, x0.fn, x0.fat, q), an, y, z, rfl, rfl, aa, ((ao.bring 1).bring 1), ap⟩ ?_
 rintro az ba w next2 ⟨⟨p8, l7, c8, d6, c6, c7⟩, H, m6, m0, rfl, u, p9, I, ar⟩ hn2
 dsimp only at u I p9
 simp only [List.map_cons, List.map_nil, List.cons.injEq, and_true] at u
 obtain ⟨e6, e7⟩ := u
 simp only [e6, e7]
 obtain ⟨n2, hm2, h⟩ : ∃ n2 : (Int × Bool × ByteArray × Int × b5 × (List a6)) → Hp → Prop, (∀ s' H', n2 s' H' → t s' H' ∧ g s' < g (p8, l7, c8, d6, c6, c7)) ∧ l9 x0.fn p8 l7 c8 d6 c6 c7 H n2 K := ⟨_, fun _ _ h => h, aq (p8, l7, c8, d6, c6, c7) H (fun s' H' => t s' H' ∧ g s' < g (p8, l7, c8, d6, c6, c7)) ar (fun _ _ a b => ⟨a, b⟩)⟩
 unfold W7
 unfold l9 at h
 simp only [m5]
 refine y4 (D := fun ad j => ∃ (f : Bool) (c : Hp) , ad = (gv l7 true (Value.bool f)) ∧ (Inv w0 ps0 H0 c [bx g0 44 [(Value.string c8), (vi d6), (vi c6.r8), (vi c6.y2), (vs m6)], m0] j) ∧ (∀ i, i < w.heap.size → ¬ inF [] i → j.heap[i]? = w.heap[i]?) ∧ Hle H c ∧ (((l7 && f) = true →
 k8 (a8.mk c8 d6 c6 (Sl.mk none 0 0)) c7 c (fun (d : a8) (k : (List a6)) (au : Hp) =>
 i8 (f6 d) k au (fun (m : Int) (o : Bool) (v : Hp) =>
 n2 (m, o, d.fs, d.fn, d.fat, k) v))) ∧
 ((l7 && f) = false →
 k7 x0.fn c8 d6 c6 c7 c K))) (fun e => ?_) (fun e => ?_) ?_
 ·replace h := h.1 e
  have ae := e
  simp only [j7 ae]
  refine f9 Tryd.call29 h I ?_
  rintro _ c _ j p af ag ⟨f, rfl, rfl, h⟩
  exact ⟨f, c, by rfl, p, ag, af, h⟩
 ·exact ⟨false, H, by rw [J4 e], I, fun _ _ _ => rfl, Hle.refl _, h.2 e⟩
 ·clear h
  rintro ad j ⟨f, c, rfl, p, ag, af, h⟩
  refine a7 (r9 _ _) ?_
  refine m3 h (fun _ h => ?_) (fun _ h => ?_)
  ·refine f9 Tryd.call56 (h g0 m6 m0 p9) ((p.bring 1).bring 1) ?_
   rintro _ _ _ bb av _ _ ⟨d, k, ah, ai, rfl, rfl, aj, h⟩
   refine f9 Tryd.call20 (h g0 ah ai aj) ((av.bring 1).bring 1) ?_
   rintro _ v _ bc aw _ _ ⟨m, o, rfl, rfl, h⟩
   refine a7 (d7 _ _ (Value.int .i32 m) rfl) ?_
   refine a7 (d7 _ _ (Value.bool o) rfl) ?_
   exact hn2 _ _ _ (hm2 _ _ h).2 ⟨(m, o, d.fs, d.fn, d.fat, k), v, ah, ai, rfl, rfl, aj, ((aw.bring 1).bring 1), (hm2 _ _ h).1⟩
  ·exact hx1 _ _ (hj1 c8 d6 c6 c7 m6 m0 c _ p9 ((p.bring 1).bring 1) h)
def u0 (f : a6) (g7 : ByteArray) (g8 : Int) (k9 : b5) (l8 : (List a6)) (H : Hp) (K : a6 → Int → a8 → (List a6) → Hp → Prop) : Prop :=
 r7 (a8.mk g7 g8 k9 (Sl.mk none 0 0)) l8 H (fun a e =>
 (0 : Int) ≤ 1 ∧ (1 : Int) ≤ a.size ∧
 k8 (a8.mk g7 g8 k9 (Sl.mk none 0 0)) l8 e (fun b c d =>
 (((decide ((a.extract 0 (1 : Int).toNat) = ⟨#[38]⟩)) || (decide ((a.extract 0 (1 : Int).toNat) = ⟨#[124]⟩))) = true →
 K (a6.mk 0 ⟨#[]⟩ 0 (b5.mk 0 0)) 20 (f6 b) c d) ∧
 (((decide ((a.extract 0 (1 : Int).toNat) = ⟨#[38]⟩)) || (decide ((a.extract 0 (1 : Int).toNat) = ⟨#[124]⟩))) = false →
 K (a6.mk 4 (a.extract 0 (1 : Int).toNat) 0 (b5.mk 0 0)) 0 (f6 b) c d)))
def u1 (l7 : r5) (G0 : Int) (a : a6) (c8 : ByteArray) (d6 : Int) (c6 : b5) (c7 : (List a6)) (H : Hp) (n2 : (Int × a6 × ByteArray × Int × b5 × (List a6)) → Hp → Prop) (K : a6 → Int → a8 → (List a6) → Hp → Prop) : Prop :=
 (G0 < 6 →
 (0 : Int) ≤ G0 ∧ (G0 : Int) < 6 ∧
 r7 (a8.mk c8 d6 c6 (Sl.mk none 0 0)) c7 H (fun d e =>
 E2 d (([l7.f0, l7.f1, l7.f2, l7.f3, l7.f4, l7.f5] : List ByteArray).getD (G0 : Int).toNat ⟨#[]⟩) e (fun b c =>
 (b = true →
 k8 (a8.mk c8 d6 c6 (Sl.mk none 0 0)) c7 c (fun f g i =>
 k8 (f6 f) g i (fun j k l =>
 K (a6.mk 4 (([l7.f0, l7.f1, l7.f2, l7.f3, l7.f4, l7.f5] : List ByteArray).getD (G0 : Int).toNat ⟨#[]⟩) 0 (b5.mk 0 0)) 0 (f6 j) k l))) ∧
 (b = false →
 n2 ((IntKind.wrap .i64 (G0 + 1)), a, c8, d6, c6, c7) c)))) ∧
 (¬ (G0 < 6) →
 u0 a c8 d6 c6 c7 H K)
def D6 (x0 : a8) (a : (List a6)) (H : Hp) (K : a6 → Int → a8 → (List a6) → Hp → Prop) : Prop :=
 TL ((0, (a6.mk 0 ⟨#[]⟩ 0 (b5.mk 0 0)), x0.fs, x0.fn, x0.fat, a) : Int × a6 × ByteArray × Int × b5 × (List a6)) H fun (s : Int × a6 × ByteArray × Int × b5 × (List a6)) H n2 => u1 (r5.mk ⟨#[61, 61]⟩ ⟨#[33, 61]⟩ ⟨#[60, 61]⟩ ⟨#[62, 61]⟩ ⟨#[38, 38]⟩ ⟨#[124, 124]⟩) s.1 s.2.1 s.2.2.1 s.2.2.2.1 s.2.2.2.2.1 s.2.2.2.2.2 H n2 K
theorem S5 (x0 : a8) (j : (List a6)) {H : Hp} {K : a6 → Int → a8 → (List a6) → Hp → Prop} (h : D6 x0 j H K) : K4 x0 j H K := by
 intro g0 e af ag
 refine Ct.of fun w0 w ps0 H0 R E I hR => a6r ?_
 unfold D6 at h
 unfold F43
 refine E6 I Tryd.zeroValue33 (cs := [(vi 0), (Value.string ⟨#[]⟩), (vi 0), (vi 0), (vi 0)]) rfl fun k bf ah bg => ?_
 have hj1 : ∀ (m : a6) (g7 : ByteArray) (g8 : Int) (k9 : b5) (l8 : (List a6)) (o5 : Frag) (H : Hp) (w : World) (_ : RowL 33 5 b6 e l8 o5) (_ : Inv w0 ps0 H0 H [bx k 33 (b6 m), bx g0 44 [(Value.string g7), (vi g8), (vi k9.r8), (vi k9.y2), (vs e)], o5] w) (_ : u0 m g7 g8 k9 l8 H K), a1N (Value.pointer (some ⟨g0, 0, none⟩)) (Value.pointer (some ⟨k, 0, none⟩)) w R E := by
  intro m g7 g8 k9 l8 o5 H w F6 I h
  unfold a1N
  intro _
  unfold u0 at h
  refine f9 Tryd.call39 (h g0 e o5 F6) ((I.bring 2).bring 2) ?_
  rintro _ _ _ bh ai _ _ ⟨f, rfl, rfl, h⟩
  obtain ⟨aj, ak, h⟩ := h
  refine a7 (a2v f Tryd.underlying9 aj ak) ?_
  refine f9 Tryd.call56 (h g0 e o5 F6) ((ai.bring 1).bring 1) ?_
  rintro _ r _ bi t _ _ ⟨u, v, y, z, rfl, rfl, aa, h⟩
  refine a7 (r3 _ _ _ _ _) ?_
  simp only [m5]
  refine a7 (Pu.g fun hb => by have c := hb; simp only [j7 c]; with_reducible exact (r3 _ _ _ _ _)) ?_
  refine a7 (v8 _ _) ?_
  refine m3 h (fun _ h => ?_) (fun _ h => ?_)
  ·refine a7 (a0V ) ?_
   refine o8 (t.bring 2) Tryd.sizeOf33 (vs := [(vi 0), (Value.string ⟨#[]⟩), (vi 0), (vi 0), (vi 0)]) (cs' := [(vi 0), (Value.string ⟨#[]⟩), (vi 0), (vi 0), (vi 0)]) rfl rfl (nb rfl) rfl rfl fun bj ab bk => ?_
   refine E5 Tryd.isAgg33 Tryd.sizeOf33 rfl (ab.at1 (o := 0) (vs := [(vi 0), (Value.string ⟨#[]⟩), (vi 0), (vi 0), (vi 0)]) (nb rfl) rfl) ?_
   exact hR _ r _ _ ((ab.drop.bring 1).bring 1) ⟨(a6.mk 0 ⟨#[]⟩ 0 (b5.mk 0 0)), 20, (f6 u), v, y, z, rfl, rfl, aa, h⟩
  ·refine a7 (M0 _ _) ?_
   refine o8 (t.bring 2) Tryd.sizeOf33 (vs := [(vi 4), (Value.string (f.extract 0 (1 : Int).toNat)), (vi 0), (vi 0), (vi 0)]) (cs' := [(vi 4), (Value.string (f.extract 0 (1 : Int).toNat)), (vi 0), (vi 0), (vi 0)]) rfl rfl (nb rfl) rfl rfl fun bl ac bm => ?_
   refine E5 Tryd.isAgg33 Tryd.sizeOf33 rfl (ac.at1 (o := 0) (vs := [(vi 4), (Value.string (f.extract 0 (1 : Int).toNat)), (vi 0), (vi 0), (vi 0)]) (nb rfl) rfl) ?_
   exact hR _ r _ _ ((ac.drop.bring 1).bring 1) ⟨(a6.mk 4 (f.extract 0 (1 : Int).toNat) 0 (b5.mk 0 0)), 0, (f6 u), v, y, z, rfl, rfl, aa, h⟩
 refine u4 fun j1 hx1 => ?_
 refine a7 (T3 _ _ _ _ _ _) ?_
 obtain ⟨p, i, al, am⟩ := h
 refine B4 (J := fun n l w => ∃ (s : Int × a6 × ByteArray × Int × b5 × (List a6)) (H : Hp) (m0 : Frag) , n = i s ∧ l = (match s with | (G0, d, c8, d6, c6, c7) => [(vi G0)]) ∧ (match s with | (G0, d, c8, d6, c6, c7) => RowL 33 5 b6 e c7 m0) ∧ (match s with | (G0, d, c8, d6, c6, c7) => Inv w0 ps0 H0 H [bx k 33 (b6 d), bx g0 44 [(Value.string c8), (vi d6), (vi c6.r8), (vi c6.y2), (vs e)], m0] w) ∧ p s H) ⟨_, (0, (a6.mk 0 ⟨#[]⟩ 0 (b5.mk 0 0)), x0.fs, x0.fn, x0.fat, j), H, af, rfl, rfl, ag, (((ah.bring 2).bring 2).bring 2), al⟩ ?_
 rintro bn bo w next2 ⟨⟨G0, d, c8, d6, c6, c7⟩, H, m0, rfl, q, p9, I, an⟩ hn2
 dsimp only at q I p9
 simp only [List.map_cons, List.map_nil, List.cons.injEq, and_true] at q
 have e8 := q
 simp only [e8]
 obtain ⟨n2, hm2, h⟩ : ∃ n2 : (Int × a6 × ByteArray × Int × b5 × (List a6)) → Hp → Prop, (∀ s' H', n2 s' H' → p s' H' ∧ i s' < i (G0, d, c8, d6, c6, c7)) ∧ u1 (r5.mk ⟨#[61, 61]⟩ ⟨#[33, 61]⟩ ⟨#[60, 61]⟩ ⟨#[62, 61]⟩ ⟨#[38, 38]⟩ ⟨#[124, 124]⟩) G0 d c8 d6 c6 c7 H n2 K := ⟨_, fun _ _ h => h, am (G0, d, c8, d6, c6, c7) H (fun s' H' => p s' H' ∧ i s' < i (G0, d, c8, d6, c6, c7)) an (fun _ _ a b => ⟨a, b⟩)⟩
 unfold a3K
 unfold u1 at h
 refine a7 (I0 _ _ _ _ _ _) ?_
 refine g5 h (fun _ h => ?_) (fun _ h => ?_)
 ·obtain ⟨ao, ap, h⟩ := h
  refine a7 (a3z _ _ _ _ _ _ _ _ ao ap) ?_
  refine f9 Tryd.call39 (h g0 e m0 p9) ((I.bring 2).bring 2) ?_
  rintro _ _ _ bp aq _ _ ⟨bq, rfl, rfl, h⟩
  refine f9 Tryd.call38 h aq ?_
  rintro _ ar _ br ad _ _ ⟨bs, rfl, rfl, h⟩
  refine m3 h (fun _ h => ?_) (fun _ h => ?_)
  ·refine f9 Tryd.call56 (h g0 e m0 p9) ((ad.bring 1).bring 1) ?_
   rintro _ _ _ bt au _ _ ⟨bu, bv, av, aw, rfl, rfl, ax, h⟩
   refine f9 Tryd.call56 (h g0 av aw ax) ((au.bring 1).bring 1) ?_
   rintro _ ay _ bw az _ _ ⟨ba, bb, bc, bd, rfl, rfl, be, h⟩
   refine a7 (M0 _ _) ?_
   refine o8 (az.bring 2) Tryd.sizeOf33 (vs := [(vi 4), (Value.string (([(r5.mk ⟨#[61, 61]⟩ ⟨#[33, 61]⟩ ⟨#[60, 61]⟩ ⟨#[62, 61]⟩ ⟨#[38, 38]⟩ ⟨#[124, 124]⟩).f0, (r5.mk ⟨#[61, 61]⟩ ⟨#[33, 61]⟩ ⟨#[60, 61]⟩ ⟨#[62, 61]⟩ ⟨#[38, 38]⟩ ⟨#[124, 124]⟩).f1, (r5.mk ⟨#[61, 61]⟩ ⟨#[33, 61]⟩ ⟨#[60, 61]⟩ ⟨#[62, 61]⟩ ⟨#[38, 38]⟩ ⟨#[124, 124]⟩).f2, (r5.mk ⟨#[61, 61]⟩ ⟨#[33, 61]⟩ ⟨#[60, 61]⟩ ⟨#[62, 61]⟩ ⟨#[38, 38]⟩ ⟨#[124, 124]⟩).f3, (r5.mk ⟨#[61, 61]⟩ ⟨#[33, 61]⟩ ⟨#[60, 61]⟩ ⟨#[62, 61]⟩ ⟨#[38, 38]⟩ ⟨#[124, 124]⟩).f4, (r5.mk ⟨#[61, 61]⟩ ⟨#[33, 61]⟩ ⟨#[60, 61]⟩ ⟨#[62, 61]⟩ ⟨#[38, 38]⟩ ⟨#[124, 124]⟩).f5] : List ByteArray).getD (G0 : Int).toNat ⟨#[]⟩)), (vi 0), (vi 0), (vi 0)]) (cs' := [(vi 4), (Value.string (([(r5.mk ⟨#[61, 61]⟩ ⟨#[33, 61]⟩ ⟨#[60, 61]⟩ ⟨#[62, 61]⟩ ⟨#[38, 38]⟩ ⟨#[124, 124]⟩).f0, (r5.mk ⟨#[61, 61]⟩ ⟨#[33, 61]⟩ ⟨#[60, 61]⟩ ⟨#[62, 61]⟩ ⟨#[38, 38]⟩ ⟨#[124, 124]⟩).f1, (r5.mk ⟨#[61, 61]⟩ ⟨#[33, 61]⟩ ⟨#[60, 61]⟩ ⟨#[62, 61]⟩ ⟨#[38, 38]⟩ ⟨#[124, 124]⟩).f2, (r5.mk ⟨#[61, 61]⟩ ⟨#[33, 61]⟩ ⟨#[60, 61]⟩ ⟨#[62, 61]⟩ ⟨#[38, 38]⟩ ⟨#[124, 124]⟩).f3, (r5.mk ⟨#[61, 61]⟩ ⟨#[33, 61]⟩ ⟨#[60, 61]⟩ ⟨#[62, 61]⟩ ⟨#[38, 38]⟩ ⟨#[124, 124]⟩).f4, (r5.mk ⟨#[61, 61]⟩ ⟨#[33, 61]⟩ ⟨#[60, 61]⟩ ⟨#[62, 61]⟩ ⟨#[38, 38]⟩ ⟨#[124, 124]⟩).f5] : List ByteArray).getD (G0 : Int).toNat ⟨#[]⟩)), (vi 0), (vi 0), (vi 0)]) rfl rfl (nb rfl) rfl rfl fun bz ae ca => ?_
   refine E5 Tryd.isAgg33 Tryd.sizeOf33 rfl (ae.at1 (o := 0) (vs := [(vi 4), (Value.string (([(r5.mk ⟨#[61, 61]⟩ ⟨#[33, 61]⟩ ⟨#[60, 61]⟩ ⟨#[62, 61]⟩ ⟨#[38, 38]⟩ ⟨#[124, 124]⟩).f0, (r5.mk ⟨#[61, 61]⟩ ⟨#[33, 61]⟩ ⟨#[60, 61]⟩ ⟨#[62, 61]⟩ ⟨#[38, 38]⟩ ⟨#[124, 124]⟩).f1, (r5.mk ⟨#[61, 61]⟩ ⟨#[33, 61]⟩ ⟨#[60, 61]⟩ ⟨#[62, 61]⟩ ⟨#[38, 38]⟩ ⟨#[124, 124]⟩).f2, (r5.mk ⟨#[61, 61]⟩ ⟨#[33, 61]⟩ ⟨#[60, 61]⟩ ⟨#[62, 61]⟩ ⟨#[38, 38]⟩ ⟨#[124, 124]⟩).f3, (r5.mk ⟨#[61, 61]⟩ ⟨#[33, 61]⟩ ⟨#[60, 61]⟩ ⟨#[62, 61]⟩ ⟨#[38, 38]⟩ ⟨#[124, 124]⟩).f4, (r5.mk ⟨#[61, 61]⟩ ⟨#[33, 61]⟩ ⟨#[60, 61]⟩ ⟨#[62, 61]⟩ ⟨#[38, 38]⟩ ⟨#[124, 124]⟩).f5] : List ByteArray).getD (G0 : Int).toNat ⟨#[]⟩)), (vi 0), (vi 0), (vi 0)]) (nb rfl) rfl) ?_
   exact hR _ ay _ _ ((ae.drop.bring 1).bring 1) ⟨(a6.mk 4 (([(r5.mk ⟨#[61, 61]⟩ ⟨#[33, 61]⟩ ⟨#[60, 61]⟩ ⟨#[62, 61]⟩ ⟨#[38, 38]⟩ ⟨#[124, 124]⟩).f0, (r5.mk ⟨#[61, 61]⟩ ⟨#[33, 61]⟩ ⟨#[60, 61]⟩ ⟨#[62, 61]⟩ ⟨#[38, 38]⟩ ⟨#[124, 124]⟩).f1, (r5.mk ⟨#[61, 61]⟩ ⟨#[33, 61]⟩ ⟨#[60, 61]⟩ ⟨#[62, 61]⟩ ⟨#[38, 38]⟩ ⟨#[124, 124]⟩).f2, (r5.mk ⟨#[61, 61]⟩ ⟨#[33, 61]⟩ ⟨#[60, 61]⟩ ⟨#[62, 61]⟩ ⟨#[38, 38]⟩ ⟨#[124, 124]⟩).f3, (r5.mk ⟨#[61, 61]⟩ ⟨#[33, 61]⟩ ⟨#[60, 61]⟩ ⟨#[62, 61]⟩ ⟨#[38, 38]⟩ ⟨#[124, 124]⟩).f4, (r5.mk ⟨#[61, 61]⟩ ⟨#[33, 61]⟩ ⟨#[60, 61]⟩ ⟨#[62, 61]⟩ ⟨#[38, 38]⟩ ⟨#[124, 124]⟩).f5] : List ByteArray).getD (G0 : Int).toNat ⟨#[]⟩) 0 (b5.mk 0 0)), 0, (f6 ba), bb, bc, bd, rfl, rfl, be, h⟩
  ·refine a7 (E8 _ _ _ _ _ _) ?_
   exact hn2 _ _ _ (hm2 _ _ h).2 ⟨((IntKind.wrap .i64 (G0 + 1)), d, c8, d6, c6, c7), ar, m0, rfl, rfl, p9, (((ad.bring 1).bring 1).bring 2), (hm2 _ _ h).1⟩
 ·exact hx1 _ _ (hj1 d c8 d6 c6 c7 m0 H _ p9 (((I.bring 2).bring 2).bring 2) h)
end Go.Proofs.YthklmeihgmcljaaDoor
