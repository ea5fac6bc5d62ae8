/- Typed formulas of the program's functions, and the theorems that the contracts follow from them; printed by lift.py off the code. -/
import Derived.Test.YthklmeihgmcljaaDoorzLV1
namespace Go.Proofs.YthklmeihgmcljaaDoor
open Go.RowKit
set_option maxRecDepth 100000
set_option maxHeartbeats 2000000
def r5 (a3C : Int) (a3D : Int) (X3 : ByteArray) (H : Hp) (K : Bool → Hp → Prop) : Prop :=
 X3.size + (⟨#[195, 169, 49]⟩ : ByteArray).size ≤ 9223372036854775807 ∧
 C7 (X3 ++ (⟨#[195, 169, 49]⟩ : ByteArray)) H (fun b f c d =>
 ∃ a : a6, (((decide (c = 0)) && (decide ((b.n : Int) = 2))) = true → (0 : Int) ≤ 0 ∧ (0 : Int) < b.n ∧ EltH d b 0 5 (b7 a)) ∧
 ∃ e : a6, ((((decide (c = 0)) && (decide ((b.n : Int) = 2))) && (decide (a.Y6 = 1 ∧ a.M8 = ⟨#[195, 169, 49]⟩ ∧ a.S0 = 0 ∧ a.fAt.o4 = (IntKind.wrap .i64 (a3C + 1)) ∧ a.fAt.s6 = (IntKind.wrap .i64 (a3D + 1))))) = true → (0 : Int) ≤ 1 ∧ (1 : Int) < b.n ∧ EltH d b 1 5 (b7 e)) ∧
 K ((((decide (c = 0)) && (decide ((b.n : Int) = 2))) && (decide (a.Y6 = 1 ∧ a.M8 = ⟨#[195, 169, 49]⟩ ∧ a.S0 = 0 ∧ a.fAt.o4 = (IntKind.wrap .i64 (a3C + 1)) ∧ a.fAt.s6 = (IntKind.wrap .i64 (a3D + 1))))) && (decide (e.fAt.o4 = (IntKind.wrap .i64 (a3C + 1)) ∧ e.fAt.s6 = (IntKind.wrap .i64 (a3D + 3))))) d)
def r6 (a6T : Int) (a3E : Int) (K7 : ByteArray) (N7 : Int) (H : Hp) (n3 : (ByteArray × Int) → Hp → Prop) (K : Bool → Hp → Prop) : Prop :=
 (N7 < a3E →
 K7.size + (⟨#[32]⟩ : ByteArray).size ≤ 9223372036854775807 ∧
 n3 ((K7 ++ (⟨#[32]⟩ : ByteArray)), (IntKind.wrap .i64 (N7 + 1))) H) ∧
 (¬ (N7 < a3E) →
 r5 a6T a3E K7 H K)
def r7 (a6U : Int) (a6V : Int) (u7 : ByteArray) (H : Hp) (K : Bool → Hp → Prop) : Prop :=
 TL ((u7, 0) : ByteArray × Int) H fun (s : ByteArray × Int) H n3 => r6 a6U a6V s.1 s.2 H n3 K
def r8 (a3F : Int) (a6W : Int) (K8 : ByteArray) (N8 : Int) (H : Hp) (n4 : (ByteArray × Int) → Hp → Prop) (K : Bool → Hp → Prop) : Prop :=
 (N8 < a3F →
 K8.size + (⟨#[35, 32, 195, 169, 10]⟩ : ByteArray).size ≤ 9223372036854775807 ∧
 n4 ((K8 ++ (⟨#[35, 32, 195, 169, 10]⟩ : ByteArray)), (IntKind.wrap .i64 (N8 + 1))) H) ∧
 (¬ (N8 < a3F) →
 r7 a3F a6W K8 H K)
def y6 (x0 : Int) (x1 : Int) (H : Hp) (K : Bool → Hp → Prop) : Prop :=
 B2 H (fun b a =>
 ((!b) = true →
 K false a) ∧
 ((!b) = false →
 (((((decide (x0 < 0)) || (decide (300 < x0))) || (decide (x1 < 0))) || (decide (300 < x1))) = true →
 K true a) ∧
 (((((decide (x0 < 0)) || (decide (300 < x0))) || (decide (x1 < 0))) || (decide (300 < x1))) = false →
 TL ((⟨#[]⟩, 0) : ByteArray × Int) a fun (s : ByteArray × Int) H n4 => r8 x0 x1 s.1 s.2 H n4 K)))
theorem L6 (x0 : Int) (x1 : Int) {H : Hp} {K : Bool → Hp → Prop} (h : y6 x0 x1 H K) : y1 x0 x1 H K := by
 refine Ct.of fun w0 w ps0 H0 R E I hR => a6F ?_
 unfold y6 at h
 unfold F6
 refine j7 Tryd.call8 h I ?_
 rintro _ p _ an q _ _ ⟨ao, rfl, rfl, h⟩
 refine a7 (a4R _) ?_
 refine o6 h (fun _ h => ?_) (fun _ h => ?_)
 ·exact hR _ p _ _ q ⟨false, rfl, rfl, h⟩
 ·refine a7 (Q8 _ _ _ _ _ _) ?_
  simp only [s7]
  refine a7 (Pu.g fun hb => by have c := hb; simp only [m1 c]; with_reducible exact (T8 _ _ _ _ _ _)) ?_
  refine a7 (Q3 _ _) ?_
  simp only [s7]
  refine a7 (Pu.g fun hb => by have c := hb; simp only [m1 c]; with_reducible exact (Q8 _ _ _ _ _ _)) ?_
  refine a7 (Q3 _ _) ?_
  simp only [s7]
  refine a7 (Pu.g fun hb => by have c := hb; simp only [m1 c]; with_reducible exact (T8 _ _ _ _ _ _)) ?_
  refine a7 (Q3 _ _) ?_
  refine o6 h (fun _ h => ?_) (fun _ h => ?_)
  ·exact hR _ p _ _ q ⟨true, rfl, rfl, h⟩
  ·have hj1 : ∀ (u7 : ByteArray) (H : Hp) (w : World) (_ : Inv w0 ps0 H0 H [] w) (_ : r7 x0 x1 u7 H K), a2i (vi x0) (vi x1) (Value.string u7) w R E := by
    intro u7 H w I h
    unfold a2i
    intro _
    unfold r7 at h
    have hj2 : ∀ (X3 : ByteArray) (H : Hp) (w : World) (_ : Inv w0 ps0 H0 H [] w) (_ : r5 x0 x1 X3 H K), a2h (vi x0) (vi x1) (Value.string X3) w R E := by
     intro X3 H w I h
     unfold a2h
     intro _
     unfold r5 at h
     obtain ⟨aa, h⟩ := h
     refine a7 (a0S _ _ _ X3 ⟨#[195, 169, 49]⟩ aa) ?_
     refine j7 Tryd.call9 h I ?_
     rintro _ ab _ ap ac _ _ ⟨ad, y, z, rfl, rfl, h⟩
     refine a7 (d8 _ _ _ rfl) ?_
     refine a7 (d8 _ _ _ rfl) ?_
     refine a7 (d8 _ _ (vi z) rfl) ?_
     refine B5 ac Tryd.zeroValue25 (cs := [(vi 0), (vi 0)]) rfl fun aq ar ae au => ?_
     refine o3 ae Tryd.sizeOf25 (vs := (s5 y)) (cs' := (s5 y)) rfl rfl (nb rfl) rfl rfl fun av i aw => ?_
     refine a7 (l8 _ _ _ _ _ _) ?_
     simp only [s7]
     refine a7 (Pu.g fun hb => by have c := hb; simp only [m1 c]; exact (a0r _ _ _)) ?_
     refine a7 (Pu.g fun hb => by have c := hb; simp only [m1 c]; with_reducible exact (l8 _ _ _ _ _ _)) ?_
     refine a7 (A6 _ _) ?_
     simp only [s7]
     obtain ⟨f, d, h⟩ := h
     obtain ⟨ax, ay, d⟩ := Y4 d
     refine a7 (Pu.g fun hb => by have c := hb; simp only [m1 c]; exact (P4 (d hb).2.2.1 _ _ _ _ (d hb).1 (d hb).2.1)) ?_
     refine o5 (Ld.g fun hb => by have c := hb; simp only [m1 c]; exact (ldA (vs := (b7 f)) Tryd.isAgg33 Tryd.sizeOf33 rfl (i.atH (d hb).2.2.2))) ?_
     refine a7 (Pu.g fun hb => by have c := hb; simp only [m1 c]; with_reducible exact (G6 _ _ _ _ _ _)) ?_
     refine a7 (Pu.g fun hb => by have c := hb; simp only [m1 c]; with_reducible exact (G6 _ _ _ _ _ _)) ?_
     refine a7 (Pu.g fun hb => by have c := hb; simp only [m1 c]; with_reducible exact (F1 _ _)) ?_
     refine a7 (Pu.g fun hb => by have c := hb; simp only [m1 c]; with_reducible exact (Y8 _ _ _ _)) ?_
     refine a7 (Pu.g fun hb => by have c := hb; simp only [m1 c]; with_reducible exact (a3B _ _ _ _ _ _ _ _ _ _ _ _)) ?_
     refine a7 (A6 _ _) ?_
     simp only [s7]
     obtain ⟨j, e, h⟩ := h
     obtain ⟨az, ba, e⟩ := Y4 e
     refine a7 (Pu.g fun hb => by have c := hb; simp only [m1 c]; exact (P4 (e hb).2.2.1 _ _ _ _ (e hb).1 (e hb).2.1)) ?_
     refine a7 (Pu.g fun hb => by have c := hb; simp only [m1 c]; with_reducible exact S1) ?_
     refine o5 (Ld.g fun hb => by have c := hb; simp only [m1 c]; exact (ldA (vs := (s5 j.fAt)) Tryd.isAgg25 Tryd.sizeOf25 rfl ((i.atH (e hb).2.2.2).sub (k := 3) (n := 2) (nb rfl)))) ?_
     refine a7 (Pu.g fun hb => by have c := hb; simp only [m1 c]; with_reducible exact (G6 _ _ _ _ _ _)) ?_
     refine a7 (Pu.g fun hb => by have c := hb; simp only [m1 c]; with_reducible exact (G6 _ _ _ _ _ _)) ?_
     refine a7 (Pu.g fun hb => by have c := hb; simp only [m1 c]; with_reducible exact (F1 _ _)) ?_
     refine a7 (Pu.g fun hb => by have c := hb; simp only [m1 c]; with_reducible exact (X1 _ _ _ _ _ _)) ?_
     refine a7 (A6 _ _) ?_
     exact hR _ ab _ _ i.drop ⟨((((decide (z = 0)) && (decide ((ad.n : Int) = 2))) && (decide (f.Y6 = 1 ∧ f.M8 = ⟨#[195, 169, 49]⟩ ∧ f.S0 = 0 ∧ f.fAt.o4 = (IntKind.wrap .i64 (x0 + 1)) ∧ f.fAt.s6 = (IntKind.wrap .i64 (x1 + 1))))) && (decide (j.fAt.o4 = (IntKind.wrap .i64 (x0 + 1)) ∧ j.fAt.s6 = (IntKind.wrap .i64 (x1 + 3))))), rfl, rfl, h⟩
    refine A7 fun j2 hx2 => ?_
    obtain ⟨r, m, af, ag⟩ := h
    refine D2 (J := fun n l w => ∃ (s : ByteArray × Int) (H : Hp) , n = m s ∧ l = (match s with | (K7, N7) => [(Value.string K7), (vi N7)]) ∧ (match s with | (K7, N7) => Inv w0 ps0 H0 H [] w) ∧ r s H) ⟨_, (u7, 0), H, rfl, rfl, I, af⟩ ?_
    rintro bb bc w next3 ⟨⟨K7, N7⟩, H, rfl, t, I, ah⟩ hn3
    dsimp only at t I
    simp only [List.map_cons, List.map_nil, List.cons.injEq, and_true] at t
    obtain ⟨e5, e7⟩ := t
    simp only [e5, e7]
    obtain ⟨n3, hm3, h⟩ : ∃ n3 : (ByteArray × Int) → Hp → Prop, (∀ s' H', n3 s' H' → r s' H' ∧ m s' < m (K7, N7)) ∧ r6 x0 x1 K7 N7 H n3 K := ⟨_, fun _ _ h => h, ag (K7, N7) H (fun s' H' => r s' H' ∧ m s' < m (K7, N7)) ah (fun _ _ a b => ⟨a, b⟩)⟩
    unfold a4j
    unfold r6 at h
    refine a7 (Q8 _ _ _ _ _ _) ?_
    refine k7 h (fun _ h => ?_) (fun _ h => ?_)
    ·obtain ⟨ai, h⟩ := h
     refine a7 (a0S _ _ _ K7 ⟨#[32]⟩ ai) ?_
     refine a7 (G6 _ _ _ _ _ _) ?_
     exact hn3 _ _ _ (hm3 _ _ h).2 ⟨((K7 ++ (⟨#[32]⟩ : ByteArray)), (IntKind.wrap .i64 (N7 + 1))), H, rfl, rfl, I, (hm3 _ _ h).1⟩
    ·exact hx2 _ _ (hj2 K7 H _ I h)
   refine A7 fun j1 hx1 => ?_
   obtain ⟨u, o, aj, ak⟩ := h
   refine D2 (J := fun n l w => ∃ (s : ByteArray × Int) (H : Hp) , n = o s ∧ l = (match s with | (K8, N8) => [(Value.string K8), (vi N8)]) ∧ (match s with | (K8, N8) => Inv w0 ps0 H0 H [] w) ∧ u s H) ⟨_, (⟨#[]⟩, 0), p, rfl, rfl, q, aj⟩ ?_
   rintro bd be w next4 ⟨⟨K8, N8⟩, H, rfl, v, I, al⟩ hn4
   dsimp only at v I
   simp only [List.map_cons, List.map_nil, List.cons.injEq, and_true] at v
   obtain ⟨e5, e6⟩ := v
   simp only [e5, e6]
   obtain ⟨n4, hm4, h⟩ : ∃ n4 : (ByteArray × Int) → Hp → Prop, (∀ s' H', n4 s' H' → u s' H' ∧ o s' < o (K8, N8)) ∧ r8 x0 x1 K8 N8 H n4 K := ⟨_, fun _ _ h => h, ak (K8, N8) H (fun s' H' => u s' H' ∧ o s' < o (K8, N8)) al (fun _ _ a b => ⟨a, b⟩)⟩
   unfold a4k
   unfold r8 at h
   refine a7 (Q8 _ _ _ _ _ _) ?_
   refine k7 h (fun _ h => ?_) (fun _ h => ?_)
   ·obtain ⟨am, h⟩ := h
    refine a7 (a0S _ _ _ K8 ⟨#[35, 32, 195, 169, 10]⟩ am) ?_
    refine a7 (G6 _ _ _ _ _ _) ?_
    exact hn4 _ _ _ (hm4 _ _ h).2 ⟨((K8 ++ (⟨#[35, 32, 195, 169, 10]⟩ : ByteArray)), (IntKind.wrap .i64 (N8 + 1))), H, rfl, rfl, I, (hm4 _ _ h).1⟩
   ·exact hx1 _ _ (hj1 K8 H _ I h)
def p9 (a0g : Int) (H : Hp) (K : Int → Hp → Prop) : Prop :=
 K a0g H
def q5 (b : ByteArray) (N9 : Int) (a : Nat) (H : Hp) (n2 : (Int × Nat) → Hp → Prop) (K : Int → Hp → Prop) : Prop :=
 (a < b.size →
 n2 ((IntKind.wrap .i64 (N9 + 1)), (a + (Utf8.decode b a).2)) H) ∧
 (¬ (a < b.size) →
 p9 N9 H K)
def u6 (x0 : ByteArray) (H : Hp) (K : Int → Hp → Prop) : Prop :=
 TL ((0, 0) : Int × Nat) H fun (s : Int × Nat) H n2 => q5 x0 s.1 s.2 H n2 K
theorem J9 (x0 : ByteArray) {H : Hp} {K : Int → Hp → Prop} (h : u6 x0 H K) : u4 x0 H K := by
 refine Ct.of fun w0 w ps0 H0 R E I hR => a5s ?_
 unfold u6 at h
 unfold F50
 have hj1 : ∀ (a0g : Int) (H : Hp) (w : World) (_ : Inv w0 ps0 H0 H [] w) (_ : p9 a0g H K), a1e (vi a0g) w R E := by
  intro a0g H w I h
  unfold a1e
  intro _
  unfold p9 at h
  exact hR _ H _ _ I ⟨a0g, rfl, rfl, h⟩
 refine A7 fun j1 hx1 => ?_
 refine a0f Tryd.underlying9 x0 I fun j r k t => ?_
 obtain ⟨f, d, m, o⟩ := h
 refine D2 (J := fun n l w => ∃ (s : Int × Nat) (H : Hp) , n = d s ∧ l = (match s with | (N9, c) => [(vi N9)]) ∧ (match s with | (N9, c) => Inv w0 ps0 H0 H [itf j x0 c] w) ∧ f s H) ⟨_, (0, 0), H, rfl, rfl, k, m⟩ ?_
 rintro u v w next2 ⟨⟨N9, c⟩, H, rfl, g, I, p⟩ hn2
 dsimp only at g I
 simp only [List.map_cons, List.map_nil, List.cons.injEq, and_true] at g
 have e2 := g
 simp only [e2]
 obtain ⟨n2, hm2, h⟩ : ∃ n2 : (Int × Nat) → Hp → Prop, (∀ s' H', n2 s' H' → f s' H' ∧ d s' < d (N9, c)) ∧ q5 x0 N9 c H n2 K := ⟨_, fun _ _ h => h, o (N9, c) H (fun s' H' => f s' H' ∧ d s' < d (N9, c)) p (fun _ _ a b => ⟨a, b⟩)⟩
 unfold a2R
 unfold q5 at h
 refine a0T I (fun i y q z => ?_) (fun i => ?_)
 ·replace h := h.1 i
  refine a7 (d8 _ _ (Value.bool true) rfl) ?_
  refine K1 (fun e => ?_) (fun e => by cases e)
  refine a7 (G6 _ _ _ _ _ _) ?_
  exact hn2 _ _ _ (hm2 _ _ h).2 ⟨((IntKind.wrap .i64 (N9 + 1)), (c + (Utf8.decode x0 c).2)), H, rfl, rfl, q, (hm2 _ _ h).1⟩
 ·replace h := h.2 i
  refine a7 (d8 _ _ (Value.bool false) rfl) ?_
  refine K1 (fun e => by cases e) (fun e => ?_)
  exact hx1 _ _ (hj1 N9 H _ I.drop h)
def s1 (B6 : ByteArray) (B7 : Int) (A8 : b6) (y7 : (List a6)) (H : Hp) (n1 : (ByteArray × Int × b6 × (List a6)) → Hp → Prop) (K : a8 → (List a6) → Hp → Prop) : Prop :=
 q7 (a8.mk B6 B7 A8 (Sl.mk none 0 0)) y7 H (fun d e =>
 C8 d ⟨#[35]⟩ e (fun b c =>
 (b = true →
 m3 (a8.mk B6 B7 A8 (Sl.mk none 0 0)) y7 c (fun l f g i =>
 l9 (f7 f) g i (fun m a j k =>
 n1 (a.fs, a.fn, a.fat, j) k))) ∧
 (b = false →
 K (a8.mk B6 B7 A8 (Sl.mk none 0 0)) y7 c)))
def A9 (x0 : a8) (b : (List a6)) (H : Hp) (K : a8 → (List a6) → Hp → Prop) : Prop :=
 l9 (f7 x0) b H (fun e a c d =>
 TL ((a.fs, a.fn, a.fat, c) : ByteArray × Int × b6 × (List a6)) d fun (s : ByteArray × Int × b6 × (List a6)) H n1 => s1 s.1 s.2.1 s.2.2.1 s.2.2.2 H n1 K)
theorem O0 (x0 : a8) (g : (List a6)) {H : Hp} {K : a8 → (List a6) → Hp → Prop} (h : A9 x0 g H K) : u1 x0 g H K := by
 intro g0 k m o
 refine Ct.of fun w0 w ps0 H0 R E I hR => a5e ?_
 unfold A9 at h
 unfold F19
 refine j7 Tryd.call37 (h g0 k m o) ((I.bring 1).bring 1) ?_
 rintro _ p _ an q _ _ ⟨ao, d, r, t, u, rfl, rfl, v, h⟩
 obtain ⟨e, c, y, z⟩ := h
 refine D2 (J := fun n l w => ∃ (s : ByteArray × Int × b6 × (List a6)) (H : Hp) (L8 : Sl) (L9 : Frag) , n = c s ∧ l = (match s with | (B6, B7, A8, y7) => []) ∧ (match s with | (B6, B7, A8, y7) => RowL 33 5 b7 L8 y7 L9) ∧ (match s with | (B6, B7, A8, y7) => Inv w0 ps0 H0 H [bx g0 44 [(Value.string B6), (vi B7), (vi A8.o4), (vi A8.s6), (vs L8)], L9] w) ∧ e s H) ⟨_, (d.fs, d.fn, d.fat, r), p, t, u, rfl, rfl, v, ((q.bring 1).bring 1), y⟩ ?_
 rintro ap aq w next1 ⟨⟨B6, B7, A8, y7⟩, H, L8, L9, rfl, i, S2, I, aa⟩ hn1
 dsimp only at i I S2
 clear i
 obtain ⟨n1, hm1, h⟩ : ∃ n1 : (ByteArray × Int × b6 × (List a6)) → Hp → Prop, (∀ s' H', n1 s' H' → e s' H' ∧ c s' < c (B6, B7, A8, y7)) ∧ s1 B6 B7 A8 y7 H n1 K := ⟨_, fun _ _ h => h, z (B6, B7, A8, y7) H (fun s' H' => e s' H' ∧ c s' < c (B6, B7, A8, y7)) aa (fun _ _ a b => ⟨a, b⟩)⟩
 unfold a2L
 unfold s1 at h
 refine j7 Tryd.call39 (h g0 L8 L9 S2) ((I.bring 1).bring 1) ?_
 rintro _ _ _ ar ab _ _ ⟨au, rfl, rfl, h⟩
 refine j7 Tryd.call38 h ab ?_
 rintro _ ac _ av j _ _ ⟨aw, rfl, rfl, h⟩
 refine o6 h (fun _ h => ?_) (fun _ h => ?_)
 ·refine j7 Tryd.call37 (h g0 L8 L9 S2) ((j.bring 1).bring 1) ?_
  rintro _ _ _ ax ad _ _ ⟨ay, az, ba, ae, af, rfl, rfl, ag, h⟩
  refine j7 Tryd.call37 (h g0 ae af ag) ((ad.bring 1).bring 1) ?_
  rintro _ ah _ bb ai _ _ ⟨bc, f, aj, ak, al, rfl, rfl, am, h⟩
  exact hn1 _ _ _ (hm1 _ _ h).2 ⟨(f.fs, f.fn, f.fat, aj), ah, ak, al, rfl, rfl, am, ((ai.bring 1).bring 1), (hm1 _ _ h).1⟩
 ·exact hR _ ac _ _ ((j.bring 1).bring 1) ⟨(a8.mk B6 B7 A8 (Sl.mk none 0 0)), y7, L8, L9, rfl, rfl, S2, h⟩
def j6 (u7 : Int) (g5 : ByteArray) (g6 : Int) (j9 : b6) (k9 : (List a6)) (H : Hp) (K : ByteArray → a8 → (List a6) → Hp → Prop) : Prop :=
 (0 : Int) ≤ u7 ∧ (u7 : Int) ≤ g6 ∧ (g6 : Int) ≤ g5.size ∧
 K (g5.extract (u7 : Int).toNat (g6 : Int).toNat) (a8.mk g5 g6 j9 (Sl.mk none 0 0)) k9 H
def l0 (X2 : Int) (p5 : Int) (k8 : Bool) (c8 : ByteArray) (d6 : Int) (c6 : b6) (c7 : (List a6)) (H : Hp) (n2 : (Int × Bool × ByteArray × Int × b6 × (List a6)) → Hp → Prop) (K : ByteArray → a8 → (List a6) → Hp → Prop) : Prop :=
 TG (k8 = true) (G0 p5 H) false H (fun (b : Bool) (c : Hp) =>
 ((k8 && b) = true →
 j8 (a8.mk c8 d6 c6 (Sl.mk none 0 0)) c7 c (fun a d e =>
 g9 (f7 a) d e (fun f g i =>
 n2 (f, g, a.fs, a.fn, a.fat, d) i))) ∧
 ((k8 && b) = false →
 j6 X2 c8 d6 c6 c7 c K))
def o8 (x0 : a8) (a : (List a6)) (H : Hp) (K : ByteArray → a8 → (List a6) → Hp → Prop) : Prop :=
 g9 (f7 x0) a H (fun b c d =>
 TL ((b, c, x0.fs, x0.fn, x0.fat, a) : Int × Bool × ByteArray × Int × b6 × (List a6)) d fun (s : Int × Bool × ByteArray × Int × b6 × (List a6)) H n2 => l0 x0.fn s.1 s.2.1 s.2.2.1 s.2.2.2.1 s.2.2.2.2.1 s.2.2.2.2.2 H n2 K)
theorem C9 (x0 : a8) (q : (List a6)) {H : Hp} {K : ByteArray → a8 → (List a6) → Hp → Prop} (h : o8 x0 q H K) : o7 x0 q H K := by
 intro g0 y z aa
 refine Ct.of fun w0 w ps0 H0 R E I hR => Z0 ?_
 unfold o8 at h
 unfold F37
 refine a7 (o2 _) ?_
 refine a7 u0 ?_
 refine o5 (l1 Tryd.isAgg3 I rfl) ?_
 have hj1 : ∀ (g5 : ByteArray) (g6 : Int) (j9 : b6) (k9 : (List a6)) (q9 : Sl) (m9 : Frag) (H : Hp) (w : World) (_ : RowL 33 5 b7 q9 k9 m9) (_ : Inv w0 ps0 H0 H [bx g0 44 [(Value.string g5), (vi g6), (vi j9.o4), (vi j9.s6), (vs q9)], m9] w) (_ : j6 x0.fn g5 g6 j9 k9 H K), K6 (Value.pointer (some ⟨g0, 0, none⟩)) (vi x0.fn) w R E := by
  intro g5 g6 j9 k9 q9 m9 H w D7 I h
  unfold K6
  intro _
  unfold j6 at h
  refine R8 I fun ax r => ?_
  refine o9 (o2 _) ?_
  refine o9 K5 ?_
  refine o9 (o2 _) ?_
  refine o9 u0 ?_
  refine E1 (l1 Tryd.isAgg9 r rfl) ?_
  refine E1 (l1 Tryd.isAgg3 r rfl) ?_
  obtain ⟨ak, al, am, h⟩ := h
  refine o9 (R9 g5 Tryd.underlying9 ak al am) ?_
  exact hR _ H _ _ ((r.bring 1).bring 1) ⟨(g5.extract (x0.fn : Int).toNat (g6 : Int).toNat), (a8.mk g5 g6 j9 (Sl.mk none 0 0)), k9, q9, m9, rfl, rfl, D7, h⟩
 refine A7 fun j1 hx1 => ?_
 refine j7 Tryd.call20 (h g0 y z aa) ((I.bring 1).bring 1) ?_
 rintro _ an _ ay ao _ _ ⟨ab, ac, rfl, rfl, h⟩
 refine a7 (d8 _ _ (Value.int .i32 ab) rfl) ?_
 refine a7 (d8 _ _ (Value.bool ac) rfl) ?_
 obtain ⟨t, g, ap, aq⟩ := h
 refine D2 (J := fun n l w => ∃ (s : Int × Bool × ByteArray × Int × b6 × (List a6)) (H : Hp) (m2 : Sl) (l7 : Frag) , n = g s ∧ l = (match s with | (p5, k8, c8, d6, c6, c7) => [(Value.int .i32 p5), (Value.bool k8)]) ∧ (match s with | (p5, k8, c8, d6, c6, c7) => RowL 33 5 b7 m2 c7 l7) ∧ (match s with | (p5, k8, c8, d6, c6, c7) => Inv w0 ps0 H0 H [bx g0 44 [(Value.string c8), (vi d6), (vi c6.o4), (vi c6.s6), (vs m2)], l7] w) ∧ t s H) ⟨_, (ab, ac, x0.fs, x0.fn, x0.fat, q), an, y, z, rfl, rfl, aa, ((ao.bring 1).bring 1), ap⟩ ?_
 rintro az ba w next2 ⟨⟨p5, k8, c8, d6, c6, c7⟩, H, m2, l7, rfl, u, p6, I, ar⟩ hn2
 dsimp only at u I p6
 simp only [List.map_cons, List.map_nil, List.cons.injEq, and_true] at u
 obtain ⟨e6, e7⟩ := u
 simp only [e6, e7]
 obtain ⟨n2, hm2, h⟩ : ∃ n2 : (Int × Bool × ByteArray × Int × b6 × (List a6)) → Hp → Prop, (∀ s' H', n2 s' H' → t s' H' ∧ g s' < g (p5, k8, c8, d6, c6, c7)) ∧ l0 x0.fn p5 k8 c8 d6 c6 c7 H n2 K := ⟨_, fun _ _ h => h, aq (p5, k8, c8, d6, c6, c7) H (fun s' H' => t s' H' ∧ g s' < g (p5, k8, c8, d6, c6, c7)) ar (fun _ _ a b => ⟨a, b⟩)⟩
 unfold U2
 unfold l0 at h
 simp only [s7]
 refine U1 (D := fun ad j => ∃ (f : Bool) (c : Hp) , ad = (gv k8 true (Value.bool f)) ∧ (Inv w0 ps0 H0 c [bx g0 44 [(Value.string c8), (vi d6), (vi c6.o4), (vi c6.s6), (vs m2)], l7] j) ∧ (∀ i, i < w.heap.size → ¬ inF [] i → j.heap[i]? = w.heap[i]?) ∧ Hle H c ∧ (((k8 && f) = true →
 j8 (a8.mk c8 d6 c6 (Sl.mk none 0 0)) c7 c (fun (d : a8) (k : (List a6)) (au : Hp) =>
 g9 (f7 d) k au (fun (m : Int) (o : Bool) (v : Hp) =>
 n2 (m, o, d.fs, d.fn, d.fat, k) v))) ∧
 ((k8 && f) = false →
 j6 x0.fn c8 d6 c6 c7 c K))) (fun e => ?_) (fun e => ?_) ?_
 ·replace h := h.1 e
  have ae := e
  simp only [m1 ae]
  refine j7 Tryd.call29 h I ?_
  rintro _ c _ j p af ag ⟨f, rfl, rfl, h⟩
  exact ⟨f, c, by rfl, p, ag, af, h⟩
 ·exact ⟨false, H, by rw [a0P e], I, fun _ _ _ => rfl, Hle.refl _, h.2 e⟩
 ·clear h
  rintro ad j ⟨f, c, rfl, p, ag, af, h⟩
  refine a7 (A6 _ _) ?_
  refine o6 h (fun _ h => ?_) (fun _ h => ?_)
  ·refine j7 Tryd.call56 (h g0 m2 l7 p6) ((p.bring 1).bring 1) ?_
   rintro _ _ _ bb av _ _ ⟨d, k, ah, ai, rfl, rfl, aj, h⟩
   refine j7 Tryd.call20 (h g0 ah ai aj) ((av.bring 1).bring 1) ?_
   rintro _ v _ bc aw _ _ ⟨m, o, rfl, rfl, h⟩
   refine a7 (d8 _ _ (Value.int .i32 m) rfl) ?_
   refine a7 (d8 _ _ (Value.bool o) rfl) ?_
   exact hn2 _ _ _ (hm2 _ _ h).2 ⟨(m, o, d.fs, d.fn, d.fat, k), v, ah, ai, rfl, rfl, aj, ((aw.bring 1).bring 1), (hm2 _ _ h).1⟩
  ·exact hx1 _ _ (hj1 c8 d6 c6 c7 m2 l7 c _ p6 ((p.bring 1).bring 1) h)
def t1 (f : a6) (g5 : ByteArray) (g6 : Int) (j9 : b6) (k9 : (List a6)) (H : Hp) (K : a6 → Int → a8 → (List a6) → Hp → Prop) : Prop :=
 q7 (a8.mk g5 g6 j9 (Sl.mk none 0 0)) k9 H (fun a e =>
 (0 : Int) ≤ 1 ∧ (1 : Int) ≤ a.size ∧
 j8 (a8.mk g5 g6 j9 (Sl.mk none 0 0)) k9 e (fun b c d =>
 (((decide ((a.extract 0 (1 : Int).toNat) = ⟨#[38]⟩)) || (decide ((a.extract 0 (1 : Int).toNat) = ⟨#[124]⟩))) = true →
 K (a6.mk 0 ⟨#[]⟩ 0 (b6.mk 0 0)) 20 (f7 b) c d) ∧
 (((decide ((a.extract 0 (1 : Int).toNat) = ⟨#[38]⟩)) || (decide ((a.extract 0 (1 : Int).toNat) = ⟨#[124]⟩))) = false →
 K (a6.mk 4 (a.extract 0 (1 : Int).toNat) 0 (b6.mk 0 0)) 0 (f7 b) c d)))
def t6 (k8 : q6) (D8 : Int) (a : a6) (c8 : ByteArray) (d6 : Int) (c6 : b6) (c7 : (List a6)) (H : Hp) (n2 : (Int × a6 × ByteArray × Int × b6 × (List a6)) → Hp → Prop) (K : a6 → Int → a8 → (List a6) → Hp → Prop) : Prop :=
 (D8 < 6 →
 (0 : Int) ≤ D8 ∧ (D8 : Int) < 6 ∧
 q7 (a8.mk c8 d6 c6 (Sl.mk none 0 0)) c7 H (fun d e =>
 C8 d (([k8.f0, k8.f1, k8.f2, k8.f3, k8.f4, k8.f5] : List ByteArray).getD (D8 : Int).toNat ⟨#[]⟩) e (fun b c =>
 (b = true →
 j8 (a8.mk c8 d6 c6 (Sl.mk none 0 0)) c7 c (fun f g i =>
 j8 (f7 f) g i (fun j k l =>
 K (a6.mk 4 (([k8.f0, k8.f1, k8.f2, k8.f3, k8.f4, k8.f5] : List ByteArray).getD (D8 : Int).toNat ⟨#[]⟩) 0 (b6.mk 0 0)) 0 (f7 j) k l))) ∧
 (b = false →
 n2 ((IntKind.wrap .i64 (D8 + 1)), a, c8, d6, c6, c7) c)))) ∧
 (¬ (D8 < 6) →
 t1 a c8 d6 c6 c7 H K)
def C5 (x0 : a8) (a : (List a6)) (H : Hp) (K : a6 → Int → a8 → (List a6) → Hp → Prop) : Prop :=
 TL ((0, (a6.mk 0 ⟨#[]⟩ 0 (b6.mk 0 0)), x0.fs, x0.fn, x0.fat, a) : Int × a6 × ByteArray × Int × b6 × (List a6)) H fun (s : Int × a6 × ByteArray × Int × b6 × (List a6)) H n2 => t6 (q6.mk ⟨#[61, 61]⟩ ⟨#[33, 61]⟩ ⟨#[60, 61]⟩ ⟨#[62, 61]⟩ ⟨#[38, 38]⟩ ⟨#[124, 124]⟩) s.1 s.2.1 s.2.2.1 s.2.2.2.1 s.2.2.2.2.1 s.2.2.2.2.2 H n2 K
theorem P9 (x0 : a8) (j : (List a6)) {H : Hp} {K : a6 → Int → a8 → (List a6) → Hp → Prop} (h : C5 x0 j H K) : G8 x0 j H K := by
 intro g0 e af ag
 refine Ct.of fun w0 w ps0 H0 R E I hR => a5q ?_
 unfold C5 at h
 unfold F43
 refine B5 I Tryd.zeroValue33 (cs := [(vi 0), (Value.string ⟨#[]⟩), (vi 0), (vi 0), (vi 0)]) rfl fun k bf ah bg => ?_
 have hj1 : ∀ (m : a6) (g5 : ByteArray) (g6 : Int) (j9 : b6) (k9 : (List a6)) (m9 : Frag) (H : Hp) (w : World) (_ : RowL 33 5 b7 e k9 m9) (_ : Inv w0 ps0 H0 H [bx k 33 (b7 m), bx g0 44 [(Value.string g5), (vi g6), (vi j9.o4), (vi j9.s6), (vs e)], m9] w) (_ : t1 m g5 g6 j9 k9 H K), a1d (Value.pointer (some ⟨g0, 0, none⟩)) (Value.pointer (some ⟨k, 0, none⟩)) w R E := by
  intro m g5 g6 j9 k9 m9 H w D7 I h
  unfold a1d
  intro _
  unfold t1 at h
  refine j7 Tryd.call39 (h g0 e m9 D7) ((I.bring 2).bring 2) ?_
  rintro _ _ _ bh ai _ _ ⟨f, rfl, rfl, h⟩
  obtain ⟨aj, ak, h⟩ := h
  refine a7 (a1I f Tryd.underlying9 aj ak) ?_
  refine j7 Tryd.call56 (h g0 e m9 D7) ((ai.bring 1).bring 1) ?_
  rintro _ r _ bi t _ _ ⟨u, v, y, z, rfl, rfl, aa, h⟩
  refine a7 (C0 _ _ _ _ _) ?_
  simp only [s7]
  refine a7 (Pu.g fun hb => by have c := hb; simp only [m1 c]; with_reducible exact (C0 _ _ _ _ _)) ?_
  refine a7 (Q3 _ _) ?_
  refine o6 h (fun _ h => ?_) (fun _ h => ?_)
  ·refine a7 (a0s ) ?_
   refine o3 (t.bring 2) Tryd.sizeOf33 (vs := [(vi 0), (Value.string ⟨#[]⟩), (vi 0), (vi 0), (vi 0)]) (cs' := [(vi 0), (Value.string ⟨#[]⟩), (vi 0), (vi 0), (vi 0)]) rfl rfl (nb rfl) rfl rfl fun bj ab bk => ?_
   refine D1 Tryd.isAgg33 Tryd.sizeOf33 rfl (ab.at1 (o := 0) (vs := [(vi 0), (Value.string ⟨#[]⟩), (vi 0), (vi 0), (vi 0)]) (nb rfl) rfl) ?_
   exact hR _ r _ _ ((ab.drop.bring 1).bring 1) ⟨(a6.mk 0 ⟨#[]⟩ 0 (b6.mk 0 0)), 20, (f7 u), v, y, z, rfl, rfl, aa, h⟩
  ·refine a7 (J6 _ _) ?_
   refine o3 (t.bring 2) Tryd.sizeOf33 (vs := [(vi 4), (Value.string (f.extract 0 (1 : Int).toNat)), (vi 0), (vi 0), (vi 0)]) (cs' := [(vi 4), (Value.string (f.extract 0 (1 : Int).toNat)), (vi 0), (vi 0), (vi 0)]) rfl rfl (nb rfl) rfl rfl fun bl ac bm => ?_
   refine D1 Tryd.isAgg33 Tryd.sizeOf33 rfl (ac.at1 (o := 0) (vs := [(vi 4), (Value.string (f.extract 0 (1 : Int).toNat)), (vi 0), (vi 0), (vi 0)]) (nb rfl) rfl) ?_
   exact hR _ r _ _ ((ac.drop.bring 1).bring 1) ⟨(a6.mk 4 (f.extract 0 (1 : Int).toNat) 0 (b6.mk 0 0)), 0, (f7 u), v, y, z, rfl, rfl, aa, h⟩
 refine A7 fun j1 hx1 => ?_
 refine a7 (Q9 _ _ _ _ _ _) ?_
 obtain ⟨p, i, al, am⟩ := h
 refine D2 (J := fun n l w => ∃ (s : Int × a6 × ByteArray × Int × b6 × (List a6)) (H : Hp) (l7 : Frag) , n = i s ∧ l = (match s with | (D8, d, c8, d6, c6, c7) => [(vi D8)]) ∧ (match s with | (D8, d, c8, d6, c6, c7) => RowL 33 5 b7 e c7 l7) ∧ (match s with | (D8, d, c8, d6, c6, c7) => Inv w0 ps0 H0 H [bx k 33 (b7 d), bx g0 44 [(Value.string c8), (vi d6), (vi c6.o4), (vi c6.s6), (vs e)], l7] w) ∧ p s H) ⟨_, (0, (a6.mk 0 ⟨#[]⟩ 0 (b6.mk 0 0)), x0.fs, x0.fn, x0.fat, j), H, af, rfl, rfl, ag, (((ah.bring 2).bring 2).bring 2), al⟩ ?_
 rintro bn bo w next2 ⟨⟨D8, d, c8, d6, c6, c7⟩, H, l7, rfl, q, p6, I, an⟩ hn2
 dsimp only at q I p6
 simp only [List.map_cons, List.map_nil, List.cons.injEq, and_true] at q
 have e8 := q
 simp only [e8]
 obtain ⟨n2, hm2, h⟩ : ∃ n2 : (Int × a6 × ByteArray × Int × b6 × (List a6)) → Hp → Prop, (∀ s' H', n2 s' H' → p s' H' ∧ i s' < i (D8, d, c8, d6, c6, c7)) ∧ t6 (q6.mk ⟨#[61, 61]⟩ ⟨#[33, 61]⟩ ⟨#[60, 61]⟩ ⟨#[62, 61]⟩ ⟨#[38, 38]⟩ ⟨#[124, 124]⟩) D8 d c8 d6 c6 c7 H n2 K := ⟨_, fun _ _ h => h, am (D8, d, c8, d6, c6, c7) H (fun s' H' => p s' H' ∧ i s' < i (D8, d, c8, d6, c6, c7)) an (fun _ _ a b => ⟨a, b⟩)⟩
 unfold a2Q
 unfold t6 at h
 refine a7 (Q8 _ _ _ _ _ _) ?_
 refine k7 h (fun _ h => ?_) (fun _ h => ?_)
 ·obtain ⟨ao, ap, h⟩ := h
  refine a7 (a2J _ _ _ _ _ _ _ _ ao ap) ?_
  refine j7 Tryd.call39 (h g0 e l7 p6) ((I.bring 2).bring 2) ?_
  rintro _ _ _ bp aq _ _ ⟨bq, rfl, rfl, h⟩
  refine j7 Tryd.call38 h aq ?_
  rintro _ ar _ br ad _ _ ⟨bs, rfl, rfl, h⟩
  refine o6 h (fun _ h => ?_) (fun _ h => ?_)
  ·refine j7 Tryd.call56 (h g0 e l7 p6) ((ad.bring 1).bring 1) ?_
   rintro _ _ _ bt au _ _ ⟨bu, bv, av, aw, rfl, rfl, ax, h⟩
   refine j7 Tryd.call56 (h g0 av aw ax) ((au.bring 1).bring 1) ?_
   rintro _ ay _ bw az _ _ ⟨ba, bb, bc, bd, rfl, rfl, be, h⟩
   refine a7 (J6 _ _) ?_
   refine o3 (az.bring 2) Tryd.sizeOf33 (vs := [(vi 4), (Value.string (([(q6.mk ⟨#[61, 61]⟩ ⟨#[33, 61]⟩ ⟨#[60, 61]⟩ ⟨#[62, 61]⟩ ⟨#[38, 38]⟩ ⟨#[124, 124]⟩).f0, (q6.mk ⟨#[61, 61]⟩ ⟨#[33, 61]⟩ ⟨#[60, 61]⟩ ⟨#[62, 61]⟩ ⟨#[38, 38]⟩ ⟨#[124, 124]⟩).f1, (q6.mk ⟨#[61, 61]⟩ ⟨#[33, 61]⟩ ⟨#[60, 61]⟩ ⟨#[62, 61]⟩ ⟨#[38, 38]⟩ ⟨#[124, 124]⟩).f2, (q6.mk ⟨#[61, 61]⟩ ⟨#[33, 61]⟩ ⟨#[60, 61]⟩ ⟨#[62, 61]⟩ ⟨#[38, 38]⟩ ⟨#[124, 124]⟩).f3, (q6.mk ⟨#[61, 61]⟩ ⟨#[33, 61]⟩ ⟨#[60, 61]⟩ ⟨#[62, 61]⟩ ⟨#[38, 38]⟩ ⟨#[124, 124]⟩).f4, (q6.mk ⟨#[61, 61]⟩ ⟨#[33, 61]⟩ ⟨#[60, 61]⟩ ⟨#[62, 61]⟩ ⟨#[38, 38]⟩ ⟨#[124, 124]⟩).f5] : List ByteArray).getD (D8 : Int).toNat ⟨#[]⟩)), (vi 0), (vi 0), (vi 0)]) (cs' := [(vi 4), (Value.string (([(q6.mk ⟨#[61, 61]⟩ ⟨#[33, 61]⟩ ⟨#[60, 61]⟩ ⟨#[62, 61]⟩ ⟨#[38, 38]⟩ ⟨#[124, 124]⟩).f0, (q6.mk ⟨#[61, 61]⟩ ⟨#[33, 61]⟩ ⟨#[60, 61]⟩ ⟨#[62, 61]⟩ ⟨#[38, 38]⟩ ⟨#[124, 124]⟩).f1, (q6.mk ⟨#[61, 61]⟩ ⟨#[33, 61]⟩ ⟨#[60, 61]⟩ ⟨#[62, 61]⟩ ⟨#[38, 38]⟩ ⟨#[124, 124]⟩).f2, (q6.mk ⟨#[61, 61]⟩ ⟨#[33, 61]⟩ ⟨#[60, 61]⟩ ⟨#[62, 61]⟩ ⟨#[38, 38]⟩ ⟨#[124, 124]⟩).f3, (q6.mk ⟨#[61, 61]⟩ ⟨#[33, 61]⟩ ⟨#[60, 61]⟩ ⟨#[62, 61]⟩ ⟨#[38, 38]⟩ ⟨#[124, 124]⟩).f4, (q6.mk ⟨#[61, 61]⟩ ⟨#[33, 61]⟩ ⟨#[60, 61]⟩ ⟨#[62, 61]⟩ ⟨#[38, 38]⟩ ⟨#[124, 124]⟩).f5] : List ByteArray).getD (D8 : Int).toNat ⟨#[]⟩)), (vi 0), (vi 0), (vi 0)]) rfl rfl (nb rfl) rfl rfl fun bz ae ca => ?_
   refine D1 Tryd.isAgg33 Tryd.sizeOf33 rfl (ae.at1 (o := 0) (vs := [(vi 4), (Value.string (([(q6.mk ⟨#[61, 61]⟩ ⟨#[33, 61]⟩ ⟨#[60, 61]⟩ ⟨#[62, 61]⟩ ⟨#[38, 38]⟩ ⟨#[124, 124]⟩).f0, (q6.mk ⟨#[61, 61]⟩ ⟨#[33, 61]⟩ ⟨#[60, 61]⟩ ⟨#[62, 61]⟩ ⟨#[38, 38]⟩ ⟨#[124, 124]⟩).f1, (q6.mk ⟨#[61, 61]⟩ ⟨#[33, 61]⟩ ⟨#[60, 61]⟩ ⟨#[62, 61]⟩ ⟨#[38, 38]⟩ ⟨#[124, 124]⟩).f2, (q6.mk ⟨#[61, 61]⟩ ⟨#[33, 61]⟩ ⟨#[60, 61]⟩ ⟨#[62, 61]⟩ ⟨#[38, 38]⟩ ⟨#[124, 124]⟩).f3, (q6.mk ⟨#[61, 61]⟩ ⟨#[33, 61]⟩ ⟨#[60, 61]⟩ ⟨#[62, 61]⟩ ⟨#[38, 38]⟩ ⟨#[124, 124]⟩).f4, (q6.mk ⟨#[61, 61]⟩ ⟨#[33, 61]⟩ ⟨#[60, 61]⟩ ⟨#[62, 61]⟩ ⟨#[38, 38]⟩ ⟨#[124, 124]⟩).f5] : List ByteArray).getD (D8 : Int).toNat ⟨#[]⟩)), (vi 0), (vi 0), (vi 0)]) (nb rfl) rfl) ?_
   exact hR _ ay _ _ ((ae.drop.bring 1).bring 1) ⟨(a6.mk 4 (([(q6.mk ⟨#[61, 61]⟩ ⟨#[33, 61]⟩ ⟨#[60, 61]⟩ ⟨#[62, 61]⟩ ⟨#[38, 38]⟩ ⟨#[124, 124]⟩).f0, (q6.mk ⟨#[61, 61]⟩ ⟨#[33, 61]⟩ ⟨#[60, 61]⟩ ⟨#[62, 61]⟩ ⟨#[38, 38]⟩ ⟨#[124, 124]⟩).f1, (q6.mk ⟨#[61, 61]⟩ ⟨#[33, 61]⟩ ⟨#[60, 61]⟩ ⟨#[62, 61]⟩ ⟨#[38, 38]⟩ ⟨#[124, 124]⟩).f2, (q6.mk ⟨#[61, 61]⟩ ⟨#[33, 61]⟩ ⟨#[60, 61]⟩ ⟨#[62, 61]⟩ ⟨#[38, 38]⟩ ⟨#[124, 124]⟩).f3, (q6.mk ⟨#[61, 61]⟩ ⟨#[33, 61]⟩ ⟨#[60, 61]⟩ ⟨#[62, 61]⟩ ⟨#[38, 38]⟩ ⟨#[124, 124]⟩).f4, (q6.mk ⟨#[61, 61]⟩ ⟨#[33, 61]⟩ ⟨#[60, 61]⟩ ⟨#[62, 61]⟩ ⟨#[38, 38]⟩ ⟨#[124, 124]⟩).f5] : List ByteArray).getD (D8 : Int).toNat ⟨#[]⟩) 0 (b6.mk 0 0)), 0, (f7 ba), bb, bc, bd, rfl, rfl, be, h⟩
  ·refine a7 (G6 _ _ _ _ _ _) ?_
   exact hn2 _ _ _ (hm2 _ _ h).2 ⟨((IntKind.wrap .i64 (D8 + 1)), d, c8, d6, c6, c7), ar, l7, rfl, rfl, p6, (((ad.bring 1).bring 1).bring 2), (hm2 _ _ h).1⟩
 ·exact hx1 _ _ (hj1 d c8 d6 c6 c7 l7 H _ p6 (((I.bring 2).bring 2).bring 2) h)
end Go.Proofs.YthklmeihgmcljaaDoor
