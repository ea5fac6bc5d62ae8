/- Typed formulas of the program's functions that few laws need; printed by lift.py off the code. -/
import Derived.Test.YtnhkdkcgdcgmdaaGreatDoorzXG1y
namespace Go.Proofs.YtnhkdkcgdcgmdaaGreatDoor
open Go.RowKit
set_option maxRecDepth 100000
set_option maxHeartbeats 2000000
def Y8 (a7l : (List d8)) (a : m2) (H : Hp) (K : (List d8) → Hp → Prop) : Prop :=
 K a7l H
def Y9 (a : m2) (a1S : (List d8)) (a1M : Int) (H : Hp) (n3 : ((List d8) × Int) → Hp → Prop) (K : (List d8) → Hp → Prop) : Prop :=
 (a1M < (a.z8.n : Int) →
 (0 : Int) ≤ a1M ∧ (a1M : Int) < a.z8.n ∧ ∃ b : m2, EltH H a.z8 a1M 4 (f4 b) ∧
 U2 a1S b H (fun c d =>
 n3 (c, (IntKind.wrap .i64 (a1M + 1))) d)) ∧
 (¬ (a1M < (a.z8.n : Int)) →
 Y8 a1S a H K)
def N7 (a3C : (List d8)) (a : m2) (H : Hp) (K : (List d8) → Hp → Prop) : Prop :=
 TL ((a3C, 0) : (List d8) × Int) H fun (s : (List d8) × Int) H n3 => Y9 a s.1 s.2 H n3 K
def a3j (x0 : (List d8)) (x1 : m2) (H : Hp) (K : (List d8) → Hp → Prop) : Prop :=
 (((decide (x1.b7 = 2)) || (decide (x1.b7 = 4))) = true →
 (x0.length + ([(d8.mk x1.d9 (decide (x1.b7 = 4)))] : List d8).length) * 25 ≤ 140737488355328 ∧
 N7 (x0 ++ [(d8.mk x1.d9 (decide (x1.b7 = 4)))]) x1 H K) ∧
 (((decide (x1.b7 = 2)) || (decide (x1.b7 = 4))) = false →
 N7 x0 x1 H K)
theorem a9A (x0 x1) {H K} (h : a3j x0 x1 H K) : U2 x0 x1 H K := by
 intro sx0 Fx0 hx0
 refine Ct.of fun w0 w ps0 H0 R E I hR => c9P ?_
 unfold a3j at h
 unfold d2Q
 refine F0 I (cs := (f4 x1)) rfl fun j am f an => ?_
 have hj1 : ∀ (a3C : (List d8)) (a6N : Sl) (Fs0j1 : Frag) H w (_ : RowL 133 2 t7 a6N a3C Fs0j1) (_ : Inv w0 ps0 H0 H [bx j 53 (f4 x1), Fs0j1] w) (_ : N7 a3C x1 H K), b7Z (vs a6N) (Value.pointer (some ⟨j, 0, none⟩)) w R E := by
  intro a3C a6N Fs0j1 H w b6D I h
  unfold b7Z
  intro _
  unfold N7 at h
  have hj2 : ∀ (a7l : (List d8)) (b0s : Sl) (Fs0j2 : Frag) H w (_ : RowL 133 2 t7 b0s a7l Fs0j2) (_ : Inv w0 ps0 H0 H [bx j 53 (f4 x1), Fs0j2] w) (_ : Y8 a7l x1 H K), b7Y (vs b0s) w R E := by
   intro a7l b0s Fs0j2 H w c3R I h
   unfold b7Y
   intro _
   unfold Y8 at h
   exact hR _ H _ _ I.drop ⟨a7l, b0s, Fs0j2, rfl, rfl, c3R, h⟩
  refine r5 fun j2 hx2 => ?_
  obtain ⟨k, i, q, r⟩ := h
  refine y7 (J := fun n l w => ∃ (s : (List d8) × Int) (H : Hp) (a8T : Sl) (Fs0l3 : Frag) , n = i s ∧ l = (match s with | (a1S, a1M) => [(vs a8T), (vi a1M)]) ∧ (match s with | (a1S, a1M) => RowL 133 2 t7 a8T a1S Fs0l3) ∧ (match s with | (a1S, a1M) => Inv w0 ps0 H0 H [bx j 53 (f4 x1), Fs0l3] w) ∧ k s H) ⟨_, (a3C, 0), H, a6N, Fs0j1, rfl, rfl, b6D, ((I.bring 1).bring 1), q⟩ ?_
  rintro ao ap w next3 ⟨⟨a1S, a1M⟩, H, a8T, Fs0l3, rfl, m, b3L, I, t⟩ hn3
  dsimp only at m I b3L
  simp only [List.map_cons, List.map_nil, List.cons.injEq, and_true] at m
  obtain ⟨e0, e5⟩ := m
  simp only [e0, e5]
  obtain ⟨n3, hm3, h⟩ : ∃ n3 : ((List d8) × Int) → Hp → Prop, (∀ s' H', n3 s' H' → k s' H' ∧ i s' < i (a1S, a1M)) ∧ Y9 x1 a1S a1M H n3 K := ⟨_, fun _ _ h => h, r (a1S, a1M) H (fun s' H' => k s' H' ∧ i s' < i (a1S, a1M)) t (fun _ _ a b => ⟨a, b⟩)⟩
  unfold c2E
  unfold Y9 at h
  refine a8 P5 (b6 (l1 Tryz.isAgg51 I rfl) (a8 (P9 _ _ _) (a8 pLs ?_)))
  refine f6 h (fun _ h => ?_) (fun _ h => ?_)
  ·refine a8 P5 (b6 (l1 Tryz.isAgg51 I rfl) ?_)
   obtain ⟨u, v, y, o, h⟩ := h
   obtain ⟨aq, ar, z, o⟩ := o
   refine a8 (K9 z _ _ _ _ u v) (b6 (ldA (vs := (f4 y)) Tryz.isAgg53 Tryz.sizeOf53 rfl (I.atH o)) ?_)
   refine i6 Tryz.call139 (h a8T Fs0l3 b3L) (I.bring 1) ?_
   rintro _ aa _ au ab _ _ ⟨ac, ad, ae, rfl, rfl, af, h⟩
   refine a8 pAd ?_
   exact hn3 _ _ _ (hm3 _ _ h).2 ⟨(ac, (IntKind.wrap .i64 (a1M + 1))), aa, ad, ae, rfl, rfl, af, (ab.bring 1), (hm3 _ _ h).1⟩
  ·exact hx2 _ _ (hj2 a1S a8T Fs0l3 H _ b3L ((I.bring 1).bring 1) h)
 refine r5 fun j1 hx1 => ?_
 refine a8 K8 (b6 (l1 Tryz.isAgg3 f rfl) (a8 pEq ?_))
 refine a8 (Pu.g fun d => by exact K8) ?_
 refine b6 (Ld.g fun d => by simp only [g7 d]; exact (l1 Tryz.isAgg3 f rfl)) ?_
 refine a8 (Pu.g fun d => by simp only [g7 d]; exact pEq) ?_
 refine a8 (E8 _ _) ?_
 refine m5 h (fun _ h => ?_) (fun _ h => ?_)
 ·refine a8 a3q (b6 (l1 Tryz.isAgg9 f rfl) (a8 K8 (b6 (l1 Tryz.isAgg3 f rfl) (a8 pEq ?_))))
  refine a8 (b2J _ _) ?_
  refine a2l (e := 133) (c := t7) (xs := [(d8.mk x1.d9 (decide (x1.b7 = 4)))]) f (b9P _ _) rfl rfl a6B a6C (nb rfl) fun av aw ax ag p ay => ?_
  obtain ⟨ah, h⟩ := h
  refine c2h (s := sx0) (xs := x0) (p.bring 2) hx0 (ag.srcO ((p.bring 2).bring 1)) ah fun ai aj az ak al ba => ?_
  exact hx1 _ _ (hj1 (x0 ++ [(d8.mk x1.d9 (decide (x1.b7 = 4)))]) ai aj H _ ak ((al.bring 1).drop.bring 1) h)
 ·exact hx1 _ _ (hj1 x0 sx0 Fx0 H _ hx0 ((f.bring 1).bring 1) h)
def Z1 (a7l : (List d8)) (a : o0) (H : Hp) (K : (List d8) → Hp → Prop) : Prop :=
 K a7l H
def Z2 (a : o0) (a1S : (List d8)) (G6 : Int) (H : Hp) (n3 : ((List d8) × Int) → Hp → Prop) (K : (List d8) → Hp → Prop) : Prop :=
 (G6 < (a.v8.n : Int) →
 (0 : Int) ≤ G6 ∧ (G6 : Int) < a.v8.n ∧ ∃ b : o0, EltH H a.v8 G6 4 (h9 b) ∧
 a0R a1S b H (fun c d =>
 n3 (c, (IntKind.wrap .i64 (G6 + 1))) d)) ∧
 (¬ (G6 < (a.v8.n : Int)) →
 Z1 a1S a H K)
def Z3 (a3C : (List d8)) (a : o0) (H : Hp) (K : (List d8) → Hp → Prop) : Prop :=
 TL ((a3C, 0) : (List d8) × Int) H fun (s : (List d8) × Int) H n3 => Z2 a s.1 s.2 H n3 K
def Z4 (a : o0) (a7U : (List d8)) (G2 : Int) (H : Hp) (n4 : ((List d8) × Int) → Hp → Prop) (K : (List d8) → Hp → Prop) : Prop :=
 (G2 < (a.m6.n : Int) →
 (0 : Int) ≤ G2 ∧ (G2 : Int) < a.m6.n ∧ ∃ b : m2, EltH H a.m6 G2 4 (f4 b) ∧
 U2 a7U b H (fun c d =>
 n4 (c, (IntKind.wrap .i64 (G2 + 1))) d)) ∧
 (¬ (G2 < (a.m6.n : Int)) →
 Z3 a7U a H K)
def a3k (x0 : (List d8)) (x1 : o0) (H : Hp) (K : (List d8) → Hp → Prop) : Prop :=
 TL ((x0, 0) : (List d8) × Int) H fun (s : (List d8) × Int) H n4 => Z4 x1 s.1 s.2 H n4 K
theorem a9B (x0 x1) {H K} (h : a3k x0 x1 H K) : a0R x0 x1 H K := by
 intro sx0 Fx0 hx0
 refine Ct.of fun w0 w ps0 H0 R E I hR => c9O ?_
 unfold a3k at h
 unfold d2P
 refine F0 I (cs := (h9 x1)) rfl fun c au o av => ?_
 have hj1 : ∀ (a3C : (List d8)) (a6N : Sl) (Fs0j1 : Frag) H w (_ : RowL 133 2 t7 a6N a3C Fs0j1) (_ : Inv w0 ps0 H0 H [bx c 59 (h9 x1), Fs0j1] w) (_ : Z3 a3C x1 H K), b7X (vs a6N) (Value.pointer (some ⟨c, 0, none⟩)) w R E := by
  intro a3C a6N Fs0j1 H w b6D I h
  unfold b7X
  intro _
  unfold Z3 at h
  have hj2 : ∀ (a7l : (List d8)) (b0s : Sl) (Fs0j2 : Frag) H w (_ : RowL 133 2 t7 b0s a7l Fs0j2) (_ : Inv w0 ps0 H0 H [bx c 59 (h9 x1), Fs0j2] w) (_ : Z1 a7l x1 H K), b7W (vs b0s) w R E := by
   intro a7l b0s Fs0j2 H w c3R I h
   unfold b7W
   intro _
   unfold Z1 at h
   exact hR _ H _ _ I.drop ⟨a7l, b0s, Fs0j2, rfl, rfl, c3R, h⟩
  refine r5 fun j2 hx2 => ?_
  obtain ⟨f, d, p, q⟩ := h
  refine y7 (J := fun n l w => ∃ (s : (List d8) × Int) (H : Hp) (a8T : Sl) (Fs0l3 : Frag) , n = d s ∧ l = (match s with | (a1S, G6) => [(vs a8T), (vi G6)]) ∧ (match s with | (a1S, G6) => RowL 133 2 t7 a8T a1S Fs0l3) ∧ (match s with | (a1S, G6) => Inv w0 ps0 H0 H [bx c 59 (h9 x1), Fs0l3] w) ∧ f s H) ⟨_, (a3C, 0), H, a6N, Fs0j1, rfl, rfl, b6D, ((I.bring 1).bring 1), p⟩ ?_
  rintro aw ax w next3 ⟨⟨a1S, G6⟩, H, a8T, Fs0l3, rfl, g, b3L, I, r⟩ hn3
  dsimp only at g I b3L
  simp only [List.map_cons, List.map_nil, List.cons.injEq, and_true] at g
  obtain ⟨e0, e6⟩ := g
  simp only [e0, e6]
  obtain ⟨n3, hm3, h⟩ : ∃ n3 : ((List d8) × Int) → Hp → Prop, (∀ s' H', n3 s' H' → f s' H' ∧ d s' < d (a1S, G6)) ∧ Z2 x1 a1S G6 H n3 K := ⟨_, fun _ _ h => h, q (a1S, G6) H (fun s' H' => f s' H' ∧ d s' < d (a1S, G6)) r (fun _ _ a b => ⟨a, b⟩)⟩
  unfold c2C
  unfold Z2 at h
  refine a8 O3 (b6 (l1 Tryz.isAgg57 I rfl) (a8 (a1Z _ _ _) (a8 pLs ?_)))
  refine f6 h (fun _ h => ?_) (fun _ h => ?_)
  ·refine a8 O3 (b6 (l1 Tryz.isAgg57 I rfl) ?_)
   obtain ⟨t, u, v, i, h⟩ := h
   obtain ⟨ay, az, y, i⟩ := i
   refine a8 (P6 y _ _ _ _ t u) (b6 (ldA (vs := (h9 v)) Tryz.isAgg59 Tryz.sizeOf59 rfl (I.atH i)) ?_)
   refine i6 Tryz.call138 (h a8T Fs0l3 b3L) (I.bring 1) ?_
   rintro _ z _ ba aa _ _ ⟨ab, ac, ad, rfl, rfl, ae, h⟩
   refine a8 pAd ?_
   exact hn3 _ _ _ (hm3 _ _ h).2 ⟨(ab, (IntKind.wrap .i64 (G6 + 1))), z, ac, ad, rfl, rfl, ae, (aa.bring 1), (hm3 _ _ h).1⟩
  ·exact hx2 _ _ (hj2 a1S a8T Fs0l3 H _ b3L ((I.bring 1).bring 1) h)
 refine r5 fun j1 hx1 => ?_
 obtain ⟨j, e, af, ag⟩ := h
 refine y7 (J := fun n l w => ∃ (s : (List d8) × Int) (H : Hp) (b6E : Sl) (Fs0l4 : Frag) , n = e s ∧ l = (match s with | (a7U, G2) => [(vs b6E), (vi G2)]) ∧ (match s with | (a7U, G2) => RowL 133 2 t7 b6E a7U Fs0l4) ∧ (match s with | (a7U, G2) => Inv w0 ps0 H0 H [bx c 59 (h9 x1), Fs0l4] w) ∧ j s H) ⟨_, (x0, 0), H, sx0, Fx0, rfl, rfl, hx0, ((o.bring 1).bring 1), af⟩ ?_
 rintro bb bc w next4 ⟨⟨a7U, G2⟩, H, b6E, Fs0l4, rfl, k, c3S, I, ah⟩ hn4
 dsimp only at k I c3S
 simp only [List.map_cons, List.map_nil, List.cons.injEq, and_true] at k
 obtain ⟨e0, e5⟩ := k
 simp only [e0, e5]
 obtain ⟨n4, hm4, h⟩ : ∃ n4 : ((List d8) × Int) → Hp → Prop, (∀ s' H', n4 s' H' → j s' H' ∧ e s' < e (a7U, G2)) ∧ Z4 x1 a7U G2 H n4 K := ⟨_, fun _ _ h => h, ag (a7U, G2) H (fun s' H' => j s' H' ∧ e s' < e (a7U, G2)) ah (fun _ _ a b => ⟨a, b⟩)⟩
 unfold c2D
 unfold Z4 at h
 refine a8 a0k (b6 (l1 Tryz.isAgg51 I rfl) (a8 (P9 _ _ _) (a8 pLs ?_)))
 refine f6 h (fun _ h => ?_) (fun _ h => ?_)
 ·refine a8 a0k (b6 (l1 Tryz.isAgg51 I rfl) ?_)
  obtain ⟨ai, aj, ak, m, h⟩ := h
  obtain ⟨bd, be, al, m⟩ := m
  refine a8 (K9 al _ _ _ _ ai aj) (b6 (ldA (vs := (f4 ak)) Tryz.isAgg53 Tryz.sizeOf53 rfl (I.atH m)) ?_)
  refine i6 Tryz.call139 (h b6E Fs0l4 c3S) (I.bring 1) ?_
  rintro _ am _ bf an _ _ ⟨ao, ap, aq, rfl, rfl, ar, h⟩
  refine a8 pAd ?_
  exact hn4 _ _ _ (hm4 _ _ h).2 ⟨(ao, (IntKind.wrap .i64 (G2 + 1))), am, ap, aq, rfl, rfl, ar, (an.bring 1), (hm4 _ _ h).1⟩
 ·exact hx1 _ _ (hj1 a7U b6E Fs0l4 H _ c3S ((I.bring 1).bring 1) h)
def Z5 (b4Y : (List d8)) (d6R : Sl) (d6b : Int) (H : Hp) (n2 : ((List d8) × Int) → Hp → Prop) (K : (List d8) → Hp → Prop) : Prop :=
 n2 (b4Y, (IntKind.wrap .i64 (d6b + 1))) H
def Z6 (b6F : (List d8)) (d6c : Sl) (b7N : Int) (a : m7) (H : Hp) (n2 : ((List d8) × Int) → Hp → Prop) (K : (List d8) → Hp → Prop) : Prop :=
 U3 b6F a.K7 H (fun b c =>
 U3 b a.L0 c (fun d e =>
 Z5 d d6c b7N e n2 K))
def Z7 (d6d : Sl) (d6e : Int) (a : m7) (a7V : (List d8)) (a7M : Int) (H : Hp) (n2 : ((List d8) × Int) → Hp → Prop) (n7 : ((List d8) × Int) → Hp → Prop) (K : (List d8) → Hp → Prop) : Prop :=
 (a7M < (a.m6.n : Int) →
 (0 : Int) ≤ a7M ∧ (a7M : Int) < a.m6.n ∧ ∃ b : m2, EltH H a.m6 a7M 4 (f4 b) ∧
 U2 a7V b H (fun c d =>
 n7 (c, (IntKind.wrap .i64 (a7M + 1))) d)) ∧
 (¬ (a7M < (a.m6.n : Int)) →
 Z6 a7V d6d d6e a H n2 K)
def Z8 (b4Z : (List d8)) (d6f : Sl) (b2B : Int) (a : m7) (H : Hp) (n2 : ((List d8) × Int) → Hp → Prop) (K : (List d8) → Hp → Prop) : Prop :=
 TL ((b4Z, 0) : (List d8) × Int) H fun (s : (List d8) × Int) H n7 => Z7 d6f b2B a s.1 s.2 H n2 n7 K
def Z9 (d6g : Sl) (d6h : Int) (a : m7) (a7W : (List d8)) (a7N : Int) (H : Hp) (n2 : ((List d8) × Int) → Hp → Prop) (n8 : ((List d8) × Int) → Hp → Prop) (K : (List d8) → Hp → Prop) : Prop :=
 (a7N < (a.y6.n : Int) →
 (0 : Int) ≤ a7N ∧ (a7N : Int) < a.y6.n ∧ ∃ b : o0, EltH H a.y6 a7N 4 (h9 b) ∧
 a0R a7W b H (fun c d =>
 n8 (c, (IntKind.wrap .i64 (a7N + 1))) d)) ∧
 (¬ (a7N < (a.y6.n : Int)) →
 Z8 a7W d6g d6h a H n2 K)
def N8 (b5a : (List d8)) (d6i : Sl) (d6j : Int) (a : m7) (H : Hp) (n2 : ((List d8) × Int) → Hp → Prop) (K : (List d8) → Hp → Prop) : Prop :=
 TL ((b5a, 0) : (List d8) × Int) H fun (s : (List d8) × Int) H n8 => Z9 d6i d6j a s.1 s.2 H n2 n8 K
def a0b (a3C : (List d8)) (H : Hp) (K : (List d8) → Hp → Prop) : Prop :=
 K a3C H
def a0d (a5y : Sl) (a4d : (List d8)) (A8 : Int) (H : Hp) (n2 : ((List d8) × Int) → Hp → Prop) (K : (List d8) → Hp → Prop) : Prop :=
 (A8 < (a5y.n : Int) →
 (0 : Int) ≤ A8 ∧ (A8 : Int) < a5y.n ∧ ∃ a : m7, EltH H a5y A8 6 (f8 a) ∧
 (((decide (a.b7 = 1)) || (decide (a.b7 = 2))) = true →
 (a4d.length + ([(d8.mk a.d9 (decide (a.b7 = 2)))] : List d8).length) * 25 ≤ 140737488355328 ∧
 N8 (a4d ++ [(d8.mk a.d9 (decide (a.b7 = 2)))]) a5y A8 a H n2 K) ∧
 (((decide (a.b7 = 1)) || (decide (a.b7 = 2))) = false →
 N8 a4d a5y A8 a H n2 K)) ∧
 (¬ (A8 < (a5y.n : Int)) →
 a0b a4d H K)
def a3l (x0 : (List d8)) (x1 : Sl) (H : Hp) (K : (List d8) → Hp → Prop) : Prop :=
 TL ((x0, 0) : (List d8) × Int) H fun (s : (List d8) × Int) H n2 => a0d x1 s.1 s.2 H n2 K
theorem a9C (x0 x1) {H K} (h : a3l x0 x1 H K) : U3 x0 x1 H K := by
 intro sx0 Fx0 hx0
 refine Ct.of fun w0 w ps0 H0 R E I hR => c9N ?_
 unfold a3l at h
 unfold d2O
 have hj1 : ∀ (a3C : (List d8)) (a6N : Sl) (Fs0j1 : Frag) H w (_ : RowL 133 2 t7 a6N a3C Fs0j1) (_ : Inv w0 ps0 H0 H [Fs0j1] w) (_ : a0b a3C H K), b7R (vs a6N) w R E := by
  intro a3C a6N Fs0j1 H w b6D I h
  unfold b7R
  intro _
  unfold a0b at h
  exact hR _ H _ _ I ⟨a3C, a6N, Fs0j1, rfl, rfl, b6D, h⟩
 refine r5 fun j1 hx1 => ?_
 obtain ⟨p, k, ad, ae⟩ := h
 refine y7 (J := fun n l w => ∃ (s : (List d8) × Int) (H : Hp) (b5b : Sl) (Fs0l2 : Frag) , n = k s ∧ l = (match s with | (a4d, A8) => [(vs b5b), (vi A8)]) ∧ (match s with | (a4d, A8) => RowL 133 2 t7 b5b a4d Fs0l2) ∧ (match s with | (a4d, A8) => Inv w0 ps0 H0 H [Fs0l2] w) ∧ p s H) ⟨_, (x0, 0), H, sx0, Fx0, rfl, rfl, hx0, I, ad⟩ ?_
 rintro cd ce w next2 ⟨⟨a4d, A8⟩, H, b5b, Fs0l2, rfl, q, b9d, I, af⟩ hn2
 dsimp only at q I b9d
 simp only [List.map_cons, List.map_nil, List.cons.injEq, and_true] at q
 obtain ⟨e0, e5⟩ := q
 simp only [e0, e5]
 obtain ⟨n2, hm2, h⟩ : ∃ n2 : ((List d8) × Int) → Hp → Prop, (∀ s' H', n2 s' H' → p s' H' ∧ k s' < k (a4d, A8)) ∧ a0d x1 a4d A8 H n2 K := ⟨_, fun _ _ h => h, ae (a4d, A8) H (fun s' H' => p s' H' ∧ k s' < k (a4d, A8)) af (fun _ _ a b => ⟨a, b⟩)⟩
 unfold c2B
 unfold a0d at h
 refine a8 (a0h _ _ _) (a8 pLs ?_)
 refine f6 h (fun _ h => ?_) (fun _ h => ?_)
 ·have hj3 : ∀ (b4Y : (List d8)) (b9e : Sl) (Fs0j3 : Frag) H w (_ : RowL 133 2 t7 b9e b4Y Fs0j3) (_ : Inv w0 ps0 H0 H [Fs0j3] w) (_ : Z5 b4Y x1 A8 H n2 K), b7S (vs b9e) (vs x1) (vi A8) w next2 R E := by
   intro b4Y b9e Fs0j3 H w d4l I h
   unfold b7S
   intro _
   unfold Z5 at h
   refine a8 pAd ?_
   exact hn2 _ _ _ (hm2 _ _ h).2 ⟨(b4Y, (IntKind.wrap .i64 (A8 + 1))), H, b9e, Fs0j3, rfl, rfl, d4l, I, (hm2 _ _ h).1⟩
  refine r5 fun j3 hx3 => ?_
  obtain ⟨ag, ah, f, r, h⟩ := h
  obtain ⟨cf, cg, ai, r⟩ := r
  refine a8 (a4s ai _ _ _ _ ag ah) (b6 (ldA (vs := (f8 f)) Tryz.isAgg73 Tryz.sizeOf73 rfl (I.atH r)) ?_)
  refine B9 I Tryz.zeroValue73 (cs := [(vi 0), (eS), (nS), (nS), (nS), (nS)]) rfl fun i ch aj ci => ?_
  refine o4 aj Tryz.sizeOf73 (vs := (f8 f)) (cs' := (f8 f)) rfl rfl (nb rfl) rfl rfl fun cj j ck => ?_
  have hj4 : ∀ (b5a : (List d8)) (b9f : Sl) (Fs0j4 : Frag) H w (_ : RowL 133 2 t7 b9f b5a Fs0j4) (_ : Inv w0 ps0 H0 H [bx i 73 (f8 f), Fs0j4] w) (_ : N8 b5a x1 A8 f H n2 K), b7V (vs b9f) (vs x1) (vi A8) (Value.pointer (some ⟨i, 0, none⟩)) w j3 R E := by
   intro b5a b9f Fs0j4 H w d4m I h
   unfold b7V
   intro _
   unfold N8 at h
   have hj5 : ∀ (b4Z : (List d8)) (b9g : Sl) (Fs0j5 : Frag) H w (_ : RowL 133 2 t7 b9g b4Z Fs0j5) (_ : Inv w0 ps0 H0 H [bx i 73 (f8 f), Fs0j5] w) (_ : Z8 b4Z x1 A8 f H n2 K), b7U (vs b9g) (vs x1) (vi A8) (Value.pointer (some ⟨i, 0, none⟩)) w j3 R E := by
    intro b4Z b9g Fs0j5 H w d4n I h
    unfold b7U
    intro _
    unfold Z8 at h
    have hj6 : ∀ (b6F : (List d8)) (b9h : Sl) (Fs0j6 : Frag) H w (_ : RowL 133 2 t7 b9h b6F Fs0j6) (_ : Inv w0 ps0 H0 H [bx i 73 (f8 f), Fs0j6] w) (_ : Z6 b6F x1 A8 f H n2 K), b7T (vs b9h) (vs x1) (vi A8) (Value.pointer (some ⟨i, 0, none⟩)) w j3 R E := by
     intro b6F b9h Fs0j6 H w d4o I h
     unfold b7T
     intro _
     unfold Z6 at h
     refine a8 a0O (b6 (l1 Tryz.isAgg23 I rfl) ?_)
     refine i6 Tryz.call104 (h b9h Fs0j6 d4o) (I.bring 1) ?_
     rintro _ _ _ cl ab _ _ ⟨cm, ak, al, rfl, rfl, am, h⟩
     refine a8 a1Q (b6 (l1 Tryz.isAgg23 (ab.bring 1) rfl) ?_)
     refine i6 Tryz.call104 (h ak al am) ab ?_
     rintro _ an _ cn ao _ _ ⟨ap, aq, ar, rfl, rfl, au, h⟩
     exact hx3 _ _ (hj3 ap aq ar an _ au (ao.bring 1).drop h)
    refine r5 fun j6 hx6 => ?_
    obtain ⟨t, m, av, aw⟩ := h
    refine y7 (J := fun n l w => ∃ (s : (List d8) × Int) (H : Hp) (b6G : Sl) (Fs0l7 : Frag) , n = m s ∧ l = (match s with | (a7V, a7M) => [(vs b6G), (vi a7M)]) ∧ (match s with | (a7V, a7M) => RowL 133 2 t7 b6G a7V Fs0l7) ∧ (match s with | (a7V, a7M) => Inv w0 ps0 H0 H [bx i 73 (f8 f), Fs0l7] w) ∧ t s H) ⟨_, (b4Z, 0), H, b9g, Fs0j5, rfl, rfl, d4n, ((I.bring 1).bring 1), av⟩ ?_
    rintro co cp w next7 ⟨⟨a7V, a7M⟩, H, b6G, Fs0l7, rfl, u, c3T, I, ax⟩ hn7
    dsimp only at u I c3T
    simp only [List.map_cons, List.map_nil, List.cons.injEq, and_true] at u
    obtain ⟨e0, e8⟩ := u
    simp only [e0, e8]
    obtain ⟨n7, hm7, h⟩ : ∃ n7 : ((List d8) × Int) → Hp → Prop, (∀ s' H', n7 s' H' → t s' H' ∧ m s' < m (a7V, a7M)) ∧ Z7 x1 A8 f a7V a7M H n2 n7 K := ⟨_, fun _ _ h => h, aw (a7V, a7M) H (fun s' H' => t s' H' ∧ m s' < m (a7V, a7M)) ax (fun _ _ a b => ⟨a, b⟩)⟩
    unfold c2z
    unfold Z7 at h
    refine a8 V8 (b6 (l1 Tryz.isAgg51 I rfl) (a8 (P9 _ _ _) (a8 pLs ?_)))
    refine f6 h (fun _ h => ?_) (fun _ h => ?_)
    ·refine a8 V8 (b6 (l1 Tryz.isAgg51 I rfl) ?_)
     obtain ⟨ay, az, ba, v, h⟩ := h
     obtain ⟨cq, cr, bb, v⟩ := v
     refine a8 (K9 bb _ _ _ _ ay az) (b6 (ldA (vs := (f4 ba)) Tryz.isAgg53 Tryz.sizeOf53 rfl (I.atH v)) ?_)
     refine i6 Tryz.call139 (h b6G Fs0l7 c3T) (I.bring 1) ?_
     rintro _ bc _ ct bd _ _ ⟨be, bf, bg, rfl, rfl, bh, h⟩
     refine a8 pAd ?_
     exact hn7 _ _ _ (hm7 _ _ h).2 ⟨(be, (IntKind.wrap .i64 (a7M + 1))), bc, bf, bg, rfl, rfl, bh, (bd.bring 1), (hm7 _ _ h).1⟩
    ·exact hx6 _ _ (hj6 a7V b6G Fs0l7 H _ c3T ((I.bring 1).bring 1) h)
   refine r5 fun j5 hx5 => ?_
   obtain ⟨y, o, bi, bj⟩ := h
   refine y7 (J := fun n l w => ∃ (s : (List d8) × Int) (H : Hp) (b6H : Sl) (Fs0l8 : Frag) , n = o s ∧ l = (match s with | (a7W, a7N) => [(vs b6H), (vi a7N)]) ∧ (match s with | (a7W, a7N) => RowL 133 2 t7 b6H a7W Fs0l8) ∧ (match s with | (a7W, a7N) => Inv w0 ps0 H0 H [bx i 73 (f8 f), Fs0l8] w) ∧ y s H) ⟨_, (b5a, 0), H, b9f, Fs0j4, rfl, rfl, d4m, ((I.bring 1).bring 1), bi⟩ ?_
   rintro cu cv w next8 ⟨⟨a7W, a7N⟩, H, b6H, Fs0l8, rfl, z, c3U, I, bk⟩ hn8
   dsimp only at z I c3U
   simp only [List.map_cons, List.map_nil, List.cons.injEq, and_true] at z
   obtain ⟨e0, e7⟩ := z
   simp only [e0, e7]
   obtain ⟨n8, hm8, h⟩ : ∃ n8 : ((List d8) × Int) → Hp → Prop, (∀ s' H', n8 s' H' → y s' H' ∧ o s' < o (a7W, a7N)) ∧ Z9 x1 A8 f a7W a7N H n2 n8 K := ⟨_, fun _ _ h => h, bj (a7W, a7N) H (fun s' H' => y s' H' ∧ o s' < o (a7W, a7N)) bk (fun _ _ a b => ⟨a, b⟩)⟩
   unfold c2A
   unfold Z9 at h
   refine a8 V7 (b6 (l1 Tryz.isAgg57 I rfl) (a8 (a1Z _ _ _) (a8 pLs ?_)))
   refine f6 h (fun _ h => ?_) (fun _ h => ?_)
   ·refine a8 V7 (b6 (l1 Tryz.isAgg57 I rfl) ?_)
    obtain ⟨bl, bm, bn, aa, h⟩ := h
    obtain ⟨cw, cx, bo, aa⟩ := aa
    refine a8 (P6 bo _ _ _ _ bl bm) (b6 (ldA (vs := (h9 bn)) Tryz.isAgg59 Tryz.sizeOf59 rfl (I.atH aa)) ?_)
    refine i6 Tryz.call138 (h b6H Fs0l8 c3U) (I.bring 1) ?_
    rintro _ bp _ cy bq _ _ ⟨br, bs, bt, rfl, rfl, bu, h⟩
    refine a8 pAd ?_
    exact hn8 _ _ _ (hm8 _ _ h).2 ⟨(br, (IntKind.wrap .i64 (a7N + 1))), bp, bs, bt, rfl, rfl, bu, (bq.bring 1), (hm8 _ _ h).1⟩
   ·exact hx5 _ _ (hj5 a7W b6H Fs0l8 H _ c3U ((I.bring 1).bring 1) h)
  refine r5 fun j4 hx4 => ?_
  refine a8 V6 (b6 (l1 Tryz.isAgg3 j rfl) (a8 pEq ?_))
  refine a8 (Pu.g fun d => by exact V6) ?_
  refine b6 (Ld.g fun d => by simp only [g7 d]; exact (l1 Tryz.isAgg3 j rfl)) ?_
  refine a8 (Pu.g fun d => by simp only [g7 d]; exact pEq) ?_
  refine a8 (E8 _ _) ?_
  refine m5 h (fun _ h => ?_) (fun _ h => ?_)
  ·refine a8 a1P (b6 (l1 Tryz.isAgg9 j rfl) (a8 V6 (b6 (l1 Tryz.isAgg3 j rfl) (a8 pEq ?_))))
   refine a8 (b2J _ _) ?_
   refine a2l (e := 133) (c := t7) (xs := [(d8.mk f.d9 (decide (f.b7 = 2)))]) j (b9P _ _) rfl rfl a6B a6C (nb rfl) fun cz da db bv ac dc => ?_
   obtain ⟨bw, h⟩ := h
   refine c2h (s := b5b) (xs := a4d) (ac.bring 2) b9d (bv.srcO ((ac.bring 2).bring 1)) bw fun bz ca dd cb cc de => ?_
   exact hx4 _ _ (hj4 (a4d ++ [(d8.mk f.d9 (decide (f.b7 = 2)))]) bz ca H _ cb ((cc.bring 1).drop.bring 1) h)
  ·exact hx4 _ _ (hj4 a4d b5b Fs0l2 H _ b9d ((j.bring 1).bring 1) h)
 ·exact hx1 _ _ (hj1 a4d b5b Fs0l2 H _ b9d I h)
def a4E (x0 : o3) (H : Hp) (K : Sl → Hp → Prop) : Prop :=
 U3 [] x0.a2f H (fun d e =>
 ∀ (a : Sl) (b : Hp), Hle e b → SlH b 2 t7 a d → a.n ≤ a.c →
 K a b)
theorem b1o (x0) {H K} (h : a4E x0 H K) : a4v x0 H K := by
 refine Ct.of fun w0 w ps0 H0 R E I hR => d2N ?_
 unfold a4E at h
 unfold F62
 refine F0 I (cs := (q7 x0)) rfl fun l m a n => ?_
 refine a8 a3X (b6 (l1 Tryz.isAgg23 a rfl) ?_)
 refine i6 Tryz.call104 (h (Sl.mk none 0 0) ([]) (RowL.nil (e := 133) a6B a6C)) a.nil ?_
 rintro _ _ _ o d _ _ ⟨p, b, q, rfl, rfl, f, h⟩
 obtain ⟨c, g, i, j, k⟩ := Inv.freezeC d f (by decide)
 replace h := h b c i j k
 exact hR _ c _ _ g.drop ⟨b, rfl, rfl, h⟩
end Go.Proofs.YtnhkdkcgdcgmdaaGreatDoor
