/- Typed formulas of the program's functions, and the theorems that the contracts follow from them; printed by lift.py off the code. -/
import Derived.Test.YtnhkdkcgdcgmdaaDoorzLV1
namespace Go.Proofs.YtnhkdkcgdcgmdaaDoor
open Go.RowKit
set_option maxRecDepth 100000
set_option maxHeartbeats 2000000
variable {w0 w : World} {ps0 : Nat → Prop} {H0 H : Hp} {R : RT} {E : Pan}
def L1 (b9F : Int) (H : Hp) (K : Int → Hp → Prop) : Prop :=
 K b9F H
def L2 (c2Y : ByteArray) (a6V : Int) (a1I : Nat) (H : Hp) (n2 : (Int × Nat) → Hp → Prop) (K : Int → Hp → Prop) : Prop :=
 (a1I < c2Y.size →
 n2 ((IntKind.wrap .i64 (a6V + 1)), (a1I + (Utf8.decode c2Y a1I).2)) H) ∧
 (¬ (a1I < c2Y.size) →
 L1 a6V H K)
def N1 (x0 : ByteArray) (H : Hp) (K : Int → Hp → Prop) : Prop :=
 TL ((0, 0) : Int × Nat) H fun (s : Int × Nat) H n2 => L2 x0 s.1 s.2 H n2 K
theorem a4s (x0 : ByteArray) {K : Int → Hp → Prop} (I : Inv w0 ps0 H0 H [] w) (hR : ∀ (r0 : Int) (H' : Hp) (w' : World) (_ : Inv w0 ps0 H0 H' [] w') (_ : K r0 H'), R (vi r0) w') (h : N1 x0 H K) : c7b (Value.string x0) w R E := by
 unfold N1 at h
 unfold c7b
 have hj1 : ∀ (b9F : Int) (H : Hp) (w : World) (_ : Inv w0 ps0 H0 H [] w) (_ : L1 b9F H K), b9l (vi b9F) w R E := by
  intro b9F H w I h
  unfold b9l
  intro _
  unfold L1 at h
  exact hR b9F H _ I h
 refine A8 fun j1 hx1 => ?_
 refine c5L Tryd.underlying9 x0 I fun g_2 w_3 I_4 k_5 => ?_
 obtain ⟨d3A, c2Z, g2u, g2v⟩ := h
 refine L9 (J := fun n l w => ∃ (s : Int × Nat) (H : Hp) , n = c2Z s ∧ l = (match s with | (a6V, a1I) => [(vi a6V)]) ∧ (match s with | (a6V, a1I) => Inv w0 ps0 H0 H [itf g_2 x0 a1I] w) ∧ d3A s H) ⟨_, (0, 0), H, rfl, rfl, I_4, g2u⟩ ?_
 rintro g6I τ_27 w next2 ⟨⟨a6V, a1I⟩, H, rfl, b6n, I, g2w⟩ hn2
 dsimp only at b6n I
 simp only [List.map_cons, List.map_nil, List.cons.injEq, and_true] at b6n
 have e2 := b6n
 simp only [e2]
 obtain ⟨n2, hm2, h⟩ : ∃ n2 : (Int × Nat) → Hp → Prop, (∀ s' H', n2 s' H' → d3A s' H' ∧ c2Z s' < c2Z (a6V, a1I)) ∧ L2 x0 a6V a1I H n2 K := ⟨_, fun _ _ h => h, g2v (a6V, a1I) H (fun s' H' => d3A s' H' ∧ c2Z s' < c2Z (a6V, a1I)) g2w (fun _ _ a b => ⟨a, b⟩)⟩
 unfold c5U
 unfold L2 at h
 refine c9U I (fun a8y q7 a4k b3x => ?_) (fun a8y => ?_)
 ·replace h := h.1 a8y
  refine a7 (m6 _ _ (vB true) rfl) ?_
  refine p7 (fun e => ?_) (fun e => by cases e)
  refine a7 (E4 _ _ _ _ _ _) ?_
  exact hn2 _ _ _ (hm2 _ _ h).2 ⟨((IntKind.wrap .i64 (a6V + 1)), (a1I + (Utf8.decode x0 a1I).2)), H, rfl, rfl, a4k, (hm2 _ _ h).1⟩
 ·replace h := h.2 a8y
  refine a7 (m6 _ _ (vB false) rfl) ?_
  refine p7 (fun e => by cases e) (fun e => ?_)
  exact hx1 _ _ (hj1 a6V H _ I.drop h)
theorem a4P (x0 : ByteArray) {H : Hp} {K : Int → Hp → Prop} (h : N1 x0 H K) : T3 x0 H K := by
 intro w I
 refine d9z ?_
 refine a4s x0 I (fun r0 H' w' I' hk => ⟨H', _, I', r0, rfl, rfl, hk⟩) h
def a1X (x0 : ByteArray) (H : Hp) (K : Bool → Hp → Prop) : Prop :=
 T3 x0 H (fun (C4 : Int) (H_1 : Hp) =>
 K (decide (32 < C4)) H_1)
theorem b3A (x0 : ByteArray) {K : Bool → Hp → Prop} (I : Inv w0 ps0 H0 H [] w) (hR : ∀ (r0 : Bool) (H' : Hp) (w' : World) (_ : Inv w0 ps0 H0 H' [] w') (_ : K r0 H'), R (vB r0) w') (h : a1X x0 H K) : c6W (Value.string x0) w R E := by
 unfold a1X at h
 unfold c6W
 refine d5 (cap := []) (fun args w => Tryd.call150 args w) ?_
 refine m5 (Fi := []) (Fr := []) I (h) (fun v_5 H_1 F_6 w_2 I_3 l_8 k_4 q_7 => ?_) (fun _ _ _ _ _ q => q.elim)
 obtain ⟨C4, rfl, rfl, h⟩ := q_7
 refine a7 (a0B _ _ _ _ _ _) ?_
 exact hR (decide (32 < C4)) H_1 _ I_3 h
theorem b5p (x0 : ByteArray) {H : Hp} {K : Bool → Hp → Prop} (h : a1X x0 H K) : a1R x0 H K := by
 intro w I
 refine d9p ?_
 refine b3A x0 I (fun r0 H' w' I' hk => ⟨H', _, I', r0, rfl, rfl, hk⟩) h
def T8 (a5Y : Int) (a5Z : Int) (a6a : Int) (a6b : Bool) (a6c : Bool) (a5a : (List ByteArray)) (H : Hp) (K : Bool → g8 → (List ByteArray) → Hp → Prop) : Prop :=
 K true (g8.mk a5Y a5Z a6a a6b a6c (Sl.mk none 0 0)) a5a H
def T9 (c3a : Int) (Y9 : Sl) (q8 : Int) (a1m : Int) (Z4 : Int) (Z5 : Int) (Z6 : Int) (Z7 : Bool) (Z8 : Bool) (W3 : (List ByteArray)) (H : Hp) (n2 : (Int × Int × Int × Int × Bool × Bool × (List ByteArray)) → Hp → Prop) (K : Bool → g8 → (List ByteArray) → Hp → Prop) : Prop :=
 (a1m < q8 →
 (0 : Int) ≤ a1m ∧ (a1m : Int) < Y9.n ∧ ∃ c3b : a8, EltH H Y9 a1m 1 [(t8 c3b)] ∧
 a0v (g8.mk Z4 Z5 Z6 Z7 Z8 (Sl.mk none 0 0)) W3 c3b c3a H (fun (a4B : Bool) (E7 : g8) (a7E : (List ByteArray)) (c3c : Hp) =>
 TG ((!a4B) = false) (a2o c3b c3c) (Sl.mk none 0 0) c3c (fun (b1T : Sl) (a6W : Hp) =>
 TG ((!a4B) = false) (fun k_ => S6 b1T (IntKind.wrap .i64 (c3a + 1)) (g8.mk ((E7).fnodes) ((E7).fdepth) ((E7).fe) ((E7).fform) ((E7).fnamed) (Sl.mk none 0 0)) a7E a6W fun a6v M2 a1B H_ => k_ (a6v, M2, a1B) H_) (false, (g8.mk ((E7).fnodes) ((E7).fdepth) ((E7).fe) ((E7).fform) ((E7).fnamed) (Sl.mk none 0 0)), a7E) a6W (fun (V5 : Bool × g8 × (List ByteArray)) (a1O : Hp) =>
 (((!a4B) || (!V5.1)) = true →
 K false (g8.mk ((V5.2.1).fnodes) ((V5.2.1).fdepth) ((V5.2.1).fe) ((V5.2.1).fform) ((V5.2.1).fnamed) (Sl.mk none 0 0)) V5.2.2 a1O) ∧
 (((!a4B) || (!V5.1)) = false →
 n2 ((IntKind.wrap .i64 (a1m + 1)), ((V5.2.1).fnodes), ((V5.2.1).fdepth), ((V5.2.1).fe), ((V5.2.1).fform), ((V5.2.1).fnamed), V5.2.2) a1O))))) ∧
 (¬ (a1m < q8) →
 T8 Z4 Z5 Z6 Z7 Z8 W3 H K)
def a0j (x0 : Sl) (x1 : Int) (x2 : g8) (a8e : (List ByteArray)) (H : Hp) (K : Bool → g8 → (List ByteArray) → Hp → Prop) : Prop :=
 TL ((0, x2.fnodes, x2.fdepth, x2.fe, x2.fform, x2.fnamed, a8e) : Int × Int × Int × Int × Bool × Bool × (List ByteArray)) H fun (s : Int × Int × Int × Int × Bool × Bool × (List ByteArray)) H n2 => T9 x1 x0 (x0.n : Int) s.1 s.2.1 s.2.2.1 s.2.2.2.1 s.2.2.2.2.1 s.2.2.2.2.2.1 s.2.2.2.2.2.2 H n2 K
theorem a9n (x0 : Sl) (x1 : Int) (x2 : g8) (a8e : (List ByteArray)) (g2 g2b g3 : Nat) (a9B : Sl) (a9C : Frag) (c7K : RowL 9 1 C1 a9B a8e a9C) {K : Bool → g8 → (List ByteArray) → Hp → Prop} (I : Inv w0 ps0 H0 H [bx g2 102 [(Value.pointer (some ⟨g2b, 0, none⟩))], bx g2b 106 [(vi x2.fnodes), (vi x2.fdepth), (vi x2.fe), (vB x2.fform), (vB x2.fnamed), (vs a9B)], a9C, bx g3 161 [(Value.func (.func 99) #[] #[(Value.pointer (some ⟨g2, 0, none⟩)), (Value.pointer (some ⟨g3, 0, none⟩))])]] w) (hR : ∀ (r0 : Bool) (y0 : g8) (a4G : (List ByteArray)) (a2F : Sl) (a2G : Frag) (H' : Hp) (w' : World) (_ : RowL 9 1 C1 a2F a4G a2G) (_ : Inv w0 ps0 H0 H' [bx g2 102 [(Value.pointer (some ⟨g2b, 0, none⟩))], bx g2b 106 [(vi y0.fnodes), (vi y0.fdepth), (vi y0.fe), (vB y0.fform), (vB y0.fnamed), (vs a2F)], a2G, bx g3 161 [(Value.func (.func 99) #[] #[(Value.pointer (some ⟨g2, 0, none⟩)), (Value.pointer (some ⟨g3, 0, none⟩))])]] w') (_ : K r0 y0 a4G H'), R (vB r0) w') (h : a0j x0 x1 x2 a8e H K) : F99 (vs x0) (vi x1) (Value.pointer (some ⟨g2, 0, none⟩)) (Value.pointer (some ⟨g3, 0, none⟩)) w R E := by
 unfold a0j at h
 unfold F99
 have hj1 : ∀ (a5Y : Int) (a5Z : Int) (a6a : Int) (a6b : Bool) (a6c : Bool) (a5a : (List ByteArray)) (a9D : Sl) (a9E : Frag) (H : Hp) (w : World) (_ : RowL 9 1 C1 a9D a5a a9E) (_ : Inv w0 ps0 H0 H [bx g2 102 [(Value.pointer (some ⟨g2b, 0, none⟩))], bx g2b 106 [(vi a5Y), (vi a5Z), (vi a6a), (vB a6b), (vB a6c), (vs a9D)], bx g3 161 [(Value.func (.func 99) #[] #[(Value.pointer (some ⟨g2, 0, none⟩)), (Value.pointer (some ⟨g3, 0, none⟩))])], a9E] w) (_ : T8 a5Y a5Z a6a a6b a6c a5a H K), c1Y w R E := by
  intro a5Y a5Z a6a a6b a6c a5a a9D a9E H w d0W I h
  unfold c1Y
  intro _
  unfold T8 at h
  exact hR true (g8.mk a5Y a5Z a6a a6b a6c (Sl.mk none 0 0)) a5a a9D a9E H _ d0W ((((I.bring 2).bring 3).bring 3).bring 3) h
 refine A8 fun j1 hx1 => ?_
 refine a7 (a7j _ _ _) ?_
 obtain ⟨d3B, c3d, g2x, g2y⟩ := h
 refine L9 (J := fun n l w => ∃ (s : Int × Int × Int × Int × Bool × Bool × (List ByteArray)) (H : Hp) (a5b : Sl) (a5c : Frag) , n = c3d s ∧ l = (match s with | (a1m, Z4, Z5, Z6, Z7, Z8, W3) => [(vi a1m)]) ∧ (match s with | (a1m, Z4, Z5, Z6, Z7, Z8, W3) => RowL 9 1 C1 a5b W3 a5c) ∧ (match s with | (a1m, Z4, Z5, Z6, Z7, Z8, W3) => Inv w0 ps0 H0 H [bx g2 102 [(Value.pointer (some ⟨g2b, 0, none⟩))], bx g2b 106 [(vi Z4), (vi Z5), (vi Z6), (vB Z7), (vB Z8), (vs a5b)], bx g3 161 [(Value.func (.func 99) #[] #[(Value.pointer (some ⟨g2, 0, none⟩)), (Value.pointer (some ⟨g3, 0, none⟩))])], a5c] w) ∧ d3B s H) ⟨_, (0, x2.fnodes, x2.fdepth, x2.fe, x2.fform, x2.fnamed, a8e), H, a9B, a9C, rfl, rfl, c7K, ((((I.bring 2).bring 3).bring 3).bring 3), g2x⟩ ?_
 rintro g6J τ_92 w next2 ⟨⟨a1m, Z4, Z5, Z6, Z7, Z8, W3⟩, H, a5b, a5c, rfl, c2A, b3B, I, e8Q⟩ hn2
 dsimp only at c2A I b3B
 simp only [List.map_cons, List.map_nil, List.cons.injEq, and_true] at c2A
 have e11 := c2A
 simp only [e11]
 obtain ⟨n2, hm2, h⟩ : ∃ n2 : (Int × Int × Int × Int × Bool × Bool × (List ByteArray)) → Hp → Prop, (∀ s' H', n2 s' H' → d3B s' H' ∧ c3d s' < c3d (a1m, Z4, Z5, Z6, Z7, Z8, W3)) ∧ T9 x1 x0 (x0.n : Int) a1m Z4 Z5 Z6 Z7 Z8 W3 H n2 K := ⟨_, fun _ _ h => h, g2y (a1m, Z4, Z5, Z6, Z7, Z8, W3) H (fun s' H' => d3B s' H' ∧ c3d s' < c3d (a1m, Z4, Z5, Z6, Z7, Z8, W3)) e8Q (fun _ _ a b => ⟨a, b⟩)⟩
 unfold d0f
 unfold T9 at h
 refine a7 (B8 _ _ _ _ _ _) ?_
 refine i4 (fun b6o => ?_) (fun b6o => ?_)
 ·replace h := h.1 b6o
  obtain ⟨d3C, g2z, c3b, c3e, h⟩ := h
  obtain ⟨g6K, g6L, g2A, c3e⟩ := c3e
  refine a7 (c9X g2A _ _ _ _ d3C g2z) ?_
  refine b8 (ld1 (v := (t8 c3b)) Tryd.isAgg152 (I.atH c3e)) ?_
  refine a0p I fun b1U e8R => ?_
  refine u0 (ld1 Tryd.isAgg102 (e8R.at1 (o := 0) (vs := [(Value.pointer (some ⟨g2b, 0, none⟩))]) (nb rfl) rfl)) ?_
  refine d5 (cap := []) (fun args w => Tryd.call100 args w) ?_
  refine m5 (Fi := [bx g2b 106 [(vi Z4), (vi Z5), (vi Z6), (vB Z7), (vB Z8), (vs a5b)], a5c]) (Fr := [bx g2 102 [(Value.pointer (some ⟨g2b, 0, none⟩))], bx g3 161 [(Value.func (.func 99) #[] #[(Value.pointer (some ⟨g2, 0, none⟩)), (Value.pointer (some ⟨g3, 0, none⟩))])]]) ((e8R.bring 3).bring 2) (h g2b a5b a5c b3B) (fun g6M c3c g6N M1 c3f g6O g6P g2B => ?_) (fun _ _ _ _ _ q => q.elim)
  obtain ⟨a4B, E7, a7E, a8C, a8D, rfl, rfl, c3g, h⟩ := g2B
  refine j8 (a0C _) ?_
  simp only [L3]
  refine j8 (Pu.g fun hb => by have g7 := hb; simp only [o7 g7]; exact (E4 _ _ _ _ _ _)) ?_
  refine u0 (Ld.g fun hb => by have g7 := hb; exact (ld1 Tryd.isAgg161 ((c3f.bring 3).at1 (o := 0) (vs := [(Value.func (.func 99) #[] #[(Value.pointer (some ⟨g2, 0, none⟩)), (Value.pointer (some ⟨g3, 0, none⟩))])]) (nb rfl) rfl))) ?_
  refine a6z (D := fun e8S b1V => ∃ (b1T : Sl) (a6W : Hp), e8S = (gv (!a4B) false (vs b1T)) ∧ (Inv w0 ps0 H0 a6W [bx g2b 106 [(vi ((E7).fnodes)), (vi ((E7).fdepth)), (vi ((E7).fe)), (vB ((E7).fform)), (vB ((E7).fnamed)), (vs a8C)], a8D, bx g2 102 [(Value.pointer (some ⟨g2b, 0, none⟩))], bx g3 161 [(Value.func (.func 99) #[] #[(Value.pointer (some ⟨g2, 0, none⟩)), (Value.pointer (some ⟨g3, 0, none⟩))])]] b1V) ∧ (∀ i, i < M1.heap.size → ¬ inF [] i → b1V.heap[i]? = M1.heap[i]?) ∧ Hle c3c a6W ∧ (TG ((!a4B) = false) (fun k_ => S6 b1T (IntKind.wrap .i64 (x1 + 1)) (g8.mk ((E7).fnodes) ((E7).fdepth) ((E7).fe) ((E7).fform) ((E7).fnamed) (Sl.mk none 0 0)) a7E a6W fun a6v M2 a1B H_ => k_ (a6v, M2, a1B) H_) (false, (g8.mk ((E7).fnodes) ((E7).fdepth) ((E7).fe) ((E7).fform) ((E7).fnamed) (Sl.mk none 0 0)), a7E) a6W (fun (V5 : Bool × g8 × (List ByteArray)) (a1O : Hp) =>
 (((!a4B) || (!V5.1)) = true →
 K false (g8.mk ((V5.2.1).fnodes) ((V5.2.1).fdepth) ((V5.2.1).fe) ((V5.2.1).fform) ((V5.2.1).fnamed) (Sl.mk none 0 0)) V5.2.2 a1O) ∧
 (((!a4B) || (!V5.1)) = false →
 n2 ((IntKind.wrap .i64 (a1m + 1)), ((V5.2.1).fnodes), ((V5.2.1).fdepth), ((V5.2.1).fe), ((V5.2.1).fform), ((V5.2.1).fnamed), V5.2.2) a1O)))) (fun c3h => ?_) (fun c3h => ?_) ?_
  ·replace h := h.1 c3h
   have g7 := c3h
   simp only [o7 g7]
   refine b0a c3f h (fun b1T a6W b1V b3C e8T c7L h => ?_)
   exact ⟨b1T, a6W, by rfl, b3C, c7L, e8T, h⟩
  ·exact ⟨(Sl.mk none 0 0), c3c, by rw [b1f c3h], c3f, fun _ _ _ => rfl, Hle.refl _, h.2 c3h⟩
  ·clear h
   rintro e8S b1V ⟨b1T, a6W, rfl, b3C, c7L, e8T, h⟩
   refine ⟨(c7L _ (c3f.bring 3).lt1 (Inv.a5f (Fi := []) (c3f.bring 3))), ?_⟩
   refine a6z (D := fun d3D c7M => ∃ (a6v : Bool) (M2 : g8) (a1B : (List ByteArray)) (a1O : Hp) (a4Q : Sl) (a4R : Frag) , d3D = (gv (!a4B) false (vB a6v)) ∧ (RowL 9 1 C1 a4Q a1B a4R) ∧ (Inv w0 ps0 H0 a1O [bx g2 102 [(Value.pointer (some ⟨g2b, 0, none⟩))], bx g2b 106 [(vi ((M2).fnodes)), (vi ((M2).fdepth)), (vi ((M2).fe)), (vB ((M2).fform)), (vB ((M2).fnamed)), (vs a4Q)], a4R, bx g3 161 [(Value.func (.func 99) #[] #[(Value.pointer (some ⟨g2, 0, none⟩)), (Value.pointer (some ⟨g3, 0, none⟩))])]] c7M) ∧ (∀ i, i < b1V.heap.size → ¬ inF [bx g2 102 [(Value.pointer (some ⟨g2b, 0, none⟩))], bx g2b 106 [(vi ((E7).fnodes)), (vi ((E7).fdepth)), (vi ((E7).fe)), (vB ((E7).fform)), (vB ((E7).fnamed)), (vs a8C)], a8D, bx g3 161 [(Value.func (.func 99) #[] #[(Value.pointer (some ⟨g2, 0, none⟩)), (Value.pointer (some ⟨g3, 0, none⟩))])]] i → c7M.heap[i]? = b1V.heap[i]?) ∧ Hle a6W a1O ∧ ((((!a4B) || (!a6v)) = true →
 K false (g8.mk ((M2).fnodes) ((M2).fdepth) ((M2).fe) ((M2).fform) ((M2).fnamed) (Sl.mk none 0 0)) a1B a1O) ∧
 (((!a4B) || (!a6v)) = false →
 n2 ((IntKind.wrap .i64 (a1m + 1)), ((M2).fnodes), ((M2).fdepth), ((M2).fe), ((M2).fform), ((M2).fnamed), a1B) a1O))) (fun c3i => ?_) (fun c3i => ?_) ?_
   ·replace h := h.1 c3i
    have g7 := c3i
    simp only [o7 g7]
    refine d5 (cap := [(Value.pointer (some ⟨g2, 0, none⟩)), (Value.pointer (some ⟨g3, 0, none⟩))]) (fun args w => Tryd.call99 args w) ?_
    refine m5 (Fi := [bx g2 102 [(Value.pointer (some ⟨g2b, 0, none⟩))], bx g2b 106 [(vi ((E7).fnodes)), (vi ((E7).fdepth)), (vi ((E7).fe)), (vB ((E7).fform)), (vB ((E7).fnamed)), (vs a8C)], a8D, bx g3 161 [(Value.func (.func 99) #[] #[(Value.pointer (some ⟨g2, 0, none⟩)), (Value.pointer (some ⟨g3, 0, none⟩))])]]) (Fr := []) ((((b3C.bring 3).bring 2).bring 2).bring 3) (h g2 g2b g3 a8C a8D c3g) (fun d3D a1O g6Q c7M c7N c7d e8U g2C => ?_) (fun _ _ _ _ _ q => q.elim)
    obtain ⟨a6v, M2, a1B, a4Q, a4R, rfl, rfl, b1W, h⟩ := g2C
    exact ⟨a6v, M2, a1B, a1O, a4Q, a4R, by rfl, b1W, c7N, e8U, c7d, h⟩
   ·exact ⟨false, (g8.mk ((E7).fnodes) ((E7).fdepth) ((E7).fe) ((E7).fform) ((E7).fnamed) (Sl.mk none 0 0)), a7E, a6W, a8C, a8D, by rw [b1f c3i], c3g, ((((b3C.bring 3).bring 2).bring 2).bring 3), fun _ _ _ => rfl, Hle.refl _, h.2 c3i⟩
   ·clear h
    rintro d3D c7M ⟨a6v, M2, a1B, a1O, a4Q, a4R, rfl, b1W, c7N, e8U, c7d, h⟩
    refine j8 (Pu.g fun hb => by have g7 := hb; simp only [o7 g7]; exact (a0C _)) ?_
    refine j8 (W6 _ _) ?_
    refine p7 (fun b6p => ?_) (fun b6p => ?_)
    ·replace h := h.1 b6p
     exact hR false (g8.mk ((M2).fnodes) ((M2).fdepth) ((M2).fe) ((M2).fform) ((M2).fnamed) (Sl.mk none 0 0)) a1B a4Q a4R a1O _ b1W ((((c7N.bring 3).bring 3).bring 3).bring 3) h
    ·replace h := h.2 b6p
     refine a7 (E4 _ _ _ _ _ _) ?_
     exact hn2 _ _ _ (hm2 _ _ h).2 ⟨((IntKind.wrap .i64 (a1m + 1)), ((M2).fnodes), ((M2).fdepth), ((M2).fe), ((M2).fform), ((M2).fnamed), a1B), a1O, a4Q, a4R, rfl, rfl, b1W, ((((c7N.bring 2).bring 3).bring 3).bring 3), (hm2 _ _ h).1⟩
 ·replace h := h.2 b6o
  exact hx1 _ _ (hj1 Z4 Z5 Z6 Z7 Z8 W3 a5b a5c H _ b3B ((((I.bring 3).bring 3).bring 3).bring 3) h)
theorem b0e (x0 : Sl) (x1 : Int) (x2 : g8) (a8e : (List ByteArray)) {H : Hp} {K : Bool → g8 → (List ByteArray) → Hp → Prop} (h : a0j x0 x1 x2 a8e H K) : S6 x0 x1 x2 a8e H K := by
 intro g2 g2b g3 a9B a9C c7K w I
 refine e5u ?_
 refine a9n x0 x1 x2 a8e g2 g2b g3 a9B a9C c7K I (fun r0 y0 a4G a2F a2G H' w' c3j I' hk => ⟨H', _, I', r0, y0, a4G, a2F, a2G, rfl, rfl, c3j, hk⟩) h
def a1o (x0 : B0) (H : Hp) (K : Int → Hp → Prop) : Prop :=
 a4j x0 H (fun (a0i : g8) (H_6 : Hp) =>
 K a0i.fe H_6)
theorem b1X (x0 : B0) {K : Int → Hp → Prop} (I : Inv w0 ps0 H0 H [] w) (hR : ∀ (r0 : Int) (H' : Hp) (w' : World) (_ : Inv w0 ps0 H0 H' [] w') (_ : K r0 H'), R (vi r0) w') (h : a1o x0 H K) : F53 (Value.agg (u4 x0).toArray) w R E := by
 unfold a1o at h
 unfold F53
 refine L8 I (cs := (u4 x0)) rfl fun g_2 w_3 I_4 k_5 => ?_
 refine b8 (ldA Tryd.isAgg44 Tryd.sizeOf44 rfl (I_4.at1 (o := 0) (vs := (u4 x0)) (nb rfl) rfl)) ?_
 refine d5 (cap := []) (fun args w => Tryd.call52 args w) ?_
 refine m5 (Fi := []) (Fr := [bx g_2 44 (u4 x0)]) I_4 (h) (fun c7H H_6 c7I w_7 I_8 c7J k_9 b1R => ?_) (fun _ _ _ _ _ q => q.elim)
 obtain ⟨a0i, g4S, rfl, rfl, h⟩ := b1R
 refine a7 (p6 _) ?_
 refine a7 a4p ?_
 refine b8 (ld1 Tryd.isAgg29 (I_8.at1 (o := 2) (vs := [(vi a0i.fe)]) (nb rfl) rfl)) ?_
 exact hR a0i.fe H_6 _ I_8.drop.drop h
theorem b2G (x0 : B0) {H : Hp} {K : Int → Hp → Prop} (h : a1o x0 H K) : a3o x0 H K := by
 intro w I
 refine e4G ?_
 refine b1X x0 I (fun r0 H' w' I' hk => ⟨H', _, I', r0, rfl, rfl, hk⟩) h
def V6 (x0 : D7) (H : Hp) (K : Sl → Hp → Prop) : Prop :=
 r7 x0.l0.z6 H (fun (a0i : Sl) (H_6 : Hp) =>
 K a0i H_6)
theorem a7q (x0 : D7) {K : Sl → Hp → Prop} (I : Inv w0 ps0 H0 H [] w) (hR : ∀ (r0 : Sl) (H' : Hp) (w' : World) (_ : Inv w0 ps0 H0 H' [] w') (_ : K r0 H'), R (vs r0) w') (h : V6 x0 H K) : c7f (Value.agg (b6 x0.l0).toArray) w R E := by
 unfold V6 at h
 unfold c7f
 refine L8 I (cs := (b6 x0.l0)) rfl fun g_2 w_3 I_4 k_5 => ?_
 refine a7 U4 ?_
 refine a7 a3G ?_
 refine b8 (ld1 Tryd.isAgg22 (I_4.at1 (o := 3) (vs := [(vs x0.l0.z6)]) (nb rfl) rfl)) ?_
 refine d5 (cap := []) (fun args w => Tryd.call171 args w) ?_
 refine m5 (Fi := []) (Fr := [bx g_2 123 (b6 x0.l0)]) I_4 (h) (fun c7H H_6 c7I w_7 I_8 c7J k_9 b1R => ?_) (fun _ _ _ _ _ q => q.elim)
 obtain ⟨a0i, rfl, rfl, h⟩ := b1R
 exact hR a0i H_6 _ I_8.drop h
theorem a8E (x0 : D7) {H : Hp} {K : Sl → Hp → Prop} (h : V6 x0 H K) : a3t x0 H K := by
 intro w I
 refine d9G ?_
 refine a7q x0 I (fun r0 H' w' I' hk => ⟨H', _, I', r0, rfl, rfl, hk⟩) h
def V7 (x0 : M8) (H : Hp) (K : Sl → Hp → Prop) : Prop :=
 K (Sl.mk none 0 0) H
theorem a7r (x0 : M8) {K : Sl → Hp → Prop} (I : Inv w0 ps0 H0 H [] w) (hR : ∀ (r0 : Sl) (H' : Hp) (w' : World) (_ : Inv w0 ps0 H0 H' [] w') (_ : K r0 H'), R (vs r0) w') (h : V7 x0 H K) : c7o (Value.agg (m4 x0.M9).toArray) w R E := by
 unfold V7 at h
 unfold c7o
 refine L8 I (cs := (m4 x0.M9)) rfl fun g_2 w_3 I_4 k_5 => ?_
 exact hR (Sl.mk none 0 0) H _ I_4.drop h
theorem a8F (x0 : M8) {H : Hp} {K : Sl → Hp → Prop} (h : V7 x0 H K) : a3v x0 H K := by
 intro w I
 refine d9X ?_
 refine a7r x0 I (fun r0 H' w' I' hk => ⟨H', _, I', r0, rfl, rfl, hk⟩) h
end Go.Proofs.YtnhkdkcgdcgmdaaDoor
