/- Typed formulas of the program's functions, and the theorems that the contracts follow from them; printed by lift.py off the code. -/
import Derived.Test.YtnhkdkcgdcgmdaaDoorzDV1
namespace Go.Proofs.YtnhkdkcgdcgmdaaDoor
open Go.RowKit
set_option maxRecDepth 100000
set_option maxHeartbeats 2000000
variable {w0 w : World} {ps0 : Nat → Prop} {H0 H : Hp} {R : RT} {E : Pan}
def K5 (b3i : Int) (H : Hp) (K : Int → Hp → Prop) : Prop :=
 K b3i H
def K6 (c2L : ByteArray) (a6E : Int) (a1y : Nat) (H : Hp) (n2 : (Int × Nat) → Hp → Prop) (K : Int → Hp → Prop) : Prop :=
 (a1y < c2L.size →
 n2 ((IntKind.wrap .i64 (a6E + 1)), (a1y + (Utf8.decode c2L a1y).2)) H) ∧
 (¬ (a1y < c2L.size) →
 K5 a6E H K)
def M7 (x0 : ByteArray) (H : Hp) (K : Int → Hp → Prop) : Prop :=
 TL ((0, 0) : Int × Nat) H fun (s : Int × Nat) H n2 => K6 x0 s.1 s.2 H n2 K
theorem a4c (x0 : ByteArray) {K : Int → Hp → Prop} (I : Inv w0 ps0 H0 H [] w) (hR : ∀ (r0 : Int) (H' : Hp) (w' : World) (_ : Inv w0 ps0 H0 H' [] w') (_ : K r0 H'), R (vi r0) w') (h : M7 x0 H K) : c6L (Value.string x0) w R E := by
 unfold M7 at h
 unfold c6L
 have hj1 : ∀ (b3i : Int) (H : Hp) (w : World) (_ : Inv w0 ps0 H0 H [] w) (_ : K5 b3i H K), b8T (vi b3i) w R E := by
  intro b3i H w I h
  unfold b8T
  intro _
  unfold K5 at h
  exact hR b3i H _ I h
 refine z7 fun j1 hx1 => ?_
 refine c5w Tryd.underlying9 x0 I fun g_2 w_3 I_4 k_5 => ?_
 obtain ⟨d3h, c2M, g1Q, g1R⟩ := h
 refine K8 (J := fun n l w => ∃ (s : Int × Nat) (H : Hp) , n = c2M s ∧ l = (match s with | (a6E, a1y) => [(vi a6E)]) ∧ (match s with | (a6E, a1y) => Inv w0 ps0 H0 H [itf g_2 x0 a1y] w) ∧ d3h s H) ⟨_, (0, 0), H, rfl, rfl, I_4, g1Q⟩ ?_
 rintro g6n τ_27 w next2 ⟨⟨a6E, a1y⟩, H, rfl, c2N, I, g1S⟩ hn2
 dsimp only at c2N I
 simp only [List.map_cons, List.map_nil, List.cons.injEq, and_true] at c2N
 have e2 := c2N
 simp only [e2]
 obtain ⟨n2, hm2, h⟩ : ∃ n2 : (Int × Nat) → Hp → Prop, (∀ s' H', n2 s' H' → d3h s' H' ∧ c2M s' < c2M (a6E, a1y)) ∧ K6 x0 a6E a1y H n2 K := ⟨_, fun _ _ h => h, g1R (a6E, a1y) H (fun s' H' => d3h s' H' ∧ c2M s' < c2M (a6E, a1y)) g1S (fun _ _ a b => ⟨a, b⟩)⟩
 unfold c5F
 unfold K6 at h
 refine c9B I (fun a8d p6 a5u b5J => ?_) (fun a8d => ?_)
 ·replace h := h.1 a8d
  refine a7 (j7 _ _ (vB true) rfl) ?_
  refine o4 (fun e => ?_) (fun e => by cases e)
  refine a7 (E9 _ _ _ _ _ _) ?_
  exact hn2 _ _ _ (hm2 _ _ h).2 ⟨((IntKind.wrap .i64 (a6E + 1)), (a1y + (Utf8.decode x0 a1y).2)), H, rfl, rfl, a5u, (hm2 _ _ h).1⟩
 ·replace h := h.2 a8d
  refine a7 (j7 _ _ (vB false) rfl) ?_
  refine o4 (fun e => by cases e) (fun e => ?_)
  exact hx1 _ _ (hj1 a6E H _ I.drop h)
theorem a4B (x0 : ByteArray) {H : Hp} {K : Int → Hp → Prop} (h : M7 x0 H K) : S7 x0 H K := by
 intro w I
 refine d9c ?_
 refine a4c x0 I (fun r0 H' w' I' hk => ⟨H', _, I', r0, rfl, rfl, hk⟩) h
def a1O (x0 : ByteArray) (H : Hp) (K : Bool → Hp → Prop) : Prop :=
 S7 x0 H (fun (C0 : Int) (H_1 : Hp) =>
 K (decide (32 < C0)) H_1)
theorem b3j (x0 : ByteArray) {K : Bool → Hp → Prop} (I : Inv w0 ps0 H0 H [] w) (hR : ∀ (r0 : Bool) (H' : Hp) (w' : World) (_ : Inv w0 ps0 H0 H' [] w') (_ : K r0 H'), R (vB r0) w') (h : a1O x0 H K) : c6G (Value.string x0) w R E := by
 unfold a1O at h
 unfold c6G
 refine b9 (cap := []) (fun args w => Tryd.call150 args w) ?_
 refine m2 (Fi := []) (Fr := []) I (h) (fun v_5 H_1 F_6 w_2 I_3 l_8 k_4 q_7 => ?_) (fun _ _ _ _ _ q => q.elim)
 obtain ⟨C0, rfl, rfl, h⟩ := q_7
 refine a7 (a1q _ _ _ _ _ _) ?_
 exact hR (decide (32 < C0)) H_1 _ I_3 h
theorem b4U (x0 : ByteArray) {H : Hp} {K : Bool → Hp → Prop} (h : a1O x0 H K) : a1I x0 H K := by
 intro w I
 refine d8S ?_
 refine b3j x0 I (fun r0 H' w' I' hk => ⟨H', _, I', r0, rfl, rfl, hk⟩) h
def T2 (a5M : Int) (a5N : Int) (a5O : Int) (a5P : Bool) (a5Q : Bool) (a4O : (List ByteArray)) (H : Hp) (K : Bool → g7 → (List ByteArray) → Hp → Prop) : Prop :=
 K true (g7.mk a5M a5N a5O a5P a5Q (Sl.mk none 0 0)) a4O H
def T3 (c2O : Int) (X9 : Sl) (p5 : Int) (a0X : Int) (Y4 : Int) (Y5 : Int) (Y6 : Int) (Y7 : Bool) (Y8 : Bool) (V3 : (List ByteArray)) (H : Hp) (n2 : (Int × Int × Int × Int × Bool × Bool × (List ByteArray)) → Hp → Prop) (K : Bool → g7 → (List ByteArray) → Hp → Prop) : Prop :=
 (a0X < p5 →
 (0 : Int) ≤ a0X ∧ (a0X : Int) < X9.n ∧ ∃ c2P : a8, EltH H X9 a0X 1 [(r9 c2P)] ∧
 a0l (g7.mk Y4 Y5 Y6 Y7 Y8 (Sl.mk none 0 0)) V3 c2P c2O H (fun (a4l : Bool) (E0 : g7) (a7o : (List ByteArray)) (c2Q : Hp) =>
 TG ((!a4l) = false) (a2d c2P c2Q) (Sl.mk none 0 0) c2Q (fun (b1x : Sl) (a6F : Hp) =>
 TG ((!a4l) = false) (fun k_ => S0 b1x (IntKind.wrap .i64 (c2O + 1)) (g7.mk ((E0).fnodes) ((E0).fdepth) ((E0).fe) ((E0).fform) ((E0).fnamed) (Sl.mk none 0 0)) a7o a6F fun a6i L3 a1p H_ => k_ (a6i, L3, a1p) H_) (false, (g7.mk ((E0).fnodes) ((E0).fdepth) ((E0).fe) ((E0).fform) ((E0).fnamed) (Sl.mk none 0 0)), a7o) a6F (fun (U8 : Bool × g7 × (List ByteArray)) (a1F : Hp) =>
 (((!a4l) || (!U8.1)) = true →
 K false (g7.mk ((U8.2.1).fnodes) ((U8.2.1).fdepth) ((U8.2.1).fe) ((U8.2.1).fform) ((U8.2.1).fnamed) (Sl.mk none 0 0)) U8.2.2 a1F) ∧
 (((!a4l) || (!U8.1)) = false →
 n2 ((IntKind.wrap .i64 (a0X + 1)), ((U8.2.1).fnodes), ((U8.2.1).fdepth), ((U8.2.1).fe), ((U8.2.1).fform), ((U8.2.1).fnamed), U8.2.2) a1F))))) ∧
 (¬ (a0X < p5) →
 T2 Y4 Y5 Y6 Y7 Y8 V3 H K)
def Z7 (x0 : Sl) (x1 : Int) (x2 : g7) (a7N : (List ByteArray)) (H : Hp) (K : Bool → g7 → (List ByteArray) → Hp → Prop) : Prop :=
 TL ((0, x2.fnodes, x2.fdepth, x2.fe, x2.fform, x2.fnamed, a7N) : Int × Int × Int × Int × Bool × Bool × (List ByteArray)) H fun (s : Int × Int × Int × Int × Bool × Bool × (List ByteArray)) H n2 => T3 x1 x0 (x0.n : Int) s.1 s.2.1 s.2.2.1 s.2.2.2.1 s.2.2.2.2.1 s.2.2.2.2.2.1 s.2.2.2.2.2.2 H n2 K
theorem a8R (x0 : Sl) (x1 : Int) (x2 : g7) (a7N : (List ByteArray)) (g2 g2b g3 : Nat) (a9d : Sl) (a9e : Frag) (c7p : RowL 9 1 B6 a9d a7N a9e) {K : Bool → g7 → (List ByteArray) → Hp → Prop} (I : Inv w0 ps0 H0 H [bx g2 102 [(Value.pointer (some ⟨g2b, 0, none⟩))], bx g2b 106 [(vi x2.fnodes), (vi x2.fdepth), (vi x2.fe), (vB x2.fform), (vB x2.fnamed), (vs a9d)], a9e, bx g3 161 [(Value.func (.func 99) #[] #[(Value.pointer (some ⟨g2, 0, none⟩)), (Value.pointer (some ⟨g3, 0, none⟩))])]] w) (hR : ∀ (r0 : Bool) (y0 : g7) (a4r : (List ByteArray)) (a2t : Sl) (a2u : Frag) (H' : Hp) (w' : World) (_ : RowL 9 1 B6 a2t a4r a2u) (_ : Inv w0 ps0 H0 H' [bx g2 102 [(Value.pointer (some ⟨g2b, 0, none⟩))], bx g2b 106 [(vi y0.fnodes), (vi y0.fdepth), (vi y0.fe), (vB y0.fform), (vB y0.fnamed), (vs a2t)], a2u, bx g3 161 [(Value.func (.func 99) #[] #[(Value.pointer (some ⟨g2, 0, none⟩)), (Value.pointer (some ⟨g3, 0, none⟩))])]] w') (_ : K r0 y0 a4r H'), R (vB r0) w') (h : Z7 x0 x1 x2 a7N H K) : F99 (vs x0) (vi x1) (Value.pointer (some ⟨g2, 0, none⟩)) (Value.pointer (some ⟨g3, 0, none⟩)) w R E := by
 unfold Z7 at h
 unfold F99
 have hj1 : ∀ (a5M : Int) (a5N : Int) (a5O : Int) (a5P : Bool) (a5Q : Bool) (a4O : (List ByteArray)) (a9f : Sl) (a9g : Frag) (H : Hp) (w : World) (_ : RowL 9 1 B6 a9f a4O a9g) (_ : Inv w0 ps0 H0 H [bx g2 102 [(Value.pointer (some ⟨g2b, 0, none⟩))], bx g2b 106 [(vi a5M), (vi a5N), (vi a5O), (vB a5P), (vB a5Q), (vs a9f)], bx g3 161 [(Value.func (.func 99) #[] #[(Value.pointer (some ⟨g2, 0, none⟩)), (Value.pointer (some ⟨g3, 0, none⟩))])], a9g] w) (_ : T2 a5M a5N a5O a5P a5Q a4O H K), c1E w R E := by
  intro a5M a5N a5O a5P a5Q a4O a9f a9g H w d0D I h
  unfold c1E
  intro _
  unfold T2 at h
  exact hR true (g7.mk a5M a5N a5O a5P a5Q (Sl.mk none 0 0)) a4O a9f a9g H _ d0D ((((I.bring 2).bring 3).bring 3).bring 3) h
 refine z7 fun j1 hx1 => ?_
 refine a7 (a6T _ _ _) ?_
 obtain ⟨d3i, c2R, g1T, g1U⟩ := h
 refine K8 (J := fun n l w => ∃ (s : Int × Int × Int × Int × Bool × Bool × (List ByteArray)) (H : Hp) (a4P : Sl) (a4Q : Frag) , n = c2R s ∧ l = (match s with | (a0X, Y4, Y5, Y6, Y7, Y8, V3) => [(vi a0X)]) ∧ (match s with | (a0X, Y4, Y5, Y6, Y7, Y8, V3) => RowL 9 1 B6 a4P V3 a4Q) ∧ (match s with | (a0X, Y4, Y5, Y6, Y7, Y8, V3) => Inv w0 ps0 H0 H [bx g2 102 [(Value.pointer (some ⟨g2b, 0, none⟩))], bx g2b 106 [(vi Y4), (vi Y5), (vi Y6), (vB Y7), (vB Y8), (vs a4P)], bx g3 161 [(Value.func (.func 99) #[] #[(Value.pointer (some ⟨g2, 0, none⟩)), (Value.pointer (some ⟨g3, 0, none⟩))])], a4Q] w) ∧ d3i s H) ⟨_, (0, x2.fnodes, x2.fdepth, x2.fe, x2.fform, x2.fnamed, a7N), H, a9d, a9e, rfl, rfl, c7p, ((((I.bring 2).bring 3).bring 3).bring 3), g1T⟩ ?_
 rintro g6o τ_92 w next2 ⟨⟨a0X, Y4, Y5, Y6, Y7, Y8, V3⟩, H, a4P, a4Q, rfl, c2g, b3k, I, e8x⟩ hn2
 dsimp only at c2g I b3k
 simp only [List.map_cons, List.map_nil, List.cons.injEq, and_true] at c2g
 have e11 := c2g
 simp only [e11]
 obtain ⟨n2, hm2, h⟩ : ∃ n2 : (Int × Int × Int × Int × Bool × Bool × (List ByteArray)) → Hp → Prop, (∀ s' H', n2 s' H' → d3i s' H' ∧ c2R s' < c2R (a0X, Y4, Y5, Y6, Y7, Y8, V3)) ∧ T3 x1 x0 (x0.n : Int) a0X Y4 Y5 Y6 Y7 Y8 V3 H n2 K := ⟨_, fun _ _ h => h, g1U (a0X, Y4, Y5, Y6, Y7, Y8, V3) H (fun s' H' => d3i s' H' ∧ c2R s' < c2R (a0X, Y4, Y5, Y6, Y7, Y8, V3)) e8x (fun _ _ a b => ⟨a, b⟩)⟩
 unfold c9M
 unfold T3 at h
 refine a7 (B8 _ _ _ _ _ _) ?_
 refine h9 (fun b5M => ?_) (fun b5M => ?_)
 ·replace h := h.1 b5M
  obtain ⟨d3j, g1V, c2P, c2S, h⟩ := h
  obtain ⟨g6p, g6q, g1W, c2S⟩ := c2S
  refine a7 (c9E g1W _ _ _ _ d3j g1V) ?_
  refine b8 (ld1 (v := (r9 c2P)) Tryd.isAgg152 (I.atH c2S)) ?_
  refine a0d I fun b1y e8y => ?_
  refine s7 (ld1 Tryd.isAgg102 (e8y.at1 (o := 0) (vs := [(Value.pointer (some ⟨g2b, 0, none⟩))]) (nb rfl) rfl)) ?_
  refine b9 (cap := []) (fun args w => Tryd.call100 args w) ?_
  refine m2 (Fi := [bx g2b 106 [(vi Y4), (vi Y5), (vi Y6), (vB Y7), (vB Y8), (vs a4P)], a4Q]) (Fr := [bx g2 102 [(Value.pointer (some ⟨g2b, 0, none⟩))], bx g3 161 [(Value.func (.func 99) #[] #[(Value.pointer (some ⟨g2, 0, none⟩)), (Value.pointer (some ⟨g3, 0, none⟩))])]]) ((e8y.bring 3).bring 2) (h g2b a4P a4Q b3k) (fun g6r c2Q g6s L1 c2T g6t g6u g1X => ?_) (fun _ _ _ _ _ q => q.elim)
  obtain ⟨a4l, E0, a7o, a8h, a8i, rfl, rfl, c2U, h⟩ := g1X
  refine i8 (a0s _) ?_
  simp only [L6]
  refine i8 (Pu.g fun hb => by have f8 := hb; simp only [m9 f8]; exact (E9 _ _ _ _ _ _)) ?_
  refine s7 (Ld.g fun hb => by have f8 := hb; exact (ld1 Tryd.isAgg161 ((c2T.bring 3).at1 (o := 0) (vs := [(Value.func (.func 99) #[] #[(Value.pointer (some ⟨g2, 0, none⟩)), (Value.pointer (some ⟨g3, 0, none⟩))])]) (nb rfl) rfl))) ?_
  refine a6k (D := fun e8z b1z => ∃ (b1x : Sl) (a6F : Hp), e8z = (gv (!a4l) false (vs b1x)) ∧ (Inv w0 ps0 H0 a6F [bx g2b 106 [(vi ((E0).fnodes)), (vi ((E0).fdepth)), (vi ((E0).fe)), (vB ((E0).fform)), (vB ((E0).fnamed)), (vs a8h)], a8i, bx g2 102 [(Value.pointer (some ⟨g2b, 0, none⟩))], bx g3 161 [(Value.func (.func 99) #[] #[(Value.pointer (some ⟨g2, 0, none⟩)), (Value.pointer (some ⟨g3, 0, none⟩))])]] b1z) ∧ (∀ i, i < L1.heap.size → ¬ inF [] i → b1z.heap[i]? = L1.heap[i]?) ∧ Hle c2Q a6F ∧ (TG ((!a4l) = false) (fun k_ => S0 b1x (IntKind.wrap .i64 (x1 + 1)) (g7.mk ((E0).fnodes) ((E0).fdepth) ((E0).fe) ((E0).fform) ((E0).fnamed) (Sl.mk none 0 0)) a7o a6F fun a6i L3 a1p H_ => k_ (a6i, L3, a1p) H_) (false, (g7.mk ((E0).fnodes) ((E0).fdepth) ((E0).fe) ((E0).fform) ((E0).fnamed) (Sl.mk none 0 0)), a7o) a6F (fun (U8 : Bool × g7 × (List ByteArray)) (a1F : Hp) =>
 (((!a4l) || (!U8.1)) = true →
 K false (g7.mk ((U8.2.1).fnodes) ((U8.2.1).fdepth) ((U8.2.1).fe) ((U8.2.1).fform) ((U8.2.1).fnamed) (Sl.mk none 0 0)) U8.2.2 a1F) ∧
 (((!a4l) || (!U8.1)) = false →
 n2 ((IntKind.wrap .i64 (a0X + 1)), ((U8.2.1).fnodes), ((U8.2.1).fdepth), ((U8.2.1).fe), ((U8.2.1).fform), ((U8.2.1).fnamed), U8.2.2) a1F)))) (fun c2V => ?_) (fun c2V => ?_) ?_
  ·replace h := h.1 c2V
   have f8 := c2V
   simp only [m9 f8]
   refine a9A c2T h (fun b1x a6F b1z b3l e8A c7q h => ?_)
   exact ⟨b1x, a6F, by rfl, b3l, c7q, e8A, h⟩
  ·exact ⟨(Sl.mk none 0 0), c2Q, by rw [b0G c2V], c2T, fun _ _ _ => rfl, Hle.refl _, h.2 c2V⟩
  ·clear h
   rintro e8z b1z ⟨b1x, a6F, rfl, b3l, c7q, e8A, h⟩
   refine ⟨(c7q _ (c2T.bring 3).lt1 (Inv.a4U (Fi := []) (c2T.bring 3))), ?_⟩
   refine a6k (D := fun d3k c7r => ∃ (a6i : Bool) (L3 : g7) (a1p : (List ByteArray)) (a1F : Hp) (a4C : Sl) (a4D : Frag) , d3k = (gv (!a4l) false (vB a6i)) ∧ (RowL 9 1 B6 a4C a1p a4D) ∧ (Inv w0 ps0 H0 a1F [bx g2 102 [(Value.pointer (some ⟨g2b, 0, none⟩))], bx g2b 106 [(vi ((L3).fnodes)), (vi ((L3).fdepth)), (vi ((L3).fe)), (vB ((L3).fform)), (vB ((L3).fnamed)), (vs a4C)], a4D, bx g3 161 [(Value.func (.func 99) #[] #[(Value.pointer (some ⟨g2, 0, none⟩)), (Value.pointer (some ⟨g3, 0, none⟩))])]] c7r) ∧ (∀ i, i < b1z.heap.size → ¬ inF [bx g2 102 [(Value.pointer (some ⟨g2b, 0, none⟩))], bx g2b 106 [(vi ((E0).fnodes)), (vi ((E0).fdepth)), (vi ((E0).fe)), (vB ((E0).fform)), (vB ((E0).fnamed)), (vs a8h)], a8i, bx g3 161 [(Value.func (.func 99) #[] #[(Value.pointer (some ⟨g2, 0, none⟩)), (Value.pointer (some ⟨g3, 0, none⟩))])]] i → c7r.heap[i]? = b1z.heap[i]?) ∧ Hle a6F a1F ∧ ((((!a4l) || (!a6i)) = true →
 K false (g7.mk ((L3).fnodes) ((L3).fdepth) ((L3).fe) ((L3).fform) ((L3).fnamed) (Sl.mk none 0 0)) a1p a1F) ∧
 (((!a4l) || (!a6i)) = false →
 n2 ((IntKind.wrap .i64 (a0X + 1)), ((L3).fnodes), ((L3).fdepth), ((L3).fe), ((L3).fform), ((L3).fnamed), a1p) a1F))) (fun c2W => ?_) (fun c2W => ?_) ?_
   ·replace h := h.1 c2W
    have f8 := c2W
    simp only [m9 f8]
    refine b9 (cap := [(Value.pointer (some ⟨g2, 0, none⟩)), (Value.pointer (some ⟨g3, 0, none⟩))]) (fun args w => Tryd.call99 args w) ?_
    refine m2 (Fi := [bx g2 102 [(Value.pointer (some ⟨g2b, 0, none⟩))], bx g2b 106 [(vi ((E0).fnodes)), (vi ((E0).fdepth)), (vi ((E0).fe)), (vB ((E0).fform)), (vB ((E0).fnamed)), (vs a8h)], a8i, bx g3 161 [(Value.func (.func 99) #[] #[(Value.pointer (some ⟨g2, 0, none⟩)), (Value.pointer (some ⟨g3, 0, none⟩))])]]) (Fr := []) ((((b3l.bring 3).bring 2).bring 2).bring 3) (h g2 g2b g3 a8h a8i c2U) (fun d3k a1F g6v c7r c7s b8X e8B g1Y => ?_) (fun _ _ _ _ _ q => q.elim)
    obtain ⟨a6i, L3, a1p, a4C, a4D, rfl, rfl, b1A, h⟩ := g1Y
    exact ⟨a6i, L3, a1p, a1F, a4C, a4D, by rfl, b1A, c7s, e8B, b8X, h⟩
   ·exact ⟨false, (g7.mk ((E0).fnodes) ((E0).fdepth) ((E0).fe) ((E0).fform) ((E0).fnamed) (Sl.mk none 0 0)), a7o, a6F, a8h, a8i, by rw [b0G c2W], c2U, ((((b3l.bring 3).bring 2).bring 2).bring 3), fun _ _ _ => rfl, Hle.refl _, h.2 c2W⟩
   ·clear h
    rintro d3k c7r ⟨a6i, L3, a1p, a1F, a4C, a4D, rfl, b1A, c7s, e8B, b8X, h⟩
    refine i8 (Pu.g fun hb => by have f8 := hb; simp only [m9 f8]; exact (a0s _)) ?_
    refine i8 (a0g _ _) ?_
    refine o4 (fun b5N => ?_) (fun b5N => ?_)
    ·replace h := h.1 b5N
     exact hR false (g7.mk ((L3).fnodes) ((L3).fdepth) ((L3).fe) ((L3).fform) ((L3).fnamed) (Sl.mk none 0 0)) a1p a4C a4D a1F _ b1A ((((c7s.bring 3).bring 3).bring 3).bring 3) h
    ·replace h := h.2 b5N
     refine a7 (E9 _ _ _ _ _ _) ?_
     exact hn2 _ _ _ (hm2 _ _ h).2 ⟨((IntKind.wrap .i64 (a0X + 1)), ((L3).fnodes), ((L3).fdepth), ((L3).fe), ((L3).fform), ((L3).fnamed), a1p), a1F, a4C, a4D, rfl, rfl, b1A, ((((c7s.bring 2).bring 3).bring 3).bring 3), (hm2 _ _ h).1⟩
 ·replace h := h.2 b5M
  exact hx1 _ _ (hj1 Y4 Y5 Y6 Y7 Y8 V3 a4P a4Q H _ b3k ((((I.bring 3).bring 3).bring 3).bring 3) h)
theorem a9D (x0 : Sl) (x1 : Int) (x2 : g7) (a7N : (List ByteArray)) {H : Hp} {K : Bool → g7 → (List ByteArray) → Hp → Prop} (h : Z7 x0 x1 x2 a7N H K) : S0 x0 x1 x2 a7N H K := by
 intro g2 g2b g3 a9d a9e c7p w I
 refine e4Y ?_
 refine a8R x0 x1 x2 a7N g2 g2b g3 a9d a9e c7p I (fun r0 y0 a4r a2t a2u H' w' c2X I' hk => ⟨H', _, I', r0, y0, a4r, a2t, a2u, rfl, rfl, c2X, hk⟩) h
def a0Y (x0 : A5) (H : Hp) (K : Int → Hp → Prop) : Prop :=
 a3S x0 H (fun (Z6 : g7) (H_6 : Hp) =>
 K Z6.fe H_6)
theorem b1B (x0 : A5) {K : Int → Hp → Prop} (I : Inv w0 ps0 H0 H [] w) (hR : ∀ (r0 : Int) (H' : Hp) (w' : World) (_ : Inv w0 ps0 H0 H' [] w') (_ : K r0 H'), R (vi r0) w') (h : a0Y x0 H K) : F53 (Value.agg (t7 x0).toArray) w R E := by
 unfold a0Y at h
 unfold F53
 refine M1 I (cs := (t7 x0)) rfl fun g_2 w_3 I_4 k_5 => ?_
 refine b8 (ldA Tryd.isAgg44 Tryd.sizeOf44 rfl (I_4.at1 (o := 0) (vs := (t7 x0)) (nb rfl) rfl)) ?_
 refine b9 (cap := []) (fun args w => Tryd.call52 args w) ?_
 refine m2 (Fi := []) (Fr := [bx g_2 44 (t7 x0)]) I_4 (h) (fun c7m H_6 c7n w_7 I_8 c7o k_9 b1v => ?_) (fun _ _ _ _ _ q => q.elim)
 obtain ⟨Z6, g4v, rfl, rfl, h⟩ := b1v
 refine a7 (o3 _) ?_
 refine a7 a3Z ?_
 refine b8 (ld1 Tryd.isAgg29 (I_8.at1 (o := 2) (vs := [(vi Z6.fe)]) (nb rfl) rfl)) ?_
 exact hR Z6.fe H_6 _ I_8.drop.drop h
theorem b2m (x0 : A5) {H : Hp} {K : Int → Hp → Prop} (h : a0Y x0 H K) : a2X x0 H K := by
 intro w I
 refine e4k ?_
 refine b1B x0 I (fun r0 H' w' I' hk => ⟨H', _, I', r0, rfl, rfl, hk⟩) h
def U9 (x0 : D2) (H : Hp) (K : Sl → Hp → Prop) : Prop :=
 q7 x0.k5.v8 H (fun (Z6 : Sl) (H_6 : Hp) =>
 K Z6 H_6)
theorem a7c (x0 : D2) {K : Sl → Hp → Prop} (I : Inv w0 ps0 H0 H [] w) (hR : ∀ (r0 : Sl) (H' : Hp) (w' : World) (_ : Inv w0 ps0 H0 H' [] w') (_ : K r0 H'), R (vs r0) w') (h : U9 x0 H K) : c6O (Value.agg (b6 x0.k5).toArray) w R E := by
 unfold U9 at h
 unfold c6O
 refine M1 I (cs := (b6 x0.k5)) rfl fun g_2 w_3 I_4 k_5 => ?_
 refine a7 T7 ?_
 refine a7 a3t ?_
 refine b8 (ld1 Tryd.isAgg22 (I_4.at1 (o := 3) (vs := [(vs x0.k5.v8)]) (nb rfl) rfl)) ?_
 refine b9 (cap := []) (fun args w => Tryd.call171 args w) ?_
 refine m2 (Fi := []) (Fr := [bx g_2 123 (b6 x0.k5)]) I_4 (h) (fun c7m H_6 c7n w_7 I_8 c7o k_9 b1v => ?_) (fun _ _ _ _ _ q => q.elim)
 obtain ⟨Z6, rfl, rfl, h⟩ := b1v
 exact hR Z6 H_6 _ I_8.drop h
theorem a8j (x0 : D2) {H : Hp} {K : Sl → Hp → Prop} (h : U9 x0 H K) : a3e x0 H K := by
 intro w I
 refine d9j ?_
 refine a7c x0 I (fun r0 H' w' I' hk => ⟨H', _, I', r0, rfl, rfl, hk⟩) h
def V0 (x0 : M2) (H : Hp) (K : Sl → Hp → Prop) : Prop :=
 K (Sl.mk none 0 0) H
theorem a7d (x0 : M2) {K : Sl → Hp → Prop} (I : Inv w0 ps0 H0 H [] w) (hR : ∀ (r0 : Sl) (H' : Hp) (w' : World) (_ : Inv w0 ps0 H0 H' [] w') (_ : K r0 H'), R (vs r0) w') (h : V0 x0 H K) : c6X (Value.agg (l9 x0.M3).toArray) w R E := by
 unfold V0 at h
 unfold c6X
 refine M1 I (cs := (l9 x0.M3)) rfl fun g_2 w_3 I_4 k_5 => ?_
 exact hR (Sl.mk none 0 0) H _ I_4.drop h
theorem a8k (x0 : M2) {H : Hp} {K : Sl → Hp → Prop} (h : V0 x0 H K) : a3g x0 H K := by
 intro w I
 refine d9A ?_
 refine a7d x0 I (fun r0 H' w' I' hk => ⟨H', _, I', r0, rfl, rfl, hk⟩) h
end Go.Proofs.YtnhkdkcgdcgmdaaDoor
