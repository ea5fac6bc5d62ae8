/- Typed formulas of the program's functions, and the theorems that the contracts follow from them; printed by lift.py off the code. -/
import Derived.Test.YtnhkdkcgdcgmdaaDoorzNV1
namespace Go.Proofs.YtnhkdkcgdcgmdaaDoor
open Go.RowKit
set_option maxRecDepth 100000
set_option maxHeartbeats 2000000
variable {w0 w : World} {ps0 : Nat → Prop} {H0 H : Hp} {R : RT} {E : Pan}
def M7 (b4s : Int) (H : Hp) (K : Int → Hp → Prop) : Prop :=
 K b4s H
def M8 (c4k : ByteArray) (a4I : Int) (a2k : Nat) (H : Hp) (n2 : (Int × Nat) → Hp → Prop) (K : Int → Hp → Prop) : Prop :=
 (a2k < c4k.size →
 n2 ((IntKind.wrap .i64 (a4I + 1)), (a2k + (Utf8.decode c4k a2k).2)) H) ∧
 (¬ (a2k < c4k.size) →
 M7 a4I H K)
def P3 (x0 : ByteArray) (H : Hp) (K : Int → Hp → Prop) : Prop :=
 TL ((0, 0) : Int × Nat) H fun (s : Int × Nat) H n2 => M8 x0 s.1 s.2 H n2 K
theorem a4O (x0 : ByteArray) {K : Int → Hp → Prop} (I : Inv w0 ps0 H0 H [] w) (hR : ∀ (r0 : Int) (H' : Hp) (w' : World) (_ : Inv w0 ps0 H0 H' [] w') (_ : K r0 H'), R (vi r0) w') (h : P3 x0 H K) : c9a (Value.string x0) w R E := by
 unfold P3 at h
 unfold c9a
 have hj1 : ∀ (b4s : Int) (H : Hp) (w : World) (_ : Inv w0 ps0 H0 H [] w) (_ : M7 b4s H K), c0d (vi b4s) w R E := by
  intro b4s H w I h
  unfold c0d
  intro _
  unfold M7 at h
  exact hR b4s H _ I h
 refine u7 fun j1 hx1 => ?_
 refine c7B Tryd.underlying9 x0 I fun g_2 w_3 I_4 k_5 => ?_
 obtain ⟨d6b, c4l, g5j, g5k⟩ := h
 refine H7 (J := fun n l w => ∃ (s : Int × Nat) (H : Hp) , n = c4l s ∧ l = (match s with | (a4I, a2k) => [(vi a4I)]) ∧ (match s with | (a4I, a2k) => Inv w0 ps0 H0 H [itf g_2 x0 a2k] w) ∧ d6b s H) ⟨_, (0, 0), H, rfl, rfl, I_4, g5j⟩ ?_
 rintro g9z τ_27 w next2 ⟨⟨a4I, a2k⟩, H, rfl, d6c, I, g5l⟩ hn2
 dsimp only at d6c I
 simp only [List.map_cons, List.map_nil, List.cons.injEq, and_true] at d6c
 have e2 := d6c
 simp only [e2]
 obtain ⟨n2, hm2, h⟩ : ∃ n2 : (Int × Nat) → Hp → Prop, (∀ s' H', n2 s' H' → d6b s' H' ∧ c4l s' < c4l (a4I, a2k)) ∧ M8 x0 a4I a2k H n2 K := ⟨_, fun _ _ h => h, g5k (a4I, a2k) H (fun s' H' => d6b s' H' ∧ c4l s' < c4l (a4I, a2k)) g5l (fun _ _ a b => ⟨a, b⟩)⟩
 unfold c7J
 unfold M8 at h
 refine d2e I (fun a9e r7 a8W c0u => ?_) (fun a9e => ?_)
 ·replace h := h.1 a9e
  refine a7 (m3 _ _ (vB true) rfl) ?_
  refine o4 (fun e => ?_) (fun e => by cases e)
  refine a7 (C6 _ _ _ _ _ _) ?_
  exact hn2 _ _ _ (hm2 _ _ h).2 ⟨((IntKind.wrap .i64 (a4I + 1)), (a2k + (Utf8.decode x0 a2k).2)), H, rfl, rfl, a8W, (hm2 _ _ h).1⟩
 ·replace h := h.2 a9e
  refine a7 (m3 _ _ (vB false) rfl) ?_
  refine o4 (fun e => by cases e) (fun e => ?_)
  exact hx1 _ _ (hj1 a4I H _ I.drop h)
theorem a5m (x0 : ByteArray) {H : Hp} {K : Int → Hp → Prop} (h : P3 x0 H K) : V3 x0 H K := by
 intro w I
 refine e2g ?_
 refine a4O x0 I (fun r0 H' w' I' hk => ⟨H', _, I', r0, rfl, rfl, hk⟩) h
def a2z (x0 : ByteArray) (H : Hp) (K : Bool → Hp → Prop) : Prop :=
 V3 x0 H (fun (E8 : Int) (H_1 : Hp) =>
 K (decide (32 < E8)) H_1)
theorem b4t (x0 : ByteArray) {K : Bool → Hp → Prop} (I : Inv w0 ps0 H0 H [] w) (hR : ∀ (r0 : Bool) (H' : Hp) (w' : World) (_ : Inv w0 ps0 H0 H' [] w') (_ : K r0 H'), R (vB r0) w') (h : a2z x0 H K) : c8V (Value.string x0) w R E := by
 unfold a2z at h
 unfold c8V
 refine d5 (cap := []) (fun args w => Tryd.call150 args w) ?_
 refine m8 (Fi := []) (Fr := []) I (h) (fun v_5 H_1 F_6 w_2 I_3 l_8 k_4 q_7 => ?_) (fun _ _ _ _ _ q => q.elim)
 obtain ⟨E8, rfl, rfl, h⟩ := q_7
 refine a7 (a0b _ _ _ _ _ _) ?_
 exact hR (decide (32 < E8)) H_1 _ I_3 h
theorem b6e (x0 : ByteArray) {H : Hp} {K : Bool → Hp → Prop} (h : a2z x0 H K) : a2t x0 H K := by
 intro w I
 refine e1W ?_
 refine b4t x0 I (fun r0 H' w' I' hk => ⟨H', _, I', r0, rfl, rfl, hk⟩) h
def W0 (a6E : Int) (a6F : Int) (a6G : Int) (a6H : Bool) (a6I : Bool) (a5B : (List ByteArray)) (H : Hp) (K : Bool → g8 → (List ByteArray) → Hp → Prop) : Prop :=
 K true (g8.mk a6E a6F a6G a6H a6I (Sl.mk none 0 0)) a5B H
def W2 (a1U : Int) (a0p : Sl) (r8 : Int) (a1J : Int) (a0t : Int) (a0u : Int) (a0v : Int) (a0w : Bool) (a0x : Bool) (Y7 : (List ByteArray)) (H : Hp) (n2 : (Int × Int × Int × Int × Bool × Bool × (List ByteArray)) → Hp → Prop) (K : Bool → g8 → (List ByteArray) → Hp → Prop) : Prop :=
 (a1J < r8 →
 (0 : Int) ≤ a1J ∧ (a1J : Int) < a0p.n ∧ ∃ c4m : a8, EltH H a0p a1J 1 [(u6 c4m)] ∧
 a0Q (g8.mk a0t a0u a0v a0w a0x (Sl.mk none 0 0)) Y7 c4m a1U H (fun (a4Y : Bool) (G4 : g8) (a8o : (List ByteArray)) (c4n : Hp) =>
 TG ((!a4Y) = false) (a2M c4m c4n) (Sl.mk none 0 0) c4n (fun (b2G : Sl) (a7A : Hp) =>
 TG ((!a4Y) = false) (fun k_ => U3 b2G (IntKind.wrap .i64 (a1U + 1)) (g8.mk ((G4).fnodes) ((G4).fdepth) ((G4).fe) ((G4).fform) ((G4).fnamed) (Sl.mk none 0 0)) a8o a7A fun a7b N7 a1X H_ => k_ (a7b, N7, a1X) H_) (false, (g8.mk ((G4).fnodes) ((G4).fdepth) ((G4).fe) ((G4).fform) ((G4).fnamed) (Sl.mk none 0 0)), a8o) a7A (fun (Y2 : Bool × g8 × (List ByteArray)) (a2q : Hp) =>
 (((!a4Y) || (!Y2.1)) = true →
 K false (g8.mk ((Y2.2.1).fnodes) ((Y2.2.1).fdepth) ((Y2.2.1).fe) ((Y2.2.1).fform) ((Y2.2.1).fnamed) (Sl.mk none 0 0)) Y2.2.2 a2q) ∧
 (((!a4Y) || (!Y2.1)) = false →
 n2 ((IntKind.wrap .i64 (a1J + 1)), ((Y2.2.1).fnodes), ((Y2.2.1).fdepth), ((Y2.2.1).fe), ((Y2.2.1).fform), ((Y2.2.1).fnamed), Y2.2.2) a2q))))) ∧
 (¬ (a1J < r8) →
 W0 a0t a0u a0v a0w a0x Y7 H K)
def a0H (x0 : Sl) (x1 : Int) (x2 : g8) (a8L : (List ByteArray)) (H : Hp) (K : Bool → g8 → (List ByteArray) → Hp → Prop) : Prop :=
 TL ((0, x2.fnodes, x2.fdepth, x2.fe, x2.fform, x2.fnamed, a8L) : Int × Int × Int × Int × Bool × Bool × (List ByteArray)) H fun (s : Int × Int × Int × Int × Bool × Bool × (List ByteArray)) H n2 => W2 x1 x0 (x0.n : Int) s.1 s.2.1 s.2.2.1 s.2.2.2.1 s.2.2.2.2.1 s.2.2.2.2.2.1 s.2.2.2.2.2.2 H n2 K
theorem b0b (x0 : Sl) (x1 : Int) (x2 : g8) (a8L : (List ByteArray)) (g2 g2b g3 : Nat) (b0n : Sl) (b0o : Frag) (c9F : RowL 9 1 C9 b0n a8L b0o) {K : Bool → g8 → (List ByteArray) → Hp → Prop} (I : Inv w0 ps0 H0 H [bx g2 102 [(Value.pointer (some ⟨g2b, 0, none⟩))], bx g2b 106 [(vi x2.fnodes), (vi x2.fdepth), (vi x2.fe), (vB x2.fform), (vB x2.fnamed), (vs b0n)], b0o, bx g3 161 [(Value.func (.func 99) #[] #[(Value.pointer (some ⟨g2, 0, none⟩)), (Value.pointer (some ⟨g3, 0, none⟩))])]] w) (hR : ∀ (r0 : Bool) (y0 : g8) (a5e : (List ByteArray)) (a2X : Sl) (a2Y : Frag) (H' : Hp) (w' : World) (_ : RowL 9 1 C9 a2X a5e a2Y) (_ : Inv w0 ps0 H0 H' [bx g2 102 [(Value.pointer (some ⟨g2b, 0, none⟩))], bx g2b 106 [(vi y0.fnodes), (vi y0.fdepth), (vi y0.fe), (vB y0.fform), (vB y0.fnamed), (vs a2X)], a2Y, bx g3 161 [(Value.func (.func 99) #[] #[(Value.pointer (some ⟨g2, 0, none⟩)), (Value.pointer (some ⟨g3, 0, none⟩))])]] w') (_ : K r0 y0 a5e H'), R (vB r0) w') (h : a0H x0 x1 x2 a8L H K) : F99 (vs x0) (vi x1) (Value.pointer (some ⟨g2, 0, none⟩)) (Value.pointer (some ⟨g3, 0, none⟩)) w R E := by
 unfold a0H at h
 unfold F99
 have hj1 : ∀ (a6E : Int) (a6F : Int) (a6G : Int) (a6H : Bool) (a6I : Bool) (a5B : (List ByteArray)) (b0p : Sl) (b0q : Frag) (H : Hp) (w : World) (_ : RowL 9 1 C9 b0p a5B b0q) (_ : Inv w0 ps0 H0 H [bx g2 102 [(Value.pointer (some ⟨g2b, 0, none⟩))], bx g2b 106 [(vi a6E), (vi a6F), (vi a6G), (vB a6H), (vB a6I), (vs b0p)], bx g3 161 [(Value.func (.func 99) #[] #[(Value.pointer (some ⟨g2, 0, none⟩)), (Value.pointer (some ⟨g3, 0, none⟩))])], b0q] w) (_ : W0 a6E a6F a6G a6H a6I a5B H K), c3a w R E := by
  intro a6E a6F a6G a6H a6I a5B b0p b0q H w d3e I h
  unfold c3a
  intro _
  unfold W0 at h
  exact hR true (g8.mk a6E a6F a6G a6H a6I (Sl.mk none 0 0)) a5B b0p b0q H _ d3e ((((I.bring 2).bring 3).bring 3).bring 3) h
 refine u7 fun j1 hx1 => ?_
 refine a7 (a7S _ _ _) ?_
 obtain ⟨d6d, c4o, g5m, g5n⟩ := h
 refine H7 (J := fun n l w => ∃ (s : Int × Int × Int × Int × Bool × Bool × (List ByteArray)) (H : Hp) (a5C : Sl) (a5D : Frag) , n = c4o s ∧ l = (match s with | (a1J, a0t, a0u, a0v, a0w, a0x, Y7) => [(vi a1J)]) ∧ (match s with | (a1J, a0t, a0u, a0v, a0w, a0x, Y7) => RowL 9 1 C9 a5C Y7 a5D) ∧ (match s with | (a1J, a0t, a0u, a0v, a0w, a0x, Y7) => Inv w0 ps0 H0 H [bx g2 102 [(Value.pointer (some ⟨g2b, 0, none⟩))], bx g2b 106 [(vi a0t), (vi a0u), (vi a0v), (vB a0w), (vB a0x), (vs a5C)], bx g3 161 [(Value.func (.func 99) #[] #[(Value.pointer (some ⟨g2, 0, none⟩)), (Value.pointer (some ⟨g3, 0, none⟩))])], a5D] w) ∧ d6d s H) ⟨_, (0, x2.fnodes, x2.fdepth, x2.fe, x2.fform, x2.fnamed, a8L), H, b0n, b0o, rfl, rfl, c9F, ((((I.bring 2).bring 3).bring 3).bring 3), g5m⟩ ?_
 rintro g9A τ_92 w next2 ⟨⟨a1J, a0t, a0u, a0v, a0w, a0x, Y7⟩, H, a5C, a5D, rfl, c3F, b4u, I, f1K⟩ hn2
 dsimp only at c3F I b4u
 simp only [List.map_cons, List.map_nil, List.cons.injEq, and_true] at c3F
 have e11 := c3F
 simp only [e11]
 obtain ⟨n2, hm2, h⟩ : ∃ n2 : (Int × Int × Int × Int × Bool × Bool × (List ByteArray)) → Hp → Prop, (∀ s' H', n2 s' H' → d6d s' H' ∧ c4o s' < c4o (a1J, a0t, a0u, a0v, a0w, a0x, Y7)) ∧ W2 x1 x0 (x0.n : Int) a1J a0t a0u a0v a0w a0x Y7 H n2 K := ⟨_, fun _ _ h => h, g5n (a1J, a0t, a0u, a0v, a0w, a0x, Y7) H (fun s' H' => d6d s' H' ∧ c4o s' < c4o (a1J, a0t, a0u, a0v, a0w, a0x, Y7)) f1K (fun _ _ a b => ⟨a, b⟩)⟩
 unfold d2o
 unfold W2 at h
 refine a7 (A7 _ _ _ _ _ _) ?_
 refine i5 (fun b6V => ?_) (fun b6V => ?_)
 ·replace h := h.1 b6V
  obtain ⟨c4p, c4q, c4m, c4r, h⟩ := h
  obtain ⟨g9B, g9C, g5o, c4r⟩ := c4r
  refine a7 (d2g g5o _ _ _ _ c4p c4q) ?_
  refine b6 (ld1 (v := (u6 c4m)) Tryd.isAgg152 (I.atH c4r)) ?_
  refine V2 I fun b2H f1L => ?_
  refine r5 (ld1 Tryd.isAgg102 (f1L.at1 (o := 0) (vs := [(Value.pointer (some ⟨g2b, 0, none⟩))]) (nb rfl) rfl)) ?_
  refine d5 (cap := []) (fun args w => Tryd.call100 args w) ?_
  refine m8 (Fi := [bx g2b 106 [(vi a0t), (vi a0u), (vi a0v), (vB a0w), (vB a0x), (vs a5C)], a5D]) (Fr := [bx g2 102 [(Value.pointer (some ⟨g2b, 0, none⟩))], bx g3 161 [(Value.func (.func 99) #[] #[(Value.pointer (some ⟨g2, 0, none⟩)), (Value.pointer (some ⟨g3, 0, none⟩))])]]) ((f1L.bring 3).bring 2) (h g2b a5C a5D b4u) (fun g9D c4n g9E M1 c4s g9F g9G g5p => ?_) (fun _ _ _ _ _ q => q.elim)
  obtain ⟨a4Y, G4, a8o, a9i, a9j, rfl, rfl, c4t, h⟩ := g5p
  refine i8 (V5 _) ?_
  simp only [L2]
  refine i8 (Pu.g fun hb => by have b7 := hb; simp only [l9 b7]; exact (C6 _ _ _ _ _ _)) ?_
  refine r5 (Ld.g fun hb => by have b7 := hb; exact (ld1 Tryd.isAgg161 ((c4s.bring 3).at1 (o := 0) (vs := [(Value.func (.func 99) #[] #[(Value.pointer (some ⟨g2, 0, none⟩)), (Value.pointer (some ⟨g3, 0, none⟩))])]) (nb rfl) rfl))) ?_
  refine a3y (D := fun f1M b2I => ∃ (b2G : Sl) (a7A : Hp), f1M = (gv (!a4Y) false (vs b2G)) ∧ (Inv w0 ps0 H0 a7A [bx g2b 106 [(vi ((G4).fnodes)), (vi ((G4).fdepth)), (vi ((G4).fe)), (vB ((G4).fform)), (vB ((G4).fnamed)), (vs a9i)], a9j, bx g2 102 [(Value.pointer (some ⟨g2b, 0, none⟩))], bx g3 161 [(Value.func (.func 99) #[] #[(Value.pointer (some ⟨g2, 0, none⟩)), (Value.pointer (some ⟨g3, 0, none⟩))])]] b2I) ∧ (∀ i, i < M1.heap.size → ¬ inF [] i → b2I.heap[i]? = M1.heap[i]?) ∧ Hle c4n a7A ∧ (TG ((!a4Y) = false) (fun k_ => U3 b2G (IntKind.wrap .i64 (x1 + 1)) (g8.mk ((G4).fnodes) ((G4).fdepth) ((G4).fe) ((G4).fform) ((G4).fnamed) (Sl.mk none 0 0)) a8o a7A fun a7b N7 a1X H_ => k_ (a7b, N7, a1X) H_) (false, (g8.mk ((G4).fnodes) ((G4).fdepth) ((G4).fe) ((G4).fform) ((G4).fnamed) (Sl.mk none 0 0)), a8o) a7A (fun (Y2 : Bool × g8 × (List ByteArray)) (a2q : Hp) =>
 (((!a4Y) || (!Y2.1)) = true →
 K false (g8.mk ((Y2.2.1).fnodes) ((Y2.2.1).fdepth) ((Y2.2.1).fe) ((Y2.2.1).fform) ((Y2.2.1).fnamed) (Sl.mk none 0 0)) Y2.2.2 a2q) ∧
 (((!a4Y) || (!Y2.1)) = false →
 n2 ((IntKind.wrap .i64 (a1J + 1)), ((Y2.2.1).fnodes), ((Y2.2.1).fdepth), ((Y2.2.1).fe), ((Y2.2.1).fform), ((Y2.2.1).fnamed), Y2.2.2) a2q)))) (fun c4u => ?_) (fun c4u => ?_) ?_
  ·replace h := h.1 c4u
   have b7 := c4u
   simp only [l9 b7]
   refine b0K c4s h (fun b2G a7A b2I b4v c4v c9G h => ?_)
   exact ⟨b2G, a7A, by rfl, b4v, c9G, c4v, h⟩
  ·exact ⟨(Sl.mk none 0 0), c4n, by rw [a6p c4u], c4s, fun _ _ _ => rfl, Hle.refl _, h.2 c4u⟩
  ·clear h
   rintro f1M b2I ⟨b2G, a7A, rfl, b4v, c9G, c4v, h⟩
   refine ⟨(c9G _ (c4s.bring 3).lt1 (Inv.a5H (Fi := []) (c4s.bring 3))), ?_⟩
   refine a3y (D := fun d6e c9H => ∃ (a7b : Bool) (N7 : g8) (a1X : (List ByteArray)) (a2q : Hp) (a5n : Sl) (a5o : Frag) , d6e = (gv (!a4Y) false (vB a7b)) ∧ (RowL 9 1 C9 a5n a1X a5o) ∧ (Inv w0 ps0 H0 a2q [bx g2 102 [(Value.pointer (some ⟨g2b, 0, none⟩))], bx g2b 106 [(vi ((N7).fnodes)), (vi ((N7).fdepth)), (vi ((N7).fe)), (vB ((N7).fform)), (vB ((N7).fnamed)), (vs a5n)], a5o, bx g3 161 [(Value.func (.func 99) #[] #[(Value.pointer (some ⟨g2, 0, none⟩)), (Value.pointer (some ⟨g3, 0, none⟩))])]] c9H) ∧ (∀ i, i < b2I.heap.size → ¬ inF [bx g2 102 [(Value.pointer (some ⟨g2b, 0, none⟩))], bx g2b 106 [(vi ((G4).fnodes)), (vi ((G4).fdepth)), (vi ((G4).fe)), (vB ((G4).fform)), (vB ((G4).fnamed)), (vs a9i)], a9j, bx g3 161 [(Value.func (.func 99) #[] #[(Value.pointer (some ⟨g2, 0, none⟩)), (Value.pointer (some ⟨g3, 0, none⟩))])]] i → c9H.heap[i]? = b2I.heap[i]?) ∧ Hle a7A a2q ∧ ((((!a4Y) || (!a7b)) = true →
 K false (g8.mk ((N7).fnodes) ((N7).fdepth) ((N7).fe) ((N7).fform) ((N7).fnamed) (Sl.mk none 0 0)) a1X a2q) ∧
 (((!a4Y) || (!a7b)) = false →
 n2 ((IntKind.wrap .i64 (a1J + 1)), ((N7).fnodes), ((N7).fdepth), ((N7).fe), ((N7).fform), ((N7).fnamed), a1X) a2q))) (fun a9k => ?_) (fun a9k => ?_) ?_
   ·replace h := h.1 a9k
    have b7 := a9k
    simp only [l9 b7]
    refine d5 (cap := [(Value.pointer (some ⟨g2, 0, none⟩)), (Value.pointer (some ⟨g3, 0, none⟩))]) (fun args w => Tryd.call99 args w) ?_
    refine m8 (Fi := [bx g2 102 [(Value.pointer (some ⟨g2b, 0, none⟩))], bx g2b 106 [(vi ((G4).fnodes)), (vi ((G4).fdepth)), (vi ((G4).fe)), (vB ((G4).fform)), (vB ((G4).fnamed)), (vs a9i)], a9j, bx g3 161 [(Value.func (.func 99) #[] #[(Value.pointer (some ⟨g2, 0, none⟩)), (Value.pointer (some ⟨g3, 0, none⟩))])]]) (Fr := []) ((((b4v.bring 3).bring 2).bring 2).bring 3) (h g2 g2b g3 a9i a9j c4t) (fun d6e a2q g9H c9H c9I b6H f1N g5q => ?_) (fun _ _ _ _ _ q => q.elim)
    obtain ⟨a7b, N7, a1X, a5n, a5o, rfl, rfl, b2J, h⟩ := g5q
    exact ⟨a7b, N7, a1X, a2q, a5n, a5o, by rfl, b2J, c9I, f1N, b6H, h⟩
   ·exact ⟨false, (g8.mk ((G4).fnodes) ((G4).fdepth) ((G4).fe) ((G4).fform) ((G4).fnamed) (Sl.mk none 0 0)), a8o, a7A, a9i, a9j, by rw [a6p a9k], c4t, ((((b4v.bring 3).bring 2).bring 2).bring 3), fun _ _ _ => rfl, Hle.refl _, h.2 a9k⟩
   ·clear h
    rintro d6e c9H ⟨a7b, N7, a1X, a2q, a5n, a5o, rfl, b2J, c9I, f1N, b6H, h⟩
    refine i8 (Pu.g fun hb => by have b7 := hb; simp only [l9 b7]; exact (V5 _)) ?_
    refine i8 (Q5 _ _) ?_
    refine o4 (fun a9l => ?_) (fun a9l => ?_)
    ·replace h := h.1 a9l
     exact hR false (g8.mk ((N7).fnodes) ((N7).fdepth) ((N7).fe) ((N7).fform) ((N7).fnamed) (Sl.mk none 0 0)) a1X a5n a5o a2q _ b2J ((((c9I.bring 3).bring 3).bring 3).bring 3) h
    ·replace h := h.2 a9l
     refine a7 (C6 _ _ _ _ _ _) ?_
     exact hn2 _ _ _ (hm2 _ _ h).2 ⟨((IntKind.wrap .i64 (a1J + 1)), ((N7).fnodes), ((N7).fdepth), ((N7).fe), ((N7).fform), ((N7).fnamed), a1X), a2q, a5n, a5o, rfl, rfl, b2J, ((((c9I.bring 2).bring 3).bring 3).bring 3), (hm2 _ _ h).1⟩
 ·replace h := h.2 b6V
  exact hx1 _ _ (hj1 a0t a0u a0v a0w a0x Y7 a5C a5D H _ b4u ((((I.bring 3).bring 3).bring 3).bring 3) h)
theorem b0M (x0 : Sl) (x1 : Int) (x2 : g8) (a8L : (List ByteArray)) {H : Hp} {K : Bool → g8 → (List ByteArray) → Hp → Prop} (h : a0H x0 x1 x2 a8L H K) : U3 x0 x1 x2 a8L H K := by
 intro g2 g2b g3 b0n b0o c9F w I
 refine e8o ?_
 refine b0b x0 x1 x2 a8L g2 g2b g3 b0n b0o c9F I (fun r0 y0 a5e a2X a2Y H' w' c4w I' hk => ⟨H', _, I', r0, y0, a5e, a2X, a2Y, rfl, rfl, c4w, hk⟩) h
def a1K (x0 : r9) (H : Hp) (K : Int → Hp → Prop) : Prop :=
 a4E x0 H (fun (U8 : g8) (H_6 : Hp) =>
 K U8.fe H_6)
theorem b2K (x0 : r9) {K : Int → Hp → Prop} (I : Inv w0 ps0 H0 H [] w) (hR : ∀ (r0 : Int) (H' : Hp) (w' : World) (_ : Inv w0 ps0 H0 H' [] w') (_ : K r0 H'), R (vi r0) w') (h : a1K x0 H K) : F53 (Value.agg (m6 x0).toArray) w R E := by
 unfold a1K at h
 unfold F53
 refine O4 I (cs := (m6 x0)) rfl fun g_2 w_3 I_4 k_5 => ?_
 refine b6 (ldA Tryd.isAgg44 Tryd.sizeOf44 rfl (I_4.at1 (o := 0) (vs := (m6 x0)) (nb rfl) rfl)) ?_
 refine d5 (cap := []) (fun args w => Tryd.call52 args w) ?_
 refine m8 (Fi := []) (Fr := [bx g_2 44 (m6 x0)]) I_4 (h) (fun c4g H_6 c4h w_7 I_8 c4i k_9 a9b => ?_) (fun _ _ _ _ _ q => q.elim)
 obtain ⟨U8, g7H, rfl, rfl, h⟩ := a9b
 refine a7 (p7 _) ?_
 refine a7 a4K ?_
 refine b6 (ld1 Tryd.isAgg29 (I_8.at1 (o := 2) (vs := [(vi U8.fe)]) (nb rfl) rfl)) ?_
 exact hR U8.fe H_6 _ I_8.drop.drop h
theorem b3v (x0 : r9) {H : Hp} {K : Int → Hp → Prop} (h : a1K x0 H K) : a3J x0 H K := by
 intro w I
 refine e7A ?_
 refine b2K x0 I (fun r0 H' w' I' hk => ⟨H', _, I', r0, rfl, rfl, hk⟩) h
def Y3 (x0 : E7) (H : Hp) (K : Sl → Hp → Prop) : Prop :=
 t1 x0.m5.A5 H (fun (U8 : Sl) (H_6 : Hp) =>
 K U8 H_6)
theorem a7Z (x0 : E7) {K : Sl → Hp → Prop} (I : Inv w0 ps0 H0 H [] w) (hR : ∀ (r0 : Sl) (H' : Hp) (w' : World) (_ : Inv w0 ps0 H0 H' [] w') (_ : K r0 H'), R (vs r0) w') (h : Y3 x0 H K) : c9d (Value.agg (d9 x0.m5).toArray) w R E := by
 unfold Y3 at h
 unfold c9d
 refine O4 I (cs := (d9 x0.m5)) rfl fun g_2 w_3 I_4 k_5 => ?_
 refine a7 W8 ?_
 refine a7 a4b ?_
 refine b6 (ld1 Tryd.isAgg22 (I_4.at1 (o := 3) (vs := [(vs x0.m5.A5)]) (nb rfl) rfl)) ?_
 refine d5 (cap := []) (fun args w => Tryd.call171 args w) ?_
 refine m8 (Fi := []) (Fr := [bx g_2 123 (d9 x0.m5)]) I_4 (h) (fun c4g H_6 c4h w_7 I_8 c4i k_9 a9b => ?_) (fun _ _ _ _ _ q => q.elim)
 obtain ⟨U8, rfl, rfl, h⟩ := a9b
 exact hR U8 H_6 _ I_8.drop h
theorem a9m (x0 : E7) {H : Hp} {K : Sl → Hp → Prop} (h : Y3 x0 H K) : a3P x0 H K := by
 intro w I
 refine e2n ?_
 refine a7Z x0 I (fun r0 H' w' I' hk => ⟨H', _, I', r0, rfl, rfl, hk⟩) h
def Y4 (x0 : O5) (H : Hp) (K : Sl → Hp → Prop) : Prop :=
 K (Sl.mk none 0 0) H
theorem a8a (x0 : O5) {K : Sl → Hp → Prop} (I : Inv w0 ps0 H0 H [] w) (hR : ∀ (r0 : Sl) (H' : Hp) (w' : World) (_ : Inv w0 ps0 H0 H' [] w') (_ : K r0 H'), R (vs r0) w') (h : Y4 x0 H K) : c9m (Value.agg (m7 x0.O6).toArray) w R E := by
 unfold Y4 at h
 unfold c9m
 refine O4 I (cs := (m7 x0.O6)) rfl fun g_2 w_3 I_4 k_5 => ?_
 exact hR (Sl.mk none 0 0) H _ I_4.drop h
theorem a9n (x0 : O5) {H : Hp} {K : Sl → Hp → Prop} (h : Y4 x0 H K) : a3R x0 H K := by
 intro w I
 refine e2E ?_
 refine a8a x0 I (fun r0 H' w' I' hk => ⟨H', _, I', r0, rfl, rfl, hk⟩) h
end Go.Proofs.YtnhkdkcgdcgmdaaDoor
