/- Typed formulas of the program's functions, and the theorems that the contracts follow from them; printed by lift.py off the code. -/
import Derived.Test.YtnhkdkcgdcgmdaaDoorzZV1
namespace Go.Proofs.YtnhkdkcgdcgmdaaDoor
open Go.RowKit
set_option maxRecDepth 100000
set_option maxHeartbeats 2000000
variable {w0 w : World} {ps0 : Nat → Prop} {H0 H : Hp} {R : RT} {E : Pan}
def M3 (c0l : Int) (H : Hp) (K : Int → Hp → Prop) : Prop :=
 K c0l H
def M4 (c3X : ByteArray) (a7q : Int) (a2f : Nat) (H : Hp) (n2 : (Int × Nat) → Hp → Prop) (K : Int → Hp → Prop) : Prop :=
 (a2f < c3X.size →
 n2 ((IntKind.wrap .i64 (a7q + 1)), (a2f + (Utf8.decode c3X a2f).2)) H) ∧
 (¬ (a2f < c3X.size) →
 M3 a7q H K)
def O2 (x0 : ByteArray) (H : Hp) (K : Int → Hp → Prop) : Prop :=
 TL ((0, 0) : Int × Nat) H fun (s : Int × Nat) H n2 => M4 x0 s.1 s.2 H n2 K
theorem a4P (x0 : ByteArray) {K : Int → Hp → Prop} (I : Inv w0 ps0 H0 H [] w) (hR : ∀ (r0 : Int) (H' : Hp) (w' : World) (_ : Inv w0 ps0 H0 H' [] w') (_ : K r0 H'), R (vi r0) w') (h : O2 x0 H K) : c8f (Value.string x0) w R E := by
 unfold O2 at h
 unfold c8f
 have hj1 : ∀ (c0l : Int) (H : Hp) (w : World) (_ : Inv w0 ps0 H0 H [] w) (_ : M3 c0l H K), b9Q (vi c0l) w R E := by
  intro c0l H w I h
  unfold b9Q
  intro _
  unfold M3 at h
  exact hR c0l H _ I h
 refine A8 fun j1 hx1 => ?_
 refine c6N Tryd.underlying9 x0 I fun g_2 w_3 I_4 k_5 => ?_
 obtain ⟨d4R, c3Y, g4A, g4B⟩ := h
 refine M7 (J := fun n l w => ∃ (s : Int × Nat) (H : Hp) , n = c3Y s ∧ l = (match s with | (a7q, a2f) => [(vi a7q)]) ∧ (match s with | (a7q, a2f) => Inv w0 ps0 H0 H [itf g_2 x0 a2f] w) ∧ d4R s H) ⟨_, (0, 0), H, rfl, rfl, I_4, g4A⟩ ?_
 rintro g8q τ_27 w next2 ⟨⟨a7q, a2f⟩, H, rfl, b6O, I, g4C⟩ hn2
 dsimp only at b6O I
 simp only [List.map_cons, List.map_nil, List.cons.injEq, and_true] at b6O
 have e2 := b6O
 simp only [e2]
 obtain ⟨n2, hm2, h⟩ : ∃ n2 : (Int × Nat) → Hp → Prop, (∀ s' H', n2 s' H' → d4R s' H' ∧ c3Y s' < c3Y (a7q, a2f)) ∧ M4 x0 a7q a2f H n2 K := ⟨_, fun _ _ h => h, g4B (a7q, a2f) H (fun s' H' => d4R s' H' ∧ c3Y s' < c3Y (a7q, a2f)) g4C (fun _ _ a b => ⟨a, b⟩)⟩
 unfold c6W
 unfold M4 at h
 refine d1k I (fun a8T r7 a6d b6K => ?_) (fun a8T => ?_)
 ·replace h := h.1 a8T
  refine a7 (o2 _ _ (vB true) rfl) ?_
  refine p5 (fun e => ?_) (fun e => by cases e)
  refine a7 (J0 _ _ _ _ _ _) ?_
  exact hn2 _ _ _ (hm2 _ _ h).2 ⟨((IntKind.wrap .i64 (a7q + 1)), (a2f + (Utf8.decode x0 a2f).2)), H, rfl, rfl, a6d, (hm2 _ _ h).1⟩
 ·replace h := h.2 a8T
  refine a7 (o2 _ _ (vB false) rfl) ?_
  refine p5 (fun e => by cases e) (fun e => ?_)
  exact hx1 _ _ (hj1 a7q H _ I.drop h)
theorem a5k (x0 : ByteArray) {H : Hp} {K : Int → Hp → Prop} (h : O2 x0 H K) : U7 x0 H K := by
 intro w I
 refine e0Q ?_
 refine a4P x0 I (fun r0 H' w' I' hk => ⟨H', _, I', r0, rfl, rfl, hk⟩) h
def a2v (x0 : ByteArray) (H : Hp) (K : Bool → Hp → Prop) : Prop :=
 U7 x0 H (fun (E7 : Int) (H_1 : Hp) =>
 K (decide (32 < E7)) H_1)
theorem b4c (x0 : ByteArray) {K : Bool → Hp → Prop} (I : Inv w0 ps0 H0 H [] w) (hR : ∀ (r0 : Bool) (H' : Hp) (w' : World) (_ : Inv w0 ps0 H0 H' [] w') (_ : K r0 H'), R (vB r0) w') (h : a2v x0 H K) : c8a (Value.string x0) w R E := by
 unfold a2v at h
 unfold c8a
 refine d8 (cap := []) (fun args w => Tryd.call150 args w) ?_
 refine m9 (Fi := []) (Fr := []) I (h) (fun v_5 H_1 F_6 w_2 I_3 l_8 k_4 q_7 => ?_) (fun _ _ _ _ _ q => q.elim)
 obtain ⟨E7, rfl, rfl, h⟩ := q_7
 refine a7 (a1W _ _ _ _ _ _) ?_
 exact hR (decide (32 < E7)) H_1 _ I_3 h
theorem b5T (x0 : ByteArray) {H : Hp} {K : Bool → Hp → Prop} (h : a2v x0 H K) : a2p x0 H K := by
 intro w I
 refine e0G ?_
 refine b4c x0 I (fun r0 H' w' I' hk => ⟨H', _, I', r0, rfl, rfl, hk⟩) h
def V1 (a6w : Int) (a6x : Int) (a6y : Int) (a6z : Bool) (a6A : Bool) (a5v : (List ByteArray)) (H : Hp) (K : Bool → i7 → (List ByteArray) → Hp → Prop) : Prop :=
 K true (i7.mk a6w a6x a6y a6z a6A (Sl.mk none 0 0)) a5v H
def V2 (c3Z : Int) (a0h : Sl) (r8 : Int) (a1J : Int) (a0m : Int) (a0o : Int) (a0p : Int) (a0q : Bool) (a0r : Bool) (X5 : (List ByteArray)) (H : Hp) (n2 : (Int × Int × Int × Int × Bool × Bool × (List ByteArray)) → Hp → Prop) (K : Bool → i7 → (List ByteArray) → Hp → Prop) : Prop :=
 (a1J < r8 →
 (0 : Int) ≤ a1J ∧ (a1J : Int) < a0h.n ∧ ∃ c4a : a8, EltH H a0h a1J 1 [(u7 c4a)] ∧
 a0U (i7.mk a0m a0o a0p a0q a0r (Sl.mk none 0 0)) X5 c4a c3Z H (fun (a4X : Bool) (G1 : i7) (a7Y : (List ByteArray)) (c4b : Hp) =>
 TG ((!a4X) = false) (a2K c4a c4b) (Sl.mk none 0 0) c4b (fun (b2u : Sl) (a7r : Hp) =>
 TG ((!a4X) = false) (fun k_ => T9 b2u (IntKind.wrap .i64 (c3Z + 1)) (i7.mk ((G1).fnodes) ((G1).fdepth) ((G1).fe) ((G1).fform) ((G1).fnamed) (Sl.mk none 0 0)) a7Y a7r fun a6R N0 a1V H_ => k_ (a6R, N0, a1V) H_) (false, (i7.mk ((G1).fnodes) ((G1).fdepth) ((G1).fe) ((G1).fform) ((G1).fnamed) (Sl.mk none 0 0)), a7Y) a7r (fun (W9 : Bool × i7 × (List ByteArray)) (a2l : Hp) =>
 (((!a4X) || (!W9.1)) = true →
 K false (i7.mk ((W9.2.1).fnodes) ((W9.2.1).fdepth) ((W9.2.1).fe) ((W9.2.1).fform) ((W9.2.1).fnamed) (Sl.mk none 0 0)) W9.2.2 a2l) ∧
 (((!a4X) || (!W9.1)) = false →
 n2 ((IntKind.wrap .i64 (a1J + 1)), ((W9.2.1).fnodes), ((W9.2.1).fdepth), ((W9.2.1).fe), ((W9.2.1).fform), ((W9.2.1).fnamed), W9.2.2) a2l))))) ∧
 (¬ (a1J < r8) →
 V1 a0m a0o a0p a0q a0r X5 H K)
def a0E (x0 : Sl) (x1 : Int) (x2 : i7) (a8A : (List ByteArray)) (H : Hp) (K : Bool → i7 → (List ByteArray) → Hp → Prop) : Prop :=
 TL ((0, x2.fnodes, x2.fdepth, x2.fe, x2.fform, x2.fnamed, a8A) : Int × Int × Int × Int × Bool × Bool × (List ByteArray)) H fun (s : Int × Int × Int × Int × Bool × Bool × (List ByteArray)) H n2 => V2 x1 x0 (x0.n : Int) s.1 s.2.1 s.2.2.1 s.2.2.2.1 s.2.2.2.2.1 s.2.2.2.2.2.1 s.2.2.2.2.2.2 H n2 K
theorem a9K (x0 : Sl) (x1 : Int) (x2 : i7) (a8A : (List ByteArray)) (g2 g2b g3 : Nat) (a9Y : Sl) (a9Z : Frag) (c8L : RowL 9 1 C8 a9Y a8A a9Z) {K : Bool → i7 → (List ByteArray) → Hp → Prop} (I : Inv w0 ps0 H0 H [bx g2 102 [(Value.pointer (some ⟨g2b, 0, none⟩))], bx g2b 106 [(vi x2.fnodes), (vi x2.fdepth), (vi x2.fe), (vB x2.fform), (vB x2.fnamed), (vs a9Y)], a9Z, bx g3 161 [(Value.func (.func 99) #[] #[(Value.pointer (some ⟨g2, 0, none⟩)), (Value.pointer (some ⟨g3, 0, none⟩))])]] w) (hR : ∀ (r0 : Bool) (y0 : i7) (a5c : (List ByteArray)) (a2Z : Sl) (a3b : Frag) (H' : Hp) (w' : World) (_ : RowL 9 1 C8 a2Z a5c a3b) (_ : Inv w0 ps0 H0 H' [bx g2 102 [(Value.pointer (some ⟨g2b, 0, none⟩))], bx g2b 106 [(vi y0.fnodes), (vi y0.fdepth), (vi y0.fe), (vB y0.fform), (vB y0.fnamed), (vs a2Z)], a3b, bx g3 161 [(Value.func (.func 99) #[] #[(Value.pointer (some ⟨g2, 0, none⟩)), (Value.pointer (some ⟨g3, 0, none⟩))])]] w') (_ : K r0 y0 a5c H'), R (vB r0) w') (h : a0E x0 x1 x2 a8A H K) : F99 (vs x0) (vi x1) (Value.pointer (some ⟨g2, 0, none⟩)) (Value.pointer (some ⟨g3, 0, none⟩)) w R E := by
 unfold a0E at h
 unfold F99
 have hj1 : ∀ (a6w : Int) (a6x : Int) (a6y : Int) (a6z : Bool) (a6A : Bool) (a5v : (List ByteArray)) (b0a : Sl) (b0b : Frag) (H : Hp) (w : World) (_ : RowL 9 1 C8 b0a a5v b0b) (_ : Inv w0 ps0 H0 H [bx g2 102 [(Value.pointer (some ⟨g2b, 0, none⟩))], bx g2b 106 [(vi a6w), (vi a6x), (vi a6y), (vB a6z), (vB a6A), (vs b0a)], bx g3 161 [(Value.func (.func 99) #[] #[(Value.pointer (some ⟨g2, 0, none⟩)), (Value.pointer (some ⟨g3, 0, none⟩))])], b0b] w) (_ : V1 a6w a6x a6y a6z a6A a5v H K), c2P w R E := by
  intro a6w a6x a6y a6z a6A a5v b0a b0b H w d2m I h
  unfold c2P
  intro _
  unfold V1 at h
  exact hR true (i7.mk a6w a6x a6y a6z a6A (Sl.mk none 0 0)) a5v b0a b0b H _ d2m ((((I.bring 2).bring 3).bring 3).bring 3) h
 refine A8 fun j1 hx1 => ?_
 refine a7 (a7E _ _ _) ?_
 obtain ⟨d4S, c4c, g4D, g4E⟩ := h
 refine M7 (J := fun n l w => ∃ (s : Int × Int × Int × Int × Bool × Bool × (List ByteArray)) (H : Hp) (a5w : Sl) (a5x : Frag) , n = c4c s ∧ l = (match s with | (a1J, a0m, a0o, a0p, a0q, a0r, X5) => [(vi a1J)]) ∧ (match s with | (a1J, a0m, a0o, a0p, a0q, a0r, X5) => RowL 9 1 C8 a5w X5 a5x) ∧ (match s with | (a1J, a0m, a0o, a0p, a0q, a0r, X5) => Inv w0 ps0 H0 H [bx g2 102 [(Value.pointer (some ⟨g2b, 0, none⟩))], bx g2b 106 [(vi a0m), (vi a0o), (vi a0p), (vB a0q), (vB a0r), (vs a5w)], bx g3 161 [(Value.func (.func 99) #[] #[(Value.pointer (some ⟨g2, 0, none⟩)), (Value.pointer (some ⟨g3, 0, none⟩))])], a5x] w) ∧ d4S s H) ⟨_, (0, x2.fnodes, x2.fdepth, x2.fe, x2.fform, x2.fnamed, a8A), H, a9Y, a9Z, rfl, rfl, c8L, ((((I.bring 2).bring 3).bring 3).bring 3), g4D⟩ ?_
 rintro g8r τ_92 w next2 ⟨⟨a1J, a0m, a0o, a0p, a0q, a0r, X5⟩, H, a5w, a5x, rfl, c3w, b4d, I, f0P⟩ hn2
 dsimp only at c3w I b4d
 simp only [List.map_cons, List.map_nil, List.cons.injEq, and_true] at c3w
 have e11 := c3w
 simp only [e11]
 obtain ⟨n2, hm2, h⟩ : ∃ n2 : (Int × Int × Int × Int × Bool × Bool × (List ByteArray)) → Hp → Prop, (∀ s' H', n2 s' H' → d4S s' H' ∧ c4c s' < c4c (a1J, a0m, a0o, a0p, a0q, a0r, X5)) ∧ V2 x1 x0 (x0.n : Int) a1J a0m a0o a0p a0q a0r X5 H n2 K := ⟨_, fun _ _ h => h, g4E (a1J, a0m, a0o, a0p, a0q, a0r, X5) H (fun s' H' => d4S s' H' ∧ c4c s' < c4c (a1J, a0m, a0o, a0p, a0q, a0r, X5)) f0P (fun _ _ a b => ⟨a, b⟩)⟩
 unfold d1v
 unfold V2 at h
 refine a7 (C5 _ _ _ _ _ _) ?_
 refine j7 (fun b6P => ?_) (fun b6P => ?_)
 ·replace h := h.1 b6P
  obtain ⟨d4T, g4F, c4a, c4d, h⟩ := h
  obtain ⟨g8s, g8t, g4G, c4d⟩ := c4d
  refine a7 (d1n g4G _ _ _ _ d4T g4F) ?_
  refine d6 (ld1 (v := (u7 c4a)) Tryd.isAgg152 (I.atH c4d)) ?_
  refine Z9 I fun b2v f0Q => ?_
  refine u9 (ld1 Tryd.isAgg102 (f0Q.at1 (o := 0) (vs := [(Value.pointer (some ⟨g2b, 0, none⟩))]) (nb rfl) rfl)) ?_
  refine d8 (cap := []) (fun args w => Tryd.call100 args w) ?_
  refine m9 (Fi := [bx g2b 106 [(vi a0m), (vi a0o), (vi a0p), (vB a0q), (vB a0r), (vs a5w)], a5x]) (Fr := [bx g2 102 [(Value.pointer (some ⟨g2b, 0, none⟩))], bx g3 161 [(Value.func (.func 99) #[] #[(Value.pointer (some ⟨g2, 0, none⟩)), (Value.pointer (some ⟨g3, 0, none⟩))])]]) ((f0Q.bring 3).bring 2) (h g2b a5w a5x b4d) (fun g8u c4b g8v L6 c4e g8w g8x g4H => ?_) (fun _ _ _ _ _ q => q.elim)
  obtain ⟨a4X, G1, a7Y, a8X, a8Y, rfl, rfl, c4f, h⟩ := g4H
  refine m4 (a1b _) ?_
  simp only [P6]
  refine m4 (Pu.g fun hb => by have j9 := hb; simp only [s6 j9]; exact (J0 _ _ _ _ _ _)) ?_
  refine u9 (Ld.g fun hb => by have j9 := hb; exact (ld1 Tryd.isAgg161 ((c4e.bring 3).at1 (o := 0) (vs := [(Value.func (.func 99) #[] #[(Value.pointer (some ⟨g2, 0, none⟩)), (Value.pointer (some ⟨g3, 0, none⟩))])]) (nb rfl) rfl))) ?_
  refine a6T (D := fun f0R a7s => ∃ (b2u : Sl) (a7r : Hp), f0R = (gv (!a4X) false (vs b2u)) ∧ (Inv w0 ps0 H0 a7r [bx g2b 106 [(vi ((G1).fnodes)), (vi ((G1).fdepth)), (vi ((G1).fe)), (vB ((G1).fform)), (vB ((G1).fnamed)), (vs a8X)], a8Y, bx g2 102 [(Value.pointer (some ⟨g2b, 0, none⟩))], bx g3 161 [(Value.func (.func 99) #[] #[(Value.pointer (some ⟨g2, 0, none⟩)), (Value.pointer (some ⟨g3, 0, none⟩))])]] a7s) ∧ (∀ i, i < L6.heap.size → ¬ inF [] i → a7s.heap[i]? = L6.heap[i]?) ∧ Hle c4b a7r ∧ (TG ((!a4X) = false) (fun k_ => T9 b2u (IntKind.wrap .i64 (x1 + 1)) (i7.mk ((G1).fnodes) ((G1).fdepth) ((G1).fe) ((G1).fform) ((G1).fnamed) (Sl.mk none 0 0)) a7Y a7r fun a6R N0 a1V H_ => k_ (a6R, N0, a1V) H_) (false, (i7.mk ((G1).fnodes) ((G1).fdepth) ((G1).fe) ((G1).fform) ((G1).fnamed) (Sl.mk none 0 0)), a7Y) a7r (fun (W9 : Bool × i7 × (List ByteArray)) (a2l : Hp) =>
 (((!a4X) || (!W9.1)) = true →
 K false (i7.mk ((W9.2.1).fnodes) ((W9.2.1).fdepth) ((W9.2.1).fe) ((W9.2.1).fform) ((W9.2.1).fnamed) (Sl.mk none 0 0)) W9.2.2 a2l) ∧
 (((!a4X) || (!W9.1)) = false →
 n2 ((IntKind.wrap .i64 (a1J + 1)), ((W9.2.1).fnodes), ((W9.2.1).fdepth), ((W9.2.1).fe), ((W9.2.1).fform), ((W9.2.1).fnamed), W9.2.2) a2l)))) (fun c4g => ?_) (fun c4g => ?_) ?_
  ·replace h := h.1 c4g
   have j9 := c4g
   simp only [s6 j9]
   refine b0y c4e h (fun b2u a7r a7s b4e f0S c8M h => ?_)
   exact ⟨b2u, a7r, by rfl, b4e, c8M, f0S, h⟩
  ·exact ⟨(Sl.mk none 0 0), c4b, by rw [b1D c4g], c4e, fun _ _ _ => rfl, Hle.refl _, h.2 c4g⟩
  ·clear h
   rintro f0R a7s ⟨b2u, a7r, rfl, b4e, c8M, f0S, h⟩
   refine ⟨(c8M _ (c4e.bring 3).lt1 (Inv.a5A (Fi := []) (c4e.bring 3))), ?_⟩
   refine a6T (D := fun d4U c0m => ∃ (a6R : Bool) (N0 : i7) (a1V : (List ByteArray)) (a2l : Hp) (a5l : Sl) (a5m : Frag) , d4U = (gv (!a4X) false (vB a6R)) ∧ (RowL 9 1 C8 a5l a1V a5m) ∧ (Inv w0 ps0 H0 a2l [bx g2 102 [(Value.pointer (some ⟨g2b, 0, none⟩))], bx g2b 106 [(vi ((N0).fnodes)), (vi ((N0).fdepth)), (vi ((N0).fe)), (vB ((N0).fform)), (vB ((N0).fnamed)), (vs a5l)], a5m, bx g3 161 [(Value.func (.func 99) #[] #[(Value.pointer (some ⟨g2, 0, none⟩)), (Value.pointer (some ⟨g3, 0, none⟩))])]] c0m) ∧ (∀ i, i < a7s.heap.size → ¬ inF [bx g2 102 [(Value.pointer (some ⟨g2b, 0, none⟩))], bx g2b 106 [(vi ((G1).fnodes)), (vi ((G1).fdepth)), (vi ((G1).fe)), (vB ((G1).fform)), (vB ((G1).fnamed)), (vs a8X)], a8Y, bx g3 161 [(Value.func (.func 99) #[] #[(Value.pointer (some ⟨g2, 0, none⟩)), (Value.pointer (some ⟨g3, 0, none⟩))])]] i → c0m.heap[i]? = a7s.heap[i]?) ∧ Hle a7r a2l ∧ ((((!a4X) || (!a6R)) = true →
 K false (i7.mk ((N0).fnodes) ((N0).fdepth) ((N0).fe) ((N0).fform) ((N0).fnamed) (Sl.mk none 0 0)) a1V a2l) ∧
 (((!a4X) || (!a6R)) = false →
 n2 ((IntKind.wrap .i64 (a1J + 1)), ((N0).fnodes), ((N0).fdepth), ((N0).fe), ((N0).fform), ((N0).fnamed), a1V) a2l))) (fun c4h => ?_) (fun c4h => ?_) ?_
   ·replace h := h.1 c4h
    have j9 := c4h
    simp only [s6 j9]
    refine d8 (cap := [(Value.pointer (some ⟨g2, 0, none⟩)), (Value.pointer (some ⟨g3, 0, none⟩))]) (fun args w => Tryd.call99 args w) ?_
    refine m9 (Fi := [bx g2 102 [(Value.pointer (some ⟨g2b, 0, none⟩))], bx g2b 106 [(vi ((G1).fnodes)), (vi ((G1).fdepth)), (vi ((G1).fe)), (vB ((G1).fform)), (vB ((G1).fnamed)), (vs a8X)], a8Y, bx g3 161 [(Value.func (.func 99) #[] #[(Value.pointer (some ⟨g2, 0, none⟩)), (Value.pointer (some ⟨g3, 0, none⟩))])]]) (Fr := []) ((((b4e.bring 3).bring 2).bring 2).bring 3) (h g2 g2b g3 a8X a8Y c4f) (fun d4U a2l g8y c0m c8N c8h f0T g4I => ?_) (fun _ _ _ _ _ q => q.elim)
    obtain ⟨a6R, N0, a1V, a5l, a5m, rfl, rfl, b2w, h⟩ := g4I
    exact ⟨a6R, N0, a1V, a2l, a5l, a5m, by rfl, b2w, c8N, f0T, c8h, h⟩
   ·exact ⟨false, (i7.mk ((G1).fnodes) ((G1).fdepth) ((G1).fe) ((G1).fform) ((G1).fnamed) (Sl.mk none 0 0)), a7Y, a7r, a8X, a8Y, by rw [b1D c4h], c4f, ((((b4e.bring 3).bring 2).bring 2).bring 3), fun _ _ _ => rfl, Hle.refl _, h.2 c4h⟩
   ·clear h
    rintro d4U c0m ⟨a6R, N0, a1V, a2l, a5l, a5m, rfl, b2w, c8N, f0T, c8h, h⟩
    refine m4 (Pu.g fun hb => by have j9 := hb; simp only [s6 j9]; exact (a1b _)) ?_
    refine m4 (a1X _ _) ?_
    refine p5 (fun b6Q => ?_) (fun b6Q => ?_)
    ·replace h := h.1 b6Q
     exact hR false (i7.mk ((N0).fnodes) ((N0).fdepth) ((N0).fe) ((N0).fform) ((N0).fnamed) (Sl.mk none 0 0)) a1V a5l a5m a2l _ b2w ((((c8N.bring 3).bring 3).bring 3).bring 3) h
    ·replace h := h.2 b6Q
     refine a7 (J0 _ _ _ _ _ _) ?_
     exact hn2 _ _ _ (hm2 _ _ h).2 ⟨((IntKind.wrap .i64 (a1J + 1)), ((N0).fnodes), ((N0).fdepth), ((N0).fe), ((N0).fform), ((N0).fnamed), a1V), a2l, a5l, a5m, rfl, rfl, b2w, ((((c8N.bring 2).bring 3).bring 3).bring 3), (hm2 _ _ h).1⟩
 ·replace h := h.2 b6P
  exact hx1 _ _ (hj1 a0m a0o a0p a0q a0r X5 a5w a5x H _ b4d ((((I.bring 3).bring 3).bring 3).bring 3) h)
theorem b0B (x0 : Sl) (x1 : Int) (x2 : i7) (a8A : (List ByteArray)) {H : Hp} {K : Bool → i7 → (List ByteArray) → Hp → Prop} (h : a0E x0 x1 x2 a8A H K) : T9 x0 x1 x2 a8A H K := by
 intro g2 g2b g3 a9Y a9Z c8L w I
 refine e7w ?_
 refine a9K x0 x1 x2 a8A g2 g2b g3 a9Y a9Z c8L I (fun r0 y0 a5c a2Z a3b H' w' c4i I' hk => ⟨H', _, I', r0, y0, a5c, a2Z, a3b, rfl, rfl, c4i, hk⟩) h
def a1K (x0 : C4) (H : Hp) (K : Int → Hp → Prop) : Prop :=
 a4H x0 H (fun (a0D : i7) (H_6 : Hp) =>
 K a0D.fe H_6)
theorem b2x (x0 : C4) {K : Int → Hp → Prop} (I : Inv w0 ps0 H0 H [] w) (hR : ∀ (r0 : Int) (H' : Hp) (w' : World) (_ : Inv w0 ps0 H0 H' [] w') (_ : K r0 H'), R (vi r0) w') (h : a1K x0 H K) : F53 (Value.agg (q9 x0).toArray) w R E := by
 unfold a1K at h
 unfold F53
 refine M5 I (cs := (q9 x0)) rfl fun g_2 w_3 I_4 k_5 => ?_
 refine d6 (ldA Tryd.isAgg44 Tryd.sizeOf44 rfl (I_4.at1 (o := 0) (vs := (q9 x0)) (nb rfl) rfl)) ?_
 refine d8 (cap := []) (fun args w => Tryd.call52 args w) ?_
 refine m9 (Fi := []) (Fr := [bx g_2 44 (q9 x0)]) I_4 (h) (fun c8I H_6 c8J w_7 I_8 c8K k_9 b2s => ?_) (fun _ _ _ _ _ q => q.elim)
 obtain ⟨a0D, g6M, rfl, rfl, h⟩ := b2s
 refine a7 (r5 _) ?_
 refine a7 a4M ?_
 refine d6 (ld1 Tryd.isAgg29 (I_8.at1 (o := 2) (vs := [(vi a0D.fe)]) (nb rfl) rfl)) ?_
 exact hR a0D.fe H_6 _ I_8.drop.drop h
theorem b3j (x0 : C4) {H : Hp} {K : Int → Hp → Prop} (h : a1K x0 H K) : a3H x0 H K := by
 intro w I
 refine e6I ?_
 refine b2x x0 I (fun r0 H' w' I' hk => ⟨H', _, I', r0, rfl, rfl, hk⟩) h
def X0 (x0 : E5) (H : Hp) (K : Sl → Hp → Prop) : Prop :=
 t6 x0.m8.A7 H (fun (a0D : Sl) (H_6 : Hp) =>
 K a0D H_6)
theorem a7M (x0 : E5) {K : Sl → Hp → Prop} (I : Inv w0 ps0 H0 H [] w) (hR : ∀ (r0 : Sl) (H' : Hp) (w' : World) (_ : Inv w0 ps0 H0 H' [] w') (_ : K r0 H'), R (vs r0) w') (h : X0 x0 H K) : c8j (Value.agg (d5 x0.m8).toArray) w R E := by
 unfold X0 at h
 unfold c8j
 refine M5 I (cs := (d5 x0.m8)) rfl fun g_2 w_3 I_4 k_5 => ?_
 refine a7 V7 ?_
 refine a7 a4e ?_
 refine d6 (ld1 Tryd.isAgg22 (I_4.at1 (o := 3) (vs := [(vs x0.m8.A7)]) (nb rfl) rfl)) ?_
 refine d8 (cap := []) (fun args w => Tryd.call171 args w) ?_
 refine m9 (Fi := []) (Fr := [bx g_2 123 (d5 x0.m8)]) I_4 (h) (fun c8I H_6 c8J w_7 I_8 c8K k_9 b2s => ?_) (fun _ _ _ _ _ q => q.elim)
 obtain ⟨a0D, rfl, rfl, h⟩ := b2s
 exact hR a0D H_6 _ I_8.drop h
theorem a8Z (x0 : E5) {H : Hp} {K : Sl → Hp → Prop} (h : X0 x0 H K) : a3Q x0 H K := by
 intro w I
 refine e0X ?_
 refine a7M x0 I (fun r0 H' w' I' hk => ⟨H', _, I', r0, rfl, rfl, hk⟩) h
def X1 (x0 : N7) (H : Hp) (K : Sl → Hp → Prop) : Prop :=
 K (Sl.mk none 0 0) H
theorem a7N (x0 : N7) {K : Sl → Hp → Prop} (I : Inv w0 ps0 H0 H [] w) (hR : ∀ (r0 : Sl) (H' : Hp) (w' : World) (_ : Inv w0 ps0 H0 H' [] w') (_ : K r0 H'), R (vs r0) w') (h : X1 x0 H K) : c8s (Value.agg (m7 x0.N8).toArray) w R E := by
 unfold X1 at h
 unfold c8s
 refine M5 I (cs := (m7 x0.N8)) rfl fun g_2 w_3 I_4 k_5 => ?_
 exact hR (Sl.mk none 0 0) H _ I_4.drop h
theorem a9a (x0 : N7) {H : Hp} {K : Sl → Hp → Prop} (h : X1 x0 H K) : a3S x0 H K := by
 intro w I
 refine e1o ?_
 refine a7N x0 I (fun r0 H' w' I' hk => ⟨H', _, I', r0, rfl, rfl, hk⟩) h
end Go.Proofs.YtnhkdkcgdcgmdaaDoor
