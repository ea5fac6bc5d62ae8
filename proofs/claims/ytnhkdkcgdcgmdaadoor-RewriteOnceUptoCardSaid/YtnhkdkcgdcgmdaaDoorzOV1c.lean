/- Typed formulas of the program's functions, and the theorems that the contracts follow from them; printed by lift.py off the code. -/
import Derived.Test.YtnhkdkcgdcgmdaaDoorzOV1
namespace Go.Proofs.YtnhkdkcgdcgmdaaDoor
open Go.RowKit
set_option maxRecDepth 100000
set_option maxHeartbeats 2000000
variable {w0 w : World} {ps0 : Nat → Prop} {H0 H : Hp} {R : RT} {E : Pan}
def R0 (b4L : Int) (H : Hp) (K : Int → Hp → Prop) : Prop :=
 K b4L H
def R1 (c8L : ByteArray) (b0W : Int) (a4U : Nat) (H : Hp) (n2 : (Int × Nat) → Hp → Prop) (K : Int → Hp → Prop) : Prop :=
 (a4U < c8L.size →
 n2 ((IntKind.wrap .i64 (b0W + 1)), (a4U + (Utf8.decode c8L a4U).2)) H) ∧
 (¬ (a4U < c8L.size) →
 R0 b0W H K)
def T6 (x0 : ByteArray) (H : Hp) (K : Int → Hp → Prop) : Prop :=
 TL ((0, 0) : Int × Nat) H fun (s : Int × Nat) H n2 => R1 x0 s.1 s.2 H n2 K
theorem a8s (x0 : ByteArray) {K : Int → Hp → Prop} (I : Inv w0 ps0 H0 H [] w) (hR : ∀ (r0 : Int) (H' : Hp) (w' : World) (_ : Inv w0 ps0 H0 H' [] w') (_ : K r0 H'), R (vi r0) w') (h : T6 x0 H K) : d2G (Value.string x0) w R E := by
 unfold T6 at h
 unfold d2G
 have hj1 : ∀ (b4L : Int) (H : Hp) (w : World) (_ : Inv w0 ps0 H0 H [] w) (_ : R0 b4L H K), c4R (vi b4L) w R E := by
  intro b4L H w I h
  unfold c4R
  intro _
  unfold R0 at h
  exact hR b4L H _ I h
 refine A7 fun j1 hx1 => ?_
 refine d1w Tryd.underlying9 x0 I fun g_2 w_3 I_4 k_5 => ?_
 obtain ⟨d9V, c8M, g5m, g5n⟩ := h
 refine M9 (J := fun n l w => ∃ (s : Int × Nat) (H : Hp) , n = c8M s ∧ l = (match s with | (b0W, a4U) => [(vi b0W)]) ∧ (match s with | (b0W, a4U) => Inv w0 ps0 H0 H [itf g_2 x0 a4U] w) ∧ d9V s H) ⟨_, (0, 0), H, rfl, rfl, I_4, g5m⟩ ?_
 rintro h0S τ_27 w next2 ⟨⟨b0W, a4U⟩, H, rfl, c8N, I, g5o⟩ hn2
 dsimp only at c8N I
 simp only [List.map_cons, List.map_nil, List.cons.injEq, and_true] at c8N
 have e2 := c8N
 simp only [e2]
 obtain ⟨n2, hm2, h⟩ : ∃ n2 : (Int × Nat) → Hp → Prop, (∀ s' H', n2 s' H' → d9V s' H' ∧ c8M s' < c8M (b0W, a4U)) ∧ R1 x0 b0W a4U H n2 K := ⟨_, fun _ _ h => h, g5n (b0W, a4U) H (fun s' H' => d9V s' H' ∧ c8M s' < c8M (b0W, a4U)) g5o (fun _ _ a b => ⟨a, b⟩)⟩
 unfold d1F
 unfold R1 at h
 refine d6s I (fun b2J v7 a9Z c1l => ?_) (fun b2J => ?_)
 ·replace h := h.1 b2J
  refine a7 (o0 _ _ (vB true) rfl) ?_
  refine u2 (fun e => ?_) (fun e => by cases e)
  refine a7 (K3 _ _ _ _ _ _) ?_
  exact hn2 _ _ _ (hm2 _ _ h).2 ⟨((IntKind.wrap .i64 (b0W + 1)), (a4U + (Utf8.decode x0 a4U).2)), H, rfl, rfl, a9Z, (hm2 _ _ h).1⟩
 ·replace h := h.2 b2J
  refine a7 (o0 _ _ (vB false) rfl) ?_
  refine u2 (fun e => by cases e) (fun e => ?_)
  exact hx1 _ _ (hj1 b0W H _ I.drop h)
theorem a8M (x0 : ByteArray) {H : Hp} {K : Int → Hp → Prop} (h : T6 x0 H K) : a0o x0 H K := by
 intro w I
 refine e4W ?_
 refine a8s x0 I (fun r0 H' w' I' hk => ⟨H', _, I', r0, rfl, rfl, hk⟩) h
def a5y (x0 : ByteArray) (H : Hp) (K : Bool → Hp → Prop) : Prop :=
 a0o x0 H (fun (K2 : Int) (H_1 : Hp) =>
 K (decide (32 < K2)) H_1)
theorem b8N (x0 : ByteArray) {K : Bool → Hp → Prop} (I : Inv w0 ps0 H0 H [] w) (hR : ∀ (r0 : Bool) (H' : Hp) (w' : World) (_ : Inv w0 ps0 H0 H' [] w') (_ : K r0 H'), R (vB r0) w') (h : a5y x0 H K) : d2z (Value.string x0) w R E := by
 unfold a5y at h
 unfold d2z
 refine f2 (cap := []) (fun args w => Tryd.call150 args w) ?_
 refine i8 (Fi := []) (Fr := []) I (h) (fun v_5 H_1 F_6 w_2 I_3 l_8 k_4 q_7 => ?_) (fun _ _ _ _ _ q => q.elim)
 obtain ⟨K2, rfl, rfl, h⟩ := q_7
 refine a7 (a7h _ _ _ _ _ _) ?_
 exact hR (decide (32 < K2)) H_1 _ I_3 h
theorem c0x (x0 : ByteArray) {H : Hp} {K : Bool → Hp → Prop} (h : a5y x0 H K) : a5r x0 H K := by
 intro w I
 refine e4M ?_
 refine b8N x0 I (fun r0 H' w' I' hk => ⟨H', _, I', r0, rfl, rfl, hk⟩) h
def a0v (b0a : Int) (b0b : Int) (b0c : Int) (b0d : Bool) (b0e : Bool) (a8X : (List ByteArray)) (H : Hp) (K : Bool → g9 → (List ByteArray) → Hp → Prop) : Prop :=
 K true (g9.mk b0a b0b b0c b0d b0e (Sl.mk none 0 0)) a8X H
def a0w (a7D : Int) (R4 : Sl) (j8 : Int) (a4m : Int) (a2d : Int) (a2e : Int) (a2f : Int) (a2g : Bool) (a2h : Bool) (a1s : (List ByteArray)) (H : Hp) (n2 : (Int × Int × Int × Int × Bool × Bool × (List ByteArray)) → Hp → Prop) (K : Bool → g9 → (List ByteArray) → Hp → Prop) : Prop :=
 (a4m < j8 →
 (0 : Int) ≤ a4m ∧ (a4m : Int) < R4.n ∧ ∃ c8O : d7, EltH H R4 a4m 1 [(C0 c8O)] ∧
 a3m (g9.mk a2d a2e a2f a2g a2h (Sl.mk none 0 0)) a1s c8O a7D H (fun (a8z : Bool) (N3 : g9) (b1J : (List ByteArray)) (c8P : Hp) =>
 TG ((!a8z) = false) (a5S c8O c8P) (Sl.mk none 0 0) c8P (fun (b6I : Sl) (b0X : Hp) =>
 TG ((!a8z) = false) (fun k_ => a0d b6I (IntKind.wrap .i64 (a7D + 1)) (g9.mk ((N3).fnodes) ((N3).fdepth) ((N3).fe) ((N3).fform) ((N3).fnamed) (Sl.mk none 0 0)) b1J b0X fun a7f S6 a4J H_ => k_ (a7f, S6, a4J) H_) (false, (g9.mk ((N3).fnodes) ((N3).fdepth) ((N3).fe) ((N3).fform) ((N3).fnamed) (Sl.mk none 0 0)), b1J) b0X (fun (a1e : Bool × g9 × (List ByteArray)) (a4E : Hp) =>
 (((!a8z) || (!a1e.1)) = true →
 K false (g9.mk ((a1e.2.1).fnodes) ((a1e.2.1).fdepth) ((a1e.2.1).fe) ((a1e.2.1).fform) ((a1e.2.1).fnamed) (Sl.mk none 0 0)) a1e.2.2 a4E) ∧
 (((!a8z) || (!a1e.1)) = false →
 n2 ((IntKind.wrap .i64 (a4m + 1)), ((a1e.2.1).fnodes), ((a1e.2.1).fdepth), ((a1e.2.1).fe), ((a1e.2.1).fform), ((a1e.2.1).fnamed), a1e.2.2) a4E))))) ∧
 (¬ (a4m < j8) →
 a0v a2d a2e a2f a2g a2h a1s H K)
def a2y (x0 : Sl) (x1 : Int) (x2 : g9) (b2p : (List ByteArray)) (H : Hp) (K : Bool → g9 → (List ByteArray) → Hp → Prop) : Prop :=
 TL ((0, x2.fnodes, x2.fdepth, x2.fe, x2.fform, x2.fnamed, b2p) : Int × Int × Int × Int × Bool × Bool × (List ByteArray)) H fun (s : Int × Int × Int × Int × Bool × Bool × (List ByteArray)) H n2 => a0w x1 x0 (x0.n : Int) s.1 s.2.1 s.2.2.1 s.2.2.2.1 s.2.2.2.2.1 s.2.2.2.2.2.1 s.2.2.2.2.2.2 H n2 K
theorem b3y (x0 : Sl) (x1 : Int) (x2 : g9) (b2p : (List ByteArray)) (g2 g2b g3 : Nat) (b3Y : Sl) (b3Z : Frag) (d3h : RowL 9 1 J9 b3Y b2p b3Z) {K : Bool → g9 → (List ByteArray) → Hp → Prop} (I : Inv w0 ps0 H0 H [bx g2 102 [(Value.pointer (some ⟨g2b, 0, none⟩))], bx g2b 106 [(vi x2.fnodes), (vi x2.fdepth), (vi x2.fe), (vB x2.fform), (vB x2.fnamed), (vs b3Y)], b3Z, bx g3 161 [(Value.func (.func 99) #[] #[(Value.pointer (some ⟨g2, 0, none⟩)), (Value.pointer (some ⟨g3, 0, none⟩))])]] w) (hR : ∀ (r0 : Bool) (y0 : g9) (a8E : (List ByteArray)) (a6h : Sl) (a6i : Frag) (H' : Hp) (w' : World) (_ : RowL 9 1 J9 a6h a8E a6i) (_ : Inv w0 ps0 H0 H' [bx g2 102 [(Value.pointer (some ⟨g2b, 0, none⟩))], bx g2b 106 [(vi y0.fnodes), (vi y0.fdepth), (vi y0.fe), (vB y0.fform), (vB y0.fnamed), (vs a6h)], a6i, bx g3 161 [(Value.func (.func 99) #[] #[(Value.pointer (some ⟨g2, 0, none⟩)), (Value.pointer (some ⟨g3, 0, none⟩))])]] w') (_ : K r0 y0 a8E H'), R (vB r0) w') (h : a2y x0 x1 x2 b2p H K) : F99 (vs x0) (vi x1) (Value.pointer (some ⟨g2, 0, none⟩)) (Value.pointer (some ⟨g3, 0, none⟩)) w R E := by
 unfold a2y at h
 unfold F99
 have hj1 : ∀ (b0a : Int) (b0b : Int) (b0c : Int) (b0d : Bool) (b0e : Bool) (a8X : (List ByteArray)) (b4c : Sl) (b4d : Frag) (H : Hp) (w : World) (_ : RowL 9 1 J9 b4c a8X b4d) (_ : Inv w0 ps0 H0 H [bx g2 102 [(Value.pointer (some ⟨g2b, 0, none⟩))], bx g2b 106 [(vi b0a), (vi b0b), (vi b0c), (vB b0d), (vB b0e), (vs b4c)], bx g3 161 [(Value.func (.func 99) #[] #[(Value.pointer (some ⟨g2, 0, none⟩)), (Value.pointer (some ⟨g3, 0, none⟩))])], b4d] w) (_ : a0v b0a b0b b0c b0d b0e a8X H K), c7N w R E := by
  intro b0a b0b b0c b0d b0e a8X b4c b4d H w d7y I h
  unfold c7N
  intro _
  unfold a0v at h
  exact hR true (g9.mk b0a b0b b0c b0d b0e (Sl.mk none 0 0)) a8X b4c b4d H _ d7y ((((I.bring 2).bring 3).bring 3).bring 3) h
 refine A7 fun j1 hx1 => ?_
 refine a7 (b1i _ _ _) ?_
 obtain ⟨d9W, c8Q, g5p, g5q⟩ := h
 refine M9 (J := fun n l w => ∃ (s : Int × Int × Int × Int × Bool × Bool × (List ByteArray)) (H : Hp) (a8Y : Sl) (a8Z : Frag) , n = c8Q s ∧ l = (match s with | (a4m, a2d, a2e, a2f, a2g, a2h, a1s) => [(vi a4m)]) ∧ (match s with | (a4m, a2d, a2e, a2f, a2g, a2h, a1s) => RowL 9 1 J9 a8Y a1s a8Z) ∧ (match s with | (a4m, a2d, a2e, a2f, a2g, a2h, a1s) => Inv w0 ps0 H0 H [bx g2 102 [(Value.pointer (some ⟨g2b, 0, none⟩))], bx g2b 106 [(vi a2d), (vi a2e), (vi a2f), (vB a2g), (vB a2h), (vs a8Y)], bx g3 161 [(Value.func (.func 99) #[] #[(Value.pointer (some ⟨g2, 0, none⟩)), (Value.pointer (some ⟨g3, 0, none⟩))])], a8Z] w) ∧ d9W s H) ⟨_, (0, x2.fnodes, x2.fdepth, x2.fe, x2.fform, x2.fnamed, b2p), H, b3Y, b3Z, rfl, rfl, d3h, ((((I.bring 2).bring 3).bring 3).bring 3), g5p⟩ ?_
 rintro h0T τ_92 w next2 ⟨⟨a4m, a2d, a2e, a2f, a2g, a2h, a1s⟩, H, a8Y, a8Z, rfl, c8d, b8O, I, f3K⟩ hn2
 dsimp only at c8d I b8O
 simp only [List.map_cons, List.map_nil, List.cons.injEq, and_true] at c8d
 have e11 := c8d
 simp only [e11]
 obtain ⟨n2, hm2, h⟩ : ∃ n2 : (Int × Int × Int × Int × Bool × Bool × (List ByteArray)) → Hp → Prop, (∀ s' H', n2 s' H' → d9W s' H' ∧ c8Q s' < c8Q (a4m, a2d, a2e, a2f, a2g, a2h, a1s)) ∧ a0w x1 x0 (x0.n : Int) a4m a2d a2e a2f a2g a2h a1s H n2 K := ⟨_, fun _ _ h => h, g5q (a4m, a2d, a2e, a2f, a2g, a2h, a1s) H (fun s' H' => d9W s' H' ∧ c8Q s' < c8Q (a4m, a2d, a2e, a2f, a2g, a2h, a1s)) f3K (fun _ _ a b => ⟨a, b⟩)⟩
 unfold d6M
 unfold a0w at h
 refine a7 (F4 _ _ _ _ _ _) ?_
 refine j7 (fun c1s => ?_) (fun c1s => ?_)
 ·replace h := h.1 c1s
  obtain ⟨g5r, d3i, c8O, b8P, h⟩ := h
  obtain ⟨h0U, h0V, d3j, b8P⟩ := b8P
  refine a7 (d6z d3j _ _ _ _ g5r d3i) ?_
  refine d6 (ld1 (v := (C0 c8O)) Tryd.isAgg152 (I.atH b8P)) ?_
  refine a3v I fun c5h b8Q => ?_
  refine K0 (ld1 Tryd.isAgg102 (b8Q.at1 (o := 0) (vs := [(Value.pointer (some ⟨g2b, 0, none⟩))]) (nb rfl) rfl)) ?_
  refine f2 (cap := []) (fun args w => Tryd.call100 args w) ?_
  refine i8 (Fi := [bx g2b 106 [(vi a2d), (vi a2e), (vi a2f), (vB a2g), (vB a2h), (vs a8Y)], a8Z]) (Fr := [bx g2 102 [(Value.pointer (some ⟨g2b, 0, none⟩))], bx g3 161 [(Value.func (.func 99) #[] #[(Value.pointer (some ⟨g2, 0, none⟩)), (Value.pointer (some ⟨g3, 0, none⟩))])]]) ((b8Q.bring 3).bring 2) (h g2b a8Y a8Z b8O) (fun h0W c8P h0X Y9 c8R h0Y h0Z g5s => ?_) (fun _ _ _ _ _ q => q.elim)
  obtain ⟨a8z, N3, b1J, b2N, b2O, rfl, rfl, c8S, h⟩ := g5s
  refine r9 (a1N _) ?_
  simp only [O5]
  refine r9 (Pu.g fun hb => by have f4 := hb; simp only [p1 f4]; exact (K3 _ _ _ _ _ _)) ?_
  refine K0 (Ld.g fun hb => by have f4 := hb; exact (ld1 Tryd.isAgg161 ((c8R.bring 3).at1 (o := 0) (vs := [(Value.func (.func 99) #[] #[(Value.pointer (some ⟨g2, 0, none⟩)), (Value.pointer (some ⟨g3, 0, none⟩))])]) (nb rfl) rfl))) ?_
  refine V6 (D := fun f3L b2P => ∃ (b6I : Sl) (b0X : Hp), f3L = (gv (!a8z) false (vs b6I)) ∧ (Inv w0 ps0 H0 b0X [bx g2b 106 [(vi ((N3).fnodes)), (vi ((N3).fdepth)), (vi ((N3).fe)), (vB ((N3).fform)), (vB ((N3).fnamed)), (vs b2N)], b2O, bx g2 102 [(Value.pointer (some ⟨g2b, 0, none⟩))], bx g3 161 [(Value.func (.func 99) #[] #[(Value.pointer (some ⟨g2, 0, none⟩)), (Value.pointer (some ⟨g3, 0, none⟩))])]] b2P) ∧ (∀ i, i < Y9.heap.size → ¬ inF [] i → b2P.heap[i]? = Y9.heap[i]?) ∧ Hle c8P b0X ∧ (TG ((!a8z) = false) (fun k_ => a0d b6I (IntKind.wrap .i64 (x1 + 1)) (g9.mk ((N3).fnodes) ((N3).fdepth) ((N3).fe) ((N3).fform) ((N3).fnamed) (Sl.mk none 0 0)) b1J b0X fun a7f S6 a4J H_ => k_ (a7f, S6, a4J) H_) (false, (g9.mk ((N3).fnodes) ((N3).fdepth) ((N3).fe) ((N3).fform) ((N3).fnamed) (Sl.mk none 0 0)), b1J) b0X (fun (a1e : Bool × g9 × (List ByteArray)) (a4E : Hp) =>
 (((!a8z) || (!a1e.1)) = true →
 K false (g9.mk ((a1e.2.1).fnodes) ((a1e.2.1).fdepth) ((a1e.2.1).fe) ((a1e.2.1).fform) ((a1e.2.1).fnamed) (Sl.mk none 0 0)) a1e.2.2 a4E) ∧
 (((!a8z) || (!a1e.1)) = false →
 n2 ((IntKind.wrap .i64 (a4m + 1)), ((a1e.2.1).fnodes), ((a1e.2.1).fdepth), ((a1e.2.1).fe), ((a1e.2.1).fform), ((a1e.2.1).fnamed), a1e.2.2) a4E)))) (fun c8T => ?_) (fun c8T => ?_) ?_
  ·replace h := h.1 c8T
   have f4 := c8T
   simp only [p1 f4]
   refine b4z c8R h (fun b6I b0X b2P c5i f3M d3k h => ?_)
   exact ⟨b6I, b0X, by rfl, c5i, d3k, f3M, h⟩
  ·exact ⟨(Sl.mk none 0 0), c8P, by rw [a3g c8T], c8R, fun _ _ _ => rfl, Hle.refl _, h.2 c8T⟩
  ·clear h
   rintro f3L b2P ⟨b6I, b0X, rfl, c5i, d3k, f3M, h⟩
   refine ⟨(d3k _ (c8R.bring 3).lt1 (Inv.a3s (Fi := []) (c8R.bring 3))), ?_⟩
   refine V6 (D := fun d3l c8U => ∃ (a7f : Bool) (S6 : g9) (a4J : (List ByteArray)) (a4E : Hp) (a8N : Sl) (a8O : Frag) , d3l = (gv (!a8z) false (vB a7f)) ∧ (RowL 9 1 J9 a8N a4J a8O) ∧ (Inv w0 ps0 H0 a4E [bx g2 102 [(Value.pointer (some ⟨g2b, 0, none⟩))], bx g2b 106 [(vi ((S6).fnodes)), (vi ((S6).fdepth)), (vi ((S6).fe)), (vB ((S6).fform)), (vB ((S6).fnamed)), (vs a8N)], a8O, bx g3 161 [(Value.func (.func 99) #[] #[(Value.pointer (some ⟨g2, 0, none⟩)), (Value.pointer (some ⟨g3, 0, none⟩))])]] c8U) ∧ (∀ i, i < b2P.heap.size → ¬ inF [bx g2 102 [(Value.pointer (some ⟨g2b, 0, none⟩))], bx g2b 106 [(vi ((N3).fnodes)), (vi ((N3).fdepth)), (vi ((N3).fe)), (vB ((N3).fform)), (vB ((N3).fnamed)), (vs b2N)], b2O, bx g3 161 [(Value.func (.func 99) #[] #[(Value.pointer (some ⟨g2, 0, none⟩)), (Value.pointer (some ⟨g3, 0, none⟩))])]] i → c8U.heap[i]? = b2P.heap[i]?) ∧ Hle b0X a4E ∧ ((((!a8z) || (!a7f)) = true →
 K false (g9.mk ((S6).fnodes) ((S6).fdepth) ((S6).fe) ((S6).fform) ((S6).fnamed) (Sl.mk none 0 0)) a4J a4E) ∧
 (((!a8z) || (!a7f)) = false →
 n2 ((IntKind.wrap .i64 (a4m + 1)), ((S6).fnodes), ((S6).fdepth), ((S6).fe), ((S6).fform), ((S6).fnamed), a4J) a4E))) (fun c8V => ?_) (fun c8V => ?_) ?_
   ·replace h := h.1 c8V
    have f4 := c8V
    simp only [p1 f4]
    refine f2 (cap := [(Value.pointer (some ⟨g2, 0, none⟩)), (Value.pointer (some ⟨g3, 0, none⟩))]) (fun args w => Tryd.call99 args w) ?_
    refine i8 (Fi := [bx g2 102 [(Value.pointer (some ⟨g2b, 0, none⟩))], bx g2b 106 [(vi ((N3).fnodes)), (vi ((N3).fdepth)), (vi ((N3).fe)), (vB ((N3).fform)), (vB ((N3).fnamed)), (vs b2N)], b2O, bx g3 161 [(Value.func (.func 99) #[] #[(Value.pointer (some ⟨g2, 0, none⟩)), (Value.pointer (some ⟨g3, 0, none⟩))])]]) (Fr := []) ((((c5i.bring 3).bring 2).bring 2).bring 3) (h g2 g2b g3 b2N b2O c8S) (fun d3l a4E g5t c8U b6J c7Y d9X d9Y => ?_) (fun _ _ _ _ _ q => q.elim)
    obtain ⟨a7f, S6, a4J, a8N, a8O, rfl, rfl, b6K, h⟩ := d9Y
    exact ⟨a7f, S6, a4J, a4E, a8N, a8O, by rfl, b6K, b6J, d9X, c7Y, h⟩
   ·exact ⟨false, (g9.mk ((N3).fnodes) ((N3).fdepth) ((N3).fe) ((N3).fform) ((N3).fnamed) (Sl.mk none 0 0)), b1J, b0X, b2N, b2O, by rw [a3g c8V], c8S, ((((c5i.bring 3).bring 2).bring 2).bring 3), fun _ _ _ => rfl, Hle.refl _, h.2 c8V⟩
   ·clear h
    rintro d3l c8U ⟨a7f, S6, a4J, a4E, a8N, a8O, rfl, b6K, b6J, d9X, c7Y, h⟩
    refine r9 (Pu.g fun hb => by have f4 := hb; simp only [p1 f4]; exact (a1N _)) ?_
    refine r9 (a5Z _ _) ?_
    refine u2 (fun c1t => ?_) (fun c1t => ?_)
    ·replace h := h.1 c1t
     exact hR false (g9.mk ((S6).fnodes) ((S6).fdepth) ((S6).fe) ((S6).fform) ((S6).fnamed) (Sl.mk none 0 0)) a4J a8N a8O a4E _ b6K ((((b6J.bring 3).bring 3).bring 3).bring 3) h
    ·replace h := h.2 c1t
     refine a7 (K3 _ _ _ _ _ _) ?_
     exact hn2 _ _ _ (hm2 _ _ h).2 ⟨((IntKind.wrap .i64 (a4m + 1)), ((S6).fnodes), ((S6).fdepth), ((S6).fe), ((S6).fform), ((S6).fnamed), a4J), a4E, a8N, a8O, rfl, rfl, b6K, ((((b6J.bring 2).bring 3).bring 3).bring 3), (hm2 _ _ h).1⟩
 ·replace h := h.2 c1s
  exact hx1 _ _ (hj1 a2d a2e a2f a2g a2h a1s a8Y a8Z H _ b8O ((((I.bring 3).bring 3).bring 3).bring 3) h)
theorem b4M (x0 : Sl) (x1 : Int) (x2 : g9) (b2p : (List ByteArray)) {H : Hp} {K : Bool → g9 → (List ByteArray) → Hp → Prop} (h : a2y x0 x1 x2 b2p H K) : a0d x0 x1 x2 b2p H K := by
 intro g2 g2b g3 b3Y b3Z d3h w I
 refine f0g ?_
 refine b3y x0 x1 x2 b2p g2 g2b g3 b3Y b3Z d3h I (fun r0 y0 a8E a6h a6i H' w' c8W I' hk => ⟨H', _, I', r0, y0, a8E, a6h, a6i, rfl, rfl, c8W, hk⟩) h
def a4n (x0 : j6) (H : Hp) (K : Int → Hp → Prop) : Prop :=
 a3u x0 H (fun (D5 : g9) (H_6 : Hp) =>
 K D5.fe H_6)
theorem b6L (x0 : j6) {K : Int → Hp → Prop} (I : Inv w0 ps0 H0 H [] w) (hR : ∀ (r0 : Int) (H' : Hp) (w' : World) (_ : Inv w0 ps0 H0 H' [] w') (_ : K r0 H'), R (vi r0) w') (h : a4n x0 H K) : F53 (Value.agg (f5 x0).toArray) w R E := by
 unfold a4n at h
 unfold F53
 refine J3 I (cs := (f5 x0)) rfl fun g_2 w_3 I_4 k_5 => ?_
 refine d6 (ldA Tryd.isAgg44 Tryd.sizeOf44 rfl (I_4.at1 (o := 0) (vs := (f5 x0)) (nb rfl) rfl)) ?_
 refine f2 (cap := []) (fun args w => Tryd.call52 args w) ?_
 refine i8 (Fi := []) (Fr := [bx g_2 44 (f5 x0)]) I_4 (h) (fun b6u H_6 b6v w_7 I_8 b6w k_9 a6r => ?_) (fun _ _ _ _ _ q => q.elim)
 obtain ⟨D5, d7x, rfl, rfl, h⟩ := a6r
 refine a7 (I0 _) ?_
 refine a7 a0b ?_
 refine d6 (ld1 Tryd.isAgg29 (I_8.at1 (o := 2) (vs := [(vi D5.fe)]) (nb rfl) rfl)) ?_
 exact hR D5.fe H_6 _ I_8.drop.drop h
theorem b7J (x0 : j6) {H : Hp} {K : Int → Hp → Prop} (h : a4n x0 H K) : a1P x0 H K := by
 intro w I
 refine e8Y ?_
 refine b6L x0 I (fun r0 H' w' I' hk => ⟨H', _, I', r0, rfl, rfl, hk⟩) h
def O4 (H : Hp) (K : Bool → Hp → Prop) : Prop :=
 K true H
def J7 (f3N : Sl) (a7D : Sl) (e2T : Int) (a6u : Int) (H : Hp) (n2 : Int → Hp → Prop) (K : Bool → Hp → Prop) : Prop :=
 (a6u < e2T →
 (0 : Int) ≤ a6u ∧ (a6u : Int) < f3N.n ∧ ∃ x_3 : t1, EltH H f3N a6u 2 (p6 x_3) ∧
 (0 : Int) ≤ a6u ∧ (a6u : Int) < a7D.n ∧ ∃ c1u : t1, EltH H a7D a6u 2 (p6 c1u) ∧
 (¬ (x_3.b7 = c1u.b7 ∧ x_3.Z2 = c1u.Z2) →
 K false H) ∧
 (x_3.b7 = c1u.b7 ∧ x_3.Z2 = c1u.Z2 →
 n2 (IntKind.wrap .i64 (a6u + 1)) H)) ∧
 (¬ (a6u < e2T) →
 O4 H K)
def K9 (x0 : Sl) (x1 : Sl) (H : Hp) (K : Bool → Hp → Prop) : Prop :=
 (¬ ((x0.n : Int) = (x1.n : Int)) →
 K false H) ∧
 ((x0.n : Int) = (x1.n : Int) →
 TL (0 : Int) H fun (s : Int) H n2 => J7 x0 x1 (x0.n : Int) s H n2 K)
theorem a4v (x0 : Sl) (x1 : Sl) {K : Bool → Hp → Prop} (I : Inv w0 ps0 H0 H [] w) (hR : ∀ (r0 : Bool) (H' : Hp) (w' : World) (_ : Inv w0 ps0 H0 H' [] w') (_ : K r0 H'), R (vB r0) w') (h : K9 x0 x1 H K) : F57 (vs x0) (vs x1) w R E := by
 unfold K9 at h
 unfold F57
 refine a7 (b0C _ _ _) ?_
 refine a7 (b0C _ _ _) ?_
 refine a7 (T0 _ _ _ _ _ _) ?_
 refine a0s (fun d9Z => ?_) (fun d9Z => ?_)
 ·replace h := h.1 d9Z
  exact hR false H _ I h
 ·replace h := h.2 d9Z
  have hj1 : ∀ (H : Hp) (w : World) (_ : Inv w0 ps0 H0 H [] w) (_ : O4 H K), c7q w R E := by
   intro H w I h
   unfold c7q
   intro _
   unfold O4 at h
   exact hR true H _ I h
  refine A7 fun j1 hx1 => ?_
  refine a7 (b0C _ _ _) ?_
  obtain ⟨e0a, c8X, g5u, g5v⟩ := h
  refine M9 (J := fun n l w => ∃ (s : Int) (H : Hp) , n = c8X s ∧ l = [(vi s)] ∧ Inv w0 ps0 H0 H [] w ∧ e0a s H) ⟨_, 0, H, rfl, rfl, I, g5u⟩ ?_
  rintro h1a τ_24 w next2 ⟨a6u, H, rfl, d3m, I, b0V⟩ hn2
  simp only [List.map_cons, List.map_nil, List.cons.injEq, and_true] at d3m
  have e13 := d3m
  simp only [e13]
  obtain ⟨n2, hm2, h⟩ : ∃ n2 : Int → Hp → Prop, (∀ s' H', n2 s' H' → e0a s' H' ∧ c8X s' < c8X a6u) ∧ J7 x0 x1 (x0.n : Int) a6u H n2 K := ⟨_, fun _ _ h => h, g5v a6u H (fun s' H' => e0a s' H' ∧ c8X s' < c8X a6u) b0V (fun _ _ a b => ⟨a, b⟩)⟩
  unfold d6C
  unfold J7 at h
  refine a7 (F4 _ _ _ _ _ _) ?_
  refine j7 (fun a4e => ?_) (fun a4e => ?_)
  ·replace h := h.1 a4e
   refine a3v I fun w_1 I_2 => ?_
   obtain ⟨h_6, h_7, x_3, h_9, h⟩ := h
   obtain ⟨g_4, o_5, h_8, h_9⟩ := h_9
   refine r9 (b6c h_8 _ _ _ _ h_6 h_7) ?_
   obtain ⟨g5w, e0b, c1u, b0f, h⟩ := h
   obtain ⟨h1b, h1c, g5x, b0f⟩ := b0f
   refine r9 (b6c g5x _ _ _ _ g5w e0b) ?_
   refine K0 (ldA (vs := (p6 x_3)) Tryd.isAgg58 Tryd.sizeOf58 rfl (I_2.atH h_9)) ?_
   refine K0 (ldA (vs := (p6 c1u)) Tryd.isAgg58 Tryd.sizeOf58 rfl (I_2.atH b0f)) ?_
   refine r9 (d9q _ _ _ _ _ _) ?_
   refine a0s (fun a8L => ?_) (fun a8L => ?_)
   ·replace h := h.1 a8L
    exact hR false H _ I_2 h
   ·replace h := h.2 a8L
    refine a7 (K3 _ _ _ _ _ _) ?_
    exact hn2 _ _ _ (hm2 _ _ h).2 ⟨(IntKind.wrap .i64 (a6u + 1)), H, rfl, rfl, I_2, (hm2 _ _ h).1⟩
  ·replace h := h.2 a4e
   exact hx1 _ _ (hj1 H _ I h)
theorem a4F (x0 : Sl) (x1 : Sl) {H : Hp} {K : Bool → Hp → Prop} (h : K9 x0 x1 H K) : F1 x0 x1 H K := by
 intro w I
 refine e9g ?_
 refine a4v x0 x1 I (fun r0 H' w' I' hk => ⟨H', _, I', r0, rfl, rfl, hk⟩) h
def u6 (H : Hp) (K : Bool → Hp → Prop) : Prop :=
 K true H
def p9 (a7D : Sl) (b4a : Sl) (b4b : Int) (K1 : Int) (H : Hp) (n2 : Int → Hp → Prop) (K : Bool → Hp → Prop) : Prop :=
 (K1 < b4b →
 (0 : Int) ≤ K1 ∧ (K1 : Int) < b4a.n ∧ ∃ x_1 : b8, EltH H b4a K1 4 (d5 x_1) ∧
 (0 : Int) ≤ K1 ∧ (K1 : Int) < a7D.n ∧ ∃ a2P : b8, EltH H a7D K1 4 (d5 a2P) ∧
 a2t x_1 a2P H (fun (N7 : Bool) (a0e : Hp) =>
 ((!N7) = true →
 K false a0e) ∧
 ((!N7) = false →
 n2 (IntKind.wrap .i64 (K1 + 1)) a0e))) ∧
 (¬ (K1 < b4b) →
 u6 H K)
def r6 (x0 : Sl) (x1 : Sl) (H : Hp) (K : Bool → Hp → Prop) : Prop :=
 (¬ ((x0.n : Int) = (x1.n : Int)) →
 K false H) ∧
 ((x0.n : Int) = (x1.n : Int) →
 TL (0 : Int) H fun (s : Int) H n2 => p9 x1 x0 (x0.n : Int) s H n2 K)
theorem M2 (x0 : Sl) (x1 : Sl) {K : Bool → Hp → Prop} (I : Inv w0 ps0 H0 H [] w) (hR : ∀ (r0 : Bool) (H' : Hp) (w' : World) (_ : Inv w0 ps0 H0 H' [] w') (_ : K r0 H'), R (vB r0) w') (h : r6 x0 x1 H K) : F97 (vs x0) (vs x1) (fC 98) w R E := by
 unfold r6 at h
 unfold F97
 refine a7 (a2H _ _ _) ?_
 refine a7 (a2H _ _ _) ?_
 refine a7 (T0 _ _ _ _ _ _) ?_
 refine a0s (fun b2D => ?_) (fun b2D => ?_)
 ·replace h := h.1 b2D
  exact hR false H _ I h
 ·replace h := h.2 b2D
  have hj1 : ∀ (H : Hp) (w : World) (_ : Inv w0 ps0 H0 H [] w) (_ : u6 H K), c7M w R E := by
   intro H w I h
   unfold c7M
   intro _
   unfold u6 at h
   exact hR true H _ I h
  refine A7 fun j1 hx1 => ?_
  refine a7 (a2H _ _ _) ?_
  obtain ⟨b2E, a7E, c8F, c8G⟩ := h
  refine M9 (J := fun n l w => ∃ (s : Int) (H : Hp) , n = a7E s ∧ l = [(vi s)] ∧ Inv w0 ps0 H0 H [] w ∧ b2E s H) ⟨_, 0, H, rfl, rfl, I, c8F⟩ ?_
  rintro f3H τ_47 w next2 ⟨K1, H, rfl, b8L, I, c8H⟩ hn2
  simp only [List.map_cons, List.map_nil, List.cons.injEq, and_true] at b8L
  have e17 := b8L
  simp only [e17]
  obtain ⟨n2, hm2, h⟩ : ∃ n2 : Int → Hp → Prop, (∀ s' H', n2 s' H' → b2E s' H' ∧ a7E s' < a7E K1) ∧ p9 x1 x0 (x0.n : Int) K1 H n2 K := ⟨_, fun _ _ h => h, c8G K1 H (fun s' H' => b2E s' H' ∧ a7E s' < a7E K1) c8H (fun _ _ a b => ⟨a, b⟩)⟩
  unfold d6L
  unfold p9 at h
  refine a7 (F4 _ _ _ _ _ _) ?_
  refine j7 (fun b2F => ?_) (fun b2F => ?_)
  ·replace h := h.1 b2F
   obtain ⟨h_4, h_5, x_1, h_7, h⟩ := h
   obtain ⟨g_2, o_3, h_6, h_7⟩ := h_7
   refine a7 (a3W h_6 _ _ _ _ h_4 h_5) ?_
   refine d6 (ldA (vs := (d5 x_1)) Tryd.isAgg27 Tryd.sizeOf27 rfl (I.atH h_7)) ?_
   refine y8 I Tryd.zeroValue27 (cs := [(vi 0), (vi 0), (nS), (nS)]) rfl fun g_9 o7 V5 a7A => ?_
   refine m6 V5 Tryd.sizeOf27 (vs := (d5 x_1)) (cs' := (d5 x_1)) rfl rfl (nb rfl) rfl rfl fun V0 J6 a1w => ?_
   obtain ⟨a6t, b6C, a2P, a8H, h⟩ := h
   obtain ⟨f3I, f3J, b6D, a8H⟩ := a8H
   refine a7 (a3W b6D _ _ _ _ a6t b6C) ?_
   refine d6 (ldA (vs := (d5 a2P)) Tryd.isAgg27 Tryd.sizeOf27 rfl (J6.atH a8H)) ?_
   refine y8 J6 Tryd.zeroValue27 (cs := [(vi 0), (vi 0), (nS), (nS)]) rfl fun c8I b2k b6E d9S => ?_
   refine m6 b6E Tryd.sizeOf27 (vs := (d5 a2P)) (cs' := (d5 a2P)) rfl rfl (nb rfl) rfl rfl fun E5 a8j d3f => ?_
   refine d6 (ldA Tryd.isAgg27 Tryd.sizeOf27 rfl ((a8j.bring 1).at1 (o := 0) (vs := (d5 x_1)) (nb rfl) rfl)) ?_
   refine d6 (ldA Tryd.isAgg27 Tryd.sizeOf27 rfl (a8j.at1 (o := 0) (vs := (d5 a2P)) (nb rfl) rfl)) ?_
   refine f2 (cap := []) (fun args w => Tryd.call98 args w) ?_
   refine i8 (Fi := []) (Fr := [bx c8I 27 (d5 a2P), bx g_9 27 (d5 x_1)]) a8j (h) (fun c1o a0e d3g E2 a1u c5f b8M b6F => ?_) (fun _ _ _ _ _ q => q.elim)
   obtain ⟨N7, rfl, rfl, h⟩ := b6F
   refine a7 (a1N _) ?_
   refine u2 (fun a8I => ?_) (fun a8I => ?_)
   ·replace h := h.1 a8I
    exact hR false a0e _ a1u.drop.drop h
   ·replace h := h.2 a8I
    refine a7 (K3 _ _ _ _ _ _) ?_
    exact hn2 _ _ _ (hm2 _ _ h).2 ⟨(IntKind.wrap .i64 (K1 + 1)), a0e, rfl, rfl, a1u.drop.drop, (hm2 _ _ h).1⟩
  ·replace h := h.2 b2F
   exact hx1 _ _ (hj1 H _ I h)
theorem M7 (x0 : Sl) (x1 : Sl) {H : Hp} {K : Bool → Hp → Prop} (h : r6 x0 x1 H K) : j9 x0 x1 H K := by
 intro w I
 refine e9V ?_
 refine M2 x0 x1 I (fun r0 H' w' I' hk => ⟨H', _, I', r0, rfl, rfl, hk⟩) h
def u7 (H : Hp) (K : Bool → Hp → Prop) : Prop :=
 K true H
def q7 (a7D : Sl) (b4a : Sl) (b4b : Int) (K1 : Int) (H : Hp) (n2 : Int → Hp → Prop) (K : Bool → Hp → Prop) : Prop :=
 (K1 < b4b →
 (0 : Int) ≤ K1 ∧ (K1 : Int) < b4a.n ∧ ∃ x_1 : b9, EltH H b4a K1 6 (d8 x_1) ∧
 (0 : Int) ≤ K1 ∧ (K1 : Int) < a7D.n ∧ ∃ a2P : b9, EltH H a7D K1 6 (d8 a2P) ∧
 a2u x_1 a2P H (fun (N7 : Bool) (a0e : Hp) =>
 ((!N7) = true →
 K false a0e) ∧
 ((!N7) = false →
 n2 (IntKind.wrap .i64 (K1 + 1)) a0e))) ∧
 (¬ (K1 < b4b) →
 u7 H K)
def r7 (x0 : Sl) (x1 : Sl) (H : Hp) (K : Bool → Hp → Prop) : Prop :=
 (¬ ((x0.n : Int) = (x1.n : Int)) →
 K false H) ∧
 ((x0.n : Int) = (x1.n : Int) →
 TL (0 : Int) H fun (s : Int) H n2 => q7 x1 x0 (x0.n : Int) s H n2 K)
theorem M3 (x0 : Sl) (x1 : Sl) {K : Bool → Hp → Prop} (I : Inv w0 ps0 H0 H [] w) (hR : ∀ (r0 : Bool) (H' : Hp) (w' : World) (_ : Inv w0 ps0 H0 H' [] w') (_ : K r0 H'), R (vB r0) w') (h : r7 x0 x1 H K) : F58 (vs x0) (vs x1) (fC 59) w R E := by
 unfold r7 at h
 unfold F58
 refine a7 (a3O _ _ _) ?_
 refine a7 (a3O _ _ _) ?_
 refine a7 (T0 _ _ _ _ _ _) ?_
 refine a0s (fun b2D => ?_) (fun b2D => ?_)
 ·replace h := h.1 b2D
  exact hR false H _ I h
 ·replace h := h.2 b2D
  have hj1 : ∀ (H : Hp) (w : World) (_ : Inv w0 ps0 H0 H [] w) (_ : u7 H K), c7s w R E := by
   intro H w I h
   unfold c7s
   intro _
   unfold u7 at h
   exact hR true H _ I h
  refine A7 fun j1 hx1 => ?_
  refine a7 (a3O _ _ _) ?_
  obtain ⟨b2E, a7E, c8F, c8G⟩ := h
  refine M9 (J := fun n l w => ∃ (s : Int) (H : Hp) , n = a7E s ∧ l = [(vi s)] ∧ Inv w0 ps0 H0 H [] w ∧ b2E s H) ⟨_, 0, H, rfl, rfl, I, c8F⟩ ?_
  rintro f3H τ_47 w next2 ⟨K1, H, rfl, b8L, I, c8H⟩ hn2
  simp only [List.map_cons, List.map_nil, List.cons.injEq, and_true] at b8L
  have e17 := b8L
  simp only [e17]
  obtain ⟨n2, hm2, h⟩ : ∃ n2 : Int → Hp → Prop, (∀ s' H', n2 s' H' → b2E s' H' ∧ a7E s' < a7E K1) ∧ q7 x1 x0 (x0.n : Int) K1 H n2 K := ⟨_, fun _ _ h => h, c8G K1 H (fun s' H' => b2E s' H' ∧ a7E s' < a7E K1) c8H (fun _ _ a b => ⟨a, b⟩)⟩
  unfold d6F
  unfold q7 at h
  refine a7 (F4 _ _ _ _ _ _) ?_
  refine j7 (fun b2F => ?_) (fun b2F => ?_)
  ·replace h := h.1 b2F
   obtain ⟨h_4, h_5, x_1, h_7, h⟩ := h
   obtain ⟨g_2, o_3, h_6, h_7⟩ := h_7
   refine a7 (a9K h_6 _ _ _ _ h_4 h_5) ?_
   refine d6 (ldA (vs := (d8 x_1)) Tryd.isAgg63 Tryd.sizeOf63 rfl (I.atH h_7)) ?_
   refine y8 I Tryd.zeroValue63 (cs := [(vi 0), (eS), (nS), (nS), (nS), (nS)]) rfl fun g_9 o7 V5 a7A => ?_
   refine m6 V5 Tryd.sizeOf63 (vs := (d8 x_1)) (cs' := (d8 x_1)) rfl rfl (nb rfl) rfl rfl fun V0 J6 a1w => ?_
   obtain ⟨a6t, b6C, a2P, a8H, h⟩ := h
   obtain ⟨f3I, f3J, b6D, a8H⟩ := a8H
   refine a7 (a9K b6D _ _ _ _ a6t b6C) ?_
   refine d6 (ldA (vs := (d8 a2P)) Tryd.isAgg63 Tryd.sizeOf63 rfl (J6.atH a8H)) ?_
   refine y8 J6 Tryd.zeroValue63 (cs := [(vi 0), (eS), (nS), (nS), (nS), (nS)]) rfl fun c8I b2k b6E d9S => ?_
   refine m6 b6E Tryd.sizeOf63 (vs := (d8 a2P)) (cs' := (d8 a2P)) rfl rfl (nb rfl) rfl rfl fun E5 a8j d3f => ?_
   refine d6 (ldA Tryd.isAgg63 Tryd.sizeOf63 rfl ((a8j.bring 1).at1 (o := 0) (vs := (d8 x_1)) (nb rfl) rfl)) ?_
   refine d6 (ldA Tryd.isAgg63 Tryd.sizeOf63 rfl (a8j.at1 (o := 0) (vs := (d8 a2P)) (nb rfl) rfl)) ?_
   refine f2 (cap := []) (fun args w => Tryd.call59 args w) ?_
   refine i8 (Fi := []) (Fr := [bx c8I 63 (d8 a2P), bx g_9 63 (d8 x_1)]) a8j (h) (fun c1o a0e d3g E2 a1u c5f b8M b6F => ?_) (fun _ _ _ _ _ q => q.elim)
   obtain ⟨N7, rfl, rfl, h⟩ := b6F
   refine a7 (a1N _) ?_
   refine u2 (fun a8I => ?_) (fun a8I => ?_)
   ·replace h := h.1 a8I
    exact hR false a0e _ a1u.drop.drop h
   ·replace h := h.2 a8I
    refine a7 (K3 _ _ _ _ _ _) ?_
    exact hn2 _ _ _ (hm2 _ _ h).2 ⟨(IntKind.wrap .i64 (K1 + 1)), a0e, rfl, rfl, a1u.drop.drop, (hm2 _ _ h).1⟩
  ·replace h := h.2 b2F
   exact hx1 _ _ (hj1 H _ I h)
theorem M8 (x0 : Sl) (x1 : Sl) {H : Hp} {K : Bool → Hp → Prop} (h : r7 x0 x1 H K) : d9 x0 x1 H K := by
 intro w I
 refine e9i ?_
 refine M3 x0 x1 I (fun r0 H' w' I' hk => ⟨H', _, I', r0, rfl, rfl, hk⟩) h
def a4o (x0 : j6) (x1 : j6) (H : Hp) (K : Bool → Hp → Prop) : Prop :=
 a2U x0 H (fun (g5 : Bool) (F3 : Hp) =>
 TG (g5 = true) (a2U x1 F3) false F3 (fun (J2 : Bool) (S9 : Hp) =>
 TG ((g5 && J2) = true) (F1 x0.T9 x1.T9 S9) false S9 (fun (Q8 : Bool) (X8 : Hp) =>
 TG (((g5 && J2) && Q8) = true) (d9 x0.a1y x1.a1y X8) false X8 (fun (Q9 : Bool) (R5 : Hp) =>
 K (((g5 && J2) && Q8) && Q9) R5))))
theorem b6M (x0 : j6) (x1 : j6) {K : Bool → Hp → Prop} (I : Inv w0 ps0 H0 H [] w) (hR : ∀ (r0 : Bool) (H' : Hp) (w' : World) (_ : Inv w0 ps0 H0 H' [] w') (_ : K r0 H'), R (vB r0) w') (h : a4o x0 x1 H K) : F35 (Value.agg (f5 x0).toArray) (Value.agg (f5 x1).toArray) w R E := by
 unfold a4o at h
 unfold F35
 refine J3 I (cs := (f5 x0)) rfl fun g_2 w_3 I_4 k_5 => ?_
 refine J3 I_4 (cs := (f5 x1)) rfl fun g_7 w_8 I_9 a7x => ?_
 refine d6 (ldA Tryd.isAgg44 Tryd.sizeOf44 rfl ((I_9.bring 1).at1 (o := 0) (vs := (f5 x0)) (nb rfl) rfl)) ?_
 refine f2 (cap := []) (fun args w => Tryd.call56 args w) ?_
 refine i8 (Fi := []) (Fr := [bx g_7 44 (f5 x1), bx g_2 44 (f5 x0)]) I_9 (h) (fun a6Z F3 b2w o4 R8 a7B a7C a6s => ?_) (fun _ _ _ _ _ q => q.elim)
 obtain ⟨g5, rfl, rfl, h⟩ := a6s
 refine d6 (Ld.g fun hb => by have f4 := hb; exact (ldA Tryd.isAgg44 Tryd.sizeOf44 rfl (R8.at1 (o := 0) (vs := (f5 x1)) (nb rfl) rfl))) ?_
 refine V6 (D := fun b2x U1 => ∃ (J2 : Bool) (S9 : Hp) , b2x = (gv g5 true (vB J2)) ∧ (Inv w0 ps0 H0 S9 [bx g_7 44 (f5 x1), bx g_2 44 (f5 x0)] U1) ∧ (∀ i, i < o4.heap.size → ¬ inF [] i → U1.heap[i]? = o4.heap[i]?) ∧ Hle F3 S9 ∧ (TG ((g5 && J2) = true) (F1 x0.T9 x1.T9 S9) false S9 (fun (Q8 : Bool) (X8 : Hp) =>
 TG (((g5 && J2) && Q8) = true) (d9 x0.a1y x1.a1y X8) false X8 (fun (Q9 : Bool) (R5 : Hp) =>
 K (((g5 && J2) && Q8) && Q9) R5)))) (fun b2y => ?_) (fun b2y => ?_) ?_
 ·replace h := h.1 b2y
  have f4 := b2y
  simp only [p1 f4]
  refine f2 (cap := []) (fun args w => Tryd.call56 args w) ?_
  refine i8 (Fi := []) (Fr := [bx g_7 44 (f5 x1), bx g_2 44 (f5 x0)]) R8 (h) (fun b2x S9 f3E U1 a4C b0T b4A c8B => ?_) (fun _ _ _ _ _ q => q.elim)
  obtain ⟨J2, rfl, rfl, h⟩ := c8B
  exact ⟨J2, S9, by rfl, a4C, b4A, b0T, h⟩
 ·exact ⟨false, F3, by rw [a3g b2y], R8, fun _ _ _ => rfl, Hle.refl _, h.2 b2y⟩
 ·clear h
  rintro b2x U1 ⟨J2, S9, rfl, a4C, b4A, b0T, h⟩
  refine a7 (A6 _ _) ?_
  refine a7 (Pu.g fun hb => by have f4 := hb; exact a9c) ?_
  refine d6 (Ld.g fun hb => by have f4 := hb; simp only [p1 f4]; exact (ld1 Tryd.isAgg41 ((a4C.bring 1).at1 (o := 0) (vs := [(vs x0.T9)]) (nb rfl) rfl))) ?_
  refine a7 (Pu.g fun hb => by have f4 := hb; exact a9c) ?_
  refine d6 (Ld.g fun hb => by have f4 := hb; simp only [p1 f4]; exact (ld1 Tryd.isAgg41 (a4C.at1 (o := 0) (vs := [(vs x1.T9)]) (nb rfl) rfl))) ?_
  refine V6 (D := fun c1e E1 => ∃ (Q8 : Bool) (X8 : Hp) , c1e = (gv (g5 && J2) true (vB Q8)) ∧ (Inv w0 ps0 H0 X8 [bx g_7 44 (f5 x1), bx g_2 44 (f5 x0)] E1) ∧ (∀ i, i < U1.heap.size → ¬ inF [] i → E1.heap[i]? = U1.heap[i]?) ∧ Hle S9 X8 ∧ (TG (((g5 && J2) && Q8) = true) (d9 x0.a1y x1.a1y X8) false X8 (fun (Q9 : Bool) (R5 : Hp) =>
 K (((g5 && J2) && Q8) && Q9) R5))) (fun a0Z => ?_) (fun a0Z => ?_) ?_
  ·replace h := h.1 a0Z
   have f4 := a0Z
   simp only [p1 f4]
   refine f2 (cap := []) (fun args w => Tryd.call57 args w) ?_
   refine i8 (Fi := []) (Fr := [bx g_7 44 (f5 x1), bx g_2 44 (f5 x0)]) a4C (h) (fun c1e X8 g5j E1 a6q c1f b8G d9J => ?_) (fun _ _ _ _ _ q => q.elim)
   obtain ⟨Q8, rfl, rfl, h⟩ := d9J
   exact ⟨Q8, X8, by rfl, a6q, b8G, c1f, h⟩
  ·exact ⟨false, S9, by rw [a3g a0Z], a4C, fun _ _ _ => rfl, Hle.refl _, h.2 a0Z⟩
  ·clear h
   rintro c1e E1 ⟨Q8, X8, rfl, a6q, b8G, c1f, h⟩
   refine a7 (A6 _ _) ?_
   refine a7 (Pu.g fun hb => by have f4 := hb; exact a6c) ?_
   refine d6 (Ld.g fun hb => by have f4 := hb; simp only [p1 f4]; exact (ld1 Tryd.isAgg42 ((a6q.bring 1).at1 (o := 1) (vs := [(vs x0.a1y)]) (nb rfl) rfl))) ?_
   refine a7 (Pu.g fun hb => by have f4 := hb; exact a6c) ?_
   refine d6 (Ld.g fun hb => by have f4 := hb; simp only [p1 f4]; exact (ld1 Tryd.isAgg42 (a6q.at1 (o := 1) (vs := [(vs x1.a1y)]) (nb rfl) rfl))) ?_
   refine V6 (D := fun b6x a8i => ∃ (Q9 : Bool) (R5 : Hp) , b6x = (gv ((g5 && J2) && Q8) true (vB Q9)) ∧ (Inv w0 ps0 H0 R5 [bx g_7 44 (f5 x1), bx g_2 44 (f5 x0)] a8i) ∧ (∀ i, i < E1.heap.size → ¬ inF [] i → a8i.heap[i]? = E1.heap[i]?) ∧ Hle X8 R5 ∧ (K (((g5 && J2) && Q8) && Q9) R5)) (fun b2z => ?_) (fun b2z => ?_) ?_
   ·replace h := h.1 b2z
    have f4 := b2z
    simp only [p1 f4]
    refine f2 (cap := []) (fun args w => Tryd.call58 args w) ?_
    refine i8 (Fi := []) (Fr := [bx g_7 44 (f5 x1), bx g_2 44 (f5 x0)]) a6q (h) (fun b6x R5 d9K a8i a0Y c1g c1h c1i => ?_) (fun _ _ _ _ _ q => q.elim)
    obtain ⟨Q9, rfl, rfl, h⟩ := c1i
    exact ⟨Q9, R5, by rfl, a0Y, c1h, c1g, h⟩
   ·exact ⟨false, X8, by rw [a3g b2z], a6q, fun _ _ _ => rfl, Hle.refl _, h.2 b2z⟩
   ·clear h
    rintro b6x a8i ⟨Q9, R5, rfl, a0Y, c1h, c1g, h⟩
    refine a7 (A6 _ _) ?_
    exact hR (((g5 && J2) && Q8) && Q9) R5 _ a0Y.drop.drop h
theorem b7K (x0 : j6) (x1 : j6) {H : Hp} {K : Bool → Hp → Prop} (h : a4o x0 x1 H K) : a6X x0 x1 H K := by
 intro w I
 refine e8R ?_
 refine b6M x0 x1 I (fun r0 H' w' I' hk => ⟨H', _, I', r0, rfl, rfl, hk⟩) h
def a1f (x0 : J4) (H : Hp) (K : Sl → Hp → Prop) : Prop :=
 A4 x0.q9.m7 H (fun (D5 : Sl) (H_6 : Hp) =>
 K D5 H_6)
theorem b1q (x0 : J4) {K : Sl → Hp → Prop} (I : Inv w0 ps0 H0 H [] w) (hR : ∀ (r0 : Sl) (H' : Hp) (w' : World) (_ : Inv w0 ps0 H0 H' [] w') (_ : K r0 H'), R (vs r0) w') (h : a1f x0 H K) : d2J (Value.agg (b6 x0.q9).toArray) w R E := by
 unfold a1f at h
 unfold d2J
 refine J3 I (cs := (b6 x0.q9)) rfl fun g_2 w_3 I_4 k_5 => ?_
 refine a7 a0N ?_
 refine a7 J5 ?_
 refine d6 (ld1 Tryd.isAgg22 (I_4.at1 (o := 3) (vs := [(vs x0.q9.m7)]) (nb rfl) rfl)) ?_
 refine f2 (cap := []) (fun args w => Tryd.call171 args w) ?_
 refine i8 (Fi := []) (Fr := [bx g_2 123 (b6 x0.q9)]) I_4 (h) (fun b6u H_6 b6v w_7 I_8 b6w k_9 a6r => ?_) (fun _ _ _ _ _ q => q.elim)
 obtain ⟨D5, rfl, rfl, h⟩ := a6r
 exact hR D5 H_6 _ I_8.drop h
theorem b2Q (x0 : J4) {H : Hp} {K : Sl → Hp → Prop} (h : a1f x0 H K) : a7t x0 H K := by
 intro w I
 refine e5d ?_
 refine b1q x0 I (fun r0 H' w' I' hk => ⟨H', _, I', r0, rfl, rfl, hk⟩) h
def a1g (x0 : T3) (H : Hp) (K : Sl → Hp → Prop) : Prop :=
 K (Sl.mk none 0 0) H
theorem b1r (x0 : T3) {K : Sl → Hp → Prop} (I : Inv w0 ps0 H0 H [] w) (hR : ∀ (r0 : Sl) (H' : Hp) (w' : World) (_ : Inv w0 ps0 H0 H' [] w') (_ : K r0 H'), R (vs r0) w') (h : a1g x0 H K) : d2S (Value.agg (p6 x0.T4).toArray) w R E := by
 unfold a1g at h
 unfold d2S
 refine J3 I (cs := (p6 x0.T4)) rfl fun g_2 w_3 I_4 k_5 => ?_
 exact hR (Sl.mk none 0 0) H _ I_4.drop h
theorem b2R (x0 : T3) {H : Hp} {K : Sl → Hp → Prop} (h : a1g x0 H K) : a7v x0 H K := by
 intro w I
 refine e5u ?_
 refine b1r x0 I (fun r0 H' w' I' hk => ⟨H', _, I', r0, rfl, rfl, hk⟩) h
end Go.Proofs.YtnhkdkcgdcgmdaaDoor
