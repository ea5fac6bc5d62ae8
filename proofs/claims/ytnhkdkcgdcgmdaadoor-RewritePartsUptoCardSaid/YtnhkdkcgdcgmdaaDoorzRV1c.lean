/- Typed formulas of the program's functions, and the theorems that the contracts follow from them; printed by lift.py off the code. -/
import Derived.Test.YtnhkdkcgdcgmdaaDoorzRV1
namespace Go.Proofs.YtnhkdkcgdcgmdaaDoor
open Go.RowKit
set_option maxRecDepth 100000
set_option maxHeartbeats 2000000
def L8 (b0O : Int) (H : Hp) (K : Int → Hp → Prop) : Prop :=
 K b0O H
def L9 (jr_1l2 : ByteArray) (a8T : Int) (ir_1l2 : Nat) (H : Hp) (n2 : (Int × Nat) → Hp → Prop) (K : Int → Hp → Prop) : Prop :=
 (ir_1l2 < jr_1l2.size →
 n2 ((IntKind.wrap .i64 (a8T + 1)), (ir_1l2 + (Utf8.decode jr_1l2 ir_1l2).2)) H) ∧
 (¬ (ir_1l2 < jr_1l2.size) →
 L8 a8T H K)
def O4 (x0 : ByteArray) (H : Hp) (K : Int → Hp → Prop) : Prop :=
 TL ((0, 0) : Int × Nat) H fun (s : Int × Nat) H n2 => L9 x0 s.1 s.2 H n2 K
theorem a7J (x0 : ByteArray) {w0 w : World} {ps0 : Nat → Prop} {H0 H : Hp} {K : Int → Hp → Prop} {R : Value → World → Prop} {E : Pan} (I : Inv w0 ps0 H0 H [] w) (hR : ∀ (r0 : Int) (H' : Hp) (w' : World) (_ : Inv w0 ps0 H0 H' [] w') (_ : K r0 H'), R (vi r0) w') (h : O4 x0 H K) : d3R (Value.string x0) w R E := by
 unfold O4 at h
 unfold d3R
 have hj1 : ∀ (b0O : Int) (H : Hp) (w : World) (_ : Inv w0 ps0 H0 H [] w) (_ : L8 b0O H K), c4L (vi b0O) w R E := by
  intro b0O H w I h
  unfold c4L
  intro _
  unfold L8 at h
  exact hR b0O H _ I h
 refine s8 fun j1 hx1 => ?_
 refine d2o Tryd.underlying9 x0 I fun g_2 w_3 I_4 k_5 => ?_
 obtain ⟨e1P, c9l, h3C, h3D⟩ := h
 refine I0 (J := fun n l w => ∃ (s : Int × Nat) (H : Hp) , n = c9l s ∧ l = (match s with | (a8T, ir_1l2) => [(vi a8T)]) ∧ (match s with | (a8T, ir_1l2) => Inv w0 ps0 H0 H [itf g_2 x0 ir_1l2] w) ∧ e1P s H) ⟨_, (0, 0), H, rfl, rfl, I_4, h3C⟩ ?_
 rintro i0D τ_27 w next2 ⟨⟨a8T, ir_1l2⟩, H, rfl, c9m, I, h3E⟩ hn2
 dsimp only at c9m I
 simp only [List.map_cons, List.map_nil, List.cons.injEq, and_true] at c9m
 have e2 := c9m
 simp only [e2]
 obtain ⟨n2, hm2, h⟩ : ∃ n2 : (Int × Nat) → Hp → Prop, (∀ s' H', n2 s' H' → e1P s' H' ∧ c9l s' < c9l (a8T, ir_1l2)) ∧ L9 x0 a8T ir_1l2 H n2 K := ⟨_, fun _ _ h => h, h3D (a8T, ir_1l2) H (fun s' H' => e1P s' H' ∧ c9l s' < c9l (a8T, ir_1l2)) h3E (fun _ _ a b => ⟨a, b⟩)⟩
 unfold d2v
 unfold L9 at h
 refine d8M I (fun a5w p5 c1z d4w => ?_) (fun a5w => ?_)
 ·replace h := h.1 a5w
  refine a8 (i4 _ _ (Value.bool true) rfl) ?_
  refine j9 (fun e => ?_) (fun e => by cases e)
  refine a8 (s9 _ _ _ _ _ _) ?_
  exact hn2 _ _ _ (hm2 _ _ h).2 ⟨((IntKind.wrap .i64 (a8T + 1)), (ir_1l2 + (Utf8.decode x0 ir_1l2).2)), H, rfl, rfl, c1z, (hm2 _ _ h).1⟩
 ·replace h := h.2 a5w
  refine a8 (i4 _ _ (Value.bool false) rfl) ?_
  refine j9 (fun e => by cases e) (fun e => ?_)
  exact hx1 _ _ (hj1 a8T H _ I.drop h)
theorem a8e (x0 : ByteArray) {H : Hp} {K : Int → Hp → Prop} (h : O4 x0 H K) : Z6 x0 H K := by
 intro w I
 refine e8z ?_
 refine a7J x0 I (fun r0 H' w' I' hk => ⟨H', _, I', r0, rfl, rfl, hk⟩) h
def a4N (x0 : ByteArray) (H : Hp) (K : Bool → Hp → Prop) : Prop :=
 Z6 x0 H (fun (s7 : Int) (H_1 : Hp) =>
 K (decide (32 < s7)) H_1)
theorem b8H (x0 : ByteArray) {w0 w : World} {ps0 : Nat → Prop} {H0 H : Hp} {K : Bool → Hp → Prop} {R : Value → World → Prop} {E : Pan} (I : Inv w0 ps0 H0 H [] w) (hR : ∀ (r0 : Bool) (H' : Hp) (w' : World) (_ : Inv w0 ps0 H0 H' [] w') (_ : K r0 H'), R (Value.bool r0) w') (h : a4N x0 H K) : d3M (Value.string x0) w R E := by
 unfold a4N at h
 unfold d3M
 refine f5 (cap := []) (fun args w => Tryd.call150 args w) ?_
 refine i6 (Fi := []) (Fr := []) I (h) (fun v_5 H_1 F_6 w_2 I_3 l_8 k_4 q_7 => ?_) (fun _ _ _ _ _ q => q.elim)
 obtain ⟨s7, rfl, rfl, h⟩ := q_7
 refine a8 (D7 _ _ _ _ _ _) ?_
 exact hR (decide (32 < s7)) H_1 _ I_3 h
theorem c0G (x0 : ByteArray) {H : Hp} {K : Bool → Hp → Prop} (h : a4N x0 H K) : a4H x0 H K := by
 intro w I
 refine e8p ?_
 refine b8H x0 I (fun r0 H' w' I' hk => ⟨H', _, I', r0, rfl, rfl, hk⟩) h
def a0h (a9T : Int) (a9U : Int) (a9V : Int) (a9W : Bool) (a9X : Bool) (a8u : (List ByteArray)) (H : Hp) (K : Bool → i9 → (List ByteArray) → Hp → Prop) : Prop :=
 K true (i9.mk a9T a9U a9V a9W a9X (Sl.mk none 0 0)) a8u H
def a0i (c9n : Int) (a6H : Sl) (p6 : Int) (a3H : Int) (a1H : Int) (a1I : Int) (a1J : Int) (a1K : Bool) (a1L : Bool) (a0V : (List ByteArray)) (H : Hp) (n2 : (Int × Int × Int × Int × Bool × Bool × (List ByteArray)) → Hp → Prop) (K : Bool → i9 → (List ByteArray) → Hp → Prop) : Prop :=
 (a3H < p6 →
 (0 : Int) ≤ a3H ∧ (a3H : Int) < a6H.n ∧ ∃ c9o : f6, EltH H a6H a3H 1 [(A6 c9o)] ∧
 a2x (i9.mk a1H a1I a1J a1K a1L (Sl.mk none 0 0)) a0V c9o c9n H (fun (a7R : Bool) (E1 : i9) (b1K : (List ByteArray)) (b6K : Hp) =>
 TG ((!a7R) = false) (a4W c9o b6K) (Sl.mk none 0 0) b6K (fun (b6L : Sl) (b0Q : Hp) =>
 TG ((!a7R) = false) (fun k_ => X4 b6L (IntKind.wrap .i64 (c9n + 1)) (i9.mk ((E1).fnodes) ((E1).fdepth) ((E1).fe) ((E1).fform) ((E1).fnamed) (Sl.mk none 0 0)) b1K b0Q fun a6a N5 a4c H_ => k_ (a6a, N5, a4c) H_) (false, (i9.mk ((E1).fnodes) ((E1).fdepth) ((E1).fe) ((E1).fform) ((E1).fnamed) (Sl.mk none 0 0)), b1K) b0Q (fun (a0H : Bool × i9 × (List ByteArray)) (a3Y : Hp) =>
 (((!a7R) || (!a0H.1)) = true →
 K false (i9.mk ((a0H.2.1).fnodes) ((a0H.2.1).fdepth) ((a0H.2.1).fe) ((a0H.2.1).fform) ((a0H.2.1).fnamed) (Sl.mk none 0 0)) a0H.2.2 a3Y) ∧
 (((!a7R) || (!a0H.1)) = false →
 n2 ((IntKind.wrap .i64 (a3H + 1)), ((a0H.2.1).fnodes), ((a0H.2.1).fdepth), ((a0H.2.1).fe), ((a0H.2.1).fform), ((a0H.2.1).fnamed), a0H.2.2) a3Y))))) ∧
 (¬ (a3H < p6) →
 a0h a1H a1I a1J a1K a1L a0V H K)
def a1Y (x0 : Sl) (x1 : Int) (x2 : i9) (b2j : (List ByteArray)) (H : Hp) (K : Bool → i9 → (List ByteArray) → Hp → Prop) : Prop :=
 TL ((0, x2.fnodes, x2.fdepth, x2.fe, x2.fform, x2.fnamed, b2j) : Int × Int × Int × Int × Bool × Bool × (List ByteArray)) H fun (s : Int × Int × Int × Int × Bool × Bool × (List ByteArray)) H n2 => a0i x1 x0 (x0.n : Int) s.1 s.2.1 s.2.2.1 s.2.2.2.1 s.2.2.2.2.1 s.2.2.2.2.2.1 s.2.2.2.2.2.2 H n2 K
theorem b3I (x0 : Sl) (x1 : Int) (x2 : i9) (b2j : (List ByteArray)) (g2 g2b g3 : Nat) (b4d : Sl) (b4e : Frag) (d4x : RowL 9 1 D8 b4d b2j b4e) {w0 w : World} {ps0 : Nat → Prop} {H0 H : Hp} {K : Bool → i9 → (List ByteArray) → Hp → Prop} {R : Value → World → Prop} {E : Pan} (I : Inv w0 ps0 H0 H [bx g2 102 [(Value.pointer (some ⟨g2b, 0, none⟩))], bx g2b 106 [(vi x2.fnodes), (vi x2.fdepth), (vi x2.fe), (Value.bool x2.fform), (Value.bool x2.fnamed), (vs b4d)], b4e, bx g3 161 [(Value.func (.func 99) #[] #[(Value.pointer (some ⟨g2, 0, none⟩)), (Value.pointer (some ⟨g3, 0, none⟩))])]] w) (hR : ∀ (r0 : Bool) (y0 : i9) (a7W : (List ByteArray)) (a5j : Sl) (a5k : Frag) (H' : Hp) (w' : World) (_ : RowL 9 1 D8 a5j a7W a5k) (_ : Inv w0 ps0 H0 H' [bx g2 102 [(Value.pointer (some ⟨g2b, 0, none⟩))], bx g2b 106 [(vi y0.fnodes), (vi y0.fdepth), (vi y0.fe), (Value.bool y0.fform), (Value.bool y0.fnamed), (vs a5j)], a5k, bx g3 161 [(Value.func (.func 99) #[] #[(Value.pointer (some ⟨g2, 0, none⟩)), (Value.pointer (some ⟨g3, 0, none⟩))])]] w') (_ : K r0 y0 a7W H'), R (Value.bool r0) w') (h : a1Y x0 x1 x2 b2j H K) : F99 (vs x0) (vi x1) (Value.pointer (some ⟨g2, 0, none⟩)) (Value.pointer (some ⟨g3, 0, none⟩)) w R E := by
 unfold a1Y at h
 unfold F99
 have hj1 : ∀ (a9T : Int) (a9U : Int) (a9V : Int) (a9W : Bool) (a9X : Bool) (a8u : (List ByteArray)) (b4f : Sl) (b4g : Frag) (H : Hp) (w : World) (_ : RowL 9 1 D8 b4f a8u b4g) (_ : Inv w0 ps0 H0 H [bx g2 102 [(Value.pointer (some ⟨g2b, 0, none⟩))], bx g2b 106 [(vi a9T), (vi a9U), (vi a9V), (Value.bool a9W), (Value.bool a9X), (vs b4f)], bx g3 161 [(Value.func (.func 99) #[] #[(Value.pointer (some ⟨g2, 0, none⟩)), (Value.pointer (some ⟨g3, 0, none⟩))])], b4g] w) (_ : a0h a9T a9U a9V a9W a9X a8u H K), c8v w R E := by
  intro a9T a9U a9V a9W a9X a8u b4f b4g H w d9R I h
  unfold c8v
  intro _
  unfold a0h at h
  exact hR true (i9.mk a9T a9U a9V a9W a9X (Sl.mk none 0 0)) a8u b4f b4g H _ d9R ((((I.bring 2).bring 3).bring 3).bring 3) h
 refine s8 fun j1 hx1 => ?_
 refine a8 (b1d _ _ _) ?_
 obtain ⟨e1Q, c9p, h3F, h3G⟩ := h
 refine I0 (J := fun n l w => ∃ (s : Int × Int × Int × Int × Bool × Bool × (List ByteArray)) (H : Hp) (a8v : Sl) (a8w : Frag) , n = c9p s ∧ l = (match s with | (a3H, a1H, a1I, a1J, a1K, a1L, a0V) => [(vi a3H)]) ∧ (match s with | (a3H, a1H, a1I, a1J, a1K, a1L, a0V) => RowL 9 1 D8 a8v a0V a8w) ∧ (match s with | (a3H, a1H, a1I, a1J, a1K, a1L, a0V) => Inv w0 ps0 H0 H [bx g2 102 [(Value.pointer (some ⟨g2b, 0, none⟩))], bx g2b 106 [(vi a1H), (vi a1I), (vi a1J), (Value.bool a1K), (Value.bool a1L), (vs a8v)], bx g3 161 [(Value.func (.func 99) #[] #[(Value.pointer (some ⟨g2, 0, none⟩)), (Value.pointer (some ⟨g3, 0, none⟩))])], a8w] w) ∧ e1Q s H) ⟨_, (0, x2.fnodes, x2.fdepth, x2.fe, x2.fform, x2.fnamed, b2j), H, b4d, b4e, rfl, rfl, d4x, ((((I.bring 2).bring 3).bring 3).bring 3), h3F⟩ ?_
 rintro i0E τ_92 w next2 ⟨⟨a3H, a1H, a1I, a1J, a1K, a1L, a0V⟩, H, a8v, a8w, rfl, c8M, b8I, I, h3H⟩ hn2
 dsimp only at c8M I b8I
 simp only [List.map_cons, List.map_nil, List.cons.injEq, and_true] at c8M
 have e11 := c8M
 simp only [e11]
 obtain ⟨n2, hm2, h⟩ : ∃ n2 : (Int × Int × Int × Int × Bool × Bool × (List ByteArray)) → Hp → Prop, (∀ s' H', n2 s' H' → e1Q s' H' ∧ c9p s' < c9p (a3H, a1H, a1I, a1J, a1K, a1L, a0V)) ∧ a0i x1 x0 (x0.n : Int) a3H a1H a1I a1J a1K a1L a0V H n2 K := ⟨_, fun _ _ h => h, h3G (a3H, a1H, a1I, a1J, a1K, a1L, a0V) H (fun s' H' => e1Q s' H' ∧ c9p s' < c9p (a3H, a1H, a1I, a1J, a1K, a1L, a0V)) h3H (fun _ _ a b => ⟨a, b⟩)⟩
 unfold d9l
 unfold a0i at h
 refine a8 (o3 _ _ _ _ _ _) ?_
 refine g8 (fun c1C => ?_) (fun c1C => ?_)
 ·replace h := h.1 c1C
  obtain ⟨e1R, b8J, c9o, b4R, h⟩ := h
  obtain ⟨i0F, i0G, c5k, b4R⟩ := b4R
  refine a8 (d8O c5k _ _ _ _ e1R b8J) ?_
  refine d9 (ld1 (v := (A6 c9o)) Tryd.isAgg152 (I.atH b4R)) ?_
  refine a9F I fun c5l d4y => ?_
  refine G8 (ld1 Tryd.isAgg102 (d4y.at1 (o := 0) (vs := [(Value.pointer (some ⟨g2b, 0, none⟩))]) (nb rfl) rfl)) ?_
  refine f5 (cap := []) (fun args w => Tryd.call100 args w) ?_
  refine i6 (Fi := [bx g2b 106 [(vi a1H), (vi a1I), (vi a1J), (Value.bool a1K), (Value.bool a1L), (vs a8v)], a8w]) (Fr := [bx g2 102 [(Value.pointer (some ⟨g2b, 0, none⟩))], bx g3 161 [(Value.func (.func 99) #[] #[(Value.pointer (some ⟨g2, 0, none⟩)), (Value.pointer (some ⟨g3, 0, none⟩))])]]) ((d4y.bring 3).bring 2) (h g2b a8v a8w b8I) (fun h3I b6K h3J J5 b6M h3K h3L e1S => ?_) (fun _ _ _ _ _ q => q.elim)
  obtain ⟨a7R, E1, b1K, b2C, b2D, rfl, rfl, c9q, h⟩ := e1S
  refine t1 (C4 _) ?_
  try simp only [m4]
  try simp only [m4, F8, P1, M9, G2, P5, P2, P3, P4, P6]
  refine t1 (Pu.g fun hb => by have b6 := hb; first | exact (s9 _ _ _ _ _ _) | (simp only [b7 b6]; exact (s9 _ _ _ _ _ _)) | (simp only [d7 b6, b7 b6, b7 hb, l9 b6, f9]; exact (s9 _ _ _ _ _ _))) ?_
  refine G8 (Ld.g fun hb => by have b6 := hb; first | exact (ld1 Tryd.isAgg161 ((b6M.bring 3).at1 (o := 0) (vs := [(Value.func (.func 99) #[] #[(Value.pointer (some ⟨g2, 0, none⟩)), (Value.pointer (some ⟨g3, 0, none⟩))])]) (nb rfl) rfl)) | (simp only [d7 b6, b7 b6, b7 hb, J1 b6]; exact (ld1 Tryd.isAgg161 ((b6M.bring 3).at1 (o := 0) (vs := [(Value.func (.func 99) #[] #[(Value.pointer (some ⟨g2, 0, none⟩)), (Value.pointer (some ⟨g3, 0, none⟩))])]) (nb rfl) rfl))) | (simp only [d7 b6, b7 b6, b7 hb, l9 b6, f9]; exact (ld1 Tryd.isAgg161 ((b6M.bring 3).at1 (o := 0) (vs := [(Value.func (.func 99) #[] #[(Value.pointer (some ⟨g2, 0, none⟩)), (Value.pointer (some ⟨g3, 0, none⟩))])]) (nb rfl) rfl)))) ?_
  refine W1 (D := fun f9O b4S => ∃ (b6L : Sl) (b0Q : Hp), f9O = (gv (!a7R) false (vs b6L)) ∧ (Inv w0 ps0 H0 b0Q [bx g2b 106 [(vi ((E1).fnodes)), (vi ((E1).fdepth)), (vi ((E1).fe)), (Value.bool ((E1).fform)), (Value.bool ((E1).fnamed)), (vs b2C)], b2D, bx g2 102 [(Value.pointer (some ⟨g2b, 0, none⟩))], bx g3 161 [(Value.func (.func 99) #[] #[(Value.pointer (some ⟨g2, 0, none⟩)), (Value.pointer (some ⟨g3, 0, none⟩))])]] b4S) ∧ (∀ i, i < J5.heap.size → ¬ inF [] i → b4S.heap[i]? = J5.heap[i]?) ∧ Hle b6K b0Q ∧ (TG ((!a7R) = false) (fun k_ => X4 b6L (IntKind.wrap .i64 (x1 + 1)) (i9.mk ((E1).fnodes) ((E1).fdepth) ((E1).fe) ((E1).fform) ((E1).fnamed) (Sl.mk none 0 0)) b1K b0Q fun a6a N5 a4c H_ => k_ (a6a, N5, a4c) H_) (false, (i9.mk ((E1).fnodes) ((E1).fdepth) ((E1).fe) ((E1).fform) ((E1).fnamed) (Sl.mk none 0 0)), b1K) b0Q (fun (a0H : Bool × i9 × (List ByteArray)) (a3Y : Hp) =>
 (((!a7R) || (!a0H.1)) = true →
 K false (i9.mk ((a0H.2.1).fnodes) ((a0H.2.1).fdepth) ((a0H.2.1).fe) ((a0H.2.1).fform) ((a0H.2.1).fnamed) (Sl.mk none 0 0)) a0H.2.2 a3Y) ∧
 (((!a7R) || (!a0H.1)) = false →
 n2 ((IntKind.wrap .i64 (a3H + 1)), ((a0H.2.1).fnodes), ((a0H.2.1).fdepth), ((a0H.2.1).fe), ((a0H.2.1).fform), ((a0H.2.1).fnamed), a0H.2.2) a3Y)))) (fun c5m => ?_) (fun c5m => ?_) ?_
  ·replace h := h.1 c5m
   have b6 := c5m
   try simp only [b7 b6]
   refine b4I b6M h (fun b6L b0Q b4S d4z c5d e1T h => ?_)
   exact ⟨b6L, b0Q, by first | rfl | rw [b7 c5m], d4z, e1T, c5d, h⟩
  ·exact ⟨(Sl.mk none 0 0), b6K, by first | rfl | rw [a3k c5m], b6M, fun _ _ _ => rfl, Hle.refl _, h.2 c5m⟩
  ·clear h
   rintro f9O b4S ⟨b6L, b0Q, rfl, d4z, e1T, c5d, h⟩
   refine ⟨(e1T _ (b6M.bring 3).lt1 (Inv.a5J (Fi := []) (b6M.bring 3))), ?_⟩
   refine W1 (D := fun d4A c9r => ∃ (a6a : Bool) (N5 : i9) (a4c : (List ByteArray)) (a3Y : Hp) (a8f : Sl) (a8g : Frag) , d4A = (gv (!a7R) false (Value.bool a6a)) ∧ (RowL 9 1 D8 a8f a4c a8g) ∧ (Inv w0 ps0 H0 a3Y [bx g2 102 [(Value.pointer (some ⟨g2b, 0, none⟩))], bx g2b 106 [(vi ((N5).fnodes)), (vi ((N5).fdepth)), (vi ((N5).fe)), (Value.bool ((N5).fform)), (Value.bool ((N5).fnamed)), (vs a8f)], a8g, bx g3 161 [(Value.func (.func 99) #[] #[(Value.pointer (some ⟨g2, 0, none⟩)), (Value.pointer (some ⟨g3, 0, none⟩))])]] c9r) ∧ (∀ i, i < b4S.heap.size → ¬ inF [bx g2 102 [(Value.pointer (some ⟨g2b, 0, none⟩))], bx g2b 106 [(vi ((E1).fnodes)), (vi ((E1).fdepth)), (vi ((E1).fe)), (Value.bool ((E1).fform)), (Value.bool ((E1).fnamed)), (vs b2C)], b2D, bx g3 161 [(Value.func (.func 99) #[] #[(Value.pointer (some ⟨g2, 0, none⟩)), (Value.pointer (some ⟨g3, 0, none⟩))])]] i → c9r.heap[i]? = b4S.heap[i]?) ∧ Hle b0Q a3Y ∧ ((((!a7R) || (!a6a)) = true →
 K false (i9.mk ((N5).fnodes) ((N5).fdepth) ((N5).fe) ((N5).fform) ((N5).fnamed) (Sl.mk none 0 0)) a4c a3Y) ∧
 (((!a7R) || (!a6a)) = false →
 n2 ((IntKind.wrap .i64 (a3H + 1)), ((N5).fnodes), ((N5).fdepth), ((N5).fe), ((N5).fform), ((N5).fnamed), a4c) a3Y))) (fun c5n => ?_) (fun c5n => ?_) ?_
   ·replace h := h.1 c5n
    have b6 := c5n
    try simp only [b7 b6]
    refine f5 (cap := [(Value.pointer (some ⟨g2, 0, none⟩)), (Value.pointer (some ⟨g3, 0, none⟩))]) (fun args w => Tryd.call99 args w) ?_
    refine i6 (Fi := [bx g2 102 [(Value.pointer (some ⟨g2b, 0, none⟩))], bx g2b 106 [(vi ((E1).fnodes)), (vi ((E1).fdepth)), (vi ((E1).fe)), (Value.bool ((E1).fform)), (Value.bool ((E1).fnamed)), (vs b2C)], b2D, bx g3 161 [(Value.func (.func 99) #[] #[(Value.pointer (some ⟨g2, 0, none⟩)), (Value.pointer (some ⟨g3, 0, none⟩))])]]) (Fr := []) ((((d4z.bring 3).bring 2).bring 2).bring 3) (h g2 g2b g3 b2C b2D c9q) (fun d4A a3Y h3M c9r b6N b0M e1U e1V => ?_) (fun _ _ _ _ _ q => q.elim)
    obtain ⟨a6a, N5, a4c, a8f, a8g, rfl, rfl, b6O, h⟩ := e1V
    exact ⟨a6a, N5, a4c, a3Y, a8f, a8g, by first | rfl | rw [b7 c5n], b6O, b6N, e1U, b0M, h⟩
   ·exact ⟨false, (i9.mk ((E1).fnodes) ((E1).fdepth) ((E1).fe) ((E1).fform) ((E1).fnamed) (Sl.mk none 0 0)), b1K, b0Q, b2C, b2D, by first | rfl | rw [a3k c5n], c9q, ((((d4z.bring 3).bring 2).bring 2).bring 3), fun _ _ _ => rfl, Hle.refl _, h.2 c5n⟩
   ·clear h
    rintro d4A c9r ⟨a6a, N5, a4c, a3Y, a8f, a8g, rfl, b6O, b6N, e1U, b0M, h⟩
    refine t1 (Pu.g fun hb => by have b6 := hb; first | exact (C4 _) | (simp only [b7 b6]; exact (C4 _)) | (simp only [d7 b6, b7 b6, b7 hb, l9 b6, f9]; exact (C4 _))) ?_
    refine t1 (A5 _ _) ?_
    refine j9 (fun b2E => ?_) (fun b2E => ?_)
    ·replace h := h.1 b2E
     exact hR false (i9.mk ((N5).fnodes) ((N5).fdepth) ((N5).fe) ((N5).fform) ((N5).fnamed) (Sl.mk none 0 0)) a4c a8f a8g a3Y _ b6O ((((b6N.bring 3).bring 3).bring 3).bring 3) h
    ·replace h := h.2 b2E
     refine a8 (s9 _ _ _ _ _ _) ?_
     exact hn2 _ _ _ (hm2 _ _ h).2 ⟨((IntKind.wrap .i64 (a3H + 1)), ((N5).fnodes), ((N5).fdepth), ((N5).fe), ((N5).fform), ((N5).fnamed), a4c), a3Y, a8f, a8g, rfl, rfl, b6O, ((((b6N.bring 2).bring 3).bring 3).bring 3), (hm2 _ _ h).1⟩
 ·replace h := h.2 c1C
  exact hx1 _ _ (hj1 a1H a1I a1J a1K a1L a0V a8v a8w H _ b8I ((((I.bring 3).bring 3).bring 3).bring 3) h)
theorem b4T (x0 : Sl) (x1 : Int) (x2 : i9) (b2j : (List ByteArray)) {H : Hp} {K : Bool → i9 → (List ByteArray) → Hp → Prop} (h : a1Y x0 x1 x2 b2j H K) : X4 x0 x1 x2 b2j H K := by
 intro g2 g2b g3 b4d b4e d4x w I
 refine f6d ?_
 refine b3I x0 x1 x2 b2j g2 g2b g3 b4d b4e d4x I (fun r0 y0 a7W a5j a5k H' w' c9s I' hk => ⟨H', _, I', r0, y0, a7W, a5j, a5k, rfl, rfl, c9s, hk⟩) h
def T3 (x0 : g6) (x1 : Int) (H : Hp) (K : Bool → g6 → Hp → Prop) : Prop :=
 (¬ (x0.fbad = 0) →
 K false x0 H) ∧
 (x0.fbad = 0 →
 (x0.fn = 4096 →
 K false (g6.mk x0.fn x0.fdepth 33) H) ∧
 (¬ (x0.fn = 4096) →
 (64 < x1 →
 K false (g6.mk x0.fn x0.fdepth 32) H) ∧
 (¬ (64 < x1) →
 K true (g6.mk (IntKind.wrap .i64 (x0.fn + 1)) (if x1 > x0.fdepth then x1 else x0.fdepth) x0.fbad) H)))
theorem a8W (x0 : g6) (x1 : Int) (g0 : Nat) {w0 w : World} {ps0 : Nat → Prop} {H0 H : Hp} {K : Bool → g6 → Hp → Prop} {R : Value → World → Prop} {E : Pan} (I : Inv w0 ps0 H0 H [bx g0 130 (o6 x0)] w) (hR : ∀ (r0 : Bool) (y0 : g6) (H' : Hp) (w' : World) (_ : Inv w0 ps0 H0 H' [bx g0 130 (o6 y0)] w') (_ : K r0 y0 H'), R (Value.bool r0) w') (h : T3 x0 x1 H K) : d3I (Value.pointer (some ⟨g0, 0, none⟩)) (vi x1) w R E := by
 unfold T3 at h
 unfold d3I
 refine a8 (r8 _) ?_
 refine a8 J0 ?_
 refine d9 (ld1 Tryd.isAgg3 (I.at1 (o := 2) (vs := [(vi x0.fbad)]) (nb rfl) rfl)) ?_
 refine a8 (o4 _ _ _ _ _ _) ?_
 refine a3g (fun a5v => ?_) (fun a5v => ?_)
 ·replace h := h.1 a5v
  exact hR false x0 H _ I h
 ·replace h := h.2 a5v
  refine a8 (r8 _) ?_
  refine a8 b4A ?_
  refine d9 (ld1 Tryd.isAgg3 (I.at1 (o := 0) (vs := [(vi x0.fn)]) (nb rfl) rfl)) ?_
  refine a8 (f4 _ _ _ _ _ _) ?_
  refine g8 (fun b2z => ?_) (fun b2z => ?_)
  ·replace h := h.1 b2z
   refine a8 (r8 _) ?_
   refine a8 J0 ?_
   refine k3 I Tryd.sizeOf3 (vs := [(vi 33)]) (cs' := [(vi x0.fn), (vi x0.fdepth), (vi 33)]) rfl rfl (nb rfl) rfl rfl fun w_1 I_2 k_3 => ?_
   exact hR false (g6.mk x0.fn x0.fdepth 33) H _ I_2 h
  ·replace h := h.2 b2z
   refine a8 (D7 _ _ _ _ _ _) ?_
   refine g8 (fun c1D => ?_) (fun c1D => ?_)
   ·replace h := h.1 c1D
    refine a8 (r8 _) ?_
    refine a8 J0 ?_
    refine k3 I Tryd.sizeOf3 (vs := [(vi 32)]) (cs' := [(vi x0.fn), (vi x0.fdepth), (vi 32)]) rfl rfl (nb rfl) rfl rfl fun w_4 I_5 k_6 => ?_
    exact hR false (g6.mk x0.fn x0.fdepth 32) H _ I_5 h
   ·replace h := h.2 c1D
    refine a8 (r8 _) ?_
    refine a8 b4A ?_
    refine d9 (ld1 Tryd.isAgg3 (I.at1 (o := 0) (vs := [(vi x0.fn)]) (nb rfl) rfl)) ?_
    refine a8 (s9 _ _ _ _ _ _) ?_
    refine a8 (r8 _) ?_
    refine a8 b4A ?_
    refine k3 I Tryd.sizeOf3 (vs := [(vi (IntKind.wrap .i64 (x0.fn + 1)))]) (cs' := [(vi (IntKind.wrap .i64 (x0.fn + 1))), (vi x0.fdepth), (vi x0.fbad)]) rfl rfl (nb rfl) rfl rfl fun w_7 I_8 k_9 => ?_
    refine a8 (r8 _) ?_
    refine a8 c0U ?_
    refine d9 (ld1 Tryd.isAgg3 (I_8.at1 (o := 1) (vs := [(vi x0.fdepth)]) (nb rfl) rfl)) ?_
    refine a8 (d8L _ _ _ _ _) ?_
    refine a8 (r8 _) ?_
    refine a8 c0U ?_
    refine k3 I_8 Tryd.sizeOf3 (vs := [(vi (if x1 > x0.fdepth then x1 else x0.fdepth))]) (cs' := [(vi (IntKind.wrap .i64 (x0.fn + 1))), (vi (if x1 > x0.fdepth then x1 else x0.fdepth)), (vi x0.fbad)]) rfl rfl (nb rfl) rfl rfl fun l0 a3w b4Q => ?_
    exact hR true (g6.mk (IntKind.wrap .i64 (x0.fn + 1)) (if x1 > x0.fdepth then x1 else x0.fdepth) x0.fbad) H _ a3w h
theorem a9u (x0 : g6) (x1 : Int) {H : Hp} {K : Bool → g6 → Hp → Prop} (h : T3 x0 x1 H K) : S6 x0 x1 H K := by
 intro g0 w I
 refine e8f ?_
 refine a8W x0 x1 g0 I (fun r0 y0 H' w' I' hk => ⟨H', _, I', r0, y0, rfl, rfl, hk⟩) h
def O5 (h3N : Int) (cr_1l1 : a7) (a8h : Int) (a4l : g6) (H : Hp) (n1 : (Int × g6) → Hp → Prop) (K : g6 → Hp → Prop) : Prop :=
 (((decide (a8h < (cr_1l1.d8.n : Int))) && (decide (a4l.fbad = 0))) = true →
 (0 : Int) ≤ a8h ∧ (a8h : Int) < cr_1l1.d8.n ∧ ∃ d4B : a7, EltH H cr_1l1.d8 a8h 4 (b8 d4B) ∧
 M0 a4l d4B (IntKind.wrap .i64 (h3N + 1)) H (fun (d4C : g6) (e1W : Hp) =>
 n1 ((IntKind.wrap .i64 (a8h + 1)), d4C) e1W)) ∧
 (((decide (a8h < (cr_1l1.d8.n : Int))) && (decide (a4l.fbad = 0))) = false →
 K a4l H)
def T4 (x0 : g6) (x1 : a7) (x2 : Int) (H : Hp) (K : g6 → Hp → Prop) : Prop :=
 S6 x0 x2 H (fun (T2 : Bool) (a1X : g6) (H_6 : Hp) =>
 ((!T2) = true →
 K a1X H_6) ∧
 ((!T2) = false →
 TL ((0, a1X) : Int × g6) H_6 fun (s : Int × g6) H n1 => O5 x2 x1 s.1 s.2 H n1 K))
theorem a8X (x0 : g6) (x1 : a7) (x2 : Int) (g0 : Nat) {w0 w : World} {ps0 : Nat → Prop} {H0 H : Hp} {K : g6 → Hp → Prop} {R : Value → World → Prop} {E : Pan} (I : Inv w0 ps0 H0 H [bx g0 130 (o6 x0)] w) (hR : ∀ (y0 : g6) (H' : Hp) (w' : World) (_ : Inv w0 ps0 H0 H' [bx g0 130 (o6 y0)] w') (_ : K y0 H'), R (Value.tuple #[]) w') (h : T4 x0 x1 x2 H K) : F66 (Value.pointer (some ⟨g0, 0, none⟩)) (Value.agg (b8 x1).toArray) (vi x2) w R E := by
 unfold T4 at h
 unfold F66
 refine F7 I (cs := (b8 x1)) rfl fun g_2 w_3 I_4 k_5 => ?_
 refine f5 (cap := []) (fun args w => Tryd.call102 args w) ?_
 refine i6 (Fi := [bx g0 130 (o6 x0)]) (Fr := [bx g_2 24 (b8 x1)]) (I_4.bring 1) (h g0) (fun c1t H_6 b8E w_7 I_8 c1u k_9 a7Z => ?_) (fun _ _ _ _ _ q => q.elim)
 obtain ⟨T2, a1X, rfl, rfl, h⟩ := a7Z
 refine a8 (C4 _) ?_
 refine j9 (fun c1E => ?_) (fun c1E => ?_)
 ·replace h := h.1 c1E
  exact hR a1X H_6 _ (I_8.bring 1).drop h
 ·replace h := h.2 c1E
  obtain ⟨e1X, c9t, h3O, h3P⟩ := h
  refine I0 (J := fun n l w => ∃ (s : Int × g6) (H : Hp) , n = c9t s ∧ l = (match s with | (a8h, a4l) => [(vi a8h)]) ∧ (match s with | (a8h, a4l) => Inv w0 ps0 H0 H [bx g0 130 (o6 a4l), bx g_2 24 (b8 x1)] w) ∧ e1X s H) ⟨_, (0, a1X), H_6, rfl, rfl, ((I_8.bring 1).bring 1), h3O⟩ ?_
  rintro i0H τ_62 w next1 ⟨⟨a8h, a4l⟩, H, rfl, c9u, I, h3Q⟩ hn1
  dsimp only at c9u I
  simp only [List.map_cons, List.map_nil, List.cons.injEq, and_true] at c9u
  have e6 := c9u
  simp only [e6]
  obtain ⟨n1, hm1, h⟩ : ∃ n1 : (Int × g6) → Hp → Prop, (∀ s' H', n1 s' H' → e1X s' H' ∧ c9t s' < c9t (a8h, a4l)) ∧ O5 x2 x1 a8h a4l H n1 K := ⟨_, fun _ _ h => h, h3P (a8h, a4l) H (fun s' H' => e1X s' H' ∧ c9t s' < c9t (a8h, a4l)) h3Q (fun _ _ a b => ⟨a, b⟩)⟩
  unfold d9f
  unfold O5 at h
  refine a8 i8 ?_
  refine d9 (ld1 Tryd.isAgg22 ((I.bring 1).at1 (o := 3) (vs := [(vs x1.d8)]) (nb rfl) rfl)) ?_
  refine a8 (q6 _ _ _) ?_
  refine a8 (o3 _ _ _ _ _ _) ?_
  try simp only [m4]
  refine a8 (Pu.g fun hb => by have b6 := hb; first | exact (r8 _) | (simp only [b7 b6]; exact (r8 _)) | (simp only [d7 b6, b7 b6, b7 hb, f8 b6, f9]; exact (r8 _))) ?_
  refine a8 (Pu.g fun hb => by have b6 := hb; first | exact J0 | (simp only [b7 b6]; exact J0) | (simp only [d7 b6, b7 b6, b7 hb, f8 b6, f9]; exact J0)) ?_
  refine d9 (Ld.g fun hb => by have b6 := hb; first | exact (ld1 Tryd.isAgg3 (I.at1 (o := 2) (vs := [(vi a4l.fbad)]) (nb rfl) rfl)) | (simp only [b7 b6]; exact (ld1 Tryd.isAgg3 (I.at1 (o := 2) (vs := [(vi a4l.fbad)]) (nb rfl) rfl))) | (simp only [d7 b6, b7 b6, b7 hb, f8 b6, f9]; exact (ld1 Tryd.isAgg3 (I.at1 (o := 2) (vs := [(vi a4l.fbad)]) (nb rfl) rfl)))) ?_
  refine a8 (Pu.g fun hb => by have b6 := hb; first | exact (f4 _ _ _ _ _ _) | (simp only [b7 b6]; exact (f4 _ _ _ _ _ _)) | (simp only [d7 b6, b7 b6, b7 hb, f8 b6, f9]; exact (f4 _ _ _ _ _ _))) ?_
  refine a8 (k9 _ _) ?_
  refine j9 (fun c1F => ?_) (fun c1F => ?_)
  ·replace h := h.1 c1F
   refine a8 i8 ?_
   refine d9 (ld1 Tryd.isAgg22 ((I.bring 1).at1 (o := 3) (vs := [(vs x1.d8)]) (nb rfl) rfl)) ?_
   obtain ⟨a6I, e1Y, d4B, c9v, h⟩ := h
   obtain ⟨i0I, i0J, c9w, c9v⟩ := c9v
   refine a8 (m7 c9w _ _ _ _ a6I e1Y) ?_
   refine d9 (ldA (vs := (b8 d4B)) Tryd.isAgg24 Tryd.sizeOf24 rfl (I.atH c9v)) ?_
   refine a8 (s9 _ _ _ _ _ _) ?_
   refine f5 (cap := []) (fun args w => Tryd.call66 args w) ?_
   refine i6 (Fi := [bx g0 130 (o6 a4l)]) (Fr := [bx g_2 24 (b8 x1)]) I (h g0) (fun i0K e1W i0L K5 c9x i0M f9P h3R => ?_) (fun _ _ _ _ _ q => q.elim)
   obtain ⟨d4C, rfl, rfl, h⟩ := h3R
   refine a8 (s9 _ _ _ _ _ _) ?_
   exact hn1 _ _ _ (hm1 _ _ h).2 ⟨((IntKind.wrap .i64 (a8h + 1)), d4C), e1W, rfl, rfl, ((c9x.bring 1).bring 1), (hm1 _ _ h).1⟩
  ·replace h := h.2 c1F
   exact hR a4l H _ (I.bring 1).drop h
theorem a9v (x0 : g6) (x1 : a7) (x2 : Int) {H : Hp} {K : g6 → Hp → Prop} (h : T4 x0 x1 x2 H K) : M0 x0 x1 x2 H K := by
 intro g0 w I
 refine f5i ?_
 refine a8X x0 x1 x2 g0 I (fun y0 H' w' I' hk => ⟨H', _, I', y0, rfl, rfl, hk⟩) h
def Q1 (cr_6j2 : d5) (cr_1j2 : d5) (H : Hp) (K : Bool → Hp → Prop) : Prop :=
 K true H
def Q2 (cr_6l3 : d5) (cr_1l3 : d5) (Z8 : Int) (H : Hp) (n3 : Int → Hp → Prop) (K : Bool → Hp → Prop) : Prop :=
 (Z8 < (cr_1l3.i7.n : Int) →
 (0 : Int) ≤ Z8 ∧ (Z8 : Int) < cr_1l3.i7.n ∧ ∃ d4D : d5, EltH H cr_1l3.i7 Z8 4 (d6 d4D) ∧
 (0 : Int) ≤ Z8 ∧ (Z8 : Int) < cr_6l3.i7.n ∧ ∃ d4E : d5, EltH H cr_6l3.i7 Z8 4 (d6 d4E) ∧
 C5 d4D d4E H (fun (b0r : Bool) (b6P : Hp) =>
 ((!b0r) = true →
 K false b6P) ∧
 ((!b0r) = false →
 n3 (IntKind.wrap .i64 (Z8 + 1)) b6P))) ∧
 (¬ (Z8 < (cr_1l3.i7.n : Int)) →
 Q1 cr_6l3 cr_1l3 H K)
def Q3 (cr_6j1 : d5) (cr_1j1 : d5) (H : Hp) (K : Bool → Hp → Prop) : Prop :=
 TL (0 : Int) H fun (s : Int) H n3 => Q2 cr_6j1 cr_1j1 s H n3 K
def Q4 (cr_6l4 : d5) (cr_1l4 : d5) (a8i : Int) (H : Hp) (n4 : Int → Hp → Prop) (K : Bool → Hp → Prop) : Prop :=
 (a8i < (cr_1l4.g5.n : Int) →
 (0 : Int) ≤ a8i ∧ (a8i : Int) < cr_1l4.g5.n ∧ ∃ X7 : a7, EltH H cr_1l4.g5 a8i 4 (b8 X7) ∧
 (0 : Int) ≤ a8i ∧ (a8i : Int) < cr_6l4.g5.n ∧ ∃ a4Y : a7, EltH H cr_6l4.g5 a8i 4 (b8 a4Y) ∧
 E4 X7 a4Y H (fun (b6Q : Bool) (b2F : Hp) =>
 ((!b6Q) = true →
 K false b2F) ∧
 ((!b6Q) = false →
 n4 (IntKind.wrap .i64 (a8i + 1)) b2F))) ∧
 (¬ (a8i < (cr_1l4.g5.n : Int)) →
 Q3 cr_6l4 cr_1l4 H K)
def U9 (x0 : d5) (x1 : d5) (H : Hp) (K : Bool → Hp → Prop) : Prop :=
 (((((!decide (x0.b9 = x1.b9)) || (!decide (x0.fOp = x1.fOp))) || (!decide ((x0.g5.n : Int) = (x1.g5.n : Int)))) || (!decide ((x0.i7.n : Int) = (x1.i7.n : Int)))) = true →
 K false H) ∧
 (((((!decide (x0.b9 = x1.b9)) || (!decide (x0.fOp = x1.fOp))) || (!decide ((x0.g5.n : Int) = (x1.g5.n : Int)))) || (!decide ((x0.i7.n : Int) = (x1.i7.n : Int)))) = false →
 TL (0 : Int) H fun (s : Int) H n4 => Q4 x1 x0 s H n4 K)
theorem a9w (x0 : d5) (x1 : d5) {w0 w : World} {ps0 : Nat → Prop} {H0 H : Hp} {K : Bool → Hp → Prop} {R : Value → World → Prop} {E : Pan} (I : Inv w0 ps0 H0 H [] w) (hR : ∀ (r0 : Bool) (H' : Hp) (w' : World) (_ : Inv w0 ps0 H0 H' [] w') (_ : K r0 H'), R (Value.bool r0) w') (h : U9 x0 x1 H K) : F16 (Value.agg (d6 x0).toArray) (Value.agg (d6 x1).toArray) w R E := by
 unfold U9 at h
 unfold F16
 refine F7 I (cs := (d6 x0)) rfl fun g_2 w_3 I_4 k_5 => ?_
 refine F7 I_4 (cs := (d6 x1)) rfl fun g_7 w_8 I_9 a6F => ?_
 refine a8 B3 ?_
 refine d9 (ld1 Tryd.isAgg3 ((I_9.bring 1).at1 (o := 0) (vs := [(vi x0.b9)]) (nb rfl) rfl)) ?_
 refine a8 B3 ?_
 refine d9 (ld1 Tryd.isAgg3 (I_9.at1 (o := 0) (vs := [(vi x1.b9)]) (nb rfl) rfl)) ?_
 refine a8 (o4 _ _ _ _ _ _) ?_
 refine a8 (Pu.g fun hb => by have b6 := hb; first | exact G9 | (simp only [d7 b6, b7 b6, b7 hb, J1 b6]; exact G9) | (simp only [d7 b6, b7 b6, b7 hb, l9 b6, f9]; exact G9)) ?_
 refine d9 (Ld.g fun hb => by have b6 := hb; first | exact (ld1 Tryd.isAgg3 ((I_9.bring 1).at1 (o := 1) (vs := [(vi x0.fOp)]) (nb rfl) rfl)) | (simp only [b7 b6]; exact (ld1 Tryd.isAgg3 ((I_9.bring 1).at1 (o := 1) (vs := [(vi x0.fOp)]) (nb rfl) rfl))) | (simp only [d7 b6, b7 b6, b7 hb, l9 b6, f9]; exact (ld1 Tryd.isAgg3 ((I_9.bring 1).at1 (o := 1) (vs := [(vi x0.fOp)]) (nb rfl) rfl)))) ?_
 refine a8 (Pu.g fun hb => by have b6 := hb; first | exact G9 | (simp only [d7 b6, b7 b6, b7 hb, J1 b6]; exact G9) | (simp only [d7 b6, b7 b6, b7 hb, l9 b6, f9]; exact G9)) ?_
 refine d9 (Ld.g fun hb => by have b6 := hb; first | exact (ld1 Tryd.isAgg3 (I_9.at1 (o := 1) (vs := [(vi x1.fOp)]) (nb rfl) rfl)) | (simp only [b7 b6]; exact (ld1 Tryd.isAgg3 (I_9.at1 (o := 1) (vs := [(vi x1.fOp)]) (nb rfl) rfl))) | (simp only [d7 b6, b7 b6, b7 hb, l9 b6, f9]; exact (ld1 Tryd.isAgg3 (I_9.at1 (o := 1) (vs := [(vi x1.fOp)]) (nb rfl) rfl)))) ?_
 refine a8 (Pu.g fun hb => by have b6 := hb; first | exact (o4 _ _ _ _ _ _) | (simp only [b7 b6]; exact (o4 _ _ _ _ _ _)) | (simp only [d7 b6, b7 b6, b7 hb, l9 b6, f9]; exact (o4 _ _ _ _ _ _))) ?_
 refine a8 (A5 _ _) ?_
 refine a8 (Pu.g fun hb => by have b6 := hb; first | exact u1 | (simp only [d7 b6, b7 b6, b7 hb, J1 b6]; exact u1) | (simp only [d7 b6, b7 b6, b7 hb, l9 b6, f9]; exact u1)) ?_
 refine d9 (Ld.g fun hb => by have b6 := hb; first | exact (ld1 Tryd.isAgg22 ((I_9.bring 1).at1 (o := 2) (vs := [(vs x0.g5)]) (nb rfl) rfl)) | (simp only [b7 b6]; exact (ld1 Tryd.isAgg22 ((I_9.bring 1).at1 (o := 2) (vs := [(vs x0.g5)]) (nb rfl) rfl))) | (simp only [d7 b6, b7 b6, b7 hb, l9 b6, f9]; exact (ld1 Tryd.isAgg22 ((I_9.bring 1).at1 (o := 2) (vs := [(vs x0.g5)]) (nb rfl) rfl)))) ?_
 refine a8 (Pu.g fun hb => by have b6 := hb; first | exact (q6 _ _ _) | (simp only [b7 b6]; exact (q6 _ _ _)) | (simp only [d7 b6, b7 b6, b7 hb, l9 b6, f9]; exact (q6 _ _ _))) ?_
 refine a8 (Pu.g fun hb => by have b6 := hb; first | exact u1 | (simp only [d7 b6, b7 b6, b7 hb, J1 b6]; exact u1) | (simp only [d7 b6, b7 b6, b7 hb, l9 b6, f9]; exact u1)) ?_
 refine d9 (Ld.g fun hb => by have b6 := hb; first | exact (ld1 Tryd.isAgg22 (I_9.at1 (o := 2) (vs := [(vs x1.g5)]) (nb rfl) rfl)) | (simp only [b7 b6]; exact (ld1 Tryd.isAgg22 (I_9.at1 (o := 2) (vs := [(vs x1.g5)]) (nb rfl) rfl))) | (simp only [d7 b6, b7 b6, b7 hb, l9 b6, f9]; exact (ld1 Tryd.isAgg22 (I_9.at1 (o := 2) (vs := [(vs x1.g5)]) (nb rfl) rfl)))) ?_
 refine a8 (Pu.g fun hb => by have b6 := hb; first | exact (q6 _ _ _) | (simp only [b7 b6]; exact (q6 _ _ _)) | (simp only [d7 b6, b7 b6, b7 hb, l9 b6, f9]; exact (q6 _ _ _))) ?_
 refine a8 (Pu.g fun hb => by have b6 := hb; first | exact (o4 _ _ _ _ _ _) | (simp only [b7 b6]; exact (o4 _ _ _ _ _ _)) | (simp only [d7 b6, b7 b6, b7 hb, l9 b6, f9]; exact (o4 _ _ _ _ _ _))) ?_
 refine a8 (A5 _ _) ?_
 refine a8 (Pu.g fun hb => by have b6 := hb; first | exact s5 | (simp only [d7 b6, b7 b6, b7 hb, J1 b6]; exact s5) | (simp only [d7 b6, b7 b6, b7 hb, l9 b6, f9]; exact s5)) ?_
 refine d9 (Ld.g fun hb => by have b6 := hb; first | exact (ld1 Tryd.isAgg25 ((I_9.bring 1).at1 (o := 3) (vs := [(vs x0.i7)]) (nb rfl) rfl)) | (simp only [b7 b6]; exact (ld1 Tryd.isAgg25 ((I_9.bring 1).at1 (o := 3) (vs := [(vs x0.i7)]) (nb rfl) rfl))) | (simp only [d7 b6, b7 b6, b7 hb, l9 b6, f9]; exact (ld1 Tryd.isAgg25 ((I_9.bring 1).at1 (o := 3) (vs := [(vs x0.i7)]) (nb rfl) rfl)))) ?_
 refine a8 (Pu.g fun hb => by have b6 := hb; first | exact (H8 _ _ _) | (simp only [b7 b6]; exact (H8 _ _ _)) | (simp only [d7 b6, b7 b6, b7 hb, l9 b6, f9]; exact (H8 _ _ _))) ?_
 refine a8 (Pu.g fun hb => by have b6 := hb; first | exact s5 | (simp only [d7 b6, b7 b6, b7 hb, J1 b6]; exact s5) | (simp only [d7 b6, b7 b6, b7 hb, l9 b6, f9]; exact s5)) ?_
 refine d9 (Ld.g fun hb => by have b6 := hb; first | exact (ld1 Tryd.isAgg25 (I_9.at1 (o := 3) (vs := [(vs x1.i7)]) (nb rfl) rfl)) | (simp only [b7 b6]; exact (ld1 Tryd.isAgg25 (I_9.at1 (o := 3) (vs := [(vs x1.i7)]) (nb rfl) rfl))) | (simp only [d7 b6, b7 b6, b7 hb, l9 b6, f9]; exact (ld1 Tryd.isAgg25 (I_9.at1 (o := 3) (vs := [(vs x1.i7)]) (nb rfl) rfl)))) ?_
 refine a8 (Pu.g fun hb => by have b6 := hb; first | exact (H8 _ _ _) | (simp only [b7 b6]; exact (H8 _ _ _)) | (simp only [d7 b6, b7 b6, b7 hb, l9 b6, f9]; exact (H8 _ _ _))) ?_
 refine a8 (Pu.g fun hb => by have b6 := hb; first | exact (o4 _ _ _ _ _ _) | (simp only [b7 b6]; exact (o4 _ _ _ _ _ _)) | (simp only [d7 b6, b7 b6, b7 hb, l9 b6, f9]; exact (o4 _ _ _ _ _ _))) ?_
 refine a8 (A5 _ _) ?_
 refine j9 (fun b2E => ?_) (fun b2E => ?_)
 ·replace h := h.1 b2E
  exact hR false H _ I_9.drop.drop h
 ·replace h := h.2 b2E
  have hj1 : ∀ (H : Hp) (w : World) (_ : Inv w0 ps0 H0 H [bx g_7 27 (d6 x1), bx g_2 27 (d6 x0)] w) (_ : Q3 x1 x0 H K), c7V (Value.pointer (some ⟨g_2, 0, none⟩)) (Value.pointer (some ⟨g_7, 0, none⟩)) w R E := by
   intro H w I h
   unfold c7V
   intro _
   unfold Q3 at h
   have hj2 : ∀ (H : Hp) (w : World) (_ : Inv w0 ps0 H0 H [bx g_7 27 (d6 x1), bx g_2 27 (d6 x0)] w) (_ : Q1 x1 x0 H K), c7T w R E := by
    intro H w I h
    unfold c7T
    intro _
    unfold Q1 at h
    exact hR true H _ I.drop.drop h
   refine s8 fun j2 hx2 => ?_
   obtain ⟨e1Z, c9y, h3S, h3T⟩ := h
   refine I0 (J := fun n l w => ∃ (s : Int) (H : Hp) , n = c9y s ∧ l = [(vi s)] ∧ Inv w0 ps0 H0 H [bx g_7 27 (d6 x1), bx g_2 27 (d6 x0)] w ∧ e1Z s H) ⟨_, 0, H, rfl, rfl, ((I.bring 1).bring 1), h3S⟩ ?_
   rintro i0N τ_69 w next3 ⟨Z8, H, rfl, c5d, I, h3U⟩ hn3
   simp only [List.map_cons, List.map_nil, List.cons.injEq, and_true] at c5d
   have e6 := c5d
   simp only [e6]
   obtain ⟨n3, hm3, h⟩ : ∃ n3 : Int → Hp → Prop, (∀ s' H', n3 s' H' → e1Z s' H' ∧ c9y s' < c9y Z8) ∧ Q2 x1 x0 Z8 H n3 K := ⟨_, fun _ _ h => h, h3T Z8 H (fun s' H' => e1Z s' H' ∧ c9y s' < c9y Z8) h3U (fun _ _ a b => ⟨a, b⟩)⟩
   unfold d8W
   unfold Q2 at h
   refine a8 s5 ?_
   refine d9 (ld1 Tryd.isAgg25 ((I.bring 1).at1 (o := 3) (vs := [(vs x0.i7)]) (nb rfl) rfl)) ?_
   refine a8 (H8 _ _ _) ?_
   refine a8 (o3 _ _ _ _ _ _) ?_
   refine g8 (fun c1G => ?_) (fun c1G => ?_)
   ·replace h := h.1 c1G
    refine a9F I fun b4O b6x => ?_
    refine t1 s5 ?_
    refine t1 s5 ?_
    refine G8 (ld1 Tryd.isAgg25 ((b6x.bring 1).at1 (o := 3) (vs := [(vs x0.i7)]) (nb rfl) rfl)) ?_
    obtain ⟨a5V, a6I, d4D, c9w, h⟩ := h
    obtain ⟨i0O, i0P, e1Y, c9w⟩ := c9w
    refine t1 (T9 e1Y _ _ _ _ a5V a6I) ?_
    refine G8 (ldA (vs := (d6 d4D)) Tryd.isAgg27 Tryd.sizeOf27 rfl (b6x.atH c9w)) ?_
    refine G8 (ld1 Tryd.isAgg25 (b6x.at1 (o := 3) (vs := [(vs x1.i7)]) (nb rfl) rfl)) ?_
    obtain ⟨c9z, h3V, d4E, b8J, h⟩ := h
    obtain ⟨c1H, i0Q, e1R, b8J⟩ := b8J
    refine t1 (T9 e1R _ _ _ _ c9z h3V) ?_
    refine G8 (ldA (vs := (d6 d4E)) Tryd.isAgg27 Tryd.sizeOf27 rfl (b6x.atH b8J)) ?_
    refine f5 (cap := []) (fun args w => Tryd.call16 args w) ?_
    refine i6 (Fi := []) (Fr := [bx g_7 27 (d6 x1), bx g_2 27 (d6 x0)]) b6x (h) (fun h3W b6P h3X I7 b8K h3Y f9Q e2a => ?_) (fun _ _ _ _ _ q => q.elim)
    obtain ⟨b0r, rfl, rfl, h⟩ := e2a
    refine t1 (C4 _) ?_
    refine j9 (fun c1I => ?_) (fun c1I => ?_)
    ·replace h := h.1 c1I
     exact hR false b6P _ b8K.drop.drop h
    ·replace h := h.2 c1I
     refine a8 (s9 _ _ _ _ _ _) ?_
     exact hn3 _ _ _ (hm3 _ _ h).2 ⟨(IntKind.wrap .i64 (Z8 + 1)), b6P, rfl, rfl, ((b8K.bring 1).bring 1), (hm3 _ _ h).1⟩
   ·replace h := h.2 c1G
    exact hx2 _ _ (hj2 H _ ((I.bring 1).bring 1) h)
  refine s8 fun j1 hx1 => ?_
  obtain ⟨c1v, b2n, e1I, e1J⟩ := h
  refine I0 (J := fun n l w => ∃ (s : Int) (H : Hp) , n = b2n s ∧ l = [(vi s)] ∧ Inv w0 ps0 H0 H [bx g_7 27 (d6 x1), bx g_2 27 (d6 x0)] w ∧ c1v s H) ⟨_, 0, H, rfl, rfl, ((I_9.bring 1).bring 1), e1I⟩ ?_
  rintro h3p τ_78 w next4 ⟨a8i, H, rfl, b0M, I, e1K⟩ hn4
  simp only [List.map_cons, List.map_nil, List.cons.injEq, and_true] at b0M
  have e5 := b0M
  simp only [e5]
  obtain ⟨n4, hm4, h⟩ : ∃ n4 : Int → Hp → Prop, (∀ s' H', n4 s' H' → c1v s' H' ∧ b2n s' < b2n a8i) ∧ Q4 x1 x0 a8i H n4 K := ⟨_, fun _ _ h => h, e1J a8i H (fun s' H' => c1v s' H' ∧ b2n s' < b2n a8i) e1K (fun _ _ a b => ⟨a, b⟩)⟩
  unfold d9b
  unfold Q4 at h
  refine a8 u1 ?_
  refine d9 (ld1 Tryd.isAgg22 ((I.bring 1).at1 (o := 2) (vs := [(vs x0.g5)]) (nb rfl) rfl)) ?_
  refine a8 (q6 _ _ _) ?_
  refine a8 (o3 _ _ _ _ _ _) ?_
  refine g8 (fun a5t => ?_) (fun a5t => ?_)
  ·replace h := h.1 a5t
   refine a9F I fun K6 q5 => ?_
   refine t1 u1 ?_
   refine t1 u1 ?_
   refine G8 (ld1 Tryd.isAgg22 ((q5.bring 1).at1 (o := 2) (vs := [(vs x0.g5)]) (nb rfl) rfl)) ?_
   obtain ⟨a9Y, a9Z, X7, a1M, h⟩ := h
   obtain ⟨d4F, d4G, b6R, a1M⟩ := a1M
   refine t1 (m7 b6R _ _ _ _ a9Y a9Z) ?_
   refine G8 (ldA (vs := (b8 X7)) Tryd.isAgg24 Tryd.sizeOf24 rfl (q5.atH a1M)) ?_
   refine G8 (ld1 Tryd.isAgg22 (q5.at1 (o := 2) (vs := [(vs x1.g5)]) (nb rfl) rfl)) ?_
   obtain ⟨b0a, b6S, a4Y, a5x, h⟩ := h
   obtain ⟨f9R, f9S, b2G, a5x⟩ := a5x
   refine t1 (m7 b2G _ _ _ _ b0a b6S) ?_
   refine G8 (ldA (vs := (b8 a4Y)) Tryd.isAgg24 Tryd.sizeOf24 rfl (q5.atH a5x)) ?_
   refine f5 (cap := []) (fun args w => Tryd.call15 args w) ?_
   refine i6 (Fi := []) (Fr := [bx g_7 27 (d6 x1), bx g_2 27 (d6 x0)]) q5 (h) (fun h3Z b2F h4a w4 b2H e1C e2b e2c => ?_) (fun _ _ _ _ _ q => q.elim)
   obtain ⟨b6Q, rfl, rfl, h⟩ := e2c
   refine t1 (C4 _) ?_
   refine j9 (fun c1J => ?_) (fun c1J => ?_)
   ·replace h := h.1 c1J
    exact hR false b2F _ b2H.drop.drop h
   ·replace h := h.2 c1J
    refine a8 (s9 _ _ _ _ _ _) ?_
    exact hn4 _ _ _ (hm4 _ _ h).2 ⟨(IntKind.wrap .i64 (a8i + 1)), b2F, rfl, rfl, ((b2H.bring 1).bring 1), (hm4 _ _ h).1⟩
  ·replace h := h.2 a5t
   exact hx1 _ _ (hj1 H _ ((I.bring 1).bring 1) h)
theorem b0b (x0 : d5) (x1 : d5) {H : Hp} {K : Bool → Hp → Prop} (h : U9 x0 x1 H K) : C5 x0 x1 H K := by
 intro w I
 refine f4P ?_
 refine a9w x0 x1 I (fun r0 H' w' I' hk => ⟨H', _, I', r0, rfl, rfl, hk⟩) h
def a0I (x0 : C8) (H : Hp) (K : Sl → Hp → Prop) : Prop :=
 t8 x0.m3.d8 H (fun (T2 : Sl) (H_6 : Hp) =>
 K T2 H_6)
theorem b1k (x0 : C8) {w0 w : World} {ps0 : Nat → Prop} {H0 H : Hp} {K : Sl → Hp → Prop} {R : Value → World → Prop} {E : Pan} (I : Inv w0 ps0 H0 H [] w) (hR : ∀ (r0 : Sl) (H' : Hp) (w' : World) (_ : Inv w0 ps0 H0 H' [] w') (_ : K r0 H'), R (vs r0) w') (h : a0I x0 H K) : d3U (Value.agg (b8 x0.m3).toArray) w R E := by
 unfold a0I at h
 unfold d3U
 refine F7 I (cs := (b8 x0.m3)) rfl fun g_2 w_3 I_4 k_5 => ?_
 refine a8 H9 ?_
 refine a8 i8 ?_
 refine d9 (ld1 Tryd.isAgg22 (I_4.at1 (o := 3) (vs := [(vs x0.m3.d8)]) (nb rfl) rfl)) ?_
 refine f5 (cap := []) (fun args w => Tryd.call171 args w) ?_
 refine i6 (Fi := []) (Fr := [bx g_2 123 (b8 x0.m3)]) I_4 (h) (fun c1t H_6 b8E w_7 I_8 c1u k_9 a7Z => ?_) (fun _ _ _ _ _ q => q.elim)
 obtain ⟨T2, rfl, rfl, h⟩ := a7Z
 exact hR T2 H_6 _ I_8.drop h
theorem b2I (x0 : C8) {H : Hp} {K : Sl → Hp → Prop} (h : a0I x0 H K) : a6B x0 H K := by
 intro w I
 refine e8G ?_
 refine b1k x0 I (fun r0 H' w' I' hk => ⟨H', _, I', r0, rfl, rfl, hk⟩) h
def a0J (x0 : a0z) (H : Hp) (K : Sl → Hp → Prop) : Prop :=
 K (Sl.mk none 0 0) H
theorem b1l (x0 : a0z) {w0 w : World} {ps0 : Nat → Prop} {H0 H : Hp} {K : Sl → Hp → Prop} {R : Value → World → Prop} {E : Pan} (I : Inv w0 ps0 H0 H [] w) (hR : ∀ (r0 : Sl) (H' : Hp) (w' : World) (_ : Inv w0 ps0 H0 H' [] w') (_ : K r0 H'), R (vs r0) w') (h : a0J x0 H K) : d4d (Value.agg (a1R x0.O0).toArray) w R E := by
 unfold a0J at h
 unfold d4d
 refine F7 I (cs := (a1R x0.O0)) rfl fun g_2 w_3 I_4 k_5 => ?_
 exact hR (Sl.mk none 0 0) H _ I_4.drop h
theorem b2J (x0 : a0z) {H : Hp} {K : Sl → Hp → Prop} (h : a0J x0 H K) : a6D x0 H K := by
 intro w I
 refine e8X ?_
 refine b1l x0 I (fun r0 H' w' I' hk => ⟨H', _, I', r0, rfl, rfl, hk⟩) h
end Go.Proofs.YtnhkdkcgdcgmdaaDoor
