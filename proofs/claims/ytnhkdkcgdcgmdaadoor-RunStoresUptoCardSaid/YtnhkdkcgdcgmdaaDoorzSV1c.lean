/- Typed formulas of the program's functions, and the theorems that the contracts follow from them; printed by lift.py off the code. -/
import Derived.Test.YtnhkdkcgdcgmdaaDoorzSV1
namespace Go.Proofs.YtnhkdkcgdcgmdaaDoor
open Go.RowKit
set_option maxRecDepth 100000
set_option maxHeartbeats 2000000
variable {w0 w : World} {ps0 : Nat → Prop} {H0 H : Hp} {R : RT} {E : Pan}
def M0 (b9I : Int) (H : Hp) (K : Int → Hp → Prop) : Prop :=
 K b9I H
def M1 (c3a : ByteArray) (a6R : Int) (a1I : Nat) (H : Hp) (n2 : (Int × Nat) → Hp → Prop) (K : Int → Hp → Prop) : Prop :=
 (a1I < c3a.size →
 n2 ((IntKind.wrap .i64 (a6R + 1)), (a1I + (Utf8.decode c3a a1I).2)) H) ∧
 (¬ (a1I < c3a.size) →
 M0 a6R H K)
def N9 (x0 : ByteArray) (H : Hp) (K : Int → Hp → Prop) : Prop :=
 TL ((0, 0) : Int × Nat) H fun (s : Int × Nat) H n2 => M1 x0 s.1 s.2 H n2 K
theorem a4r (x0 : ByteArray) {K : Int → Hp → Prop} (I : Inv w0 ps0 H0 H [] w) (hR : ∀ (r0 : Int) (H' : Hp) (w' : World) (_ : Inv w0 ps0 H0 H' [] w') (_ : K r0 H'), R (vi r0) w') (h : N9 x0 H K) : c7f (Value.string x0) w R E := by
 unfold N9 at h
 unfold c7f
 have hj1 : ∀ (b9I : Int) (H : Hp) (w : World) (_ : Inv w0 ps0 H0 H [] w) (_ : M0 b9I H K), b9n (vi b9I) w R E := by
  intro b9I H w I h
  unfold b9n
  intro _
  unfold M0 at h
  exact hR b9I H _ I h
 refine A6 fun j1 hx1 => ?_
 refine c5S Tryd.underlying9 x0 I fun g_2 w_3 I_4 k_5 => ?_
 obtain ⟨d3Y, c3b, g3u, g3v⟩ := h
 refine M6 (J := fun n l w => ∃ (s : Int × Nat) (H : Hp) , n = c3b s ∧ l = (match s with | (a6R, a1I) => [(vi a6R)]) ∧ (match s with | (a6R, a1I) => Inv w0 ps0 H0 H [itf g_2 x0 a1I] w) ∧ d3Y s H) ⟨_, (0, 0), H, rfl, rfl, I_4, g3u⟩ ?_
 rintro g7H τ_27 w next2 ⟨⟨a6R, a1I⟩, H, rfl, d3Z, I, g3w⟩ hn2
 dsimp only at d3Z I
 simp only [List.map_cons, List.map_nil, List.cons.injEq, and_true] at d3Z
 have e2 := d3Z
 simp only [e2]
 obtain ⟨n2, hm2, h⟩ : ∃ n2 : (Int × Nat) → Hp → Prop, (∀ s' H', n2 s' H' → d3Y s' H' ∧ c3b s' < c3b (a6R, a1I)) ∧ M1 x0 a6R a1I H n2 K := ⟨_, fun _ _ h => h, g3v (a6R, a1I) H (fun s' H' => d3Y s' H' ∧ c3b s' < c3b (a6R, a1I)) g3w (fun _ _ a b => ⟨a, b⟩)⟩
 unfold c6b
 unfold M1 at h
 refine d0l I (fun a8u p8 a4m b3u => ?_) (fun a8u => ?_)
 ·replace h := h.1 a8u
  refine a7 (m4 _ _ (vB true) rfl) ?_
  refine o8 (fun e => ?_) (fun e => by cases e)
  refine a7 (G6 _ _ _ _ _ _) ?_
  exact hn2 _ _ _ (hm2 _ _ h).2 ⟨((IntKind.wrap .i64 (a6R + 1)), (a1I + (Utf8.decode x0 a1I).2)), H, rfl, rfl, a4m, (hm2 _ _ h).1⟩
 ·replace h := h.2 a8u
  refine a7 (m4 _ _ (vB false) rfl) ?_
  refine o8 (fun e => by cases e) (fun e => ?_)
  exact hx1 _ _ (hj1 a6R H _ I.drop h)
theorem a4P (x0 : ByteArray) {H : Hp} {K : Int → Hp → Prop} (h : N9 x0 H K) : T9 x0 H K := by
 intro w I
 refine e0v ?_
 refine a4r x0 I (fun r0 H' w' I' hk => ⟨H', _, I', r0, rfl, rfl, hk⟩) h
def a1W (x0 : ByteArray) (H : Hp) (K : Bool → Hp → Prop) : Prop :=
 T9 x0 H (fun (C4 : Int) (H_1 : Hp) =>
 K (decide (32 < C4)) H_1)
theorem b3x (x0 : ByteArray) {K : Bool → Hp → Prop} (I : Inv w0 ps0 H0 H [] w) (hR : ∀ (r0 : Bool) (H' : Hp) (w' : World) (_ : Inv w0 ps0 H0 H' [] w') (_ : K r0 H'), R (vB r0) w') (h : a1W x0 H K) : c7a (Value.string x0) w R E := by
 unfold a1W at h
 unfold c7a
 refine d6 (cap := []) (fun args w => Tryd.call150 args w) ?_
 refine m6 (Fi := []) (Fr := []) I (h) (fun v_5 H_1 F_6 w_2 I_3 l_8 k_4 q_7 => ?_) (fun _ _ _ _ _ q => q.elim)
 obtain ⟨C4, rfl, rfl, h⟩ := q_7
 refine a7 (a1f _ _ _ _ _ _) ?_
 exact hR (decide (32 < C4)) H_1 _ I_3 h
theorem b5o (x0 : ByteArray) {H : Hp} {K : Bool → Hp → Prop} (h : a1W x0 H K) : a1Q x0 H K := by
 intro w I
 refine e0l ?_
 refine b3x x0 I (fun r0 H' w' I' hk => ⟨H', _, I', r0, rfl, rfl, hk⟩) h
def U2 (a6d : Int) (a6e : Int) (a6f : Int) (a6g : Bool) (a6h : Bool) (a5f : (List ByteArray)) (H : Hp) (K : Bool → g7 → (List ByteArray) → Hp → Prop) : Prop :=
 K true (g7.mk a6d a6e a6f a6g a6h (Sl.mk none 0 0)) a5f H
def U3 (c3c : Int) (Y9 : Sl) (p9 : Int) (a1o : Int) (Z4 : Int) (Z5 : Int) (Z6 : Int) (Z7 : Bool) (Z8 : Bool) (W6 : (List ByteArray)) (H : Hp) (n2 : (Int × Int × Int × Int × Bool × Bool × (List ByteArray)) → Hp → Prop) (K : Bool → g7 → (List ByteArray) → Hp → Prop) : Prop :=
 (a1o < p9 →
 (0 : Int) ≤ a1o ∧ (a1o : Int) < Y9.n ∧ ∃ c3d : a8, EltH H Y9 a1o 1 [(t8 c3d)] ∧
 a0y (g7.mk Z4 Z5 Z6 Z7 Z8 (Sl.mk none 0 0)) W6 c3d c3c H (fun (a4B : Bool) (E7 : g7) (a7B : (List ByteArray)) (c3e : Hp) =>
 TG ((!a4B) = false) (a2o c3d c3e) (Sl.mk none 0 0) c3e (fun (a5K : Sl) (a6S : Hp) =>
 TG ((!a4B) = false) (fun k_ => T1 a5K (IntKind.wrap .i64 (c3c + 1)) (g7.mk ((E7).fnodes) ((E7).fdepth) ((E7).fe) ((E7).fform) ((E7).fnamed) (Sl.mk none 0 0)) a7B a6S fun a6w M9 a1z H_ => k_ (a6w, M9, a1z) H_) (false, (g7.mk ((E7).fnodes) ((E7).fdepth) ((E7).fe) ((E7).fform) ((E7).fnamed) (Sl.mk none 0 0)), a7B) a6S (fun (W0 : Bool × g7 × (List ByteArray)) (Z9 : Hp) =>
 (((!a4B) || (!W0.1)) = true →
 K false (g7.mk ((W0.2.1).fnodes) ((W0.2.1).fdepth) ((W0.2.1).fe) ((W0.2.1).fform) ((W0.2.1).fnamed) (Sl.mk none 0 0)) W0.2.2 Z9) ∧
 (((!a4B) || (!W0.1)) = false →
 n2 ((IntKind.wrap .i64 (a1o + 1)), ((W0.2.1).fnodes), ((W0.2.1).fdepth), ((W0.2.1).fe), ((W0.2.1).fform), ((W0.2.1).fnamed), W0.2.2) Z9))))) ∧
 (¬ (a1o < p9) →
 U2 Z4 Z5 Z6 Z7 Z8 W6 H K)
def a0l (x0 : Sl) (x1 : Int) (x2 : g7) (a7Z : (List ByteArray)) (H : Hp) (K : Bool → g7 → (List ByteArray) → Hp → Prop) : Prop :=
 TL ((0, x2.fnodes, x2.fdepth, x2.fe, x2.fform, x2.fnamed, a7Z) : Int × Int × Int × Int × Bool × Bool × (List ByteArray)) H fun (s : Int × Int × Int × Int × Bool × Bool × (List ByteArray)) H n2 => U3 x1 x0 (x0.n : Int) s.1 s.2.1 s.2.2.1 s.2.2.2.1 s.2.2.2.2.1 s.2.2.2.2.2.1 s.2.2.2.2.2.2 H n2 K
theorem a9k (x0 : Sl) (x1 : Int) (x2 : g7) (a7Z : (List ByteArray)) (g2 g2b g3 : Nat) (a9w : Sl) (a9x : Frag) (c7N : RowL 9 1 C1 a9w a7Z a9x) {K : Bool → g7 → (List ByteArray) → Hp → Prop} (I : Inv w0 ps0 H0 H [bx g2 102 [(Value.pointer (some ⟨g2b, 0, none⟩))], bx g2b 106 [(vi x2.fnodes), (vi x2.fdepth), (vi x2.fe), (vB x2.fform), (vB x2.fnamed), (vs a9w)], a9x, bx g3 161 [(Value.func (.func 99) #[] #[(Value.pointer (some ⟨g2, 0, none⟩)), (Value.pointer (some ⟨g3, 0, none⟩))])]] w) (hR : ∀ (r0 : Bool) (y0 : g7) (a4G : (List ByteArray)) (a2C : Sl) (a2D : Frag) (H' : Hp) (w' : World) (_ : RowL 9 1 C1 a2C a4G a2D) (_ : Inv w0 ps0 H0 H' [bx g2 102 [(Value.pointer (some ⟨g2b, 0, none⟩))], bx g2b 106 [(vi y0.fnodes), (vi y0.fdepth), (vi y0.fe), (vB y0.fform), (vB y0.fnamed), (vs a2C)], a2D, bx g3 161 [(Value.func (.func 99) #[] #[(Value.pointer (some ⟨g2, 0, none⟩)), (Value.pointer (some ⟨g3, 0, none⟩))])]] w') (_ : K r0 y0 a4G H'), R (vB r0) w') (h : a0l x0 x1 x2 a7Z H K) : F99 (vs x0) (vi x1) (Value.pointer (some ⟨g2, 0, none⟩)) (Value.pointer (some ⟨g3, 0, none⟩)) w R E := by
 unfold a0l at h
 unfold F99
 have hj1 : ∀ (a6d : Int) (a6e : Int) (a6f : Int) (a6g : Bool) (a6h : Bool) (a5f : (List ByteArray)) (a9y : Sl) (a9z : Frag) (H : Hp) (w : World) (_ : RowL 9 1 C1 a9y a5f a9z) (_ : Inv w0 ps0 H0 H [bx g2 102 [(Value.pointer (some ⟨g2b, 0, none⟩))], bx g2b 106 [(vi a6d), (vi a6e), (vi a6f), (vB a6g), (vB a6h), (vs a9y)], bx g3 161 [(Value.func (.func 99) #[] #[(Value.pointer (some ⟨g2, 0, none⟩)), (Value.pointer (some ⟨g3, 0, none⟩))])], a9z] w) (_ : U2 a6d a6e a6f a6g a6h a5f H K), c1Z w R E := by
  intro a6d a6e a6f a6g a6h a5f a9y a9z H w d1o I h
  unfold c1Z
  intro _
  unfold U2 at h
  exact hR true (g7.mk a6d a6e a6f a6g a6h (Sl.mk none 0 0)) a5f a9y a9z H _ d1o ((((I.bring 2).bring 3).bring 3).bring 3) h
 refine A6 fun j1 hx1 => ?_
 refine a7 (a7h _ _ _) ?_
 obtain ⟨d4a, c3f, g3x, g3y⟩ := h
 refine M6 (J := fun n l w => ∃ (s : Int × Int × Int × Int × Bool × Bool × (List ByteArray)) (H : Hp) (a5g : Sl) (a5h : Frag) , n = c3f s ∧ l = (match s with | (a1o, Z4, Z5, Z6, Z7, Z8, W6) => [(vi a1o)]) ∧ (match s with | (a1o, Z4, Z5, Z6, Z7, Z8, W6) => RowL 9 1 C1 a5g W6 a5h) ∧ (match s with | (a1o, Z4, Z5, Z6, Z7, Z8, W6) => Inv w0 ps0 H0 H [bx g2 102 [(Value.pointer (some ⟨g2b, 0, none⟩))], bx g2b 106 [(vi Z4), (vi Z5), (vi Z6), (vB Z7), (vB Z8), (vs a5g)], bx g3 161 [(Value.func (.func 99) #[] #[(Value.pointer (some ⟨g2, 0, none⟩)), (Value.pointer (some ⟨g3, 0, none⟩))])], a5h] w) ∧ d4a s H) ⟨_, (0, x2.fnodes, x2.fdepth, x2.fe, x2.fform, x2.fnamed, a7Z), H, a9w, a9x, rfl, rfl, c7N, ((((I.bring 2).bring 3).bring 3).bring 3), g3x⟩ ?_
 rintro g7I τ_92 w next2 ⟨⟨a1o, Z4, Z5, Z6, Z7, Z8, W6⟩, H, a5g, a5h, rfl, c2B, b3y, I, e9V⟩ hn2
 dsimp only at c2B I b3y
 simp only [List.map_cons, List.map_nil, List.cons.injEq, and_true] at c2B
 have e11 := c2B
 simp only [e11]
 obtain ⟨n2, hm2, h⟩ : ∃ n2 : (Int × Int × Int × Int × Bool × Bool × (List ByteArray)) → Hp → Prop, (∀ s' H', n2 s' H' → d4a s' H' ∧ c3f s' < c3f (a1o, Z4, Z5, Z6, Z7, Z8, W6)) ∧ U3 x1 x0 (x0.n : Int) a1o Z4 Z5 Z6 Z7 Z8 W6 H n2 K := ⟨_, fun _ _ h => h, g3y (a1o, Z4, Z5, Z6, Z7, Z8, W6) H (fun s' H' => d4a s' H' ∧ c3f s' < c3f (a1o, Z4, Z5, Z6, Z7, Z8, W6)) e9V (fun _ _ a b => ⟨a, b⟩)⟩
 unfold d0x
 unfold U3 at h
 refine a7 (B7 _ _ _ _ _ _) ?_
 refine i2 (fun b6g => ?_) (fun b6g => ?_)
 ·replace h := h.1 b6g
  obtain ⟨d4b, g3z, c3d, c3g, h⟩ := h
  obtain ⟨g7J, g7K, g3A, c3g⟩ := c3g
  refine a7 (d0p g3A _ _ _ _ d4b g3z) ?_
  refine b6 (ld1 (v := (t8 c3d)) Tryd.isAgg152 (I.atH c3g)) ?_
  refine a0p I fun b1M c7O => ?_
  refine u0 (ld1 Tryd.isAgg102 (c7O.at1 (o := 0) (vs := [(Value.pointer (some ⟨g2b, 0, none⟩))]) (nb rfl) rfl)) ?_
  refine d6 (cap := []) (fun args w => Tryd.call100 args w) ?_
  refine m6 (Fi := [bx g2b 106 [(vi Z4), (vi Z5), (vi Z6), (vB Z7), (vB Z8), (vs a5g)], a5h]) (Fr := [bx g2 102 [(Value.pointer (some ⟨g2b, 0, none⟩))], bx g3 161 [(Value.func (.func 99) #[] #[(Value.pointer (some ⟨g2, 0, none⟩)), (Value.pointer (some ⟨g3, 0, none⟩))])]]) ((c7O.bring 3).bring 2) (h g2b a5g a5h b3y) (fun g7L c3e g7M L3 b6h g7N g7O g3B => ?_) (fun _ _ _ _ _ q => q.elim)
  obtain ⟨a4B, E7, a7B, a8y, a8z, rfl, rfl, c3h, h⟩ := g3B
  refine j8 (a0E _) ?_
  simp only [G8]
  refine j8 (Pu.g fun hb => by have d8 := hb; simp only [m8 d8]; exact (G6 _ _ _ _ _ _)) ?_
  refine u0 (Ld.g fun hb => by have d8 := hb; exact (ld1 Tryd.isAgg161 ((b6h.bring 3).at1 (o := 0) (vs := [(Value.func (.func 99) #[] #[(Value.pointer (some ⟨g2, 0, none⟩)), (Value.pointer (some ⟨g3, 0, none⟩))])]) (nb rfl) rfl))) ?_
  refine a6z (D := fun e9W b1N => ∃ (a5K : Sl) (a6S : Hp), e9W = (gv (!a4B) false (vs a5K)) ∧ (Inv w0 ps0 H0 a6S [bx g2b 106 [(vi ((E7).fnodes)), (vi ((E7).fdepth)), (vi ((E7).fe)), (vB ((E7).fform)), (vB ((E7).fnamed)), (vs a8y)], a8z, bx g2 102 [(Value.pointer (some ⟨g2b, 0, none⟩))], bx g3 161 [(Value.func (.func 99) #[] #[(Value.pointer (some ⟨g2, 0, none⟩)), (Value.pointer (some ⟨g3, 0, none⟩))])]] b1N) ∧ (∀ i, i < L3.heap.size → ¬ inF [] i → b1N.heap[i]? = L3.heap[i]?) ∧ Hle c3e a6S ∧ (TG ((!a4B) = false) (fun k_ => T1 a5K (IntKind.wrap .i64 (x1 + 1)) (g7.mk ((E7).fnodes) ((E7).fdepth) ((E7).fe) ((E7).fform) ((E7).fnamed) (Sl.mk none 0 0)) a7B a6S fun a6w M9 a1z H_ => k_ (a6w, M9, a1z) H_) (false, (g7.mk ((E7).fnodes) ((E7).fdepth) ((E7).fe) ((E7).fform) ((E7).fnamed) (Sl.mk none 0 0)), a7B) a6S (fun (W0 : Bool × g7 × (List ByteArray)) (Z9 : Hp) =>
 (((!a4B) || (!W0.1)) = true →
 K false (g7.mk ((W0.2.1).fnodes) ((W0.2.1).fdepth) ((W0.2.1).fe) ((W0.2.1).fform) ((W0.2.1).fnamed) (Sl.mk none 0 0)) W0.2.2 Z9) ∧
 (((!a4B) || (!W0.1)) = false →
 n2 ((IntKind.wrap .i64 (a1o + 1)), ((W0.2.1).fnodes), ((W0.2.1).fdepth), ((W0.2.1).fe), ((W0.2.1).fform), ((W0.2.1).fnamed), W0.2.2) Z9)))) (fun c3i => ?_) (fun c3i => ?_) ?_
  ·replace h := h.1 c3i
   have d8 := c3i
   simp only [m8 d8]
   refine a9U b6h h (fun a5K a6S b1N b3z d4c c7P h => ?_)
   exact ⟨a5K, a6S, by rfl, b3z, c7P, d4c, h⟩
  ·exact ⟨(Sl.mk none 0 0), c3e, by rw [b0V c3i], b6h, fun _ _ _ => rfl, Hle.refl _, h.2 c3i⟩
  ·clear h
   rintro e9W b1N ⟨a5K, a6S, rfl, b3z, c7P, d4c, h⟩
   refine ⟨(c7P _ (b6h.bring 3).lt1 (Inv.a5k (Fi := []) (b6h.bring 3))), ?_⟩
   refine a6z (D := fun d4d c7Q => ∃ (a6w : Bool) (M9 : g7) (a1z : (List ByteArray)) (Z9 : Hp) (a4Q : Sl) (a4R : Frag) , d4d = (gv (!a4B) false (vB a6w)) ∧ (RowL 9 1 C1 a4Q a1z a4R) ∧ (Inv w0 ps0 H0 Z9 [bx g2 102 [(Value.pointer (some ⟨g2b, 0, none⟩))], bx g2b 106 [(vi ((M9).fnodes)), (vi ((M9).fdepth)), (vi ((M9).fe)), (vB ((M9).fform)), (vB ((M9).fnamed)), (vs a4Q)], a4R, bx g3 161 [(Value.func (.func 99) #[] #[(Value.pointer (some ⟨g2, 0, none⟩)), (Value.pointer (some ⟨g3, 0, none⟩))])]] c7Q) ∧ (∀ i, i < b1N.heap.size → ¬ inF [bx g2 102 [(Value.pointer (some ⟨g2b, 0, none⟩))], bx g2b 106 [(vi ((E7).fnodes)), (vi ((E7).fdepth)), (vi ((E7).fe)), (vB ((E7).fform)), (vB ((E7).fnamed)), (vs a8y)], a8z, bx g3 161 [(Value.func (.func 99) #[] #[(Value.pointer (some ⟨g2, 0, none⟩)), (Value.pointer (some ⟨g3, 0, none⟩))])]] i → c7Q.heap[i]? = b1N.heap[i]?) ∧ Hle a6S Z9 ∧ ((((!a4B) || (!a6w)) = true →
 K false (g7.mk ((M9).fnodes) ((M9).fdepth) ((M9).fe) ((M9).fform) ((M9).fnamed) (Sl.mk none 0 0)) a1z Z9) ∧
 (((!a4B) || (!a6w)) = false →
 n2 ((IntKind.wrap .i64 (a1o + 1)), ((M9).fnodes), ((M9).fdepth), ((M9).fe), ((M9).fform), ((M9).fnamed), a1z) Z9))) (fun c3j => ?_) (fun c3j => ?_) ?_
   ·replace h := h.1 c3j
    have d8 := c3j
    simp only [m8 d8]
    refine d6 (cap := [(Value.pointer (some ⟨g2, 0, none⟩)), (Value.pointer (some ⟨g3, 0, none⟩))]) (fun args w => Tryd.call99 args w) ?_
    refine m6 (Fi := [bx g2 102 [(Value.pointer (some ⟨g2b, 0, none⟩))], bx g2b 106 [(vi ((E7).fnodes)), (vi ((E7).fdepth)), (vi ((E7).fe)), (vB ((E7).fform)), (vB ((E7).fnamed)), (vs a8y)], a8z, bx g3 161 [(Value.func (.func 99) #[] #[(Value.pointer (some ⟨g2, 0, none⟩)), (Value.pointer (some ⟨g3, 0, none⟩))])]]) (Fr := []) ((((b3z.bring 3).bring 2).bring 2).bring 3) (h g2 g2b g3 a8y a8z c3h) (fun d4d Z9 g7P c7Q c7R c7h e9X g3C => ?_) (fun _ _ _ _ _ q => q.elim)
    obtain ⟨a6w, M9, a1z, a4Q, a4R, rfl, rfl, b1O, h⟩ := g3C
    exact ⟨a6w, M9, a1z, Z9, a4Q, a4R, by rfl, b1O, c7R, e9X, c7h, h⟩
   ·exact ⟨false, (g7.mk ((E7).fnodes) ((E7).fdepth) ((E7).fe) ((E7).fform) ((E7).fnamed) (Sl.mk none 0 0)), a7B, a6S, a8y, a8z, by rw [b0V c3j], c3h, ((((b3z.bring 3).bring 2).bring 2).bring 3), fun _ _ _ => rfl, Hle.refl _, h.2 c3j⟩
   ·clear h
    rintro d4d c7Q ⟨a6w, M9, a1z, Z9, a4Q, a4R, rfl, b1O, c7R, e9X, c7h, h⟩
    refine j8 (Pu.g fun hb => by have d8 := hb; simp only [m8 d8]; exact (a0E _)) ?_
    refine j8 (T4 _ _) ?_
    refine o8 (fun b6i => ?_) (fun b6i => ?_)
    ·replace h := h.1 b6i
     exact hR false (g7.mk ((M9).fnodes) ((M9).fdepth) ((M9).fe) ((M9).fform) ((M9).fnamed) (Sl.mk none 0 0)) a1z a4Q a4R Z9 _ b1O ((((c7R.bring 3).bring 3).bring 3).bring 3) h
    ·replace h := h.2 b6i
     refine a7 (G6 _ _ _ _ _ _) ?_
     exact hn2 _ _ _ (hm2 _ _ h).2 ⟨((IntKind.wrap .i64 (a1o + 1)), ((M9).fnodes), ((M9).fdepth), ((M9).fe), ((M9).fform), ((M9).fnamed), a1z), Z9, a4Q, a4R, rfl, rfl, b1O, ((((c7R.bring 2).bring 3).bring 3).bring 3), (hm2 _ _ h).1⟩
 ·replace h := h.2 b6g
  exact hx1 _ _ (hj1 Z4 Z5 Z6 Z7 Z8 W6 a5g a5h H _ b3y ((((I.bring 3).bring 3).bring 3).bring 3) h)
theorem a9X (x0 : Sl) (x1 : Int) (x2 : g7) (a7Z : (List ByteArray)) {H : Hp} {K : Bool → g7 → (List ByteArray) → Hp → Prop} (h : a0l x0 x1 x2 a7Z H K) : T1 x0 x1 x2 a7Z H K := by
 intro g2 g2b g3 a9w a9x c7N w I
 refine e6A ?_
 refine a9k x0 x1 x2 a7Z g2 g2b g3 a9w a9x c7N I (fun r0 y0 a4G a2C a2D H' w' c3k I' hk => ⟨H', _, I', r0, y0, a4G, a2C, a2D, rfl, rfl, c3k, hk⟩) h
def a1p (x0 : q8) (H : Hp) (K : Int → Hp → Prop) : Prop :=
 a4k x0 H (fun (a0k : g7) (H_6 : Hp) =>
 K a0k.fe H_6)
theorem b1P (x0 : q8) {K : Int → Hp → Prop} (I : Inv w0 ps0 H0 H [] w) (hR : ∀ (r0 : Int) (H' : Hp) (w' : World) (_ : Inv w0 ps0 H0 H' [] w') (_ : K r0 H'), R (vi r0) w') (h : a1p x0 H K) : F53 (Value.agg (u6 x0).toArray) w R E := by
 unfold a1p at h
 unfold F53
 refine P2 I (cs := (u6 x0)) rfl fun g_2 w_3 I_4 k_5 => ?_
 refine b6 (ldA Tryd.isAgg44 Tryd.sizeOf44 rfl (I_4.at1 (o := 0) (vs := (u6 x0)) (nb rfl) rfl)) ?_
 refine d6 (cap := []) (fun args w => Tryd.call52 args w) ?_
 refine m6 (Fi := []) (Fr := [bx g_2 44 (u6 x0)]) I_4 (h) (fun c7K H_6 c7L w_7 I_8 c7M k_9 b1K => ?_) (fun _ _ _ _ _ q => q.elim)
 obtain ⟨a0k, g5P, rfl, rfl, h⟩ := b1K
 refine a7 (o9 _) ?_
 refine a7 a4o ?_
 refine b6 (ld1 Tryd.isAgg29 (I_8.at1 (o := 2) (vs := [(vi a0k.fe)]) (nb rfl) rfl)) ?_
 exact hR a0k.fe H_6 _ I_8.drop.drop h
theorem b2C (x0 : q8) {H : Hp} {K : Int → Hp → Prop} (h : a1p x0 H K) : a3l x0 H K := by
 intro w I
 refine e5M ?_
 refine b1P x0 I (fun r0 H' w' I' hk => ⟨H', _, I', r0, rfl, rfl, hk⟩) h
def W2 (x0 : D9) (H : Hp) (K : Sl → Hp → Prop) : Prop :=
 r6 x0.l0.y9 H (fun (a0k : Sl) (H_6 : Hp) =>
 K a0k H_6)
theorem a7q (x0 : D9) {K : Sl → Hp → Prop} (I : Inv w0 ps0 H0 H [] w) (hR : ∀ (r0 : Sl) (H' : Hp) (w' : World) (_ : Inv w0 ps0 H0 H' [] w') (_ : K r0 H'), R (vs r0) w') (h : W2 x0 H K) : c7j (Value.agg (b8 x0.l0).toArray) w R E := by
 unfold W2 at h
 unfold c7j
 refine P2 I (cs := (b8 x0.l0)) rfl fun g_2 w_3 I_4 k_5 => ?_
 refine a7 U7 ?_
 refine a7 a3H ?_
 refine b6 (ld1 Tryd.isAgg22 (I_4.at1 (o := 3) (vs := [(vs x0.l0.y9)]) (nb rfl) rfl)) ?_
 refine d6 (cap := []) (fun args w => Tryd.call171 args w) ?_
 refine m6 (Fi := []) (Fr := [bx g_2 123 (b8 x0.l0)]) I_4 (h) (fun c7K H_6 c7L w_7 I_8 c7M k_9 b1K => ?_) (fun _ _ _ _ _ q => q.elim)
 obtain ⟨a0k, rfl, rfl, h⟩ := b1K
 exact hR a0k H_6 _ I_8.drop h
theorem a8A (x0 : D9) {H : Hp} {K : Sl → Hp → Prop} (h : W2 x0 H K) : a3t x0 H K := by
 intro w I
 refine e0C ?_
 refine a7q x0 I (fun r0 H' w' I' hk => ⟨H', _, I', r0, rfl, rfl, hk⟩) h
def W3 (x0 : N3) (H : Hp) (K : Sl → Hp → Prop) : Prop :=
 K (Sl.mk none 0 0) H
theorem a7r (x0 : N3) {K : Sl → Hp → Prop} (I : Inv w0 ps0 H0 H [] w) (hR : ∀ (r0 : Sl) (H' : Hp) (w' : World) (_ : Inv w0 ps0 H0 H' [] w') (_ : K r0 H'), R (vs r0) w') (h : W3 x0 H K) : c7s (Value.agg (m3 x0.N4).toArray) w R E := by
 unfold W3 at h
 unfold c7s
 refine P2 I (cs := (m3 x0.N4)) rfl fun g_2 w_3 I_4 k_5 => ?_
 exact hR (Sl.mk none 0 0) H _ I_4.drop h
theorem a8B (x0 : N3) {H : Hp} {K : Sl → Hp → Prop} (h : W3 x0 H K) : a3v x0 H K := by
 intro w I
 refine e0T ?_
 refine a7r x0 I (fun r0 H' w' I' hk => ⟨H', _, I', r0, rfl, rfl, hk⟩) h
end Go.Proofs.YtnhkdkcgdcgmdaaDoor
