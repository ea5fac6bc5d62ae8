/- Typed formulas of the program's functions, and the theorems that the contracts follow from them; printed by lift.py off the code. -/
import Derived.Test.YtnhkdkcgdcgmdaaGreatDoorzFV1
namespace Go.Proofs.YtnhkdkcgdcgmdaaGreatDoor
open Go.RowKit
set_option maxRecDepth 100000
set_option maxHeartbeats 2000000
variable {w0 w : World} {ps0 : Nat → Prop} {H0 H : Hp} {R : RT} {E : Pan}
def a9C (x0 : i5) (H : Hp) (K : ByteArray → Bool → Hp → Prop) : Prop :=
 (x0.b3c = true →
 K ((((x0.a2I)).a0l).g7) true H) ∧
 (x0.b3c = false →
 (x0.b3d = true →
 K ((((x0.p7)).k9).g7) ((decide (((((x0.p7)).k9).b6) = 1)) || (decide (((((x0.p7)).k9).b6) = 2))) H) ∧
 (x0.b3d = false →
 (x0.b3b = true →
 K ((((x0.A9)).u2).g7) ((decide (((((x0.A9)).u2).b6) = 2)) || (decide (((((x0.A9)).u2).b6) = 4))) H) ∧
 (x0.b3b = false →
 K ⟨#[]⟩ false H)))
theorem c7O (x0 : i5) {K : ByteArray → Bool → Hp → Prop} (I : Inv w0 ps0 H0 H [] w) (hR : ∀ (r0 : ByteArray) (r1 : Bool) (H' : Hp) (w' : World) (_ : Inv w0 ps0 H0 H' [] w') (_ : K r0 r1 H'), R (Value.tuple #[(Value.string r0), (vB r1)]) w') (h : a9C x0 H K) : e8l (E7 x0) w R E := by
 unfold a9C at h
 unfold e8l
 refine a7 (d8r x0) ?_
 refine a7 (o2 _ _ (vB x0.b3c) rfl) ?_
 refine a7 (o2 _ _ _ rfl) ?_
 refine o0 (fun f9y => ?_) (fun f9y => ?_)
 ·replace h := h.1 f9y
  refine z7 I Tryz.zeroValue182 (cs := [(eS), (vi 0)]) rfl fun g_2 w_3 I_4 k_5 => ?_
  refine m6 I_4 Tryz.sizeOf182 (vs := [(Value.string ((((x0.a2I)).a0l).g7)), (vi ((((x0.a2I)).a0l).a1F))]) (cs' := [(Value.string ((((x0.a2I)).a0l).g7)), (vi ((((x0.a2I)).a0l).a1F))]) rfl rfl (nb rfl) rfl rfl fun w_6 I_7 k_8 => ?_
  refine a7 c3v ?_
  refine a7 d3D ?_
  refine f7 (ld1 Tryz.isAgg9 (I_7.at1 (o := 0) (vs := [(Value.string ((((x0.a2I)).a0l).g7))]) (nb rfl) rfl)) ?_
  exact hR ((((x0.a2I)).a0l).g7) true H _ I_7.drop h
 ·replace h := h.2 f9y
  refine a7 (d8s x0) ?_
  refine a7 (o2 _ _ (vB x0.b3d) rfl) ?_
  refine a7 (o2 _ _ _ rfl) ?_
  refine o0 (fun d2l => ?_) (fun d2l => ?_)
  ·replace h := h.1 d2l
   refine z7 I Tryz.zeroValue184 (cs := [(vi 0), (eS), (nS), (nS), (nS), (nS)]) rfl fun k1t P0 B1 b6Y => ?_
   refine m6 B1 Tryz.sizeOf184 (vs := [(vi ((((x0.p7)).k9).b6)), (Value.string ((((x0.p7)).k9).g7)), (Value.slice ((((x0.p7)).k9).i6).a ((((x0.p7)).k9).i6).n ((((x0.p7)).k9).i6).c), (Value.slice ((((x0.p7)).k9).m9).a ((((x0.p7)).k9).m9).n ((((x0.p7)).k9).m9).c), (Value.slice ((((x0.p7)).k9).v7).a ((((x0.p7)).k9).v7).n ((((x0.p7)).k9).v7).c), (Value.slice ((((x0.p7)).k9).t7).a ((((x0.p7)).k9).t7).n ((((x0.p7)).k9).t7).c)]) (cs' := [(vi ((((x0.p7)).k9).b6)), (Value.string ((((x0.p7)).k9).g7)), (Value.slice ((((x0.p7)).k9).i6).a ((((x0.p7)).k9).i6).n ((((x0.p7)).k9).i6).c), (Value.slice ((((x0.p7)).k9).m9).a ((((x0.p7)).k9).m9).n ((((x0.p7)).k9).m9).c), (Value.slice ((((x0.p7)).k9).v7).a ((((x0.p7)).k9).v7).n ((((x0.p7)).k9).v7).c), (Value.slice ((((x0.p7)).k9).t7).a ((((x0.p7)).k9).t7).n ((((x0.p7)).k9).t7).c)]) rfl rfl (nb rfl) rfl rfl fun p6 c0R c5Y => ?_
   refine a5z c0R fun a1B a3y => ?_
   refine q9 V1 ?_
   refine q9 a9t ?_
   refine q9 V1 ?_
   refine q9 O4 ?_
   refine A5 (ld1 Tryz.isAgg9 (a3y.at1 (o := 1) (vs := [(Value.string ((((x0.p7)).k9).g7))]) (nb rfl) rfl)) ?_
   refine A5 (ld1 Tryz.isAgg3 (a3y.at1 (o := 0) (vs := [(vi ((((x0.p7)).k9).b6))]) (nb rfl) rfl)) ?_
   refine q9 (i8 _ _ _ _ _ _) ?_
   refine q9 (Pu.g fun hb => by have b9 := hb; exact V1) ?_
   refine q9 (Pu.g fun hb => by have b9 := hb; simp only [i7 b9]; exact O4) ?_
   refine h5w (p := (Value.pointer (some ⟨k1t, 0, none⟩))) rfl (Ld.g fun hb => by have b9 := hb; simp only [i7 b9]; exact (ld1 Tryz.isAgg3 (a3y.at1 (o := 0) (vs := [(vi ((((x0.p7)).k9).b6))]) (nb rfl) rfl))) ?_
   refine q9 (Pu.g fun hb => by have b9 := hb; simp only [i7 b9]; exact (i8 _ _ _ _ _ _)) ?_
   refine q9 (J4 _ _) ?_
   exact hR ((((x0.p7)).k9).g7) ((decide (((((x0.p7)).k9).b6) = 1)) || (decide (((((x0.p7)).k9).b6) = 2))) H _ a3y.drop h
  ·replace h := h.2 d2l
   refine a7 (d8t x0) ?_
   refine a7 (o2 _ _ (vB x0.b3b) rfl) ?_
   refine a7 (o2 _ _ _ rfl) ?_
   refine o0 (fun c0S => ?_) (fun c0S => ?_)
   ·replace h := h.1 c0S
    refine z7 I Tryz.zeroValue136 (cs := [(vi 0), (vi 0), (eS), (nS)]) rfl fun i3i a5B b7f e9h => ?_
    refine m6 b7f Tryz.sizeOf136 (vs := [(vi ((((x0.A9)).u2).b6)), (vi ((((x0.A9)).u2).m8)), (Value.string ((((x0.A9)).u2).g7)), (Value.slice ((((x0.A9)).u2).i4).a ((((x0.A9)).u2).i4).n ((((x0.A9)).u2).i4).c)]) (cs' := [(vi ((((x0.A9)).u2).b6)), (vi ((((x0.A9)).u2).m8)), (Value.string ((((x0.A9)).u2).g7)), (Value.slice ((((x0.A9)).u2).i4).a ((((x0.A9)).u2).i4).n ((((x0.A9)).u2).i4).c)]) rfl rfl (nb rfl) rfl rfl fun u4 a8K d2h => ?_
    refine a5z a8K fun a3k c8Q => ?_
    refine q9 a4K ?_
    refine q9 b3e ?_
    refine q9 a4K ?_
    refine q9 F7 ?_
    refine A5 (ld1 Tryz.isAgg9 (c8Q.at1 (o := 2) (vs := [(Value.string ((((x0.A9)).u2).g7))]) (nb rfl) rfl)) ?_
    refine A5 (ld1 Tryz.isAgg3 (c8Q.at1 (o := 0) (vs := [(vi ((((x0.A9)).u2).b6))]) (nb rfl) rfl)) ?_
    refine q9 (i8 _ _ _ _ _ _) ?_
    refine q9 (Pu.g fun hb => by have b9 := hb; exact a4K) ?_
    refine q9 (Pu.g fun hb => by have b9 := hb; simp only [i7 b9]; exact F7) ?_
    refine h5w (p := (Value.pointer (some ⟨i3i, 0, none⟩))) rfl (Ld.g fun hb => by have b9 := hb; simp only [i7 b9]; exact (ld1 Tryz.isAgg3 (c8Q.at1 (o := 0) (vs := [(vi ((((x0.A9)).u2).b6))]) (nb rfl) rfl))) ?_
    refine q9 (Pu.g fun hb => by have b9 := hb; simp only [i7 b9]; exact (i8 _ _ _ _ _ _)) ?_
    refine q9 (J4 _ _) ?_
    exact hR ((((x0.A9)).u2).g7) ((decide (((((x0.A9)).u2).b6) = 2)) || (decide (((((x0.A9)).u2).b6) = 4))) H _ c8Q.drop h
   ·replace h := h.2 c0S
    exact hR ⟨#[]⟩ false H _ I h
theorem c8R (x0 : i5) {H : Hp} {K : ByteArray → Bool → Hp → Prop} (h : a9C x0 H K) : a7f x0 H K := by
 intro w I
 refine g8c ?_
 refine c7O x0 I (fun r0 r1 H' w' I' hk => ⟨H', _, I', r0, r1, rfl, rfl, hk⟩) h
def X6 (b5Q : Int) (H : Hp) (K : Int → Hp → Prop) : Prop :=
 K b5Q H
def X7 (e1X : ByteArray) (b5R : Int) (a9D : Nat) (H : Hp) (n2 : (Int × Nat) → Hp → Prop) (K : Int → Hp → Prop) : Prop :=
 (a9D < e1X.size →
 n2 ((IntKind.wrap .i64 (b5R + 1)), (a9D + (Utf8.decode e1X a9D).2)) H) ∧
 (¬ (a9D < e1X.size) →
 X6 b5R H K)
def a0v (x0 : ByteArray) (H : Hp) (K : Int → Hp → Prop) : Prop :=
 TL ((0, 0) : Int × Nat) H fun (s : Int × Nat) H n2 => X7 x0 s.1 s.2 H n2 K
theorem b3W (x0 : ByteArray) {K : Int → Hp → Prop} (I : Inv w0 ps0 H0 H [] w) (hR : ∀ (r0 : Int) (H' : Hp) (w' : World) (_ : Inv w0 ps0 H0 H' [] w') (_ : K r0 H'), R (vi r0) w') (h : a0v x0 H K) : e8u (Value.string x0) w R E := by
 unfold a0v at h
 unfold e8u
 have hj1 : ∀ (b5Q : Int) (H : Hp) (w : World) (_ : Inv w0 ps0 H0 H [] w) (_ : X6 b5Q H K), d6I (vi b5Q) w R E := by
  intro b5Q H w I h
  unfold d6I
  intro _
  unfold X6 at h
  exact hR b5Q H _ I h
 refine t6 fun j1 hx1 => ?_
 refine e6n Tryz.underlying9 x0 I fun g_2 w_3 I_4 k_5 => ?_
 obtain ⟨f9z, e1Y, k1u, k1v⟩ := h
 refine B5 (J := fun n l w => ∃ (s : Int × Nat) (H : Hp) , n = e1Y s ∧ l = (match s with | (b5R, a9D) => [(vi b5R)]) ∧ (match s with | (b5R, a9D) => Inv w0 ps0 H0 H [itf g_2 x0 a9D] w) ∧ f9z s H) ⟨_, (0, 0), H, rfl, rfl, I_4, k1u⟩ ?_
 rintro l0w τ_27 w next2 ⟨⟨b5R, a9D⟩, H, rfl, e1Z, I, k1w⟩ hn2
 dsimp only at e1Z I
 simp only [List.map_cons, List.map_nil, List.cons.injEq, and_true] at e1Z
 have e2 := e1Z
 simp only [e2]
 obtain ⟨n2, hm2, h⟩ : ∃ n2 : (Int × Nat) → Hp → Prop, (∀ s' H', n2 s' H' → f9z s' H' ∧ e1Y s' < e1Y (b5R, a9D)) ∧ X7 x0 b5R a9D H n2 K := ⟨_, fun _ _ h => h, k1v (b5R, a9D) H (fun s' H' => f9z s' H' ∧ e1Y s' < e1Y (b5R, a9D)) k1w (fun _ _ a b => ⟨a, b⟩)⟩
 unfold e6F
 unfold X7 at h
 refine f5s I (fun b1r s8 c0O d7d => ?_) (fun b1r => ?_)
 ·replace h := h.1 b1r
  refine a7 (o2 _ _ (vB true) rfl) ?_
  refine o0 (fun e => ?_) (fun e => by cases e)
  refine a7 (y6 _ _ _ _ _ _) ?_
  exact hn2 _ _ _ (hm2 _ _ h).2 ⟨((IntKind.wrap .i64 (b5R + 1)), (a9D + (Utf8.decode x0 a9D).2)), H, rfl, rfl, c0O, (hm2 _ _ h).1⟩
 ·replace h := h.2 b1r
  refine a7 (o2 _ _ (vB false) rfl) ?_
  refine o0 (fun e => by cases e) (fun e => ?_)
  exact hx1 _ _ (hj1 b5R H _ I.drop h)
theorem b4x (x0 : ByteArray) {H : Hp} {K : Int → Hp → Prop} (h : a0v x0 H K) : a3Y x0 H K := by
 intro w I
 refine g8s ?_
 refine b3W x0 I (fun r0 H' w' I' hk => ⟨H', _, I', r0, rfl, rfl, hk⟩) h
def a4l (b7g : Int) (b7h : Int) (b7i : Int) (b7j : Bool) (b7k : Bool) (b5b : (List ByteArray)) (H : Hp) (K : Bool → o5 → (List ByteArray) → Hp → Prop) : Prop :=
 K true (o5.mk b7g b7h b7i b7j b7k (Sl.mk none 0 0)) b5b H
def a4m (c5Q : Int) (a5d : Sl) (p1 : Int) (a8S : Int) (a6x : Int) (a6y : Int) (a6z : Int) (a6A : Bool) (a6B : Bool) (a5y : (List ByteArray)) (H : Hp) (n2 : (Int × Int × Int × Int × Bool × Bool × (List ByteArray)) → Hp → Prop) (K : Bool → o5 → (List ByteArray) → Hp → Prop) : Prop :=
 (a8S < p1 →
 (0 : Int) ≤ a8S ∧ (a8S : Int) < a5d.n ∧ ∃ e2a : i5, EltH H a5d a8S 1 [(E7 e2a)] ∧
 a7H (o5.mk a6x a6y a6z a6A a6B (Sl.mk none 0 0)) a5y e2a c5Q H (fun (b4f : Bool) (O6 : o5) (b9Y : (List ByteArray)) (c5Z : Hp) =>
 TG ((!b4f) = false) (b0J e2a c5Z) (Sl.mk none 0 0) c5Z (fun (c6a : Sl) (b8S : Hp) =>
 TG ((!b4f) = false) (fun k_ => a3v c6a (IntKind.wrap .i64 (c5Q + 1)) (o5.mk ((O6).fnodes) ((O6).fdepth) ((O6).fe) ((O6).fform) ((O6).fnamed) (Sl.mk none 0 0)) b9Y b8S fun b2m a0d a9q H_ => k_ (b2m, a0d, a9q) H_) (false, (o5.mk ((O6).fnodes) ((O6).fdepth) ((O6).fe) ((O6).fform) ((O6).fnamed) (Sl.mk none 0 0)), b9Y) b8S (fun (a5h : Bool × o5 × (List ByteArray)) (a9j : Hp) =>
 (((!b4f) || (!a5h.1)) = true →
 K false (o5.mk ((a5h.2.1).fnodes) ((a5h.2.1).fdepth) ((a5h.2.1).fe) ((a5h.2.1).fform) ((a5h.2.1).fnamed) (Sl.mk none 0 0)) a5h.2.2 a9j) ∧
 (((!b4f) || (!a5h.1)) = false →
 n2 ((IntKind.wrap .i64 (a8S + 1)), ((a5h.2.1).fnodes), ((a5h.2.1).fdepth), ((a5h.2.1).fe), ((a5h.2.1).fform), ((a5h.2.1).fnamed), a5h.2.2) a9j))))) ∧
 (¬ (a8S < p1) →
 a4l a6x a6y a6z a6A a6B a5y H K)
def a6O (x0 : Sl) (x1 : Int) (x2 : o5) (c0D : (List ByteArray)) (H : Hp) (K : Bool → o5 → (List ByteArray) → Hp → Prop) : Prop :=
 TL ((0, x2.fnodes, x2.fdepth, x2.fe, x2.fform, x2.fnamed, c0D) : Int × Int × Int × Int × Bool × Bool × (List ByteArray)) H fun (s : Int × Int × Int × Int × Bool × Bool × (List ByteArray)) H n2 => a4m x1 x0 (x0.n : Int) s.1 s.2.1 s.2.2.1 s.2.2.2.1 s.2.2.2.2.1 s.2.2.2.2.2.1 s.2.2.2.2.2.2 H n2 K
theorem c2h (x0 : Sl) (x1 : Int) (x2 : o5) (c0D : (List ByteArray)) (g2 g2b g3 : Nat) (c2P : Sl) (c2Q : Frag) (e9i : RowL 9 1 N2 c2P c0D c2Q) {K : Bool → o5 → (List ByteArray) → Hp → Prop} (I : Inv w0 ps0 H0 H [bx g2 102 [(Value.pointer (some ⟨g2b, 0, none⟩))], bx g2b 101 [(vi x2.fnodes), (vi x2.fdepth), (vi x2.fe), (vB x2.fform), (vB x2.fnamed), (vs c2P)], c2Q, bx g3 170 [(Value.func (.func 110) #[] #[(Value.pointer (some ⟨g2, 0, none⟩)), (Value.pointer (some ⟨g3, 0, none⟩))])]] w) (hR : ∀ (r0 : Bool) (y0 : o5) (b4m : (List ByteArray)) (b1h : Sl) (b1i : Frag) (H' : Hp) (w' : World) (_ : RowL 9 1 N2 b1h b4m b1i) (_ : Inv w0 ps0 H0 H' [bx g2 102 [(Value.pointer (some ⟨g2b, 0, none⟩))], bx g2b 101 [(vi y0.fnodes), (vi y0.fdepth), (vi y0.fe), (vB y0.fform), (vB y0.fnamed), (vs b1h)], b1i, bx g3 170 [(Value.func (.func 110) #[] #[(Value.pointer (some ⟨g2, 0, none⟩)), (Value.pointer (some ⟨g3, 0, none⟩))])]] w') (_ : K r0 y0 b4m H'), R (vB r0) w') (h : a6O x0 x1 x2 c0D H K) : e8h (vs x0) (vi x1) (Value.pointer (some ⟨g2, 0, none⟩)) (Value.pointer (some ⟨g3, 0, none⟩)) w R E := by
 unfold a6O at h
 unfold e8h
 have hj1 : ∀ (b7g : Int) (b7h : Int) (b7i : Int) (b7j : Bool) (b7k : Bool) (b5b : (List ByteArray)) (c2R : Sl) (c2S : Frag) (H : Hp) (w : World) (_ : RowL 9 1 N2 c2R b5b c2S) (_ : Inv w0 ps0 H0 H [bx g2 102 [(Value.pointer (some ⟨g2b, 0, none⟩))], bx g2b 101 [(vi b7g), (vi b7h), (vi b7i), (vB b7j), (vB b7k), (vs c2R)], bx g3 170 [(Value.func (.func 110) #[] #[(Value.pointer (some ⟨g2, 0, none⟩)), (Value.pointer (some ⟨g3, 0, none⟩))])], c2S] w) (_ : a4l b7g b7h b7i b7j b7k b5b H K), d6x w R E := by
  intro b7g b7h b7i b7j b7k b5b c2R c2S H w f6N I h
  unfold d6x
  intro _
  unfold a4l at h
  exact hR true (o5.mk b7g b7h b7i b7j b7k (Sl.mk none 0 0)) b5b c2R c2S H _ f6N ((((I.bring 2).bring 3).bring 3).bring 3) h
 refine t6 fun j1 hx1 => ?_
 refine a7 (b9n _ _ _) ?_
 obtain ⟨f9A, e2b, k1x, k1y⟩ := h
 refine B5 (J := fun n l w => ∃ (s : Int × Int × Int × Int × Bool × Bool × (List ByteArray)) (H : Hp) (b5c : Sl) (b5d : Frag) , n = e2b s ∧ l = (match s with | (a8S, a6x, a6y, a6z, a6A, a6B, a5y) => [(vi a8S)]) ∧ (match s with | (a8S, a6x, a6y, a6z, a6A, a6B, a5y) => RowL 9 1 N2 b5c a5y b5d) ∧ (match s with | (a8S, a6x, a6y, a6z, a6A, a6B, a5y) => Inv w0 ps0 H0 H [bx g2 102 [(Value.pointer (some ⟨g2b, 0, none⟩))], bx g2b 101 [(vi a6x), (vi a6y), (vi a6z), (vB a6A), (vB a6B), (vs b5c)], bx g3 170 [(Value.func (.func 110) #[] #[(Value.pointer (some ⟨g2, 0, none⟩)), (Value.pointer (some ⟨g3, 0, none⟩))])], b5d] w) ∧ f9A s H) ⟨_, (0, x2.fnodes, x2.fdepth, x2.fe, x2.fform, x2.fnamed, c0D), H, c2P, c2Q, rfl, rfl, e9i, ((((I.bring 2).bring 3).bring 3).bring 3), k1x⟩ ?_
 rintro l0x τ_92 w next2 ⟨⟨a8S, a6x, a6y, a6z, a6A, a6B, a5y⟩, H, b5c, b5d, rfl, e1v, c8S, I, k1z⟩ hn2
 dsimp only at e1v I c8S
 simp only [List.map_cons, List.map_nil, List.cons.injEq, and_true] at e1v
 have e11 := e1v
 simp only [e11]
 obtain ⟨n2, hm2, h⟩ : ∃ n2 : (Int × Int × Int × Int × Bool × Bool × (List ByteArray)) → Hp → Prop, (∀ s' H', n2 s' H' → f9A s' H' ∧ e2b s' < e2b (a8S, a6x, a6y, a6z, a6A, a6B, a5y)) ∧ a4m x1 x0 (x0.n : Int) a8S a6x a6y a6z a6A a6B a5y H n2 K := ⟨_, fun _ _ h => h, k1y (a8S, a6x, a6y, a6z, a6A, a6B, a5y) H (fun s' H' => f9A s' H' ∧ e2b s' < e2b (a8S, a6x, a6y, a6z, a6A, a6B, a5y)) k1z (fun _ _ a b => ⟨a, b⟩)⟩
 unfold e6y
 unfold a4m at h
 refine a7 (w9 _ _ _ _ _ _) ?_
 refine k7 (fun d2m => ?_) (fun d2m => ?_)
 ·replace h := h.1 d2m
  obtain ⟨d2n, c3I, e2a, c3J, h⟩ := h
  obtain ⟨l0y, l0z, c3K, c3J⟩ := c3J
  refine a7 (f5w c3K _ _ _ _ d2n c3I) ?_
  refine f7 (ld1 (v := (E7 e2a)) Tryz.isAgg150 (I.atH c3J)) ?_
  refine a5z I fun c3w c8T => ?_
  refine A5 (ld1 Tryz.isAgg102 (c8T.at1 (o := 0) (vs := [(Value.pointer (some ⟨g2b, 0, none⟩))]) (nb rfl) rfl)) ?_
  refine g9 (cap := []) (fun args w => Tryz.call111 args w) ?_
  refine l7 (Fi := [bx g2b 101 [(vi a6x), (vi a6y), (vi a6z), (vB a6A), (vB a6B), (vs b5c)], b5d]) (Fr := [bx g2 102 [(Value.pointer (some ⟨g2b, 0, none⟩))], bx g3 170 [(Value.func (.func 110) #[] #[(Value.pointer (some ⟨g2, 0, none⟩)), (Value.pointer (some ⟨g3, 0, none⟩))])]]) ((c8T.bring 3).bring 2) (h g2b b5c b5d c8S) (fun k1A c5Z k1B L4 d2o k1C k1D f9B => ?_) (fun _ _ _ _ _ q => q.elim)
  obtain ⟨b4f, O6, b9Y, c0T, c0U, rfl, rfl, e2c, h⟩ := f9B
  refine q9 (T4 _) ?_
  simp only [u5]
  refine q9 (Pu.g fun hb => by have b9 := hb; simp only [i7 b9]; exact (y6 _ _ _ _ _ _)) ?_
  refine A5 (Ld.g fun hb => by have b9 := hb; exact (ld1 Tryz.isAgg170 ((d2o.bring 3).at1 (o := 0) (vs := [(Value.func (.func 110) #[] #[(Value.pointer (some ⟨g2, 0, none⟩)), (Value.pointer (some ⟨g3, 0, none⟩))])]) (nb rfl) rfl))) ?_
  refine X8 (D := fun i3j b8L => ∃ (c6a : Sl) (b8S : Hp), i3j = (gv (!b4f) false (vs c6a)) ∧ (Inv w0 ps0 H0 b8S [bx g2b 101 [(vi ((O6).fnodes)), (vi ((O6).fdepth)), (vi ((O6).fe)), (vB ((O6).fform)), (vB ((O6).fnamed)), (vs c0T)], c0U, bx g2 102 [(Value.pointer (some ⟨g2b, 0, none⟩))], bx g3 170 [(Value.func (.func 110) #[] #[(Value.pointer (some ⟨g2, 0, none⟩)), (Value.pointer (some ⟨g3, 0, none⟩))])]] b8L) ∧ (∀ i, i < L4.heap.size → ¬ inF [] i → b8L.heap[i]? = L4.heap[i]?) ∧ Hle c5Z b8S ∧ (TG ((!b4f) = false) (fun k_ => a3v c6a (IntKind.wrap .i64 (x1 + 1)) (o5.mk ((O6).fnodes) ((O6).fdepth) ((O6).fe) ((O6).fform) ((O6).fnamed) (Sl.mk none 0 0)) b9Y b8S fun b2m a0d a9q H_ => k_ (b2m, a0d, a9q) H_) (false, (o5.mk ((O6).fnodes) ((O6).fdepth) ((O6).fe) ((O6).fform) ((O6).fnamed) (Sl.mk none 0 0)), b9Y) b8S (fun (a5h : Bool × o5 × (List ByteArray)) (a9j : Hp) =>
 (((!b4f) || (!a5h.1)) = true →
 K false (o5.mk ((a5h.2.1).fnodes) ((a5h.2.1).fdepth) ((a5h.2.1).fe) ((a5h.2.1).fform) ((a5h.2.1).fnamed) (Sl.mk none 0 0)) a5h.2.2 a9j) ∧
 (((!b4f) || (!a5h.1)) = false →
 n2 ((IntKind.wrap .i64 (a8S + 1)), ((a5h.2.1).fnodes), ((a5h.2.1).fdepth), ((a5h.2.1).fe), ((a5h.2.1).fform), ((a5h.2.1).fnamed), a5h.2.2) a9j)))) (fun e2d => ?_) (fun e2d => ?_) ?_
  ·replace h := h.1 e2d
   have b9 := e2d
   simp only [i7 b9]
   refine c3B d2o h (fun c6a b8S b8L e9j d2e f9C h => ?_)
   exact ⟨c6a, b8S, by rfl, e9j, f9C, d2e, h⟩
  ·exact ⟨(Sl.mk none 0 0), c5Z, by rw [a4L e2d], d2o, fun _ _ _ => rfl, Hle.refl _, h.2 e2d⟩
  ·clear h
   rintro i3j b8L ⟨c6a, b8S, rfl, e9j, f9C, d2e, h⟩
   refine ⟨(f9C _ (d2o.bring 3).lt1 (Inv.a3h (Fi := []) (d2o.bring 3))), ?_⟩
   refine X8 (D := fun e9k e2e => ∃ (b2m : Bool) (a0d : o5) (a9q : (List ByteArray)) (a9j : Hp) (b4y : Sl) (b4z : Frag) , e9k = (gv (!b4f) false (vB b2m)) ∧ (RowL 9 1 N2 b4y a9q b4z) ∧ (Inv w0 ps0 H0 a9j [bx g2 102 [(Value.pointer (some ⟨g2b, 0, none⟩))], bx g2b 101 [(vi ((a0d).fnodes)), (vi ((a0d).fdepth)), (vi ((a0d).fe)), (vB ((a0d).fform)), (vB ((a0d).fnamed)), (vs b4y)], b4z, bx g3 170 [(Value.func (.func 110) #[] #[(Value.pointer (some ⟨g2, 0, none⟩)), (Value.pointer (some ⟨g3, 0, none⟩))])]] e2e) ∧ (∀ i, i < b8L.heap.size → ¬ inF [bx g2 102 [(Value.pointer (some ⟨g2b, 0, none⟩))], bx g2b 101 [(vi ((O6).fnodes)), (vi ((O6).fdepth)), (vi ((O6).fe)), (vB ((O6).fform)), (vB ((O6).fnamed)), (vs c0T)], c0U, bx g3 170 [(Value.func (.func 110) #[] #[(Value.pointer (some ⟨g2, 0, none⟩)), (Value.pointer (some ⟨g3, 0, none⟩))])]] i → e2e.heap[i]? = b8L.heap[i]?) ∧ Hle b8S a9j ∧ ((((!b4f) || (!b2m)) = true →
 K false (o5.mk ((a0d).fnodes) ((a0d).fdepth) ((a0d).fe) ((a0d).fform) ((a0d).fnamed) (Sl.mk none 0 0)) a9q a9j) ∧
 (((!b4f) || (!b2m)) = false →
 n2 ((IntKind.wrap .i64 (a8S + 1)), ((a0d).fnodes), ((a0d).fdepth), ((a0d).fe), ((a0d).fform), ((a0d).fnamed), a9q) a9j))) (fun e2f => ?_) (fun e2f => ?_) ?_
   ·replace h := h.1 e2f
    have b9 := e2f
    simp only [i7 b9]
    refine g9 (cap := [(Value.pointer (some ⟨g2, 0, none⟩)), (Value.pointer (some ⟨g3, 0, none⟩))]) (fun args w => Tryz.call110 args w) ?_
    refine l7 (Fi := [bx g2 102 [(Value.pointer (some ⟨g2b, 0, none⟩))], bx g2b 101 [(vi ((O6).fnodes)), (vi ((O6).fdepth)), (vi ((O6).fe)), (vB ((O6).fform)), (vB ((O6).fnamed)), (vs c0T)], c0U, bx g3 170 [(Value.func (.func 110) #[] #[(Value.pointer (some ⟨g2, 0, none⟩)), (Value.pointer (some ⟨g3, 0, none⟩))])]]) (Fr := []) ((((e9j.bring 3).bring 2).bring 2).bring 3) (h g2 g2b g3 c0T c0U e2c) (fun e9k a9j k1E e2e c6b b3G f9D f9E => ?_) (fun _ _ _ _ _ q => q.elim)
    obtain ⟨b2m, a0d, a9q, b4y, b4z, rfl, rfl, c6c, h⟩ := f9E
    exact ⟨b2m, a0d, a9q, a9j, b4y, b4z, by rfl, c6c, c6b, f9D, b3G, h⟩
   ·exact ⟨false, (o5.mk ((O6).fnodes) ((O6).fdepth) ((O6).fe) ((O6).fform) ((O6).fnamed) (Sl.mk none 0 0)), b9Y, b8S, c0T, c0U, by rw [a4L e2f], e2c, ((((e9j.bring 3).bring 2).bring 2).bring 3), fun _ _ _ => rfl, Hle.refl _, h.2 e2f⟩
   ·clear h
    rintro e9k e2e ⟨b2m, a0d, a9q, a9j, b4y, b4z, rfl, c6c, c6b, f9D, b3G, h⟩
    refine q9 (Pu.g fun hb => by have b9 := hb; simp only [i7 b9]; exact (T4 _)) ?_
    refine q9 (J4 _ _) ?_
    refine o0 (fun c0V => ?_) (fun c0V => ?_)
    ·replace h := h.1 c0V
     exact hR false (o5.mk ((a0d).fnodes) ((a0d).fdepth) ((a0d).fe) ((a0d).fform) ((a0d).fnamed) (Sl.mk none 0 0)) a9q b4y b4z a9j _ c6c ((((c6b.bring 3).bring 3).bring 3).bring 3) h
    ·replace h := h.2 c0V
     refine a7 (y6 _ _ _ _ _ _) ?_
     exact hn2 _ _ _ (hm2 _ _ h).2 ⟨((IntKind.wrap .i64 (a8S + 1)), ((a0d).fnodes), ((a0d).fdepth), ((a0d).fe), ((a0d).fform), ((a0d).fnamed), a9q), a9j, b4y, b4z, rfl, rfl, c6c, ((((c6b.bring 2).bring 3).bring 3).bring 3), (hm2 _ _ h).1⟩
 ·replace h := h.2 d2m
  exact hx1 _ _ (hj1 a6x a6y a6z a6A a6B a5y b5c b5d H _ c8S ((((I.bring 3).bring 3).bring 3).bring 3) h)
theorem c3L (x0 : Sl) (x1 : Int) (x2 : o5) (c0D : (List ByteArray)) {H : Hp} {K : Bool → o5 → (List ByteArray) → Hp → Prop} (h : a6O x0 x1 x2 c0D H K) : a3v x0 x1 x2 c0D H K := by
 intro g2 g2b g3 c2P c2Q e9i w I
 refine g7J ?_
 refine c2h x0 x1 x2 c0D g2 g2b g3 c2P c2Q e9i I (fun r0 y0 b4m b1h b1i H' w' e2g I' hk => ⟨H', _, I', r0, y0, b4m, b1h, b1i, rfl, rfl, e2g, hk⟩) h
def b0r (x0 : m5) (H : Hp) (K : o5 → Hp → Prop) : Prop :=
 P3 x0.z8 H (fun (o6 : Sl) (H_8 : Hp) =>
 C2 x0.V3 H_8 (fun (o7 : Sl) (b2f : Hp) =>
 ∀ (b7e : Sl) (a8d : Hp), Hle b2f a8d → SlH a8d 1 csl b7e [o6, o7] → b7e.n ≤ b7e.c →
 I2 b7e a8d (fun (d0e : Sl) (b8R : Hp) =>
 a4Z d0e b8R (fun (e9l : o5) (b5S : Hp) =>
 K e9l b5S))))
theorem c8U (x0 : m5) {K : o5 → Hp → Prop} (I : Inv w0 ps0 H0 H [] w) (hR : ∀ (r0 : o5) (gr0 : Nat) (H' : Hp) (w' : World) (_ : Inv w0 ps0 H0 H' [bx gr0 101 (b3g r0)] w') (_ : K r0 H'), R (Value.pointer (some ⟨gr0, 0, none⟩)) w') (h : b0r x0 H K) : F43 (Value.agg (k4 x0).toArray) w R E := by
 unfold b0r at h
 unfold F43
 refine J5 I (cs := (k4 x0)) rfl fun g_2 w_3 I_4 k_5 => ?_
 refine a5z I_4 fun w_6 I_7 => ?_
 refine q9 a1G ?_
 refine q9 a3D ?_
 refine A5 (ld1 Tryz.isAgg22 (I_7.at1 (o := 0) (vs := [(vs x0.z8)]) (nb rfl) rfl)) ?_
 refine A5 (ld1 Tryz.isAgg23 (I_7.at1 (o := 1) (vs := [(vs x0.V3)]) (nb rfl) rfl)) ?_
 refine g9 (cap := []) (fun args w => Tryz.call76 args w) ?_
 refine l7 (Fi := []) (Fr := [bx g_2 25 (k4 x0)]) I_7 (h) (fun f9s H_8 f9t w_9 b2N c5X c0N d2i => ?_) (fun _ _ _ _ _ q => q.elim)
 obtain ⟨o6, rfl, rfl, h⟩ := d2i
 refine ⟨(c0N _ I_7.lt1 (Inv.a3h (Fi := []) I_7)), ?_⟩
 refine g9 (cap := []) (fun args w => Tryz.call78 args w) ?_
 refine l7 (Fi := []) (Fr := [bx g_2 25 (k4 x0)]) b2N (h) (fun f9u b2f f9v s8 c0O f9w d7d d2j => ?_) (fun _ _ _ _ _ q => q.elim)
 obtain ⟨o7, rfl, rfl, h⟩ := d2j
 refine a5A (e := 137) (c := csl) (xs := [o6, o7]) c0O (d9Z _ _ _ _ _ _) rfl rfl d8w d8x (nb rfl) fun b7e e1T a4y e1U b8O d6S => ?_
 obtain ⟨a8d, d2k, c5C, e1V, e1W⟩ := Inv.freezeC b8O e1U (by decide)
 replace h := h b7e a8d c5C e1V e1W
 refine g9 (cap := []) (fun args w => Tryz.call75 args w) ?_
 refine l7 (Fi := []) (Fr := [bx g_2 25 (k4 x0)]) d2k (h) (fun k1p b8R k1q b8J a9Y k1r k1s f9x => ?_) (fun _ _ _ _ _ q => q.elim)
 obtain ⟨d0e, rfl, rfl, h⟩ := f9x
 refine g9 (cap := []) (fun args w => Tryz.call65 args w) ?_
 refine l7 (Fi := []) (Fr := [bx g_2 25 (k4 x0)]) a9Y (h) (fun k1F b5S k1G M6 e2h k1H i3k f9F => ?_) (fun _ _ _ _ _ q => q.elim)
 obtain ⟨e9l, i3l, rfl, rfl, h⟩ := f9F
 exact hR e9l i3l b5S _ (e2h.bring 1).drop h
theorem d1r (x0 : m5) {H : Hp} {K : o5 → Hp → Prop} (h : b0r x0 H K) : b3I x0 H K := by
 intro w I
 refine h6M ?_
 refine c8U x0 I (fun r0 gr0 H' w' I' hk => ⟨H', _, I', r0, gr0, rfl, rfl, hk⟩) h
def a8T (x0 : m5) (H : Hp) (K : Int → Hp → Prop) : Prop :=
 b3I x0 H (fun (C1 : o5) (H_6 : Hp) =>
 K C1.fe H_6)
theorem c6d (x0 : m5) {K : Int → Hp → Prop} (I : Inv w0 ps0 H0 H [] w) (hR : ∀ (r0 : Int) (H' : Hp) (w' : World) (_ : Inv w0 ps0 H0 H' [] w') (_ : K r0 H'), R (vi r0) w') (h : a8T x0 H K) : F24 (Value.agg (k4 x0).toArray) w R E := by
 unfold a8T at h
 unfold F24
 refine J5 I (cs := (k4 x0)) rfl fun g_2 w_3 I_4 k_5 => ?_
 refine f7 (ldA Tryz.isAgg25 Tryz.sizeOf25 rfl (I_4.at1 (o := 0) (vs := (k4 x0)) (nb rfl) rfl)) ?_
 refine g9 (cap := []) (fun args w => Tryz.call43 args w) ?_
 refine l7 (Fi := []) (Fr := [bx g_2 25 (k4 x0)]) I_4 (h) (fun b7c H_6 b5P w_7 I_8 b7d k_9 a6w => ?_) (fun _ _ _ _ _ q => q.elim)
 obtain ⟨C1, k4R, rfl, rfl, h⟩ := a6w
 refine a7 (A7 _) ?_
 refine a7 a9S ?_
 refine f7 (ld1 Tryz.isAgg27 (I_8.at1 (o := 2) (vs := [(vi C1.fe)]) (nb rfl) rfl)) ?_
 exact hR C1.fe H_6 _ I_8.drop.drop h
theorem c7P (x0 : m5) {H : Hp} {K : Int → Hp → Prop} (h : a8T x0 H K) : b2b x0 H K := by
 intro w I
 refine h5V ?_
 refine c6d x0 I (fun r0 H' w' I' hk => ⟨H', _, I', r0, rfl, rfl, hk⟩) h
def a0w (k1I : Int) (d4h : a8) (b4A : Int) (b1s : d9) (H : Hp) (n1 : (Int × d9) → Hp → Prop) (K : d9 → Hp → Prop) : Prop :=
 (((decide (b4A < (d4h.i4.n : Int))) && (decide (b1s.fbad = 0))) = true →
 (0 : Int) ≤ b4A ∧ (b4A : Int) < d4h.i4.n ∧ ∃ b8T : a8, EltH H d4h.i4 b4A 4 (b7 b8T) ∧
 Y2 b1s b8T (IntKind.wrap .i64 (k1I + 1)) H (fun (e9m : d9) (b5S : Hp) =>
 n1 ((IntKind.wrap .i64 (b4A + 1)), e9m) b5S)) ∧
 (((decide (b4A < (d4h.i4.n : Int))) && (decide (b1s.fbad = 0))) = false →
 K b1s H)
def a2d (x0 : d9) (x1 : a8) (x2 : Int) (H : Hp) (K : d9 → Hp → Prop) : Prop :=
 T0 x0 x2 H (fun (C1 : Bool) (U6 : d9) (H_6 : Hp) =>
 ((!C1) = true →
 K U6 H_6) ∧
 ((!C1) = false →
 TL ((0, U6) : Int × d9) H_6 fun (s : Int × d9) H n1 => a0w x2 x1 s.1 s.2 H n1 K))
theorem b5T (x0 : d9) (x1 : a8) (x2 : Int) (g0 : Nat) {K : d9 → Hp → Prop} (I : Inv w0 ps0 H0 H [bx g0 108 (k8 x0)] w) (hR : ∀ (y0 : d9) (H' : Hp) (w' : World) (_ : Inv w0 ps0 H0 H' [bx g0 108 (k8 y0)] w') (_ : K y0 H'), R (Value.tuple #[]) w') (h : a2d x0 x1 x2 H K) : e8k (Value.pointer (some ⟨g0, 0, none⟩)) (Value.agg (b7 x1).toArray) (vi x2) w R E := by
 unfold a2d at h
 unfold e8k
 refine J5 I (cs := (b7 x1)) rfl fun g_2 w_3 I_4 k_5 => ?_
 refine g9 (cap := []) (fun args w => Tryz.call84 args w) ?_
 refine l7 (Fi := [bx g0 108 (k8 x0)]) (Fr := [bx g_2 53 (b7 x1)]) (I_4.bring 1) (h g0) (fun b7c H_6 b5P w_7 I_8 b7d k_9 a6w => ?_) (fun _ _ _ _ _ q => q.elim)
 obtain ⟨C1, U6, rfl, rfl, h⟩ := a6w
 refine a7 (T4 _) ?_
 refine o0 (fun d2p => ?_) (fun d2p => ?_)
 ·replace h := h.1 d2p
  exact hR U6 H_6 _ (I_8.bring 1).drop h
 ·replace h := h.2 d2p
  obtain ⟨f9G, e2i, k1J, k1K⟩ := h
  refine B5 (J := fun n l w => ∃ (s : Int × d9) (H : Hp) , n = e2i s ∧ l = (match s with | (b4A, b1s) => [(vi b4A)]) ∧ (match s with | (b4A, b1s) => Inv w0 ps0 H0 H [bx g0 108 (k8 b1s), bx g_2 53 (b7 x1)] w) ∧ f9G s H) ⟨_, (0, U6), H_6, rfl, rfl, ((I_8.bring 1).bring 1), k1J⟩ ?_
  rintro l0A τ_62 w next1 ⟨⟨b4A, b1s⟩, H, rfl, e2j, I, k1L⟩ hn1
  dsimp only at e2j I
  simp only [List.map_cons, List.map_nil, List.cons.injEq, and_true] at e2j
  have e6 := e2j
  simp only [e6]
  obtain ⟨n1, hm1, h⟩ : ∃ n1 : (Int × d9) → Hp → Prop, (∀ s' H', n1 s' H' → f9G s' H' ∧ e2i s' < e2i (b4A, b1s)) ∧ a0w x2 x1 b4A b1s H n1 K := ⟨_, fun _ _ h => h, k1K (b4A, b1s) H (fun s' H' => f9G s' H' ∧ e2i s' < e2i (b4A, b1s)) k1L (fun _ _ a b => ⟨a, b⟩)⟩
  unfold e6C
  unfold a0w at h
  refine a7 v8 ?_
  refine f7 (ld1 Tryz.isAgg51 ((I.bring 1).at1 (o := 3) (vs := [(vs x1.i4)]) (nb rfl) rfl)) ?_
  refine a7 (J3 _ _ _) ?_
  refine a7 (w9 _ _ _ _ _ _) ?_
  simp only [u5]
  refine a7 (Pu.g fun hb => by have b9 := hb; simp only [i7 b9]; exact (A7 _)) ?_
  refine a7 (Pu.g fun hb => by have b9 := hb; simp only [i7 b9]; exact a0b) ?_
  refine f7 (Ld.g fun hb => by have b9 := hb; simp only [i7 b9]; exact (ld1 Tryz.isAgg3 (I.at1 (o := 2) (vs := [(vi b1s.fbad)]) (nb rfl) rfl))) ?_
  refine a7 (Pu.g fun hb => by have b9 := hb; simp only [i7 b9]; exact (i8 _ _ _ _ _ _)) ?_
  refine a7 (s7 _ _) ?_
  refine o0 (fun d2q => ?_) (fun d2q => ?_)
  ·replace h := h.1 d2q
   refine a7 v8 ?_
   refine f7 (ld1 Tryz.isAgg51 ((I.bring 1).at1 (o := 3) (vs := [(vs x1.i4)]) (nb rfl) rfl)) ?_
   obtain ⟨a6p, e2k, b8T, c6e, h⟩ := h
   obtain ⟨k1M, k1N, d2r, c6e⟩ := c6e
   refine a7 (A0 d2r _ _ _ _ a6p e2k) ?_
   refine f7 (ldA (vs := (b7 b8T)) Tryz.isAgg53 Tryz.sizeOf53 rfl (I.atH c6e)) ?_
   refine a7 (y6 _ _ _ _ _ _) ?_
   refine g9 (cap := []) (fun args w => Tryz.call121 args w) ?_
   refine l7 (Fi := [bx g0 108 (k8 b1s)]) (Fr := [bx g_2 53 (b7 x1)]) I (h g0) (fun k1F b5S k1G M6 e2h k1H i3k f9F => ?_) (fun _ _ _ _ _ q => q.elim)
   obtain ⟨e9m, rfl, rfl, h⟩ := f9F
   refine a7 (y6 _ _ _ _ _ _) ?_
   exact hn1 _ _ _ (hm1 _ _ h).2 ⟨((IntKind.wrap .i64 (b4A + 1)), e9m), b5S, rfl, rfl, ((e2h.bring 1).bring 1), (hm1 _ _ h).1⟩
  ·replace h := h.2 d2q
   exact hR b1s H _ (I.bring 1).drop h
theorem b6z (x0 : d9) (x1 : a8) (x2 : Int) {H : Hp} {K : d9 → Hp → Prop} (h : a2d x0 x1 x2 H K) : Y2 x0 x1 x2 H K := by
 intro g0 w I
 refine g8a ?_
 refine b5T x0 x1 x2 g0 I (fun y0 H' w' I' hk => ⟨H', _, I', y0, rfl, rfl, hk⟩) h
def a0x (b5R : Int) (a3z : b8) (b0e : Int) (a0y : d9) (H : Hp) (n2 : (Int × d9) → Hp → Prop) (K : d9 → Hp → Prop) : Prop :=
 (((decide (b0e < (a3z.p8.n : Int))) && (decide (a0y.fbad = 0))) = true →
 (0 : Int) ≤ b0e ∧ (b0e : Int) < a3z.p8.n ∧ ∃ c5L : b8, EltH H a3z.p8 b0e 4 (d6 c5L) ∧
 a1V a0y c5L (IntKind.wrap .i64 (b5R + 1)) H (fun (c5M : d9) (d2d : Hp) =>
 n2 ((IntKind.wrap .i64 (b0e + 1)), c5M) d2d)) ∧
 (((decide (b0e < (a3z.p8.n : Int))) && (decide (a0y.fbad = 0))) = false →
 K a0y H)
def a0z (b5Q : Int) (R1 : d9) (r7 : b8) (H : Hp) (K : d9 → Hp → Prop) : Prop :=
 TL ((0, R1) : Int × d9) H fun (s : Int × d9) H n2 => a0x b5Q r7 s.1 s.2 H n2 K
def a0A (i3m : Int) (a1i : b8) (U5 : Int) (b1t : d9) (H : Hp) (n3 : (Int × d9) → Hp → Prop) (K : d9 → Hp → Prop) : Prop :=
 (((decide (U5 < (a1i.i6.n : Int))) && (decide (b1t.fbad = 0))) = true →
 (0 : Int) ≤ U5 ∧ (U5 : Int) < a1i.i6.n ∧ ∃ e9n : a8, EltH H a1i.i6 U5 4 (b7 e9n) ∧
 Y2 b1t e9n (IntKind.wrap .i64 (i3m + 1)) H (fun (e2l : d9) (f9H : Hp) =>
 n3 ((IntKind.wrap .i64 (U5 + 1)), e2l) f9H)) ∧
 (((decide (U5 < (a1i.i6.n : Int))) && (decide (b1t.fbad = 0))) = false →
 a0z i3m b1t a1i H K)
def a2e (x0 : d9) (x1 : b8) (x2 : Int) (H : Hp) (K : d9 → Hp → Prop) : Prop :=
 T0 x0 x2 H (fun (C1 : Bool) (U6 : d9) (H_6 : Hp) =>
 ((!C1) = true →
 K U6 H_6) ∧
 ((!C1) = false →
 TL ((0, U6) : Int × d9) H_6 fun (s : Int × d9) H n3 => a0A x2 x1 s.1 s.2 H n3 K))
theorem b5U (x0 : d9) (x1 : b8) (x2 : Int) (g0 : Nat) {K : d9 → Hp → Prop} (I : Inv w0 ps0 H0 H [bx g0 108 (k8 x0)] w) (hR : ∀ (y0 : d9) (H' : Hp) (w' : World) (_ : Inv w0 ps0 H0 H' [bx g0 108 (k8 y0)] w') (_ : K y0 H'), R (Value.tuple #[]) w') (h : a2e x0 x1 x2 H K) : e8j (Value.pointer (some ⟨g0, 0, none⟩)) (Value.agg (d6 x1).toArray) (vi x2) w R E := by
 unfold a2e at h
 unfold e8j
 refine J5 I (cs := (d6 x1)) rfl fun g_2 w_3 I_4 k_5 => ?_
 refine g9 (cap := []) (fun args w => Tryz.call84 args w) ?_
 refine l7 (Fi := [bx g0 108 (k8 x0)]) (Fr := [bx g_2 59 (d6 x1)]) (I_4.bring 1) (h g0) (fun b7c H_6 b5P w_7 I_8 b7d k_9 a6w => ?_) (fun _ _ _ _ _ q => q.elim)
 obtain ⟨C1, U6, rfl, rfl, h⟩ := a6w
 refine a7 (T4 _) ?_
 refine o0 (fun c6f => ?_) (fun c6f => ?_)
 ·replace h := h.1 c6f
  exact hR U6 H_6 _ (I_8.bring 1).drop h
 ·replace h := h.2 c6f
  have hj1 : ∀ (R1 : d9) (H : Hp) (w : World) (_ : Inv w0 ps0 H0 H [bx g0 108 (k8 R1), bx g_2 59 (d6 x1)] w) (_ : a0z x2 R1 x1 H K), d6A (Value.pointer (some ⟨g0, 0, none⟩)) (vi x2) (Value.pointer (some ⟨g_2, 0, none⟩)) w R E := by
   intro R1 H w I h
   unfold d6A
   intro _
   unfold a0z at h
   obtain ⟨c0H, b2M, e1K, e1L⟩ := h
   refine B5 (J := fun n l w => ∃ (s : Int × d9) (H : Hp) , n = b2M s ∧ l = (match s with | (b0e, a0y) => [(vi b0e)]) ∧ (match s with | (b0e, a0y) => Inv w0 ps0 H0 H [bx g0 108 (k8 a0y), bx g_2 59 (d6 x1)] w) ∧ c0H s H) ⟨_, (0, R1), H, rfl, rfl, ((I.bring 1).bring 1), e1K⟩ ?_
   rintro i3d τ_78 w next2 ⟨⟨b0e, a0y⟩, H, rfl, b3G, I, e1M⟩ hn2
   dsimp only at b3G I
   simp only [List.map_cons, List.map_nil, List.cons.injEq, and_true] at b3G
   have e7 := b3G
   simp only [e7]
   obtain ⟨n2, hm2, h⟩ : ∃ n2 : (Int × d9) → Hp → Prop, (∀ s' H', n2 s' H' → c0H s' H' ∧ b2M s' < b2M (b0e, a0y)) ∧ a0x x2 x1 b0e a0y H n2 K := ⟨_, fun _ _ h => h, e1L (b0e, a0y) H (fun s' H' => c0H s' H' ∧ b2M s' < b2M (b0e, a0y)) e1M (fun _ _ a b => ⟨a, b⟩)⟩
   unfold e6A
   unfold a0x at h
   refine a7 E5 ?_
   refine f7 (ld1 Tryz.isAgg57 ((I.bring 1).at1 (o := 3) (vs := [(vs x1.p8)]) (nb rfl) rfl)) ?_
   refine a7 (U9 _ _ _) ?_
   refine a7 (w9 _ _ _ _ _ _) ?_
   simp only [u5]
   refine a7 (Pu.g fun hb => by have b9 := hb; simp only [i7 b9]; exact (A7 _)) ?_
   refine a7 (Pu.g fun hb => by have b9 := hb; simp only [i7 b9]; exact a0b) ?_
   refine f7 (Ld.g fun hb => by have b9 := hb; simp only [i7 b9]; exact (ld1 Tryz.isAgg3 (I.at1 (o := 2) (vs := [(vi a0y.fbad)]) (nb rfl) rfl))) ?_
   refine a7 (Pu.g fun hb => by have b9 := hb; simp only [i7 b9]; exact (i8 _ _ _ _ _ _)) ?_
   refine a7 (s7 _ _) ?_
   refine o0 (fun a8J => ?_) (fun a8J => ?_)
   ·replace h := h.1 a8J
    refine a7 E5 ?_
    refine f7 (ld1 Tryz.isAgg57 ((I.bring 1).at1 (o := 3) (vs := [(vs x1.p8)]) (nb rfl) rfl)) ?_
    obtain ⟨c0I, f9a, c5L, c5N, h⟩ := h
    obtain ⟨k0N, k0O, f9b, c5N⟩ := c5N
    refine a7 (S7 f9b _ _ _ _ c0I f9a) ?_
    refine f7 (ldA (vs := (d6 c5L)) Tryz.isAgg59 Tryz.sizeOf59 rfl (I.atH c5N)) ?_
    refine a7 (y6 _ _ _ _ _ _) ?_
    refine g9 (cap := []) (fun args w => Tryz.call120 args w) ?_
    refine l7 (Fi := [bx g0 108 (k8 a0y)]) (Fr := [bx g_2 59 (d6 x1)]) I (h g0) (fun k0P d2d k0Q Q5 f9c d2e k0R f9d => ?_) (fun _ _ _ _ _ q => q.elim)
    obtain ⟨c5M, rfl, rfl, h⟩ := f9d
    refine a7 (y6 _ _ _ _ _ _) ?_
    exact hn2 _ _ _ (hm2 _ _ h).2 ⟨((IntKind.wrap .i64 (b0e + 1)), c5M), d2d, rfl, rfl, ((f9c.bring 1).bring 1), (hm2 _ _ h).1⟩
   ·replace h := h.2 a8J
    exact hR a0y H _ (I.bring 1).drop h
  refine t6 fun j1 hx1 => ?_
  obtain ⟨e9o, d4i, j4H, j4I⟩ := h
  refine B5 (J := fun n l w => ∃ (s : Int × d9) (H : Hp) , n = d4i s ∧ l = (match s with | (U5, b1t) => [(vi U5)]) ∧ (match s with | (U5, b1t) => Inv w0 ps0 H0 H [bx g0 108 (k8 b1t), bx g_2 59 (d6 x1)] w) ∧ e9o s H) ⟨_, (0, U6), H_6, rfl, rfl, ((I_8.bring 1).bring 1), j4H⟩ ?_
  rintro k4Y τ_112 w next3 ⟨⟨U5, b1t⟩, H, rfl, d8F, I, j4J⟩ hn3
  dsimp only at d8F I
  simp only [List.map_cons, List.map_nil, List.cons.injEq, and_true] at d8F
  have e6 := d8F
  simp only [e6]
  obtain ⟨n3, hm3, h⟩ : ∃ n3 : (Int × d9) → Hp → Prop, (∀ s' H', n3 s' H' → e9o s' H' ∧ d4i s' < d4i (U5, b1t)) ∧ a0A x2 x1 U5 b1t H n3 K := ⟨_, fun _ _ h => h, j4I (U5, b1t) H (fun s' H' => e9o s' H' ∧ d4i s' < d4i (U5, b1t)) j4J (fun _ _ a b => ⟨a, b⟩)⟩
  unfold e6B
  unfold a0A at h
  refine a7 M4 ?_
  refine f7 (ld1 Tryz.isAgg51 ((I.bring 1).at1 (o := 2) (vs := [(vs x1.i6)]) (nb rfl) rfl)) ?_
  refine a7 (J3 _ _ _) ?_
  refine a7 (w9 _ _ _ _ _ _) ?_
  simp only [u5]
  refine a7 (Pu.g fun hb => by have b9 := hb; simp only [i7 b9]; exact (A7 _)) ?_
  refine a7 (Pu.g fun hb => by have b9 := hb; simp only [i7 b9]; exact a0b) ?_
  refine f7 (Ld.g fun hb => by have b9 := hb; simp only [i7 b9]; exact (ld1 Tryz.isAgg3 (I.at1 (o := 2) (vs := [(vi b1t.fbad)]) (nb rfl) rfl))) ?_
  refine a7 (Pu.g fun hb => by have b9 := hb; simp only [i7 b9]; exact (i8 _ _ _ _ _ _)) ?_
  refine a7 (s7 _ _) ?_
  refine o0 (fun e9p => ?_) (fun e9p => ?_)
  ·replace h := h.1 e9p
   refine a7 M4 ?_
   refine f7 (ld1 Tryz.isAgg51 ((I.bring 1).at1 (o := 2) (vs := [(vs x1.i6)]) (nb rfl) rfl)) ?_
   obtain ⟨c6g, b8U, e9n, d2s, h⟩ := h
   obtain ⟨l0B, l0C, d7e, d2s⟩ := d2s
   refine a7 (A0 d7e _ _ _ _ c6g b8U) ?_
   refine f7 (ldA (vs := (b7 e9n)) Tryz.isAgg53 Tryz.sizeOf53 rfl (I.atH d2s)) ?_
   refine a7 (y6 _ _ _ _ _ _) ?_
   refine g9 (cap := []) (fun args w => Tryz.call121 args w) ?_
   refine l7 (Fi := [bx g0 108 (k8 b1t)]) (Fr := [bx g_2 59 (d6 x1)]) I (h g0) (fun k4Z f9H k5a a6m k1O k5b k5c j4K => ?_) (fun _ _ _ _ _ q => q.elim)
   obtain ⟨e2l, rfl, rfl, h⟩ := j4K
   refine a7 (y6 _ _ _ _ _ _) ?_
   exact hn3 _ _ _ (hm3 _ _ h).2 ⟨((IntKind.wrap .i64 (U5 + 1)), e2l), f9H, rfl, rfl, ((k1O.bring 1).bring 1), (hm3 _ _ h).1⟩
  ·replace h := h.2 e9p
   exact hx1 _ _ (hj1 b1t H _ ((I.bring 1).bring 1) h)
theorem b6A (x0 : d9) (x1 : b8) (x2 : Int) {H : Hp} {K : d9 → Hp → Prop} (h : a2e x0 x1 x2 H K) : a1V x0 x1 x2 H K := by
 intro g0 w I
 refine g7Y ?_
 refine b5U x0 x1 x2 g0 I (fun y0 H' w' I' hk => ⟨H', _, I', y0, rfl, rfl, hk⟩) h
def a0B (k1P : Int) (Q8 : d8) (b1u : Int) (a0C : d9) (H : Hp) (n4 : (Int × d9) → Hp → Prop) (K : d9 → Hp → Prop) : Prop :=
 (((decide (b1u < (Q8.t7.n : Int))) && (decide (a0C.fbad = 0))) = true →
 (0 : Int) ≤ b1u ∧ (b1u : Int) < Q8.t7.n ∧ ∃ e9q : d8, EltH H Q8.t7 b1u 6 (g8 e9q) ∧
 Y3 a0C e9q (IntKind.wrap .i64 (k1P + 1)) H (fun (e2m : d9) (d2t : Hp) =>
 n4 ((IntKind.wrap .i64 (b1u + 1)), e2m) d2t)) ∧
 (((decide (b1u < (Q8.t7.n : Int))) && (decide (a0C.fbad = 0))) = false →
 K a0C H)
def a0D (k1Q : Int) (a4o : d9) (S5 : d8) (H : Hp) (K : d9 → Hp → Prop) : Prop :=
 TL ((0, a4o) : Int × d9) H fun (s : Int × d9) H n4 => a0B k1Q S5 s.1 s.2 H n4 K
def a0E (i3n : Int) (a7P : d8) (b4B : Int) (N5 : d9) (H : Hp) (n5 : (Int × d9) → Hp → Prop) (K : d9 → Hp → Prop) : Prop :=
 (((decide (b4B < (a7P.v7.n : Int))) && (decide (N5.fbad = 0))) = true →
 (0 : Int) ≤ b4B ∧ (b4B : Int) < a7P.v7.n ∧ ∃ b9u : d8, EltH H a7P.v7 b4B 6 (g8 b9u) ∧
 Y3 N5 b9u (IntKind.wrap .i64 (i3n + 1)) H (fun (e2n : d9) (b7Q : Hp) =>
 n5 ((IntKind.wrap .i64 (b4B + 1)), e2n) b7Q)) ∧
 (((decide (b4B < (a7P.v7.n : Int))) && (decide (N5.fbad = 0))) = false →
 a0D i3n N5 a7P H K)
def a0F (k1R : Int) (b0s : d9) (N9 : d8) (H : Hp) (K : d9 → Hp → Prop) : Prop :=
 TL ((0, b0s) : Int × d9) H fun (s : Int × d9) H n5 => a0E k1R N9 s.1 s.2 H n5 K
def a0G (i3o : Int) (a7i : d8) (b4C : Int) (a0H : d9) (H : Hp) (n6 : (Int × d9) → Hp → Prop) (K : d9 → Hp → Prop) : Prop :=
 (((decide (b4C < (a7i.i6.n : Int))) && (decide (a0H.fbad = 0))) = true →
 (0 : Int) ≤ b4C ∧ (b4C : Int) < a7i.i6.n ∧ ∃ b3i : a8, EltH H a7i.i6 b4C 4 (b7 b3i) ∧
 Y2 a0H b3i (IntKind.wrap .i64 (i3o + 1)) H (fun (e2o : d9) (c6h : Hp) =>
 n6 ((IntKind.wrap .i64 (b4C + 1)), e2o) c6h)) ∧
 (((decide (b4C < (a7i.i6.n : Int))) && (decide (a0H.fbad = 0))) = false →
 a0F i3o a0H a7i H K)
def a0I (b5Q : Int) (R1 : d9) (r7 : d8) (H : Hp) (K : d9 → Hp → Prop) : Prop :=
 TL ((0, R1) : Int × d9) H fun (s : Int × d9) H n6 => a0G b5Q r7 s.1 s.2 H n6 K
def a0J (i3p : Int) (a7j : d8) (b4D : Int) (a0K : d9) (H : Hp) (n7 : (Int × d9) → Hp → Prop) (K : d9 → Hp → Prop) : Prop :=
 (((decide (b4D < (a7j.m9.n : Int))) && (decide (a0K.fbad = 0))) = true →
 (0 : Int) ≤ b4D ∧ (b4D : Int) < a7j.m9.n ∧ ∃ d8G : b8, EltH H a7j.m9 b4D 4 (d6 d8G) ∧
 a1V a0K d8G (IntKind.wrap .i64 (i3p + 1)) H (fun (e2p : d9) (e9r : Hp) =>
 n7 ((IntKind.wrap .i64 (b4D + 1)), e2p) e9r)) ∧
 (((decide (b4D < (a7j.m9.n : Int))) && (decide (a0K.fbad = 0))) = false →
 a0I i3p a0K a7j H K)
def a2f (x0 : d9) (x1 : d8) (x2 : Int) (H : Hp) (K : d9 → Hp → Prop) : Prop :=
 T0 x0 x2 H (fun (C1 : Bool) (U6 : d9) (H_6 : Hp) =>
 ((!C1) = true →
 K U6 H_6) ∧
 ((!C1) = false →
 TL ((0, U6) : Int × d9) H_6 fun (s : Int × d9) H n7 => a0J x2 x1 s.1 s.2 H n7 K))
theorem b5V (x0 : d9) (x1 : d8) (x2 : Int) (g0 : Nat) {K : d9 → Hp → Prop} (I : Inv w0 ps0 H0 H [bx g0 108 (k8 x0)] w) (hR : ∀ (y0 : d9) (H' : Hp) (w' : World) (_ : Inv w0 ps0 H0 H' [bx g0 108 (k8 y0)] w') (_ : K y0 H'), R (Value.tuple #[]) w') (h : a2f x0 x1 x2 H K) : F85 (Value.pointer (some ⟨g0, 0, none⟩)) (Value.agg (g8 x1).toArray) (vi x2) w R E := by
 unfold a2f at h
 unfold F85
 refine J5 I (cs := (g8 x1)) rfl fun g_2 w_3 I_4 k_5 => ?_
 refine g9 (cap := []) (fun args w => Tryz.call84 args w) ?_
 refine l7 (Fi := [bx g0 108 (k8 x0)]) (Fr := [bx g_2 73 (g8 x1)]) (I_4.bring 1) (h g0) (fun b7c H_6 b5P w_7 I_8 b7d k_9 a6w => ?_) (fun _ _ _ _ _ q => q.elim)
 obtain ⟨C1, U6, rfl, rfl, h⟩ := a6w
 refine a7 (T4 _) ?_
 refine o0 (fun e9s => ?_) (fun e9s => ?_)
 ·replace h := h.1 e9s
  exact hR U6 H_6 _ (I_8.bring 1).drop h
 ·replace h := h.2 e9s
  have hj1 : ∀ (R1 : d9) (H : Hp) (w : World) (_ : Inv w0 ps0 H0 H [bx g0 108 (k8 R1), bx g_2 73 (g8 x1)] w) (_ : a0I x2 R1 x1 H K), e1j (Value.pointer (some ⟨g0, 0, none⟩)) (vi x2) (Value.pointer (some ⟨g_2, 0, none⟩)) w R E := by
   intro R1 H w I h
   unfold e1j
   intro _
   unfold a0I at h
   have hj2 : ∀ (b0s : d9) (H : Hp) (w : World) (_ : Inv w0 ps0 H0 H [bx g0 108 (k8 b0s), bx g_2 73 (g8 x1)] w) (_ : a0F x2 b0s x1 H K), e1h (Value.pointer (some ⟨g0, 0, none⟩)) (vi x2) (Value.pointer (some ⟨g_2, 0, none⟩)) w R E := by
    intro b0s H w I h
    unfold e1h
    intro _
    unfold a0F at h
    have hj3 : ∀ (a4o : d9) (H : Hp) (w : World) (_ : Inv w0 ps0 H0 H [bx g0 108 (k8 a4o), bx g_2 73 (g8 x1)] w) (_ : a0D x2 a4o x1 H K), e1g (Value.pointer (some ⟨g0, 0, none⟩)) (vi x2) (Value.pointer (some ⟨g_2, 0, none⟩)) w R E := by
     intro a4o H w I h
     unfold e1g
     intro _
     unfold a0D at h
     obtain ⟨e9t, d4j, j4L, j4M⟩ := h
     refine B5 (J := fun n l w => ∃ (s : Int × d9) (H : Hp) , n = d4j s ∧ l = (match s with | (b1u, a0C) => [(vi b1u)]) ∧ (match s with | (b1u, a0C) => Inv w0 ps0 H0 H [bx g0 108 (k8 a0C), bx g_2 73 (g8 x1)] w) ∧ e9t s H) ⟨_, (0, a4o), H, rfl, rfl, ((I.bring 1).bring 1), j4L⟩ ?_
     rintro k5d τ_110 w next4 ⟨⟨b1u, a0C⟩, H, rfl, d4k, I, j4N⟩ hn4
     dsimp only at d4k I
     simp only [List.map_cons, List.map_nil, List.cons.injEq, and_true] at d4k
     have e9 := d4k
     simp only [e9]
     obtain ⟨n4, hm4, h⟩ : ∃ n4 : (Int × d9) → Hp → Prop, (∀ s' H', n4 s' H' → e9t s' H' ∧ d4j s' < d4j (b1u, a0C)) ∧ a0B x2 x1 b1u a0C H n4 K := ⟨_, fun _ _ h => h, j4M (b1u, a0C) H (fun s' H' => e9t s' H' ∧ d4j s' < d4j (b1u, a0C)) j4N (fun _ _ a b => ⟨a, b⟩)⟩
     unfold f6e
     unfold a0B at h
     refine a7 W5 ?_
     refine f7 (ld1 Tryz.isAgg23 ((I.bring 1).at1 (o := 5) (vs := [(vs x1.t7)]) (nb rfl) rfl)) ?_
     refine a7 (W4 _ _ _) ?_
     refine a7 (w9 _ _ _ _ _ _) ?_
     simp only [u5]
     refine a7 (Pu.g fun hb => by have b9 := hb; simp only [i7 b9]; exact (A7 _)) ?_
     refine a7 (Pu.g fun hb => by have b9 := hb; simp only [i7 b9]; exact a0b) ?_
     refine f7 (Ld.g fun hb => by have b9 := hb; simp only [i7 b9]; exact (ld1 Tryz.isAgg3 (I.at1 (o := 2) (vs := [(vi a0C.fbad)]) (nb rfl) rfl))) ?_
     refine a7 (Pu.g fun hb => by have b9 := hb; simp only [i7 b9]; exact (i8 _ _ _ _ _ _)) ?_
     refine a7 (s7 _ _) ?_
     refine o0 (fun e9u => ?_) (fun e9u => ?_)
     ·replace h := h.1 e9u
      refine a7 W5 ?_
      refine f7 (ld1 Tryz.isAgg23 ((I.bring 1).at1 (o := 5) (vs := [(vs x1.t7)]) (nb rfl) rfl)) ?_
      obtain ⟨c5T, b8Q, e9q, b8U, h⟩ := h
      obtain ⟨l0D, l0E, c6g, b8U⟩ := b8U
      refine a7 (a0m c6g _ _ _ _ c5T b8Q) ?_
      refine f7 (ldA (vs := (g8 e9q)) Tryz.isAgg73 Tryz.sizeOf73 rfl (I.atH b8U)) ?_
      refine a7 (y6 _ _ _ _ _ _) ?_
      refine g9 (cap := []) (fun args w => Tryz.call85 args w) ?_
      refine l7 (Fi := [bx g0 108 (k8 a0C)]) (Fr := [bx g_2 73 (g8 x1)]) I (h g0) (fun k1S d2t j4O a3u f9I j4P k1T e9v => ?_) (fun _ _ _ _ _ q => q.elim)
      obtain ⟨e2m, rfl, rfl, h⟩ := e9v
      refine a7 (y6 _ _ _ _ _ _) ?_
      exact hn4 _ _ _ (hm4 _ _ h).2 ⟨((IntKind.wrap .i64 (b1u + 1)), e2m), d2t, rfl, rfl, ((f9I.bring 1).bring 1), (hm4 _ _ h).1⟩
     ·replace h := h.2 e9u
      exact hR a0C H _ (I.bring 1).drop h
    refine t6 fun j3 hx3 => ?_
    obtain ⟨e9w, d4l, j4Q, j4R⟩ := h
    refine B5 (J := fun n l w => ∃ (s : Int × d9) (H : Hp) , n = d4l s ∧ l = (match s with | (b4B, N5) => [(vi b4B)]) ∧ (match s with | (b4B, N5) => Inv w0 ps0 H0 H [bx g0 108 (k8 N5), bx g_2 73 (g8 x1)] w) ∧ e9w s H) ⟨_, (0, b0s), H, rfl, rfl, ((I.bring 1).bring 1), j4Q⟩ ?_
    rintro k5e τ_144 w next5 ⟨⟨b4B, N5⟩, H, rfl, e9x, I, j4S⟩ hn5
    dsimp only at e9x I
    simp only [List.map_cons, List.map_nil, List.cons.injEq, and_true] at e9x
    have e8 := e9x
    simp only [e8]
    obtain ⟨n5, hm5, h⟩ : ∃ n5 : (Int × d9) → Hp → Prop, (∀ s' H', n5 s' H' → e9w s' H' ∧ d4l s' < d4l (b4B, N5)) ∧ a0E x2 x1 b4B N5 H n5 K := ⟨_, fun _ _ h => h, j4R (b4B, N5) H (fun s' H' => e9w s' H' ∧ d4l s' < d4l (b4B, N5)) j4S (fun _ _ a b => ⟨a, b⟩)⟩
    unfold f6f
    unfold a0E at h
    refine a7 Y7 ?_
    refine f7 (ld1 Tryz.isAgg23 ((I.bring 1).at1 (o := 4) (vs := [(vs x1.v7)]) (nb rfl) rfl)) ?_
    refine a7 (W4 _ _ _) ?_
    refine a7 (w9 _ _ _ _ _ _) ?_
    simp only [u5]
    refine a7 (Pu.g fun hb => by have b9 := hb; simp only [i7 b9]; exact (A7 _)) ?_
    refine a7 (Pu.g fun hb => by have b9 := hb; simp only [i7 b9]; exact a0b) ?_
    refine f7 (Ld.g fun hb => by have b9 := hb; simp only [i7 b9]; exact (ld1 Tryz.isAgg3 (I.at1 (o := 2) (vs := [(vi N5.fbad)]) (nb rfl) rfl))) ?_
    refine a7 (Pu.g fun hb => by have b9 := hb; simp only [i7 b9]; exact (i8 _ _ _ _ _ _)) ?_
    refine a7 (s7 _ _) ?_
    refine o0 (fun c6i => ?_) (fun c6i => ?_)
    ·replace h := h.1 c6i
     refine a7 Y7 ?_
     refine f7 (ld1 Tryz.isAgg23 ((I.bring 1).at1 (o := 4) (vs := [(vs x1.v7)]) (nb rfl) rfl)) ?_
     obtain ⟨e9y, e9z, b9u, b9v, h⟩ := h
     obtain ⟨j4T, j4U, e9A, b9v⟩ := b9v
     refine a7 (a0m e9A _ _ _ _ e9y e9z) ?_
     refine f7 (ldA (vs := (g8 b9u)) Tryz.isAgg73 Tryz.sizeOf73 rfl (I.atH b9v)) ?_
     refine a7 (y6 _ _ _ _ _ _) ?_
     refine g9 (cap := []) (fun args w => Tryz.call85 args w) ?_
     refine l7 (Fi := [bx g0 108 (k8 N5)]) (Fr := [bx g_2 73 (g8 x1)]) I (h g0) (fun j4V b7Q j4W a4Q d0f j4X j4Y e9B => ?_) (fun _ _ _ _ _ q => q.elim)
     obtain ⟨e2n, rfl, rfl, h⟩ := e9B
     refine a7 (y6 _ _ _ _ _ _) ?_
     exact hn5 _ _ _ (hm5 _ _ h).2 ⟨((IntKind.wrap .i64 (b4B + 1)), e2n), b7Q, rfl, rfl, ((d0f.bring 1).bring 1), (hm5 _ _ h).1⟩
    ·replace h := h.2 c6i
     exact hx3 _ _ (hj3 N5 H _ ((I.bring 1).bring 1) h)
   refine t6 fun j2 hx2 => ?_
   obtain ⟨e9C, d4m, j4Z, j5a⟩ := h
   refine B5 (J := fun n l w => ∃ (s : Int × d9) (H : Hp) , n = d4m s ∧ l = (match s with | (b4C, a0H) => [(vi b4C)]) ∧ (match s with | (b4C, a0H) => Inv w0 ps0 H0 H [bx g0 108 (k8 a0H), bx g_2 73 (g8 x1)] w) ∧ e9C s H) ⟨_, (0, R1), H, rfl, rfl, ((I.bring 1).bring 1), j4Z⟩ ?_
   rintro k5f τ_178 w next6 ⟨⟨b4C, a0H⟩, H, rfl, e9D, I, j5b⟩ hn6
   dsimp only at e9D I
   simp only [List.map_cons, List.map_nil, List.cons.injEq, and_true] at e9D
   have e7 := e9D
   simp only [e7]
   obtain ⟨n6, hm6, h⟩ : ∃ n6 : (Int × d9) → Hp → Prop, (∀ s' H', n6 s' H' → e9C s' H' ∧ d4m s' < d4m (b4C, a0H)) ∧ a0G x2 x1 b4C a0H H n6 K := ⟨_, fun _ _ h => h, j5a (b4C, a0H) H (fun s' H' => e9C s' H' ∧ d4m s' < d4m (b4C, a0H)) j5b (fun _ _ a b => ⟨a, b⟩)⟩
   unfold f6g
   unfold a0G at h
   refine a7 R8 ?_
   refine f7 (ld1 Tryz.isAgg51 ((I.bring 1).at1 (o := 2) (vs := [(vs x1.i6)]) (nb rfl) rfl)) ?_
   refine a7 (J3 _ _ _) ?_
   refine a7 (w9 _ _ _ _ _ _) ?_
   simp only [u5]
   refine a7 (Pu.g fun hb => by have b9 := hb; simp only [i7 b9]; exact (A7 _)) ?_
   refine a7 (Pu.g fun hb => by have b9 := hb; simp only [i7 b9]; exact a0b) ?_
   refine f7 (Ld.g fun hb => by have b9 := hb; simp only [i7 b9]; exact (ld1 Tryz.isAgg3 (I.at1 (o := 2) (vs := [(vi a0H.fbad)]) (nb rfl) rfl))) ?_
   refine a7 (Pu.g fun hb => by have b9 := hb; simp only [i7 b9]; exact (i8 _ _ _ _ _ _)) ?_
   refine a7 (s7 _ _) ?_
   refine o0 (fun e9E => ?_) (fun e9E => ?_)
   ·replace h := h.1 e9E
    refine a7 R8 ?_
    refine f7 (ld1 Tryz.isAgg51 ((I.bring 1).at1 (o := 2) (vs := [(vs x1.i6)]) (nb rfl) rfl)) ?_
    obtain ⟨b7R, c2T, b3i, d0g, h⟩ := h
    obtain ⟨j5c, k5g, g4K, d0g⟩ := d0g
    refine a7 (A0 g4K _ _ _ _ b7R c2T) ?_
    refine f7 (ldA (vs := (b7 b3i)) Tryz.isAgg53 Tryz.sizeOf53 rfl (I.atH d0g)) ?_
    refine a7 (y6 _ _ _ _ _ _) ?_
    refine g9 (cap := []) (fun args w => Tryz.call121 args w) ?_
    refine l7 (Fi := [bx g0 108 (k8 a0H)]) (Fr := [bx g_2 73 (g8 x1)]) I (h g0) (fun j5d c6h j5e d0h e9F j5f j5g e9G => ?_) (fun _ _ _ _ _ q => q.elim)
    obtain ⟨e2o, rfl, rfl, h⟩ := e9G
    refine a7 (y6 _ _ _ _ _ _) ?_
    exact hn6 _ _ _ (hm6 _ _ h).2 ⟨((IntKind.wrap .i64 (b4C + 1)), e2o), c6h, rfl, rfl, ((e9F.bring 1).bring 1), (hm6 _ _ h).1⟩
   ·replace h := h.2 e9E
    exact hx2 _ _ (hj2 a0H H _ ((I.bring 1).bring 1) h)
  refine t6 fun j1 hx1 => ?_
  obtain ⟨e9H, d4n, j5h, j5i⟩ := h
  refine B5 (J := fun n l w => ∃ (s : Int × d9) (H : Hp) , n = d4n s ∧ l = (match s with | (b4D, a0K) => [(vi b4D)]) ∧ (match s with | (b4D, a0K) => Inv w0 ps0 H0 H [bx g0 108 (k8 a0K), bx g_2 73 (g8 x1)] w) ∧ e9H s H) ⟨_, (0, U6), H_6, rfl, rfl, ((I_8.bring 1).bring 1), j5h⟩ ?_
  rintro k5h τ_212 w next7 ⟨⟨b4D, a0K⟩, H, rfl, e9I, I, j5j⟩ hn7
  dsimp only at e9I I
  simp only [List.map_cons, List.map_nil, List.cons.injEq, and_true] at e9I
  have e6 := e9I
  simp only [e6]
  obtain ⟨n7, hm7, h⟩ : ∃ n7 : (Int × d9) → Hp → Prop, (∀ s' H', n7 s' H' → e9H s' H' ∧ d4n s' < d4n (b4D, a0K)) ∧ a0J x2 x1 b4D a0K H n7 K := ⟨_, fun _ _ h => h, j5i (b4D, a0K) H (fun s' H' => e9H s' H' ∧ d4n s' < d4n (b4D, a0K)) j5j (fun _ _ a b => ⟨a, b⟩)⟩
  unfold f6h
  unfold a0J at h
  refine a7 M3 ?_
  refine f7 (ld1 Tryz.isAgg57 ((I.bring 1).at1 (o := 3) (vs := [(vs x1.m9)]) (nb rfl) rfl)) ?_
  refine a7 (U9 _ _ _) ?_
  refine a7 (w9 _ _ _ _ _ _) ?_
  simp only [u5]
  refine a7 (Pu.g fun hb => by have b9 := hb; simp only [i7 b9]; exact (A7 _)) ?_
  refine a7 (Pu.g fun hb => by have b9 := hb; simp only [i7 b9]; exact a0b) ?_
  refine f7 (Ld.g fun hb => by have b9 := hb; simp only [i7 b9]; exact (ld1 Tryz.isAgg3 (I.at1 (o := 2) (vs := [(vi a0K.fbad)]) (nb rfl) rfl))) ?_
  refine a7 (Pu.g fun hb => by have b9 := hb; simp only [i7 b9]; exact (i8 _ _ _ _ _ _)) ?_
  refine a7 (s7 _ _) ?_
  refine o0 (fun c6j => ?_) (fun c6j => ?_)
  ·replace h := h.1 c6j
   refine a7 M3 ?_
   refine f7 (ld1 Tryz.isAgg57 ((I.bring 1).at1 (o := 3) (vs := [(vs x1.m9)]) (nb rfl) rfl)) ?_
   obtain ⟨j5k, b7S, d8G, b9w, h⟩ := h
   obtain ⟨k5i, k5j, d8H, b9w⟩ := b9w
   refine a7 (S7 d8H _ _ _ _ j5k b7S) ?_
   refine f7 (ldA (vs := (d6 d8G)) Tryz.isAgg59 Tryz.sizeOf59 rfl (I.atH b9w)) ?_
   refine a7 (y6 _ _ _ _ _ _) ?_
   refine g9 (cap := []) (fun args w => Tryz.call120 args w) ?_
   refine l7 (Fi := [bx g0 108 (k8 a0K)]) (Fr := [bx g_2 73 (g8 x1)]) I (h g0) (fun k5k e9r k5l d8I j5l k5m k5n j5m => ?_) (fun _ _ _ _ _ q => q.elim)
   obtain ⟨e2p, rfl, rfl, h⟩ := j5m
   refine a7 (y6 _ _ _ _ _ _) ?_
   exact hn7 _ _ _ (hm7 _ _ h).2 ⟨((IntKind.wrap .i64 (b4D + 1)), e2p), e9r, rfl, rfl, ((j5l.bring 1).bring 1), (hm7 _ _ h).1⟩
  ·replace h := h.2 c6j
   exact hx1 _ _ (hj1 a0K H _ ((I.bring 1).bring 1) h)
theorem b6B (x0 : d9) (x1 : d8) (x2 : Int) {H : Hp} {K : d9 → Hp → Prop} (h : a2f x0 x1 x2 H K) : Y3 x0 x1 x2 H K := by
 intro g0 w I
 refine h9b ?_
 refine b5V x0 x1 x2 g0 I (fun y0 H' w' I' hk => ⟨H', _, I', y0, rfl, rfl, hk⟩) h
def a5L (x0 : m5) (H : Hp) (K : Bool → Hp → Prop) : Prop :=
 a3K x0 H (fun (C1 : d9) (H_6 : Hp) =>
 K (decide (C1.fbad = 0)) H_6)
theorem c0W (x0 : m5) {K : Bool → Hp → Prop} (I : Inv w0 ps0 H0 H [] w) (hR : ∀ (r0 : Bool) (H' : Hp) (w' : World) (_ : Inv w0 ps0 H0 H' [] w') (_ : K r0 H'), R (vB r0) w') (h : a5L x0 H K) : F29 (Value.agg (k4 x0).toArray) w R E := by
 unfold a5L at h
 unfold F29
 refine J5 I (cs := (k4 x0)) rfl fun g_2 w_3 I_4 k_5 => ?_
 refine f7 (ldA Tryz.isAgg25 Tryz.sizeOf25 rfl (I_4.at1 (o := 0) (vs := (k4 x0)) (nb rfl) rfl)) ?_
 refine g9 (cap := []) (fun args w => Tryz.call47 args w) ?_
 refine l7 (Fi := []) (Fr := [bx g_2 25 (k4 x0)]) I_4 (h) (fun b7c H_6 b5P w_7 I_8 b7d k_9 a6w => ?_) (fun _ _ _ _ _ q => q.elim)
 obtain ⟨C1, rfl, rfl, h⟩ := a6w
 refine a7 d9Y ?_
 refine a7 (i8 _ _ _ _ _ _) ?_
 exact hR (decide (C1.fbad = 0)) H_6 _ I_8.drop h
theorem c2i (x0 : m5) {H : Hp} {K : Bool → Hp → Prop} (h : a5L x0 H K) : a5J x0 H K := by
 intro w I
 refine h5X ?_
 refine c0W x0 I (fun r0 H' w' I' hk => ⟨H', _, I', r0, rfl, rfl, hk⟩) h
def H8 (J6 : (List i5)) (H : Hp) (K : Sl → Hp → Prop) : Prop :=
 ∀ (w6 : Sl) (J9 : Hp), Hle H J9 → SlH J9 1 w8 w6 J6 → w6.n ≤ w6.c →
 K w6 J9
def H9 (O0 : Sl) (a5d : Int) (p9 : (List i5)) (p1 : Int) (H : Hp) (n2 : ((List i5) × Int) → Hp → Prop) (K : Sl → Hp → Prop) : Prop :=
 (p1 < a5d →
 (0 : Int) ≤ p1 ∧ (p1 : Int) < O0.n ∧ ∃ x_1 : a8, EltH H O0 p1 4 (b7 x_1) ∧
 b5K x_1 H (fun (D7 : i5) (R6 : Hp) =>
 (p9.length + ([D7] : List i5).length) * 17 ≤ 140737488355328 ∧
 n2 ((p9 ++ [D7]), (IntKind.wrap .i64 (p1 + 1))) R6)) ∧
 (¬ (p1 < a5d) →
 H8 p9 H K)
def J1 (x0 : Sl) (H : Hp) (K : Sl → Hp → Prop) : Prop :=
 TL (([], 0) : (List i5) × Int) H fun (s : (List i5) × Int) H n2 => H9 x0 (x0.n : Int) s.1 s.2 H n2 K
theorem a6h (x0 : Sl) {K : Sl → Hp → Prop} (I : Inv w0 ps0 H0 H [] w) (hR : ∀ (r0 : Sl) (H' : Hp) (w' : World) (_ : Inv w0 ps0 H0 H' [] w') (_ : K r0 H'), R (vs r0) w') (h : J1 x0 H K) : e8z (vs x0) (fC 190) w R E := by
 unfold J1 at h
 unfold e8z
 have hj1 : ∀ (J6 : (List i5)) (w6 : Sl) (Fs5j1 : Frag) (H : Hp) (w : World) (_ : RowL 150 1 w8 w6 J6 Fs5j1) (_ : Inv w0 ps0 H0 H [Fs5j1] w) (_ : H8 J6 H K), d6M (vs w6) w R E := by
  intro J6 w6 Fs5j1 H w a9B I h
  unfold d6M
  intro _
  unfold H8 at h
  obtain ⟨J9, a9Y, b0K, a7g, a6p⟩ := Inv.freezeC I a9B (by decide)
  replace h := h w6 J9 b0K a7g a6p
  exact hR w6 J9 _ a9Y h
 refine t6 fun j1 hx1 => ?_
 refine a7 (J3 _ _ _) ?_
 obtain ⟨a2t, Q6, b2J, b2K⟩ := h
 refine B5 (J := fun n l w => ∃ (s : (List i5) × Int) (H : Hp) (J7 : Sl) (Fs5l2 : Frag) , n = Q6 s ∧ l = (match s with | (p9, p1) => [(vs J7), (vi p1)]) ∧ (match s with | (p9, p1) => RowL 150 1 w8 J7 p9 Fs5l2) ∧ (match s with | (p9, p1) => Inv w0 ps0 H0 H [Fs5l2] w) ∧ a2t s H) ⟨_, ([], 0), H, (Sl.mk none 0 0), [], rfl, rfl, (RowL.nil T6 V6), I.nil, b2J⟩ ?_
 rintro c8O τ_50 w next2 ⟨⟨p9, p1⟩, H, J7, Fs5l2, rfl, a1D, W7, I, b2L⟩ hn2
 dsimp only at a1D I W7
 simp only [List.map_cons, List.map_nil, List.cons.injEq, and_true] at a1D
 obtain ⟨e5, e10⟩ := a1D
 simp only [e5, e10]
 obtain ⟨n2, hm2, h⟩ : ∃ n2 : ((List i5) × Int) → Hp → Prop, (∀ s' H', n2 s' H' → a2t s' H' ∧ Q6 s' < Q6 (p9, p1)) ∧ H9 x0 (x0.n : Int) p9 p1 H n2 K := ⟨_, fun _ _ h => h, b2K (p9, p1) H (fun s' H' => a2t s' H' ∧ Q6 s' < Q6 (p9, p1)) b2L (fun _ _ a b => ⟨a, b⟩)⟩
 unfold e6G
 unfold H9 at h
 refine a7 (w9 _ _ _ _ _ _) ?_
 refine k7 (fun a0p => ?_) (fun a0p => ?_)
 ·replace h := h.1 a0p
  obtain ⟨h_4, h_5, x_1, h_7, h⟩ := h
  obtain ⟨g_2, o_3, h_6, h_7⟩ := h_7
  refine a7 (A0 h_6 _ _ _ _ h_4 h_5) ?_
  refine f7 (ldA (vs := (b7 x_1)) Tryz.isAgg53 Tryz.sizeOf53 rfl (I.atH h_7)) ?_
  refine z7 I Tryz.zeroValue53 (cs := [(vi 0), (vi 0), (eS), (nS)]) rfl fun g_9 p5 a3l b4q => ?_
  refine m6 a3l Tryz.sizeOf53 (vs := (b7 x_1)) (cs' := (b7 x_1)) rfl rfl (nb rfl) rfl rfl fun a2s L9 a4z => ?_
  refine f7 (ldA Tryz.isAgg53 Tryz.sizeOf53 rfl (L9.at1 (o := 0) (vs := (b7 x_1)) (nb rfl) rfl)) ?_
  refine g9 (cap := []) (fun args w => Tryz.call190 args w) ?_
  refine l7 (Fi := []) (Fr := [bx g_9 53 (b7 x_1), Fs5l2]) L9 (h) (fun c3E R6 c0F a1B a3y c3F c0G a9Z => ?_) (fun _ _ _ _ _ q => q.elim)
  obtain ⟨D7, rfl, rfl, h⟩ := a9Z
  refine a5A (e := 150) (c := w8) (xs := [D7]) a3y (b6Q _) rfl rfl T6 V6 (nb rfl) fun b0a b3K B3 a7h T8 a9i => ?_
  obtain ⟨b0b, h⟩ := h
  refine c4o (s := J7) (xs := p9) (T8.bring 2) W7 (a7h.srcO ((T8.bring 2).bring 1)) b0b fun a8c b0L A6 b0c a5D b7a => ?_
  refine a7 (y6 _ _ _ _ _ _) ?_
  exact hn2 _ _ _ (hm2 _ _ h).2 ⟨((p9 ++ [D7]), (IntKind.wrap .i64 (p1 + 1))), R6, a8c, b0L, rfl, rfl, b0c, ((a5D.bring 1).drop.bring 1).drop, (hm2 _ _ h).1⟩
 ·replace h := h.2 a0p
  exact hx1 _ _ (hj1 p9 J7 Fs5l2 H _ W7 I h)
theorem a6C (x0 : Sl) {H : Hp} {K : Sl → Hp → Prop} (h : J1 x0 H K) : C3 x0 H K := by
 intro w I
 refine g8B ?_
 refine a6h x0 I (fun r0 H' w' I' hk => ⟨H', _, I', r0, rfl, rfl, hk⟩) h
def a5i (x0 : a0k) (H : Hp) (K : Sl → Hp → Prop) : Prop :=
 K (Sl.mk none 0 0) H
theorem b9x (x0 : a0k) {K : Sl → Hp → Prop} (I : Inv w0 ps0 H0 H [] w) (hR : ∀ (r0 : Sl) (H' : Hp) (w' : World) (_ : Inv w0 ps0 H0 H' [] w') (_ : K r0 H'), R (vs r0) w') (h : a5i x0 H K) : e8H (Value.agg (y8 x0.a0l).toArray) w R E := by
 unfold a5i at h
 unfold e8H
 refine J5 I (cs := (y8 x0.a0l)) rfl fun g_2 w_3 I_4 k_5 => ?_
 exact hR (Sl.mk none 0 0) H _ I_4.drop h
theorem c0X (x0 : a0k) {H : Hp} {K : Sl → Hp → Prop} (h : a5i x0 H K) : b2H x0 H K := by
 intro w I
 refine g8Q ?_
 refine b9x x0 I (fun r0 H' w' I' hk => ⟨H', _, I', r0, rfl, rfl, hk⟩) h
end Go.Proofs.YtnhkdkcgdcgmdaaGreatDoor
