/- Typed formulas of the program's functions, and the theorems that the contracts follow from them; printed by lift.py off the code. -/
import Derived.Test.YtnhkdkcgdcgmdaaGreatDoorzUV1
namespace Go.Proofs.YtnhkdkcgdcgmdaaGreatDoor
open Go.RowKit
set_option maxRecDepth 100000
set_option maxHeartbeats 2000000
variable {w0 w : World} {ps0 : Nat → Prop} {H0 H : Hp} {R : RT} {E : Pan}
def a8P (x0 : g8) (H : Hp) (K : ByteArray → Bool → Hp → Prop) : Prop :=
 (x0.b1U = true →
 K ((((x0.a2W)).a0E).f6) true H) ∧
 (x0.b1U = false →
 (x0.b1V = true →
 K ((((x0.o8)).j8).f6) ((decide (((((x0.o8)).j8).b6) = 1)) || (decide (((((x0.o8)).j8).b6) = 2))) H) ∧
 (x0.b1V = false →
 (x0.b1T = true →
 K ((((x0.A8)).t7).f6) ((decide (((((x0.A8)).t7).b6) = 2)) || (decide (((((x0.A8)).t7).b6) = 4))) H) ∧
 (x0.b1T = false →
 K ⟨#[]⟩ false H)))
theorem c4z (x0 : g8) {K : ByteArray → Bool → Hp → Prop} (I : Inv w0 ps0 H0 H [] w) (hR : ∀ (r0 : ByteArray) (r1 : Bool) (H' : Hp) (w' : World) (_ : Inv w0 ps0 H0 H' [] w') (_ : K r0 r1 H'), R (Value.tuple #[(Value.string r0), (vB r1)]) w') (h : a8P x0 H K) : e3X (E8 x0) w R E := by
 unfold a8P at h
 unfold e3X
 refine a7 (d4D x0) ?_
 refine a7 (r6 _ _ (vB x0.b1U) rfl) ?_
 refine a7 (r6 _ _ _ rfl) ?_
 refine o2 (fun f4a => ?_) (fun f4a => ?_)
 ·replace h := h.1 f4a
  refine z8 I Tryz.zeroValue182 (cs := [(eS), (vi 0)]) rfl fun g_2 w_3 I_4 k_5 => ?_
  refine m5 I_4 Tryz.sizeOf182 (vs := [(Value.string ((((x0.a2W)).a0E).f6)), (vi ((((x0.a2W)).a0E).a1Z))]) (cs' := [(Value.string ((((x0.a2W)).a0E).f6)), (vi ((((x0.a2W)).a0E).a1Z))]) rfl rfl (nb rfl) rfl rfl fun w_6 I_7 k_8 => ?_
  refine a7 c0S ?_
  refine a7 d0r ?_
  refine f2 (ld1 Tryz.isAgg9 (I_7.at1 (o := 0) (vs := [(Value.string ((((x0.a2W)).a0E).f6))]) (nb rfl) rfl)) ?_
  exact hR ((((x0.a2W)).a0E).f6) true H _ I_7.drop h
 ·replace h := h.2 f4a
  refine a7 (d4E x0) ?_
  refine a7 (r6 _ _ (vB x0.b1V) rfl) ?_
  refine a7 (r6 _ _ _ rfl) ?_
  refine o2 (fun c8Y => ?_) (fun c8Y => ?_)
  ·replace h := h.1 c8Y
   refine z8 I Tryz.zeroValue184 (cs := [(vi 0), (eS), (nS), (nS), (nS), (nS)]) rfl fun j2J S5 B1 b6V => ?_
   refine m5 B1 Tryz.sizeOf184 (vs := [(vi ((((x0.o8)).j8).b6)), (Value.string ((((x0.o8)).j8).f6)), (Value.slice ((((x0.o8)).j8).f5).a ((((x0.o8)).j8).f5).n ((((x0.o8)).j8).f5).c), (Value.slice ((((x0.o8)).j8).i4).a ((((x0.o8)).j8).i4).n ((((x0.o8)).j8).i4).c), (Value.slice ((((x0.o8)).j8).A5).a ((((x0.o8)).j8).A5).n ((((x0.o8)).j8).A5).c), (Value.slice ((((x0.o8)).j8).z6).a ((((x0.o8)).j8).z6).n ((((x0.o8)).j8).z6).c)]) (cs' := [(vi ((((x0.o8)).j8).b6)), (Value.string ((((x0.o8)).j8).f6)), (Value.slice ((((x0.o8)).j8).f5).a ((((x0.o8)).j8).f5).n ((((x0.o8)).j8).f5).c), (Value.slice ((((x0.o8)).j8).i4).a ((((x0.o8)).j8).i4).n ((((x0.o8)).j8).i4).c), (Value.slice ((((x0.o8)).j8).A5).a ((((x0.o8)).j8).A5).n ((((x0.o8)).j8).A5).c), (Value.slice ((((x0.o8)).j8).z6).a ((((x0.o8)).j8).z6).n ((((x0.o8)).j8).z6).c)]) rfl rfl (nb rfl) rfl rfl fun p6 b3m b8S => ?_
   refine a3D b3m fun a0t a4X => ?_
   refine o7 V2 ?_
   refine o7 a8J ?_
   refine o7 V2 ?_
   refine o7 a0F ?_
   refine y9 (ld1 Tryz.isAgg9 (a4X.at1 (o := 1) (vs := [(Value.string ((((x0.o8)).j8).f6))]) (nb rfl) rfl)) ?_
   refine y9 (ld1 Tryz.isAgg3 (a4X.at1 (o := 0) (vs := [(vi ((((x0.o8)).j8).b6))]) (nb rfl) rfl)) ?_
   refine o7 (k7 _ _ _ _ _ _) ?_
   refine o7 (Pu.g fun hb => by have d7 := hb; exact V2) ?_
   refine o7 (Pu.g fun hb => by have d7 := hb; simp only [i6 d7]; exact a0F) ?_
   refine g7d (p := (Value.pointer (some ⟨j2J, 0, none⟩))) rfl (Ld.g fun hb => by have d7 := hb; simp only [i6 d7]; exact (ld1 Tryz.isAgg3 (a4X.at1 (o := 0) (vs := [(vi ((((x0.o8)).j8).b6))]) (nb rfl) rfl))) ?_
   refine o7 (Pu.g fun hb => by have d7 := hb; simp only [i6 d7]; exact (k7 _ _ _ _ _ _)) ?_
   refine o7 (M4 _ _) ?_
   exact hR ((((x0.o8)).j8).f6) ((decide (((((x0.o8)).j8).b6) = 1)) || (decide (((((x0.o8)).j8).b6) = 2))) H _ a4X.drop h
  ·replace h := h.2 c8Y
   refine a7 (d4F x0) ?_
   refine a7 (r6 _ _ (vB x0.b1T) rfl) ?_
   refine a7 (r6 _ _ _ rfl) ?_
   refine o2 (fun b8T => ?_) (fun b8T => ?_)
   ·replace h := h.1 b8T
    refine z8 I Tryz.zeroValue136 (cs := [(vi 0), (vi 0), (eS), (nS)]) rfl fun h4N a3e b5C e4R => ?_
    refine m5 b5C Tryz.sizeOf136 (vs := [(vi ((((x0.A8)).t7).b6)), (vi ((((x0.A8)).t7).o6)), (Value.string ((((x0.A8)).t7).f6)), (Value.slice ((((x0.A8)).t7).k9).a ((((x0.A8)).t7).k9).n ((((x0.A8)).t7).k9).c)]) (cs' := [(vi ((((x0.A8)).t7).b6)), (vi ((((x0.A8)).t7).o6)), (Value.string ((((x0.A8)).t7).f6)), (Value.slice ((((x0.A8)).t7).k9).a ((((x0.A8)).t7).k9).n ((((x0.A8)).t7).k9).c)]) rfl rfl (nb rfl) rfl rfl fun v2 a8f c8V => ?_
    refine a3D a8f fun a5U c5J => ?_
    refine o7 a4H ?_
    refine o7 b1W ?_
    refine o7 a4H ?_
    refine o7 U5 ?_
    refine y9 (ld1 Tryz.isAgg9 (c5J.at1 (o := 2) (vs := [(Value.string ((((x0.A8)).t7).f6))]) (nb rfl) rfl)) ?_
    refine y9 (ld1 Tryz.isAgg3 (c5J.at1 (o := 0) (vs := [(vi ((((x0.A8)).t7).b6))]) (nb rfl) rfl)) ?_
    refine o7 (k7 _ _ _ _ _ _) ?_
    refine o7 (Pu.g fun hb => by have d7 := hb; exact a4H) ?_
    refine o7 (Pu.g fun hb => by have d7 := hb; simp only [i6 d7]; exact U5) ?_
    refine g7d (p := (Value.pointer (some ⟨h4N, 0, none⟩))) rfl (Ld.g fun hb => by have d7 := hb; simp only [i6 d7]; exact (ld1 Tryz.isAgg3 (c5J.at1 (o := 0) (vs := [(vi ((((x0.A8)).t7).b6))]) (nb rfl) rfl))) ?_
    refine o7 (Pu.g fun hb => by have d7 := hb; simp only [i6 d7]; exact (k7 _ _ _ _ _ _)) ?_
    refine o7 (M4 _ _) ?_
    exact hR ((((x0.A8)).t7).f6) ((decide (((((x0.A8)).t7).b6) = 2)) || (decide (((((x0.A8)).t7).b6) = 4))) H _ c5J.drop h
   ·replace h := h.2 b8T
    exact hR ⟨#[]⟩ false H _ I h
theorem c5M (x0 : g8) {H : Hp} {K : ByteArray → Bool → Hp → Prop} (h : a8P x0 H K) : a6I x0 H K := by
 intro w I
 refine g1h ?_
 refine c4z x0 I (fun r0 r1 H' w' I' hk => ⟨H', _, I', r0, r1, rfl, rfl, hk⟩) h
def Y1 (b2D : Int) (H : Hp) (K : Int → Hp → Prop) : Prop :=
 K b2D H
def Y2 (d8p : ByteArray) (b4A : Int) (a8Q : Nat) (H : Hp) (n2 : (Int × Nat) → Hp → Prop) (K : Int → Hp → Prop) : Prop :=
 (a8Q < d8p.size →
 n2 ((IntKind.wrap .i64 (b4A + 1)), (a8Q + (Utf8.decode d8p a8Q).2)) H) ∧
 (¬ (a8Q < d8p.size) →
 Y1 b4A H K)
def a0N (x0 : ByteArray) (H : Hp) (K : Int → Hp → Prop) : Prop :=
 TL ((0, 0) : Int × Nat) H fun (s : Int × Nat) H n2 => Y2 x0 s.1 s.2 H n2 K
theorem b2O (x0 : ByteArray) {K : Int → Hp → Prop} (I : Inv w0 ps0 H0 H [] w) (hR : ∀ (r0 : Int) (H' : Hp) (w' : World) (_ : Inv w0 ps0 H0 H' [] w') (_ : K r0 H'), R (vi r0) w') (h : a0N x0 H K) : e4g (Value.string x0) w R E := by
 unfold a0N at h
 unfold e4g
 have hj1 : ∀ (b2D : Int) (H : Hp) (w : World) (_ : Inv w0 ps0 H0 H [] w) (_ : Y1 b2D H K), d3i (vi b2D) w R E := by
  intro b2D H w I h
  unfold d3i
  intro _
  unfold Y1 at h
  exact hR b2D H _ I h
 refine r9 fun j1 hx1 => ?_
 refine e2k Tryz.underlying9 x0 I fun g_2 w_3 I_4 k_5 => ?_
 obtain ⟨f4b, d8q, j2K, j2L⟩ := h
 refine A7 (J := fun n l w => ∃ (s : Int × Nat) (H : Hp) , n = d8q s ∧ l = (match s with | (b4A, a8Q) => [(vi b4A)]) ∧ (match s with | (b4A, a8Q) => Inv w0 ps0 H0 H [itf g_2 x0 a8Q] w) ∧ f4b s H) ⟨_, (0, 0), H, rfl, rfl, I_4, j2K⟩ ?_
 rintro j9Y τ_27 w next2 ⟨⟨b4A, a8Q⟩, H, rfl, d8r, I, j2M⟩ hn2
 dsimp only at d8r I
 simp only [List.map_cons, List.map_nil, List.cons.injEq, and_true] at d8r
 have e2 := d8r
 simp only [e2]
 obtain ⟨n2, hm2, h⟩ : ∃ n2 : (Int × Nat) → Hp → Prop, (∀ s' H', n2 s' H' → f4b s' H' ∧ d8q s' < d8q (b4A, a8Q)) ∧ Y2 x0 b4A a8Q H n2 K := ⟨_, fun _ _ h => h, j2L (b4A, a8Q) H (fun s' H' => f4b s' H' ∧ d8q s' < d8q (b4A, a8Q)) j2M (fun _ _ a b => ⟨a, b⟩)⟩
 unfold e2B
 unfold Y2 at h
 refine e9T I (fun b8U w5 c3m d8j => ?_) (fun b8U => ?_)
 ·replace h := h.1 b8U
  refine a7 (r6 _ _ (vB true) rfl) ?_
  refine o2 (fun e => ?_) (fun e => by cases e)
  refine a7 (u7 _ _ _ _ _ _) ?_
  exact hn2 _ _ _ (hm2 _ _ h).2 ⟨((IntKind.wrap .i64 (b4A + 1)), (a8Q + (Utf8.decode x0 a8Q).2)), H, rfl, rfl, c3m, (hm2 _ _ h).1⟩
 ·replace h := h.2 b8U
  refine a7 (r6 _ _ (vB false) rfl) ?_
  refine o2 (fun e => by cases e) (fun e => ?_)
  exact hx1 _ _ (hj1 b4A H _ I.drop h)
theorem b3n (x0 : ByteArray) {H : Hp} {K : Int → Hp → Prop} (h : a0N x0 H K) : a4d x0 H K := by
 intro w I
 refine g1x ?_
 refine b2O x0 I (fun r0 H' w' I' hk => ⟨H', _, I', r0, rfl, rfl, hk⟩) h
def a4m (b5D : Int) (b5E : Int) (b5F : Int) (b5G : Bool) (b5H : Bool) (b3O : (List ByteArray)) (H : Hp) (K : Bool → m7 → (List ByteArray) → Hp → Prop) : Prop :=
 K true (m7.mk b5D b5E b5F b5G b5H (Sl.mk none 0 0)) b3O H
def a4o (a9R : Int) (a4V : Sl) (o0 : Int) (a5b : Int) (a6d : Int) (a6e : Int) (a6f : Int) (a6g : Bool) (a6h : Bool) (a5r : (List ByteArray)) (H : Hp) (n2 : (Int × Int × Int × Int × Bool × Bool × (List ByteArray)) → Hp → Prop) (K : Bool → m7 → (List ByteArray) → Hp → Prop) : Prop :=
 (a5b < o0 →
 (0 : Int) ≤ a5b ∧ (a5b : Int) < a4V.n ∧ ∃ d8s : g8, EltH H a4V a5b 1 [(E8 d8s)] ∧
 a7a (m7.mk a6d a6e a6f a6g a6h (Sl.mk none 0 0)) a5r d8s a9R H (fun (b2U : Bool) (P6 : m7) (b7Z : (List ByteArray)) (b2E : Hp) =>
 TG ((!b2U) = false) (a9O d8s b2E) (Sl.mk none 0 0) b2E (fun (c3n : Sl) (b0Z : Hp) =>
 TG ((!b2U) = false) (fun k_ => a3P c3n (IntKind.wrap .i64 (a9R + 1)) (m7.mk ((P6).fnodes) ((P6).fdepth) ((P6).fe) ((P6).fform) ((P6).fnamed) (Sl.mk none 0 0)) b7Z b0Z fun b1e a0l a8E H_ => k_ (b1e, a0l, a8E) H_) (false, (m7.mk ((P6).fnodes) ((P6).fdepth) ((P6).fe) ((P6).fform) ((P6).fnamed) (Sl.mk none 0 0)), b7Z) b0Z (fun (a5c : Bool × m7 × (List ByteArray)) (a8y : Hp) =>
 (((!b2U) || (!a5c.1)) = true →
 K false (m7.mk ((a5c.2.1).fnodes) ((a5c.2.1).fdepth) ((a5c.2.1).fe) ((a5c.2.1).fform) ((a5c.2.1).fnamed) (Sl.mk none 0 0)) a5c.2.2 a8y) ∧
 (((!b2U) || (!a5c.1)) = false →
 n2 ((IntKind.wrap .i64 (a5b + 1)), ((a5c.2.1).fnodes), ((a5c.2.1).fdepth), ((a5c.2.1).fe), ((a5c.2.1).fform), ((a5c.2.1).fnamed), a5c.2.2) a8y))))) ∧
 (¬ (a5b < o0) →
 a4m a6d a6e a6f a6g a6h a5r H K)
def a6w (x0 : Sl) (x1 : Int) (x2 : m7) (b8I : (List ByteArray)) (H : Hp) (K : Bool → m7 → (List ByteArray) → Hp → Prop) : Prop :=
 TL ((0, x2.fnodes, x2.fdepth, x2.fe, x2.fform, x2.fnamed, b8I) : Int × Int × Int × Int × Bool × Bool × (List ByteArray)) H fun (s : Int × Int × Int × Int × Bool × Bool × (List ByteArray)) H n2 => a4o x1 x0 (x0.n : Int) s.1 s.2.1 s.2.2.1 s.2.2.2.1 s.2.2.2.2.1 s.2.2.2.2.2.1 s.2.2.2.2.2.2 H n2 K
theorem b9Z (x0 : Sl) (x1 : Int) (x2 : m7) (b8I : (List ByteArray)) (g2 g2b g3 : Nat) (c0u : Sl) (c0v : Frag) (e4S : RowL 9 1 O8 c0u b8I c0v) {K : Bool → m7 → (List ByteArray) → Hp → Prop} (I : Inv w0 ps0 H0 H [bx g2 102 [(Value.pointer (some ⟨g2b, 0, none⟩))], bx g2b 101 [(vi x2.fnodes), (vi x2.fdepth), (vi x2.fe), (vB x2.fform), (vB x2.fnamed), (vs c0u)], c0v, bx g3 170 [(Value.func (.func 110) #[] #[(Value.pointer (some ⟨g2, 0, none⟩)), (Value.pointer (some ⟨g3, 0, none⟩))])]] w) (hR : ∀ (r0 : Bool) (y0 : m7) (b3d : (List ByteArray)) (b0e : Sl) (b0f : Frag) (H' : Hp) (w' : World) (_ : RowL 9 1 O8 b0e b3d b0f) (_ : Inv w0 ps0 H0 H' [bx g2 102 [(Value.pointer (some ⟨g2b, 0, none⟩))], bx g2b 101 [(vi y0.fnodes), (vi y0.fdepth), (vi y0.fe), (vB y0.fform), (vB y0.fnamed), (vs b0e)], b0f, bx g3 170 [(Value.func (.func 110) #[] #[(Value.pointer (some ⟨g2, 0, none⟩)), (Value.pointer (some ⟨g3, 0, none⟩))])]] w') (_ : K r0 y0 b3d H'), R (vB r0) w') (h : a6w x0 x1 x2 b8I H K) : e3T (vs x0) (vi x1) (Value.pointer (some ⟨g2, 0, none⟩)) (Value.pointer (some ⟨g3, 0, none⟩)) w R E := by
 unfold a6w at h
 unfold e3T
 have hj1 : ∀ (b5D : Int) (b5E : Int) (b5F : Int) (b5G : Bool) (b5H : Bool) (b3O : (List ByteArray)) (c0x : Sl) (c0y : Frag) (H : Hp) (w : World) (_ : RowL 9 1 O8 c0x b3O c0y) (_ : Inv w0 ps0 H0 H [bx g2 102 [(Value.pointer (some ⟨g2b, 0, none⟩))], bx g2b 101 [(vi b5D), (vi b5E), (vi b5F), (vB b5G), (vB b5H), (vs c0x)], bx g3 170 [(Value.func (.func 110) #[] #[(Value.pointer (some ⟨g2, 0, none⟩)), (Value.pointer (some ⟨g3, 0, none⟩))])], c0y] w) (_ : a4m b5D b5E b5F b5G b5H b3O H K), d2V w R E := by
  intro b5D b5E b5F b5G b5H b3O c0x c0y H w f1l I h
  unfold d2V
  intro _
  unfold a4m at h
  exact hR true (m7.mk b5D b5E b5F b5G b5H (Sl.mk none 0 0)) b3O c0x c0y H _ f1l ((((I.bring 2).bring 3).bring 3).bring 3) h
 refine r9 fun j1 hx1 => ?_
 refine a7 (b7v _ _ _) ?_
 obtain ⟨f4c, d8t, j2N, j2O⟩ := h
 refine A7 (J := fun n l w => ∃ (s : Int × Int × Int × Int × Bool × Bool × (List ByteArray)) (H : Hp) (b3P : Sl) (b3Q : Frag) , n = d8t s ∧ l = (match s with | (a5b, a6d, a6e, a6f, a6g, a6h, a5r) => [(vi a5b)]) ∧ (match s with | (a5b, a6d, a6e, a6f, a6g, a6h, a5r) => RowL 9 1 O8 b3P a5r b3Q) ∧ (match s with | (a5b, a6d, a6e, a6f, a6g, a6h, a5r) => Inv w0 ps0 H0 H [bx g2 102 [(Value.pointer (some ⟨g2b, 0, none⟩))], bx g2b 101 [(vi a6d), (vi a6e), (vi a6f), (vB a6g), (vB a6h), (vs b3P)], bx g3 170 [(Value.func (.func 110) #[] #[(Value.pointer (some ⟨g2, 0, none⟩)), (Value.pointer (some ⟨g3, 0, none⟩))])], b3Q] w) ∧ f4c s H) ⟨_, (0, x2.fnodes, x2.fdepth, x2.fe, x2.fform, x2.fnamed, b8I), H, c0u, c0v, rfl, rfl, e4S, ((((I.bring 2).bring 3).bring 3).bring 3), j2N⟩ ?_
 rintro j9Z τ_92 w next2 ⟨⟨a5b, a6d, a6e, a6f, a6g, a6h, a5r⟩, H, b3P, b3Q, rfl, d7F, c5N, I, j2P⟩ hn2
 dsimp only at d7F I c5N
 simp only [List.map_cons, List.map_nil, List.cons.injEq, and_true] at d7F
 have e11 := d7F
 simp only [e11]
 obtain ⟨n2, hm2, h⟩ : ∃ n2 : (Int × Int × Int × Int × Bool × Bool × (List ByteArray)) → Hp → Prop, (∀ s' H', n2 s' H' → f4c s' H' ∧ d8t s' < d8t (a5b, a6d, a6e, a6f, a6g, a6h, a5r)) ∧ a4o x1 x0 (x0.n : Int) a5b a6d a6e a6f a6g a6h a5r H n2 K := ⟨_, fun _ _ h => h, j2O (a5b, a6d, a6e, a6f, a6g, a6h, a5r) H (fun s' H' => f4c s' H' ∧ d8t s' < d8t (a5b, a6d, a6e, a6f, a6g, a6h, a5r)) j2P (fun _ _ a b => ⟨a, b⟩)⟩
 unfold e2u
 unfold a4o at h
 refine a7 (v7 _ _ _ _ _ _) ?_
 refine k4 (fun b8V => ?_) (fun b8V => ?_)
 ·replace h := h.1 b8V
  obtain ⟨d8u, b7e, d8s, c1d, h⟩ := h
  obtain ⟨k0a, k0b, c1e, c1d⟩ := c1d
  refine a7 (e9W c1e _ _ _ _ d8u b7e) ?_
  refine f2 (ld1 (v := (E8 d8s)) Tryz.isAgg150 (I.atH c1d)) ?_
  refine a3D I fun b6S e4T => ?_
  refine y9 (ld1 Tryz.isAgg102 (e4T.at1 (o := 0) (vs := [(Value.pointer (some ⟨g2b, 0, none⟩))]) (nb rfl) rfl)) ?_
  refine f7 (cap := []) (fun args w => Tryz.call111 args w) ?_
  refine k8 (Fi := [bx g2b 101 [(vi a6d), (vi a6e), (vi a6f), (vB a6g), (vB a6h), (vs b3P)], b3Q]) (Fr := [bx g2 102 [(Value.pointer (some ⟨g2b, 0, none⟩))], bx g3 170 [(Value.func (.func 110) #[] #[(Value.pointer (some ⟨g2, 0, none⟩)), (Value.pointer (some ⟨g3, 0, none⟩))])]]) ((e4T.bring 3).bring 2) (h g2b b3P b3Q c5N) (fun j2Q b2E h4O P0 c3o j2R h4P f4d => ?_) (fun _ _ _ _ _ q => q.elim)
  obtain ⟨b2U, P6, b7Z, b8W, b8X, rfl, rfl, d8v, h⟩ := f4d
  refine o7 (T4 _) ?_
  simp only [z2]
  refine o7 (Pu.g fun hb => by have d7 := hb; simp only [i6 d7]; exact (u7 _ _ _ _ _ _)) ?_
  refine y9 (Ld.g fun hb => by have d7 := hb; exact (ld1 Tryz.isAgg170 ((c3o.bring 3).at1 (o := 0) (vs := [(Value.func (.func 110) #[] #[(Value.pointer (some ⟨g2, 0, none⟩)), (Value.pointer (some ⟨g3, 0, none⟩))])]) (nb rfl) rfl))) ?_
  refine a4I (D := fun h4Q b4i => ∃ (c3n : Sl) (b0Z : Hp), h4Q = (gv (!b2U) false (vs c3n)) ∧ (Inv w0 ps0 H0 b0Z [bx g2b 101 [(vi ((P6).fnodes)), (vi ((P6).fdepth)), (vi ((P6).fe)), (vB ((P6).fform)), (vB ((P6).fnamed)), (vs b8W)], b8X, bx g2 102 [(Value.pointer (some ⟨g2b, 0, none⟩))], bx g3 170 [(Value.func (.func 110) #[] #[(Value.pointer (some ⟨g2, 0, none⟩)), (Value.pointer (some ⟨g3, 0, none⟩))])]] b4i) ∧ (∀ i, i < P0.heap.size → ¬ inF [] i → b4i.heap[i]? = P0.heap[i]?) ∧ Hle b2E b0Z ∧ (TG ((!b2U) = false) (fun k_ => a3P c3n (IntKind.wrap .i64 (x1 + 1)) (m7.mk ((P6).fnodes) ((P6).fdepth) ((P6).fe) ((P6).fform) ((P6).fnamed) (Sl.mk none 0 0)) b7Z b0Z fun b1e a0l a8E H_ => k_ (b1e, a0l, a8E) H_) (false, (m7.mk ((P6).fnodes) ((P6).fdepth) ((P6).fe) ((P6).fform) ((P6).fnamed) (Sl.mk none 0 0)), b7Z) b0Z (fun (a5c : Bool × m7 × (List ByteArray)) (a8y : Hp) =>
 (((!b2U) || (!a5c.1)) = true →
 K false (m7.mk ((a5c.2.1).fnodes) ((a5c.2.1).fdepth) ((a5c.2.1).fe) ((a5c.2.1).fform) ((a5c.2.1).fnamed) (Sl.mk none 0 0)) a5c.2.2 a8y) ∧
 (((!b2U) || (!a5c.1)) = false →
 n2 ((IntKind.wrap .i64 (a5b + 1)), ((a5c.2.1).fnodes), ((a5c.2.1).fdepth), ((a5c.2.1).fe), ((a5c.2.1).fform), ((a5c.2.1).fnamed), a5c.2.2) a8y)))) (fun d8w => ?_) (fun d8w => ?_) ?_
  ·replace h := h.1 d8w
   have d7 := d8w
   simp only [i6 d7]
   refine c0V c3o h (fun c3n b0Z b4i e4U c8S f4e h => ?_)
   exact ⟨c3n, b0Z, by rfl, e4U, f4e, c8S, h⟩
  ·exact ⟨(Sl.mk none 0 0), b2E, by rw [a9I d8w], c3o, fun _ _ _ => rfl, Hle.refl _, h.2 d8w⟩
  ·clear h
   rintro h4Q b4i ⟨c3n, b0Z, rfl, e4U, f4e, c8S, h⟩
   refine ⟨(f4e _ (c3o.bring 3).lt1 (Inv.a1t (Fi := []) (c3o.bring 3))), ?_⟩
   refine a4I (D := fun e4V c3p => ∃ (b1e : Bool) (a0l : m7) (a8E : (List ByteArray)) (a8y : Hp) (b3o : Sl) (b3p : Frag) , e4V = (gv (!b2U) false (vB b1e)) ∧ (RowL 9 1 O8 b3o a8E b3p) ∧ (Inv w0 ps0 H0 a8y [bx g2 102 [(Value.pointer (some ⟨g2b, 0, none⟩))], bx g2b 101 [(vi ((a0l).fnodes)), (vi ((a0l).fdepth)), (vi ((a0l).fe)), (vB ((a0l).fform)), (vB ((a0l).fnamed)), (vs b3o)], b3p, bx g3 170 [(Value.func (.func 110) #[] #[(Value.pointer (some ⟨g2, 0, none⟩)), (Value.pointer (some ⟨g3, 0, none⟩))])]] c3p) ∧ (∀ i, i < b4i.heap.size → ¬ inF [bx g2 102 [(Value.pointer (some ⟨g2b, 0, none⟩))], bx g2b 101 [(vi ((P6).fnodes)), (vi ((P6).fdepth)), (vi ((P6).fe)), (vB ((P6).fform)), (vB ((P6).fnamed)), (vs b8W)], b8X, bx g3 170 [(Value.func (.func 110) #[] #[(Value.pointer (some ⟨g2, 0, none⟩)), (Value.pointer (some ⟨g3, 0, none⟩))])]] i → c3p.heap[i]? = b4i.heap[i]?) ∧ Hle b0Z a8y ∧ ((((!b2U) || (!b1e)) = true →
 K false (m7.mk ((a0l).fnodes) ((a0l).fdepth) ((a0l).fe) ((a0l).fform) ((a0l).fnamed) (Sl.mk none 0 0)) a8E a8y) ∧
 (((!b2U) || (!b1e)) = false →
 n2 ((IntKind.wrap .i64 (a5b + 1)), ((a0l).fnodes), ((a0l).fdepth), ((a0l).fe), ((a0l).fform), ((a0l).fnamed), a8E) a8y))) (fun d8x => ?_) (fun d8x => ?_) ?_
   ·replace h := h.1 d8x
    have d7 := d8x
    simp only [i6 d7]
    refine f7 (cap := [(Value.pointer (some ⟨g2, 0, none⟩)), (Value.pointer (some ⟨g3, 0, none⟩))]) (fun args w => Tryz.call110 args w) ?_
    refine k8 (Fi := [bx g2 102 [(Value.pointer (some ⟨g2b, 0, none⟩))], bx g2b 101 [(vi ((P6).fnodes)), (vi ((P6).fdepth)), (vi ((P6).fe)), (vB ((P6).fform)), (vB ((P6).fnamed)), (vs b8W)], b8X, bx g3 170 [(Value.func (.func 110) #[] #[(Value.pointer (some ⟨g2, 0, none⟩)), (Value.pointer (some ⟨g3, 0, none⟩))])]]) (Fr := []) ((((e4U.bring 3).bring 2).bring 2).bring 3) (h g2 g2b g3 b8W b8X d8v) (fun e4V a8y j2S c3p c3q b2z f4f f4g => ?_) (fun _ _ _ _ _ q => q.elim)
    obtain ⟨b1e, a0l, a8E, b3o, b3p, rfl, rfl, c3r, h⟩ := f4g
    exact ⟨b1e, a0l, a8E, a8y, b3o, b3p, by rfl, c3r, c3q, f4f, b2z, h⟩
   ·exact ⟨false, (m7.mk ((P6).fnodes) ((P6).fdepth) ((P6).fe) ((P6).fform) ((P6).fnamed) (Sl.mk none 0 0)), b7Z, b0Z, b8W, b8X, by rw [a9I d8x], d8v, ((((e4U.bring 3).bring 2).bring 2).bring 3), fun _ _ _ => rfl, Hle.refl _, h.2 d8x⟩
   ·clear h
    rintro e4V c3p ⟨b1e, a0l, a8E, a8y, b3o, b3p, rfl, c3r, c3q, f4f, b2z, h⟩
    refine o7 (Pu.g fun hb => by have d7 := hb; simp only [i6 d7]; exact (T4 _)) ?_
    refine o7 (M4 _ _) ?_
    refine o2 (fun b8Y => ?_) (fun b8Y => ?_)
    ·replace h := h.1 b8Y
     exact hR false (m7.mk ((a0l).fnodes) ((a0l).fdepth) ((a0l).fe) ((a0l).fform) ((a0l).fnamed) (Sl.mk none 0 0)) a8E b3o b3p a8y _ c3r ((((c3q.bring 3).bring 3).bring 3).bring 3) h
    ·replace h := h.2 b8Y
     refine a7 (u7 _ _ _ _ _ _) ?_
     exact hn2 _ _ _ (hm2 _ _ h).2 ⟨((IntKind.wrap .i64 (a5b + 1)), ((a0l).fnodes), ((a0l).fdepth), ((a0l).fe), ((a0l).fform), ((a0l).fnamed), a8E), a8y, b3o, b3p, rfl, rfl, c3r, ((((c3q.bring 2).bring 3).bring 3).bring 3), (hm2 _ _ h).1⟩
 ·replace h := h.2 b8V
  exact hx1 _ _ (hj1 a6d a6e a6f a6g a6h a5r b3P b3Q H _ c5N ((((I.bring 3).bring 3).bring 3).bring 3) h)
theorem c1f (x0 : Sl) (x1 : Int) (x2 : m7) (b8I : (List ByteArray)) {H : Hp} {K : Bool → m7 → (List ByteArray) → Hp → Prop} (h : a6w x0 x1 x2 b8I H K) : a3P x0 x1 x2 b8I H K := by
 intro g2 g2b g3 c0u c0v e4S w I
 refine g0O ?_
 refine b9Z x0 x1 x2 b8I g2 g2b g3 c0u c0v e4S I (fun r0 y0 b3d b0e b0f H' w' d8y I' hk => ⟨H', _, I', r0, y0, b3d, b0e, b0f, rfl, rfl, d8y, hk⟩) h
def a9B (x0 : g7) (H : Hp) (K : m7 → Hp → Prop) : Prop :=
 Q4 x0.r5 H (fun (b4y : Sl) (H_8 : Hp) =>
 C4 x0.G3 H_8 (fun (b4z : Sl) (b3l : Hp) =>
 ∀ (b5B : Sl) (a7w : Hp), Hle b3l a7w → SlH a7w 1 csl b5B [b4y, b4z] → b5B.n ≤ b5B.c →
 J5 b5B a7w (fun (c6X : Sl) (b7c : Hp) =>
 a4T c6X b7c (fun (e4W : m7) (c8Z : Hp) =>
 K e4W c8Z))))
theorem c5O (x0 : g7) {K : m7 → Hp → Prop} (I : Inv w0 ps0 H0 H [] w) (hR : ∀ (r0 : m7) (gr0 : Nat) (H' : Hp) (w' : World) (_ : Inv w0 ps0 H0 H' [bx gr0 101 (b1Y r0)] w') (_ : K r0 H'), R (Value.pointer (some ⟨gr0, 0, none⟩)) w') (h : a9B x0 H K) : F43 (Value.agg (i5 x0).toArray) w R E := by
 unfold a9B at h
 unfold F43
 refine K6 I (cs := (i5 x0)) rfl fun g_2 w_3 I_4 k_5 => ?_
 refine a3D I_4 fun w_6 I_7 => ?_
 refine o7 Z1 ?_
 refine o7 a4J ?_
 refine y9 (ld1 Tryz.isAgg22 (I_7.at1 (o := 0) (vs := [(vs x0.r5)]) (nb rfl) rfl)) ?_
 refine y9 (ld1 Tryz.isAgg23 (I_7.at1 (o := 1) (vs := [(vs x0.G3)]) (nb rfl) rfl)) ?_
 refine f7 (cap := []) (fun args w => Tryz.call76 args w) ?_
 refine k8 (Fi := []) (Fr := [bx g_2 25 (i5 x0)]) I_7 (h) (fun h4H H_8 h4I w_9 b7d c5K c5L d8i => ?_) (fun _ _ _ _ _ q => q.elim)
 obtain ⟨b4y, rfl, rfl, h⟩ := d8i
 refine ⟨(c5L _ I_7.lt1 (Inv.a1t (Fi := []) I_7)), ?_⟩
 refine f7 (cap := []) (fun args w => Tryz.call78 args w) ?_
 refine k8 (Fi := []) (Fr := [bx g_2 25 (i5 x0)]) b7d (h) (fun h4J b3l h4K w5 c3m h4L d8j d8k => ?_) (fun _ _ _ _ _ q => q.elim)
 obtain ⟨b4z, rfl, rfl, h⟩ := d8k
 refine a4b (e := 137) (c := csl) (xs := [b4y, b4z]) c3m (d5W _ _ _ _ _ _) rfl rfl d4I d4J (nb rfl) fun b5B d8l a6Y d8m b4u c8O => ?_
 obtain ⟨a7w, c8W, c2R, d8n, c8X⟩ := Inv.freezeC b4u d8m (by decide)
 replace h := h b5B a7w c2R d8n c8X
 refine f7 (cap := []) (fun args w => Tryz.call75 args w) ?_
 refine k8 (Fi := []) (Fr := [bx g_2 25 (i5 x0)]) c8W (h) (fun j2H b7c j2I b6R a6K d8o h4M f3Z => ?_) (fun _ _ _ _ _ q => q.elim)
 obtain ⟨c6X, rfl, rfl, h⟩ := f3Z
 refine f7 (cap := []) (fun args w => Tryz.call65 args w) ?_
 refine k8 (Fi := []) (Fr := [bx g_2 25 (i5 x0)]) a6K (h) (fun j2T c8Z j2U L9 d8z d8A h4R f4h => ?_) (fun _ _ _ _ _ q => q.elim)
 obtain ⟨e4W, h4S, rfl, rfl, h⟩ := f4h
 exact hR e4W h4S c8Z _ (d8z.bring 1).drop h
theorem c8d (x0 : g7) {H : Hp} {K : m7 → Hp → Prop} (h : a9B x0 H K) : b2B x0 H K := by
 intro w I
 refine g8p ?_
 refine c5O x0 I (fun r0 gr0 H' w' I' hk => ⟨H', _, I', r0, gr0, rfl, rfl, hk⟩) h
def a8l (x0 : g7) (H : Hp) (K : Int → Hp → Prop) : Prop :=
 b2B x0 H (fun (E1 : m7) (H_6 : Hp) =>
 K E1.fe H_6)
theorem c3s (x0 : g7) {K : Int → Hp → Prop} (I : Inv w0 ps0 H0 H [] w) (hR : ∀ (r0 : Int) (H' : Hp) (w' : World) (_ : Inv w0 ps0 H0 H' [] w') (_ : K r0 H'), R (vi r0) w') (h : a8l x0 H K) : F24 (Value.agg (i5 x0).toArray) w R E := by
 unfold a8l at h
 unfold F24
 refine K6 I (cs := (i5 x0)) rfl fun g_2 w_3 I_4 k_5 => ?_
 refine f2 (ldA Tryz.isAgg25 Tryz.sizeOf25 rfl (I_4.at1 (o := 0) (vs := (i5 x0)) (nb rfl) rfl)) ?_
 refine f7 (cap := []) (fun args w => Tryz.call43 args w) ?_
 refine k8 (Fi := []) (Fr := [bx g_2 25 (i5 x0)]) I_4 (h) (fun b6Z H_6 b7a w_7 I_8 b7b k_9 a7c => ?_) (fun _ _ _ _ _ q => q.elim)
 obtain ⟨E1, j6d, rfl, rfl, h⟩ := a7c
 refine a7 (w7 _) ?_
 refine a7 a9c ?_
 refine f2 (ld1 Tryz.isAgg27 (I_8.at1 (o := 2) (vs := [(vi E1.fe)]) (nb rfl) rfl)) ?_
 exact hR E1.fe H_6 _ I_8.drop.drop h
theorem c4A (x0 : g7) {H : Hp} {K : Int → Hp → Prop} (h : a8l x0 H K) : a8k x0 H K := by
 intro w I
 refine g7z ?_
 refine c3s x0 I (fun r0 H' w' I' hk => ⟨H', _, I', r0, rfl, rfl, hk⟩) h
def a0O (j2V : Int) (d1c : a8) (b3q : Int) (b0r : d5) (H : Hp) (n1 : (Int × d5) → Hp → Prop) (K : d5 → Hp → Prop) : Prop :=
 (((decide (b3q < (d1c.k9.n : Int))) && (decide (b0r.fbad = 0))) = true →
 (0 : Int) ≤ b3q ∧ (b3q : Int) < d1c.k9.n ∧ ∃ b7f : a8, EltH H d1c.k9 b3q 4 (b8 b7f) ∧
 Y8 b0r b7f (IntKind.wrap .i64 (j2V + 1)) H (fun (e4X : d5) (c8Z : Hp) =>
 n1 ((IntKind.wrap .i64 (b3q + 1)), e4X) c8Z)) ∧
 (((decide (b3q < (d1c.k9.n : Int))) && (decide (b0r.fbad = 0))) = false →
 K b0r H)
def a2z (x0 : d5) (x1 : a8) (x2 : Int) (H : Hp) (K : d5 → Hp → Prop) : Prop :=
 S8 x0 x2 H (fun (E1 : Bool) (U7 : d5) (H_6 : Hp) =>
 ((!E1) = true →
 K U7 H_6) ∧
 ((!E1) = false →
 TL ((0, U7) : Int × d5) H_6 fun (s : Int × d5) H n1 => a0O x2 x1 s.1 s.2 H n1 K))
theorem b4B (x0 : d5) (x1 : a8) (x2 : Int) (g0 : Nat) {K : d5 → Hp → Prop} (I : Inv w0 ps0 H0 H [bx g0 108 (i7 x0)] w) (hR : ∀ (y0 : d5) (H' : Hp) (w' : World) (_ : Inv w0 ps0 H0 H' [bx g0 108 (i7 y0)] w') (_ : K y0 H'), R (Value.tuple #[]) w') (h : a2z x0 x1 x2 H K) : e3W (Value.pointer (some ⟨g0, 0, none⟩)) (Value.agg (b8 x1).toArray) (vi x2) w R E := by
 unfold a2z at h
 unfold e3W
 refine K6 I (cs := (b8 x1)) rfl fun g_2 w_3 I_4 k_5 => ?_
 refine f7 (cap := []) (fun args w => Tryz.call84 args w) ?_
 refine k8 (Fi := [bx g0 108 (i7 x0)]) (Fr := [bx g_2 53 (b8 x1)]) (I_4.bring 1) (h g0) (fun b6Z H_6 b7a w_7 I_8 b7b k_9 a7c => ?_) (fun _ _ _ _ _ q => q.elim)
 obtain ⟨E1, U7, rfl, rfl, h⟩ := a7c
 refine a7 (T4 _) ?_
 refine o2 (fun c9a => ?_) (fun c9a => ?_)
 ·replace h := h.1 c9a
  exact hR U7 H_6 _ (I_8.bring 1).drop h
 ·replace h := h.2 c9a
  obtain ⟨f4i, d8B, j2W, j2X⟩ := h
  refine A7 (J := fun n l w => ∃ (s : Int × d5) (H : Hp) , n = d8B s ∧ l = (match s with | (b3q, b0r) => [(vi b3q)]) ∧ (match s with | (b3q, b0r) => Inv w0 ps0 H0 H [bx g0 108 (i7 b0r), bx g_2 53 (b8 x1)] w) ∧ f4i s H) ⟨_, (0, U7), H_6, rfl, rfl, ((I_8.bring 1).bring 1), j2W⟩ ?_
  rintro k0c τ_62 w next1 ⟨⟨b3q, b0r⟩, H, rfl, c9b, I, j2Y⟩ hn1
  dsimp only at c9b I
  simp only [List.map_cons, List.map_nil, List.cons.injEq, and_true] at c9b
  have e6 := c9b
  simp only [e6]
  obtain ⟨n1, hm1, h⟩ : ∃ n1 : (Int × d5) → Hp → Prop, (∀ s' H', n1 s' H' → f4i s' H' ∧ d8B s' < d8B (b3q, b0r)) ∧ a0O x2 x1 b3q b0r H n1 K := ⟨_, fun _ _ h => h, j2X (b3q, b0r) H (fun s' H' => f4i s' H' ∧ d8B s' < d8B (b3q, b0r)) j2Y (fun _ _ a b => ⟨a, b⟩)⟩
  unfold e2y
  unfold a0O at h
  refine a7 B2 ?_
  refine f2 (ld1 Tryz.isAgg51 ((I.bring 1).at1 (o := 3) (vs := [(vs x1.k9)]) (nb rfl) rfl)) ?_
  refine a7 (K0 _ _ _) ?_
  refine a7 (v7 _ _ _ _ _ _) ?_
  simp only [z2]
  refine a7 (Pu.g fun hb => by have d7 := hb; simp only [i6 d7]; exact (w7 _)) ?_
  refine a7 (Pu.g fun hb => by have d7 := hb; simp only [i6 d7]; exact a0k) ?_
  refine f2 (Ld.g fun hb => by have d7 := hb; simp only [i6 d7]; exact (ld1 Tryz.isAgg3 (I.at1 (o := 2) (vs := [(vi b0r.fbad)]) (nb rfl) rfl))) ?_
  refine a7 (Pu.g fun hb => by have d7 := hb; simp only [i6 d7]; exact (k7 _ _ _ _ _ _)) ?_
  refine a7 (w8 _ _) ?_
  refine o2 (fun f4j => ?_) (fun f4j => ?_)
  ·replace h := h.1 f4j
   refine a7 B2 ?_
   refine f2 (ld1 Tryz.isAgg51 ((I.bring 1).at1 (o := 3) (vs := [(vs x1.k9)]) (nb rfl) rfl)) ?_
   obtain ⟨a5W, d8C, b7f, b8Z, h⟩ := h
   obtain ⟨j2Z, j3a, c9c, b8Z⟩ := b8Z
   refine a7 (G7 c9c _ _ _ _ a5W d8C) ?_
   refine f2 (ldA (vs := (b8 b7f)) Tryz.isAgg53 Tryz.sizeOf53 rfl (I.atH b8Z)) ?_
   refine a7 (u7 _ _ _ _ _ _) ?_
   refine f7 (cap := []) (fun args w => Tryz.call121 args w) ?_
   refine k8 (Fi := [bx g0 108 (i7 b0r)]) (Fr := [bx g_2 53 (b8 x1)]) I (h g0) (fun j2T c8Z j2U L9 d8z d8A h4R f4h => ?_) (fun _ _ _ _ _ q => q.elim)
   obtain ⟨e4X, rfl, rfl, h⟩ := f4h
   refine a7 (u7 _ _ _ _ _ _) ?_
   exact hn1 _ _ _ (hm1 _ _ h).2 ⟨((IntKind.wrap .i64 (b3q + 1)), e4X), c8Z, rfl, rfl, ((d8z.bring 1).bring 1), (hm1 _ _ h).1⟩
  ·replace h := h.2 f4j
   exact hR b0r H _ (I.bring 1).drop h
theorem b5e (x0 : d5) (x1 : a8) (x2 : Int) {H : Hp} {K : d5 → Hp → Prop} (h : a2z x0 x1 x2 H K) : Y8 x0 x1 x2 H K := by
 intro g0 w I
 refine g1f ?_
 refine b4B x0 x1 x2 g0 I (fun y0 H' w' I' hk => ⟨H', _, I', y0, rfl, rfl, hk⟩) h
def a0P (b4A : Int) (S6 : b7) (b1a : Int) (N7 : d5) (H : Hp) (n2 : (Int × d5) → Hp → Prop) (K : d5 → Hp → Prop) : Prop :=
 (((decide (b1a < (S6.o3.n : Int))) && (decide (N7.fbad = 0))) = true →
 (0 : Int) ≤ b1a ∧ (b1a : Int) < S6.o3.n ∧ ∃ c3c : b7, EltH H S6.o3 b1a 4 (d8 c3c) ∧
 a2t N7 c3c (IntKind.wrap .i64 (b4A + 1)) H (fun (c3d : d5) (c8R : Hp) =>
 n2 ((IntKind.wrap .i64 (b1a + 1)), c3d) c8R)) ∧
 (((decide (b1a < (S6.o3.n : Int))) && (decide (N7.fbad = 0))) = false →
 K N7 H)
def a0Q (b2D : Int) (K5 : d5) (p9 : b7) (H : Hp) (K : d5 → Hp → Prop) : Prop :=
 TL ((0, K5) : Int × d5) H fun (s : Int × d5) H n2 => a0P b2D p9 s.1 s.2 H n2 K
def a0R (h4T : Int) (Q0 : b7) (U3 : Int) (b0s : d5) (H : Hp) (n3 : (Int × d5) → Hp → Prop) (K : d5 → Hp → Prop) : Prop :=
 (((decide (U3 < (Q0.f5.n : Int))) && (decide (b0s.fbad = 0))) = true →
 (0 : Int) ≤ U3 ∧ (U3 : Int) < Q0.f5.n ∧ ∃ e4Y : a8, EltH H Q0.f5 U3 4 (b8 e4Y) ∧
 Y8 b0s e4Y (IntKind.wrap .i64 (h4T + 1)) H (fun (d8D : d5) (c1g : Hp) =>
 n3 ((IntKind.wrap .i64 (U3 + 1)), d8D) c1g)) ∧
 (((decide (U3 < (Q0.f5.n : Int))) && (decide (b0s.fbad = 0))) = false →
 a0Q h4T b0s Q0 H K)
def a2A (x0 : d5) (x1 : b7) (x2 : Int) (H : Hp) (K : d5 → Hp → Prop) : Prop :=
 S8 x0 x2 H (fun (E1 : Bool) (U7 : d5) (H_6 : Hp) =>
 ((!E1) = true →
 K U7 H_6) ∧
 ((!E1) = false →
 TL ((0, U7) : Int × d5) H_6 fun (s : Int × d5) H n3 => a0R x2 x1 s.1 s.2 H n3 K))
theorem b4C (x0 : d5) (x1 : b7) (x2 : Int) (g0 : Nat) {K : d5 → Hp → Prop} (I : Inv w0 ps0 H0 H [bx g0 108 (i7 x0)] w) (hR : ∀ (y0 : d5) (H' : Hp) (w' : World) (_ : Inv w0 ps0 H0 H' [bx g0 108 (i7 y0)] w') (_ : K y0 H'), R (Value.tuple #[]) w') (h : a2A x0 x1 x2 H K) : e3V (Value.pointer (some ⟨g0, 0, none⟩)) (Value.agg (d8 x1).toArray) (vi x2) w R E := by
 unfold a2A at h
 unfold e3V
 refine K6 I (cs := (d8 x1)) rfl fun g_2 w_3 I_4 k_5 => ?_
 refine f7 (cap := []) (fun args w => Tryz.call84 args w) ?_
 refine k8 (Fi := [bx g0 108 (i7 x0)]) (Fr := [bx g_2 59 (d8 x1)]) (I_4.bring 1) (h g0) (fun b6Z H_6 b7a w_7 I_8 b7b k_9 a7c => ?_) (fun _ _ _ _ _ q => q.elim)
 obtain ⟨E1, U7, rfl, rfl, h⟩ := a7c
 refine a7 (T4 _) ?_
 refine o2 (fun c3t => ?_) (fun c3t => ?_)
 ·replace h := h.1 c3t
  exact hR U7 H_6 _ (I_8.bring 1).drop h
 ·replace h := h.2 c3t
  have hj1 : ∀ (K5 : d5) (H : Hp) (w : World) (_ : Inv w0 ps0 H0 H [bx g0 108 (i7 K5), bx g_2 59 (d8 x1)] w) (_ : a0Q x2 K5 x1 H K), d2Y (Value.pointer (some ⟨g0, 0, none⟩)) (vi x2) (Value.pointer (some ⟨g_2, 0, none⟩)) w R E := by
   intro K5 H w I h
   unfold d2Y
   intro _
   unfold a0Q at h
   obtain ⟨b8L, b1B, d7W, d7X⟩ := h
   refine A7 (J := fun n l w => ∃ (s : Int × d5) (H : Hp) , n = b1B s ∧ l = (match s with | (b1a, N7) => [(vi b1a)]) ∧ (match s with | (b1a, N7) => Inv w0 ps0 H0 H [bx g0 108 (i7 N7), bx g_2 59 (d8 x1)] w) ∧ b8L s H) ⟨_, (0, K5), H, rfl, rfl, ((I.bring 1).bring 1), d7W⟩ ?_
   rintro h4z τ_78 w next2 ⟨⟨b1a, N7⟩, H, rfl, b2z, I, d7Y⟩ hn2
   dsimp only at b2z I
   simp only [List.map_cons, List.map_nil, List.cons.injEq, and_true] at b2z
   have e7 := b2z
   simp only [e7]
   obtain ⟨n2, hm2, h⟩ : ∃ n2 : (Int × d5) → Hp → Prop, (∀ s' H', n2 s' H' → b8L s' H' ∧ b1B s' < b1B (b1a, N7)) ∧ a0P x2 x1 b1a N7 H n2 K := ⟨_, fun _ _ h => h, d7X (b1a, N7) H (fun s' H' => b8L s' H' ∧ b1B s' < b1B (b1a, N7)) d7Y (fun _ _ a b => ⟨a, b⟩)⟩
   unfold e2w
   unfold a0P at h
   refine a7 M5 ?_
   refine f2 (ld1 Tryz.isAgg57 ((I.bring 1).at1 (o := 3) (vs := [(vs x1.o3)]) (nb rfl) rfl)) ?_
   refine a7 (V0 _ _ _) ?_
   refine a7 (v7 _ _ _ _ _ _) ?_
   simp only [z2]
   refine a7 (Pu.g fun hb => by have d7 := hb; simp only [i6 d7]; exact (w7 _)) ?_
   refine a7 (Pu.g fun hb => by have d7 := hb; simp only [i6 d7]; exact a0k) ?_
   refine f2 (Ld.g fun hb => by have d7 := hb; simp only [i6 d7]; exact (ld1 Tryz.isAgg3 (I.at1 (o := 2) (vs := [(vi N7.fbad)]) (nb rfl) rfl))) ?_
   refine a7 (Pu.g fun hb => by have d7 := hb; simp only [i6 d7]; exact (k7 _ _ _ _ _ _)) ?_
   refine a7 (w8 _ _) ?_
   refine o2 (fun a8d => ?_) (fun a8d => ?_)
   ·replace h := h.1 a8d
    refine a7 M5 ?_
    refine f2 (ld1 Tryz.isAgg57 ((I.bring 1).at1 (o := 3) (vs := [(vs x1.o3)]) (nb rfl) rfl)) ?_
    obtain ⟨b8M, d7Z, c3c, c3f, h⟩ := h
    obtain ⟨j2d, j2e, d8a, c3f⟩ := c3f
    refine a7 (a1T d8a _ _ _ _ b8M d7Z) ?_
    refine f2 (ldA (vs := (d8 c3c)) Tryz.isAgg59 Tryz.sizeOf59 rfl (I.atH c3f)) ?_
    refine a7 (u7 _ _ _ _ _ _) ?_
    refine f7 (cap := []) (fun args w => Tryz.call120 args w) ?_
    refine k8 (Fi := [bx g0 108 (i7 N7)]) (Fr := [bx g_2 59 (d8 x1)]) I (h g0) (fun j2f c8R f3J Q3 d3u c8S h4A f3K => ?_) (fun _ _ _ _ _ q => q.elim)
    obtain ⟨c3d, rfl, rfl, h⟩ := f3K
    refine a7 (u7 _ _ _ _ _ _) ?_
    exact hn2 _ _ _ (hm2 _ _ h).2 ⟨((IntKind.wrap .i64 (b1a + 1)), c3d), c8R, rfl, rfl, ((d3u.bring 1).bring 1), (hm2 _ _ h).1⟩
   ·replace h := h.2 a8d
    exact hR N7 H _ (I.bring 1).drop h
  refine r9 fun j1 hx1 => ?_
  obtain ⟨c3u, b4D, e4Z, e5a⟩ := h
  refine A7 (J := fun n l w => ∃ (s : Int × d5) (H : Hp) , n = b4D s ∧ l = (match s with | (U3, b0s) => [(vi U3)]) ∧ (match s with | (U3, b0s) => Inv w0 ps0 H0 H [bx g0 108 (i7 b0s), bx g_2 59 (d8 x1)] w) ∧ c3u s H) ⟨_, (0, U7), H_6, rfl, rfl, ((I_8.bring 1).bring 1), e4Z⟩ ?_
  rintro i6r τ_112 w next3 ⟨⟨U3, b0s⟩, H, rfl, c3v, I, e5b⟩ hn3
  dsimp only at c3v I
  simp only [List.map_cons, List.map_nil, List.cons.injEq, and_true] at c3v
  have e6 := c3v
  simp only [e6]
  obtain ⟨n3, hm3, h⟩ : ∃ n3 : (Int × d5) → Hp → Prop, (∀ s' H', n3 s' H' → c3u s' H' ∧ b4D s' < b4D (U3, b0s)) ∧ a0R x2 x1 U3 b0s H n3 K := ⟨_, fun _ _ h => h, e5a (U3, b0s) H (fun s' H' => c3u s' H' ∧ b4D s' < b4D (U3, b0s)) e5b (fun _ _ a b => ⟨a, b⟩)⟩
  unfold e2x
  unfold a0R at h
  refine a7 O4 ?_
  refine f2 (ld1 Tryz.isAgg51 ((I.bring 1).at1 (o := 2) (vs := [(vs x1.f5)]) (nb rfl) rfl)) ?_
  refine a7 (K0 _ _ _) ?_
  refine a7 (v7 _ _ _ _ _ _) ?_
  simp only [z2]
  refine a7 (Pu.g fun hb => by have d7 := hb; simp only [i6 d7]; exact (w7 _)) ?_
  refine a7 (Pu.g fun hb => by have d7 := hb; simp only [i6 d7]; exact a0k) ?_
  refine f2 (Ld.g fun hb => by have d7 := hb; simp only [i6 d7]; exact (ld1 Tryz.isAgg3 (I.at1 (o := 2) (vs := [(vi b0s.fbad)]) (nb rfl) rfl))) ?_
  refine a7 (Pu.g fun hb => by have d7 := hb; simp only [i6 d7]; exact (k7 _ _ _ _ _ _)) ?_
  refine a7 (w8 _ _) ?_
  refine o2 (fun c3w => ?_) (fun c3w => ?_)
  ·replace h := h.1 c3w
   refine a7 O4 ?_
   refine f2 (ld1 Tryz.isAgg51 ((I.bring 1).at1 (o := 2) (vs := [(vs x1.f5)]) (nb rfl) rfl)) ?_
   obtain ⟨c5P, b7g, e4Y, c3x, h⟩ := h
   obtain ⟨k0d, k0e, c9d, c3x⟩ := c3x
   refine a7 (G7 c9d _ _ _ _ c5P b7g) ?_
   refine f2 (ldA (vs := (b8 e4Y)) Tryz.isAgg53 Tryz.sizeOf53 rfl (I.atH c3x)) ?_
   refine a7 (u7 _ _ _ _ _ _) ?_
   refine f7 (cap := []) (fun args w => Tryz.call121 args w) ?_
   refine k8 (Fi := [bx g0 108 (i7 b0s)]) (Fr := [bx g_2 59 (d8 x1)]) I (h g0) (fun j6m c1g j6n a6F j3b j6o j6p i6s => ?_) (fun _ _ _ _ _ q => q.elim)
   obtain ⟨d8D, rfl, rfl, h⟩ := i6s
   refine a7 (u7 _ _ _ _ _ _) ?_
   exact hn3 _ _ _ (hm3 _ _ h).2 ⟨((IntKind.wrap .i64 (U3 + 1)), d8D), c1g, rfl, rfl, ((j3b.bring 1).bring 1), (hm3 _ _ h).1⟩
  ·replace h := h.2 c3w
   exact hx1 _ _ (hj1 b0s H _ ((I.bring 1).bring 1) h)
theorem b5f (x0 : d5) (x1 : b7) (x2 : Int) {H : Hp} {K : d5 → Hp → Prop} (h : a2A x0 x1 x2 H K) : a2t x0 x1 x2 H K := by
 intro g0 w I
 refine g1d ?_
 refine b4C x0 x1 x2 g0 I (fun y0 H' w' I' hk => ⟨H', _, I', y0, rfl, rfl, hk⟩) h
def a0S (f4k : Int) (K1 : d6) (a2q : Int) (L8 : d5) (H : Hp) (n4 : (Int × d5) → Hp → Prop) (K : d5 → Hp → Prop) : Prop :=
 (((decide (a2q < (K1.z6.n : Int))) && (decide (L8.fbad = 0))) = true →
 (0 : Int) ≤ a2q ∧ (a2q : Int) < K1.z6.n ∧ ∃ e5c : d6, EltH H K1.z6 a2q 6 (d9 e5c) ∧
 Y9 L8 e5c (IntKind.wrap .i64 (f4k + 1)) H (fun (d8E : d5) (c9e : Hp) =>
 n4 ((IntKind.wrap .i64 (a2q + 1)), d8E) c9e)) ∧
 (((decide (a2q < (K1.z6.n : Int))) && (decide (L8.fbad = 0))) = false →
 K L8 H)
def a0T (j3c : Int) (a0U : d5) (S7 : d6) (H : Hp) (K : d5 → Hp → Prop) : Prop :=
 TL ((0, a0U) : Int × d5) H fun (s : Int × d5) H n4 => a0S j3c S7 s.1 s.2 H n4 K
def a0V (e5d : Int) (a3B : d6) (a3H : Int) (B8 : d5) (H : Hp) (n5 : (Int × d5) → Hp → Prop) (K : d5 → Hp → Prop) : Prop :=
 (((decide (a3H < (a3B.A5.n : Int))) && (decide (B8.fbad = 0))) = true →
 (0 : Int) ≤ a3H ∧ (a3H : Int) < a3B.A5.n ∧ ∃ b7B : d6, EltH H a3B.A5 a3H 6 (d9 b7B) ∧
 Y9 B8 b7B (IntKind.wrap .i64 (e5d + 1)) H (fun (d8F : d5) (b6j : Hp) =>
 n5 ((IntKind.wrap .i64 (a3H + 1)), d8F) b6j)) ∧
 (((decide (a3H < (a3B.A5.n : Int))) && (decide (B8.fbad = 0))) = false →
 a0T e5d B8 a3B H K)
def a0W (d8G : Int) (a5d : d5) (O0 : d6) (H : Hp) (K : d5 → Hp → Prop) : Prop :=
 TL ((0, a5d) : Int × d5) H fun (s : Int × d5) H n5 => a0V d8G O0 s.1 s.2 H n5 K
def a0X (h4U : Int) (b1C : d6) (b3r : Int) (a0Y : d5) (H : Hp) (n6 : (Int × d5) → Hp → Prop) (K : d5 → Hp → Prop) : Prop :=
 (((decide (b3r < (b1C.f5.n : Int))) && (decide (a0Y.fbad = 0))) = true →
 (0 : Int) ≤ b3r ∧ (b3r : Int) < b1C.f5.n ∧ ∃ d4R : a8, EltH H b1C.f5 b3r 4 (b8 d4R) ∧
 Y8 a0Y d4R (IntKind.wrap .i64 (h4U + 1)) H (fun (d8H : d5) (e5e : Hp) =>
 n6 ((IntKind.wrap .i64 (b3r + 1)), d8H) e5e)) ∧
 (((decide (b3r < (b1C.f5.n : Int))) && (decide (a0Y.fbad = 0))) = false →
 a0W h4U a0Y b1C H K)
def a0Z (b2D : Int) (K5 : d5) (p9 : d6) (H : Hp) (K : d5 → Hp → Prop) : Prop :=
 TL ((0, K5) : Int × d5) H fun (s : Int × d5) H n6 => a0X b2D p9 s.1 s.2 H n6 K
def a1b (h4V : Int) (b1D : d6) (b3s : Int) (a1d : d5) (H : Hp) (n7 : (Int × d5) → Hp → Prop) (K : d5 → Hp → Prop) : Prop :=
 (((decide (b3s < (b1D.i4.n : Int))) && (decide (a1d.fbad = 0))) = true →
 (0 : Int) ≤ b3s ∧ (b3s : Int) < b1D.i4.n ∧ ∃ d4S : b7, EltH H b1D.i4 b3s 4 (d8 d4S) ∧
 a2t a1d d4S (IntKind.wrap .i64 (h4V + 1)) H (fun (d8I : d5) (e5f : Hp) =>
 n7 ((IntKind.wrap .i64 (b3s + 1)), d8I) e5f)) ∧
 (((decide (b3s < (b1D.i4.n : Int))) && (decide (a1d.fbad = 0))) = false →
 a0Z h4V a1d b1D H K)
def a2B (x0 : d5) (x1 : d6) (x2 : Int) (H : Hp) (K : d5 → Hp → Prop) : Prop :=
 S8 x0 x2 H (fun (E1 : Bool) (U7 : d5) (H_6 : Hp) =>
 ((!E1) = true →
 K U7 H_6) ∧
 ((!E1) = false →
 TL ((0, U7) : Int × d5) H_6 fun (s : Int × d5) H n7 => a1b x2 x1 s.1 s.2 H n7 K))
theorem b4E (x0 : d5) (x1 : d6) (x2 : Int) (g0 : Nat) {K : d5 → Hp → Prop} (I : Inv w0 ps0 H0 H [bx g0 108 (i7 x0)] w) (hR : ∀ (y0 : d5) (H' : Hp) (w' : World) (_ : Inv w0 ps0 H0 H' [bx g0 108 (i7 y0)] w') (_ : K y0 H'), R (Value.tuple #[]) w') (h : a2B x0 x1 x2 H K) : F85 (Value.pointer (some ⟨g0, 0, none⟩)) (Value.agg (d9 x1).toArray) (vi x2) w R E := by
 unfold a2B at h
 unfold F85
 refine K6 I (cs := (d9 x1)) rfl fun g_2 w_3 I_4 k_5 => ?_
 refine f7 (cap := []) (fun args w => Tryz.call84 args w) ?_
 refine k8 (Fi := [bx g0 108 (i7 x0)]) (Fr := [bx g_2 73 (d9 x1)]) (I_4.bring 1) (h g0) (fun b6Z H_6 b7a w_7 I_8 b7b k_9 a7c => ?_) (fun _ _ _ _ _ q => q.elim)
 obtain ⟨E1, U7, rfl, rfl, h⟩ := a7c
 refine a7 (T4 _) ?_
 refine o2 (fun e5g => ?_) (fun e5g => ?_)
 ·replace h := h.1 e5g
  exact hR U7 H_6 _ (I_8.bring 1).drop h
 ·replace h := h.2 e5g
  have hj1 : ∀ (K5 : d5) (H : Hp) (w : World) (_ : Inv w0 ps0 H0 H [bx g0 108 (i7 K5), bx g_2 73 (d9 x1)] w) (_ : a0Z x2 K5 x1 H K), d7r (Value.pointer (some ⟨g0, 0, none⟩)) (vi x2) (Value.pointer (some ⟨g_2, 0, none⟩)) w R E := by
   intro K5 H w I h
   unfold d7r
   intro _
   unfold a0Z at h
   have hj2 : ∀ (a5d : d5) (H : Hp) (w : World) (_ : Inv w0 ps0 H0 H [bx g0 108 (i7 a5d), bx g_2 73 (d9 x1)] w) (_ : a0W x2 a5d x1 H K), d7p (Value.pointer (some ⟨g0, 0, none⟩)) (vi x2) (Value.pointer (some ⟨g_2, 0, none⟩)) w R E := by
    intro a5d H w I h
    unfold d7p
    intro _
    unfold a0W at h
    have hj3 : ∀ (a0U : d5) (H : Hp) (w : World) (_ : Inv w0 ps0 H0 H [bx g0 108 (i7 a0U), bx g_2 73 (d9 x1)] w) (_ : a0T x2 a0U x1 H K), d7o (Value.pointer (some ⟨g0, 0, none⟩)) (vi x2) (Value.pointer (some ⟨g_2, 0, none⟩)) w R E := by
     intro a0U H w I h
     unfold d7o
     intro _
     unfold a0T at h
     obtain ⟨e5h, d1d, i6t, i6u⟩ := h
     refine A7 (J := fun n l w => ∃ (s : Int × d5) (H : Hp) , n = d1d s ∧ l = (match s with | (a2q, L8) => [(vi a2q)]) ∧ (match s with | (a2q, L8) => Inv w0 ps0 H0 H [bx g0 108 (i7 L8), bx g_2 73 (d9 x1)] w) ∧ e5h s H) ⟨_, (0, a0U), H, rfl, rfl, ((I.bring 1).bring 1), i6t⟩ ?_
     rintro j6q τ_110 w next4 ⟨⟨a2q, L8⟩, H, rfl, d1e, I, d1f⟩ hn4
     dsimp only at d1e I
     simp only [List.map_cons, List.map_nil, List.cons.injEq, and_true] at d1e
     have e9 := d1e
     simp only [e9]
     obtain ⟨n4, hm4, h⟩ : ∃ n4 : (Int × d5) → Hp → Prop, (∀ s' H', n4 s' H' → e5h s' H' ∧ d1d s' < d1d (a2q, L8)) ∧ a0S x2 x1 a2q L8 H n4 K := ⟨_, fun _ _ h => h, i6u (a2q, L8) H (fun s' H' => e5h s' H' ∧ d1d s' < d1d (a2q, L8)) d1f (fun _ _ a b => ⟨a, b⟩)⟩
     unfold f0C
     unfold a0S at h
     refine a7 Z2 ?_
     refine f2 (ld1 Tryz.isAgg23 ((I.bring 1).at1 (o := 5) (vs := [(vs x1.z6)]) (nb rfl) rfl)) ?_
     refine a7 (W8 _ _ _) ?_
     refine a7 (v7 _ _ _ _ _ _) ?_
     simp only [z2]
     refine a7 (Pu.g fun hb => by have d7 := hb; simp only [i6 d7]; exact (w7 _)) ?_
     refine a7 (Pu.g fun hb => by have d7 := hb; simp only [i6 d7]; exact a0k) ?_
     refine f2 (Ld.g fun hb => by have d7 := hb; simp only [i6 d7]; exact (ld1 Tryz.isAgg3 (I.at1 (o := 2) (vs := [(vi L8.fbad)]) (nb rfl) rfl))) ?_
     refine a7 (Pu.g fun hb => by have d7 := hb; simp only [i6 d7]; exact (k7 _ _ _ _ _ _)) ?_
     refine a7 (w8 _ _) ?_
     refine o2 (fun e5i => ?_) (fun e5i => ?_)
     ·replace h := h.1 e5i
      refine a7 Z2 ?_
      refine f2 (ld1 Tryz.isAgg23 ((I.bring 1).at1 (o := 5) (vs := [(vs x1.z6)]) (nb rfl) rfl)) ?_
      obtain ⟨d3w, c5H, e5c, b7g, h⟩ := h
      obtain ⟨f4l, k0f, c5P, b7g⟩ := b7g
      refine a7 (a6W c5P _ _ _ _ d3w c5H) ?_
      refine f2 (ldA (vs := (d9 e5c)) Tryz.isAgg73 Tryz.sizeOf73 rfl (I.atH b7g)) ?_
      refine a7 (u7 _ _ _ _ _ _) ?_
      refine f7 (cap := []) (fun args w => Tryz.call85 args w) ?_
      refine k8 (Fi := [bx g0 108 (i7 L8)]) (Fr := [bx g_2 73 (d9 x1)]) I (h g0) (fun j3d c9e i6v a5T f4m i6w j3e e5j => ?_) (fun _ _ _ _ _ q => q.elim)
      obtain ⟨d8E, rfl, rfl, h⟩ := e5j
      refine a7 (u7 _ _ _ _ _ _) ?_
      exact hn4 _ _ _ (hm4 _ _ h).2 ⟨((IntKind.wrap .i64 (a2q + 1)), d8E), c9e, rfl, rfl, ((f4m.bring 1).bring 1), (hm4 _ _ h).1⟩
     ·replace h := h.2 e5i
      exact hR L8 H _ (I.bring 1).drop h
    refine r9 fun j3 hx3 => ?_
    obtain ⟨e5k, d1g, i6x, i6y⟩ := h
    refine A7 (J := fun n l w => ∃ (s : Int × d5) (H : Hp) , n = d1g s ∧ l = (match s with | (a3H, B8) => [(vi a3H)]) ∧ (match s with | (a3H, B8) => Inv w0 ps0 H0 H [bx g0 108 (i7 B8), bx g_2 73 (d9 x1)] w) ∧ e5k s H) ⟨_, (0, a5d), H, rfl, rfl, ((I.bring 1).bring 1), i6x⟩ ?_
    rintro j6r τ_144 w next5 ⟨⟨a3H, B8⟩, H, rfl, e5l, I, i6z⟩ hn5
    dsimp only at e5l I
    simp only [List.map_cons, List.map_nil, List.cons.injEq, and_true] at e5l
    have e8 := e5l
    simp only [e8]
    obtain ⟨n5, hm5, h⟩ : ∃ n5 : (Int × d5) → Hp → Prop, (∀ s' H', n5 s' H' → e5k s' H' ∧ d1g s' < d1g (a3H, B8)) ∧ a0V x2 x1 a3H B8 H n5 K := ⟨_, fun _ _ h => h, i6y (a3H, B8) H (fun s' H' => e5k s' H' ∧ d1g s' < d1g (a3H, B8)) i6z (fun _ _ a b => ⟨a, b⟩)⟩
    unfold f0D
    unfold a0V at h
    refine a7 U6 ?_
    refine f2 (ld1 Tryz.isAgg23 ((I.bring 1).at1 (o := 4) (vs := [(vs x1.A5)]) (nb rfl) rfl)) ?_
    refine a7 (W8 _ _ _) ?_
    refine a7 (v7 _ _ _ _ _ _) ?_
    simp only [z2]
    refine a7 (Pu.g fun hb => by have d7 := hb; simp only [i6 d7]; exact (w7 _)) ?_
    refine a7 (Pu.g fun hb => by have d7 := hb; simp only [i6 d7]; exact a0k) ?_
    refine f2 (Ld.g fun hb => by have d7 := hb; simp only [i6 d7]; exact (ld1 Tryz.isAgg3 (I.at1 (o := 2) (vs := [(vi B8.fbad)]) (nb rfl) rfl))) ?_
    refine a7 (Pu.g fun hb => by have d7 := hb; simp only [i6 d7]; exact (k7 _ _ _ _ _ _)) ?_
    refine a7 (w8 _ _) ?_
    refine o2 (fun c3y => ?_) (fun c3y => ?_)
    ·replace h := h.1 c3y
     refine a7 U6 ?_
     refine f2 (ld1 Tryz.isAgg23 ((I.bring 1).at1 (o := 4) (vs := [(vs x1.A5)]) (nb rfl) rfl)) ?_
     obtain ⟨e5m, e5n, b7B, b4F, h⟩ := h
     obtain ⟨i6A, i6B, e5o, b4F⟩ := b4F
     refine a7 (a6W e5o _ _ _ _ e5m e5n) ?_
     refine f2 (ldA (vs := (d9 b7B)) Tryz.isAgg73 Tryz.sizeOf73 rfl (I.atH b4F)) ?_
     refine a7 (u7 _ _ _ _ _ _) ?_
     refine f7 (cap := []) (fun args w => Tryz.call85 args w) ?_
     refine k8 (Fi := [bx g0 108 (i7 B8)]) (Fr := [bx g_2 73 (d9 x1)]) I (h g0) (fun i6C b6j i6D a7k c6Y i6E i6F e5p => ?_) (fun _ _ _ _ _ q => q.elim)
     obtain ⟨d8F, rfl, rfl, h⟩ := e5p
     refine a7 (u7 _ _ _ _ _ _) ?_
     exact hn5 _ _ _ (hm5 _ _ h).2 ⟨((IntKind.wrap .i64 (a3H + 1)), d8F), b6j, rfl, rfl, ((c6Y.bring 1).bring 1), (hm5 _ _ h).1⟩
    ·replace h := h.2 c3y
     exact hx3 _ _ (hj3 B8 H _ ((I.bring 1).bring 1) h)
   refine r9 fun j2 hx2 => ?_
   obtain ⟨e5q, d1h, i6G, i6H⟩ := h
   refine A7 (J := fun n l w => ∃ (s : Int × d5) (H : Hp) , n = d1h s ∧ l = (match s with | (b3r, a0Y) => [(vi b3r)]) ∧ (match s with | (b3r, a0Y) => Inv w0 ps0 H0 H [bx g0 108 (i7 a0Y), bx g_2 73 (d9 x1)] w) ∧ e5q s H) ⟨_, (0, K5), H, rfl, rfl, ((I.bring 1).bring 1), i6G⟩ ?_
   rintro j6s τ_178 w next6 ⟨⟨b3r, a0Y⟩, H, rfl, e5r, I, i6I⟩ hn6
   dsimp only at e5r I
   simp only [List.map_cons, List.map_nil, List.cons.injEq, and_true] at e5r
   have e7 := e5r
   simp only [e7]
   obtain ⟨n6, hm6, h⟩ : ∃ n6 : (Int × d5) → Hp → Prop, (∀ s' H', n6 s' H' → e5q s' H' ∧ d1h s' < d1h (b3r, a0Y)) ∧ a0X x2 x1 b3r a0Y H n6 K := ⟨_, fun _ _ h => h, i6H (b3r, a0Y) H (fun s' H' => e5q s' H' ∧ d1h s' < d1h (b3r, a0Y)) i6I (fun _ _ a b => ⟨a, b⟩)⟩
   unfold f0E
   unfold a0X at h
   refine a7 S9 ?_
   refine f2 (ld1 Tryz.isAgg51 ((I.bring 1).at1 (o := 2) (vs := [(vs x1.f5)]) (nb rfl) rfl)) ?_
   refine a7 (K0 _ _ _) ?_
   refine a7 (v7 _ _ _ _ _ _) ?_
   simp only [z2]
   refine a7 (Pu.g fun hb => by have d7 := hb; simp only [i6 d7]; exact (w7 _)) ?_
   refine a7 (Pu.g fun hb => by have d7 := hb; simp only [i6 d7]; exact a0k) ?_
   refine f2 (Ld.g fun hb => by have d7 := hb; simp only [i6 d7]; exact (ld1 Tryz.isAgg3 (I.at1 (o := 2) (vs := [(vi a0Y.fbad)]) (nb rfl) rfl))) ?_
   refine a7 (Pu.g fun hb => by have d7 := hb; simp only [i6 d7]; exact (k7 _ _ _ _ _ _)) ?_
   refine a7 (w8 _ _) ?_
   refine o2 (fun e5s => ?_) (fun e5s => ?_)
   ·replace h := h.1 e5s
    refine a7 S9 ?_
    refine f2 (ld1 Tryz.isAgg51 ((I.bring 1).at1 (o := 2) (vs := [(vs x1.f5)]) (nb rfl) rfl)) ?_
    obtain ⟨e5t, d1i, d4R, d1j, h⟩ := h
    obtain ⟨j6t, j6u, i6J, d1j⟩ := d1j
    refine a7 (G7 i6J _ _ _ _ e5t d1i) ?_
    refine f2 (ldA (vs := (b8 d4R)) Tryz.isAgg53 Tryz.sizeOf53 rfl (I.atH d1j)) ?_
    refine a7 (u7 _ _ _ _ _ _) ?_
    refine f7 (cap := []) (fun args w => Tryz.call121 args w) ?_
    refine k8 (Fi := [bx g0 108 (i7 a0Y)]) (Fr := [bx g_2 73 (d9 x1)]) I (h g0) (fun j6v e5e j6w e5u c0z j6x j6y i6K => ?_) (fun _ _ _ _ _ q => q.elim)
    obtain ⟨d8H, rfl, rfl, h⟩ := i6K
    refine a7 (u7 _ _ _ _ _ _) ?_
    exact hn6 _ _ _ (hm6 _ _ h).2 ⟨((IntKind.wrap .i64 (b3r + 1)), d8H), e5e, rfl, rfl, ((c0z.bring 1).bring 1), (hm6 _ _ h).1⟩
   ·replace h := h.2 e5s
    exact hx2 _ _ (hj2 a0Y H _ ((I.bring 1).bring 1) h)
  refine r9 fun j1 hx1 => ?_
  obtain ⟨e5v, d1k, i6L, i6M⟩ := h
  refine A7 (J := fun n l w => ∃ (s : Int × d5) (H : Hp) , n = d1k s ∧ l = (match s with | (b3s, a1d) => [(vi b3s)]) ∧ (match s with | (b3s, a1d) => Inv w0 ps0 H0 H [bx g0 108 (i7 a1d), bx g_2 73 (d9 x1)] w) ∧ e5v s H) ⟨_, (0, U7), H_6, rfl, rfl, ((I_8.bring 1).bring 1), i6L⟩ ?_
  rintro j6z τ_212 w next7 ⟨⟨b3s, a1d⟩, H, rfl, e5w, I, i6N⟩ hn7
  dsimp only at e5w I
  simp only [List.map_cons, List.map_nil, List.cons.injEq, and_true] at e5w
  have e6 := e5w
  simp only [e6]
  obtain ⟨n7, hm7, h⟩ : ∃ n7 : (Int × d5) → Hp → Prop, (∀ s' H', n7 s' H' → e5v s' H' ∧ d1k s' < d1k (b3s, a1d)) ∧ a1b x2 x1 b3s a1d H n7 K := ⟨_, fun _ _ h => h, i6M (b3s, a1d) H (fun s' H' => e5v s' H' ∧ d1k s' < d1k (b3s, a1d)) i6N (fun _ _ a b => ⟨a, b⟩)⟩
  unfold f0F
  unfold a1b at h
  refine a7 R7 ?_
  refine f2 (ld1 Tryz.isAgg57 ((I.bring 1).at1 (o := 3) (vs := [(vs x1.i4)]) (nb rfl) rfl)) ?_
  refine a7 (V0 _ _ _) ?_
  refine a7 (v7 _ _ _ _ _ _) ?_
  simp only [z2]
  refine a7 (Pu.g fun hb => by have d7 := hb; simp only [i6 d7]; exact (w7 _)) ?_
  refine a7 (Pu.g fun hb => by have d7 := hb; simp only [i6 d7]; exact a0k) ?_
  refine f2 (Ld.g fun hb => by have d7 := hb; simp only [i6 d7]; exact (ld1 Tryz.isAgg3 (I.at1 (o := 2) (vs := [(vi a1d.fbad)]) (nb rfl) rfl))) ?_
  refine a7 (Pu.g fun hb => by have d7 := hb; simp only [i6 d7]; exact (k7 _ _ _ _ _ _)) ?_
  refine a7 (w8 _ _) ?_
  refine o2 (fun e5x => ?_) (fun e5x => ?_)
  ·replace h := h.1 e5x
   refine a7 R7 ?_
   refine f2 (ld1 Tryz.isAgg57 ((I.bring 1).at1 (o := 3) (vs := [(vs x1.i4)]) (nb rfl) rfl)) ?_
   obtain ⟨i6O, i6P, d4S, d1l, h⟩ := h
   obtain ⟨j6A, j6B, d1m, d1l⟩ := d1l
   refine a7 (a1T d1m _ _ _ _ i6O i6P) ?_
   refine f2 (ldA (vs := (d8 d4S)) Tryz.isAgg59 Tryz.sizeOf59 rfl (I.atH d1l)) ?_
   refine a7 (u7 _ _ _ _ _ _) ?_
   refine f7 (cap := []) (fun args w => Tryz.call120 args w) ?_
   refine k8 (Fi := [bx g0 108 (i7 a1d)]) (Fr := [bx g_2 73 (d9 x1)]) I (h g0) (fun j6C e5f j6D f7Y i6Q j6E j6F i6R => ?_) (fun _ _ _ _ _ q => q.elim)
   obtain ⟨d8I, rfl, rfl, h⟩ := i6R
   refine a7 (u7 _ _ _ _ _ _) ?_
   exact hn7 _ _ _ (hm7 _ _ h).2 ⟨((IntKind.wrap .i64 (b3s + 1)), d8I), e5f, rfl, rfl, ((i6Q.bring 1).bring 1), (hm7 _ _ h).1⟩
  ·replace h := h.2 e5x
   exact hx1 _ _ (hj1 a1d H _ ((I.bring 1).bring 1) h)
theorem b5g (x0 : d5) (x1 : d6) (x2 : Int) {H : Hp} {K : d5 → Hp → Prop} (h : a2B x0 x1 x2 H K) : Y9 x0 x1 x2 H K := by
 intro g0 w I
 refine h0B ?_
 refine b4E x0 x1 x2 g0 I (fun y0 H' w' I' hk => ⟨H', _, I', y0, rfl, rfl, hk⟩) h
def a5A (x0 : g7) (H : Hp) (K : Bool → Hp → Prop) : Prop :=
 a3S x0 H (fun (E1 : d5) (H_6 : Hp) =>
 K (decide (E1.fbad = 0)) H_6)
theorem b9a (x0 : g7) {K : Bool → Hp → Prop} (I : Inv w0 ps0 H0 H [] w) (hR : ∀ (r0 : Bool) (H' : Hp) (w' : World) (_ : Inv w0 ps0 H0 H' [] w') (_ : K r0 H'), R (vB r0) w') (h : a5A x0 H K) : F29 (Value.agg (i5 x0).toArray) w R E := by
 unfold a5A at h
 unfold F29
 refine K6 I (cs := (i5 x0)) rfl fun g_2 w_3 I_4 k_5 => ?_
 refine f2 (ldA Tryz.isAgg25 Tryz.sizeOf25 rfl (I_4.at1 (o := 0) (vs := (i5 x0)) (nb rfl) rfl)) ?_
 refine f7 (cap := []) (fun args w => Tryz.call47 args w) ?_
 refine k8 (Fi := []) (Fr := [bx g_2 25 (i5 x0)]) I_4 (h) (fun b6Z H_6 b7a w_7 I_8 b7b k_9 a7c => ?_) (fun _ _ _ _ _ q => q.elim)
 obtain ⟨E1, rfl, rfl, h⟩ := a7c
 refine a7 d5V ?_
 refine a7 (k7 _ _ _ _ _ _) ?_
 exact hR (decide (E1.fbad = 0)) H_6 _ I_8.drop h
theorem c0a (x0 : g7) {H : Hp} {K : Bool → Hp → Prop} (h : a5A x0 H K) : a5y x0 H K := by
 intro w I
 refine g7B ?_
 refine b9a x0 I (fun r0 H' w' I' hk => ⟨H', _, I', r0, rfl, rfl, hk⟩) h
def J0 (C6 : (List g8)) (H : Hp) (K : Sl → Hp → Prop) : Prop :=
 ∀ (r7 : Sl) (M1 : Hp), Hle H M1 → SlH M1 1 v8 r7 C6 → r7.n ≤ r7.c →
 K r7 M1
def J1 (a0u : Sl) (a4V : Int) (m6 : (List g8)) (o0 : Int) (H : Hp) (n2 : ((List g8) × Int) → Hp → Prop) (K : Sl → Hp → Prop) : Prop :=
 (o0 < a4V →
 (0 : Int) ≤ o0 ∧ (o0 : Int) < a0u.n ∧ ∃ x_1 : a8, EltH H a0u o0 4 (b8 x_1) ∧
 b4s x_1 H (fun (I0 : g8) (U1 : Hp) =>
 (m6.length + ([I0] : List g8).length) * 17 ≤ 140737488355328 ∧
 n2 ((m6 ++ [I0]), (IntKind.wrap .i64 (o0 + 1))) U1)) ∧
 (¬ (o0 < a4V) →
 J0 m6 H K)
def L0 (x0 : Sl) (H : Hp) (K : Sl → Hp → Prop) : Prop :=
 TL (([], 0) : (List g8) × Int) H fun (s : (List g8) × Int) H n2 => J1 x0 (x0.n : Int) s.1 s.2 H n2 K
theorem a5P (x0 : Sl) {K : Sl → Hp → Prop} (I : Inv w0 ps0 H0 H [] w) (hR : ∀ (r0 : Sl) (H' : Hp) (w' : World) (_ : Inv w0 ps0 H0 H' [] w') (_ : K r0 H'), R (vs r0) w') (h : L0 x0 H K) : e4k (vs x0) (fC 190) w R E := by
 unfold L0 at h
 unfold e4k
 have hj1 : ∀ (C6 : (List g8)) (r7 : Sl) (Fs5j1 : Frag) (H : Hp) (w : World) (_ : RowL 150 1 v8 r7 C6 Fs5j1) (_ : Inv w0 ps0 H0 H [Fs5j1] w) (_ : J0 C6 H K), d3m (vs r7) w R E := by
  intro C6 r7 Fs5j1 H w a6v I h
  unfold d3m
  intro _
  unfold J0 at h
  obtain ⟨M1, a6K, b0n, a5v, a5W⟩ := Inv.freezeC I a6v (by decide)
  replace h := h r7 M1 b0n a5v a5W
  exact hR r7 M1 _ a6K h
 refine r9 fun j1 hx1 => ?_
 refine a7 (K0 _ _ _) ?_
 obtain ⟨a2N, R4, b1x, b1y⟩ := h
 refine A7 (J := fun n l w => ∃ (s : (List g8) × Int) (H : Hp) (B9 : Sl) (Fs5l2 : Frag) , n = R4 s ∧ l = (match s with | (m6, o0) => [(vs B9), (vi o0)]) ∧ (match s with | (m6, o0) => RowL 150 1 v8 B9 m6 Fs5l2) ∧ (match s with | (m6, o0) => Inv w0 ps0 H0 H [Fs5l2] w) ∧ a2N s H) ⟨_, ([], 0), H, (Sl.mk none 0 0), [], rfl, rfl, (RowL.nil T5 W0), I.nil, b1x⟩ ?_
 rintro c5F τ_50 w next2 ⟨⟨m6, o0⟩, H, B9, Fs5l2, rfl, a1W, Q2, I, b1z⟩ hn2
 dsimp only at a1W I Q2
 simp only [List.map_cons, List.map_nil, List.cons.injEq, and_true] at a1W
 obtain ⟨e5, e10⟩ := a1W
 simp only [e5, e10]
 obtain ⟨n2, hm2, h⟩ : ∃ n2 : ((List g8) × Int) → Hp → Prop, (∀ s' H', n2 s' H' → a2N s' H' ∧ R4 s' < R4 (m6, o0)) ∧ J1 x0 (x0.n : Int) m6 o0 H n2 K := ⟨_, fun _ _ h => h, b1y (m6, o0) H (fun s' H' => a2N s' H' ∧ R4 s' < R4 (m6, o0)) b1z (fun _ _ a b => ⟨a, b⟩)⟩
 unfold e2C
 unfold J1 at h
 refine a7 (v7 _ _ _ _ _ _) ?_
 refine k4 (fun a0H => ?_) (fun a0H => ?_)
 ·replace h := h.1 a0H
  obtain ⟨h_4, h_5, x_1, h_7, h⟩ := h
  obtain ⟨g_2, o_3, h_6, h_7⟩ := h_7
  refine a7 (G7 h_6 _ _ _ _ h_4 h_5) ?_
  refine f2 (ldA (vs := (b8 x_1)) Tryz.isAgg53 Tryz.sizeOf53 rfl (I.atH h_7)) ?_
  refine z8 I Tryz.zeroValue53 (cs := [(vi 0), (vi 0), (eS), (nS)]) rfl fun g_9 o9 a3G b3h => ?_
  refine m5 a3G Tryz.sizeOf53 (vs := (b8 x_1)) (cs' := (b8 x_1)) rfl rfl (nb rfl) rfl rfl fun a3F P1 a4W => ?_
  refine f2 (ldA Tryz.isAgg53 Tryz.sizeOf53 rfl (P1.at1 (o := 0) (vs := (b8 x_1)) (nb rfl) rfl)) ?_
  refine f7 (cap := []) (fun args w => Tryz.call190 args w) ?_
  refine k8 (Fi := []) (Fr := [bx g_9 53 (b8 x_1), Fs5l2]) P1 (h) (fun c3a U1 c0X a0t a4X c3b c0Y b0o => ?_) (fun _ _ _ _ _ q => q.elim)
  obtain ⟨I0, rfl, rfl, h⟩ := b0o
  refine a4b (e := 150) (c := v8) (xs := [I0]) a4X (b5w _) rfl rfl T5 W0 (nb rfl) fun c0Z b4v B0 a8c X3 a9P => ?_
  obtain ⟨b0p, h⟩ := h
  refine c1F (s := B9) (xs := m6) (X3.bring 2) Q2 (a8c.srcO ((X3.bring 2).bring 1)) b0p fun a7u a9Q A6 a9i a6L b8K => ?_
  refine a7 (u7 _ _ _ _ _ _) ?_
  exact hn2 _ _ _ (hm2 _ _ h).2 ⟨((m6 ++ [I0]), (IntKind.wrap .i64 (o0 + 1))), U1, a7u, a9Q, rfl, rfl, a9i, ((a6L.bring 1).drop.bring 1).drop, (hm2 _ _ h).1⟩
 ·replace h := h.2 a0H
  exact hx1 _ _ (hj1 m6 B9 Fs5l2 H _ Q2 I h)
theorem a6i (x0 : Sl) {H : Hp} {K : Sl → Hp → Prop} (h : L0 x0 H K) : C5 x0 H K := by
 intro w I
 refine g1G ?_
 refine a5P x0 I (fun r0 H' w' I' hk => ⟨H', _, I', r0, rfl, rfl, hk⟩) h
def a5e (x0 : a0D) (H : Hp) (K : Sl → Hp → Prop) : Prop :=
 K (Sl.mk none 0 0) H
theorem b7C (x0 : a0D) {K : Sl → Hp → Prop} (I : Inv w0 ps0 H0 H [] w) (hR : ∀ (r0 : Sl) (H' : Hp) (w' : World) (_ : Inv w0 ps0 H0 H' [] w') (_ : K r0 H'), R (vs r0) w') (h : a5e x0 H K) : e4s (Value.agg (w6 x0.a0E).toArray) w R E := by
 unfold a5e at h
 unfold e4s
 refine K6 I (cs := (w6 x0.a0E)) rfl fun g_2 w_3 I_4 k_5 => ?_
 exact hR (Sl.mk none 0 0) H _ I_4.drop h
theorem b9b (x0 : a0D) {H : Hp} {K : Sl → Hp → Prop} (h : a5e x0 H K) : b1v x0 H K := by
 intro w I
 refine g1V ?_
 refine b7C x0 I (fun r0 H' w' I' hk => ⟨H', _, I', r0, rfl, rfl, hk⟩) h
end Go.Proofs.YtnhkdkcgdcgmdaaGreatDoor
