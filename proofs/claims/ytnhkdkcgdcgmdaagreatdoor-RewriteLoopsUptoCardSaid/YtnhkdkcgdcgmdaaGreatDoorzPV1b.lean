/- Typed formulas of the program's functions, and the theorems that the contracts follow from them; printed by lift.py off the code. -/
import Derived.Test.YtnhkdkcgdcgmdaaGreatDoorzPV1
namespace Go.Proofs.YtnhkdkcgdcgmdaaGreatDoor
open Go.RowKit
set_option maxRecDepth 100000
set_option maxHeartbeats 2000000
variable {w0 w : World} {ps0 : Nat → Prop} {H0 H : Hp} {R : RT} {E : Pan}
def a5d (x0 : d9) (H : Hp) (K : ByteArray → Bool → Hp → Prop) : Prop :=
 (x0.a7M = true →
 K ((((x0.Z0)).V2).b8) true H) ∧
 (x0.a7M = false →
 (x0.a7N = true →
 K ((((x0.o3)).i6).b8) ((decide (((((x0.o3)).i6).a8) = 1)) || (decide (((((x0.o3)).i6).a8) = 2))) H) ∧
 (x0.a7N = false →
 (x0.a7L = true →
 K ((((x0.v7)).r6).b8) ((decide (((((x0.v7)).r6).a8) = 2)) || (decide (((((x0.v7)).r6).a8) = 4))) H) ∧
 (x0.a7L = false →
 K ⟨#[]⟩ false H)))
theorem b8p (x0 : d9) {K : ByteArray → Bool → Hp → Prop} (I : Inv w0 ps0 H0 H [] w) (hR : ∀ (r0 : ByteArray) (r1 : Bool) (H' : Hp) (w' : World) (_ : Inv w0 ps0 H0 H' [] w') (_ : K r0 r1 H'), R (Value.tuple #[(Value.string r0), (vB r1)]) w') (h : a5d x0 H K) : d5E (C3 x0) w R E := by
 unfold a5d at h
 unfold d5E
 refine a7 (c7v x0) ?_
 refine a7 (m2 _ _ (vB x0.a7M) rfl) ?_
 refine a7 (m2 _ _ _ rfl) ?_
 refine s6 (fun e3N => ?_) (fun e3N => ?_)
 ·replace h := h.1 e3N
  refine u1 I Tryz.zeroValue182 (cs := [(eS), (vi 0)]) rfl fun g_2 w_3 I_4 k_5 => ?_
  refine l9 I_4 Tryz.sizeOf182 (vs := [(Value.string ((((x0.Z0)).V2).b8)), (vi ((((x0.Z0)).V2).Q3))]) (cs' := [(Value.string ((((x0.Z0)).V2).b8)), (vi ((((x0.Z0)).V2).Q3))]) rfl rfl (nb rfl) rfl rfl fun w_6 I_7 k_8 => ?_
  refine a7 b4R ?_
  refine a7 a2W ?_
  refine d6 (ld1 Tryz.isAgg9 (I_7.at1 (o := 0) (vs := [(Value.string ((((x0.Z0)).V2).b8))]) (nb rfl) rfl)) ?_
  exact hR ((((x0.Z0)).V2).b8) true H _ I_7.drop h
 ·replace h := h.2 e3N
  refine a7 (c7w x0) ?_
  refine a7 (m2 _ _ (vB x0.a7N) rfl) ?_
  refine a7 (m2 _ _ _ rfl) ?_
  refine s6 (fun c2f => ?_) (fun c2f => ?_)
  ·replace h := h.1 c2f
   refine u1 I Tryz.zeroValue184 (cs := [(vi 0), (eS), (nS), (nS), (nS), (nS)]) rfl fun h7h R7 D8 b6S => ?_
   refine l9 D8 Tryz.sizeOf184 (vs := [(vi ((((x0.o3)).i6).a8)), (Value.string ((((x0.o3)).i6).b8)), (Value.slice ((((x0.o3)).i6).f2).a ((((x0.o3)).i6).f2).n ((((x0.o3)).i6).f2).c), (Value.slice ((((x0.o3)).i6).j7).a ((((x0.o3)).i6).j7).n ((((x0.o3)).i6).j7).c), (Value.slice ((((x0.o3)).i6).E5).a ((((x0.o3)).i6).E5).n ((((x0.o3)).i6).E5).c), (Value.slice ((((x0.o3)).i6).B5).a ((((x0.o3)).i6).B5).n ((((x0.o3)).i6).B5).c)]) (cs' := [(vi ((((x0.o3)).i6).a8)), (Value.string ((((x0.o3)).i6).b8)), (Value.slice ((((x0.o3)).i6).f2).a ((((x0.o3)).i6).f2).n ((((x0.o3)).i6).f2).c), (Value.slice ((((x0.o3)).i6).j7).a ((((x0.o3)).i6).j7).n ((((x0.o3)).i6).j7).c), (Value.slice ((((x0.o3)).i6).E5).a ((((x0.o3)).i6).E5).n ((((x0.o3)).i6).E5).c), (Value.slice ((((x0.o3)).i6).B5).a ((((x0.o3)).i6).B5).n ((((x0.o3)).i6).B5).c)]) rfl rfl (nb rfl) rfl rfl fun o8 b3a b6Z => ?_
   refine V0 b3a fun a0q a2F => ?_
   refine l7 Q5 ?_
   refine l7 a4X ?_
   refine l7 Q5 ?_
   refine l7 a7P ?_
   refine t6 (ld1 Tryz.isAgg9 (a2F.at1 (o := 1) (vs := [(Value.string ((((x0.o3)).i6).b8))]) (nb rfl) rfl)) ?_
   refine t6 (ld1 Tryz.isAgg3 (a2F.at1 (o := 0) (vs := [(vi ((((x0.o3)).i6).a8))]) (nb rfl) rfl)) ?_
   refine l7 (m5 _ _ _ _ _ _) ?_
   refine l7 (Pu.g fun hb => by have i5 := hb; exact Q5) ?_
   refine l7 (Pu.g fun hb => by have i5 := hb; simp only [r8 i5]; exact a7P) ?_
   refine f5Q (p := (Value.pointer (some ⟨h7h, 0, none⟩))) rfl (Ld.g fun hb => by have i5 := hb; simp only [r8 i5]; exact (ld1 Tryz.isAgg3 (a2F.at1 (o := 0) (vs := [(vi ((((x0.o3)).i6).a8))]) (nb rfl) rfl))) ?_
   refine l7 (Pu.g fun hb => by have i5 := hb; simp only [r8 i5]; exact (m5 _ _ _ _ _ _)) ?_
   refine l7 (a0E _ _) ?_
   exact hR ((((x0.o3)).i6).b8) ((decide (((((x0.o3)).i6).a8) = 1)) || (decide (((((x0.o3)).i6).a8) = 2))) H _ a2F.drop h
  ·replace h := h.2 c2f
   refine a7 (c7x x0) ?_
   refine a7 (m2 _ _ (vB x0.a7L) rfl) ?_
   refine a7 (m2 _ _ _ rfl) ?_
   refine s6 (fun c2g => ?_) (fun c2g => ?_)
   ·replace h := h.1 c2g
    refine u1 I Tryz.zeroValue136 (cs := [(vi 0), (vi 0), (eS), (nS)]) rfl fun g0F Z3 d6i h7i => ?_
    refine l9 d6i Tryz.sizeOf136 (vs := [(vi ((((x0.v7)).r6).a8)), (vi ((((x0.v7)).r6).o2)), (Value.string ((((x0.v7)).r6).b8)), (Value.slice ((((x0.v7)).r6).o0).a ((((x0.v7)).r6).o0).n ((((x0.v7)).r6).o0).c)]) (cs' := [(vi ((((x0.v7)).r6).a8)), (vi ((((x0.v7)).r6).o2)), (Value.string ((((x0.v7)).r6).b8)), (Value.slice ((((x0.v7)).r6).o0).a ((((x0.v7)).r6).o0).n ((((x0.v7)).r6).o0).c)]) rfl rfl (nb rfl) rfl rfl fun v6 a5Z d6j => ?_
    refine V0 a5Z fun a2d c6d => ?_
    refine l7 a1v ?_
    refine l7 a7Q ?_
    refine l7 a1v ?_
    refine l7 Q4 ?_
    refine t6 (ld1 Tryz.isAgg9 (c6d.at1 (o := 2) (vs := [(Value.string ((((x0.v7)).r6).b8))]) (nb rfl) rfl)) ?_
    refine t6 (ld1 Tryz.isAgg3 (c6d.at1 (o := 0) (vs := [(vi ((((x0.v7)).r6).a8))]) (nb rfl) rfl)) ?_
    refine l7 (m5 _ _ _ _ _ _) ?_
    refine l7 (Pu.g fun hb => by have i5 := hb; exact a1v) ?_
    refine l7 (Pu.g fun hb => by have i5 := hb; simp only [r8 i5]; exact Q4) ?_
    refine f5Q (p := (Value.pointer (some ⟨g0F, 0, none⟩))) rfl (Ld.g fun hb => by have i5 := hb; simp only [r8 i5]; exact (ld1 Tryz.isAgg3 (c6d.at1 (o := 0) (vs := [(vi ((((x0.v7)).r6).a8))]) (nb rfl) rfl))) ?_
    refine l7 (Pu.g fun hb => by have i5 := hb; simp only [r8 i5]; exact (m5 _ _ _ _ _ _)) ?_
    refine l7 (a0E _ _) ?_
    exact hR ((((x0.v7)).r6).b8) ((decide (((((x0.v7)).r6).a8) = 2)) || (decide (((((x0.v7)).r6).a8) = 4))) H _ c6d.drop h
   ·replace h := h.2 c2g
    exact hR ⟨#[]⟩ false H _ I h
theorem b9s (x0 : d9) {H : Hp} {K : ByteArray → Bool → Hp → Prop} (h : a5d x0 H K) : a3z x0 H K := by
 intro w I
 refine e9R ?_
 refine b8p x0 I (fun r0 r1 H' w' I' hk => ⟨H', _, I', r0, r1, rfl, rfl, hk⟩) h
def S8 (b4W : Int) (H : Hp) (K : Int → Hp → Prop) : Prop :=
 K b4W H
def S9 (d0g : ByteArray) (b1C : Int) (a5e : Nat) (H : Hp) (n2 : (Int × Nat) → Hp → Prop) (K : Int → Hp → Prop) : Prop :=
 (a5e < d0g.size →
 n2 ((IntKind.wrap .i64 (b1C + 1)), (a5e + (Utf8.decode d0g a5e).2)) H) ∧
 (¬ (a5e < d0g.size) →
 S8 b1C H K)
def V6 (x0 : ByteArray) (H : Hp) (K : Int → Hp → Prop) : Prop :=
 TL ((0, 0) : Int × Nat) H fun (s : Int × Nat) H n2 => S9 x0 s.1 s.2 H n2 K
theorem a8u (x0 : ByteArray) {K : Int → Hp → Prop} (I : Inv w0 ps0 H0 H [] w) (hR : ∀ (r0 : Int) (H' : Hp) (w' : World) (_ : Inv w0 ps0 H0 H' [] w') (_ : K r0 H'), R (vi r0) w') (h : V6 x0 H K) : d5O (Value.string x0) w R E := by
 unfold V6 at h
 unfold d5O
 have hj1 : ∀ (b4W : Int) (H : Hp) (w : World) (_ : Inv w0 ps0 H0 H [] w) (_ : S8 b4W H K), c5N (vi b4W) w R E := by
  intro b4W H w I h
  unfold c5N
  intro _
  unfold S8 at h
  exact hR b4W H _ I h
 refine v8 fun j1 hx1 => ?_
 refine d4i Tryz.underlying9 x0 I fun g_2 w_3 I_4 k_5 => ?_
 obtain ⟨e3O, d0h, h7j, h7k⟩ := h
 refine L6 (J := fun n l w => ∃ (s : Int × Nat) (H : Hp) , n = d0h s ∧ l = (match s with | (b1C, a5e) => [(vi b1C)]) ∧ (match s with | (b1C, a5e) => Inv w0 ps0 H0 H [itf g_2 x0 a5e] w) ∧ e3O s H) ⟨_, (0, 0), H, rfl, rfl, I_4, h7j⟩ ?_
 rintro i3p τ_27 w next2 ⟨⟨b1C, a5e⟩, H, rfl, d0i, I, h7l⟩ hn2
 dsimp only at d0i I
 simp only [List.map_cons, List.map_nil, List.cons.injEq, and_true] at d0i
 have e2 := d0i
 simp only [e2]
 obtain ⟨n2, hm2, h⟩ : ∃ n2 : (Int × Nat) → Hp → Prop, (∀ s' H', n2 s' H' → e3O s' H' ∧ d0h s' < d0h (b1C, a5e)) ∧ S9 x0 b1C a5e H n2 K := ⟨_, fun _ _ h => h, h7k (b1C, a5e) H (fun s' H' => e3O s' H' ∧ d0h s' < d0h (b1C, a5e)) h7l (fun _ _ a b => ⟨a, b⟩)⟩
 unfold d4s
 unfold S9 at h
 refine d9z I (fun a8N t8 b2X c6c => ?_) (fun a8N => ?_)
 ·replace h := h.1 a8N
  refine a7 (m2 _ _ (vB true) rfl) ?_
  refine s6 (fun e => ?_) (fun e => by cases e)
  refine a7 (J8 _ _ _ _ _ _) ?_
  exact hn2 _ _ _ (hm2 _ _ h).2 ⟨((IntKind.wrap .i64 (b1C + 1)), (a5e + (Utf8.decode x0 a5e).2)), H, rfl, rfl, b2X, (hm2 _ _ h).1⟩
 ·replace h := h.2 a8N
  refine a7 (m2 _ _ (vB false) rfl) ?_
  refine s6 (fun e => by cases e) (fun e => ?_)
  exact hx1 _ _ (hj1 b1C H _ I.drop h)
theorem a8O (x0 : ByteArray) {H : Hp} {K : Int → Hp → Prop} (h : V6 x0 H K) : a0P x0 H K := by
 intro w I
 refine f0h ?_
 refine a8u x0 I (fun r0 H' w' I' hk => ⟨H', _, I', r0, rfl, rfl, hk⟩) h
def a1b (b0i : Int) (b0j : Int) (b0k : Int) (b0l : Bool) (b0m : Bool) (a9i : (List ByteArray)) (H : Hp) (K : Bool → j9 → (List ByteArray) → Hp → Prop) : Prop :=
 K true (j9.mk b0i b0j b0k b0l b0m (Sl.mk none 0 0)) a9i H
def a1d (a9I : Int) (T4 : Sl) (m6 : Int) (a1M : Int) (a2I : Int) (a2J : Int) (a2K : Int) (a2L : Bool) (a2M : Bool) (a2b : (List ByteArray)) (H : Hp) (n2 : (Int × Int × Int × Int × Bool × Bool × (List ByteArray)) → Hp → Prop) (K : Bool → j9 → (List ByteArray) → Hp → Prop) : Prop :=
 (a1M < m6 →
 (0 : Int) ≤ a1M ∧ (a1M : Int) < T4.n ∧ ∃ d0j : d9, EltH H T4 a1M 1 [(C3 d0j)] ∧
 a3N (j9.mk a2I a2J a2K a2L a2M (Sl.mk none 0 0)) a2b d0j a9I H (fun (a8D : Bool) (O6 : j9) (b2t : (List ByteArray)) (d0k : Hp) =>
 TG ((!a8D) = false) (a5W d0j d0k) (Sl.mk none 0 0) d0k (fun (b7a : Sl) (a4l : Hp) =>
 TG ((!a8D) = false) (fun k_ => a0z b7a (IntKind.wrap .i64 (a9I + 1)) (j9.mk ((O6).fnodes) ((O6).fdepth) ((O6).fe) ((O6).fform) ((O6).fnamed) (Sl.mk none 0 0)) b2t a4l fun a7i U2 a4W H_ => k_ (a7i, U2, a4W) H_) (false, (j9.mk ((O6).fnodes) ((O6).fdepth) ((O6).fe) ((O6).fform) ((O6).fnamed) (Sl.mk none 0 0)), b2t) a4l (fun (a1N : Bool × j9 × (List ByteArray)) (a4R : Hp) =>
 (((!a8D) || (!a1N.1)) = true →
 K false (j9.mk ((a1N.2.1).fnodes) ((a1N.2.1).fdepth) ((a1N.2.1).fe) ((a1N.2.1).fform) ((a1N.2.1).fnamed) (Sl.mk none 0 0)) a1N.2.2 a4R) ∧
 (((!a8D) || (!a1N.1)) = false →
 n2 ((IntKind.wrap .i64 (a1M + 1)), ((a1N.2.1).fnodes), ((a1N.2.1).fdepth), ((a1N.2.1).fe), ((a1N.2.1).fform), ((a1N.2.1).fnamed), a1N.2.2) a4R))))) ∧
 (¬ (a1M < m6) →
 a1b a2I a2J a2K a2L a2M a2b H K)
def a3h (x0 : Sl) (x1 : Int) (x2 : j9) (b2Q : (List ByteArray)) (H : Hp) (K : Bool → j9 → (List ByteArray) → Hp → Prop) : Prop :=
 TL ((0, x2.fnodes, x2.fdepth, x2.fe, x2.fform, x2.fnamed, b2Q) : Int × Int × Int × Int × Bool × Bool × (List ByteArray)) H fun (s : Int × Int × Int × Int × Bool × Bool × (List ByteArray)) H n2 => a1d x1 x0 (x0.n : Int) s.1 s.2.1 s.2.2.1 s.2.2.2.1 s.2.2.2.2.1 s.2.2.2.2.2.1 s.2.2.2.2.2.2 H n2 K
theorem b3V (x0 : Sl) (x1 : Int) (x2 : j9) (b2Q : (List ByteArray)) (g2 g2b g3 : Nat) (b4q : Sl) (b4r : Frag) (d6k : RowL 9 1 M0 b4q b2Q b4r) {K : Bool → j9 → (List ByteArray) → Hp → Prop} (I : Inv w0 ps0 H0 H [bx g2 102 [(Value.pointer (some ⟨g2b, 0, none⟩))], bx g2b 101 [(vi x2.fnodes), (vi x2.fdepth), (vi x2.fe), (vB x2.fform), (vB x2.fnamed), (vs b4q)], b4r, bx g3 170 [(Value.func (.func 110) #[] #[(Value.pointer (some ⟨g2, 0, none⟩)), (Value.pointer (some ⟨g3, 0, none⟩))])]] w) (hR : ∀ (r0 : Bool) (y0 : j9) (a8J : (List ByteArray)) (a6p : Sl) (a6q : Frag) (H' : Hp) (w' : World) (_ : RowL 9 1 M0 a6p a8J a6q) (_ : Inv w0 ps0 H0 H' [bx g2 102 [(Value.pointer (some ⟨g2b, 0, none⟩))], bx g2b 101 [(vi y0.fnodes), (vi y0.fdepth), (vi y0.fe), (vB y0.fform), (vB y0.fnamed), (vs a6p)], a6q, bx g3 170 [(Value.func (.func 110) #[] #[(Value.pointer (some ⟨g2, 0, none⟩)), (Value.pointer (some ⟨g3, 0, none⟩))])]] w') (_ : K r0 y0 a8J H'), R (vB r0) w') (h : a3h x0 x1 x2 b2Q H K) : d5C (vs x0) (vi x1) (Value.pointer (some ⟨g2, 0, none⟩)) (Value.pointer (some ⟨g3, 0, none⟩)) w R E := by
 unfold a3h at h
 unfold d5C
 have hj1 : ∀ (b0i : Int) (b0j : Int) (b0k : Int) (b0l : Bool) (b0m : Bool) (a9i : (List ByteArray)) (b4s : Sl) (b4t : Frag) (H : Hp) (w : World) (_ : RowL 9 1 M0 b4s a9i b4t) (_ : Inv w0 ps0 H0 H [bx g2 102 [(Value.pointer (some ⟨g2b, 0, none⟩))], bx g2b 101 [(vi b0i), (vi b0j), (vi b0k), (vB b0l), (vB b0m), (vs b4s)], bx g3 170 [(Value.func (.func 110) #[] #[(Value.pointer (some ⟨g2, 0, none⟩)), (Value.pointer (some ⟨g3, 0, none⟩))])], b4t] w) (_ : a1b b0i b0j b0k b0l b0m a9i H K), c5y w R E := by
  intro b0i b0j b0k b0l b0m a9i b4s b4t H w e0E I h
  unfold c5y
  intro _
  unfold a1b at h
  exact hR true (j9.mk b0i b0j b0k b0l b0m (Sl.mk none 0 0)) a9i b4s b4t H _ e0E ((((I.bring 2).bring 3).bring 3).bring 3) h
 refine v8 fun j1 hx1 => ?_
 refine a7 (b1T _ _ _) ?_
 obtain ⟨e3P, d0l, h7m, h7n⟩ := h
 refine L6 (J := fun n l w => ∃ (s : Int × Int × Int × Int × Bool × Bool × (List ByteArray)) (H : Hp) (a9j : Sl) (a9k : Frag) , n = d0l s ∧ l = (match s with | (a1M, a2I, a2J, a2K, a2L, a2M, a2b) => [(vi a1M)]) ∧ (match s with | (a1M, a2I, a2J, a2K, a2L, a2M, a2b) => RowL 9 1 M0 a9j a2b a9k) ∧ (match s with | (a1M, a2I, a2J, a2K, a2L, a2M, a2b) => Inv w0 ps0 H0 H [bx g2 102 [(Value.pointer (some ⟨g2b, 0, none⟩))], bx g2b 101 [(vi a2I), (vi a2J), (vi a2K), (vB a2L), (vB a2M), (vs a9j)], bx g3 170 [(Value.func (.func 110) #[] #[(Value.pointer (some ⟨g2, 0, none⟩)), (Value.pointer (some ⟨g3, 0, none⟩))])], a9k] w) ∧ e3P s H) ⟨_, (0, x2.fnodes, x2.fdepth, x2.fe, x2.fform, x2.fnamed, b2Q), H, b4q, b4r, rfl, rfl, d6k, ((((I.bring 2).bring 3).bring 3).bring 3), h7m⟩ ?_
 rintro i3q τ_92 w next2 ⟨⟨a1M, a2I, a2J, a2K, a2L, a2M, a2b⟩, H, a9j, a9k, rfl, c9z, b9t, I, g0G⟩ hn2
 dsimp only at c9z I b9t
 simp only [List.map_cons, List.map_nil, List.cons.injEq, and_true] at c9z
 have e11 := c9z
 simp only [e11]
 obtain ⟨n2, hm2, h⟩ : ∃ n2 : (Int × Int × Int × Int × Bool × Bool × (List ByteArray)) → Hp → Prop, (∀ s' H', n2 s' H' → e3P s' H' ∧ d0l s' < d0l (a1M, a2I, a2J, a2K, a2L, a2M, a2b)) ∧ a1d x1 x0 (x0.n : Int) a1M a2I a2J a2K a2L a2M a2b H n2 K := ⟨_, fun _ _ h => h, h7n (a1M, a2I, a2J, a2K, a2L, a2M, a2b) H (fun s' H' => e3P s' H' ∧ d0l s' < d0l (a1M, a2I, a2J, a2K, a2L, a2M, a2b)) g0G (fun _ _ a b => ⟨a, b⟩)⟩
 unfold d4o
 unfold a1d at h
 refine a7 (C2 _ _ _ _ _ _) ?_
 refine i8 (fun c2h => ?_) (fun c2h => ?_)
 ·replace h := h.1 c2h
  obtain ⟨e3Q, b4X, d0j, b9u, h⟩ := h
  obtain ⟨i3r, i3s, d6l, b9u⟩ := b9u
  refine a7 (d9H d6l _ _ _ _ e3Q b4X) ?_
  refine d6 (ld1 (v := (C3 d0j)) Tryz.isAgg150 (I.atH b9u)) ?_
  refine V0 I fun b1D g0H => ?_
  refine t6 (ld1 Tryz.isAgg102 (g0H.at1 (o := 0) (vs := [(Value.pointer (some ⟨g2b, 0, none⟩))]) (nb rfl) rfl)) ?_
  refine d8 (cap := []) (fun args w => Tryz.call111 args w) ?_
  refine m4 (Fi := [bx g2b 101 [(vi a2I), (vi a2J), (vi a2K), (vB a2L), (vB a2M), (vs a9j)], a9k]) (Fr := [bx g2 102 [(Value.pointer (some ⟨g2b, 0, none⟩))], bx g3 170 [(Value.func (.func 110) #[] #[(Value.pointer (some ⟨g2, 0, none⟩)), (Value.pointer (some ⟨g3, 0, none⟩))])]]) ((g0H.bring 3).bring 2) (h g2b a9j a9k b9t) (fun i3t d0k i3u O9 d0m i3v i3w h7o => ?_) (fun _ _ _ _ _ q => q.elim)
  obtain ⟨a8D, O6, b2t, b3b, b3c, rfl, rfl, d0n, h⟩ := h7o
  refine l7 (a0S _) ?_
  simp only [Q0]
  refine l7 (Pu.g fun hb => by have i5 := hb; simp only [r8 i5]; exact (J8 _ _ _ _ _ _)) ?_
  refine t6 (Ld.g fun hb => by have i5 := hb; exact (ld1 Tryz.isAgg170 ((d0m.bring 3).at1 (o := 0) (vs := [(Value.func (.func 110) #[] #[(Value.pointer (some ⟨g2, 0, none⟩)), (Value.pointer (some ⟨g3, 0, none⟩))])]) (nb rfl) rfl))) ?_
  refine a7m (D := fun g0I a6Z => ∃ (b7a : Sl) (a4l : Hp), g0I = (gv (!a8D) false (vs b7a)) ∧ (Inv w0 ps0 H0 a4l [bx g2b 101 [(vi ((O6).fnodes)), (vi ((O6).fdepth)), (vi ((O6).fe)), (vB ((O6).fform)), (vB ((O6).fnamed)), (vs b3b)], b3c, bx g2 102 [(Value.pointer (some ⟨g2b, 0, none⟩))], bx g3 170 [(Value.func (.func 110) #[] #[(Value.pointer (some ⟨g2, 0, none⟩)), (Value.pointer (some ⟨g3, 0, none⟩))])]] a6Z) ∧ (∀ i, i < O9.heap.size → ¬ inF [] i → a6Z.heap[i]? = O9.heap[i]?) ∧ Hle d0k a4l ∧ (TG ((!a8D) = false) (fun k_ => a0z b7a (IntKind.wrap .i64 (x1 + 1)) (j9.mk ((O6).fnodes) ((O6).fdepth) ((O6).fe) ((O6).fform) ((O6).fnamed) (Sl.mk none 0 0)) b2t a4l fun a7i U2 a4W H_ => k_ (a7i, U2, a4W) H_) (false, (j9.mk ((O6).fnodes) ((O6).fdepth) ((O6).fe) ((O6).fform) ((O6).fnamed) (Sl.mk none 0 0)), b2t) a4l (fun (a1N : Bool × j9 × (List ByteArray)) (a4R : Hp) =>
 (((!a8D) || (!a1N.1)) = true →
 K false (j9.mk ((a1N.2.1).fnodes) ((a1N.2.1).fdepth) ((a1N.2.1).fe) ((a1N.2.1).fform) ((a1N.2.1).fnamed) (Sl.mk none 0 0)) a1N.2.2 a4R) ∧
 (((!a8D) || (!a1N.1)) = false →
 n2 ((IntKind.wrap .i64 (a1M + 1)), ((a1N.2.1).fnodes), ((a1N.2.1).fdepth), ((a1N.2.1).fe), ((a1N.2.1).fform), ((a1N.2.1).fnamed), a1N.2.2) a4R)))) (fun d0o => ?_) (fun d0o => ?_) ?_
  ·replace h := h.1 d0o
   have i5 := d0o
   simp only [r8 i5]
   refine b4U d0m h (fun b7a a4l a6Z b4Y d0p c2i h => ?_)
   exact ⟨b7a, a4l, by rfl, b4Y, c2i, d0p, h⟩
  ·exact ⟨(Sl.mk none 0 0), d0k, by rw [b1s d0o], d0m, fun _ _ _ => rfl, Hle.refl _, h.2 d0o⟩
  ·clear h
   rintro g0I a6Z ⟨b7a, a4l, rfl, b4Y, c2i, d0p, h⟩
   refine ⟨(c2i _ (d0m.bring 3).lt1 (Inv.a3r (Fi := []) (d0m.bring 3))), ?_⟩
   refine a7m (D := fun d6m c2j => ∃ (a7i : Bool) (U2 : j9) (a4W : (List ByteArray)) (a4R : Hp) (a8P : Sl) (a8Q : Frag) , d6m = (gv (!a8D) false (vB a7i)) ∧ (RowL 9 1 M0 a8P a4W a8Q) ∧ (Inv w0 ps0 H0 a4R [bx g2 102 [(Value.pointer (some ⟨g2b, 0, none⟩))], bx g2b 101 [(vi ((U2).fnodes)), (vi ((U2).fdepth)), (vi ((U2).fe)), (vB ((U2).fform)), (vB ((U2).fnamed)), (vs a8P)], a8Q, bx g3 170 [(Value.func (.func 110) #[] #[(Value.pointer (some ⟨g2, 0, none⟩)), (Value.pointer (some ⟨g3, 0, none⟩))])]] c2j) ∧ (∀ i, i < a6Z.heap.size → ¬ inF [bx g2 102 [(Value.pointer (some ⟨g2b, 0, none⟩))], bx g2b 101 [(vi ((O6).fnodes)), (vi ((O6).fdepth)), (vi ((O6).fe)), (vB ((O6).fform)), (vB ((O6).fnamed)), (vs b3b)], b3c, bx g3 170 [(Value.func (.func 110) #[] #[(Value.pointer (some ⟨g2, 0, none⟩)), (Value.pointer (some ⟨g3, 0, none⟩))])]] i → c2j.heap[i]? = a6Z.heap[i]?) ∧ Hle a4l a4R ∧ ((((!a8D) || (!a7i)) = true →
 K false (j9.mk ((U2).fnodes) ((U2).fdepth) ((U2).fe) ((U2).fform) ((U2).fnamed) (Sl.mk none 0 0)) a4W a4R) ∧
 (((!a8D) || (!a7i)) = false →
 n2 ((IntKind.wrap .i64 (a1M + 1)), ((U2).fnodes), ((U2).fdepth), ((U2).fe), ((U2).fform), ((U2).fnamed), a4W) a4R))) (fun b3d => ?_) (fun b3d => ?_) ?_
   ·replace h := h.1 b3d
    have i5 := b3d
    simp only [r8 i5]
    refine d8 (cap := [(Value.pointer (some ⟨g2, 0, none⟩)), (Value.pointer (some ⟨g3, 0, none⟩))]) (fun args w => Tryz.call110 args w) ?_
    refine m4 (Fi := [bx g2 102 [(Value.pointer (some ⟨g2b, 0, none⟩))], bx g2b 101 [(vi ((O6).fnodes)), (vi ((O6).fdepth)), (vi ((O6).fe)), (vB ((O6).fform)), (vB ((O6).fnamed)), (vs b3b)], b3c, bx g3 170 [(Value.func (.func 110) #[] #[(Value.pointer (some ⟨g2, 0, none⟩)), (Value.pointer (some ⟨g3, 0, none⟩))])]]) (Fr := []) ((((b4Y.bring 3).bring 2).bring 2).bring 3) (h g2 g2b g3 b3b b3c d0n) (fun d6m a4R h7p c2j b7b b9c e3R e3S => ?_) (fun _ _ _ _ _ q => q.elim)
    obtain ⟨a7i, U2, a4W, a8P, a8Q, rfl, rfl, b7c, h⟩ := e3S
    exact ⟨a7i, U2, a4W, a4R, a8P, a8Q, by rfl, b7c, b7b, e3R, b9c, h⟩
   ·exact ⟨false, (j9.mk ((O6).fnodes) ((O6).fdepth) ((O6).fe) ((O6).fform) ((O6).fnamed) (Sl.mk none 0 0)), b2t, a4l, b3b, b3c, by rw [b1s b3d], d0n, ((((b4Y.bring 3).bring 2).bring 2).bring 3), fun _ _ _ => rfl, Hle.refl _, h.2 b3d⟩
   ·clear h
    rintro d6m c2j ⟨a7i, U2, a4W, a4R, a8P, a8Q, rfl, b7c, b7b, e3R, b9c, h⟩
    refine l7 (Pu.g fun hb => by have i5 := hb; simp only [r8 i5]; exact (a0S _)) ?_
    refine l7 (a0E _ _) ?_
    refine s6 (fun b3e => ?_) (fun b3e => ?_)
    ·replace h := h.1 b3e
     exact hR false (j9.mk ((U2).fnodes) ((U2).fdepth) ((U2).fe) ((U2).fform) ((U2).fnamed) (Sl.mk none 0 0)) a4W a8P a8Q a4R _ b7c ((((b7b.bring 3).bring 3).bring 3).bring 3) h
    ·replace h := h.2 b3e
     refine a7 (J8 _ _ _ _ _ _) ?_
     exact hn2 _ _ _ (hm2 _ _ h).2 ⟨((IntKind.wrap .i64 (a1M + 1)), ((U2).fnodes), ((U2).fdepth), ((U2).fe), ((U2).fform), ((U2).fnamed), a4W), a4R, a8P, a8Q, rfl, rfl, b7c, ((((b7b.bring 2).bring 3).bring 3).bring 3), (hm2 _ _ h).1⟩
 ·replace h := h.2 c2h
  exact hx1 _ _ (hj1 a2I a2J a2K a2L a2M a2b a9j a9k H _ b9t ((((I.bring 3).bring 3).bring 3).bring 3) h)
theorem b4Z (x0 : Sl) (x1 : Int) (x2 : j9) (b2Q : (List ByteArray)) {H : Hp} {K : Bool → j9 → (List ByteArray) → Hp → Prop} (h : a3h x0 x1 x2 b2Q H K) : a0z x0 x1 x2 b2Q H K := by
 intro g2 g2b g3 b4q b4r d6k w I
 refine e9F ?_
 refine b3V x0 x1 x2 b2Q g2 g2b g3 b4q b4r d6k I (fun r0 y0 a8J a6p a6q H' w' d0q I' hk => ⟨H', _, I', r0, y0, a8J, a6p, a6q, rfl, rfl, d0q, hk⟩) h
def a5D (x0 : o9) (H : Hp) (K : j9 → Hp → Prop) : Prop :=
 N3 x0.a3s H (fun (a9F : Sl) (H_8 : Hp) =>
 A0 x0.a5w H_8 (fun (a9G : Sl) (a8M : Hp) =>
 ∀ (b0h : Sl) (b2W : Hp), Hle a8M b2W → SlH b2W 1 csl b0h [a9F, a9G] → b0h.n ≤ b0h.c →
 G4 b0h b2W (fun (c0N : Sl) (b1z : Hp) =>
 a1H c0N b1z (fun (d6n : j9) (e3T : Hp) =>
 K d6n e3T))))
theorem b9v (x0 : o9) {K : j9 → Hp → Prop} (I : Inv w0 ps0 H0 H [] w) (hR : ∀ (r0 : j9) (gr0 : Nat) (H' : Hp) (w' : World) (_ : Inv w0 ps0 H0 H' [bx gr0 101 (a7T r0)] w') (_ : K r0 H'), R (Value.pointer (some ⟨gr0, 0, none⟩)) w') (h : a5D x0 H K) : F43 (Value.agg (m9 x0).toArray) w R E := by
 unfold a5D at h
 unfold F43
 refine M4 I (cs := (m9 x0)) rfl fun g_2 w_3 I_4 k_5 => ?_
 refine V0 I_4 fun w_6 I_7 => ?_
 refine l7 a7O ?_
 refine l7 a9o ?_
 refine t6 (ld1 Tryz.isAgg22 (I_7.at1 (o := 0) (vs := [(vs x0.a3s)]) (nb rfl) rfl)) ?_
 refine t6 (ld1 Tryz.isAgg23 (I_7.at1 (o := 1) (vs := [(vs x0.a5w)]) (nb rfl) rfl)) ?_
 refine d8 (cap := []) (fun args w => Tryz.call76 args w) ?_
 refine m4 (Fi := []) (Fr := [bx g_2 25 (m9 x0)]) I_7 (h) (fun g0z H_8 g0A w_9 b1A c6b b9r d0b => ?_) (fun _ _ _ _ _ q => q.elim)
 obtain ⟨a9F, rfl, rfl, h⟩ := d0b
 refine ⟨(b9r _ I_7.lt1 (Inv.a3r (Fi := []) I_7)), ?_⟩
 refine d8 (cap := []) (fun args w => Tryz.call78 args w) ?_
 refine m4 (Fi := []) (Fr := [bx g_2 25 (m9 x0)]) b1A (h) (fun g0B a8M g0C t8 b2X g0D c6c d0c => ?_) (fun _ _ _ _ _ q => q.elim)
 obtain ⟨a9G, rfl, rfl, h⟩ := d0c
 refine a0m (e := 137) (c := csl) (xs := [a9F, a9G]) b2X (c8H _ _ _ _ _ _) rfl rfl c0C c0D (nb rfl) fun b0h d0d a9H d0e c9W g0x => ?_
 obtain ⟨b2W, c2e, c5K, d0f, e3L⟩ := Inv.freezeC c9W d0e (by decide)
 replace h := h b0h b2W c5K d0f e3L
 refine d8 (cap := []) (fun args w => Tryz.call75 args w) ?_
 refine m4 (Fi := []) (Fr := [bx g_2 25 (m9 x0)]) c2e (h) (fun h7e b1z h7f b1B a3A h7g g0E e3M => ?_) (fun _ _ _ _ _ q => q.elim)
 obtain ⟨c0N, rfl, rfl, h⟩ := e3M
 refine d8 (cap := []) (fun args w => Tryz.call65 args w) ?_
 refine m4 (Fi := []) (Fr := [bx g_2 25 (m9 x0)]) a3A (h) (fun i3x e3T i3y O1 d0r i3z g0J h7q => ?_) (fun _ _ _ _ _ q => q.elim)
 obtain ⟨d6n, g0K, rfl, rfl, h⟩ := h7q
 exact hR d6n g0K e3T _ (d0r.bring 1).drop h
theorem c1w (x0 : o9) {H : Hp} {K : j9 → Hp → Prop} (h : a5D x0 H K) : a8m x0 H K := by
 intro w I
 refine f6B ?_
 refine b9v x0 I (fun r0 gr0 H' w' I' hk => ⟨H', _, I', r0, gr0, rfl, rfl, hk⟩) h
def a4G (x0 : o9) (H : Hp) (K : Int → Hp → Prop) : Prop :=
 a8m x0 H (fun (W4 : j9) (H_6 : Hp) =>
 K W4.fe H_6)
theorem b7d (x0 : o9) {K : Int → Hp → Prop} (I : Inv w0 ps0 H0 H [] w) (hR : ∀ (r0 : Int) (H' : Hp) (w' : World) (_ : Inv w0 ps0 H0 H' [] w') (_ : K r0 H'), R (vi r0) w') (h : a4G x0 H K) : F24 (Value.agg (m9 x0).toArray) w R E := by
 unfold a4G at h
 unfold F24
 refine M4 I (cs := (m9 x0)) rfl fun g_2 w_3 I_4 k_5 => ?_
 refine d6 (ldA Tryz.isAgg25 Tryz.sizeOf25 rfl (I_4.at1 (o := 0) (vs := (m9 x0)) (nb rfl) rfl)) ?_
 refine d8 (cap := []) (fun args w => Tryz.call43 args w) ?_
 refine m4 (Fi := []) (Fr := [bx g_2 25 (m9 x0)]) I_4 (h) (fun c5Y H_6 c5Z w_7 I_8 c6a k_9 b0g => ?_) (fun _ _ _ _ _ q => q.elim)
 obtain ⟨W4, i0o, rfl, rfl, h⟩ := b0g
 refine a7 (u9 _) ?_
 refine a7 a5m ?_
 refine d6 (ld1 Tryz.isAgg27 (I_8.at1 (o := 2) (vs := [(vi W4.fe)]) (nb rfl) rfl)) ?_
 exact hR W4.fe H_6 _ I_8.drop.drop h
theorem b8q (x0 : o9) {H : Hp} {K : Int → Hp → Prop} (h : a4G x0 H K) : a2w x0 H K := by
 intro w I
 refine f6w ?_
 refine b7d x0 I (fun r0 H' w' I' hk => ⟨H', _, I', r0, rfl, rfl, hk⟩) h
def F0 (D9 : (List d9)) (H : Hp) (K : Sl → Hp → Prop) : Prop :=
 ∀ (q8 : Sl) (K1 : Hp), Hle H K1 → SlH K1 1 s8 q8 D9 → q8.n ≤ q8.c →
 K q8 K1
def F7 (U6 : Sl) (T4 : Int) (m3 : (List d9)) (m6 : Int) (H : Hp) (n2 : ((List d9) × Int) → Hp → Prop) (K : Sl → Hp → Prop) : Prop :=
 (m6 < T4 →
 (0 : Int) ≤ m6 ∧ (m6 : Int) < U6.n ∧ ∃ x_1 : b6, EltH H U6 m6 4 (b7 x_1) ∧
 a9B x_1 H (fun (E0 : d9) (Q2 : Hp) =>
 (m3.length + ([E0] : List d9).length) * 17 ≤ 140737488355328 ∧
 n2 ((m3 ++ [E0]), (IntKind.wrap .i64 (m6 + 1))) Q2)) ∧
 (¬ (m6 < T4) →
 F0 m3 H K)
def G8 (x0 : Sl) (H : Hp) (K : Sl → Hp → Prop) : Prop :=
 TL (([], 0) : (List d9) × Int) H fun (s : (List d9) × Int) H n2 => F7 x0 (x0.n : Int) s.1 s.2 H n2 K
theorem a2z (x0 : Sl) {K : Sl → Hp → Prop} (I : Inv w0 ps0 H0 H [] w) (hR : ∀ (r0 : Sl) (H' : Hp) (w' : World) (_ : Inv w0 ps0 H0 H' [] w') (_ : K r0 H'), R (vs r0) w') (h : G8 x0 H K) : d5S (vs x0) (fC 190) w R E := by
 unfold G8 at h
 unfold d5S
 have hj1 : ∀ (D9 : (List d9)) (q8 : Sl) (Fs5j1 : Frag) (H : Hp) (w : World) (_ : RowL 150 1 s8 q8 D9 Fs5j1) (_ : Inv w0 ps0 H0 H [Fs5j1] w) (_ : F0 D9 H K), c5R (vs q8) w R E := by
  intro D9 q8 Fs5j1 H w a4i I h
  unfold c5R
  intro _
  unfold F0 at h
  obtain ⟨K1, a3A, a6y, a1l, a3B⟩ := Inv.freezeC I a4i (by decide)
  replace h := h q8 K1 a6y a1l a3B
  exact hR q8 K1 _ a3A h
 refine v8 fun j1 hx1 => ?_
 refine a7 (a1Z _ _ _) ?_
 obtain ⟨Y6, N9, a7A, a7B⟩ := h
 refine L6 (J := fun n l w => ∃ (s : (List d9) × Int) (H : Hp) (A7 : Sl) (Fs5l2 : Frag) , n = N9 s ∧ l = (match s with | (m3, m6) => [(vs A7), (vi m6)]) ∧ (match s with | (m3, m6) => RowL 150 1 s8 A7 m3 Fs5l2) ∧ (match s with | (m3, m6) => Inv w0 ps0 H0 H [Fs5l2] w) ∧ Y6 s H) ⟨_, ([], 0), H, (Sl.mk none 0 0), [], rfl, rfl, (RowL.nil P9 Q9), I.nil, a7A⟩ ?_
 rintro b9q τ_50 w next2 ⟨⟨m3, m6⟩, H, A7, Fs5l2, rfl, X2, P3, I, a7C⟩ hn2
 dsimp only at X2 I P3
 simp only [List.map_cons, List.map_nil, List.cons.injEq, and_true] at X2
 obtain ⟨e5, e10⟩ := X2
 simp only [e5, e10]
 obtain ⟨n2, hm2, h⟩ : ∃ n2 : ((List d9) × Int) → Hp → Prop, (∀ s' H', n2 s' H' → Y6 s' H' ∧ N9 s' < N9 (m3, m6)) ∧ F7 x0 (x0.n : Int) m3 m6 H n2 K := ⟨_, fun _ _ h => h, a7B (m3, m6) H (fun s' H' => Y6 s' H' ∧ N9 s' < N9 (m3, m6)) a7C (fun _ _ a b => ⟨a, b⟩)⟩
 unfold d4t
 unfold F7 at h
 refine a7 (C2 _ _ _ _ _ _) ?_
 refine i8 (fun V4 => ?_) (fun V4 => ?_)
 ·replace h := h.1 V4
  obtain ⟨h_4, h_5, x_1, h_7, h⟩ := h
  obtain ⟨g_2, o_3, h_6, h_7⟩ := h_7
  refine a7 (M1 h_6 _ _ _ _ h_4 h_5) ?_
  refine d6 (ldA (vs := (b7 x_1)) Tryz.isAgg53 Tryz.sizeOf53 rfl (I.atH h_7)) ?_
  refine u1 I Tryz.zeroValue53 (cs := [(vi 0), (vi 0), (eS), (nS)]) rfl fun g_9 o7 a0R a9D => ?_
  refine l9 a0R Tryz.sizeOf53 (vs := (b7 x_1)) (cs' := (b7 x_1)) rfl rfl (nb rfl) rfl rfl fun Z2 P0 a3P => ?_
  refine d6 (ldA Tryz.isAgg53 Tryz.sizeOf53 rfl (P0.at1 (o := 0) (vs := (b7 x_1)) (nb rfl) rfl)) ?_
  refine d8 (cap := []) (fun args w => Tryz.call190 args w) ?_
  refine m4 (Fi := []) (Fr := [bx g_9 53 (b7 x_1), Fs5l2]) P0 (h) (fun b6V Q2 b4V a0q a2F b6W b6X a6z => ?_) (fun _ _ _ _ _ q => q.elim)
  obtain ⟨E0, rfl, rfl, h⟩ := a6z
  refine a0m (e := 150) (c := s8) (xs := [E0]) a2F (b0c _) rfl rfl P9 Q9 (nb rfl) fun b1y a9E C4 a4D V5 a7D => ?_
  obtain ⟨a6A, h⟩ := h
  refine b5F (s := A7) (xs := m3) (V5.bring 2) P3 (a4D.srcO ((V5.bring 2).bring 1)) a6A fun a4j a6B A6 a3Q a3C b2U => ?_
  refine a7 (J8 _ _ _ _ _ _) ?_
  exact hn2 _ _ _ (hm2 _ _ h).2 ⟨((m3 ++ [E0]), (IntKind.wrap .i64 (m6 + 1))), Q2, a4j, a6B, rfl, rfl, a3Q, ((a3C.bring 1).drop.bring 1).drop, (hm2 _ _ h).1⟩
 ·replace h := h.2 V4
  exact hx1 _ _ (hj1 m3 A7 Fs5l2 H _ P3 I h)
theorem a2N (x0 : Sl) {H : Hp} {K : Sl → Hp → Prop} (h : G8 x0 H K) : A4 x0 H K := by
 intro w I
 refine f0q ?_
 refine a2z x0 I (fun r0 H' w' I' hk => ⟨H', _, I', r0, rfl, rfl, hk⟩) h
def a1O (x0 : V1) (H : Hp) (K : Sl → Hp → Prop) : Prop :=
 K (Sl.mk none 0 0) H
theorem b1Z (x0 : V1) {K : Sl → Hp → Prop} (I : Inv w0 ps0 H0 H [] w) (hR : ∀ (r0 : Sl) (H' : Hp) (w' : World) (_ : Inv w0 ps0 H0 H' [] w') (_ : K r0 H'), R (vs r0) w') (h : a1O x0 H K) : d6a (Value.agg (p8 x0.V2).toArray) w R E := by
 unfold a1O at h
 unfold d6a
 refine M4 I (cs := (p8 x0.V2)) rfl fun g_2 w_3 I_4 k_5 => ?_
 exact hR (Sl.mk none 0 0) H _ I_4.drop h
theorem b3f (x0 : V1) {H : Hp} {K : Sl → Hp → Prop} (h : a1O x0 H K) : a7y x0 H K := by
 intro w I
 refine f0F ?_
 refine b1Z x0 I (fun r0 H' w' I' hk => ⟨H', _, I', r0, rfl, rfl, hk⟩) h
end Go.Proofs.YtnhkdkcgdcgmdaaGreatDoor
