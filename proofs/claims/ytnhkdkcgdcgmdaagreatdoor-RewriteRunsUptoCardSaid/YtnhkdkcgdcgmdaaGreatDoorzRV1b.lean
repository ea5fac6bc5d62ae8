/- Typed formulas of the program's functions, and the theorems that the contracts follow from them; printed by lift.py off the code. -/
import Derived.Test.YtnhkdkcgdcgmdaaGreatDoorzRV1
namespace Go.Proofs.YtnhkdkcgdcgmdaaGreatDoor
open Go.RowKit
set_option maxRecDepth 100000
set_option maxHeartbeats 2000000
variable {w0 w : World} {ps0 : Nat → Prop} {H0 H : Hp} {R : RT} {E : Pan}
def a5j (x0 : d9) (H : Hp) (K : ByteArray → Bool → Hp → Prop) : Prop :=
 (x0.a8a = true →
 K ((((x0.a0d)).V5).b7) true H) ∧
 (x0.a8a = false →
 (x0.a8b = true →
 K ((((x0.p6)).i7).b7) ((decide (((((x0.p6)).i7).a8) = 1)) || (decide (((((x0.p6)).i7).a8) = 2))) H) ∧
 (x0.a8b = false →
 (x0.a7Z = true →
 K ((((x0.A5)).t6).b7) ((decide (((((x0.A5)).t6).a8) = 2)) || (decide (((((x0.A5)).t6).a8) = 4))) H) ∧
 (x0.a7Z = false →
 K ⟨#[]⟩ false H)))
theorem b8P (x0 : d9) {K : ByteArray → Bool → Hp → Prop} (I : Inv w0 ps0 H0 H [] w) (hR : ∀ (r0 : ByteArray) (r1 : Bool) (H' : Hp) (w' : World) (_ : Inv w0 ps0 H0 H' [] w') (_ : K r0 r1 H'), R (Value.tuple #[(Value.string r0), (vB r1)]) w') (h : a5j x0 H K) : d7h (D1 x0) w R E := by
 unfold a5j at h
 unfold d7h
 refine a7 (c8y x0) ?_
 refine a7 (m9 _ _ (vB x0.a8a) rfl) ?_
 refine a7 (m9 _ _ _ rfl) ?_
 refine u0 (fun e5t => ?_) (fun e5t => ?_)
 ·replace h := h.1 e5t
  refine y9 I Tryz.zeroValue182 (cs := [(eS), (vi 0)]) rfl fun g_2 w_3 I_4 k_5 => ?_
  refine m7 I_4 Tryz.sizeOf182 (vs := [(Value.string ((((x0.a0d)).V5).b7)), (vi ((((x0.a0d)).V5).Q6))]) (cs' := [(Value.string ((((x0.a0d)).V5).b7)), (vi ((((x0.a0d)).V5).Q6))]) rfl rfl (nb rfl) rfl rfl fun w_6 I_7 k_8 => ?_
  refine a7 b5x ?_
  refine a7 a3h ?_
  refine d7 (ld1 Tryz.isAgg9 (I_7.at1 (o := 0) (vs := [(Value.string ((((x0.a0d)).V5).b7))]) (nb rfl) rfl)) ?_
  exact hR ((((x0.a0d)).V5).b7) true H _ I_7.drop h
 ·replace h := h.2 e5t
  refine a7 (c8z x0) ?_
  refine a7 (m9 _ _ (vB x0.a8b) rfl) ?_
  refine a7 (m9 _ _ _ rfl) ?_
  refine u0 (fun c2H => ?_) (fun c2H => ?_)
  ·replace h := h.1 c2H
   refine y9 I Tryz.zeroValue184 (cs := [(vi 0), (eS), (nS), (nS), (nS), (nS)]) rfl fun h8H R1 D2 b5A => ?_
   refine m7 D2 Tryz.sizeOf184 (vs := [(vi ((((x0.p6)).i7).a8)), (Value.string ((((x0.p6)).i7).b7)), (Value.slice ((((x0.p6)).i7).j7).a ((((x0.p6)).i7).j7).n ((((x0.p6)).i7).j7).c), (Value.slice ((((x0.p6)).i7).r8).a ((((x0.p6)).i7).r8).n ((((x0.p6)).i7).r8).c), (Value.slice ((((x0.p6)).i7).A4).a ((((x0.p6)).i7).A4).n ((((x0.p6)).i7).A4).c), (Value.slice ((((x0.p6)).i7).z7).a ((((x0.p6)).i7).z7).n ((((x0.p6)).i7).z7).c)]) (cs' := [(vi ((((x0.p6)).i7).a8)), (Value.string ((((x0.p6)).i7).b7)), (Value.slice ((((x0.p6)).i7).j7).a ((((x0.p6)).i7).j7).n ((((x0.p6)).i7).j7).c), (Value.slice ((((x0.p6)).i7).r8).a ((((x0.p6)).i7).r8).n ((((x0.p6)).i7).r8).c), (Value.slice ((((x0.p6)).i7).A4).a ((((x0.p6)).i7).A4).n ((((x0.p6)).i7).A4).c), (Value.slice ((((x0.p6)).i7).z7).a ((((x0.p6)).i7).z7).n ((((x0.p6)).i7).z7).c)]) rfl rfl (nb rfl) rfl rfl fun p9 a9p b5G => ?_
   refine X7 a9p fun X8 a1v => ?_
   refine m8 Q9 ?_
   refine m8 a5d ?_
   refine m8 Q9 ?_
   refine m8 a3d ?_
   refine y7 (ld1 Tryz.isAgg9 (a1v.at1 (o := 1) (vs := [(Value.string ((((x0.p6)).i7).b7))]) (nb rfl) rfl)) ?_
   refine y7 (ld1 Tryz.isAgg3 (a1v.at1 (o := 0) (vs := [(vi ((((x0.p6)).i7).a8))]) (nb rfl) rfl)) ?_
   refine m8 (o2 _ _ _ _ _ _) ?_
   refine m8 (Pu.g fun hb => by have i5 := hb; exact Q9) ?_
   refine m8 (Pu.g fun hb => by have i5 := hb; simp only [s8 i5]; exact a3d) ?_
   refine f7u (p := (Value.pointer (some ⟨h8H, 0, none⟩))) rfl (Ld.g fun hb => by have i5 := hb; simp only [s8 i5]; exact (ld1 Tryz.isAgg3 (a1v.at1 (o := 0) (vs := [(vi ((((x0.p6)).i7).a8))]) (nb rfl) rfl))) ?_
   refine m8 (Pu.g fun hb => by have i5 := hb; simp only [s8 i5]; exact (o2 _ _ _ _ _ _)) ?_
   refine m8 (a1d _ _) ?_
   exact hR ((((x0.p6)).i7).b7) ((decide (((((x0.p6)).i7).a8) = 1)) || (decide (((((x0.p6)).i7).a8) = 2))) H _ a1v.drop h
  ·replace h := h.2 c2H
   refine a7 (c8A x0) ?_
   refine a7 (m9 _ _ (vB x0.a7Z) rfl) ?_
   refine a7 (m9 _ _ _ rfl) ?_
   refine u0 (fun c2I => ?_) (fun c2I => ?_)
   ·replace h := h.1 c2I
    refine y9 I Tryz.zeroValue136 (cs := [(vi 0), (vi 0), (eS), (nS)]) rfl fun g2c a0f d7N h8I => ?_
    refine m7 d7N Tryz.sizeOf136 (vs := [(vi ((((x0.A5)).t6).a8)), (vi ((((x0.A5)).t6).p5)), (Value.string ((((x0.A5)).t6).b7)), (Value.slice ((((x0.A5)).t6).o9).a ((((x0.A5)).t6).o9).n ((((x0.A5)).t6).o9).c)]) (cs' := [(vi ((((x0.A5)).t6).a8)), (vi ((((x0.A5)).t6).p5)), (Value.string ((((x0.A5)).t6).b7)), (Value.slice ((((x0.A5)).t6).o9).a ((((x0.A5)).t6).o9).n ((((x0.A5)).t6).o9).c)]) rfl rfl (nb rfl) rfl rfl fun z6 a6p d7O => ?_
    refine X7 a6p fun Z6 c6U => ?_
    refine m8 a1E ?_
    refine m8 a8e ?_
    refine m8 a1E ?_
    refine m8 Q7 ?_
    refine y7 (ld1 Tryz.isAgg9 (c6U.at1 (o := 2) (vs := [(Value.string ((((x0.A5)).t6).b7))]) (nb rfl) rfl)) ?_
    refine y7 (ld1 Tryz.isAgg3 (c6U.at1 (o := 0) (vs := [(vi ((((x0.A5)).t6).a8))]) (nb rfl) rfl)) ?_
    refine m8 (o2 _ _ _ _ _ _) ?_
    refine m8 (Pu.g fun hb => by have i5 := hb; exact a1E) ?_
    refine m8 (Pu.g fun hb => by have i5 := hb; simp only [s8 i5]; exact Q7) ?_
    refine f7u (p := (Value.pointer (some ⟨g2c, 0, none⟩))) rfl (Ld.g fun hb => by have i5 := hb; simp only [s8 i5]; exact (ld1 Tryz.isAgg3 (c6U.at1 (o := 0) (vs := [(vi ((((x0.A5)).t6).a8))]) (nb rfl) rfl))) ?_
    refine m8 (Pu.g fun hb => by have i5 := hb; simp only [s8 i5]; exact (o2 _ _ _ _ _ _)) ?_
    refine m8 (a1d _ _) ?_
    exact hR ((((x0.A5)).t6).b7) ((decide (((((x0.A5)).t6).a8) = 2)) || (decide (((((x0.A5)).t6).a8) = 4))) H _ c6U.drop h
   ·replace h := h.2 c2I
    exact hR ⟨#[]⟩ false H _ I h
theorem b9R (x0 : d9) {H : Hp} {K : ByteArray → Bool → Hp → Prop} (h : a5j x0 H K) : a3D x0 H K := by
 intro w I
 refine f1v ?_
 refine b8P x0 I (fun r0 r1 H' w' I' hk => ⟨H', _, I', r0, r1, rfl, rfl, hk⟩) h
def T6 (b5H : Int) (H : Hp) (K : Int → Hp → Prop) : Prop :=
 K b5H H
def T7 (d1j : ByteArray) (b2l : Int) (a5k : Nat) (H : Hp) (n2 : (Int × Nat) → Hp → Prop) (K : Int → Hp → Prop) : Prop :=
 (a5k < d1j.size →
 n2 ((IntKind.wrap .i64 (b2l + 1)), (a5k + (Utf8.decode d1j a5k).2)) H) ∧
 (¬ (a5k < d1j.size) →
 T6 b2l H K)
def W0 (x0 : ByteArray) (H : Hp) (K : Int → Hp → Prop) : Prop :=
 TL ((0, 0) : Int × Nat) H fun (s : Int × Nat) H n2 => T7 x0 s.1 s.2 H n2 K
theorem a8M (x0 : ByteArray) {K : Int → Hp → Prop} (I : Inv w0 ps0 H0 H [] w) (hR : ∀ (r0 : Int) (H' : Hp) (w' : World) (_ : Inv w0 ps0 H0 H' [] w') (_ : K r0 H'), R (vi r0) w') (h : W0 x0 H K) : d7r (Value.string x0) w R E := by
 unfold W0 at h
 unfold d7r
 have hj1 : ∀ (b5H : Int) (H : Hp) (w : World) (_ : Inv w0 ps0 H0 H [] w) (_ : T6 b5H H K), c6F (vi b5H) w R E := by
  intro b5H H w I h
  unfold c6F
  intro _
  unfold T6 at h
  exact hR b5H H _ I h
 refine A7 fun j1 hx1 => ?_
 refine d5G Tryz.underlying9 x0 I fun g_2 w_3 I_4 k_5 => ?_
 obtain ⟨e5u, d1k, h8J, h8K⟩ := h
 refine M6 (J := fun n l w => ∃ (s : Int × Nat) (H : Hp) , n = d1k s ∧ l = (match s with | (b2l, a5k) => [(vi b2l)]) ∧ (match s with | (b2l, a5k) => Inv w0 ps0 H0 H [itf g_2 x0 a5k] w) ∧ e5u s H) ⟨_, (0, 0), H, rfl, rfl, I_4, h8J⟩ ?_
 rintro i4v τ_27 w next2 ⟨⟨b2l, a5k⟩, H, rfl, d1l, I, h8L⟩ hn2
 dsimp only at d1l I
 simp only [List.map_cons, List.map_nil, List.cons.injEq, and_true] at d1l
 have e2 := d1l
 simp only [e2]
 obtain ⟨n2, hm2, h⟩ : ∃ n2 : (Int × Nat) → Hp → Prop, (∀ s' H', n2 s' H' → e5u s' H' ∧ d1k s' < d1k (b2l, a5k)) ∧ T7 x0 b2l a5k H n2 K := ⟨_, fun _ _ h => h, h8K (b2l, a5k) H (fun s' H' => e5u s' H' ∧ d1k s' < d1k (b2l, a5k)) h8L (fun _ _ a b => ⟨a, b⟩)⟩
 unfold d5R
 unfold T7 at h
 refine e1k I (fun a9q u5 a9o b9P => ?_) (fun a9q => ?_)
 ·replace h := h.1 a9q
  refine a7 (m9 _ _ (vB true) rfl) ?_
  refine u0 (fun e => ?_) (fun e => by cases e)
  refine a7 (L6 _ _ _ _ _ _) ?_
  exact hn2 _ _ _ (hm2 _ _ h).2 ⟨((IntKind.wrap .i64 (b2l + 1)), (a5k + (Utf8.decode x0 a5k).2)), H, rfl, rfl, a9o, (hm2 _ _ h).1⟩
 ·replace h := h.2 a9q
  refine a7 (m9 _ _ (vB false) rfl) ?_
  refine u0 (fun e => by cases e) (fun e => ?_)
  exact hx1 _ _ (hj1 b2l H _ I.drop h)
theorem a9r (x0 : ByteArray) {H : Hp} {K : Int → Hp → Prop} (h : W0 x0 H K) : a0S x0 H K := by
 intro w I
 refine f1L ?_
 refine a8M x0 I (fun r0 H' w' I' hk => ⟨H', _, I', r0, rfl, rfl, hk⟩) h
def a1i (b0P : Int) (b0Q : Int) (b0R : Int) (b0S : Bool) (b0T : Bool) (a9N : (List ByteArray)) (H : Hp) (K : Bool → l9 → (List ByteArray) → Hp → Prop) : Prop :=
 K true (l9.mk b0P b0Q b0R b0S b0T (Sl.mk none 0 0)) a9N H
def a1j (b9S : Int) (U1 : Sl) (o7 : Int) (a4M : Int) (a2Q : Int) (a2R : Int) (a2S : Int) (a2T : Bool) (a2U : Bool) (a2m : (List ByteArray)) (H : Hp) (n2 : (Int × Int × Int × Int × Bool × Bool × (List ByteArray)) → Hp → Prop) (K : Bool → l9 → (List ByteArray) → Hp → Prop) : Prop :=
 (a4M < o7 →
 (0 : Int) ≤ a4M ∧ (a4M : Int) < U1.n ∧ ∃ d1m : d9, EltH H U1 a4M 1 [(D1 d1m)] ∧
 a3T (l9.mk a2Q a2R a2S a2T a2U (Sl.mk none 0 0)) a2m d1m b9S H (fun (a8Z : Bool) (P4 : l9) (b3d : (List ByteArray)) (d1n : Hp) =>
 TG ((!a8Z) = false) (a6l d1m d1n) (Sl.mk none 0 0) d1n (fun (b7E : Sl) (a8F : Hp) =>
 TG ((!a8Z) = false) (fun k_ => a0F b7E (IntKind.wrap .i64 (b9S + 1)) (l9.mk ((P4).fnodes) ((P4).fdepth) ((P4).fe) ((P4).fform) ((P4).fnamed) (Sl.mk none 0 0)) b3d a8F fun a7y U7 a5b H_ => k_ (a7y, U7, a5b) H_) (false, (l9.mk ((P4).fnodes) ((P4).fdepth) ((P4).fe) ((P4).fform) ((P4).fnamed) (Sl.mk none 0 0)), b3d) a8F (fun (a1X : Bool × l9 × (List ByteArray)) (a4X : Hp) =>
 (((!a8Z) || (!a1X.1)) = true →
 K false (l9.mk ((a1X.2.1).fnodes) ((a1X.2.1).fdepth) ((a1X.2.1).fe) ((a1X.2.1).fform) ((a1X.2.1).fnamed) (Sl.mk none 0 0)) a1X.2.2 a4X) ∧
 (((!a8Z) || (!a1X.1)) = false →
 n2 ((IntKind.wrap .i64 (a4M + 1)), ((a1X.2.1).fnodes), ((a1X.2.1).fdepth), ((a1X.2.1).fe), ((a1X.2.1).fform), ((a1X.2.1).fnamed), a1X.2.2) a4X))))) ∧
 (¬ (a4M < o7) →
 a1i a2Q a2R a2S a2T a2U a2m H K)
def a3r (x0 : Sl) (x1 : Int) (x2 : l9) (b3z : (List ByteArray)) (H : Hp) (K : Bool → l9 → (List ByteArray) → Hp → Prop) : Prop :=
 TL ((0, x2.fnodes, x2.fdepth, x2.fe, x2.fform, x2.fnamed, b3z) : Int × Int × Int × Int × Bool × Bool × (List ByteArray)) H fun (s : Int × Int × Int × Int × Bool × Bool × (List ByteArray)) H n2 => a1j x1 x0 (x0.n : Int) s.1 s.2.1 s.2.2.1 s.2.2.2.1 s.2.2.2.2.1 s.2.2.2.2.2.1 s.2.2.2.2.2.2 H n2 K
theorem b4D (x0 : Sl) (x1 : Int) (x2 : l9) (b3z : (List ByteArray)) (g2 g2b g3 : Nat) (b4Z : Sl) (b5a : Frag) (d7P : RowL 9 1 M3 b4Z b3z b5a) {K : Bool → l9 → (List ByteArray) → Hp → Prop} (I : Inv w0 ps0 H0 H [bx g2 102 [(Value.pointer (some ⟨g2b, 0, none⟩))], bx g2b 101 [(vi x2.fnodes), (vi x2.fdepth), (vi x2.fe), (vB x2.fform), (vB x2.fnamed), (vs b4Z)], b5a, bx g3 170 [(Value.func (.func 110) #[] #[(Value.pointer (some ⟨g2, 0, none⟩)), (Value.pointer (some ⟨g3, 0, none⟩))])]] w) (hR : ∀ (r0 : Bool) (y0 : l9) (a9k : (List ByteArray)) (a6D : Sl) (a6E : Frag) (H' : Hp) (w' : World) (_ : RowL 9 1 M3 a6D a9k a6E) (_ : Inv w0 ps0 H0 H' [bx g2 102 [(Value.pointer (some ⟨g2b, 0, none⟩))], bx g2b 101 [(vi y0.fnodes), (vi y0.fdepth), (vi y0.fe), (vB y0.fform), (vB y0.fnamed), (vs a6D)], a6E, bx g3 170 [(Value.func (.func 110) #[] #[(Value.pointer (some ⟨g2, 0, none⟩)), (Value.pointer (some ⟨g3, 0, none⟩))])]] w') (_ : K r0 y0 a9k H'), R (vB r0) w') (h : a3r x0 x1 x2 b3z H K) : d7f (vs x0) (vi x1) (Value.pointer (some ⟨g2, 0, none⟩)) (Value.pointer (some ⟨g3, 0, none⟩)) w R E := by
 unfold a3r at h
 unfold d7f
 have hj1 : ∀ (b0P : Int) (b0Q : Int) (b0R : Int) (b0S : Bool) (b0T : Bool) (a9N : (List ByteArray)) (b5b : Sl) (b5c : Frag) (H : Hp) (w : World) (_ : RowL 9 1 M3 b5b a9N b5c) (_ : Inv w0 ps0 H0 H [bx g2 102 [(Value.pointer (some ⟨g2b, 0, none⟩))], bx g2b 101 [(vi b0P), (vi b0Q), (vi b0R), (vB b0S), (vB b0T), (vs b5b)], bx g3 170 [(Value.func (.func 110) #[] #[(Value.pointer (some ⟨g2, 0, none⟩)), (Value.pointer (some ⟨g3, 0, none⟩))])], b5c] w) (_ : a1i b0P b0Q b0R b0S b0T a9N H K), c6s w R E := by
  intro b0P b0Q b0R b0S b0T a9N b5b b5c H w e2o I h
  unfold c6s
  intro _
  unfold a1i at h
  exact hR true (l9.mk b0P b0Q b0R b0S b0T (Sl.mk none 0 0)) a9N b5b b5c H _ e2o ((((I.bring 2).bring 3).bring 3).bring 3) h
 refine A7 fun j1 hx1 => ?_
 refine a7 (b2A _ _ _) ?_
 obtain ⟨e5v, d1o, h8M, h8N⟩ := h
 refine M6 (J := fun n l w => ∃ (s : Int × Int × Int × Int × Bool × Bool × (List ByteArray)) (H : Hp) (a9O : Sl) (a9P : Frag) , n = d1o s ∧ l = (match s with | (a4M, a2Q, a2R, a2S, a2T, a2U, a2m) => [(vi a4M)]) ∧ (match s with | (a4M, a2Q, a2R, a2S, a2T, a2U, a2m) => RowL 9 1 M3 a9O a2m a9P) ∧ (match s with | (a4M, a2Q, a2R, a2S, a2T, a2U, a2m) => Inv w0 ps0 H0 H [bx g2 102 [(Value.pointer (some ⟨g2b, 0, none⟩))], bx g2b 101 [(vi a2Q), (vi a2R), (vi a2S), (vB a2T), (vB a2U), (vs a9O)], bx g3 170 [(Value.func (.func 110) #[] #[(Value.pointer (some ⟨g2, 0, none⟩)), (Value.pointer (some ⟨g3, 0, none⟩))])], a9P] w) ∧ e5v s H) ⟨_, (0, x2.fnodes, x2.fdepth, x2.fe, x2.fform, x2.fnamed, b3z), H, b4Z, b5a, rfl, rfl, d7P, ((((I.bring 2).bring 3).bring 3).bring 3), h8M⟩ ?_
 rintro i4w τ_92 w next2 ⟨⟨a4M, a2Q, a2R, a2S, a2T, a2U, a2m⟩, H, a9O, a9P, rfl, d0E, b9T, I, g2d⟩ hn2
 dsimp only at d0E I b9T
 simp only [List.map_cons, List.map_nil, List.cons.injEq, and_true] at d0E
 have e11 := d0E
 simp only [e11]
 obtain ⟨n2, hm2, h⟩ : ∃ n2 : (Int × Int × Int × Int × Bool × Bool × (List ByteArray)) → Hp → Prop, (∀ s' H', n2 s' H' → e5v s' H' ∧ d1o s' < d1o (a4M, a2Q, a2R, a2S, a2T, a2U, a2m)) ∧ a1j x1 x0 (x0.n : Int) a4M a2Q a2R a2S a2T a2U a2m H n2 K := ⟨_, fun _ _ h => h, h8N (a4M, a2Q, a2R, a2S, a2T, a2U, a2m) H (fun s' H' => e5v s' H' ∧ d1o s' < d1o (a4M, a2Q, a2R, a2S, a2T, a2U, a2m)) g2d (fun _ _ a b => ⟨a, b⟩)⟩
 unfold d5N
 unfold a1j at h
 refine a7 (D7 _ _ _ _ _ _) ?_
 refine j8 (fun c2J => ?_) (fun c2J => ?_)
 ·replace h := h.1 c2J
  obtain ⟨e5w, b9U, d1m, b9V, h⟩ := h
  obtain ⟨i4x, i4y, d7Q, b9V⟩ := b9V
  refine a7 (e1t d7Q _ _ _ _ e5w b9U) ?_
  refine d7 (ld1 (v := (D1 d1m)) Tryz.isAgg150 (I.atH b9V)) ?_
  refine X7 I fun b0U b9W => ?_
  refine y7 (ld1 Tryz.isAgg102 (b9W.at1 (o := 0) (vs := [(Value.pointer (some ⟨g2b, 0, none⟩))]) (nb rfl) rfl)) ?_
  refine d8 (cap := []) (fun args w => Tryz.call111 args w) ?_
  refine o0 (Fi := [bx g2b 101 [(vi a2Q), (vi a2R), (vi a2S), (vB a2T), (vB a2U), (vs a9O)], a9P]) (Fr := [bx g2 102 [(Value.pointer (some ⟨g2b, 0, none⟩))], bx g3 170 [(Value.func (.func 110) #[] #[(Value.pointer (some ⟨g2, 0, none⟩)), (Value.pointer (some ⟨g3, 0, none⟩))])]]) ((b9W.bring 3).bring 2) (h g2b a9O a9P b9T) (fun i4z d1n i4A M8 d1p i4B i4C h8O => ?_) (fun _ _ _ _ _ q => q.elim)
  obtain ⟨a8Z, P4, b3d, b3I, b3J, rfl, rfl, d1q, h⟩ := h8O
  refine m8 (a0X _) ?_
  simp only [O5]
  refine m8 (Pu.g fun hb => by have i5 := hb; simp only [s8 i5]; exact (L6 _ _ _ _ _ _)) ?_
  refine y7 (Ld.g fun hb => by have i5 := hb; exact (ld1 Tryz.isAgg170 ((d1p.bring 3).at1 (o := 0) (vs := [(Value.func (.func 110) #[] #[(Value.pointer (some ⟨g2, 0, none⟩)), (Value.pointer (some ⟨g3, 0, none⟩))])]) (nb rfl) rfl))) ?_
  refine a5c (D := fun g2e b2m => ∃ (b7E : Sl) (a8F : Hp), g2e = (gv (!a8Z) false (vs b7E)) ∧ (Inv w0 ps0 H0 a8F [bx g2b 101 [(vi ((P4).fnodes)), (vi ((P4).fdepth)), (vi ((P4).fe)), (vB ((P4).fform)), (vB ((P4).fnamed)), (vs b3I)], b3J, bx g2 102 [(Value.pointer (some ⟨g2b, 0, none⟩))], bx g3 170 [(Value.func (.func 110) #[] #[(Value.pointer (some ⟨g2, 0, none⟩)), (Value.pointer (some ⟨g3, 0, none⟩))])]] b2m) ∧ (∀ i, i < M8.heap.size → ¬ inF [] i → b2m.heap[i]? = M8.heap[i]?) ∧ Hle d1n a8F ∧ (TG ((!a8Z) = false) (fun k_ => a0F b7E (IntKind.wrap .i64 (x1 + 1)) (l9.mk ((P4).fnodes) ((P4).fdepth) ((P4).fe) ((P4).fform) ((P4).fnamed) (Sl.mk none 0 0)) b3d a8F fun a7y U7 a5b H_ => k_ (a7y, U7, a5b) H_) (false, (l9.mk ((P4).fnodes) ((P4).fdepth) ((P4).fe) ((P4).fform) ((P4).fnamed) (Sl.mk none 0 0)), b3d) a8F (fun (a1X : Bool × l9 × (List ByteArray)) (a4X : Hp) =>
 (((!a8Z) || (!a1X.1)) = true →
 K false (l9.mk ((a1X.2.1).fnodes) ((a1X.2.1).fdepth) ((a1X.2.1).fe) ((a1X.2.1).fform) ((a1X.2.1).fnamed) (Sl.mk none 0 0)) a1X.2.2 a4X) ∧
 (((!a8Z) || (!a1X.1)) = false →
 n2 ((IntKind.wrap .i64 (a4M + 1)), ((a1X.2.1).fnodes), ((a1X.2.1).fdepth), ((a1X.2.1).fe), ((a1X.2.1).fform), ((a1X.2.1).fnamed), a1X.2.2) a4X)))) (fun d1r => ?_) (fun d1r => ?_) ?_
  ·replace h := h.1 d1r
   have i5 := d1r
   simp only [s8 i5]
   refine b5z d1p h (fun b7E a8F b2m b5I d1s d1t h => ?_)
   exact ⟨b7E, a8F, by rfl, b5I, d1t, d1s, h⟩
  ·exact ⟨(Sl.mk none 0 0), d1n, by rw [a9g d1r], d1p, fun _ _ _ => rfl, Hle.refl _, h.2 d1r⟩
  ·clear h
   rintro g2e b2m ⟨b7E, a8F, rfl, b5I, d1t, d1s, h⟩
   refine ⟨(d1t _ (d1p.bring 3).lt1 (Inv.a4c (Fi := []) (d1p.bring 3))), ?_⟩
   refine a5c (D := fun d7R d1u => ∃ (a7y : Bool) (U7 : l9) (a5b : (List ByteArray)) (a4X : Hp) (a9s : Sl) (a9t : Frag) , d7R = (gv (!a8Z) false (vB a7y)) ∧ (RowL 9 1 M3 a9s a5b a9t) ∧ (Inv w0 ps0 H0 a4X [bx g2 102 [(Value.pointer (some ⟨g2b, 0, none⟩))], bx g2b 101 [(vi ((U7).fnodes)), (vi ((U7).fdepth)), (vi ((U7).fe)), (vB ((U7).fform)), (vB ((U7).fnamed)), (vs a9s)], a9t, bx g3 170 [(Value.func (.func 110) #[] #[(Value.pointer (some ⟨g2, 0, none⟩)), (Value.pointer (some ⟨g3, 0, none⟩))])]] d1u) ∧ (∀ i, i < b2m.heap.size → ¬ inF [bx g2 102 [(Value.pointer (some ⟨g2b, 0, none⟩))], bx g2b 101 [(vi ((P4).fnodes)), (vi ((P4).fdepth)), (vi ((P4).fe)), (vB ((P4).fform)), (vB ((P4).fnamed)), (vs b3I)], b3J, bx g3 170 [(Value.func (.func 110) #[] #[(Value.pointer (some ⟨g2, 0, none⟩)), (Value.pointer (some ⟨g3, 0, none⟩))])]] i → d1u.heap[i]? = b2m.heap[i]?) ∧ Hle a8F a4X ∧ ((((!a8Z) || (!a7y)) = true →
 K false (l9.mk ((U7).fnodes) ((U7).fdepth) ((U7).fe) ((U7).fform) ((U7).fnamed) (Sl.mk none 0 0)) a5b a4X) ∧
 (((!a8Z) || (!a7y)) = false →
 n2 ((IntKind.wrap .i64 (a4M + 1)), ((U7).fnodes), ((U7).fdepth), ((U7).fe), ((U7).fform), ((U7).fnamed), a5b) a4X))) (fun b3K => ?_) (fun b3K => ?_) ?_
   ·replace h := h.1 b3K
    have i5 := b3K
    simp only [s8 i5]
    refine d8 (cap := [(Value.pointer (some ⟨g2, 0, none⟩)), (Value.pointer (some ⟨g3, 0, none⟩))]) (fun args w => Tryz.call110 args w) ?_
    refine o0 (Fi := [bx g2 102 [(Value.pointer (some ⟨g2b, 0, none⟩))], bx g2b 101 [(vi ((P4).fnodes)), (vi ((P4).fdepth)), (vi ((P4).fe)), (vB ((P4).fform)), (vB ((P4).fnamed)), (vs b3I)], b3J, bx g3 170 [(Value.func (.func 110) #[] #[(Value.pointer (some ⟨g2, 0, none⟩)), (Value.pointer (some ⟨g3, 0, none⟩))])]]) (Fr := []) ((((b5I.bring 3).bring 2).bring 2).bring 3) (h g2 g2b g3 b3I b3J d1q) (fun d7R a4X h8P d1u b7F b9B e5x e5y => ?_) (fun _ _ _ _ _ q => q.elim)
    obtain ⟨a7y, U7, a5b, a9s, a9t, rfl, rfl, b7G, h⟩ := e5y
    exact ⟨a7y, U7, a5b, a4X, a9s, a9t, by rfl, b7G, b7F, e5x, b9B, h⟩
   ·exact ⟨false, (l9.mk ((P4).fnodes) ((P4).fdepth) ((P4).fe) ((P4).fform) ((P4).fnamed) (Sl.mk none 0 0)), b3d, a8F, b3I, b3J, by rw [a9g b3K], d1q, ((((b5I.bring 3).bring 2).bring 2).bring 3), fun _ _ _ => rfl, Hle.refl _, h.2 b3K⟩
   ·clear h
    rintro d7R d1u ⟨a7y, U7, a5b, a4X, a9s, a9t, rfl, b7G, b7F, e5x, b9B, h⟩
    refine m8 (Pu.g fun hb => by have i5 := hb; simp only [s8 i5]; exact (a0X _)) ?_
    refine m8 (a1d _ _) ?_
    refine u0 (fun b3L => ?_) (fun b3L => ?_)
    ·replace h := h.1 b3L
     exact hR false (l9.mk ((U7).fnodes) ((U7).fdepth) ((U7).fe) ((U7).fform) ((U7).fnamed) (Sl.mk none 0 0)) a5b a9s a9t a4X _ b7G ((((b7F.bring 3).bring 3).bring 3).bring 3) h
    ·replace h := h.2 b3L
     refine a7 (L6 _ _ _ _ _ _) ?_
     exact hn2 _ _ _ (hm2 _ _ h).2 ⟨((IntKind.wrap .i64 (a4M + 1)), ((U7).fnodes), ((U7).fdepth), ((U7).fe), ((U7).fform), ((U7).fnamed), a5b), a4X, a9s, a9t, rfl, rfl, b7G, ((((b7F.bring 2).bring 3).bring 3).bring 3), (hm2 _ _ h).1⟩
 ·replace h := h.2 c2J
  exact hx1 _ _ (hj1 a2Q a2R a2S a2T a2U a2m a9O a9P H _ b9T ((((I.bring 3).bring 3).bring 3).bring 3) h)
theorem b5J (x0 : Sl) (x1 : Int) (x2 : l9) (b3z : (List ByteArray)) {H : Hp} {K : Bool → l9 → (List ByteArray) → Hp → Prop} (h : a3r x0 x1 x2 b3z H K) : a0F x0 x1 x2 b3z H K := by
 intro g2 g2b g3 b4Z b5a d7P w I
 refine f1j ?_
 refine b4D x0 x1 x2 b3z g2 g2b g3 b4Z b5a d7P I (fun r0 y0 a9k a6D a6E H' w' d1v I' hk => ⟨H', _, I', r0, y0, a9k, a6D, a6E, rfl, rfl, d1v, hk⟩) h
def a5P (x0 : r7) (H : Hp) (K : l9 → Hp → Prop) : Prop :=
 O0 x0.a0C H (fun (m5 : Sl) (H_8 : Hp) =>
 B4 x0.a5H H_8 (fun (j9 : Sl) (a4W : Hp) =>
 ∀ (b0O : Sl) (b3F : Hp), Hle a4W b3F → SlH b3F 1 csl b0O [m5, j9] → b0O.n ≤ b0O.c →
 G2 b0O b3F (fun (c1k : Sl) (b2k : Hp) =>
 a1R c1k b2k (fun (d7S : l9) (e5z : Hp) =>
 K d7S e5z))))
theorem b9X (x0 : r7) {K : l9 → Hp → Prop} (I : Inv w0 ps0 H0 H [] w) (hR : ∀ (r0 : l9) (gr0 : Nat) (H' : Hp) (w' : World) (_ : Inv w0 ps0 H0 H' [bx gr0 101 (a8h r0)] w') (_ : K r0 H'), R (Value.pointer (some ⟨gr0, 0, none⟩)) w') (h : a5P x0 H K) : F43 (Value.agg (p8 x0).toArray) w R E := by
 unfold a5P at h
 unfold F43
 refine L9 I (cs := (p8 x0)) rfl fun g_2 w_3 I_4 k_5 => ?_
 refine X7 I_4 fun w_6 I_7 => ?_
 refine m8 a9U ?_
 refine m8 a8c ?_
 refine y7 (ld1 Tryz.isAgg22 (I_7.at1 (o := 0) (vs := [(vs x0.a0C)]) (nb rfl) rfl)) ?_
 refine y7 (ld1 Tryz.isAgg23 (I_7.at1 (o := 1) (vs := [(vs x0.a5H)]) (nb rfl) rfl)) ?_
 refine d8 (cap := []) (fun args w => Tryz.call76 args w) ?_
 refine o0 (Fi := []) (Fr := [bx g_2 25 (p8 x0)]) I_7 (h) (fun e5q H_8 e5r w_9 b0l c2E b5F c2F => ?_) (fun _ _ _ _ _ q => q.elim)
 obtain ⟨m5, rfl, rfl, h⟩ := c2F
 refine ⟨(b5F _ I_7.lt1 (Inv.a4c (Fi := []) I_7)), ?_⟩
 refine d8 (cap := []) (fun args w => Tryz.call78 args w) ?_
 refine o0 (Fi := []) (Fr := [bx g_2 25 (p8 x0)]) b0l (h) (fun d7K a4W d7L u5 a9o d7M b9P b7D => ?_) (fun _ _ _ _ _ q => q.elim)
 obtain ⟨j9, rfl, rfl, h⟩ := b7D
 refine a1s (e := 137) (c := csl) (xs := [m5, j9]) a9o (c9J _ _ _ _ _ _) rfl rfl c1a c1b (nb rfl) fun b0O d1f a6o d1g d1a g1Z => ?_
 obtain ⟨b3F, c2G, d0v, d1h, d1i⟩ := Inv.freezeC d1a d1g (by decide)
 replace h := h b0O b3F d0v d1h d1i
 refine d8 (cap := []) (fun args w => Tryz.call75 args w) ?_
 refine o0 (Fi := []) (Fr := [bx g_2 25 (p8 x0)]) c2G (h) (fun h8D b2k h8E b9Q a5A h8F h8G e5s => ?_) (fun _ _ _ _ _ q => q.elim)
 obtain ⟨c1k, rfl, rfl, h⟩ := e5s
 refine d8 (cap := []) (fun args w => Tryz.call65 args w) ?_
 refine o0 (Fi := []) (Fr := [bx g_2 25 (p8 x0)]) a5A (h) (fun i4D e5z i4E N8 d1w i4F g2f h8Q => ?_) (fun _ _ _ _ _ q => q.elim)
 obtain ⟨d7S, g2g, rfl, rfl, h⟩ := h8Q
 exact hR d7S g2g e5z _ (d1w.bring 1).drop h
theorem c1V (x0 : r7) {H : Hp} {K : l9 → Hp → Prop} (h : a5P x0 H K) : a8D x0 H K := by
 intro w I
 refine f8i ?_
 refine b9X x0 I (fun r0 gr0 H' w' I' hk => ⟨H', _, I', r0, gr0, rfl, rfl, hk⟩) h
def a4N (x0 : r7) (H : Hp) (K : Int → Hp → Prop) : Prop :=
 a8D x0 H (fun (X1 : l9) (H_6 : Hp) =>
 K X1.fe H_6)
theorem b7H (x0 : r7) {K : Int → Hp → Prop} (I : Inv w0 ps0 H0 H [] w) (hR : ∀ (r0 : Int) (H' : Hp) (w' : World) (_ : Inv w0 ps0 H0 H' [] w') (_ : K r0 H'), R (vi r0) w') (h : a4N x0 H K) : F24 (Value.agg (p8 x0).toArray) w R E := by
 unfold a4N at h
 unfold F24
 refine L9 I (cs := (p8 x0)) rfl fun g_2 w_3 I_4 k_5 => ?_
 refine d7 (ldA Tryz.isAgg25 Tryz.sizeOf25 rfl (I_4.at1 (o := 0) (vs := (p8 x0)) (nb rfl) rfl)) ?_
 refine d8 (cap := []) (fun args w => Tryz.call43 args w) ?_
 refine o0 (Fi := []) (Fr := [bx g_2 25 (p8 x0)]) I_4 (h) (fun c6R H_6 c6S w_7 I_8 c6T k_9 b0N => ?_) (fun _ _ _ _ _ q => q.elim)
 obtain ⟨X1, i1T, rfl, rfl, h⟩ := b0N
 refine a7 (A0 _) ?_
 refine a7 a5r ?_
 refine d7 (ld1 Tryz.isAgg27 (I_8.at1 (o := 2) (vs := [(vi X1.fe)]) (nb rfl) rfl)) ?_
 exact hR X1.fe H_6 _ I_8.drop.drop h
theorem b8Q (x0 : r7) {H : Hp} {K : Int → Hp → Prop} (h : a4N x0 H K) : a4L x0 H K := by
 intro w I
 refine f8d ?_
 refine b7H x0 I (fun r0 H' w' I' hk => ⟨H', _, I', r0, rfl, rfl, hk⟩) h
def E7 (J8 : (List d9)) (H : Hp) (K : Sl → Hp → Prop) : Prop :=
 ∀ (u7 : Sl) (K2 : Hp), Hle H K2 → SlH K2 1 v6 u7 J8 → u7.n ≤ u7.c →
 K u7 K2
def E8 (N0 : Sl) (U1 : Int) (p7 : (List d9)) (o7 : Int) (H : Hp) (n2 : ((List d9) × Int) → Hp → Prop) (K : Sl → Hp → Prop) : Prop :=
 (o7 < U1 →
 (0 : Int) ≤ o7 ∧ (o7 : Int) < N0.n ∧ ∃ x_1 : b6, EltH H N0 o7 4 (b8 x_1) ∧
 b0h x_1 H (fun (C3 : d9) (O7 : Hp) =>
 (p7.length + ([C3] : List d9).length) * 17 ≤ 140737488355328 ∧
 n2 ((p7 ++ [C3]), (IntKind.wrap .i64 (o7 + 1))) O7)) ∧
 (¬ (o7 < U1) →
 E7 p7 H K)
def H7 (x0 : Sl) (H : Hp) (K : Sl → Hp → Prop) : Prop :=
 TL (([], 0) : (List d9) × Int) H fun (s : (List d9) × Int) H n2 => E8 x0 (x0.n : Int) s.1 s.2 H n2 K
theorem a2I (x0 : Sl) {K : Sl → Hp → Prop} (I : Inv w0 ps0 H0 H [] w) (hR : ∀ (r0 : Sl) (H' : Hp) (w' : World) (_ : Inv w0 ps0 H0 H' [] w') (_ : K r0 H'), R (vs r0) w') (h : H7 x0 H K) : d7v (vs x0) (fC 190) w R E := by
 unfold H7 at h
 unfold d7v
 have hj1 : ∀ (J8 : (List d9)) (u7 : Sl) (Fs5j1 : Frag) (H : Hp) (w : World) (_ : RowL 150 1 v6 u7 J8 Fs5j1) (_ : Inv w0 ps0 H0 H [Fs5j1] w) (_ : E7 J8 H K), c6J (vs u7) w R E := by
  intro J8 u7 Fs5j1 H w a5i I h
  unfold c6J
  intro _
  unfold E7 at h
  obtain ⟨K2, a5A, a6n, a1u, a3F⟩ := Inv.freezeC I a5i (by decide)
  replace h := h u7 K2 a6n a1u a3F
  exact hR u7 K2 _ a5A h
 refine A7 fun j1 hx1 => ?_
 refine a7 (a2l _ _ _) ?_
 obtain ⟨Z7, O6, a7P, a7Q⟩ := h
 refine M6 (J := fun n l w => ∃ (s : (List d9) × Int) (H : Hp) (J9 : Sl) (Fs5l2 : Frag) , n = O6 s ∧ l = (match s with | (p7, o7) => [(vs J9), (vi o7)]) ∧ (match s with | (p7, o7) => RowL 150 1 v6 J9 p7 Fs5l2) ∧ (match s with | (p7, o7) => Inv w0 ps0 H0 H [Fs5l2] w) ∧ Z7 s H) ⟨_, ([], 0), H, (Sl.mk none 0 0), [], rfl, rfl, (RowL.nil Q2 R5), I.nil, a7P⟩ ?_
 rintro b9O τ_50 w next2 ⟨⟨p7, o7⟩, H, J9, Fs5l2, rfl, Y0, S8, I, a7R⟩ hn2
 dsimp only at Y0 I S8
 simp only [List.map_cons, List.map_nil, List.cons.injEq, and_true] at Y0
 obtain ⟨e5, e10⟩ := Y0
 simp only [e5, e10]
 obtain ⟨n2, hm2, h⟩ : ∃ n2 : ((List d9) × Int) → Hp → Prop, (∀ s' H', n2 s' H' → Z7 s' H' ∧ O6 s' < O6 (p7, o7)) ∧ E8 x0 (x0.n : Int) p7 o7 H n2 K := ⟨_, fun _ _ h => h, a7Q (p7, o7) H (fun s' H' => Z7 s' H' ∧ O6 s' < O6 (p7, o7)) a7R (fun _ _ a b => ⟨a, b⟩)⟩
 unfold d5S
 unfold E8 at h
 refine a7 (D7 _ _ _ _ _ _) ?_
 refine j8 (fun V8 => ?_) (fun V8 => ?_)
 ·replace h := h.1 V8
  obtain ⟨h_4, h_5, x_1, h_7, h⟩ := h
  obtain ⟨g_2, o_3, h_6, h_7⟩ := h_7
  refine a7 (M4 h_6 _ _ _ _ h_4 h_5) ?_
  refine d7 (ldA (vs := (b8 x_1)) Tryz.isAgg53 Tryz.sizeOf53 rfl (I.atH h_7)) ?_
  refine y9 I Tryz.zeroValue53 (cs := [(vi 0), (vi 0), (eS), (nS)]) rfl fun g_9 q7 a0V b0j => ?_
  refine m7 a0V Tryz.sizeOf53 (vs := (b8 x_1)) (cs' := (b8 x_1)) rfl rfl (nb rfl) rfl rfl fun a0e O8 a3V => ?_
  refine d7 (ldA Tryz.isAgg53 Tryz.sizeOf53 rfl (O8.at1 (o := 0) (vs := (b8 x_1)) (nb rfl) rfl)) ?_
  refine d8 (cap := []) (fun args w => Tryz.call190 args w) ?_
  refine o0 (Fi := []) (Fr := [bx g_9 53 (b8 x_1), Fs5l2]) O8 (h) (fun b5C O7 b3D X8 a1v b5D b5E a5B => ?_) (fun _ _ _ _ _ q => q.elim)
  obtain ⟨C3, rfl, rfl, h⟩ := a5B
  refine a1s (e := 150) (c := v6) (xs := [C3]) a1v (b0K _) rfl rfl Q2 R5 (nb rfl) fun b2j b0k D8 a4I V9 a8E => ?_
  obtain ⟨a5C, h⟩ := h
  refine b6q (s := J9) (xs := p7) (V9.bring 2) S8 (a4I.srcO ((V9.bring 2).bring 1)) a5C fun a4o a7p B3 a3W a2p b0M => ?_
  refine a7 (L6 _ _ _ _ _ _) ?_
  exact hn2 _ _ _ (hm2 _ _ h).2 ⟨((p7 ++ [C3]), (IntKind.wrap .i64 (o7 + 1))), O7, a4o, a7p, rfl, rfl, a3W, ((a2p.bring 1).drop.bring 1).drop, (hm2 _ _ h).1⟩
 ·replace h := h.2 V8
  exact hx1 _ _ (hj1 p7 J9 Fs5l2 H _ S8 I h)
theorem a2V (x0 : Sl) {H : Hp} {K : Sl → Hp → Prop} (h : H7 x0 H K) : B5 x0 H K := by
 intro w I
 refine f1U ?_
 refine a2I x0 I (fun r0 H' w' I' hk => ⟨H', _, I', r0, rfl, rfl, hk⟩) h
def a1Y (x0 : V4) (H : Hp) (K : Sl → Hp → Prop) : Prop :=
 K (Sl.mk none 0 0) H
theorem b2G (x0 : V4) {K : Sl → Hp → Prop} (I : Inv w0 ps0 H0 H [] w) (hR : ∀ (r0 : Sl) (H' : Hp) (w' : World) (_ : Inv w0 ps0 H0 H' [] w') (_ : K r0 H'), R (vs r0) w') (h : a1Y x0 H K) : d7D (Value.agg (r9 x0.V5).toArray) w R E := by
 unfold a1Y at h
 unfold d7D
 refine L9 I (cs := (r9 x0.V5)) rfl fun g_2 w_3 I_4 k_5 => ?_
 exact hR (Sl.mk none 0 0) H _ I_4.drop h
theorem b3M (x0 : V4) {H : Hp} {K : Sl → Hp → Prop} (h : a1Y x0 H K) : a7M x0 H K := by
 intro w I
 refine f2j ?_
 refine b2G x0 I (fun r0 H' w' I' hk => ⟨H', _, I', r0, rfl, rfl, hk⟩) h
end Go.Proofs.YtnhkdkcgdcgmdaaGreatDoor
