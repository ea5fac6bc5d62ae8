/- Typed formulas of the program's functions that few laws need; printed by lift.py off the code. -/
import Derived.Test.YtnhkdkcgdcgmdaaGreatDoorzFV1
import Derived.Test.YtnhkdkcgdcgmdaaGreatDoorzFG1t
namespace Go.Proofs.YtnhkdkcgdcgmdaaGreatDoor
open Go.RowKit
set_option maxRecDepth 100000
set_option maxHeartbeats 2000000
variable {w0 w : World} {ps0 : Nat → Prop} {H0 H : Hp} {R : RT} {E : Pan}
def a5q (x0 : Int) (H : Hp) (K : a8 → Hp → Prop) : Prop :=
 K (a8.mk 1 x0 ⟨#[]⟩ (Sl.mk none 0 0)) H
theorem b9K (x0 : Int) {K : a8 → Hp → Prop} (I : Inv w0 ps0 H0 H [] w) (hR : ∀ (r0 : a8) (H' : Hp) (w' : World) (_ : Inv w0 ps0 H0 H' [] w') (_ : K r0 H'), R (Value.agg (b7 r0).toArray) w') (h : a5q x0 H K) : F22 (vi x0) w R E := by
 unfold a5q at h
 unfold F22
 refine z7 I Tryz.zeroValue53 (cs := [(vi 0), (vi 0), (eS), (nS)]) rfl fun g_2 w_3 I_4 k_5 => ?_
 refine a7 (b1R _ _) ?_
 refine m6 I_4 Tryz.sizeOf53 (vs := [(vi 1), (vi x0), (eS), (nS)]) (cs' := [(vi 1), (vi x0), (eS), (nS)]) rfl rfl (nb rfl) rfl rfl fun w_6 I_7 k_8 => ?_
 refine B0 Tryz.isAgg53 Tryz.sizeOf53 rfl (I_7.at1 (o := 0) (vs := [(vi 1), (vi x0), (eS), (nS)]) (nb rfl) rfl) ?_
 exact hR (a8.mk 1 x0 ⟨#[]⟩ (Sl.mk none 0 0)) H _ I_7.drop h
theorem c1W (x0 : Int) {H : Hp} {K : a8 → Hp → Prop} (h : a5q x0 H K) : Z5 x0 H K := by
 intro w I
 refine i9g ?_
 refine b9K x0 I (fun r0 H' w' I' hk => ⟨H', _, I', r0, rfl, rfl, hk⟩) h
def a1N (x0 : a8) (H : Hp) (K : Int → Bool → Hp → Prop) : Prop :=
 (x0.b6 = 1 →
 K x0.m8 true H) ∧
 (¬ (x0.b6 = 1) →
 ∃ x_6 : a8, ((decide (x0.b6 = 5)) = true → (0 : Int) ≤ 0 ∧ (0 : Int) < x0.i4.n ∧ EltH H x0.i4 0 4 (b7 x_6)) ∧
 (((decide (x0.b6 = 5)) && (decide (x_6.b6 = 1))) = true →
 (0 : Int) ≤ 0 ∧ (0 : Int) < x0.i4.n ∧ ∃ a3A : a8, EltH H x0.i4 0 4 (b7 a3A) ∧
 K (IntKind.wrap .i64 (0 - a3A.m8)) true H) ∧
 (((decide (x0.b6 = 5)) && (decide (x_6.b6 = 1))) = false →
 K 0 false H))
theorem b9d (x0 : a8) {K : Int → Bool → Hp → Prop} (I : Inv w0 ps0 H0 H [] w) (hR : ∀ (r0 : Int) (r1 : Bool) (H' : Hp) (w' : World) (_ : Inv w0 ps0 H0 H' [] w') (_ : K r0 r1 H'), R (Value.tuple #[(vi r0), (vB r1)]) w') (h : a1N x0 H K) : F67 (Value.agg (b7 x0).toArray) w R E := by
 unfold a1N at h
 unfold F67
 refine J5 I (cs := (b7 x0)) rfl fun g_2 w_3 I_4 k_5 => ?_
 refine a7 F7 ?_
 refine f7 (ld1 Tryz.isAgg3 (I_4.at1 (o := 0) (vs := [(vi x0.b6)]) (nb rfl) rfl)) ?_
 refine a7 (i8 _ _ _ _ _ _) ?_
 refine k7 (fun b1r => ?_) (fun b1r => ?_)
 ·replace h := h.1 b1r
  refine a7 a3E ?_
  refine f7 (ld1 Tryz.isAgg2 (I_4.at1 (o := 1) (vs := [(vi x0.m8)]) (nb rfl) rfl)) ?_
  exact hR x0.m8 true H _ I_4.drop h
 ·replace h := h.2 b1r
  refine a7 F7 ?_
  refine f7 (ld1 Tryz.isAgg3 (I_4.at1 (o := 0) (vs := [(vi x0.b6)]) (nb rfl) rfl)) ?_
  refine a7 (i8 _ _ _ _ _ _) ?_
  refine a7 (Pu.g fun hb => by have b9 := hb; exact v8) ?_
  refine f7 (Ld.g fun hb => by have b9 := hb; simp only [i7 b9]; exact (ld1 Tryz.isAgg51 (I_4.at1 (o := 3) (vs := [(vs x0.i4)]) (nb rfl) rfl))) ?_
  obtain ⟨x_6, b7M, h⟩ := h
  obtain ⟨g_7, o_8, b7M⟩ := b3a b7M
  refine a7 (Pu.g fun hb => by have b9 := hb; simp only [i7 b9]; exact (A0 (b7M hb).2.2.1 _ _ _ _ (b7M hb).1 (b7M hb).2.1)) ?_
  refine a7 (Pu.g fun hb => by have b9 := hb; simp only [i7 b9]; exact F7) ?_
  refine f7 (Ld.g fun hb => by have b9 := hb; simp only [i7 b9]; exact (ld1 (v := (vi x_6.b6)) Tryz.isAgg3 ((I_4.atH (b7M hb).2.2.2).sub (k := 0) (n := 1) (nb rfl)))) ?_
  refine a7 (Pu.g fun hb => by have b9 := hb; simp only [i7 b9]; exact (i8 _ _ _ _ _ _)) ?_
  refine a7 (s7 _ _) ?_
  refine o0 (fun a8M => ?_) (fun a8M => ?_)
  ·replace h := h.1 a8M
   refine a7 v8 ?_
   refine f7 (ld1 Tryz.isAgg51 (I_4.at1 (o := 3) (vs := [(vs x0.i4)]) (nb rfl) rfl)) ?_
   obtain ⟨a7J, b7t, a3A, a6E, h⟩ := h
   obtain ⟨e9U, e9V, c6A, a6E⟩ := a6E
   refine a7 (A0 c6A _ _ _ _ a7J b7t) ?_
   refine a7 a3E ?_
   refine f7 (ld1 (v := (vi a3A.m8)) Tryz.isAgg2 ((I_4.atH a6E).sub (k := 1) (n := 1) (nb rfl))) ?_
   refine a7 (c4m _ _) ?_
   exact hR (IntKind.wrap .i64 (0 - a3A.m8)) true H _ I_4.drop h
  ·replace h := h.2 a8M
   exact hR 0 false H _ I_4.drop h
theorem b9L (x0 : a8) {H : Hp} {K : Int → Bool → Hp → Prop} (h : a1N x0 H K) : T3 x0 H K := by
 intro w I
 refine j1V ?_
 refine b9d x0 I (fun r0 r1 H' w' I' hk => ⟨H', _, I', r0, r1, rfl, rfl, hk⟩) h
def a8W (x0 : a8) (x1 : Int) (H : Hp) (K : Bool → Hp → Prop) : Prop :=
 T3 x0 H (fun (C1 : Int) (b2o : Bool) (H_6 : Hp) =>
 K (b2o && (decide (C1 = x1))) H_6)
theorem c7h (x0 : a8) (x1 : Int) {K : Bool → Hp → Prop} (I : Inv w0 ps0 H0 H [] w) (hR : ∀ (r0 : Bool) (H' : Hp) (w' : World) (_ : Inv w0 ps0 H0 H' [] w') (_ : K r0 H'), R (vB r0) w') (h : a8W x0 x1 H K) : F70 (Value.agg (b7 x0).toArray) (vi x1) w R E := by
 unfold a8W at h
 unfold F70
 refine J5 I (cs := (b7 x0)) rfl fun g_2 w_3 I_4 k_5 => ?_
 refine f7 (ldA Tryz.isAgg53 Tryz.sizeOf53 rfl (I_4.at1 (o := 0) (vs := (b7 x0)) (nb rfl) rfl)) ?_
 refine g9 (cap := []) (fun args w => Tryz.call67 args w) ?_
 refine l7 (Fi := []) (Fr := [bx g_2 53 (b7 x0)]) I_4 (h) (fun b7c H_6 b5P w_7 I_8 b7d k_9 a6w => ?_) (fun _ _ _ _ _ q => q.elim)
 obtain ⟨C1, b2o, rfl, rfl, h⟩ := a6w
 refine a7 (o2 _ _ (vi C1) rfl) ?_
 refine a7 (o2 _ _ (vB b2o) rfl) ?_
 simp only [u5]
 refine a7 (Pu.g fun hb => by have b9 := hb; simp only [i7 b9]; exact (i8 _ _ _ _ _ _)) ?_
 refine a7 (s7 _ _) ?_
 exact hR (b2o && (decide (C1 = x1))) H_6 _ I_8.drop h
theorem c7U (x0 : a8) (x1 : Int) {H : Hp} {K : Bool → Hp → Prop} (h : a8W x0 x1 H K) : a1C x0 x1 H K := by
 intro w I
 refine j2z ?_
 refine c7h x0 x1 I (fun r0 H' w' I' hk => ⟨H', _, I', r0, rfl, rfl, hk⟩) h
def D2 (J6 : (List a8)) (H : Hp) (K : Sl → Hp → Prop) : Prop :=
 ∀ (w6 : Sl) (J9 : Hp), Hle H J9 → SlH J9 4 b7 w6 J6 → w6.n ≤ w6.c →
 K w6 J9
def D3 (O0 : Sl) (a5d : Int) (p9 : (List a8)) (p1 : Int) (H : Hp) (n2 : ((List a8) × Int) → Hp → Prop) (K : Sl → Hp → Prop) : Prop :=
 (p1 < a5d →
 (0 : Int) ≤ p1 ∧ (p1 : Int) < O0.n ∧ ∃ x_1 : a8, EltH H O0 p1 4 (b7 x_1) ∧
 a7s x_1 H (fun (D7 : a8) (R6 : Hp) =>
 (p9.length + ([D7] : List a8).length) * 57 ≤ 140737488355328 ∧
 n2 ((p9 ++ [D7]), (IntKind.wrap .i64 (p1 + 1))) R6)) ∧
 (¬ (p1 < a5d) →
 D2 p9 H K)
def F5 (x0 : Sl) (H : Hp) (K : Sl → Hp → Prop) : Prop :=
 TL (([], 0) : (List a8) × Int) H fun (s : (List a8) × Int) H n2 => D3 x0 (x0.n : Int) s.1 s.2 H n2 K
theorem a4D (x0 : Sl) {K : Sl → Hp → Prop} (I : Inv w0 ps0 H0 H [] w) (hR : ∀ (r0 : Sl) (H' : Hp) (w' : World) (_ : Inv w0 ps0 H0 H' [] w') (_ : K r0 H'), R (vs r0) w') (h : F5 x0 H K) : F66 (vs x0) (fC 40) w R E := by
 unfold F5 at h
 unfold F66
 have hj1 : ∀ (J6 : (List a8)) (w6 : Sl) (Fs5j1 : Frag) (H : Hp) (w : World) (_ : RowL 53 4 b7 w6 J6 Fs5j1) (_ : Inv w0 ps0 H0 H [Fs5j1] w) (_ : D2 J6 H K), e5g (vs w6) w R E := by
  intro J6 w6 Fs5j1 H w a9B I h
  unfold e5g
  intro _
  unfold D2 at h
  obtain ⟨J9, a9Y, b0K, a7g, a6p⟩ := Inv.freezeC I a9B (by decide)
  replace h := h w6 J9 b0K a7g a6p
  exact hR w6 J9 _ a9Y h
 refine t6 fun j1 hx1 => ?_
 refine a7 (J3 _ _ _) ?_
 obtain ⟨a2t, Q6, b2J, b2K⟩ := h
 refine B5 (J := fun n l w => ∃ (s : (List a8) × Int) (H : Hp) (J7 : Sl) (Fs5l2 : Frag) , n = Q6 s ∧ l = (match s with | (p9, p1) => [(vs J7), (vi p1)]) ∧ (match s with | (p9, p1) => RowL 53 4 b7 J7 p9 Fs5l2) ∧ (match s with | (p9, p1) => Inv w0 ps0 H0 H [Fs5l2] w) ∧ a2t s H) ⟨_, ([], 0), H, (Sl.mk none 0 0), [], rfl, rfl, (RowL.nil N7 N8), I.nil, b2J⟩ ?_
 rintro c8O τ_50 w next2 ⟨⟨p9, p1⟩, H, J7, Fs5l2, rfl, a1D, W7, I, b2L⟩ hn2
 dsimp only at a1D I W7
 simp only [List.map_cons, List.map_nil, List.cons.injEq, and_true] at a1D
 obtain ⟨e5, e10⟩ := a1D
 simp only [e5, e10]
 obtain ⟨n2, hm2, h⟩ : ∃ n2 : ((List a8) × Int) → Hp → Prop, (∀ s' H', n2 s' H' → a2t s' H' ∧ Q6 s' < Q6 (p9, p1)) ∧ D3 x0 (x0.n : Int) p9 p1 H n2 K := ⟨_, fun _ _ h => h, b2K (p9, p1) H (fun s' H' => a2t s' H' ∧ Q6 s' < Q6 (p9, p1)) b2L (fun _ _ a b => ⟨a, b⟩)⟩
 unfold f7R
 unfold D3 at h
 refine a7 (w9 _ _ _ _ _ _) ?_
 refine k7 (fun a0p => ?_) (fun a0p => ?_)
 ·replace h := h.1 a0p
  obtain ⟨h_4, h_5, x_1, h_7, h⟩ := h
  obtain ⟨g_2, o_3, h_6, h_7⟩ := h_7
  refine a7 (A0 h_6 _ _ _ _ h_4 h_5) ?_
  refine f7 (ldA (vs := (b7 x_1)) Tryz.isAgg53 Tryz.sizeOf53 rfl (I.atH h_7)) ?_
  refine z7 I Tryz.zeroValue53 (cs := [(vi 0), (vi 0), (eS), (nS)]) rfl fun g_9 p5 a3l b4q => ?_
  refine m6 a3l Tryz.sizeOf53 (vs := (b7 x_1)) (cs' := (b7 x_1)) rfl rfl (nb rfl) rfl rfl fun a2s L9 a4z => ?_
  refine f7 (ldA Tryz.isAgg53 Tryz.sizeOf53 rfl (L9.at1 (o := 0) (vs := (b7 x_1)) (nb rfl) rfl)) ?_
  refine g9 (cap := []) (fun args w => Tryz.call40 args w) ?_
  refine l7 (Fi := []) (Fr := [bx g_9 53 (b7 x_1), Fs5l2]) L9 (h) (fun c3E R6 c0F a1B a3y c3F c0G a9Z => ?_) (fun _ _ _ _ _ q => q.elim)
  obtain ⟨D7, rfl, rfl, h⟩ := a9Z
  refine a5A (e := 53) (c := b7) (xs := [D7]) a3y (b6N _ _ _ _ _ _) rfl rfl N7 N8 (nb rfl) fun b0a b3K B3 a7h T8 a9i => ?_
  obtain ⟨b0b, h⟩ := h
  refine c8e (s := J7) (xs := p9) (T8.bring 2) W7 (a7h.srcO ((T8.bring 2).bring 1)) b0b fun a8c b0L A6 b0c a5D b7a => ?_
  refine a7 (y6 _ _ _ _ _ _) ?_
  exact hn2 _ _ _ (hm2 _ _ h).2 ⟨((p9 ++ [D7]), (IntKind.wrap .i64 (p1 + 1))), R6, a8c, b0L, rfl, rfl, b0c, ((a5D.bring 1).drop.bring 1).drop, (hm2 _ _ h).1⟩
 ·replace h := h.2 a0p
  exact hx1 _ _ (hj1 p9 J7 Fs5l2 H _ W7 I h)
theorem a4F (x0 : Sl) {H : Hp} {K : Sl → Hp → Prop} (h : F5 x0 H K) : B4 x0 H K := by
 intro w I
 refine j1Q ?_
 refine a4D x0 I (fun r0 H' w' I' hk => ⟨H', _, I', r0, rfl, rfl, hk⟩) h
def a6T (x0 : Int) (H : Hp) (K : a8 → Hp → Prop) : Prop :=
 (x0 < 0 →
 ∀ (s_7 : Sl) (R6 : Hp), Hle H R6 → SlH R6 4 b7 s_7 [(a8.mk 1 (IntKind.wrap .i64 (0 - x0)) ⟨#[]⟩ (Sl.mk none 0 0))] → s_7.n ≤ s_7.c →
 K (a8.mk 5 0 ⟨#[]⟩ s_7) R6) ∧
 (¬ (x0 < 0) →
 K (a8.mk 1 x0 ⟨#[]⟩ (Sl.mk none 0 0)) H)
theorem c2A (x0 : Int) {K : a8 → Hp → Prop} (I : Inv w0 ps0 H0 H [] w) (hR : ∀ (r0 : a8) (H' : Hp) (w' : World) (_ : Inv w0 ps0 H0 H' [] w') (_ : K r0 H'), R (Value.agg (b7 r0).toArray) w') (h : a6T x0 H K) : F68 (vi x0) w R E := by
 unfold a6T at h
 unfold F68
 refine z7 I Tryz.zeroValue53 (cs := [(vi 0), (vi 0), (eS), (nS)]) rfl fun g_2 w_3 I_4 k_5 => ?_
 refine a7 (w9 _ _ _ _ _ _) ?_
 refine k7 (fun b4K => ?_) (fun b4K => ?_)
 ·replace h := h.1 b4K
  refine a7 (c4m _ _) ?_
  refine a7 (b1R _ _) ?_
  refine a5A (e := 53) (c := b7) (xs := [(a8.mk 1 (IntKind.wrap .i64 (0 - x0)) ⟨#[]⟩ (Sl.mk none 0 0))]) I_4 (b6N _ _ _ _ _ _) rfl rfl N7 N8 (nb rfl) fun s_7 F_8 w_9 b2Q a3l b4q => ?_
  refine a7 (b4b _ _ _ _) ?_
  refine m6 (a3l.bring 1) Tryz.sizeOf53 (vs := [(vi 5), (vi 0), (eS), (vs s_7)]) (cs' := [(vi 5), (vi 0), (eS), (vs s_7)]) rfl rfl (nb rfl) rfl rfl fun a2s L9 a4z => ?_
  refine B0 Tryz.isAgg53 Tryz.sizeOf53 rfl (L9.at1 (o := 0) (vs := [(vi 5), (vi 0), (eS), (vs s_7)]) (nb rfl) rfl) ?_
  obtain ⟨R6, b5M, c6v, a6E, g3Q⟩ := Inv.freezeC (L9.bring 1) b2Q (by decide)
  replace h := h s_7 R6 c6v a6E g3Q
  exact hR (a8.mk 5 0 ⟨#[]⟩ s_7) R6 _ b5M.drop h
 ·replace h := h.2 b4K
  refine a7 (b1R _ _) ?_
  refine m6 I_4 Tryz.sizeOf53 (vs := [(vi 1), (vi x0), (eS), (nS)]) (cs' := [(vi 1), (vi x0), (eS), (nS)]) rfl rfl (nb rfl) rfl rfl fun a5B b7f e9h => ?_
  refine B0 Tryz.isAgg53 Tryz.sizeOf53 rfl (b7f.at1 (o := 0) (vs := [(vi 1), (vi x0), (eS), (nS)]) (nb rfl) rfl) ?_
  exact hR (a8.mk 1 x0 ⟨#[]⟩ (Sl.mk none 0 0)) H _ b7f.drop h
theorem c3W (x0 : Int) {H : Hp} {K : a8 → Hp → Prop} (h : a6T x0 H K) : a6M x0 H K := by
 intro w I
 refine j1X ?_
 refine c2A x0 I (fun r0 H' w' I' hk => ⟨H', _, I', r0, rfl, rfl, hk⟩) h
def E9 (b2U : Int) (a6Q : Int) (Q7 : a8w) (N9 : a8) (H : Hp) (K : Int → Bool → Hp → Prop) : Prop :=
 K b2U ((decide (a6Q = 0)) && (!decide (b2U = (-9223372036854775808)))) H
def a2W (m7 : a8w) (r7 : a8) (H : Hp) (K : Int → Bool → Hp → Prop) : Prop :=
 (r7.b6 = 5 →
 (0 : Int) ≤ 0 ∧ (0 : Int) < 2 ∧
 b1j (([m7.f0, m7.f1] : List Int).getD (0 : Int).toNat 0) H (fun (l9 : Int) (b6l : Int) (a4d : Hp) =>
 E9 l9 b6l m7 r7 a4d K)) ∧
 (¬ (r7.b6 = 5) →
 (r7.b6 = 6 →
 (0 : Int) ≤ 0 ∧ (0 : Int) < 2 ∧
 (0 : Int) ≤ 1 ∧ (1 : Int) < 2 ∧
 b1k (([m7.f0, m7.f1] : List Int).getD (0 : Int).toNat 0) (([m7.f0, m7.f1] : List Int).getD (1 : Int).toNat 0) H (fun (c2V : Int) (d9f : Int) (d2G : Hp) =>
 E9 c2V d9f m7 r7 d2G K)) ∧
 (¬ (r7.b6 = 6) →
 (r7.b6 = 7 →
 (0 : Int) ≤ 0 ∧ (0 : Int) < 2 ∧
 (0 : Int) ≤ 1 ∧ (1 : Int) < 2 ∧
 a8G (([m7.f0, m7.f1] : List Int).getD (0 : Int).toNat 0) (([m7.f0, m7.f1] : List Int).getD (1 : Int).toNat 0) H (fun (a8a : Int) (d9g : Int) (b4o : Hp) =>
 E9 a8a d9g m7 r7 b4o K)) ∧
 (¬ (r7.b6 = 7) →
 (r7.b6 = 8 →
 (0 : Int) ≤ 0 ∧ (0 : Int) < 2 ∧
 (0 : Int) ≤ 1 ∧ (1 : Int) < 2 ∧
 b1l (([m7.f0, m7.f1] : List Int).getD (0 : Int).toNat 0) (([m7.f0, m7.f1] : List Int).getD (1 : Int).toNat 0) H (fun (d9h : Int) (d9i : Int) (g3R : Hp) =>
 E9 d9h d9i m7 r7 g3R K)) ∧
 (¬ (r7.b6 = 8) →
 (r7.b6 = 9 →
 (0 : Int) ≤ 0 ∧ (0 : Int) < 2 ∧
 (0 : Int) ≤ 1 ∧ (1 : Int) < 2 ∧
 b1m (([m7.f0, m7.f1] : List Int).getD (0 : Int).toNat 0) (([m7.f0, m7.f1] : List Int).getD (1 : Int).toNat 0) H (fun (d5j : Int) (d5k : Int) (d2t : Hp) =>
 E9 d5j d5k m7 r7 d2t K)) ∧
 (¬ (r7.b6 = 9) →
 (r7.b6 = 10 →
 (0 : Int) ≤ 0 ∧ (0 : Int) < 2 ∧
 (0 : Int) ≤ 1 ∧ (1 : Int) < 2 ∧
 b1n (([m7.f0, m7.f1] : List Int).getD (0 : Int).toNat 0) (([m7.f0, m7.f1] : List Int).getD (1 : Int).toNat 0) H (fun (d5l : Int) (d5m : Int) (f2B : Hp) =>
 E9 d5l d5m m7 r7 f2B K)) ∧
 (¬ (r7.b6 = 10) →
 E9 0 2 m7 r7 H K))))))
def a2X (g5x : Sl) (g5y : Int) (a1i : a8) (a5r : Int) (P1 : a8w) (H : Hp) (n3 : (Int × a8w) → Hp → Prop) (K : Int → Bool → Hp → Prop) : Prop :=
 (a5r < g5y →
 (0 : Int) ≤ a5r ∧ (a5r : Int) < g5x.n ∧ ∃ a9I : a8, EltH H g5x a5r 4 (b7 a9I) ∧
 T3 a9I H (fun (b6m : Int) (d5n : Bool) (d5o : Hp) =>
 ((!d5n) = true →
 K 0 false d5o) ∧
 ((!d5n) = false →
 (0 : Int) ≤ a5r ∧ (a5r : Int) < 2 ∧
 n3 ((IntKind.wrap .i64 (a5r + 1)), (a8w.mk (if a5r = 0 then b6m else P1.f0) (if a5r = 1 then b6m else P1.f1))) d5o))) ∧
 (¬ (a5r < g5y) →
 a2W P1 a1i H K)
def a4s (x0 : a8) (H : Hp) (K : Int → Bool → Hp → Prop) : Prop :=
 TL ((0, (a8w.mk 0 0)) : Int × a8w) H fun (s : Int × a8w) H n3 => a2X x0.i4 (x0.i4.n : Int) x0 s.1 s.2 H n3 K
theorem b9e (x0 : a8) {K : Int → Bool → Hp → Prop} (I : Inv w0 ps0 H0 H [] w) (hR : ∀ (r0 : Int) (r1 : Bool) (H' : Hp) (w' : World) (_ : Inv w0 ps0 H0 H' [] w') (_ : K r0 r1 H'), R (Value.tuple #[(vi r0), (vB r1)]) w') (h : a4s x0 H K) : F69 (Value.agg (b7 x0).toArray) w R E := by
 unfold a4s at h
 unfold F69
 refine J5 I (cs := (b7 x0)) rfl fun g_2 w_3 I_4 k_5 => ?_
 refine z7 I_4 Tryz.zeroValue173 (cs := [(vi 0), (vi 0)]) rfl fun g_7 w_8 I_9 b0M => ?_
 have hj1 : ∀ (m7 : a8w) (H : Hp) (w : World) (_ : Inv w0 ps0 H0 H [bx g_7 173 [(vi m7.f0), (vi m7.f1)], bx g_2 53 (b7 x0)] w) (_ : a2W m7 x0 H K), e5j (Value.pointer (some ⟨g_2, 0, none⟩)) (Value.pointer (some ⟨g_7, 0, none⟩)) w R E := by
  intro m7 H w I h
  unfold e5j
  intro _
  unfold a2W at h
  have hj2 : ∀ (b2U : Int) (a6Q : Int) (H : Hp) (w : World) (_ : Inv w0 ps0 H0 H [bx g_7 173 [(vi m7.f0), (vi m7.f1)], bx g_2 53 (b7 x0)] w) (_ : E9 b2U a6Q m7 x0 H K), e5i (vi b2U) (vi a6Q) w R E := by
   intro b2U a6Q H w I h
   unfold e5i
   intro _
   unfold E9 at h
   refine a7 (i8 _ _ _ _ _ _) ?_
   simp only [u5]
   refine a7 (Pu.g fun hb => by have b9 := hb; simp only [i7 b9]; exact (M7 _ _ _ _ _ _)) ?_
   refine a7 (s7 _ _) ?_
   exact hR b2U ((decide (a6Q = 0)) && (!decide (b2U = (-9223372036854775808)))) H _ I.drop.drop h
  refine t6 fun j2 hx2 => ?_
  refine a7 F7 ?_
  refine f7 (ld1 Tryz.isAgg3 ((I.bring 1).at1 (o := 0) (vs := [(vi x0.b6)]) (nb rfl) rfl)) ?_
  refine a7 (i8 _ _ _ _ _ _) ?_
  refine k7 (fun f2C => ?_) (fun f2C => ?_)
  ·replace h := h.1 f2C
   obtain ⟨d7I, a7g, h⟩ := h
   refine a7 (a3G _ _ d7I a7g) ?_
   refine f7 (ld1 (v := (vi (([m7.f0, m7.f1] : List Int).getD (0 : Int).toNat 0))) Tryz.isAgg2 (Inv.c0j (n := 2) (k := .i64) (l := [m7.f0, m7.f1]) I rfl rfl d7I a7g)) ?_
   refine g9 (cap := []) (fun args w => Tryz.call112 args w) ?_
   refine l7 (Fi := []) (Fr := [bx g_7 173 [(vi m7.f0), (vi m7.f1)], bx g_2 53 (b7 x0)]) I (h) (fun e9J a4d e9K E4 b2c e9L d6W c6p => ?_) (fun _ _ _ _ _ q => q.elim)
   obtain ⟨l9, b6l, rfl, rfl, h⟩ := c6p
   refine a7 (o2 _ _ (vi l9) rfl) ?_
   refine a7 (o2 _ _ (vi b6l) rfl) ?_
   exact hx2 _ _ (hj2 l9 b6l a4d _ ((b2c.bring 1).bring 1) h)
  ·replace h := h.2 f2C
   refine a7 (i8 _ _ _ _ _ _) ?_
   refine k7 (fun b5O => ?_) (fun b5O => ?_)
   ·replace h := h.1 b5O
    obtain ⟨c3I, c3K, h⟩ := h
    refine a7 (a3G _ _ c3I c3K) ?_
    refine f7 (ld1 (v := (vi (([m7.f0, m7.f1] : List Int).getD (0 : Int).toNat 0))) Tryz.isAgg2 (Inv.c0j (n := 2) (k := .i64) (l := [m7.f0, m7.f1]) I rfl rfl c3I c3K)) ?_
    obtain ⟨c3J, c9b, h⟩ := h
    refine a7 (a3G _ _ c3J c9b) ?_
    refine f7 (ld1 (v := (vi (([m7.f0, m7.f1] : List Int).getD (1 : Int).toNat 0))) Tryz.isAgg2 (Inv.c0j (n := 2) (k := .i64) (l := [m7.f0, m7.f1]) I rfl rfl c3J c9b)) ?_
    refine g9 (cap := []) (fun args w => Tryz.call113 args w) ?_
    refine l7 (Fi := []) (Fr := [bx g_7 173 [(vi m7.f0), (vi m7.f1)], bx g_2 53 (b7 x0)]) I (h) (fun k2k d2G k2l c3x b7u e2j c9c f9Z => ?_) (fun _ _ _ _ _ q => q.elim)
    obtain ⟨c2V, d9f, rfl, rfl, h⟩ := f9Z
    refine a7 (o2 _ _ (vi c2V) rfl) ?_
    refine a7 (o2 _ _ (vi d9f) rfl) ?_
    exact hx2 _ _ (hj2 c2V d9f d2G _ ((b7u.bring 1).bring 1) h)
   ·replace h := h.2 b5O
    refine a7 (i8 _ _ _ _ _ _) ?_
    refine k7 (fun c7i => ?_) (fun c7i => ?_)
    ·replace h := h.1 c7i
     obtain ⟨d7b, d7a, h⟩ := h
     refine a7 (a3G _ _ d7b d7a) ?_
     refine f7 (ld1 (v := (vi (([m7.f0, m7.f1] : List Int).getD (0 : Int).toNat 0))) Tryz.isAgg2 (Inv.c0j (n := 2) (k := .i64) (l := [m7.f0, m7.f1]) I rfl rfl d7b d7a)) ?_
     obtain ⟨j3a, f2D, h⟩ := h
     refine a7 (a3G _ _ j3a f2D) ?_
     refine f7 (ld1 (v := (vi (([m7.f0, m7.f1] : List Int).getD (1 : Int).toNat 0))) Tryz.isAgg2 (Inv.c0j (n := 2) (k := .i64) (l := [m7.f0, m7.f1]) I rfl rfl j3a f2D)) ?_
     refine g9 (cap := []) (fun args w => Tryz.call114 args w) ?_
     refine l7 (Fi := []) (Fr := [bx g_7 173 [(vi m7.f0), (vi m7.f1)], bx g_2 53 (b7 x0)]) I (h) (fun d6T b4o f8V T7 c8N f8W f8X d2b => ?_) (fun _ _ _ _ _ q => q.elim)
     obtain ⟨a8a, d9g, rfl, rfl, h⟩ := d2b
     refine a7 (o2 _ _ (vi a8a) rfl) ?_
     refine a7 (o2 _ _ (vi d9g) rfl) ?_
     exact hx2 _ _ (hj2 a8a d9g b4o _ ((c8N.bring 1).bring 1) h)
    ·replace h := h.2 c7i
     refine a7 (i8 _ _ _ _ _ _) ?_
     refine k7 (fun f2E => ?_) (fun f2E => ?_)
     ·replace h := h.1 f2E
      obtain ⟨j3b, j3c, h⟩ := h
      refine a7 (a3G _ _ j3b j3c) ?_
      refine f7 (ld1 (v := (vi (([m7.f0, m7.f1] : List Int).getD (0 : Int).toNat 0))) Tryz.isAgg2 (Inv.c0j (n := 2) (k := .i64) (l := [m7.f0, m7.f1]) I rfl rfl j3b j3c)) ?_
      obtain ⟨f2F, j3d, h⟩ := h
      refine a7 (a3G _ _ f2F j3d) ?_
      refine f7 (ld1 (v := (vi (([m7.f0, m7.f1] : List Int).getD (1 : Int).toNat 0))) Tryz.isAgg2 (Inv.c0j (n := 2) (k := .i64) (l := [m7.f0, m7.f1]) I rfl rfl f2F j3d)) ?_
      refine g9 (cap := []) (fun args w => Tryz.call115 args w) ?_
      refine l7 (Fi := []) (Fr := [bx g_7 173 [(vi m7.f0), (vi m7.f1)], bx g_2 53 (b7 x0)]) I (h) (fun l1E g3R l1F j0r g3S l1G l1H k3O => ?_) (fun _ _ _ _ _ q => q.elim)
      obtain ⟨d9h, d9i, rfl, rfl, h⟩ := k3O
      refine a7 (o2 _ _ (vi d9h) rfl) ?_
      refine a7 (o2 _ _ (vi d9i) rfl) ?_
      exact hx2 _ _ (hj2 d9h d9i g3R _ ((g3S.bring 1).bring 1) h)
     ·replace h := h.2 f2E
      refine a7 (i8 _ _ _ _ _ _) ?_
      refine k7 (fun c6O => ?_) (fun c6O => ?_)
      ·replace h := h.1 c6O
       obtain ⟨c5T, b8Q, h⟩ := h
       refine a7 (a3G _ _ c5T b8Q) ?_
       refine f7 (ld1 (v := (vi (([m7.f0, m7.f1] : List Int).getD (0 : Int).toNat 0))) Tryz.isAgg2 (Inv.c0j (n := 2) (k := .i64) (l := [m7.f0, m7.f1]) I rfl rfl c5T b8Q)) ?_
       obtain ⟨c6g, b8U, h⟩ := h
       refine a7 (a3G _ _ c6g b8U) ?_
       refine f7 (ld1 (v := (vi (([m7.f0, m7.f1] : List Int).getD (1 : Int).toNat 0))) Tryz.isAgg2 (Inv.c0j (n := 2) (k := .i64) (l := [m7.f0, m7.f1]) I rfl rfl c6g b8U)) ?_
       refine g9 (cap := []) (fun args w => Tryz.call116 args w) ?_
       refine l7 (Fi := []) (Fr := [bx g_7 173 [(vi m7.f0), (vi m7.f1)], bx g_2 53 (b7 x0)]) I (h) (fun k1S d2t j4O a3u f9I j4P k1T e9v => ?_) (fun _ _ _ _ _ q => q.elim)
       obtain ⟨d5j, d5k, rfl, rfl, h⟩ := e9v
       refine a7 (o2 _ _ (vi d5j) rfl) ?_
       refine a7 (o2 _ _ (vi d5k) rfl) ?_
       exact hx2 _ _ (hj2 d5j d5k d2t _ ((f9I.bring 1).bring 1) h)
      ·replace h := h.2 c6O
       refine a7 (i8 _ _ _ _ _ _) ?_
       refine k7 (fun c6M => ?_) (fun c6M => ?_)
       ·replace h := h.1 c6M
        obtain ⟨c2Z, d0R, h⟩ := h
        refine a7 (a3G _ _ c2Z d0R) ?_
        refine f7 (ld1 (v := (vi (([m7.f0, m7.f1] : List Int).getD (0 : Int).toNat 0))) Tryz.isAgg2 (Inv.c0j (n := 2) (k := .i64) (l := [m7.f0, m7.f1]) I rfl rfl c2Z d0R)) ?_
        obtain ⟨g5z, d5p, h⟩ := h
        refine a7 (a3G _ _ g5z d5p) ?_
        refine f7 (ld1 (v := (vi (([m7.f0, m7.f1] : List Int).getD (1 : Int).toNat 0))) Tryz.isAgg2 (Inv.c0j (n := 2) (k := .i64) (l := [m7.f0, m7.f1]) I rfl rfl g5z d5p)) ?_
        refine g9 (cap := []) (fun args w => Tryz.call117 args w) ?_
        refine l7 (Fi := []) (Fr := [bx g_7 173 [(vi m7.f0), (vi m7.f1)], bx g_2 53 (b7 x0)]) I (h) (fun k5Y f2B k5Z a9J j7y k6a k6b j7z => ?_) (fun _ _ _ _ _ q => q.elim)
        obtain ⟨d5l, d5m, rfl, rfl, h⟩ := j7z
        refine a7 (o2 _ _ (vi d5l) rfl) ?_
        refine a7 (o2 _ _ (vi d5m) rfl) ?_
        exact hx2 _ _ (hj2 d5l d5m f2B _ ((j7y.bring 1).bring 1) h)
       ·replace h := h.2 c6M
        exact hx2 _ _ (hj2 0 2 H _ ((I.bring 1).bring 1) h)
 refine t6 fun j1 hx1 => ?_
 refine a7 v8 ?_
 refine f7 (ld1 Tryz.isAgg51 ((I_9.bring 1).at1 (o := 3) (vs := [(vs x0.i4)]) (nb rfl) rfl)) ?_
 refine a7 (J3 _ _ _) ?_
 obtain ⟨f2G, d5q, j7A, j7B⟩ := h
 refine B5 (J := fun n l w => ∃ (s : Int × a8w) (H : Hp) , n = d5q s ∧ l = (match s with | (a5r, P1) => [(vi a5r)]) ∧ (match s with | (a5r, P1) => Inv w0 ps0 H0 H [bx g_7 173 [(vi P1.f0), (vi P1.f1)], bx g_2 53 (b7 x0)] w) ∧ f2G s H) ⟨_, (0, (a8w.mk 0 0)), H, rfl, rfl, ((I_9.bring 1).bring 1), j7A⟩ ?_
 rintro k6c τ_168 w next3 ⟨⟨a5r, P1⟩, H, rfl, f2H, I, j7C⟩ hn3
 dsimp only at f2H I
 simp only [List.map_cons, List.map_nil, List.cons.injEq, and_true] at f2H
 have e14 := f2H
 simp only [e14]
 obtain ⟨n3, hm3, h⟩ : ∃ n3 : (Int × a8w) → Hp → Prop, (∀ s' H', n3 s' H' → f2G s' H' ∧ d5q s' < d5q (a5r, P1)) ∧ a2X x0.i4 (x0.i4.n : Int) x0 a5r P1 H n3 K := ⟨_, fun _ _ h => h, j7B (a5r, P1) H (fun s' H' => f2G s' H' ∧ d5q s' < d5q (a5r, P1)) j7C (fun _ _ a b => ⟨a, b⟩)⟩
 unfold f7V
 unfold a2X at h
 refine a7 (w9 _ _ _ _ _ _) ?_
 refine k7 (fun f2I => ?_) (fun f2I => ?_)
 ·replace h := h.1 f2I
  obtain ⟨j7D, j7E, a9I, b8d, h⟩ := h
  obtain ⟨j6B, j6C, j7F, b8d⟩ := b8d
  refine a7 (A0 j7F _ _ _ _ j7D j7E) ?_
  refine f7 (ldA (vs := (b7 a9I)) Tryz.isAgg53 Tryz.sizeOf53 rfl (I.atH b8d)) ?_
  refine z7 I Tryz.zeroValue53 (cs := [(vi 0), (vi 0), (eS), (nS)]) rfl fun g4X f2l j7G k6d => ?_
  refine m6 j7G Tryz.sizeOf53 (vs := (b7 a9I)) (cs' := (b7 a9I)) rfl rfl (nb rfl) rfl rfl fun a5H b3o f2J => ?_
  refine f7 (ldA Tryz.isAgg53 Tryz.sizeOf53 rfl (b3o.at1 (o := 0) (vs := (b7 a9I)) (nb rfl) rfl)) ?_
  refine g9 (cap := []) (fun args w => Tryz.call67 args w) ?_
  refine l7 (Fi := []) (Fr := [bx g4X 53 (b7 a9I), bx g_7 173 [(vi P1.f0), (vi P1.f1)], bx g_2 53 (b7 x0)]) b3o (h) (fun k6e d5o k6f b3h g5A k6g k6h j7H => ?_) (fun _ _ _ _ _ q => q.elim)
  obtain ⟨b6m, d5n, rfl, rfl, h⟩ := j7H
  refine a7 (o2 _ _ (vi b6m) rfl) ?_
  refine a7 (o2 _ _ (vB d5n) rfl) ?_
  refine a7 (T4 _) ?_
  refine o0 (fun f2K => ?_) (fun f2K => ?_)
  ·replace h := h.1 f2K
   exact hR 0 false d5o _ g5A.drop.drop.drop h
  ·replace h := h.2 f2K
   obtain ⟨d9j, b9M, h⟩ := h
   refine a7 (a3G _ _ d9j b9M) ?_
   refine m6 (g5A.bring 1) Tryz.sizeOf2 (vs := [(vi b6m)]) (cs' := [(vi (if a5r = 0 then b6m else P1.f0)), (vi (if a5r = 1 then b6m else P1.f1))]) rfl rfl (by simp only [List.length_cons, List.length_nil]; omega) rfl (f8B d9j b9M) fun b7P j7I k6i => ?_
   refine a7 (y6 _ _ _ _ _ _) ?_
   exact hn3 _ _ _ (hm3 _ _ h).2 ⟨((IntKind.wrap .i64 (a5r + 1)), (a8w.mk (if a5r = 0 then b6m else P1.f0) (if a5r = 1 then b6m else P1.f1))), d5o, rfl, rfl, (((j7I.bring 1).drop.bring 1).bring 1), (hm3 _ _ h).1⟩
 ·replace h := h.2 f2I
  exact hx1 _ _ (hj1 P1 H _ ((I.bring 1).bring 1) h)
theorem b9N (x0 : a8) {H : Hp} {K : Int → Bool → Hp → Prop} (h : a4s x0 H K) : a7V x0 H K := by
 intro w I
 refine j2x ?_
 refine b9e x0 I (fun r0 r1 H' w' I' hk => ⟨H', _, I', r0, r1, rfl, rfl, hk⟩) h
def Z7 (r7 : a8) (m7 : a8) (H : Hp) (K : a8 → Hp → Prop) : Prop :=
 K r7 H
def a2u (c9u : Int) (S5 : a8) (e5n : a8) (H : Hp) (K : a8 → Hp → Prop) : Prop :=
 (0 : Int) ≤ 1 ∧ (1 : Int) < S5.i4.n ∧ ∃ c6P : a8, EltH H S5.i4 1 4 (b7 c6P) ∧
 a1C c6P c9u H (fun (e5o : Bool) (c3S : Hp) =>
 (e5o = true →
 (0 : Int) ≤ 0 ∧ (0 : Int) < S5.i4.n ∧ ∃ b1F : a8, EltH c3S S5.i4 0 4 (b7 b1F) ∧
 K b1F c3S) ∧
 (e5o = false →
 Z7 S5 e5n c3S K))
def Z8 (N9 : a8) (Q7 : a8) (H : Hp) (K : a8 → Hp → Prop) : Prop :=
 (0 : Int) ≤ 1 ∧ (1 : Int) < N9.i4.n ∧ ∃ d9k : a8, EltH H N9.i4 1 4 (b7 d9k) ∧
 a1C d9k 1 H (fun (e5p : Bool) (d0S : Hp) =>
 (e5p = true →
 (0 : Int) ≤ 0 ∧ (0 : Int) < N9.i4.n ∧ ∃ c3e : a8, EltH d0S N9.i4 0 4 (b7 c3e) ∧
 K c3e d0S) ∧
 (e5p = false →
 Z7 N9 Q7 d0S K))
def a7x (x0 : a8) (H : Hp) (K : a8 → Hp → Prop) : Prop :=
 B4 x0.i4 H (fun (o9 : Sl) (a1j : Hp) =>
 T3 (a8.mk x0.b6 x0.m8 x0.g7 o9) a1j (fun (a6P : Int) (d9l : Bool) (b0f : Hp) =>
 (d9l = true →
 a6M a6P b0f (fun (b3p : a8) (b2P : Hp) =>
 K b3p b2P)) ∧
 (d9l = false →
 a7V (a8.mk x0.b6 x0.m8 x0.g7 o9) b0f (fun (c7j : Int) (b9O : Bool) (b3P : Hp) =>
 (b9O = true →
 a6M c7j b3P (fun (b7X : a8) (c6B : Hp) =>
 K b7X c6B)) ∧
 (b9O = false →
 (x0.b6 = 6 →
 (0 : Int) ≤ 0 ∧ (0 : Int) < o9.n ∧ ∃ f2L : a8, EltH b3P o9 0 4 (b7 f2L) ∧
 a1C f2L 0 b3P (fun (b2m : Bool) (a9j : Hp) =>
 (b2m = true →
 (0 : Int) ≤ 1 ∧ (1 : Int) < o9.n ∧ ∃ c9E : a8, EltH a9j o9 1 4 (b7 c9E) ∧
 K c9E a9j) ∧
 (b2m = false →
 a2u 0 (a8.mk x0.b6 x0.m8 x0.g7 o9) (a8.mk 0 0 ⟨#[]⟩ (Sl.mk none 0 0)) a9j K))) ∧
 (¬ (x0.b6 = 6) →
 (x0.b6 = 7 →
 a2u 0 (a8.mk x0.b6 x0.m8 x0.g7 o9) (a8.mk 0 0 ⟨#[]⟩ (Sl.mk none 0 0)) b3P K) ∧
 (¬ (x0.b6 = 7) →
 (x0.b6 = 8 →
 (0 : Int) ≤ 0 ∧ (0 : Int) < o9.n ∧ ∃ b9u : a8, EltH b3P o9 0 4 (b7 b9u) ∧
 a1C b9u 1 b3P (fun (b8E : Bool) (b7Q : Hp) =>
 ∃ d9m : a8, (b8E = true → (0 : Int) ≤ 1 ∧ (1 : Int) < o9.n ∧ EltH b7Q o9 1 4 (b7 d9m)) ∧
 TG (b8E = true) (a1C d9m 1 b7Q) false b7Q (fun (b6n : Bool) (a7y : Hp) =>
 ((b8E && (!b6n)) = true →
 (0 : Int) ≤ 1 ∧ (1 : Int) < o9.n ∧ ∃ b6o : a8, EltH a7y o9 1 4 (b7 b6o) ∧
 K b6o a7y) ∧
 ((b8E && (!b6n)) = false →
 Z8 (a8.mk x0.b6 x0.m8 x0.g7 o9) (a8.mk 0 0 ⟨#[]⟩ (Sl.mk none 0 0)) a7y K)))) ∧
 (¬ (x0.b6 = 8) →
 (x0.b6 = 9 →
 Z8 (a8.mk x0.b6 x0.m8 x0.g7 o9) (a8.mk 0 0 ⟨#[]⟩ (Sl.mk none 0 0)) b3P K) ∧
 (¬ (x0.b6 = 9) →
 Z7 (a8.mk x0.b6 x0.m8 x0.g7 o9) (a8.mk 0 0 ⟨#[]⟩ (Sl.mk none 0 0)) b3P K)))))))))
theorem c3X (x0 : a8) {K : a8 → Hp → Prop} (I : Inv w0 ps0 H0 H [] w) (hR : ∀ (r0 : a8) (H' : Hp) (w' : World) (_ : Inv w0 ps0 H0 H' [] w') (_ : K r0 H'), R (Value.agg (b7 r0).toArray) w') (h : a7x x0 H K) : F40 (Value.agg (b7 x0).toArray) w R E := by
 unfold a7x at h
 unfold F40
 refine J5 I (cs := (b7 x0)) rfl fun g_2 w_3 I_4 k_5 => ?_
 refine z7 I_4 Tryz.zeroValue53 (cs := [(vi 0), (vi 0), (eS), (nS)]) rfl fun g_7 w_8 I_9 b0M => ?_
 refine a7 v8 ?_
 refine f7 (ld1 Tryz.isAgg51 ((I_9.bring 1).at1 (o := 3) (vs := [(vs x0.i4)]) (nb rfl) rfl)) ?_
 refine g9 (cap := []) (fun args w => Tryz.call66 args w) ?_
 refine l7 (Fi := []) (Fr := [bx g_7 53 [(vi 0), (vi 0), (eS), (nS)], bx g_2 53 (b7 x0)]) I_9 (h) (fun d2A a1j d2B q8 a8L c6v d2C b4H => ?_) (fun _ _ _ _ _ q => q.elim)
 obtain ⟨o9, rfl, rfl, h⟩ := b4H
 refine a7 v8 ?_
 refine m6 (a8L.bring 1) Tryz.sizeOf51 (vs := [(vs o9)]) (cs' := [(vi x0.b6), (vi x0.m8), (Value.string x0.g7), (vs o9)]) rfl rfl (nb rfl) rfl rfl fun r9 a0h b4p => ?_
 refine f7 (ldA Tryz.isAgg53 Tryz.sizeOf53 rfl (a0h.at1 (o := 0) (vs := [(vi x0.b6), (vi x0.m8), (Value.string x0.g7), (vs o9)]) (nb rfl) rfl)) ?_
 refine g9 (cap := []) (fun args w => Tryz.call67 args w) ?_
 refine l7 (Fi := []) (Fr := [bx g_2 53 [(vi x0.b6), (vi x0.m8), (Value.string x0.g7), (vs o9)], bx g_7 53 [(vi 0), (vi 0), (eS), (nS)]]) a0h (h) (fun f9O b0f e1T u4 a8K f9P d2h d2x => ?_) (fun _ _ _ _ _ q => q.elim)
 obtain ⟨a6P, d9l, rfl, rfl, h⟩ := d2x
 refine a7 (o2 _ _ (vi a6P) rfl) ?_
 refine a7 (o2 _ _ (vB d9l) rfl) ?_
 refine o0 (fun f2M => ?_) (fun f2M => ?_)
 ·replace h := h.1 f2M
  refine g9 (cap := []) (fun args w => Tryz.call68 args w) ?_
  refine l7 (Fi := []) (Fr := [bx g_2 53 [(vi x0.b6), (vi x0.m8), (Value.string x0.g7), (vs o9)], bx g_7 53 [(vi 0), (vi 0), (eS), (nS)]]) a8K (h) (fun k3P b2P k3Q b6T d2k k3R k3S g3T => ?_) (fun _ _ _ _ _ q => q.elim)
  obtain ⟨b3p, rfl, rfl, h⟩ := g3T
  refine m6 (d2k.bring 1) Tryz.sizeOf53 (vs := (b7 b3p)) (cs' := (b7 b3p)) rfl rfl (nb rfl) rfl rfl fun b8K c9F g3U => ?_
  refine B0 Tryz.isAgg53 Tryz.sizeOf53 rfl (c9F.at1 (o := 0) (vs := (b7 b3p)) (nb rfl) rfl) ?_
  exact hR b3p b2P _ c9F.drop.drop h
 ·replace h := h.2 f2M
  refine f7 (ldA Tryz.isAgg53 Tryz.sizeOf53 rfl (a8K.at1 (o := 0) (vs := [(vi x0.b6), (vi x0.m8), (Value.string x0.g7), (vs o9)]) (nb rfl) rfl)) ?_
  refine g9 (cap := []) (fun args w => Tryz.call69 args w) ?_
  refine l7 (Fi := []) (Fr := [bx g_2 53 [(vi x0.b6), (vi x0.m8), (Value.string x0.g7), (vs o9)], bx g_7 53 [(vi 0), (vi 0), (eS), (nS)]]) a8K (h) (fun k3T b3P k3U c0t b4V a1D k3V g3V => ?_) (fun _ _ _ _ _ q => q.elim)
  obtain ⟨c7j, b9O, rfl, rfl, h⟩ := g3V
  refine a7 (o2 _ _ (vi c7j) rfl) ?_
  refine a7 (o2 _ _ (vB b9O) rfl) ?_
  refine o0 (fun f2N => ?_) (fun f2N => ?_)
  ·replace h := h.1 f2N
   refine g9 (cap := []) (fun args w => Tryz.call68 args w) ?_
   refine l7 (Fi := []) (Fr := [bx g_2 53 [(vi x0.b6), (vi x0.m8), (Value.string x0.g7), (vs o9)], bx g_7 53 [(vi 0), (vi 0), (eS), (nS)]]) b4V (h) (fun k2K c6B k2L K5 c3O k2M g0w g0x => ?_) (fun _ _ _ _ _ q => q.elim)
   obtain ⟨b7X, rfl, rfl, h⟩ := g0x
   refine m6 (c3O.bring 1) Tryz.sizeOf53 (vs := (b7 b7X)) (cs' := (b7 b7X)) rfl rfl (nb rfl) rfl rfl fun R5 c8W d7f => ?_
   refine B0 Tryz.isAgg53 Tryz.sizeOf53 rfl (c8W.at1 (o := 0) (vs := (b7 b7X)) (nb rfl) rfl) ?_
   exact hR b7X c6B _ c8W.drop.drop h
  ·replace h := h.2 f2N
   have hj1 : ∀ (H : Hp) (w : World) (_ : Inv w0 ps0 H0 H [bx g_2 53 [(vi (a8.mk x0.b6 x0.m8 x0.g7 o9).b6), (vi (a8.mk x0.b6 x0.m8 x0.g7 o9).m8), (Value.string (a8.mk x0.b6 x0.m8 x0.g7 o9).g7), (Value.slice (a8.mk x0.b6 x0.m8 x0.g7 o9).i4.a (a8.mk x0.b6 x0.m8 x0.g7 o9).i4.n (a8.mk x0.b6 x0.m8 x0.g7 o9).i4.c)], bx g_7 53 [(vi (a8.mk 0 0 ⟨#[]⟩ (Sl.mk none 0 0)).b6), (vi (a8.mk 0 0 ⟨#[]⟩ (Sl.mk none 0 0)).m8), (Value.string (a8.mk 0 0 ⟨#[]⟩ (Sl.mk none 0 0)).g7), (Value.slice (a8.mk 0 0 ⟨#[]⟩ (Sl.mk none 0 0)).i4.a (a8.mk 0 0 ⟨#[]⟩ (Sl.mk none 0 0)).i4.n (a8.mk 0 0 ⟨#[]⟩ (Sl.mk none 0 0)).i4.c)]] w) (_ : Z7 (a8.mk x0.b6 x0.m8 x0.g7 o9) (a8.mk 0 0 ⟨#[]⟩ (Sl.mk none 0 0)) H K), e4K (Value.pointer (some ⟨g_2, 0, none⟩)) (Value.pointer (some ⟨g_7, 0, none⟩)) w R E := by
    intro H w I h
    unfold e4K
    intro _
    unfold Z7 at h
    refine f7 (ldA Tryz.isAgg53 Tryz.sizeOf53 rfl (I.at1 (o := 0) (vs := [(vi (a8.mk x0.b6 x0.m8 x0.g7 o9).b6), (vi (a8.mk x0.b6 x0.m8 x0.g7 o9).m8), (Value.string (a8.mk x0.b6 x0.m8 x0.g7 o9).g7), (Value.slice (a8.mk x0.b6 x0.m8 x0.g7 o9).i4.a (a8.mk x0.b6 x0.m8 x0.g7 o9).i4.n (a8.mk x0.b6 x0.m8 x0.g7 o9).i4.c)]) (nb rfl) rfl)) ?_
    refine m6 (I.bring 1) Tryz.sizeOf53 (vs := [(vi (a8.mk x0.b6 x0.m8 x0.g7 o9).b6), (vi (a8.mk x0.b6 x0.m8 x0.g7 o9).m8), (Value.string (a8.mk x0.b6 x0.m8 x0.g7 o9).g7), (Value.slice (a8.mk x0.b6 x0.m8 x0.g7 o9).i4.a (a8.mk x0.b6 x0.m8 x0.g7 o9).i4.n (a8.mk x0.b6 x0.m8 x0.g7 o9).i4.c)]) (cs' := [(vi (a8.mk x0.b6 x0.m8 x0.g7 o9).b6), (vi (a8.mk x0.b6 x0.m8 x0.g7 o9).m8), (Value.string (a8.mk x0.b6 x0.m8 x0.g7 o9).g7), (Value.slice (a8.mk x0.b6 x0.m8 x0.g7 o9).i4.a (a8.mk x0.b6 x0.m8 x0.g7 o9).i4.n (a8.mk x0.b6 x0.m8 x0.g7 o9).i4.c)]) rfl rfl (nb rfl) rfl rfl fun b5x g5B k6j => ?_
    refine B0 Tryz.isAgg53 Tryz.sizeOf53 rfl (g5B.at1 (o := 0) (vs := [(vi (a8.mk x0.b6 x0.m8 x0.g7 o9).b6), (vi (a8.mk x0.b6 x0.m8 x0.g7 o9).m8), (Value.string (a8.mk x0.b6 x0.m8 x0.g7 o9).g7), (Value.slice (a8.mk x0.b6 x0.m8 x0.g7 o9).i4.a (a8.mk x0.b6 x0.m8 x0.g7 o9).i4.n (a8.mk x0.b6 x0.m8 x0.g7 o9).i4.c)]) (nb rfl) rfl) ?_
    exact hR (a8.mk x0.b6 x0.m8 x0.g7 o9) H _ g5B.drop.drop h
   refine t6 fun j1 hx1 => ?_
   refine a7 F7 ?_
   refine f7 (ld1 Tryz.isAgg3 (b4V.at1 (o := 0) (vs := [(vi x0.b6)]) (nb rfl) rfl)) ?_
   have hj2 : ∀ (H : Hp) (w : World) (_ : Inv w0 ps0 H0 H [bx g_2 53 [(vi (a8.mk x0.b6 x0.m8 x0.g7 o9).b6), (vi (a8.mk x0.b6 x0.m8 x0.g7 o9).m8), (Value.string (a8.mk x0.b6 x0.m8 x0.g7 o9).g7), (Value.slice (a8.mk x0.b6 x0.m8 x0.g7 o9).i4.a (a8.mk x0.b6 x0.m8 x0.g7 o9).i4.n (a8.mk x0.b6 x0.m8 x0.g7 o9).i4.c)], bx g_7 53 [(vi (a8.mk 0 0 ⟨#[]⟩ (Sl.mk none 0 0)).b6), (vi (a8.mk 0 0 ⟨#[]⟩ (Sl.mk none 0 0)).m8), (Value.string (a8.mk 0 0 ⟨#[]⟩ (Sl.mk none 0 0)).g7), (Value.slice (a8.mk 0 0 ⟨#[]⟩ (Sl.mk none 0 0)).i4.a (a8.mk 0 0 ⟨#[]⟩ (Sl.mk none 0 0)).i4.n (a8.mk 0 0 ⟨#[]⟩ (Sl.mk none 0 0)).i4.c)]] w) (_ : Z8 (a8.mk x0.b6 x0.m8 x0.g7 o9) (a8.mk 0 0 ⟨#[]⟩ (Sl.mk none 0 0)) H K), e4L (Value.pointer (some ⟨g_2, 0, none⟩)) (Value.pointer (some ⟨g_7, 0, none⟩)) w j1 R E := by
    intro H w I h
    unfold e4L
    intro _
    unfold Z8 at h
    refine a7 v8 ?_
    refine f7 (ld1 Tryz.isAgg51 (I.at1 (o := 3) (vs := [(Value.slice (a8.mk x0.b6 x0.m8 x0.g7 o9).i4.a (a8.mk x0.b6 x0.m8 x0.g7 o9).i4.n (a8.mk x0.b6 x0.m8 x0.g7 o9).i4.c)]) (nb rfl) rfl)) ?_
    obtain ⟨j7J, b8g, d9k, d5r, h⟩ := h
    obtain ⟨k6k, k6l, j7K, d5r⟩ := d5r
    refine a7 (A0 j7K _ _ _ _ j7J b8g) ?_
    refine f7 (ldA (vs := (b7 d9k)) Tryz.isAgg53 Tryz.sizeOf53 rfl (I.atH d5r)) ?_
    refine g9 (cap := []) (fun args w => Tryz.call70 args w) ?_
    refine l7 (Fi := []) (Fr := [bx g_2 53 [(vi (a8.mk x0.b6 x0.m8 x0.g7 o9).b6), (vi (a8.mk x0.b6 x0.m8 x0.g7 o9).m8), (Value.string (a8.mk x0.b6 x0.m8 x0.g7 o9).g7), (Value.slice (a8.mk x0.b6 x0.m8 x0.g7 o9).i4.a (a8.mk x0.b6 x0.m8 x0.g7 o9).i4.n (a8.mk x0.b6 x0.m8 x0.g7 o9).i4.c)], bx g_7 53 [(vi (a8.mk 0 0 ⟨#[]⟩ (Sl.mk none 0 0)).b6), (vi (a8.mk 0 0 ⟨#[]⟩ (Sl.mk none 0 0)).m8), (Value.string (a8.mk 0 0 ⟨#[]⟩ (Sl.mk none 0 0)).g7), (Value.slice (a8.mk 0 0 ⟨#[]⟩ (Sl.mk none 0 0)).i4.a (a8.mk 0 0 ⟨#[]⟩ (Sl.mk none 0 0)).i4.n (a8.mk 0 0 ⟨#[]⟩ (Sl.mk none 0 0)).i4.c)]]) I (h) (fun k6m d0S k6n d4s c7k k6o j7L j7M => ?_) (fun _ _ _ _ _ q => q.elim)
    obtain ⟨e5p, rfl, rfl, h⟩ := j7M
    refine o0 (fun f2O => ?_) (fun f2O => ?_)
    ·replace h := h.1 f2O
     refine a7 v8 ?_
     refine f7 (ld1 Tryz.isAgg51 (c7k.at1 (o := 3) (vs := [(Value.slice (a8.mk x0.b6 x0.m8 x0.g7 o9).i4.a (a8.mk x0.b6 x0.m8 x0.g7 o9).i4.n (a8.mk x0.b6 x0.m8 x0.g7 o9).i4.c)]) (nb rfl) rfl)) ?_
     obtain ⟨d5s, c7l, c3e, c7m, h⟩ := h
     obtain ⟨k6p, k6q, d9n, c7m⟩ := c7m
     refine a7 (A0 d9n _ _ _ _ d5s c7l) ?_
     refine f7 (ldA (vs := (b7 c3e)) Tryz.isAgg53 Tryz.sizeOf53 rfl (c7k.atH c7m)) ?_
     refine m6 (c7k.bring 1) Tryz.sizeOf53 (vs := (b7 c3e)) (cs' := (b7 c3e)) rfl rfl (nb rfl) rfl rfl fun k6r g5C k6s => ?_
     refine B0 Tryz.isAgg53 Tryz.sizeOf53 rfl (g5C.at1 (o := 0) (vs := (b7 c3e)) (nb rfl) rfl) ?_
     exact hR c3e d0S _ g5C.drop.drop h
    ·replace h := h.2 f2O
     exact hx1 _ _ (hj1 d0S _ ((c7k.bring 1).bring 1) h)
   refine t6 fun j2 hx2 => ?_
   have hj3 : ∀ (H : Hp) (w : World) (_ : Inv w0 ps0 H0 H [bx g_2 53 [(vi (a8.mk x0.b6 x0.m8 x0.g7 o9).b6), (vi (a8.mk x0.b6 x0.m8 x0.g7 o9).m8), (Value.string (a8.mk x0.b6 x0.m8 x0.g7 o9).g7), (Value.slice (a8.mk x0.b6 x0.m8 x0.g7 o9).i4.a (a8.mk x0.b6 x0.m8 x0.g7 o9).i4.n (a8.mk x0.b6 x0.m8 x0.g7 o9).i4.c)], bx g_7 53 [(vi (a8.mk 0 0 ⟨#[]⟩ (Sl.mk none 0 0)).b6), (vi (a8.mk 0 0 ⟨#[]⟩ (Sl.mk none 0 0)).m8), (Value.string (a8.mk 0 0 ⟨#[]⟩ (Sl.mk none 0 0)).g7), (Value.slice (a8.mk 0 0 ⟨#[]⟩ (Sl.mk none 0 0)).i4.a (a8.mk 0 0 ⟨#[]⟩ (Sl.mk none 0 0)).i4.n (a8.mk 0 0 ⟨#[]⟩ (Sl.mk none 0 0)).i4.c)]] w) (_ : a2u 0 (a8.mk x0.b6 x0.m8 x0.g7 o9) (a8.mk 0 0 ⟨#[]⟩ (Sl.mk none 0 0)) H K), e4M (Value.pointer (some ⟨g_2, 0, none⟩)) (Value.pointer (some ⟨g_7, 0, none⟩)) (vi 0) w j1 R E := by
    intro H w I h
    unfold e4M
    intro _
    unfold a2u at h
    refine a7 v8 ?_
    refine f7 (ld1 Tryz.isAgg51 (I.at1 (o := 3) (vs := [(Value.slice (a8.mk x0.b6 x0.m8 x0.g7 o9).i4.a (a8.mk x0.b6 x0.m8 x0.g7 o9).i4.n (a8.mk x0.b6 x0.m8 x0.g7 o9).i4.c)]) (nb rfl) rfl)) ?_
    obtain ⟨b8U, d7e, c6P, c6R, h⟩ := h
    obtain ⟨k3o, k3p, d2s, c6R⟩ := c6R
    refine a7 (A0 d2s _ _ _ _ b8U d7e) ?_
    refine f7 (ldA (vs := (b7 c6P)) Tryz.isAgg53 Tryz.sizeOf53 rfl (I.atH c6R)) ?_
    refine g9 (cap := []) (fun args w => Tryz.call70 args w) ?_
    refine l7 (Fi := []) (Fr := [bx g_2 53 [(vi (a8.mk x0.b6 x0.m8 x0.g7 o9).b6), (vi (a8.mk x0.b6 x0.m8 x0.g7 o9).m8), (Value.string (a8.mk x0.b6 x0.m8 x0.g7 o9).g7), (Value.slice (a8.mk x0.b6 x0.m8 x0.g7 o9).i4.a (a8.mk x0.b6 x0.m8 x0.g7 o9).i4.n (a8.mk x0.b6 x0.m8 x0.g7 o9).i4.c)], bx g_7 53 [(vi (a8.mk 0 0 ⟨#[]⟩ (Sl.mk none 0 0)).b6), (vi (a8.mk 0 0 ⟨#[]⟩ (Sl.mk none 0 0)).m8), (Value.string (a8.mk 0 0 ⟨#[]⟩ (Sl.mk none 0 0)).g7), (Value.slice (a8.mk 0 0 ⟨#[]⟩ (Sl.mk none 0 0)).i4.a (a8.mk 0 0 ⟨#[]⟩ (Sl.mk none 0 0)).i4.n (a8.mk 0 0 ⟨#[]⟩ (Sl.mk none 0 0)).i4.c)]]) I (h) (fun j5T c3S j5U c9y d0H f0t j5V f0V => ?_) (fun _ _ _ _ _ q => q.elim)
    obtain ⟨e5o, rfl, rfl, h⟩ := f0V
    refine o0 (fun c7i => ?_) (fun c7i => ?_)
    ·replace h := h.1 c7i
     refine a7 v8 ?_
     refine f7 (ld1 Tryz.isAgg51 (d0H.at1 (o := 3) (vs := [(Value.slice (a8.mk x0.b6 x0.m8 x0.g7 o9).i4.a (a8.mk x0.b6 x0.m8 x0.g7 o9).i4.n (a8.mk x0.b6 x0.m8 x0.g7 o9).i4.c)]) (nb rfl) rfl)) ?_
     obtain ⟨j7N, g5D, b1F, b8h, h⟩ := h
     obtain ⟨j7O, j7P, j7Q, b8h⟩ := b8h
     refine a7 (A0 j7Q _ _ _ _ j7N g5D) ?_
     refine f7 (ldA (vs := (b7 b1F)) Tryz.isAgg53 Tryz.sizeOf53 rfl (d0H.atH b8h)) ?_
     refine m6 (d0H.bring 1) Tryz.sizeOf53 (vs := (b7 b1F)) (cs' := (b7 b1F)) rfl rfl (nb rfl) rfl rfl fun a8Q g5E k6t => ?_
     refine B0 Tryz.isAgg53 Tryz.sizeOf53 rfl (g5E.at1 (o := 0) (vs := (b7 b1F)) (nb rfl) rfl) ?_
     exact hR b1F c3S _ g5E.drop.drop h
    ·replace h := h.2 c7i
     exact hx1 _ _ (hj1 c3S _ ((d0H.bring 1).bring 1) h)
   refine t6 fun j3 hx3 => ?_
   refine a7 (i8 _ _ _ _ _ _) ?_
   refine k7 (fun f2P => ?_) (fun f2P => ?_)
   ·replace h := h.1 f2P
    refine a7 v8 ?_
    refine f7 (ld1 Tryz.isAgg51 (b4V.at1 (o := 3) (vs := [(vs o9)]) (nb rfl) rfl)) ?_
    obtain ⟨f2D, k3W, f2L, g3W, h⟩ := h
    obtain ⟨l1I, l1J, k3X, g3W⟩ := g3W
    refine a7 (A0 k3X _ _ _ _ f2D k3W) ?_
    refine f7 (ldA (vs := (b7 f2L)) Tryz.isAgg53 Tryz.sizeOf53 rfl (b4V.atH g3W)) ?_
    refine g9 (cap := []) (fun args w => Tryz.call70 args w) ?_
    refine l7 (Fi := []) (Fr := [bx g_2 53 [(vi x0.b6), (vi x0.m8), (Value.string x0.g7), (vs o9)], bx g_7 53 [(vi 0), (vi 0), (eS), (nS)]]) b4V (h) (fun e9k a9j k1E e2e c6b b3G f9D f9E => ?_) (fun _ _ _ _ _ q => q.elim)
    obtain ⟨b2m, rfl, rfl, h⟩ := f9E
    refine o0 (fun b5O => ?_) (fun b5O => ?_)
    ·replace h := h.1 b5O
     refine a7 v8 ?_
     refine f7 (ld1 Tryz.isAgg51 (c6b.at1 (o := 3) (vs := [(vs o9)]) (nb rfl) rfl)) ?_
     obtain ⟨f9k, e1O, c9E, c6L, h⟩ := h
     obtain ⟨l1K, l1L, e5q, c6L⟩ := c6L
     refine a7 (A0 e5q _ _ _ _ f9k e1O) ?_
     refine f7 (ldA (vs := (b7 c9E)) Tryz.isAgg53 Tryz.sizeOf53 rfl (c6b.atH c6L)) ?_
     refine m6 (c6b.bring 1) Tryz.sizeOf53 (vs := (b7 c9E)) (cs' := (b7 c9E)) rfl rfl (nb rfl) rfl rfl fun Z4 j3e l1M => ?_
     refine B0 Tryz.isAgg53 Tryz.sizeOf53 rfl (j3e.at1 (o := 0) (vs := (b7 c9E)) (nb rfl) rfl) ?_
     exact hR c9E a9j _ j3e.drop.drop h
    ·replace h := h.2 b5O
     exact hx3 _ _ (hj3 a9j _ ((c6b.bring 1).bring 1) h)
   ·replace h := h.2 f2P
    refine a7 (i8 _ _ _ _ _ _) ?_
    refine k7 (fun f2Q => ?_) (fun f2Q => ?_)
    ·replace h := h.1 f2Q
     exact hx3 _ _ (hj3 b3P _ ((b4V.bring 1).bring 1) h)
    ·replace h := h.2 f2Q
     refine a7 (i8 _ _ _ _ _ _) ?_
     refine k7 (fun f2R => ?_) (fun f2R => ?_)
     ·replace h := h.1 f2R
      refine a7 v8 ?_
      refine f7 (ld1 Tryz.isAgg51 (b4V.at1 (o := 3) (vs := [(vs o9)]) (nb rfl) rfl)) ?_
      obtain ⟨e9y, e9z, b9u, b9v, h⟩ := h
      obtain ⟨j4T, j4U, e9A, b9v⟩ := b9v
      refine a7 (A0 e9A _ _ _ _ e9y e9z) ?_
      refine f7 (ldA (vs := (b7 b9u)) Tryz.isAgg53 Tryz.sizeOf53 rfl (b4V.atH b9v)) ?_
      refine g9 (cap := []) (fun args w => Tryz.call70 args w) ?_
      refine l7 (Fi := []) (Fr := [bx g_2 53 [(vi x0.b6), (vi x0.m8), (Value.string x0.g7), (vs o9)], bx g_7 53 [(vi 0), (vi 0), (eS), (nS)]]) b4V (h) (fun j4V b7Q j4W a4Q d0f j4X j4Y e9B => ?_) (fun _ _ _ _ _ q => q.elim)
      obtain ⟨b8E, rfl, rfl, h⟩ := e9B
      refine a7 (Pu.g fun hb => by have b9 := hb; exact v8) ?_
      refine f7 (Ld.g fun hb => by have b9 := hb; simp only [i7 b9]; exact (ld1 Tryz.isAgg51 (d0f.at1 (o := 3) (vs := [(vs o9)]) (nb rfl) rfl))) ?_
      obtain ⟨d9m, d0T, h⟩ := h
      obtain ⟨k6u, k6v, d0T⟩ := b3a d0T
      refine a7 (Pu.g fun hb => by have b9 := hb; simp only [i7 b9]; exact (A0 (d0T hb).2.2.1 _ _ _ _ (d0T hb).1 (d0T hb).2.1)) ?_
      refine f7 (Ld.g fun hb => by have b9 := hb; simp only [i7 b9]; exact (ldA (vs := (b7 d9m)) Tryz.isAgg53 Tryz.sizeOf53 rfl (d0f.atH (d0T hb).2.2.2))) ?_
      refine X8 (D := fun f2S a5G => ∃ (b6n : Bool) (a7y : Hp) , f2S = (gv b8E true (vB b6n)) ∧ (Inv w0 ps0 H0 a7y [bx g_2 53 [(vi x0.b6), (vi x0.m8), (Value.string x0.g7), (vs o9)], bx g_7 53 [(vi 0), (vi 0), (eS), (nS)]] a5G) ∧ (∀ i, i < a4Q.heap.size → ¬ inF [] i → a5G.heap[i]? = a4Q.heap[i]?) ∧ Hle b7Q a7y ∧ (((b8E && (!b6n)) = true →
 (0 : Int) ≤ 1 ∧ (1 : Int) < o9.n ∧ ∃ b6o : a8, EltH a7y o9 1 4 (b7 b6o) ∧
 K b6o a7y) ∧
 ((b8E && (!b6n)) = false →
 Z8 (a8.mk x0.b6 x0.m8 x0.g7 o9) (a8.mk 0 0 ⟨#[]⟩ (Sl.mk none 0 0)) a7y K))) (fun d5t => ?_) (fun d5t => ?_) ?_
      ·replace h := h.1 d5t
       have b9 := d5t
       simp only [i7 b9]
       refine g9 (cap := []) (fun args w => Tryz.call70 args w) ?_
       refine l7 (Fi := []) (Fr := [bx g_2 53 [(vi x0.b6), (vi x0.m8), (Value.string x0.g7), (vs o9)], bx g_7 53 [(vi 0), (vi 0), (eS), (nS)]]) d0f (h) (fun f2S a7y k6w a5G b8e d9o f1t j7R => ?_) (fun _ _ _ _ _ q => q.elim)
       obtain ⟨b6n, rfl, rfl, h⟩ := j7R
       exact ⟨b6n, a7y, by rfl, b8e, f1t, d9o, h⟩
      ·exact ⟨false, b7Q, by rw [a4L d5t], d0f, fun _ _ _ => rfl, Hle.refl _, h.2 d5t⟩
      ·clear h
       rintro f2S a5G ⟨b6n, a7y, rfl, b8e, f1t, d9o, h⟩
       refine a7 (Pu.g fun hb => by have b9 := hb; simp only [i7 b9]; exact (T4 _)) ?_
       refine a7 (s7 _ _) ?_
       refine o0 (fun f2T => ?_) (fun f2T => ?_)
       ·replace h := h.1 f2T
        refine a7 v8 ?_
        refine f7 (ld1 Tryz.isAgg51 (b8e.at1 (o := 3) (vs := [(vs o9)]) (nb rfl) rfl)) ?_
        obtain ⟨b9M, b4j, b6o, c2T, h⟩ := h
        obtain ⟨k6x, k6y, b7R, c2T⟩ := c2T
        refine a7 (A0 b7R _ _ _ _ b9M b4j) ?_
        refine f7 (ldA (vs := (b7 b6o)) Tryz.isAgg53 Tryz.sizeOf53 rfl (b8e.atH c2T)) ?_
        refine m6 (b8e.bring 1) Tryz.sizeOf53 (vs := (b7 b6o)) (cs' := (b7 b6o)) rfl rfl (nb rfl) rfl rfl fun b5y g5F k6z => ?_
        refine B0 Tryz.isAgg53 Tryz.sizeOf53 rfl (g5F.at1 (o := 0) (vs := (b7 b6o)) (nb rfl) rfl) ?_
        exact hR b6o a7y _ g5F.drop.drop h
       ·replace h := h.2 f2T
        exact hx2 _ _ (hj2 a7y _ ((b8e.bring 1).bring 1) h)
     ·replace h := h.2 f2R
      refine a7 (i8 _ _ _ _ _ _) ?_
      refine k7 (fun f2U => ?_) (fun f2U => ?_)
      ·replace h := h.1 f2U
       exact hx2 _ _ (hj2 b3P _ ((b4V.bring 1).bring 1) h)
      ·replace h := h.2 f2U
       exact hx1 _ _ (hj1 b3P _ ((b4V.bring 1).bring 1) h)
theorem c5c (x0 : a8) {H : Hp} {K : a8 → Hp → Prop} (h : a7x x0 H K) : a7s x0 H K := by
 intro w I
 refine i9W ?_
 refine c3X x0 I (fun r0 H' w' I' hk => ⟨H', _, I', r0, rfl, rfl, hk⟩) h
def a7z (x0 : a8) (H : Hp) (K : a8 → Int → Hp → Prop) : Prop :=
 b2C x0 H (fun (o9 : Int) (a1j : Hp) =>
 (¬ (o9 = 0) →
 K (a8.mk 0 0 ⟨#[]⟩ (Sl.mk none 0 0)) o9 a1j) ∧
 (o9 = 0 →
 a7s x0 a1j (fun (a6P : a8) (b0f : Hp) =>
 K a6P 0 b0f)))
theorem c3Y (x0 : a8) {K : a8 → Int → Hp → Prop} (I : Inv w0 ps0 H0 H [] w) (hR : ∀ (r0 : a8) (r1 : Int) (H' : Hp) (w' : World) (_ : Inv w0 ps0 H0 H' [] w') (_ : K r0 r1 H'), R (Value.tuple #[(Value.agg (b7 r0).toArray), (vi r1)]) w') (h : a7z x0 H K) : F21 (Value.agg (b7 x0).toArray) w R E := by
 unfold a7z at h
 unfold F21
 refine J5 I (cs := (b7 x0)) rfl fun g_2 w_3 I_4 k_5 => ?_
 refine z7 I_4 Tryz.zeroValue53 (cs := [(vi 0), (vi 0), (eS), (nS)]) rfl fun g_7 w_8 I_9 b0M => ?_
 refine f7 (ldA Tryz.isAgg53 Tryz.sizeOf53 rfl ((I_9.bring 1).at1 (o := 0) (vs := (b7 x0)) (nb rfl) rfl)) ?_
 refine g9 (cap := []) (fun args w => Tryz.call39 args w) ?_
 refine l7 (Fi := []) (Fr := [bx g_7 53 [(vi 0), (vi 0), (eS), (nS)], bx g_2 53 (b7 x0)]) I_9 (h) (fun d2A a1j d2B q8 a8L c6v d2C b4H => ?_) (fun _ _ _ _ _ q => q.elim)
 obtain ⟨o9, rfl, rfl, h⟩ := b4H
 refine a7 (M7 _ _ _ _ _ _) ?_
 refine a4f (fun d3o => ?_) (fun d3o => ?_)
 ·replace h := h.1 d3o
  refine a7 (f5u ) ?_
  refine m6 a8L Tryz.sizeOf53 (vs := [(vi 0), (vi 0), (eS), (nS)]) (cs' := [(vi 0), (vi 0), (eS), (nS)]) rfl rfl (nb rfl) rfl rfl fun r9 a0h b4p => ?_
  refine B0 Tryz.isAgg53 Tryz.sizeOf53 rfl (a0h.at1 (o := 0) (vs := [(vi 0), (vi 0), (eS), (nS)]) (nb rfl) rfl) ?_
  exact hR (a8.mk 0 0 ⟨#[]⟩ (Sl.mk none 0 0)) o9 a1j _ a0h.drop.drop h
 ·replace h := h.2 d3o
  refine f7 (ldA Tryz.isAgg53 Tryz.sizeOf53 rfl ((a8L.bring 1).at1 (o := 0) (vs := (b7 x0)) (nb rfl) rfl)) ?_
  refine g9 (cap := []) (fun args w => Tryz.call40 args w) ?_
  refine l7 (Fi := []) (Fr := [bx g_7 53 [(vi 0), (vi 0), (eS), (nS)], bx g_2 53 (b7 x0)]) a8L (h) (fun f9O b0f e1T u4 a8K f9P d2h d2x => ?_) (fun _ _ _ _ _ q => q.elim)
  obtain ⟨a6P, rfl, rfl, h⟩ := d2x
  refine m6 a8K Tryz.sizeOf53 (vs := (b7 a6P)) (cs' := (b7 a6P)) rfl rfl (nb rfl) rfl rfl fun B6 a4B c6o => ?_
  refine B0 Tryz.isAgg53 Tryz.sizeOf53 rfl (a4B.at1 (o := 0) (vs := (b7 a6P)) (nb rfl) rfl) ?_
  exact hR a6P 0 b0f _ a4B.drop.drop h
theorem c5d (x0 : a8) {H : Hp} {K : a8 → Int → Hp → Prop} (h : a7z x0 H K) : b0E x0 H K := by
 intro w I
 refine i9e ?_
 refine c3Y x0 I (fun r0 r1 H' w' I' hk => ⟨H', _, I', r0, r1, rfl, rfl, hk⟩) h
def D4 (J6 : (List b8)) (H : Hp) (K : Sl → Hp → Prop) : Prop :=
 ∀ (w6 : Sl) (J9 : Hp), Hle H J9 → SlH J9 4 d6 w6 J6 → w6.n ≤ w6.c →
 K w6 J9
def D5 (O0 : Sl) (a5d : Int) (p9 : (List b8)) (p1 : Int) (H : Hp) (n2 : ((List b8) × Int) → Hp → Prop) (K : Sl → Hp → Prop) : Prop :=
 (p1 < a5d →
 (0 : Int) ≤ p1 ∧ (p1 : Int) < O0.n ∧ ∃ x_1 : b8, EltH H O0 p1 4 (d6 x_1) ∧
 a7t x_1 H (fun (D7 : b8) (R6 : Hp) =>
 (p9.length + ([D7] : List b8).length) * 65 ≤ 140737488355328 ∧
 n2 ((p9 ++ [D7]), (IntKind.wrap .i64 (p1 + 1))) R6)) ∧
 (¬ (p1 < a5d) →
 D4 p9 H K)
def F6 (x0 : Sl) (H : Hp) (K : Sl → Hp → Prop) : Prop :=
 TL (([], 0) : (List b8) × Int) H fun (s : (List b8) × Int) H n2 => D5 x0 (x0.n : Int) s.1 s.2 H n2 K
theorem a4E (x0 : Sl) {K : Sl → Hp → Prop} (I : Inv w0 ps0 H0 H [] w) (hR : ∀ (r0 : Sl) (H' : Hp) (w' : World) (_ : Inv w0 ps0 H0 H' [] w') (_ : K r0 H'), R (vs r0) w') (h : F6 x0 H K) : F71 (vs x0) (fC 42) w R E := by
 unfold F6 at h
 unfold F71
 have hj1 : ∀ (J6 : (List b8)) (w6 : Sl) (Fs5j1 : Frag) (H : Hp) (w : World) (_ : RowL 59 4 d6 w6 J6 Fs5j1) (_ : Inv w0 ps0 H0 H [Fs5j1] w) (_ : D4 J6 H K), e5k (vs w6) w R E := by
  intro J6 w6 Fs5j1 H w a9B I h
  unfold e5k
  intro _
  unfold D4 at h
  obtain ⟨J9, a9Y, b0K, a7g, a6p⟩ := Inv.freezeC I a9B (by decide)
  replace h := h w6 J9 b0K a7g a6p
  exact hR w6 J9 _ a9Y h
 refine t6 fun j1 hx1 => ?_
 refine a7 (U9 _ _ _) ?_
 obtain ⟨a2t, Q6, b2J, b2K⟩ := h
 refine B5 (J := fun n l w => ∃ (s : (List b8) × Int) (H : Hp) (J7 : Sl) (Fs5l2 : Frag) , n = Q6 s ∧ l = (match s with | (p9, p1) => [(vs J7), (vi p1)]) ∧ (match s with | (p9, p1) => RowL 59 4 d6 J7 p9 Fs5l2) ∧ (match s with | (p9, p1) => Inv w0 ps0 H0 H [Fs5l2] w) ∧ a2t s H) ⟨_, ([], 0), H, (Sl.mk none 0 0), [], rfl, rfl, (RowL.nil a2F a2G), I.nil, b2J⟩ ?_
 rintro c8O τ_50 w next2 ⟨⟨p9, p1⟩, H, J7, Fs5l2, rfl, a1D, W7, I, b2L⟩ hn2
 dsimp only at a1D I W7
 simp only [List.map_cons, List.map_nil, List.cons.injEq, and_true] at a1D
 obtain ⟨e5, e10⟩ := a1D
 simp only [e5, e10]
 obtain ⟨n2, hm2, h⟩ : ∃ n2 : ((List b8) × Int) → Hp → Prop, (∀ s' H', n2 s' H' → a2t s' H' ∧ Q6 s' < Q6 (p9, p1)) ∧ D5 x0 (x0.n : Int) p9 p1 H n2 K := ⟨_, fun _ _ h => h, b2K (p9, p1) H (fun s' H' => a2t s' H' ∧ Q6 s' < Q6 (p9, p1)) b2L (fun _ _ a b => ⟨a, b⟩)⟩
 unfold f7X
 unfold D5 at h
 refine a7 (w9 _ _ _ _ _ _) ?_
 refine k7 (fun a0p => ?_) (fun a0p => ?_)
 ·replace h := h.1 a0p
  obtain ⟨h_4, h_5, x_1, h_7, h⟩ := h
  obtain ⟨g_2, o_3, h_6, h_7⟩ := h_7
  refine a7 (S7 h_6 _ _ _ _ h_4 h_5) ?_
  refine f7 (ldA (vs := (d6 x_1)) Tryz.isAgg59 Tryz.sizeOf59 rfl (I.atH h_7)) ?_
  refine z7 I Tryz.zeroValue59 (cs := [(vi 0), (vi 0), (nS), (nS)]) rfl fun g_9 p5 a3l b4q => ?_
  refine m6 a3l Tryz.sizeOf59 (vs := (d6 x_1)) (cs' := (d6 x_1)) rfl rfl (nb rfl) rfl rfl fun a2s L9 a4z => ?_
  refine f7 (ldA Tryz.isAgg59 Tryz.sizeOf59 rfl (L9.at1 (o := 0) (vs := (d6 x_1)) (nb rfl) rfl)) ?_
  refine g9 (cap := []) (fun args w => Tryz.call42 args w) ?_
  refine l7 (Fi := []) (Fr := [bx g_9 59 (d6 x_1), Fs5l2]) L9 (h) (fun c3E R6 c0F a1B a3y c3F c0G a9Z => ?_) (fun _ _ _ _ _ q => q.elim)
  obtain ⟨D7, rfl, rfl, h⟩ := a9Z
  refine a5A (e := 59) (c := d6) (xs := [D7]) a3y (c9U _ _ _ _ _ _ _ _) rfl rfl a2F a2G (nb rfl) fun b0a b3K B3 a7h T8 a9i => ?_
  obtain ⟨b0b, h⟩ := h
  refine d3C (s := J7) (xs := p9) (T8.bring 2) W7 (a7h.srcO ((T8.bring 2).bring 1)) b0b fun a8c b0L A6 b0c a5D b7a => ?_
  refine a7 (y6 _ _ _ _ _ _) ?_
  exact hn2 _ _ _ (hm2 _ _ h).2 ⟨((p9 ++ [D7]), (IntKind.wrap .i64 (p1 + 1))), R6, a8c, b0L, rfl, rfl, b0c, ((a5D.bring 1).drop.bring 1).drop, (hm2 _ _ h).1⟩
 ·replace h := h.2 a0p
  exact hx1 _ _ (hj1 p9 J7 Fs5l2 H _ W7 I h)
theorem a4G (x0 : Sl) {H : Hp} {K : Sl → Hp → Prop} (h : F6 x0 H K) : F0 x0 H K := by
 intro w I
 refine j2B ?_
 refine a4E x0 I (fun r0 H' w' I' hk => ⟨H', _, I', r0, rfl, rfl, hk⟩) h
def a3B (x0 : Bool) (H : Hp) (K : b8 → Hp → Prop) : Prop :=
 (x0 = true →
 K (b8.mk 1 0 (Sl.mk none 0 0) (Sl.mk none 0 0)) H) ∧
 (x0 = false →
 K (b8.mk 2 0 (Sl.mk none 0 0) (Sl.mk none 0 0)) H)
theorem c2B (x0 : Bool) {K : b8 → Hp → Prop} (I : Inv w0 ps0 H0 H [] w) (hR : ∀ (r0 : b8) (H' : Hp) (w' : World) (_ : Inv w0 ps0 H0 H' [] w') (_ : K r0 H'), R (Value.agg (d6 r0).toArray) w') (h : a3B x0 H K) : F72 (vB x0) w R E := by
 unfold a3B at h
 unfold F72
 refine z7 I Tryz.zeroValue59 (cs := [(vi 0), (vi 0), (nS), (nS)]) rfl fun g_2 w_3 I_4 k_5 => ?_
 refine o0 (fun c1y => ?_) (fun c1y => ?_)
 ·replace h := h.1 c1y
  refine a7 (b7N _) ?_
  refine m6 I_4 Tryz.sizeOf59 (vs := [(vi 1), (vi 0), (nS), (nS)]) (cs' := [(vi 1), (vi 0), (nS), (nS)]) rfl rfl (nb rfl) rfl rfl fun w_6 I_7 k_8 => ?_
  refine B0 Tryz.isAgg59 Tryz.sizeOf59 rfl (I_7.at1 (o := 0) (vs := [(vi 1), (vi 0), (nS), (nS)]) (nb rfl) rfl) ?_
  exact hR (b8.mk 1 0 (Sl.mk none 0 0) (Sl.mk none 0 0)) H _ I_7.drop h
 ·replace h := h.2 c1y
  refine a7 (b7N _) ?_
  refine m6 I_4 Tryz.sizeOf59 (vs := [(vi 2), (vi 0), (nS), (nS)]) (cs' := [(vi 2), (vi 0), (nS), (nS)]) rfl rfl (nb rfl) rfl rfl fun w_9 b2N c0N => ?_
  refine B0 Tryz.isAgg59 Tryz.sizeOf59 rfl (b2N.at1 (o := 0) (vs := [(vi 2), (vi 0), (nS), (nS)]) (nb rfl) rfl) ?_
  exact hR (b8.mk 2 0 (Sl.mk none 0 0) (Sl.mk none 0 0)) H _ b2N.drop h
theorem c3Z (x0 : Bool) {H : Hp} {K : b8 → Hp → Prop} (h : a3B x0 H K) : a6N x0 H K := by
 intro w I
 refine j2D ?_
 refine c2B x0 I (fun r0 H' w' I' hk => ⟨H', _, I', r0, rfl, rfl, hk⟩) h
def a1k (d0U : Bool) (k4Q : b8) (h5k : b8) (Q7 : b8) (N9 : b8) (H : Hp) (K : b8 → Hp → Prop) : Prop :=
 (d0U = true →
 K h5k H) ∧
 (d0U = false →
 K N9 H)
def a3Q (d2X : Int) (b5Q : Int) (a4g : b8) (a1y : b8) (m7 : b8) (r7 : b8) (H : Hp) (K : b8 → Hp → Prop) : Prop :=
 (a1y.b6 = d2X →
 K a4g H) ∧
 (¬ (a1y.b6 = d2X) →
 (a1y.b6 = b5Q →
 a1k (decide (a1y.b6 = b5Q)) a4g a1y m7 r7 H K) ∧
 (¬ (a1y.b6 = b5Q) →
 a1k (decide (a4g.b6 = d2X)) a4g a1y m7 r7 H K))
def a6a (x0 : b8) (x1 : Int) (x2 : Int) (H : Hp) (K : b8 → Hp → Prop) : Prop :=
 (0 : Int) ≤ 0 ∧ (0 : Int) < x0.p8.n ∧ ∃ a3A : b8, EltH H x0.p8 0 4 (d6 a3A) ∧
 (0 : Int) ≤ 1 ∧ (1 : Int) < x0.p8.n ∧ ∃ b0R : b8, EltH H x0.p8 1 4 (d6 b0R) ∧
 a3Q x1 x2 b0R a3A (b8.mk 0 0 (Sl.mk none 0 0) (Sl.mk none 0 0)) x0 H K
theorem c1X (x0 : b8) (x1 : Int) (x2 : Int) {K : b8 → Hp → Prop} (I : Inv w0 ps0 H0 H [] w) (hR : ∀ (r0 : b8) (H' : Hp) (w' : World) (_ : Inv w0 ps0 H0 H' [] w') (_ : K r0 H'), R (Value.agg (d6 r0).toArray) w') (h : a6a x0 x1 x2 H K) : F74 (Value.agg (d6 x0).toArray) (vi x1) (vi x2) w R E := by
 unfold a6a at h
 unfold F74
 refine J5 I (cs := (d6 x0)) rfl fun g_2 w_3 I_4 k_5 => ?_
 refine z7 I_4 Tryz.zeroValue59 (cs := [(vi 0), (vi 0), (nS), (nS)]) rfl fun g_7 w_8 I_9 b0M => ?_
 have hj1 : ∀ (a4g : b8) (a1y : b8) (c7n : Nat) (c1Y : Nat) (H : Hp) (w : World) (_ : Inv w0 ps0 H0 H [bx c7n 59 (d6 a4g), bx c1Y 59 (d6 a1y), bx g_7 59 [(vi (b8.mk 0 0 (Sl.mk none 0 0) (Sl.mk none 0 0)).b6), (vi (b8.mk 0 0 (Sl.mk none 0 0) (Sl.mk none 0 0)).fOp), (Value.slice (b8.mk 0 0 (Sl.mk none 0 0) (Sl.mk none 0 0)).i6.a (b8.mk 0 0 (Sl.mk none 0 0) (Sl.mk none 0 0)).i6.n (b8.mk 0 0 (Sl.mk none 0 0) (Sl.mk none 0 0)).i6.c), (Value.slice (b8.mk 0 0 (Sl.mk none 0 0) (Sl.mk none 0 0)).p8.a (b8.mk 0 0 (Sl.mk none 0 0) (Sl.mk none 0 0)).p8.n (b8.mk 0 0 (Sl.mk none 0 0) (Sl.mk none 0 0)).p8.c)], bx g_2 59 (d6 x0)] w) (_ : a3Q x1 x2 a4g a1y (b8.mk 0 0 (Sl.mk none 0 0) (Sl.mk none 0 0)) x0 H K), e5m (vi x1) (vi x2) (Value.pointer (some ⟨g_2, 0, none⟩)) (Value.pointer (some ⟨g_7, 0, none⟩)) (Value.pointer (some ⟨c1Y, 0, none⟩)) (Value.pointer (some ⟨c7n, 0, none⟩)) w R E := by
  intro a4g a1y c7n c1Y H w I h
  unfold e5m
  intro _
  unfold a3Q at h
  refine a7 Q2 ?_
  refine f7 (ld1 Tryz.isAgg3 ((I.bring 1).at1 (o := 0) (vs := [(vi a1y.b6)]) (nb rfl) rfl)) ?_
  refine a7 (i8 _ _ _ _ _ _) ?_
  refine k7 (fun d2F => ?_) (fun d2F => ?_)
  ·replace h := h.1 d2F
   refine f7 (ldA Tryz.isAgg59 Tryz.sizeOf59 rfl (I.at1 (o := 0) (vs := (d6 a4g)) (nb rfl) rfl)) ?_
   refine m6 (I.bring 2) Tryz.sizeOf59 (vs := (d6 a4g)) (cs' := (d6 a4g)) rfl rfl (nb rfl) rfl rfl fun b3E b4w d6Z => ?_
   refine B0 Tryz.isAgg59 Tryz.sizeOf59 rfl (b4w.at1 (o := 0) (vs := (d6 a4g)) (nb rfl) rfl) ?_
   exact hR a4g H _ b4w.drop.drop.drop.drop h
  ·replace h := h.2 d2F
   have hj2 : ∀ (d0U : Bool) (H : Hp) (w : World) (_ : Inv w0 ps0 H0 H [bx c7n 59 (d6 a4g), bx c1Y 59 (d6 a1y), bx g_7 59 [(vi (b8.mk 0 0 (Sl.mk none 0 0) (Sl.mk none 0 0)).b6), (vi (b8.mk 0 0 (Sl.mk none 0 0) (Sl.mk none 0 0)).fOp), (Value.slice (b8.mk 0 0 (Sl.mk none 0 0) (Sl.mk none 0 0)).i6.a (b8.mk 0 0 (Sl.mk none 0 0) (Sl.mk none 0 0)).i6.n (b8.mk 0 0 (Sl.mk none 0 0) (Sl.mk none 0 0)).i6.c), (Value.slice (b8.mk 0 0 (Sl.mk none 0 0) (Sl.mk none 0 0)).p8.a (b8.mk 0 0 (Sl.mk none 0 0) (Sl.mk none 0 0)).p8.n (b8.mk 0 0 (Sl.mk none 0 0) (Sl.mk none 0 0)).p8.c)], bx g_2 59 (d6 x0)] w) (_ : a1k d0U a4g a1y (b8.mk 0 0 (Sl.mk none 0 0) (Sl.mk none 0 0)) x0 H K), e5l (Value.pointer (some ⟨g_2, 0, none⟩)) (Value.pointer (some ⟨g_7, 0, none⟩)) (Value.pointer (some ⟨c1Y, 0, none⟩)) (vB d0U) w R E := by
    intro d0U H w I h
    unfold e5l
    intro _
    unfold a1k at h
    refine o0 (fun d3p => ?_) (fun d3p => ?_)
    ·replace h := h.1 d3p
     refine f7 (ldA Tryz.isAgg59 Tryz.sizeOf59 rfl ((I.bring 1).at1 (o := 0) (vs := (d6 a1y)) (nb rfl) rfl)) ?_
     refine m6 (I.bring 2) Tryz.sizeOf59 (vs := (d6 a1y)) (cs' := (d6 a1y)) rfl rfl (nb rfl) rfl rfl fun N1 c4a k3Y => ?_
     refine B0 Tryz.isAgg59 Tryz.sizeOf59 rfl (c4a.at1 (o := 0) (vs := (d6 a1y)) (nb rfl) rfl) ?_
     exact hR a1y H _ c4a.drop.drop.drop.drop h
    ·replace h := h.2 d3p
     refine f7 (ldA Tryz.isAgg59 Tryz.sizeOf59 rfl ((I.bring 3).at1 (o := 0) (vs := (d6 x0)) (nb rfl) rfl)) ?_
     refine m6 (I.bring 2) Tryz.sizeOf59 (vs := (d6 x0)) (cs' := (d6 x0)) rfl rfl (nb rfl) rfl rfl fun c5y f2V k3Z => ?_
     refine B0 Tryz.isAgg59 Tryz.sizeOf59 rfl (f2V.at1 (o := 0) (vs := (d6 x0)) (nb rfl) rfl) ?_
     exact hR x0 H _ f2V.drop.drop.drop.drop h
   refine t6 fun j2 hx2 => ?_
   refine a7 Q2 ?_
   refine f7 (ld1 Tryz.isAgg3 ((I.bring 1).at1 (o := 0) (vs := [(vi a1y.b6)]) (nb rfl) rfl)) ?_
   refine a7 (i8 _ _ _ _ _ _) ?_
   refine k7 (fun g3X => ?_) (fun g3X => ?_)
   ·replace h := h.1 g3X
    exact hx2 _ _ (hj2 (decide (a1y.b6 = x2)) H _ ((((I.bring 3).bring 3).bring 3).bring 3) h)
   ·replace h := h.2 g3X
    refine a7 Q2 ?_
    refine f7 (ld1 Tryz.isAgg3 (I.at1 (o := 0) (vs := [(vi a4g.b6)]) (nb rfl) rfl)) ?_
    refine a7 (i8 _ _ _ _ _ _) ?_
    exact hx2 _ _ (hj2 (decide (a4g.b6 = x1)) H _ ((((I.bring 3).bring 3).bring 3).bring 3) h)
 refine t6 fun j1 hx1 => ?_
 refine a5z I_9 fun P0 B1 => ?_
 refine q9 E5 ?_
 refine q9 E5 ?_
 refine A5 (ld1 Tryz.isAgg57 ((B1.bring 1).at1 (o := 3) (vs := [(vs x0.p8)]) (nb rfl) rfl)) ?_
 obtain ⟨a7J, b7t, a3A, a6E, h⟩ := h
 obtain ⟨e9U, e9V, c6A, a6E⟩ := a6E
 refine q9 (S7 c6A _ _ _ _ a7J b7t) ?_
 refine A5 (ldA (vs := (d6 a3A)) Tryz.isAgg59 Tryz.sizeOf59 rfl (B1.atH a6E)) ?_
 refine A5 (ld1 Tryz.isAgg57 ((B1.bring 1).at1 (o := 3) (vs := [(vs x0.p8)]) (nb rfl) rfl)) ?_
 obtain ⟨b7w, c6y, b0R, b1x, h⟩ := h
 obtain ⟨e9W, i3A, c1k, b1x⟩ := b1x
 refine q9 (S7 c1k _ _ _ _ b7w c6y) ?_
 refine A5 (ldA (vs := (d6 b0R)) Tryz.isAgg59 Tryz.sizeOf59 rfl (B1.atH b1x)) ?_
 refine ⟨?_, ?_⟩
 ·refine z7 B1 Tryz.zeroValue59 (cs := [(vi 0), (vi 0), (nS), (nS)]) rfl fun k4a a4y T8 a9i => ?_
  refine ⟨(a9i _ (B1.M8 b1x)), (a9i _ (B1.bring 1).lt1), (a9i _ (B1.M8 a6E)), (a9i _ (B1.bring 1).lt1), ?_⟩
  refine z7 T8 Tryz.zeroValue59 (cs := [(vi 0), (vi 0), (nS), (nS)]) rfl fun k4b A6 a4b c3H => ?_
  refine ⟨(c3H _ (T8.M8 b1x)), (c3H _ (T8.bring 2).lt1), (c3H _ (T8.M8 a6E)), (c3H _ (T8.bring 2).lt1), ?_⟩
  refine m6 (a4b.bring 1) Tryz.sizeOf59 (vs := (d6 a3A)) (cs' := (d6 a3A)) rfl rfl (nb rfl) rfl rfl fun b2x b2g e9M => ?_
  refine ⟨(e9M _ (Inv.e7U (a4b.bring 1) b1x)), (e9M _ (Inv.h5B ((a4b.bring 3).bring 2))), ?_⟩
  refine m6 (b2g.bring 1) Tryz.sizeOf59 (vs := (d6 b0R)) (cs' := (d6 b0R)) rfl rfl (nb rfl) rfl rfl fun I4 c1a e2u => ?_
  exact hx1 _ _ (hj1 b0R a3A k4b k4a H _ ((((c1a.bring 3).bring 3).bring 3).bring 3) h)
 ·refine z7 B1 Tryz.zeroValue59 (cs := [(vi 0), (vi 0), (nS), (nS)]) rfl fun k4c c3x b7u c9c => ?_
  refine ⟨(c9c _ (B1.M8 b1x)), (c9c _ (B1.bring 1).lt1), (c9c _ (B1.M8 a6E)), (c9c _ (B1.bring 1).lt1), ?_⟩
  refine z7 b7u Tryz.zeroValue59 (cs := [(vi 0), (vi 0), (nS), (nS)]) rfl fun i3h R5 c8W d7f => ?_
  refine ⟨(d7f _ (b7u.M8 b1x)), (d7f _ (b7u.bring 2).lt1), (d7f _ (b7u.M8 a6E)), (d7f _ (b7u.bring 2).lt1), ?_⟩
  refine m6 c8W Tryz.sizeOf59 (vs := (d6 a3A)) (cs' := (d6 a3A)) rfl rfl (nb rfl) rfl rfl fun b4k f8T f8U => ?_
  refine ⟨(f8U _ (Inv.e7U c8W b1x)), (f8U _ (Inv.h5B ((c8W.bring 3).bring 1))), ?_⟩
  refine m6 (f8T.bring 1) Tryz.sizeOf59 (vs := (d6 b0R)) (cs' := (d6 b0R)) rfl rfl (nb rfl) rfl rfl fun T2 b7b e1S => ?_
  exact hx1 _ _ (hj1 b0R a3A k4c i3h H _ ((((b7b.bring 3).bring 3).bring 3).bring 3) h)
theorem c2C (x0 : b8) (x1 : Int) (x2 : Int) {H : Hp} {K : b8 → Hp → Prop} (h : a6a x0 x1 x2 H K) : a5I x0 x1 x2 H K := by
 intro w I
 refine j2O ?_
 refine c1X x0 x1 x2 I (fun r0 H' w' I' hk => ⟨H', _, I', r0, rfl, rfl, hk⟩) h
def Z9 (r7 : b8) (m7 : b8) (H : Hp) (K : b8 → Hp → Prop) : Prop :=
 K r7 H
def a7A (x0 : b8) (H : Hp) (K : b8 → Hp → Prop) : Prop :=
 B4 x0.i6 H (fun (y7 : Sl) (a5j : Hp) =>
 F0 x0.p8 a5j (fun (v6 : Sl) (a4A : Hp) =>
 (x0.b6 = 3 →
 (0 : Int) ≤ 0 ∧ (0 : Int) < y7.n ∧ ∃ f2W : a8, EltH a4A y7 0 4 (b7 f2W) ∧
 T3 f2W a4A (fun (c7j : Int) (b9O : Bool) (b3P : Hp) =>
 (0 : Int) ≤ 1 ∧ (1 : Int) < y7.n ∧ ∃ c5P : a8, EltH b3P y7 1 4 (b7 c5P) ∧
 T3 c5P b3P (fun (c7o : Int) (d9p : Bool) (d3q : Hp) =>
 ((b9O && d9p) = true →
 b4n x0.fOp c7j c7o d3q (fun (a8a : Bool) (b4o : Hp) =>
 a6N a8a b4o (fun (b0o : b8) (b3J : Hp) =>
 K b0o b3J))) ∧
 ((b9O && d9p) = false →
 Z9 (b8.mk x0.b6 x0.fOp y7 v6) (b8.mk 0 0 (Sl.mk none 0 0) (Sl.mk none 0 0)) d3q K)))) ∧
 (¬ (x0.b6 = 3) →
 (x0.b6 = 4 →
 (0 : Int) ≤ 0 ∧ (0 : Int) < v6.n ∧ ∃ c9G : b8, EltH a4A v6 0 4 (d6 c9G) ∧
 (((decide (c9G.b6 = 1)) || (decide (c9G.b6 = 2))) = true →
 a6N (decide (c9G.b6 = 2)) a4A (fun (c5e : b8) (f2X : Hp) =>
 K c5e f2X)) ∧
 (((decide (c9G.b6 = 1)) || (decide (c9G.b6 = 2))) = false →
 Z9 (b8.mk x0.b6 x0.fOp y7 v6) (b8.mk 0 0 (Sl.mk none 0 0) (Sl.mk none 0 0)) a4A K)) ∧
 (¬ (x0.b6 = 4) →
 (x0.b6 = 5 →
 a5I (b8.mk x0.b6 x0.fOp y7 v6) 1 2 a4A (fun (c5f : b8) (f2Y : Hp) =>
 K c5f f2Y)) ∧
 (¬ (x0.b6 = 5) →
 (x0.b6 = 6 →
 a5I (b8.mk x0.b6 x0.fOp y7 v6) 2 1 a4A (fun (c5g : b8) (f2Z : Hp) =>
 K c5g f2Z)) ∧
 (¬ (x0.b6 = 6) →
 Z9 (b8.mk x0.b6 x0.fOp y7 v6) (b8.mk 0 0 (Sl.mk none 0 0) (Sl.mk none 0 0)) a4A K))))))
theorem c4b (x0 : b8) {K : b8 → Hp → Prop} (I : Inv w0 ps0 H0 H [] w) (hR : ∀ (r0 : b8) (H' : Hp) (w' : World) (_ : Inv w0 ps0 H0 H' [] w') (_ : K r0 H'), R (Value.agg (d6 r0).toArray) w') (h : a7A x0 H K) : F42 (Value.agg (d6 x0).toArray) w R E := by
 unfold a7A at h
 unfold F42
 refine J5 I (cs := (d6 x0)) rfl fun g_2 w_3 I_4 k_5 => ?_
 refine z7 I_4 Tryz.zeroValue59 (cs := [(vi 0), (vi 0), (nS), (nS)]) rfl fun g_7 w_8 I_9 b0M => ?_
 refine a5z I_9 fun P0 B1 => ?_
 refine q9 M4 ?_
 refine q9 E5 ?_
 refine A5 (ld1 Tryz.isAgg51 ((B1.bring 1).at1 (o := 2) (vs := [(vs x0.i6)]) (nb rfl) rfl)) ?_
 refine A5 (ld1 Tryz.isAgg57 ((B1.bring 1).at1 (o := 3) (vs := [(vs x0.p8)]) (nb rfl) rfl)) ?_
 refine g9 (cap := []) (fun args w => Tryz.call66 args w) ?_
 refine l7 (Fi := []) (Fr := [bx g_7 59 [(vi 0), (vi 0), (nS), (nS)], bx g_2 59 (d6 x0)]) B1 (h) (fun j3f a5j j3g p6 c0R d7t c5Y e5r => ?_) (fun _ _ _ _ _ q => q.elim)
 obtain ⟨y7, rfl, rfl, h⟩ := e5r
 refine ⟨(c5Y _ (B1.bring 1).lt1 (Inv.a3h (Fi := []) (B1.bring 1))), ?_⟩
 refine q9 M4 ?_
 refine g9 (cap := []) (fun args w => Tryz.call71 args w) ?_
 refine l7 (Fi := []) (Fr := [bx g_7 59 [(vi 0), (vi 0), (nS), (nS)], bx g_2 59 (d6 x0)]) c0R (h) (fun f9K a4A b3K b0C a5E f9L e2r d2v => ?_) (fun _ _ _ _ _ q => q.elim)
 obtain ⟨v6, rfl, rfl, h⟩ := d2v
 refine m6 (a5E.bring 1) Tryz.sizeOf51 (vs := [(vs y7)]) (cs' := [(vi x0.b6), (vi x0.fOp), (vs y7), (vs x0.p8)]) rfl rfl (nb rfl) rfl rfl fun b2w e5s j3h => ?_
 refine q9 E5 ?_
 refine m6 e5s Tryz.sizeOf57 (vs := [(vs v6)]) (cs' := [(vi x0.b6), (vi x0.fOp), (vs y7), (vs v6)]) rfl rfl (nb rfl) rfl rfl fun A6 a4b c3H => ?_
 have hj1 : ∀ (H : Hp) (w : World) (_ : Inv w0 ps0 H0 H [bx g_2 59 [(vi (b8.mk x0.b6 x0.fOp y7 v6).b6), (vi (b8.mk x0.b6 x0.fOp y7 v6).fOp), (Value.slice (b8.mk x0.b6 x0.fOp y7 v6).i6.a (b8.mk x0.b6 x0.fOp y7 v6).i6.n (b8.mk x0.b6 x0.fOp y7 v6).i6.c), (Value.slice (b8.mk x0.b6 x0.fOp y7 v6).p8.a (b8.mk x0.b6 x0.fOp y7 v6).p8.n (b8.mk x0.b6 x0.fOp y7 v6).p8.c)], bx g_7 59 [(vi (b8.mk 0 0 (Sl.mk none 0 0) (Sl.mk none 0 0)).b6), (vi (b8.mk 0 0 (Sl.mk none 0 0) (Sl.mk none 0 0)).fOp), (Value.slice (b8.mk 0 0 (Sl.mk none 0 0) (Sl.mk none 0 0)).i6.a (b8.mk 0 0 (Sl.mk none 0 0) (Sl.mk none 0 0)).i6.n (b8.mk 0 0 (Sl.mk none 0 0) (Sl.mk none 0 0)).i6.c), (Value.slice (b8.mk 0 0 (Sl.mk none 0 0) (Sl.mk none 0 0)).p8.a (b8.mk 0 0 (Sl.mk none 0 0) (Sl.mk none 0 0)).p8.n (b8.mk 0 0 (Sl.mk none 0 0) (Sl.mk none 0 0)).p8.c)]] w) (_ : Z9 (b8.mk x0.b6 x0.fOp y7 v6) (b8.mk 0 0 (Sl.mk none 0 0) (Sl.mk none 0 0)) H K), e4N (Value.pointer (some ⟨g_2, 0, none⟩)) (Value.pointer (some ⟨g_7, 0, none⟩)) w R E := by
  intro H w I h
  unfold e4N
  intro _
  unfold Z9 at h
  refine f7 (ldA Tryz.isAgg59 Tryz.sizeOf59 rfl (I.at1 (o := 0) (vs := [(vi (b8.mk x0.b6 x0.fOp y7 v6).b6), (vi (b8.mk x0.b6 x0.fOp y7 v6).fOp), (Value.slice (b8.mk x0.b6 x0.fOp y7 v6).i6.a (b8.mk x0.b6 x0.fOp y7 v6).i6.n (b8.mk x0.b6 x0.fOp y7 v6).i6.c), (Value.slice (b8.mk x0.b6 x0.fOp y7 v6).p8.a (b8.mk x0.b6 x0.fOp y7 v6).p8.n (b8.mk x0.b6 x0.fOp y7 v6).p8.c)]) (nb rfl) rfl)) ?_
  refine m6 (I.bring 1) Tryz.sizeOf59 (vs := [(vi (b8.mk x0.b6 x0.fOp y7 v6).b6), (vi (b8.mk x0.b6 x0.fOp y7 v6).fOp), (Value.slice (b8.mk x0.b6 x0.fOp y7 v6).i6.a (b8.mk x0.b6 x0.fOp y7 v6).i6.n (b8.mk x0.b6 x0.fOp y7 v6).i6.c), (Value.slice (b8.mk x0.b6 x0.fOp y7 v6).p8.a (b8.mk x0.b6 x0.fOp y7 v6).p8.n (b8.mk x0.b6 x0.fOp y7 v6).p8.c)]) (cs' := [(vi (b8.mk x0.b6 x0.fOp y7 v6).b6), (vi (b8.mk x0.b6 x0.fOp y7 v6).fOp), (Value.slice (b8.mk x0.b6 x0.fOp y7 v6).i6.a (b8.mk x0.b6 x0.fOp y7 v6).i6.n (b8.mk x0.b6 x0.fOp y7 v6).i6.c), (Value.slice (b8.mk x0.b6 x0.fOp y7 v6).p8.a (b8.mk x0.b6 x0.fOp y7 v6).p8.n (b8.mk x0.b6 x0.fOp y7 v6).p8.c)]) rfl rfl (nb rfl) rfl rfl fun a1Q j3i l1N => ?_
  refine B0 Tryz.isAgg59 Tryz.sizeOf59 rfl (j3i.at1 (o := 0) (vs := [(vi (b8.mk x0.b6 x0.fOp y7 v6).b6), (vi (b8.mk x0.b6 x0.fOp y7 v6).fOp), (Value.slice (b8.mk x0.b6 x0.fOp y7 v6).i6.a (b8.mk x0.b6 x0.fOp y7 v6).i6.n (b8.mk x0.b6 x0.fOp y7 v6).i6.c), (Value.slice (b8.mk x0.b6 x0.fOp y7 v6).p8.a (b8.mk x0.b6 x0.fOp y7 v6).p8.n (b8.mk x0.b6 x0.fOp y7 v6).p8.c)]) (nb rfl) rfl) ?_
  exact hR (b8.mk x0.b6 x0.fOp y7 v6) H _ j3i.drop.drop h
 refine t6 fun j1 hx1 => ?_
 refine a7 Q2 ?_
 refine f7 (ld1 Tryz.isAgg3 (a4b.at1 (o := 0) (vs := [(vi x0.b6)]) (nb rfl) rfl)) ?_
 refine a7 (i8 _ _ _ _ _ _) ?_
 refine k7 (fun c6S => ?_) (fun c6S => ?_)
 ·replace h := h.1 c6S
  refine a7 M4 ?_
  refine f7 (ld1 Tryz.isAgg51 (a4b.at1 (o := 2) (vs := [(vs y7)]) (nb rfl) rfl)) ?_
  obtain ⟨k4d, d7I, f2W, a6p, h⟩ := h
  obtain ⟨l1O, l1P, a7g, a6p⟩ := a6p
  refine a7 (A0 a7g _ _ _ _ k4d d7I) ?_
  refine f7 (ldA (vs := (b7 f2W)) Tryz.isAgg53 Tryz.sizeOf53 rfl (a4b.atH a6p)) ?_
  refine g9 (cap := []) (fun args w => Tryz.call67 args w) ?_
  refine l7 (Fi := []) (Fr := [bx g_2 59 [(vi x0.b6), (vi x0.fOp), (vs y7), (vs v6)], bx g_7 59 [(vi 0), (vi 0), (nS), (nS)]]) a4b (h) (fun k3T b3P k3U c0t b4V a1D k3V g3V => ?_) (fun _ _ _ _ _ q => q.elim)
  obtain ⟨c7j, b9O, rfl, rfl, h⟩ := g3V
  refine a7 (o2 _ _ (vi c7j) rfl) ?_
  refine a7 (o2 _ _ (vB b9O) rfl) ?_
  refine a7 M4 ?_
  refine f7 (ld1 Tryz.isAgg51 (b4V.at1 (o := 2) (vs := [(vs y7)]) (nb rfl) rfl)) ?_
  obtain ⟨c0K, e1Q, c5P, c0I, h⟩ := h
  obtain ⟨k1h, k1i, e1R, c0I⟩ := c0I
  refine a7 (A0 e1R _ _ _ _ c0K e1Q) ?_
  refine f7 (ldA (vs := (b7 c5P)) Tryz.isAgg53 Tryz.sizeOf53 rfl (b4V.atH c0I)) ?_
  refine g9 (cap := []) (fun args w => Tryz.call67 args w) ?_
  refine l7 (Fi := []) (Fr := [bx g_2 59 [(vi x0.b6), (vi x0.fOp), (vs y7), (vs v6)], bx g_7 59 [(vi 0), (vi 0), (nS), (nS)]]) b4V (h) (fun k4e d3q k4f c3y e5t g2l k4g g3Y => ?_) (fun _ _ _ _ _ q => q.elim)
  obtain ⟨c7o, d9p, rfl, rfl, h⟩ := g3Y
  refine a7 (o2 _ _ (vi c7o) rfl) ?_
  refine a7 (o2 _ _ (vB d9p) rfl) ?_
  simp only [u5]
  refine a7 (s7 _ _) ?_
  refine o0 (fun g3Z => ?_) (fun g3Z => ?_)
  ·replace h := h.1 g3Z
   refine a7 a4N ?_
   refine f7 (ld1 Tryz.isAgg3 (e5t.at1 (o := 1) (vs := [(vi x0.fOp)]) (nb rfl) rfl)) ?_
   refine g9 (cap := []) (fun args w => Tryz.call73 args w) ?_
   refine l7 (Fi := []) (Fr := [bx g_2 59 [(vi x0.b6), (vi x0.fOp), (vs y7), (vs v6)], bx g_7 59 [(vi 0), (vi 0), (nS), (nS)]]) e5t (h) (fun d6T b4o f8V T7 c8N f8W f8X d2b => ?_) (fun _ _ _ _ _ q => q.elim)
   obtain ⟨a8a, rfl, rfl, h⟩ := d2b
   refine g9 (cap := []) (fun args w => Tryz.call72 args w) ?_
   refine l7 (Fi := []) (Fr := [bx g_2 59 [(vi x0.b6), (vi x0.fOp), (vs y7), (vs v6)], bx g_7 59 [(vi 0), (vi 0), (nS), (nS)]]) c8N (h) (fun e8M b3J k0M b8M d6V e1I f8Y f8Z => ?_) (fun _ _ _ _ _ q => q.elim)
   obtain ⟨b0o, rfl, rfl, h⟩ := f8Z
   refine m6 (d6V.bring 1) Tryz.sizeOf59 (vs := (d6 b0o)) (cs' := (d6 b0o)) rfl rfl (nb rfl) rfl rfl fun j0s j3j l1Q => ?_
   refine B0 Tryz.isAgg59 Tryz.sizeOf59 rfl (j3j.at1 (o := 0) (vs := (d6 b0o)) (nb rfl) rfl) ?_
   exact hR b0o b3J _ j3j.drop.drop h
  ·replace h := h.2 g3Z
   exact hx1 _ _ (hj1 d3q _ ((e5t.bring 1).bring 1) h)
 ·replace h := h.2 c6S
  refine a7 (i8 _ _ _ _ _ _) ?_
  refine k7 (fun c5R => ?_) (fun c5R => ?_)
  ·replace h := h.1 c5R
   refine a7 E5 ?_
   refine f7 (ld1 Tryz.isAgg57 (a4b.at1 (o := 3) (vs := [(vs v6)]) (nb rfl) rfl)) ?_
   obtain ⟨c6R, k4h, c9G, f3a, h⟩ := h
   obtain ⟨l1R, l1S, k4i, f3a⟩ := f3a
   refine a7 (S7 k4i _ _ _ _ c6R k4h) ?_
   refine a7 Q2 ?_
   refine f7 (ld1 (v := (vi c9G.b6)) Tryz.isAgg3 ((a4b.atH f3a).sub (k := 0) (n := 1) (nb rfl))) ?_
   refine a7 (i8 _ _ _ _ _ _) ?_
   simp only [u5]
   refine a7 (Pu.g fun hb => by have b9 := hb; simp only [i7 b9]; exact (i8 _ _ _ _ _ _)) ?_
   refine a7 (J4 _ _) ?_
   refine o0 (fun c6N => ?_) (fun c6N => ?_)
   ·replace h := h.1 c6N
    refine a7 (i8 _ _ _ _ _ _) ?_
    refine g9 (cap := []) (fun args w => Tryz.call72 args w) ?_
    refine l7 (Fi := []) (Fr := [bx g_2 59 [(vi x0.b6), (vi x0.fOp), (vs y7), (vs v6)], bx g_7 59 [(vi 0), (vi 0), (nS), (nS)]]) a4b (h) (fun k6A f2X k6B a1I j7S k6C k6D j7T => ?_) (fun _ _ _ _ _ q => q.elim)
    obtain ⟨c5e, rfl, rfl, h⟩ := j7T
    refine m6 (j7S.bring 1) Tryz.sizeOf59 (vs := (d6 c5e)) (cs' := (d6 c5e)) rfl rfl (nb rfl) rfl rfl fun a7T d8Q j5Q => ?_
    refine B0 Tryz.isAgg59 Tryz.sizeOf59 rfl (d8Q.at1 (o := 0) (vs := (d6 c5e)) (nb rfl) rfl) ?_
    exact hR c5e f2X _ d8Q.drop.drop h
   ·replace h := h.2 c6N
    exact hx1 _ _ (hj1 a4A _ ((a4b.bring 1).bring 1) h)
  ·replace h := h.2 c5R
   refine a7 (i8 _ _ _ _ _ _) ?_
   refine k7 (fun f3b => ?_) (fun f3b => ?_)
   ·replace h := h.1 f3b
    refine f7 (ldA Tryz.isAgg59 Tryz.sizeOf59 rfl (a4b.at1 (o := 0) (vs := [(vi x0.b6), (vi x0.fOp), (vs y7), (vs v6)]) (nb rfl) rfl)) ?_
    refine g9 (cap := []) (fun args w => Tryz.call74 args w) ?_
    refine l7 (Fi := []) (Fr := [bx g_2 59 [(vi x0.b6), (vi x0.fOp), (vs y7), (vs v6)], bx g_7 59 [(vi 0), (vi 0), (nS), (nS)]]) a4b (h) (fun k6E f2Y k6F b9J j7U d8Y k6G j7V => ?_) (fun _ _ _ _ _ q => q.elim)
    obtain ⟨c5f, rfl, rfl, h⟩ := j7V
    refine m6 (j7U.bring 1) Tryz.sizeOf59 (vs := (d6 c5f)) (cs' := (d6 c5f)) rfl rfl (nb rfl) rfl rfl fun k6H g5G k6I => ?_
    refine B0 Tryz.isAgg59 Tryz.sizeOf59 rfl (g5G.at1 (o := 0) (vs := (d6 c5f)) (nb rfl) rfl) ?_
    exact hR c5f f2Y _ g5G.drop.drop h
   ·replace h := h.2 f3b
    refine a7 (i8 _ _ _ _ _ _) ?_
    refine k7 (fun c6i => ?_) (fun c6i => ?_)
    ·replace h := h.1 c6i
     refine f7 (ldA Tryz.isAgg59 Tryz.sizeOf59 rfl (a4b.at1 (o := 0) (vs := [(vi x0.b6), (vi x0.fOp), (vs y7), (vs v6)]) (nb rfl) rfl)) ?_
     refine g9 (cap := []) (fun args w => Tryz.call74 args w) ?_
     refine l7 (Fi := []) (Fr := [bx g_2 59 [(vi x0.b6), (vi x0.fOp), (vs y7), (vs v6)], bx g_7 59 [(vi 0), (vi 0), (nS), (nS)]]) a4b (h) (fun k6J f2Z k6K g5g j7W k6L k6M j7X => ?_) (fun _ _ _ _ _ q => q.elim)
     obtain ⟨c5g, rfl, rfl, h⟩ := j7X
     refine m6 (j7W.bring 1) Tryz.sizeOf59 (vs := (d6 c5g)) (cs' := (d6 c5g)) rfl rfl (nb rfl) rfl rfl fun g5h g5H k6N => ?_
     refine B0 Tryz.isAgg59 Tryz.sizeOf59 rfl (g5H.at1 (o := 0) (vs := (d6 c5g)) (nb rfl) rfl) ?_
     exact hR c5g f2Z _ g5H.drop.drop h
    ·replace h := h.2 c6i
     exact hx1 _ _ (hj1 a4A _ ((a4b.bring 1).bring 1) h)
theorem c5h (x0 : b8) {H : Hp} {K : b8 → Hp → Prop} (h : a7A x0 H K) : a7t x0 H K := by
 intro w I
 refine j0z ?_
 refine c4b x0 I (fun r0 H' w' I' hk => ⟨H', _, I', r0, rfl, rfl, hk⟩) h
def a7B (x0 : b8) (H : Hp) (K : b8 → Int → Hp → Prop) : Prop :=
 b2D x0 H (fun (o9 : Int) (a1j : Hp) =>
 (¬ (o9 = 0) →
 K (b8.mk 0 0 (Sl.mk none 0 0) (Sl.mk none 0 0)) o9 a1j) ∧
 (o9 = 0 →
 a7t x0 a1j (fun (a6P : b8) (b0f : Hp) =>
 K a6P 0 b0f)))
theorem c4c (x0 : b8) {K : b8 → Int → Hp → Prop} (I : Inv w0 ps0 H0 H [] w) (hR : ∀ (r0 : b8) (r1 : Int) (H' : Hp) (w' : World) (_ : Inv w0 ps0 H0 H' [] w') (_ : K r0 r1 H'), R (Value.tuple #[(Value.agg (d6 r0).toArray), (vi r1)]) w') (h : a7B x0 H K) : F23 (Value.agg (d6 x0).toArray) w R E := by
 unfold a7B at h
 unfold F23
 refine J5 I (cs := (d6 x0)) rfl fun g_2 w_3 I_4 k_5 => ?_
 refine z7 I_4 Tryz.zeroValue59 (cs := [(vi 0), (vi 0), (nS), (nS)]) rfl fun g_7 w_8 I_9 b0M => ?_
 refine f7 (ldA Tryz.isAgg59 Tryz.sizeOf59 rfl ((I_9.bring 1).at1 (o := 0) (vs := (d6 x0)) (nb rfl) rfl)) ?_
 refine g9 (cap := []) (fun args w => Tryz.call41 args w) ?_
 refine l7 (Fi := []) (Fr := [bx g_7 59 [(vi 0), (vi 0), (nS), (nS)], bx g_2 59 (d6 x0)]) I_9 (h) (fun d2A a1j d2B q8 a8L c6v d2C b4H => ?_) (fun _ _ _ _ _ q => q.elim)
 obtain ⟨o9, rfl, rfl, h⟩ := b4H
 refine a7 (M7 _ _ _ _ _ _) ?_
 refine a4f (fun d3o => ?_) (fun d3o => ?_)
 ·replace h := h.1 d3o
  refine a7 (f5v ) ?_
  refine m6 a8L Tryz.sizeOf59 (vs := [(vi 0), (vi 0), (nS), (nS)]) (cs' := [(vi 0), (vi 0), (nS), (nS)]) rfl rfl (nb rfl) rfl rfl fun r9 a0h b4p => ?_
  refine B0 Tryz.isAgg59 Tryz.sizeOf59 rfl (a0h.at1 (o := 0) (vs := [(vi 0), (vi 0), (nS), (nS)]) (nb rfl) rfl) ?_
  exact hR (b8.mk 0 0 (Sl.mk none 0 0) (Sl.mk none 0 0)) o9 a1j _ a0h.drop.drop h
 ·replace h := h.2 d3o
  refine f7 (ldA Tryz.isAgg59 Tryz.sizeOf59 rfl ((a8L.bring 1).at1 (o := 0) (vs := (d6 x0)) (nb rfl) rfl)) ?_
  refine g9 (cap := []) (fun args w => Tryz.call42 args w) ?_
  refine l7 (Fi := []) (Fr := [bx g_7 59 [(vi 0), (vi 0), (nS), (nS)], bx g_2 59 (d6 x0)]) a8L (h) (fun f9O b0f e1T u4 a8K f9P d2h d2x => ?_) (fun _ _ _ _ _ q => q.elim)
  obtain ⟨a6P, rfl, rfl, h⟩ := d2x
  refine m6 a8K Tryz.sizeOf59 (vs := (d6 a6P)) (cs' := (d6 a6P)) rfl rfl (nb rfl) rfl rfl fun B6 a4B c6o => ?_
  refine B0 Tryz.isAgg59 Tryz.sizeOf59 rfl (a4B.at1 (o := 0) (vs := (d6 a6P)) (nb rfl) rfl) ?_
  exact hR a6P 0 b0f _ a4B.drop.drop h
theorem c5i (x0 : b8) {H : Hp} {K : b8 → Int → Hp → Prop} (h : a7B x0 H K) : b0G x0 H K := by
 intro w I
 refine i9i ?_
 refine c4c x0 I (fun r0 r1 H' w' I' hk => ⟨H', _, I', r0, r1, rfl, rfl, hk⟩) h
def a3R (H : Hp) (K : Bool → Hp → Prop) : Prop :=
 Z5 1 H (fun (B2 : a8) (H_1 : Hp) =>
 Z5 2 H_1 (fun (y9 : a8) (a1h : Hp) =>
 ∀ (d3r : Sl) (c8Z : Hp), Hle a1h c8Z → SlH c8Z 4 b7 d3r [B2, y9] → d3r.n ≤ d3r.c →
 ∀ (a8c : Sl) (b8R : Hp), Hle c8Z b8R → SlH b8R 4 b7 a8c [(a8.mk 6 0 ⟨#[]⟩ d3r), (a8.mk 2 0 ⟨#[120]⟩ (Sl.mk none 0 0))] → a8c.n ≤ a8c.c →
 b0E (a8.mk 8 0 ⟨#[]⟩ a8c) b8R (fun (l9 : a8) (b6l : Int) (a4d : Hp) =>
 Z5 1 a4d (fun (c7o : a8) (d3q : Hp) =>
 Z5 2 d3q (fun (a8a : a8) (b4o : Hp) =>
 ∀ (d7J : Sl) (e5u : Hp), Hle b4o e5u → SlH e5u 4 b7 d7J [c7o, a8a] → d7J.n ≤ d7J.c →
 b0G (b8.mk 3 1 d7J (Sl.mk none 0 0)) e5u (fun (b1q : b8) (b3q : Int) (b4s : Hp) =>
 ∃ b1F : a8, (((((decide (b6l = 0)) && (decide (b3q = 0))) && (decide (l9.b6 = 8))) && (decide ((l9.i4.n : Int) = 2))) = true → (0 : Int) ≤ 0 ∧ (0 : Int) < l9.i4.n ∧ EltH b4s l9.i4 0 4 (b7 b1F)) ∧
 ∃ d5u : a8, ((((((decide (b6l = 0)) && (decide (b3q = 0))) && (decide (l9.b6 = 8))) && (decide ((l9.i4.n : Int) = 2))) && (decide (b1F.b6 = 1))) = true → (0 : Int) ≤ 0 ∧ (0 : Int) < l9.i4.n ∧ EltH b4s l9.i4 0 4 (b7 d5u)) ∧
 K (((((((decide (b6l = 0)) && (decide (b3q = 0))) && (decide (l9.b6 = 8))) && (decide ((l9.i4.n : Int) = 2))) && (decide (b1F.b6 = 1))) && (decide (d5u.m8 = 3))) && (decide (b1q.b6 = 1))) b4s))))))
theorem b8F {K : Bool → Hp → Prop} (I : Inv w0 ps0 H0 H [] w) (hR : ∀ (r0 : Bool) (H' : Hp) (w' : World) (_ : Inv w0 ps0 H0 H' [] w') (_ : K r0 H'), R (vB r0) w') (h : a3R H K) : F8 w R E := by
 unfold a3R at h
 unfold F8
 refine g9 (cap := []) (fun args w => Tryz.call22 args w) ?_
 refine l7 (Fi := []) (Fr := []) I (h) (fun v_5 H_1 F_6 w_2 I_3 l_8 k_4 q_7 => ?_) (fun _ _ _ _ _ q => q.elim)
 obtain ⟨B2, rfl, rfl, h⟩ := q_7
 refine g9 (cap := []) (fun args w => Tryz.call22 args w) ?_
 refine l7 (Fi := []) (Fr := []) I_3 (h) (fun c5I a1h d6R P0 B1 c0E b6Y b6Z => ?_) (fun _ _ _ _ _ q => q.elim)
 obtain ⟨y9, rfl, rfl, h⟩ := b6Z
 refine a5A (e := 53) (c := b7) (xs := [B2, y9]) B1 (d6k _ _ _ _ _ _ _ _ _ _ _ _) rfl rfl N7 N8 (nb rfl) fun d3r c0F u7 b7w a5E e2r => ?_
 refine a7 (b4b _ _ _ _) ?_
 refine a7 (d8p _ _) ?_
 obtain ⟨c8Z, c3N, e1Z, a7h, e1U⟩ := Inv.freezeC a5E b7w (by decide)
 replace h := h d3r c8Z e1Z a7h e1U
 refine a5A (e := 53) (c := b7) (xs := [(a8.mk 6 0 ⟨#[]⟩ d3r), (a8.mk 2 0 ⟨#[120]⟩ (Sl.mk none 0 0))]) c3N (d6k _ _ _ _ _ _ _ _ _ _ _ _) rfl rfl N7 N8 (nb rfl) fun a8c b0L A6 b0c a5D b7a => ?_
 refine a7 (b4b _ _ _ _) ?_
 obtain ⟨b8R, b4I, d2g, d7I, a7g⟩ := Inv.freezeC a5D b0c (by decide)
 replace h := h a8c b8R d2g d7I a7g
 refine g9 (cap := []) (fun args w => Tryz.call21 args w) ?_
 refine l7 (Fi := []) (Fr := []) b4I (h) (fun e9J a4d e9K E4 b2c e9L d6W c6p => ?_) (fun _ _ _ _ _ q => q.elim)
 obtain ⟨l9, b6l, rfl, rfl, h⟩ := c6p
 refine a7 (o2 _ _ _ rfl) ?_
 refine a7 (o2 _ _ (vi b6l) rfl) ?_
 refine z7 b2c Tryz.zeroValue53 (cs := [(vi 0), (vi 0), (eS), (nS)]) rfl fun g4a K5 c3O g0w => ?_
 refine m6 c3O Tryz.sizeOf53 (vs := (b7 l9)) (cs' := (b7 l9)) rfl rfl (nb rfl) rfl rfl fun c3x b7u c9c => ?_
 refine g9 (cap := []) (fun args w => Tryz.call22 args w) ?_
 refine l7 (Fi := []) (Fr := [bx g4a 53 (b7 l9)]) b7u (h) (fun k4e d3q k4f c3y e5t g2l k4g g3Y => ?_) (fun _ _ _ _ _ q => q.elim)
 obtain ⟨c7o, rfl, rfl, h⟩ := g3Y
 refine g9 (cap := []) (fun args w => Tryz.call22 args w) ?_
 refine l7 (Fi := []) (Fr := [bx g4a 53 (b7 l9)]) e5t (h) (fun d6T b4o f8V T7 c8N f8W f8X d2b => ?_) (fun _ _ _ _ _ q => q.elim)
 obtain ⟨a8a, rfl, rfl, h⟩ := d2b
 refine a5A (e := 53) (c := b7) (xs := [c7o, a8a]) c8N (d6k _ _ _ _ _ _ _ _ _ _ _ _) rfl rfl N7 N8 (nb rfl) fun d7J l1T g1W f9j k4j l1U => ?_
 refine a7 (d3B _ _ _ _ _) ?_
 obtain ⟨e5u, k4k, i6W, e4f, c5S⟩ := Inv.freezeC k4j f9j (by decide)
 replace h := h d7J e5u i6W e4f c5S
 refine g9 (cap := []) (fun args w => Tryz.call23 args w) ?_
 refine l7 (Fi := []) (Fr := [bx g4a 53 (b7 l9)]) k4k (h) (fun i3e b4s i3f d2f c5O e8x i3g e1N => ?_) (fun _ _ _ _ _ q => q.elim)
 obtain ⟨b1q, b3q, rfl, rfl, h⟩ := e1N
 refine a7 (o2 _ _ _ rfl) ?_
 refine a7 (o2 _ _ (vi b3q) rfl) ?_
 refine z7 c5O Tryz.zeroValue59 (cs := [(vi 0), (vi 0), (nS), (nS)]) rfl fun j7Y d0M j7Z k6O => ?_
 refine m6 j7Z Tryz.sizeOf59 (vs := (d6 b1q)) (cs' := (d6 b1q)) rfl rfl (nb rfl) rfl rfl fun a3H c3f k6P => ?_
 refine a7 (i8 _ _ _ _ _ _) ?_
 simp only [u5]
 refine a7 (Pu.g fun hb => by have b9 := hb; simp only [i7 b9]; exact (i8 _ _ _ _ _ _)) ?_
 refine a7 (s7 _ _) ?_
 refine a7 (Pu.g fun hb => by have b9 := hb; exact F7) ?_
 refine f7 (Ld.g fun hb => by have b9 := hb; simp only [i7 b9]; exact (ld1 Tryz.isAgg3 ((c3f.bring 1).at1 (o := 0) (vs := [(vi l9.b6)]) (nb rfl) rfl))) ?_
 refine a7 (Pu.g fun hb => by have b9 := hb; simp only [i7 b9]; exact (i8 _ _ _ _ _ _)) ?_
 refine a7 (s7 _ _) ?_
 refine a7 (Pu.g fun hb => by have b9 := hb; exact v8) ?_
 refine f7 (Ld.g fun hb => by have b9 := hb; simp only [i7 b9]; exact (ld1 Tryz.isAgg51 ((c3f.bring 1).at1 (o := 3) (vs := [(vs l9.i4)]) (nb rfl) rfl))) ?_
 refine a7 (Pu.g fun hb => by have b9 := hb; simp only [i7 b9]; exact (J3 _ _ _)) ?_
 refine a7 (Pu.g fun hb => by have b9 := hb; simp only [i7 b9]; exact (i8 _ _ _ _ _ _)) ?_
 refine a7 (s7 _ _) ?_
 refine a7 (Pu.g fun hb => by have b9 := hb; exact v8) ?_
 refine f7 (Ld.g fun hb => by have b9 := hb; simp only [i7 b9]; exact (ld1 Tryz.isAgg51 ((c3f.bring 1).at1 (o := 3) (vs := [(vs l9.i4)]) (nb rfl) rfl))) ?_
 obtain ⟨b1F, b8h, h⟩ := h
 obtain ⟨j7O, j7P, b8h⟩ := b3a b8h
 refine a7 (Pu.g fun hb => by have b9 := hb; simp only [i7 b9]; exact (A0 (b8h hb).2.2.1 _ _ _ _ (b8h hb).1 (b8h hb).2.1)) ?_
 refine a7 (Pu.g fun hb => by have b9 := hb; simp only [i7 b9]; exact F7) ?_
 refine f7 (Ld.g fun hb => by have b9 := hb; simp only [i7 b9]; exact (ld1 (v := (vi b1F.b6)) Tryz.isAgg3 ((c3f.atH (b8h hb).2.2.2).sub (k := 0) (n := 1) (nb rfl)))) ?_
 refine a7 (Pu.g fun hb => by have b9 := hb; simp only [i7 b9]; exact (i8 _ _ _ _ _ _)) ?_
 refine a7 (s7 _ _) ?_
 refine a7 (Pu.g fun hb => by have b9 := hb; exact v8) ?_
 refine f7 (Ld.g fun hb => by have b9 := hb; simp only [i7 b9]; exact (ld1 Tryz.isAgg51 ((c3f.bring 1).at1 (o := 3) (vs := [(vs l9.i4)]) (nb rfl) rfl))) ?_
 obtain ⟨d5u, d0V, h⟩ := h
 obtain ⟨k6Q, k6R, d0V⟩ := b3a d0V
 refine a7 (Pu.g fun hb => by have b9 := hb; simp only [i7 b9]; exact (A0 (d0V hb).2.2.1 _ _ _ _ (d0V hb).1 (d0V hb).2.1)) ?_
 refine a7 (Pu.g fun hb => by have b9 := hb; simp only [i7 b9]; exact a3E) ?_
 refine f7 (Ld.g fun hb => by have b9 := hb; simp only [i7 b9]; exact (ld1 (v := (vi d5u.m8)) Tryz.isAgg2 ((c3f.atH (d0V hb).2.2.2).sub (k := 1) (n := 1) (nb rfl)))) ?_
 refine a7 (Pu.g fun hb => by have b9 := hb; simp only [i7 b9]; exact (i8 _ _ _ _ _ _)) ?_
 refine a7 (s7 _ _) ?_
 refine a7 (Pu.g fun hb => by have b9 := hb; exact Q2) ?_
 refine f7 (Ld.g fun hb => by have b9 := hb; simp only [i7 b9]; exact (ld1 Tryz.isAgg3 (c3f.at1 (o := 0) (vs := [(vi b1q.b6)]) (nb rfl) rfl))) ?_
 refine a7 (Pu.g fun hb => by have b9 := hb; simp only [i7 b9]; exact (i8 _ _ _ _ _ _)) ?_
 refine a7 (s7 _ _) ?_
 exact hR (((((((decide (b6l = 0)) && (decide (b3q = 0))) && (decide (l9.b6 = 8))) && (decide ((l9.i4.n : Int) = 2))) && (decide (b1F.b6 = 1))) && (decide (d5u.m8 = 3))) && (decide (b1q.b6 = 1))) b4s _ c3f.drop.drop h
theorem b9f {H : Hp} {K : Bool → Hp → Prop} (h : a3R H K) : a7I H K := by
 intro w I
 refine j6N ?_
 refine b8F I (fun r0 H' w' I' hk => ⟨H', _, I', r0, rfl, rfl, hk⟩) h
def a6b (x0 : Int) (x1 : d8) (H : Hp) (K : Bool → Hp → Prop) : Prop :=
 ∃ x_1 : b8, ((decide (0 < (x1.m9.n : Int))) = true → (0 : Int) ≤ 0 ∧ (0 : Int) < x1.m9.n ∧ EltH H x1.m9 0 4 (d6 x_1)) ∧
 K ((decide (0 < (x1.m9.n : Int))) && (decide (x_1.b6 = x0))) H
theorem c1Z (x0 : Int) (x1 : d8) (g1 : Nat) {K : Bool → Hp → Prop} (I : Inv w0 ps0 H0 H [bx g1 73 (g8 x1)] w) (hR : ∀ (r0 : Bool) (H' : Hp) (w' : World) (_ : Inv w0 ps0 H0 H' [bx g1 73 (g8 x1)] w') (_ : K r0 H'), R (vB r0) w') (h : a6b x0 x1 H K) : F93 (vi x0) (Value.pointer (some ⟨g1, 0, none⟩)) w R E := by
 unfold a6b at h
 unfold F93
 refine a7 M3 ?_
 refine f7 (ld1 Tryz.isAgg57 (I.at1 (o := 3) (vs := [(vs x1.m9)]) (nb rfl) rfl)) ?_
 refine a7 (U9 _ _ _) ?_
 refine a7 (a4M _ _ _ _ _ _) ?_
 refine a7 (Pu.g fun hb => by have b9 := hb; exact M3) ?_
 refine f7 (Ld.g fun hb => by have b9 := hb; simp only [i7 b9]; exact (ld1 Tryz.isAgg57 (I.at1 (o := 3) (vs := [(vs x1.m9)]) (nb rfl) rfl))) ?_
 obtain ⟨x_1, h_7, h⟩ := h
 obtain ⟨g_2, o_3, h_7⟩ := b3a h_7
 refine a7 (Pu.g fun hb => by have b9 := hb; simp only [i7 b9]; exact (S7 (h_7 hb).2.2.1 _ _ _ _ (h_7 hb).1 (h_7 hb).2.1)) ?_
 refine a7 (Pu.g fun hb => by have b9 := hb; simp only [i7 b9]; exact Q2) ?_
 refine f7 (Ld.g fun hb => by have b9 := hb; simp only [i7 b9]; exact (ld1 (v := (vi x_1.b6)) Tryz.isAgg3 ((I.atH (h_7 hb).2.2.2).sub (k := 0) (n := 1) (nb rfl)))) ?_
 simp only [u5]
 refine a7 (Pu.g fun hb => by have b9 := hb; simp only [i7 b9]; exact (i8 _ _ _ _ _ _)) ?_
 refine a7 (s7 _ _) ?_
 exact hR ((decide (0 < (x1.m9.n : Int))) && (decide (x_1.b6 = x0))) H _ I h
theorem c2D (x0 : Int) (x1 : d8) {H : Hp} {K : Bool → Hp → Prop} (h : a6b x0 x1 H K) : O5 x0 x1 H K := by
 intro g1 w I
 refine j2Q ?_
 refine c1Z x0 x1 g1 I (fun r0 H' w' I' hk => ⟨H', _, I', r0, rfl, rfl, hk⟩) h
def K1 (d0W : Bool) (r7 : d8) (H : Hp) (K : Sl → Hp → Prop) : Prop :=
 (d0W = true →
 K (Sl.mk none 0 0) H) ∧
 (d0W = false →
 TG ((decide (r7.b6 = 3)) = true) (O5 1 r7 H) false H (fun (b9P : Bool) (b4W : Hp) =>
 (((decide (r7.b6 = 3)) && b9P) = true →
 K r7.v7 b4W) ∧
 (((decide (r7.b6 = 3)) && b9P) = false →
 TG ((decide (r7.b6 = 3)) = true) (O5 2 r7 b4W) false b4W (fun (b0q : Bool) (b0N : Hp) =>
 (((decide (r7.b6 = 3)) && b0q) = true →
 K r7.t7 b0N) ∧
 (((decide (r7.b6 = 3)) && b0q) = false →
 ∀ (b2V : Sl) (b6p : Hp), Hle b0N b6p → SlH b6p 6 g8 b2V [r7] → b2V.n ≤ b2V.c →
 K b2V b6p)))))
def a7C (x0 : d8) (H : Hp) (K : Sl → Hp → Prop) : Prop :=
 F0 x0.m9 H (fun (o6 : Sl) (H_8 : Hp) =>
 B4 x0.i6 H_8 (fun (o7 : Sl) (b2f : Hp) =>
 a1x x0.v7 b2f (fun (o8 : Sl) (b2h : Hp) =>
 a1x x0.t7 b2h (fun (l9 : Sl) (a4d : Hp) =>
 (x0.b6 = 7 →
 K1 (decide (x0.b6 = 7)) (d8.mk x0.b6 x0.g7 o7 o6 o8 l9) a4d K) ∧
 (¬ (x0.b6 = 7) →
 TG ((decide (x0.b6 = 6)) = true) (O5 1 (d8.mk x0.b6 x0.g7 o7 o6 o8 l9) a4d) false a4d (fun (a7O : Bool) (b0d : Hp) =>
 (((decide (x0.b6 = 6)) && a7O) = true →
 K1 ((decide (x0.b6 = 6)) && a7O) (d8.mk x0.b6 x0.g7 o7 o6 o8 l9) b0d K) ∧
 (((decide (x0.b6 = 6)) && a7O) = false →
 TG ((decide (x0.b6 = 4)) = true) (O5 2 (d8.mk x0.b6 x0.g7 o7 o6 o8 l9) b0d) false b0d (fun (b3Z : Bool) (b6q : Hp) =>
 K1 ((decide (x0.b6 = 4)) && b3Z) (d8.mk x0.b6 x0.g7 o7 o6 o8 l9) b6q K))))))))
theorem c4d (x0 : d8) {K : Sl → Hp → Prop} (I : Inv w0 ps0 H0 H [] w) (hR : ∀ (r0 : Sl) (H' : Hp) (w' : World) (_ : Inv w0 ps0 H0 H' [] w') (_ : K r0 H'), R (vs r0) w') (h : a7C x0 H K) : F54 (Value.agg (g8 x0).toArray) w R E := by
 unfold a7C at h
 unfold F54
 refine J5 I (cs := (g8 x0)) rfl fun g_2 w_3 I_4 k_5 => ?_
 refine a5z I_4 fun w_6 I_7 => ?_
 refine q9 M3 ?_
 refine q9 R8 ?_
 refine A5 (ld1 Tryz.isAgg57 (I_7.at1 (o := 3) (vs := [(vs x0.m9)]) (nb rfl) rfl)) ?_
 refine A5 (ld1 Tryz.isAgg51 (I_7.at1 (o := 2) (vs := [(vs x0.i6)]) (nb rfl) rfl)) ?_
 refine g9 (cap := []) (fun args w => Tryz.call71 args w) ?_
 refine l7 (Fi := []) (Fr := [bx g_2 73 (g8 x0)]) I_7 (h) (fun f9s H_8 f9t w_9 b2N c5X c0N d2i => ?_) (fun _ _ _ _ _ q => q.elim)
 obtain ⟨o6, rfl, rfl, h⟩ := d2i
 refine ⟨(c0N _ I_7.lt1 (Inv.a3h (Fi := []) I_7)), ?_⟩
 refine q9 M3 ?_
 refine g9 (cap := []) (fun args w => Tryz.call66 args w) ?_
 refine l7 (Fi := []) (Fr := [bx g_2 73 (g8 x0)]) b2N (h) (fun f9u b2f f9v s8 c0O f9w d7d d2j => ?_) (fun _ _ _ _ _ q => q.elim)
 obtain ⟨o7, rfl, rfl, h⟩ := d2j
 refine m6 c0O Tryz.sizeOf57 (vs := [(vs o6)]) (cs' := [(vi x0.b6), (Value.string x0.g7), (vs x0.i6), (vs o6), (vs x0.v7), (vs x0.t7)]) rfl rfl (nb rfl) rfl rfl fun z2 c3N e9P => ?_
 refine q9 R8 ?_
 refine m6 c3N Tryz.sizeOf51 (vs := [(vs o7)]) (cs' := [(vi x0.b6), (Value.string x0.g7), (vs o7), (vs o6), (vs x0.v7), (vs x0.t7)]) rfl rfl (nb rfl) rfl rfl fun a4y T8 a9i => ?_
 refine a5z T8 fun B6 a4B => ?_
 refine q9 Y7 ?_
 refine q9 W5 ?_
 refine A5 (ld1 Tryz.isAgg23 (a4B.at1 (o := 4) (vs := [(vs x0.v7)]) (nb rfl) rfl)) ?_
 refine A5 (ld1 Tryz.isAgg23 (a4B.at1 (o := 5) (vs := [(vs x0.t7)]) (nb rfl) rfl)) ?_
 refine g9 (cap := []) (fun args w => Tryz.call31 args w) ?_
 refine l7 (Fi := []) (Fr := [bx g_2 73 [(vi x0.b6), (Value.string x0.g7), (vs o7), (vs o6), (vs x0.v7), (vs x0.t7)]]) a4B (h) (fun i3u b2h i3v b6U a5D b0K b7a e2B => ?_) (fun _ _ _ _ _ q => q.elim)
 obtain ⟨o8, rfl, rfl, h⟩ := e2B
 refine ⟨(b7a _ a4B.lt1 (Inv.a3h (Fi := []) a4B)), ?_⟩
 refine q9 Y7 ?_
 refine g9 (cap := []) (fun args w => Tryz.call31 args w) ?_
 refine l7 (Fi := []) (Fr := [bx g_2 73 [(vi x0.b6), (Value.string x0.g7), (vs o7), (vs o6), (vs x0.v7), (vs x0.t7)]]) a5D (h) (fun e9J a4d e9K E4 b2c e9L d6W c6p => ?_) (fun _ _ _ _ _ q => q.elim)
 obtain ⟨l9, rfl, rfl, h⟩ := c6p
 refine m6 b2c Tryz.sizeOf23 (vs := [(vs o8)]) (cs' := [(vi x0.b6), (Value.string x0.g7), (vs o7), (vs o6), (vs o8), (vs x0.t7)]) rfl rfl (nb rfl) rfl rfl fun N0 k4l l1V => ?_
 refine q9 W5 ?_
 refine m6 k4l Tryz.sizeOf23 (vs := [(vs l9)]) (cs' := [(vi x0.b6), (Value.string x0.g7), (vs o7), (vs o6), (vs o8), (vs l9)]) rfl rfl (nb rfl) rfl rfl fun c3w c8T l1W => ?_
 refine a7 (c3o _ _ _) ?_
 have hj1 : ∀ (d0W : Bool) (H : Hp) (w : World) (_ : Inv w0 ps0 H0 H [bx g_2 73 [(vi (d8.mk x0.b6 x0.g7 o7 o6 o8 l9).b6), (Value.string (d8.mk x0.b6 x0.g7 o7 o6 o8 l9).g7), (Value.slice (d8.mk x0.b6 x0.g7 o7 o6 o8 l9).i6.a (d8.mk x0.b6 x0.g7 o7 o6 o8 l9).i6.n (d8.mk x0.b6 x0.g7 o7 o6 o8 l9).i6.c), (Value.slice (d8.mk x0.b6 x0.g7 o7 o6 o8 l9).m9.a (d8.mk x0.b6 x0.g7 o7 o6 o8 l9).m9.n (d8.mk x0.b6 x0.g7 o7 o6 o8 l9).m9.c), (Value.slice (d8.mk x0.b6 x0.g7 o7 o6 o8 l9).v7.a (d8.mk x0.b6 x0.g7 o7 o6 o8 l9).v7.n (d8.mk x0.b6 x0.g7 o7 o6 o8 l9).v7.c), (Value.slice (d8.mk x0.b6 x0.g7 o7 o6 o8 l9).t7.a (d8.mk x0.b6 x0.g7 o7 o6 o8 l9).t7.n (d8.mk x0.b6 x0.g7 o7 o6 o8 l9).t7.c)]] w) (_ : K1 d0W (d8.mk x0.b6 x0.g7 o7 o6 o8 l9) H K), e4R (Value.pointer (some ⟨g_2, 0, none⟩)) (Value.func (.func 93) #[] #[(Value.pointer (some ⟨g_2, 0, none⟩))]) (vB d0W) w R E := by
  intro d0W H w I h
  unfold e4R
  intro _
  unfold K1 at h
  refine o0 (fun d2S => ?_) (fun d2S => ?_)
  ·replace h := h.1 d2S
   exact hR (Sl.mk none 0 0) H _ I.drop h
  ·replace h := h.2 d2S
   refine a7 O4 ?_
   refine f7 (ld1 Tryz.isAgg3 (I.at1 (o := 0) (vs := [(vi (d8.mk x0.b6 x0.g7 o7 o6 o8 l9).b6)]) (nb rfl) rfl)) ?_
   refine a7 (i8 _ _ _ _ _ _) ?_
   simp only [u5]
   refine X8 (D := fun g4b b1c => ∃ (b9P : Bool) (b4W : Hp) , g4b = (gv (decide ((d8.mk x0.b6 x0.g7 o7 o6 o8 l9).b6 = 3)) true (vB b9P)) ∧ (Inv w0 ps0 H0 b4W [bx g_2 73 [(vi (d8.mk x0.b6 x0.g7 o7 o6 o8 l9).b6), (Value.string (d8.mk x0.b6 x0.g7 o7 o6 o8 l9).g7), (Value.slice (d8.mk x0.b6 x0.g7 o7 o6 o8 l9).i6.a (d8.mk x0.b6 x0.g7 o7 o6 o8 l9).i6.n (d8.mk x0.b6 x0.g7 o7 o6 o8 l9).i6.c), (Value.slice (d8.mk x0.b6 x0.g7 o7 o6 o8 l9).m9.a (d8.mk x0.b6 x0.g7 o7 o6 o8 l9).m9.n (d8.mk x0.b6 x0.g7 o7 o6 o8 l9).m9.c), (Value.slice (d8.mk x0.b6 x0.g7 o7 o6 o8 l9).v7.a (d8.mk x0.b6 x0.g7 o7 o6 o8 l9).v7.n (d8.mk x0.b6 x0.g7 o7 o6 o8 l9).v7.c), (Value.slice (d8.mk x0.b6 x0.g7 o7 o6 o8 l9).t7.a (d8.mk x0.b6 x0.g7 o7 o6 o8 l9).t7.n (d8.mk x0.b6 x0.g7 o7 o6 o8 l9).t7.c)]] b1c) ∧ (∀ i, i < w.heap.size → ¬ inF [bx g_2 73 [(vi (d8.mk x0.b6 x0.g7 o7 o6 o8 l9).b6), (Value.string (d8.mk x0.b6 x0.g7 o7 o6 o8 l9).g7), (Value.slice (d8.mk x0.b6 x0.g7 o7 o6 o8 l9).i6.a (d8.mk x0.b6 x0.g7 o7 o6 o8 l9).i6.n (d8.mk x0.b6 x0.g7 o7 o6 o8 l9).i6.c), (Value.slice (d8.mk x0.b6 x0.g7 o7 o6 o8 l9).m9.a (d8.mk x0.b6 x0.g7 o7 o6 o8 l9).m9.n (d8.mk x0.b6 x0.g7 o7 o6 o8 l9).m9.c), (Value.slice (d8.mk x0.b6 x0.g7 o7 o6 o8 l9).v7.a (d8.mk x0.b6 x0.g7 o7 o6 o8 l9).v7.n (d8.mk x0.b6 x0.g7 o7 o6 o8 l9).v7.c), (Value.slice (d8.mk x0.b6 x0.g7 o7 o6 o8 l9).t7.a (d8.mk x0.b6 x0.g7 o7 o6 o8 l9).t7.n (d8.mk x0.b6 x0.g7 o7 o6 o8 l9).t7.c)]] i → b1c.heap[i]? = w.heap[i]?) ∧ Hle H b4W ∧ ((((decide ((d8.mk x0.b6 x0.g7 o7 o6 o8 l9).b6 = 3)) && b9P) = true →
 K (d8.mk x0.b6 x0.g7 o7 o6 o8 l9).v7 b4W) ∧
 (((decide ((d8.mk x0.b6 x0.g7 o7 o6 o8 l9).b6 = 3)) && b9P) = false →
 TG ((decide ((d8.mk x0.b6 x0.g7 o7 o6 o8 l9).b6 = 3)) = true) (O5 2 (d8.mk x0.b6 x0.g7 o7 o6 o8 l9) b4W) false b4W (fun (b0q : Bool) (b0N : Hp) =>
 (((decide ((d8.mk x0.b6 x0.g7 o7 o6 o8 l9).b6 = 3)) && b0q) = true →
 K (d8.mk x0.b6 x0.g7 o7 o6 o8 l9).t7 b0N) ∧
 (((decide ((d8.mk x0.b6 x0.g7 o7 o6 o8 l9).b6 = 3)) && b0q) = false →
 ∀ (b2V : Sl) (b6p : Hp), Hle b0N b6p → SlH b6p 6 g8 b2V [(d8.mk x0.b6 x0.g7 o7 o6 o8 l9)] → b2V.n ≤ b2V.c →
 K b2V b6p))))) (fun e5v => ?_) (fun e5v => ?_) ?_
   ·replace h := h.1 e5v
    have b9 := e5v
    simp only [i7 b9]
    refine g9 (cap := [(Value.pointer (some ⟨g_2, 0, none⟩))]) (fun args w => Tryz.call93 args w) ?_
    refine l7 (Fi := [bx g_2 73 [(vi (d8.mk x0.b6 x0.g7 o7 o6 o8 l9).b6), (Value.string (d8.mk x0.b6 x0.g7 o7 o6 o8 l9).g7), (Value.slice (d8.mk x0.b6 x0.g7 o7 o6 o8 l9).i6.a (d8.mk x0.b6 x0.g7 o7 o6 o8 l9).i6.n (d8.mk x0.b6 x0.g7 o7 o6 o8 l9).i6.c), (Value.slice (d8.mk x0.b6 x0.g7 o7 o6 o8 l9).m9.a (d8.mk x0.b6 x0.g7 o7 o6 o8 l9).m9.n (d8.mk x0.b6 x0.g7 o7 o6 o8 l9).m9.c), (Value.slice (d8.mk x0.b6 x0.g7 o7 o6 o8 l9).v7.a (d8.mk x0.b6 x0.g7 o7 o6 o8 l9).v7.n (d8.mk x0.b6 x0.g7 o7 o6 o8 l9).v7.c), (Value.slice (d8.mk x0.b6 x0.g7 o7 o6 o8 l9).t7.a (d8.mk x0.b6 x0.g7 o7 o6 o8 l9).t7.n (d8.mk x0.b6 x0.g7 o7 o6 o8 l9).t7.c)]]) (Fr := []) I (h g_2) (fun g4b b4W l1X b1c d3s e3X j3k k4m => ?_) (fun _ _ _ _ _ q => q.elim)
    obtain ⟨b9P, rfl, rfl, h⟩ := k4m
    exact ⟨b9P, b4W, by rfl, d3s, j3k, e3X, h⟩
   ·exact ⟨false, H, by rw [a4L e5v], I, fun _ _ _ => rfl, Hle.refl _, h.2 e5v⟩
   ·clear h
    rintro g4b b1c ⟨b9P, b4W, rfl, d3s, j3k, e3X, h⟩
    refine a7 (s7 _ _) ?_
    refine o0 (fun d2I => ?_) (fun d2I => ?_)
    ·replace h := h.1 d2I
     refine a7 Y7 ?_
     refine f7 (ld1 Tryz.isAgg23 (d3s.at1 (o := 4) (vs := [(Value.slice (d8.mk x0.b6 x0.g7 o7 o6 o8 l9).v7.a (d8.mk x0.b6 x0.g7 o7 o6 o8 l9).v7.n (d8.mk x0.b6 x0.g7 o7 o6 o8 l9).v7.c)]) (nb rfl) rfl)) ?_
     exact hR (d8.mk x0.b6 x0.g7 o7 o6 o8 l9).v7 b4W _ d3s.drop h
    ·replace h := h.2 d2I
     refine a7 O4 ?_
     refine f7 (ld1 Tryz.isAgg3 (d3s.at1 (o := 0) (vs := [(vi (d8.mk x0.b6 x0.g7 o7 o6 o8 l9).b6)]) (nb rfl) rfl)) ?_
     refine a7 (i8 _ _ _ _ _ _) ?_
     simp only [u5]
     refine X8 (D := fun e9d T2 => ∃ (b0q : Bool) (b0N : Hp) , e9d = (gv (decide ((d8.mk x0.b6 x0.g7 o7 o6 o8 l9).b6 = 3)) true (vB b0q)) ∧ (Inv w0 ps0 H0 b0N [bx g_2 73 [(vi (d8.mk x0.b6 x0.g7 o7 o6 o8 l9).b6), (Value.string (d8.mk x0.b6 x0.g7 o7 o6 o8 l9).g7), (Value.slice (d8.mk x0.b6 x0.g7 o7 o6 o8 l9).i6.a (d8.mk x0.b6 x0.g7 o7 o6 o8 l9).i6.n (d8.mk x0.b6 x0.g7 o7 o6 o8 l9).i6.c), (Value.slice (d8.mk x0.b6 x0.g7 o7 o6 o8 l9).m9.a (d8.mk x0.b6 x0.g7 o7 o6 o8 l9).m9.n (d8.mk x0.b6 x0.g7 o7 o6 o8 l9).m9.c), (Value.slice (d8.mk x0.b6 x0.g7 o7 o6 o8 l9).v7.a (d8.mk x0.b6 x0.g7 o7 o6 o8 l9).v7.n (d8.mk x0.b6 x0.g7 o7 o6 o8 l9).v7.c), (Value.slice (d8.mk x0.b6 x0.g7 o7 o6 o8 l9).t7.a (d8.mk x0.b6 x0.g7 o7 o6 o8 l9).t7.n (d8.mk x0.b6 x0.g7 o7 o6 o8 l9).t7.c)]] T2) ∧ (∀ i, i < b1c.heap.size → ¬ inF [bx g_2 73 [(vi (d8.mk x0.b6 x0.g7 o7 o6 o8 l9).b6), (Value.string (d8.mk x0.b6 x0.g7 o7 o6 o8 l9).g7), (Value.slice (d8.mk x0.b6 x0.g7 o7 o6 o8 l9).i6.a (d8.mk x0.b6 x0.g7 o7 o6 o8 l9).i6.n (d8.mk x0.b6 x0.g7 o7 o6 o8 l9).i6.c), (Value.slice (d8.mk x0.b6 x0.g7 o7 o6 o8 l9).m9.a (d8.mk x0.b6 x0.g7 o7 o6 o8 l9).m9.n (d8.mk x0.b6 x0.g7 o7 o6 o8 l9).m9.c), (Value.slice (d8.mk x0.b6 x0.g7 o7 o6 o8 l9).v7.a (d8.mk x0.b6 x0.g7 o7 o6 o8 l9).v7.n (d8.mk x0.b6 x0.g7 o7 o6 o8 l9).v7.c), (Value.slice (d8.mk x0.b6 x0.g7 o7 o6 o8 l9).t7.a (d8.mk x0.b6 x0.g7 o7 o6 o8 l9).t7.n (d8.mk x0.b6 x0.g7 o7 o6 o8 l9).t7.c)]] i → T2.heap[i]? = b1c.heap[i]?) ∧ Hle b4W b0N ∧ ((((decide ((d8.mk x0.b6 x0.g7 o7 o6 o8 l9).b6 = 3)) && b0q) = true →
 K (d8.mk x0.b6 x0.g7 o7 o6 o8 l9).t7 b0N) ∧
 (((decide ((d8.mk x0.b6 x0.g7 o7 o6 o8 l9).b6 = 3)) && b0q) = false →
 ∀ (b2V : Sl) (b6p : Hp), Hle b0N b6p → SlH b6p 6 g8 b2V [(d8.mk x0.b6 x0.g7 o7 o6 o8 l9)] → b2V.n ≤ b2V.c →
 K b2V b6p))) (fun e5w => ?_) (fun e5w => ?_) ?_
     ·replace h := h.1 e5w
      have b9 := e5w
      simp only [i7 b9]
      refine g9 (cap := [(Value.pointer (some ⟨g_2, 0, none⟩))]) (fun args w => Tryz.call93 args w) ?_
      refine l7 (Fi := [bx g_2 73 [(vi (d8.mk x0.b6 x0.g7 o7 o6 o8 l9).b6), (Value.string (d8.mk x0.b6 x0.g7 o7 o6 o8 l9).g7), (Value.slice (d8.mk x0.b6 x0.g7 o7 o6 o8 l9).i6.a (d8.mk x0.b6 x0.g7 o7 o6 o8 l9).i6.n (d8.mk x0.b6 x0.g7 o7 o6 o8 l9).i6.c), (Value.slice (d8.mk x0.b6 x0.g7 o7 o6 o8 l9).m9.a (d8.mk x0.b6 x0.g7 o7 o6 o8 l9).m9.n (d8.mk x0.b6 x0.g7 o7 o6 o8 l9).m9.c), (Value.slice (d8.mk x0.b6 x0.g7 o7 o6 o8 l9).v7.a (d8.mk x0.b6 x0.g7 o7 o6 o8 l9).v7.n (d8.mk x0.b6 x0.g7 o7 o6 o8 l9).v7.c), (Value.slice (d8.mk x0.b6 x0.g7 o7 o6 o8 l9).t7.a (d8.mk x0.b6 x0.g7 o7 o6 o8 l9).t7.n (d8.mk x0.b6 x0.g7 o7 o6 o8 l9).t7.c)]]) (Fr := []) d3s (h g_2) (fun e9d b0N k1l T2 b7b f9n e1S f9o => ?_) (fun _ _ _ _ _ q => q.elim)
      obtain ⟨b0q, rfl, rfl, h⟩ := f9o
      exact ⟨b0q, b0N, by rfl, b7b, e1S, f9n, h⟩
     ·exact ⟨false, b4W, by rw [a4L e5w], d3s, fun _ _ _ => rfl, Hle.refl _, h.2 e5w⟩
     ·clear h
      rintro e9d T2 ⟨b0q, b0N, rfl, b7b, e1S, f9n, h⟩
      refine a7 (s7 _ _) ?_
      refine o0 (fun d2N => ?_) (fun d2N => ?_)
      ·replace h := h.1 d2N
       refine a7 W5 ?_
       refine f7 (ld1 Tryz.isAgg23 (b7b.at1 (o := 5) (vs := [(Value.slice (d8.mk x0.b6 x0.g7 o7 o6 o8 l9).t7.a (d8.mk x0.b6 x0.g7 o7 o6 o8 l9).t7.n (d8.mk x0.b6 x0.g7 o7 o6 o8 l9).t7.c)]) (nb rfl) rfl)) ?_
       exact hR (d8.mk x0.b6 x0.g7 o7 o6 o8 l9).t7 b0N _ b7b.drop h
      ·replace h := h.2 d2N
       refine f7 (ldA Tryz.isAgg73 Tryz.sizeOf73 rfl (b7b.at1 (o := 0) (vs := [(vi (d8.mk x0.b6 x0.g7 o7 o6 o8 l9).b6), (Value.string (d8.mk x0.b6 x0.g7 o7 o6 o8 l9).g7), (Value.slice (d8.mk x0.b6 x0.g7 o7 o6 o8 l9).i6.a (d8.mk x0.b6 x0.g7 o7 o6 o8 l9).i6.n (d8.mk x0.b6 x0.g7 o7 o6 o8 l9).i6.c), (Value.slice (d8.mk x0.b6 x0.g7 o7 o6 o8 l9).m9.a (d8.mk x0.b6 x0.g7 o7 o6 o8 l9).m9.n (d8.mk x0.b6 x0.g7 o7 o6 o8 l9).m9.c), (Value.slice (d8.mk x0.b6 x0.g7 o7 o6 o8 l9).v7.a (d8.mk x0.b6 x0.g7 o7 o6 o8 l9).v7.n (d8.mk x0.b6 x0.g7 o7 o6 o8 l9).v7.c), (Value.slice (d8.mk x0.b6 x0.g7 o7 o6 o8 l9).t7.a (d8.mk x0.b6 x0.g7 o7 o6 o8 l9).t7.n (d8.mk x0.b6 x0.g7 o7 o6 o8 l9).t7.c)]) (nb rfl) rfl)) ?_
       refine a5A (e := 73) (c := g8) (xs := [(d8.mk x0.b6 x0.g7 o7 o6 o8 l9)]) b7b (d6l _ _ _ _ _ _ _ _ _ _ _ _ _ _) rfl rfl a3F a9p (nb rfl) fun b2V l1Y b8M f2F f3c k4n => ?_
       obtain ⟨b6p, g3S, e1I, e5q, c6L⟩ := Inv.freezeC f3c f2F (by decide)
       replace h := h b2V b6p e1I e5q c6L
       exact hR b2V b6p _ g3S.drop h
 refine t6 fun j1 hx1 => ?_
 refine a7 O4 ?_
 refine f7 (ld1 Tryz.isAgg3 (c8T.at1 (o := 0) (vs := [(vi x0.b6)]) (nb rfl) rfl)) ?_
 refine a7 (i8 _ _ _ _ _ _) ?_
 refine k7 (fun b6h => ?_) (fun b6h => ?_)
 ·replace h := h.1 b6h
  exact hx1 _ _ (hj1 (decide (x0.b6 = 7)) a4d _ c8T h)
 ·replace h := h.2 b6h
  refine a7 O4 ?_
  refine f7 (ld1 Tryz.isAgg3 (c8T.at1 (o := 0) (vs := [(vi x0.b6)]) (nb rfl) rfl)) ?_
  refine a7 (i8 _ _ _ _ _ _) ?_
  simp only [u5]
  refine X8 (D := fun e8Y V4 => ∃ (a7O : Bool) (b0d : Hp) , e8Y = (gv (decide (x0.b6 = 6)) true (vB a7O)) ∧ (Inv w0 ps0 H0 b0d [bx g_2 73 [(vi x0.b6), (Value.string x0.g7), (vs o7), (vs o6), (vs o8), (vs l9)]] V4) ∧ (∀ i, i < c3w.heap.size → ¬ inF [bx g_2 73 [(vi x0.b6), (Value.string x0.g7), (vs o7), (vs o6), (vs o8), (vs l9)]] i → V4.heap[i]? = c3w.heap[i]?) ∧ Hle a4d b0d ∧ ((((decide (x0.b6 = 6)) && a7O) = true →
 K1 ((decide (x0.b6 = 6)) && a7O) (d8.mk x0.b6 x0.g7 o7 o6 o8 l9) b0d K) ∧
 (((decide (x0.b6 = 6)) && a7O) = false →
 TG ((decide (x0.b6 = 4)) = true) (O5 2 (d8.mk x0.b6 x0.g7 o7 o6 o8 l9) b0d) false b0d (fun (b3Z : Bool) (b6q : Hp) =>
 K1 ((decide (x0.b6 = 4)) && b3Z) (d8.mk x0.b6 x0.g7 o7 o6 o8 l9) b6q K)))) (fun d5v => ?_) (fun d5v => ?_) ?_
  ·replace h := h.1 d5v
   have b9 := d5v
   simp only [i7 b9]
   refine g9 (cap := [(Value.pointer (some ⟨g_2, 0, none⟩))]) (fun args w => Tryz.call93 args w) ?_
   refine l7 (Fi := [bx g_2 73 [(vi x0.b6), (Value.string x0.g7), (vs o7), (vs o6), (vs o8), (vs l9)]]) (Fr := []) c8T (h g_2) (fun e8Y b0d k1g V4 c5U e8Z f9l f9m => ?_) (fun _ _ _ _ _ q => q.elim)
   obtain ⟨a7O, rfl, rfl, h⟩ := f9m
   exact ⟨a7O, b0d, by rfl, c5U, f9l, e8Z, h⟩
  ·exact ⟨false, a4d, by rw [a4L d5v], c8T, fun _ _ _ => rfl, Hle.refl _, h.2 d5v⟩
  ·clear h
   rintro e8Y V4 ⟨a7O, b0d, rfl, c5U, f9l, e8Z, h⟩
   refine a7 (s7 _ _) ?_
   refine o0 (fun c5V => ?_) (fun c5V => ?_)
   ·replace h := h.1 c5V
    exact hx1 _ _ (hj1 ((decide (x0.b6 = 6)) && a7O) b0d _ c5U h)
   ·replace h := h.2 c5V
    refine a7 O4 ?_
    refine f7 (ld1 Tryz.isAgg3 (c5U.at1 (o := 0) (vs := [(vi x0.b6)]) (nb rfl) rfl)) ?_
    refine a7 (i8 _ _ _ _ _ _) ?_
    simp only [u5]
    refine X8 (D := fun f3d b8f => ∃ (b3Z : Bool) (b6q : Hp) , f3d = (gv (decide (x0.b6 = 4)) true (vB b3Z)) ∧ (Inv w0 ps0 H0 b6q [bx g_2 73 [(vi x0.b6), (Value.string x0.g7), (vs o7), (vs o6), (vs o8), (vs l9)]] b8f) ∧ (∀ i, i < V4.heap.size → ¬ inF [bx g_2 73 [(vi x0.b6), (Value.string x0.g7), (vs o7), (vs o6), (vs o8), (vs l9)]] i → b8f.heap[i]? = V4.heap[i]?) ∧ Hle b0d b6q ∧ (K1 ((decide (x0.b6 = 4)) && b3Z) (d8.mk x0.b6 x0.g7 o7 o6 o8 l9) b6q K)) (fun c6Q => ?_) (fun c6Q => ?_) ?_
    ·replace h := h.1 c6Q
     have b9 := c6Q
     simp only [i7 b9]
     refine g9 (cap := [(Value.pointer (some ⟨g_2, 0, none⟩))]) (fun args w => Tryz.call93 args w) ?_
     refine l7 (Fi := [bx g_2 73 [(vi x0.b6), (Value.string x0.g7), (vs o7), (vs o6), (vs o8), (vs l9)]]) (Fr := []) c5U (h g_2) (fun f3d b6q k6S b8f f3e g5I g5J j8a => ?_) (fun _ _ _ _ _ q => q.elim)
     obtain ⟨b3Z, rfl, rfl, h⟩ := j8a
     exact ⟨b3Z, b6q, by rfl, f3e, g5J, g5I, h⟩
    ·exact ⟨false, b0d, by rw [a4L c6Q], c5U, fun _ _ _ => rfl, Hle.refl _, h.2 c6Q⟩
    ·clear h
     rintro f3d b8f ⟨b3Z, b6q, rfl, f3e, g5J, g5I, h⟩
     refine a7 (s7 _ _) ?_
     exact hx1 _ _ (hj1 ((decide (x0.b6 = 4)) && b3Z) b6q _ f3e h)
theorem c5j (x0 : d8) {H : Hp} {K : Sl → Hp → Prop} (h : a7C x0 H K) : b0H x0 H K := by
 intro w I
 refine j0U ?_
 refine c4d x0 I (fun r0 H' w' I' hk => ⟨H', _, I', r0, rfl, rfl, hk⟩) h
def a4t (b6r : (List d8)) (H : Hp) (K : Sl → Hp → Prop) : Prop :=
 ∀ (a6U : Sl) (b2h : Hp), Hle H b2h → SlH b2h 6 g8 a6U b6r → a6U.n ≤ a6U.c →
 K a6U b2h
def a4u (j3l : Sl) (b0e : Int) (Y8 : (List d8)) (O0 : Int) (H : Hp) (n2 : ((List d8) × Int) → Hp → Prop) (K : Sl → Hp → Prop) : Prop :=
 (O0 < b0e →
 (0 : Int) ≤ O0 ∧ (O0 : Int) < j3l.n ∧ ∃ x_1 : d8, EltH H j3l O0 6 (g8 x_1) ∧
 b0H x_1 H (fun (D7 : Sl) (R6 : Hp) =>
 ∃ d5w : List d8, SlH R6 6 g8 D7 d5w ∧ (Y8.length + d5w.length) * 121 ≤ 140737488355328 ∧
 n2 ((Y8 ++ d5w), (IntKind.wrap .i64 (O0 + 1))) R6)) ∧
 (¬ (O0 < b0e) →
 a4t Y8 H K)
def a6V (x0 : Sl) (H : Hp) (K : Sl → Hp → Prop) : Prop :=
 TL (([], 0) : (List d8) × Int) H fun (s : (List d8) × Int) H n2 => a4u x0 (x0.n : Int) s.1 s.2 H n2 K
theorem c2E (x0 : Sl) {K : Sl → Hp → Prop} (I : Inv w0 ps0 H0 H [] w) (hR : ∀ (r0 : Sl) (H' : Hp) (w' : World) (_ : Inv w0 ps0 H0 H' [] w') (_ : K r0 H'), R (vs r0) w') (h : a6V x0 H K) : F31 (vs x0) w R E := by
 unfold a6V at h
 unfold F31
 have hj1 : ∀ (b6r : (List d8)) (a6U : Sl) (Fs3j1 : Frag) (H : Hp) (w : World) (_ : RowL 73 6 g8 a6U b6r Fs3j1) (_ : Inv w0 ps0 H0 H [Fs3j1] w) (_ : a4t b6r H K), e4C (vs a6U) w R E := by
  intro b6r a6U Fs3j1 H w f3f I h
  unfold e4C
  intro _
  unfold a4t at h
  obtain ⟨b2h, a4b, c8Y, e1W, b0b⟩ := Inv.freezeC I f3f (by decide)
  replace h := h a6U b2h c8Y e1W b0b
  exact hR a6U b2h _ a4b h
 refine t6 fun j1 hx1 => ?_
 refine a7 (W4 _ _ _) ?_
 obtain ⟨g4c, e5x, k4o, k4p⟩ := h
 refine B5 (J := fun n l w => ∃ (s : (List d8) × Int) (H : Hp) (a7D : Sl) (Fs3l2 : Frag) , n = e5x s ∧ l = (match s with | (Y8, O0) => [(vs a7D), (vi O0)]) ∧ (match s with | (Y8, O0) => RowL 73 6 g8 a7D Y8 Fs3l2) ∧ (match s with | (Y8, O0) => Inv w0 ps0 H0 H [Fs3l2] w) ∧ g4c s H) ⟨_, ([], 0), H, (Sl.mk none 0 0), [], rfl, rfl, (RowL.nil a3F a9p), I.nil, k4o⟩ ?_
 rintro l1Z τ_45 w next2 ⟨⟨Y8, O0⟩, H, a7D, Fs3l2, rfl, f3g, c7p, I, k4q⟩ hn2
 dsimp only at f3g I c7p
 simp only [List.map_cons, List.map_nil, List.cons.injEq, and_true] at f3g
 obtain ⟨e3, e8⟩ := f3g
 simp only [e3, e8]
 obtain ⟨n2, hm2, h⟩ : ∃ n2 : ((List d8) × Int) → Hp → Prop, (∀ s' H', n2 s' H' → g4c s' H' ∧ e5x s' < e5x (Y8, O0)) ∧ a4u x0 (x0.n : Int) Y8 O0 H n2 K := ⟨_, fun _ _ h => h, k4p (Y8, O0) H (fun s' H' => g4c s' H' ∧ e5x s' < e5x (Y8, O0)) k4q (fun _ _ a b => ⟨a, b⟩)⟩
 unfold f7y
 unfold a4u at h
 refine a7 (w9 _ _ _ _ _ _) ?_
 refine k7 (fun g4d => ?_) (fun g4d => ?_)
 ·replace h := h.1 g4d
  obtain ⟨h_4, h_5, x_1, h_7, h⟩ := h
  obtain ⟨g_2, o_3, h_6, h_7⟩ := h_7
  refine a7 (a0m h_6 _ _ _ _ h_4 h_5) ?_
  refine f7 (ldA (vs := (g8 x_1)) Tryz.isAgg73 Tryz.sizeOf73 rfl (I.atH h_7)) ?_
  refine z7 I Tryz.zeroValue73 (cs := [(vi 0), (eS), (nS), (nS), (nS), (nS)]) rfl fun g_9 p5 a3l b4q => ?_
  refine m6 a3l Tryz.sizeOf73 (vs := (g8 x_1)) (cs' := (g8 x_1)) rfl rfl (nb rfl) rfl rfl fun a2s L9 a4z => ?_
  refine f7 (ldA Tryz.isAgg73 Tryz.sizeOf73 rfl (L9.at1 (o := 0) (vs := (g8 x_1)) (nb rfl) rfl)) ?_
  refine g9 (cap := []) (fun args w => Tryz.call54 args w) ?_
  refine l7 (Fi := []) (Fr := [bx g_9 73 (g8 x_1), Fs3l2]) L9 (h) (fun c3E R6 c0F a1B a3y c3F c0G a9Z => ?_) (fun _ _ _ _ _ q => q.elim)
  obtain ⟨D7, rfl, rfl, h⟩ := a9Z
  obtain ⟨d5w, k4r, h⟩ := h
  obtain ⟨k4s, h⟩ := h
  refine c8f (s := a7D) (xs := Y8) (a3y.bring 1) c7p (SlH.src (a3y.bring 1) k4r a3F) k4s fun k4t k4u a3k g2e b8Z e9X => ?_
  refine a7 (y6 _ _ _ _ _ _) ?_
  exact hn2 _ _ _ (hm2 _ _ h).2 ⟨((Y8 ++ d5w), (IntKind.wrap .i64 (O0 + 1))), R6, k4t, k4u, rfl, rfl, g2e, (b8Z.bring 1).drop, (hm2 _ _ h).1⟩
 ·replace h := h.2 g4d
  exact hx1 _ _ (hj1 Y8 a7D Fs3l2 H _ c7p I h)
theorem c4e (x0 : Sl) {H : Hp} {K : Sl → Hp → Prop} (h : a6V x0 H K) : a1x x0 H K := by
 intro w I
 refine i9k ?_
 refine c2E x0 I (fun r0 H' w' I' hk => ⟨H', _, I', r0, rfl, rfl, hk⟩) h
def a7E (x0 : m5) (H : Hp) (K : m5 → Int → Hp → Prop) : Prop :=
 b2E x0 H (fun (o9 : m5) (d0X : Int) (a1j : Hp) =>
 (¬ (d0X = 0) →
 K (m5.mk (Sl.mk none 0 0) (Sl.mk none 0 0)) d0X a1j) ∧
 (d0X = 0 →
 a1x o9.V3 a1j (fun (U7 : Sl) (b2O : Hp) =>
 K (m5.mk o9.z8 U7) 0 b2O)))
theorem c4f (x0 : m5) {K : m5 → Int → Hp → Prop} (I : Inv w0 ps0 H0 H [] w) (hR : ∀ (r0 : m5) (r1 : Int) (H' : Hp) (w' : World) (_ : Inv w0 ps0 H0 H' [] w') (_ : K r0 r1 H'), R (Value.tuple #[(Value.agg (k4 r0).toArray), (vi r1)]) w') (h : a7E x0 H K) : F12 (Value.agg (k4 x0).toArray) w R E := by
 unfold a7E at h
 unfold F12
 refine J5 I (cs := (k4 x0)) rfl fun g_2 w_3 I_4 k_5 => ?_
 refine z7 I_4 Tryz.zeroValue25 (cs := [(nS), (nS)]) rfl fun g_7 w_8 I_9 b0M => ?_
 refine f7 (ldA Tryz.isAgg25 Tryz.sizeOf25 rfl ((I_9.bring 1).at1 (o := 0) (vs := (k4 x0)) (nb rfl) rfl)) ?_
 refine g9 (cap := []) (fun args w => Tryz.call25 args w) ?_
 refine l7 (Fi := []) (Fr := [bx g_7 25 [(nS), (nS)], bx g_2 25 (k4 x0)]) I_9 (h) (fun d2A a1j d2B q8 a8L c6v d2C b4H => ?_) (fun _ _ _ _ _ q => q.elim)
 obtain ⟨o9, d0X, rfl, rfl, h⟩ := b4H
 refine a7 (o2 _ _ _ rfl) ?_
 refine a7 (o2 _ _ (vi d0X) rfl) ?_
 refine z7 a8L Tryz.zeroValue25 (cs := [(nS), (nS)]) rfl fun e9W u7 k4v l2a => ?_
 refine m6 k4v Tryz.sizeOf25 (vs := (k4 o9)) (cs' := (k4 o9)) rfl rfl (nb rfl) rfl rfl fun b6S e4n k3q => ?_
 refine a7 (M7 _ _ _ _ _ _) ?_
 refine a4f (fun c1m => ?_) (fun c1m => ?_)
 ·replace h := h.1 c1m
  refine a7 (c8d ) ?_
  refine m6 (e4n.bring 1) Tryz.sizeOf25 (vs := [(nS), (nS)]) (cs' := [(nS), (nS)]) rfl rfl (nb rfl) rfl rfl fun B3 b8Z e9X => ?_
  refine B0 Tryz.isAgg25 Tryz.sizeOf25 rfl (b8Z.at1 (o := 0) (vs := [(nS), (nS)]) (nb rfl) rfl) ?_
  exact hR (m5.mk (Sl.mk none 0 0) (Sl.mk none 0 0)) d0X a1j _ b8Z.drop.drop.drop h
 ·replace h := h.2 c1m
  refine a7 a3D ?_
  refine f7 (ld1 Tryz.isAgg23 (e4n.at1 (o := 1) (vs := [(vs o9.V3)]) (nb rfl) rfl)) ?_
  refine g9 (cap := []) (fun args w => Tryz.call31 args w) ?_
  refine l7 (Fi := []) (Fr := [bx e9W 25 (k4 o9), bx g_7 25 [(nS), (nS)], bx g_2 25 (k4 x0)]) e4n (h) (fun e2s b2O i3q B6 a4B b0O c6o e2t => ?_) (fun _ _ _ _ _ q => q.elim)
  obtain ⟨U7, rfl, rfl, h⟩ := e2t
  refine a7 a3D ?_
  refine m6 a4B Tryz.sizeOf23 (vs := [(vs U7)]) (cs' := [(vs o9.z8), (vs U7)]) rfl rfl (nb rfl) rfl rfl fun I4 c1a e2u => ?_
  refine f7 (ldA Tryz.isAgg25 Tryz.sizeOf25 rfl (c1a.at1 (o := 0) (vs := [(vs o9.z8), (vs U7)]) (nb rfl) rfl)) ?_
  refine m6 (c1a.bring 1) Tryz.sizeOf25 (vs := [(vs o9.z8), (vs U7)]) (cs' := [(vs o9.z8), (vs U7)]) rfl rfl (nb rfl) rfl rfl fun b3E b4w d6Z => ?_
  refine B0 Tryz.isAgg25 Tryz.sizeOf25 rfl (b4w.at1 (o := 0) (vs := [(vs o9.z8), (vs U7)]) (nb rfl) rfl) ?_
  exact hR (m5.mk o9.z8 U7) 0 b2O _ b4w.drop.drop.drop h
theorem c5k (x0 : m5) {H : Hp} {K : m5 → Int → Hp → Prop} (h : a7E x0 H K) : b0I x0 H K := by
 intro w I
 refine i9a ?_
 refine c4f x0 I (fun r0 r1 H' w' I' hk => ⟨H', _, I', r0, r1, rfl, rfl, hk⟩) h
def a5F (x0 : a8) (H : Hp) (K : Int → Bool → Hp → Prop) : Prop :=
 (x0.b6 = 1 →
 K x0.m8 true H) ∧
 (¬ (x0.b6 = 1) →
 ∃ x_6 : a8, ((decide (x0.b6 = 5)) = true → (0 : Int) ≤ 0 ∧ (0 : Int) < x0.i4.n ∧ EltH H x0.i4 0 4 (b7 x_6)) ∧
 (((decide (x0.b6 = 5)) && (decide (x_6.b6 = 1))) = true →
 (0 : Int) ≤ 0 ∧ (0 : Int) < x0.i4.n ∧ ∃ a3A : a8, EltH H x0.i4 0 4 (b7 a3A) ∧
 K (IntKind.wrap .i64 (0 - a3A.m8)) true H) ∧
 (((decide (x0.b6 = 5)) && (decide (x_6.b6 = 1))) = false →
 K 0 false H))
theorem b6s (x0 : a8) {K : Int → Bool → Hp → Prop} (I : Inv w0 ps0 H0 H [] w) (hR : ∀ (r0 : Int) (r1 : Bool) (H' : Hp) (w' : World) (_ : Inv w0 ps0 H0 H' [] w') (_ : K r0 r1 H'), R (Value.tuple #[(vi r0), (vB r1)]) w') (h : a5F x0 H K) : F94 (Value.agg (b7 x0).toArray) w R E := by
 unfold a5F at h
 unfold F94
 refine J5 I (cs := (b7 x0)) rfl fun g_2 w_3 I_4 k_5 => ?_
 refine a7 F7 ?_
 refine f7 (ld1 Tryz.isAgg3 (I_4.at1 (o := 0) (vs := [(vi x0.b6)]) (nb rfl) rfl)) ?_
 refine a7 (i8 _ _ _ _ _ _) ?_
 refine k7 (fun b1r => ?_) (fun b1r => ?_)
 ·replace h := h.1 b1r
  refine a7 a3E ?_
  refine f7 (ld1 Tryz.isAgg2 (I_4.at1 (o := 1) (vs := [(vi x0.m8)]) (nb rfl) rfl)) ?_
  exact hR x0.m8 true H _ I_4.drop h
 ·replace h := h.2 b1r
  refine a7 F7 ?_
  refine f7 (ld1 Tryz.isAgg3 (I_4.at1 (o := 0) (vs := [(vi x0.b6)]) (nb rfl) rfl)) ?_
  refine a7 (i8 _ _ _ _ _ _) ?_
  refine a7 (Pu.g fun hb => by have b9 := hb; exact v8) ?_
  refine f7 (Ld.g fun hb => by have b9 := hb; simp only [i7 b9]; exact (ld1 Tryz.isAgg51 (I_4.at1 (o := 3) (vs := [(vs x0.i4)]) (nb rfl) rfl))) ?_
  obtain ⟨x_6, b7M, h⟩ := h
  obtain ⟨g_7, o_8, b7M⟩ := b3a b7M
  refine a7 (Pu.g fun hb => by have b9 := hb; simp only [i7 b9]; exact (A0 (b7M hb).2.2.1 _ _ _ _ (b7M hb).1 (b7M hb).2.1)) ?_
  refine a7 (Pu.g fun hb => by have b9 := hb; simp only [i7 b9]; exact F7) ?_
  refine f7 (Ld.g fun hb => by have b9 := hb; simp only [i7 b9]; exact (ld1 (v := (vi x_6.b6)) Tryz.isAgg3 ((I_4.atH (b7M hb).2.2.2).sub (k := 0) (n := 1) (nb rfl)))) ?_
  refine a7 (Pu.g fun hb => by have b9 := hb; simp only [i7 b9]; exact (i8 _ _ _ _ _ _)) ?_
  refine a7 (s7 _ _) ?_
  refine o0 (fun a8M => ?_) (fun a8M => ?_)
  ·replace h := h.1 a8M
   refine a7 v8 ?_
   refine f7 (ld1 Tryz.isAgg51 (I_4.at1 (o := 3) (vs := [(vs x0.i4)]) (nb rfl) rfl)) ?_
   obtain ⟨a7J, b7t, a3A, a6E, h⟩ := h
   obtain ⟨e9U, e9V, c6A, a6E⟩ := a6E
   refine a7 (A0 c6A _ _ _ _ a7J b7t) ?_
   refine a7 a3E ?_
   refine f7 (ld1 (v := (vi a3A.m8)) Tryz.isAgg2 ((I_4.atH a6E).sub (k := 1) (n := 1) (nb rfl))) ?_
   refine a7 (c4m _ _) ?_
   exact hR (IntKind.wrap .i64 (0 - a3A.m8)) true H _ I_4.drop h
  ·replace h := h.2 a8M
   exact hR 0 false H _ I_4.drop h
theorem b6L (x0 : a8) {H : Hp} {K : Int → Bool → Hp → Prop} (h : a5F x0 H K) : K3 x0 H K := by
 intro w I
 refine j2T ?_
 refine b6s x0 I (fun r0 r1 H' w' I' hk => ⟨H', _, I', r0, r1, rfl, rfl, hk⟩) h
def a6c (x0 : a8) (x1 : Int) (H : Hp) (K : Bool → Hp → Prop) : Prop :=
 K3 x0 H (fun (C1 : Int) (b2o : Bool) (H_6 : Hp) =>
 K (b2o && (decide (C1 = x1))) H_6)
theorem c2a (x0 : a8) (x1 : Int) {K : Bool → Hp → Prop} (I : Inv w0 ps0 H0 H [] w) (hR : ∀ (r0 : Bool) (H' : Hp) (w' : World) (_ : Inv w0 ps0 H0 H' [] w') (_ : K r0 H'), R (vB r0) w') (h : a6c x0 x1 H K) : F99 (Value.agg (b7 x0).toArray) (vi x1) w R E := by
 unfold a6c at h
 unfold F99
 refine J5 I (cs := (b7 x0)) rfl fun g_2 w_3 I_4 k_5 => ?_
 refine f7 (ldA Tryz.isAgg53 Tryz.sizeOf53 rfl (I_4.at1 (o := 0) (vs := (b7 x0)) (nb rfl) rfl)) ?_
 refine g9 (cap := []) (fun args w => Tryz.call94 args w) ?_
 refine l7 (Fi := []) (Fr := [bx g_2 53 (b7 x0)]) I_4 (h) (fun b7c H_6 b5P w_7 I_8 b7d k_9 a6w => ?_) (fun _ _ _ _ _ q => q.elim)
 obtain ⟨C1, b2o, rfl, rfl, h⟩ := a6w
 refine a7 (o2 _ _ (vi C1) rfl) ?_
 refine a7 (o2 _ _ (vB b2o) rfl) ?_
 simp only [u5]
 refine a7 (Pu.g fun hb => by have b9 := hb; simp only [i7 b9]; exact (i8 _ _ _ _ _ _)) ?_
 refine a7 (s7 _ _) ?_
 exact hR (b2o && (decide (C1 = x1))) H_6 _ I_8.drop h
theorem c2F (x0 : a8) (x1 : Int) {H : Hp} {K : Bool → Hp → Prop} (h : a6c x0 x1 H K) : z6 x0 x1 H K := by
 intro w I
 refine j2Z ?_
 refine c2a x0 x1 I (fun r0 H' w' I' hk => ⟨H', _, I', r0, rfl, rfl, hk⟩) h
def a3S (x0 : Int) (H : Hp) (K : a8 → Hp → Prop) : Prop :=
 (0 ≤ x0 →
 K (a8.mk 1 x0 ⟨#[]⟩ (Sl.mk none 0 0)) H) ∧
 (¬ (0 ≤ x0) →
 ∀ (c4g : Sl) (Q4 : Hp), Hle H Q4 → SlH Q4 4 b7 c4g [(a8.mk 1 (IntKind.wrap .i64 (0 - x0)) ⟨#[]⟩ (Sl.mk none 0 0))] → c4g.n ≤ c4g.c →
 K (a8.mk 5 0 ⟨#[]⟩ c4g) Q4)
theorem b8G (x0 : Int) {K : a8 → Hp → Prop} (I : Inv w0 ps0 H0 H [] w) (hR : ∀ (r0 : a8) (H' : Hp) (w' : World) (_ : Inv w0 ps0 H0 H' [] w') (_ : K r0 H'), R (Value.agg (b7 r0).toArray) w') (h : a3S x0 H K) : F97 (vi x0) w R E := by
 unfold a3S at h
 unfold F97
 refine z7 I Tryz.zeroValue53 (cs := [(vi 0), (vi 0), (eS), (nS)]) rfl fun g_2 w_3 I_4 k_5 => ?_
 refine a7 (a7M _ _ _ _ _ _) ?_
 refine k7 (fun b4K => ?_) (fun b4K => ?_)
 ·replace h := h.1 b4K
  refine a7 (b1R _ _) ?_
  refine m6 I_4 Tryz.sizeOf53 (vs := [(vi 1), (vi x0), (eS), (nS)]) (cs' := [(vi 1), (vi x0), (eS), (nS)]) rfl rfl (nb rfl) rfl rfl fun w_6 I_7 k_8 => ?_
  refine B0 Tryz.isAgg53 Tryz.sizeOf53 rfl (I_7.at1 (o := 0) (vs := [(vi 1), (vi x0), (eS), (nS)]) (nb rfl) rfl) ?_
  exact hR (a8.mk 1 x0 ⟨#[]⟩ (Sl.mk none 0 0)) H _ I_7.drop h
 ·replace h := h.2 b4K
  refine a7 (c4m _ _) ?_
  refine a7 (b1R _ _) ?_
  refine a5A (e := 53) (c := b7) (xs := [(a8.mk 1 (IntKind.wrap .i64 (0 - x0)) ⟨#[]⟩ (Sl.mk none 0 0))]) I_4 (b6N _ _ _ _ _ _) rfl rfl N7 N8 (nb rfl) fun c4g b5P q8 f9p L9 a4z => ?_
  refine a7 (b4b _ _ _ _) ?_
  refine m6 (L9.bring 1) Tryz.sizeOf53 (vs := [(vi 5), (vi 0), (eS), (vs c4g)]) (cs' := [(vi 5), (vi 0), (eS), (vs c4g)]) rfl rfl (nb rfl) rfl rfl fun r8 b5M e1J => ?_
  refine B0 Tryz.isAgg53 Tryz.sizeOf53 rfl (b5M.at1 (o := 0) (vs := [(vi 5), (vi 0), (eS), (vs c4g)]) (nb rfl) rfl) ?_
  obtain ⟨Q4, b3L, k4w, e2E, b7w⟩ := Inv.freezeC (b5M.bring 1) f9p (by decide)
  replace h := h c4g Q4 k4w e2E b7w
  exact hR (a8.mk 5 0 ⟨#[]⟩ c4g) Q4 _ b3L.drop h
theorem b9g (x0 : Int) {H : Hp} {K : a8 → Hp → Prop} (h : a3S x0 H K) : a3L x0 H K := by
 intro w I
 refine j2X ?_
 refine b8G x0 I (fun r0 H' w' I' hk => ⟨H', _, I', r0, rfl, rfl, hk⟩) h
def T9 (C6 : a8) (e5n : a8) (S5 : a8) (H : Hp) (K : a8 → Hp → Prop) : Prop :=
 ∃ d9q : a8, ((decide (C6.b6 = 6)) = true → (0 : Int) ≤ 1 ∧ (1 : Int) < C6.i4.n ∧ EltH H C6.i4 1 4 (b7 d9q)) ∧
 TG ((decide (C6.b6 = 6)) = true) (z6 d9q 0 H) false H (fun (b6t : Bool) (a8m : Hp) =>
 (((decide (C6.b6 = 6)) && b6t) = true →
 (0 : Int) ≤ 0 ∧ (0 : Int) < C6.i4.n ∧ ∃ b6u : a8, EltH a8m C6.i4 0 4 (b7 b6u) ∧
 K b6u a8m) ∧
 (((decide (C6.b6 = 6)) && b6t) = false →
 ∃ c7q : a8, ((decide (C6.b6 = 6)) = true → (0 : Int) ≤ 0 ∧ (0 : Int) < C6.i4.n ∧ EltH a8m C6.i4 0 4 (b7 c7q)) ∧
 TG ((decide (C6.b6 = 6)) = true) (z6 c7q 0 a8m) false a8m (fun (b1V : Bool) (a3T : Hp) =>
 (((decide (C6.b6 = 6)) && b1V) = true →
 (0 : Int) ≤ 1 ∧ (1 : Int) < C6.i4.n ∧ ∃ b2q : a8, EltH a3T C6.i4 1 4 (b7 b2q) ∧
 K b2q a3T) ∧
 (((decide (C6.b6 = 6)) && b1V) = false →
 ∃ b8i : a8, ((decide (C6.b6 = 7)) = true → (0 : Int) ≤ 1 ∧ (1 : Int) < C6.i4.n ∧ EltH a3T C6.i4 1 4 (b7 b8i)) ∧
 TG ((decide (C6.b6 = 7)) = true) (z6 b8i 0 a3T) false a3T (fun (a8O : Bool) (a0W : Hp) =>
 (((decide (C6.b6 = 7)) && a8O) = true →
 (0 : Int) ≤ 0 ∧ (0 : Int) < C6.i4.n ∧ ∃ a9K : a8, EltH a0W C6.i4 0 4 (b7 a9K) ∧
 K a9K a0W) ∧
 (((decide (C6.b6 = 7)) && a8O) = false →
 ∃ b3r : a8, (((decide (C6.b6 = 8)) || (decide (C6.b6 = 9))) = true → (0 : Int) ≤ 1 ∧ (1 : Int) < C6.i4.n ∧ EltH a0W C6.i4 1 4 (b7 b3r)) ∧
 TG (((decide (C6.b6 = 8)) || (decide (C6.b6 = 9))) = true) (z6 b3r 1 a0W) false a0W (fun (a6j : Bool) (U8 : Hp) =>
 ((((decide (C6.b6 = 8)) || (decide (C6.b6 = 9))) && a6j) = true →
 (0 : Int) ≤ 0 ∧ (0 : Int) < C6.i4.n ∧ ∃ a7F : a8, EltH U8 C6.i4 0 4 (b7 a7F) ∧
 K a7F U8) ∧
 ((((decide (C6.b6 = 8)) || (decide (C6.b6 = 9))) && a6j) = false →
 ∃ b0y : a8, ((decide (C6.b6 = 8)) = true → (0 : Int) ≤ 0 ∧ (0 : Int) < C6.i4.n ∧ EltH U8 C6.i4 0 4 (b7 b0y)) ∧
 TG ((decide (C6.b6 = 8)) = true) (z6 b0y 1 U8) false U8 (fun (a3C : Bool) (a1w : Hp) =>
 (((decide (C6.b6 = 8)) && a3C) = true →
 (0 : Int) ≤ 1 ∧ (1 : Int) < C6.i4.n ∧ ∃ a5s : a8, EltH a1w C6.i4 1 4 (b7 a5s) ∧
 K a5s a1w) ∧
 (((decide (C6.b6 = 8)) && a3C) = false →
 K C6 a1w))))))))))
def U0 (k4x : Int) (c9r : Bool) (b2U : Int) (a7u : a8) (Q7 : a8) (N9 : a8) (H : Hp) (K : a8 → Hp → Prop) : Prop :=
 (c9r = true →
 a9X a7u.b6 k4x b2U H (fun (c9H : Int) (d5x : Int) (d9r : Hp) =>
 (((decide (d5x = 0)) && (!decide (c9H = (-9223372036854775808)))) = true →
 a3L c9H d9r (fun (c5l : a8) (f3h : Hp) =>
 K c5l f3h)) ∧
 (((decide (d5x = 0)) && (!decide (c9H = (-9223372036854775808)))) = false →
 T9 a7u Q7 N9 d9r K))) ∧
 (c9r = false →
 T9 a7u Q7 N9 H K)
def a2Y (f2 : Int) (f5 : Int) (f6 : ByteArray) (a3U : (List a8)) (m7 : a8) (r7 : a8) (H : Hp) (K : a8 → Hp → Prop) : Prop :=
 ∀ (d5 : Sl) (e5y : Hp), Hle H e5y → SlH e5y 4 b7 d5 a3U → d5.n ≤ d5.c →
 K3 (a8.mk f2 f5 f6 d5) e5y (fun (f3i : Int) (d9s : Bool) (d7K : Hp) =>
 (d9s = true →
 a3L f3i d7K (fun (d0Y : a8) (g4e : Hp) =>
 K d0Y g4e)) ∧
 (d9s = false →
 (f2 < 5 →
 K (a8.mk f2 f5 f6 d5) d7K) ∧
 (¬ (f2 < 5) →
 (0 : Int) ≤ 0 ∧ (0 : Int) < d5.n ∧ ∃ f3j : a8, EltH d7K d5 0 4 (b7 f3j) ∧
 K3 f3j d7K (fun (b1q : Int) (b3q : Bool) (b4s : Hp) =>
 ((d5.n : Int) = 2 →
 (0 : Int) ≤ 1 ∧ (1 : Int) < d5.n ∧ ∃ f3k : a8, EltH b4s d5 1 4 (b7 f3k) ∧
 K3 f3k b4s (fun (d5y : Int) (d5z : Bool) (f3l : Hp) =>
 U0 b1q (b3q && d5z) d5y (a8.mk f2 f5 f6 d5) m7 r7 f3l K)) ∧
 (¬ ((d5.n : Int) = 2) →
 U0 b1q b3q 0 (a8.mk f2 f5 f6 d5) m7 r7 b4s K)))))
def a2Z (Q8 : a8) (a5e : Int) (a2v : Int) (a2w : Int) (a2x : ByteArray) (a0X : (List a8)) (T5 : a8) (H : Hp) (n4 : (Int × Int × Int × ByteArray × (List a8) × a8) → Hp → Prop) (K : a8 → Hp → Prop) : Prop :=
 (a5e < (Q8.i4.n : Int) →
 (0 : Int) ≤ a5e ∧ (a5e : Int) < Q8.i4.n ∧ ∃ d9t : a8, EltH H Q8.i4 a5e 4 (b7 d9t) ∧
 a1L d9t H (fun (c9I : a8) (f3m : Hp) =>
 (a0X.length + ([c9I] : List a8).length) * 57 ≤ 140737488355328 ∧
 n4 ((IntKind.wrap .i64 (a5e + 1)), a2v, a2w, a2x, (a0X ++ [c9I]), T5) f3m)) ∧
 (¬ (a5e < (Q8.i4.n : Int)) →
 a2Y a2v a2w a2x a0X T5 Q8 H K)
def a4v (x0 : a8) (H : Hp) (K : a8 → Hp → Prop) : Prop :=
 TL ((0, x0.b6, x0.m8, x0.g7, [], (a8.mk 0 0 ⟨#[]⟩ (Sl.mk none 0 0))) : Int × Int × Int × ByteArray × (List a8) × a8) H fun (s : Int × Int × Int × ByteArray × (List a8) × a8) H n4 => a2Z x0 s.1 s.2.1 s.2.2.1 s.2.2.2.1 s.2.2.2.2.1 s.2.2.2.2.2 H n4 K
theorem b9h (x0 : a8) {K : a8 → Hp → Prop} (I : Inv w0 ps0 H0 H [] w) (hR : ∀ (r0 : a8) (H' : Hp) (w' : World) (_ : Inv w0 ps0 H0 H' [] w') (_ : K r0 H'), R (Value.agg (b7 r0).toArray) w') (h : a4v x0 H K) : F56 (Value.agg (b7 x0).toArray) w R E := by
 unfold a4v at h
 unfold F56
 refine J5 I (cs := (b7 x0)) rfl fun g_2 w_3 I_4 k_5 => ?_
 refine z7 I_4 Tryz.zeroValue53 (cs := [(vi 0), (vi 0), (eS), (nS)]) rfl fun g_7 w_8 I_9 b0M => ?_
 refine a7 F7 ?_
 refine f7 (ld1 Tryz.isAgg3 ((I_9.bring 1).at1 (o := 0) (vs := [(vi x0.b6)]) (nb rfl) rfl)) ?_
 refine a7 a3E ?_
 refine f7 (ld1 Tryz.isAgg2 ((I_9.bring 1).at1 (o := 1) (vs := [(vi x0.m8)]) (nb rfl) rfl)) ?_
 refine a7 b3e ?_
 refine f7 (ld1 Tryz.isAgg9 ((I_9.bring 1).at1 (o := 2) (vs := [(Value.string x0.g7)]) (nb rfl) rfl)) ?_
 refine a7 (d3E _ _ _) ?_
 refine z7 I_9 Tryz.zeroValue53 (cs := [(vi 0), (vi 0), (eS), (nS)]) rfl fun P4 a2s L9 a4z => ?_
 refine m6 L9 Tryz.sizeOf53 (vs := [(vi x0.b6), (vi x0.m8), (Value.string x0.g7), (nS)]) (cs' := [(vi x0.b6), (vi x0.m8), (Value.string x0.g7), (nS)]) rfl rfl (nb rfl) rfl rfl fun r8 b5M e1J => ?_
 have hj1 : ∀ (f2 : Int) (f5 : Int) (f6 : ByteArray) (a3U : (List a8)) (m7 : a8) (d5 : Sl) (Fcr_11j1_3 : Frag) (H : Hp) (w : World) (_ : RowL 53 4 b7 d5 a3U Fcr_11j1_3) (_ : Inv w0 ps0 H0 H [bx P4 53 [(vi f2), (vi f5), (Value.string f6), (vs d5)], bx g_7 53 (b7 m7), bx g_2 53 (b7 x0), Fcr_11j1_3] w) (_ : a2Y f2 f5 f6 a3U m7 x0 H K), e5e (Value.pointer (some ⟨g_7, 0, none⟩)) (Value.pointer (some ⟨P4, 0, none⟩)) w R E := by
  intro f2 f5 f6 a3U m7 d5 Fcr_11j1_3 H w c7r I h
  unfold e5e
  intro _
  unfold a2Y at h
  refine f7 (ldA Tryz.isAgg53 Tryz.sizeOf53 rfl (I.at1 (o := 0) (vs := [(vi f2), (vi f5), (Value.string f6), (vs d5)]) (nb rfl) rfl)) ?_
  obtain ⟨e5y, c3O, d7i, e1Q, e1R⟩ := Inv.freezeC (I.bring 3) c7r (by decide)
  replace h := h d5 e5y d7i e1Q e1R
  refine g9 (cap := []) (fun args w => Tryz.call94 args w) ?_
  refine l7 (Fi := []) (Fr := [bx P4 53 [(vi f2), (vi f5), (Value.string f6), (vs d5)], bx g_7 53 (b7 m7), bx g_2 53 (b7 x0)]) c3O (h) (fun l2b d7K l2c Q3 c4h f0E k4y k4z => ?_) (fun _ _ _ _ _ q => q.elim)
  obtain ⟨f3i, d9s, rfl, rfl, h⟩ := k4z
  refine a7 (o2 _ _ (vi f3i) rfl) ?_
  refine a7 (o2 _ _ (vB d9s) rfl) ?_
  refine o0 (fun f3n => ?_) (fun f3n => ?_)
  ·replace h := h.1 f3n
   refine g9 (cap := []) (fun args w => Tryz.call97 args w) ?_
   refine l7 (Fi := []) (Fr := [bx P4 53 [(vi f2), (vi f5), (Value.string f6), (vs d5)], bx g_7 53 (b7 m7), bx g_2 53 (b7 x0)]) c4h (h) (fun l2d g4e l2e b6V k4A i1h l2f k4B => ?_) (fun _ _ _ _ _ q => q.elim)
   obtain ⟨d0Y, rfl, rfl, h⟩ := k4B
   refine m6 (k4A.bring 1) Tryz.sizeOf53 (vs := (b7 d0Y)) (cs' := (b7 d0Y)) rfl rfl (nb rfl) rfl rfl fun f9i c8P l2g => ?_
   refine B0 Tryz.isAgg53 Tryz.sizeOf53 rfl (c8P.at1 (o := 0) (vs := (b7 d0Y)) (nb rfl) rfl) ?_
   exact hR d0Y g4e _ c8P.drop.drop.drop h
  ·replace h := h.2 f3n
   refine a7 F7 ?_
   refine f7 (ld1 Tryz.isAgg3 (c4h.at1 (o := 0) (vs := [(vi f2)]) (nb rfl) rfl)) ?_
   refine a7 (w9 _ _ _ _ _ _) ?_
   refine k7 (fun f3o => ?_) (fun f3o => ?_)
   ·replace h := h.1 f3o
    refine f7 (ldA Tryz.isAgg53 Tryz.sizeOf53 rfl (c4h.at1 (o := 0) (vs := [(vi f2), (vi f5), (Value.string f6), (vs d5)]) (nb rfl) rfl)) ?_
    refine m6 (c4h.bring 1) Tryz.sizeOf53 (vs := [(vi f2), (vi f5), (Value.string f6), (vs d5)]) (cs' := [(vi f2), (vi f5), (Value.string f6), (vs d5)]) rfl rfl (nb rfl) rfl rfl fun Y5 f3c k4n => ?_
    refine B0 Tryz.isAgg53 Tryz.sizeOf53 rfl (f3c.at1 (o := 0) (vs := [(vi f2), (vi f5), (Value.string f6), (vs d5)]) (nb rfl) rfl) ?_
    exact hR (a8.mk f2 f5 f6 d5) d7K _ f3c.drop.drop.drop h
   ·replace h := h.2 f3o
    refine a7 v8 ?_
    refine f7 (ld1 Tryz.isAgg51 (c4h.at1 (o := 3) (vs := [(vs d5)]) (nb rfl) rfl)) ?_
    obtain ⟨e5q, c6L, f3j, c5S, h⟩ := h
    obtain ⟨l2h, l2i, e4f, c5S⟩ := c5S
    refine a7 (A0 e4f _ _ _ _ e5q c6L) ?_
    refine f7 (ldA (vs := (b7 f3j)) Tryz.isAgg53 Tryz.sizeOf53 rfl (c4h.atH c5S)) ?_
    refine g9 (cap := []) (fun args w => Tryz.call94 args w) ?_
    refine l7 (Fi := []) (Fr := [bx P4 53 [(vi f2), (vi f5), (Value.string f6), (vs d5)], bx g_7 53 (b7 m7), bx g_2 53 (b7 x0)]) c4h (h) (fun i3e b4s i3f d2f c5O e8x i3g e1N => ?_) (fun _ _ _ _ _ q => q.elim)
    obtain ⟨b1q, b3q, rfl, rfl, h⟩ := e1N
    refine a7 (o2 _ _ (vi b1q) rfl) ?_
    refine a7 (o2 _ _ (vB b3q) rfl) ?_
    have hj2 : ∀ (c9r : Bool) (b2U : Int) (H : Hp) (w : World) (_ : Inv w0 ps0 H0 H [bx P4 53 [(vi (a8.mk f2 f5 f6 d5).b6), (vi (a8.mk f2 f5 f6 d5).m8), (Value.string (a8.mk f2 f5 f6 d5).g7), (Value.slice (a8.mk f2 f5 f6 d5).i4.a (a8.mk f2 f5 f6 d5).i4.n (a8.mk f2 f5 f6 d5).i4.c)], bx g_7 53 (b7 m7), bx g_2 53 (b7 x0)] w) (_ : U0 b1q c9r b2U (a8.mk f2 f5 f6 d5) m7 x0 H K), e5d (Value.pointer (some ⟨g_7, 0, none⟩)) (Value.pointer (some ⟨P4, 0, none⟩)) (vi b1q) (vB c9r) (vi b2U) w R E := by
     intro c9r b2U H w I h
     unfold e5d
     intro _
     unfold U0 at h
     have hj3 : ∀ (H : Hp) (w : World) (_ : Inv w0 ps0 H0 H [bx P4 53 [(vi (a8.mk f2 f5 f6 d5).b6), (vi (a8.mk f2 f5 f6 d5).m8), (Value.string (a8.mk f2 f5 f6 d5).g7), (Value.slice (a8.mk f2 f5 f6 d5).i4.a (a8.mk f2 f5 f6 d5).i4.n (a8.mk f2 f5 f6 d5).i4.c)], bx g_7 53 (b7 m7), bx g_2 53 (b7 x0)] w) (_ : T9 (a8.mk f2 f5 f6 d5) m7 x0 H K), e5c (Value.pointer (some ⟨g_7, 0, none⟩)) (Value.pointer (some ⟨P4, 0, none⟩)) w R E := by
      intro H w I h
      unfold e5c
      intro _
      unfold T9 at h
      refine a7 F7 ?_
      refine f7 (ld1 Tryz.isAgg3 (I.at1 (o := 0) (vs := [(vi (a8.mk f2 f5 f6 d5).b6)]) (nb rfl) rfl)) ?_
      refine a7 (i8 _ _ _ _ _ _) ?_
      refine a7 (Pu.g fun hb => by have b9 := hb; exact v8) ?_
      refine f7 (Ld.g fun hb => by have b9 := hb; simp only [i7 b9]; exact (ld1 Tryz.isAgg51 (I.at1 (o := 3) (vs := [(Value.slice (a8.mk f2 f5 f6 d5).i4.a (a8.mk f2 f5 f6 d5).i4.n (a8.mk f2 f5 f6 d5).i4.c)]) (nb rfl) rfl))) ?_
      obtain ⟨d9q, d0Z, h⟩ := h
      obtain ⟨k6T, k6U, d0Z⟩ := b3a d0Z
      refine a7 (Pu.g fun hb => by have b9 := hb; simp only [i7 b9]; exact (A0 (d0Z hb).2.2.1 _ _ _ _ (d0Z hb).1 (d0Z hb).2.1)) ?_
      refine f7 (Ld.g fun hb => by have b9 := hb; simp only [i7 b9]; exact (ldA (vs := (b7 d9q)) Tryz.isAgg53 Tryz.sizeOf53 rfl (I.atH (d0Z hb).2.2.2))) ?_
      refine X8 (D := fun f3p a5H => ∃ (b6t : Bool) (a8m : Hp) , f3p = (gv (decide ((a8.mk f2 f5 f6 d5).b6 = 6)) true (vB b6t)) ∧ (Inv w0 ps0 H0 a8m [bx P4 53 [(vi (a8.mk f2 f5 f6 d5).b6), (vi (a8.mk f2 f5 f6 d5).m8), (Value.string (a8.mk f2 f5 f6 d5).g7), (Value.slice (a8.mk f2 f5 f6 d5).i4.a (a8.mk f2 f5 f6 d5).i4.n (a8.mk f2 f5 f6 d5).i4.c)], bx g_7 53 (b7 m7), bx g_2 53 (b7 x0)] a5H) ∧ (∀ i, i < w.heap.size → ¬ inF [] i → a5H.heap[i]? = w.heap[i]?) ∧ Hle H a8m ∧ ((((decide ((a8.mk f2 f5 f6 d5).b6 = 6)) && b6t) = true →
 (0 : Int) ≤ 0 ∧ (0 : Int) < (a8.mk f2 f5 f6 d5).i4.n ∧ ∃ b6u : a8, EltH a8m (a8.mk f2 f5 f6 d5).i4 0 4 (b7 b6u) ∧
 K b6u a8m) ∧
 (((decide ((a8.mk f2 f5 f6 d5).b6 = 6)) && b6t) = false →
 ∃ c7q : a8, ((decide ((a8.mk f2 f5 f6 d5).b6 = 6)) = true → (0 : Int) ≤ 0 ∧ (0 : Int) < (a8.mk f2 f5 f6 d5).i4.n ∧ EltH a8m (a8.mk f2 f5 f6 d5).i4 0 4 (b7 c7q)) ∧
 TG ((decide ((a8.mk f2 f5 f6 d5).b6 = 6)) = true) (z6 c7q 0 a8m) false a8m (fun (b1V : Bool) (a3T : Hp) =>
 (((decide ((a8.mk f2 f5 f6 d5).b6 = 6)) && b1V) = true →
 (0 : Int) ≤ 1 ∧ (1 : Int) < (a8.mk f2 f5 f6 d5).i4.n ∧ ∃ b2q : a8, EltH a3T (a8.mk f2 f5 f6 d5).i4 1 4 (b7 b2q) ∧
 K b2q a3T) ∧
 (((decide ((a8.mk f2 f5 f6 d5).b6 = 6)) && b1V) = false →
 ∃ b8i : a8, ((decide ((a8.mk f2 f5 f6 d5).b6 = 7)) = true → (0 : Int) ≤ 1 ∧ (1 : Int) < (a8.mk f2 f5 f6 d5).i4.n ∧ EltH a3T (a8.mk f2 f5 f6 d5).i4 1 4 (b7 b8i)) ∧
 TG ((decide ((a8.mk f2 f5 f6 d5).b6 = 7)) = true) (z6 b8i 0 a3T) false a3T (fun (a8O : Bool) (a0W : Hp) =>
 (((decide ((a8.mk f2 f5 f6 d5).b6 = 7)) && a8O) = true →
 (0 : Int) ≤ 0 ∧ (0 : Int) < (a8.mk f2 f5 f6 d5).i4.n ∧ ∃ a9K : a8, EltH a0W (a8.mk f2 f5 f6 d5).i4 0 4 (b7 a9K) ∧
 K a9K a0W) ∧
 (((decide ((a8.mk f2 f5 f6 d5).b6 = 7)) && a8O) = false →
 ∃ b3r : a8, (((decide ((a8.mk f2 f5 f6 d5).b6 = 8)) || (decide ((a8.mk f2 f5 f6 d5).b6 = 9))) = true → (0 : Int) ≤ 1 ∧ (1 : Int) < (a8.mk f2 f5 f6 d5).i4.n ∧ EltH a0W (a8.mk f2 f5 f6 d5).i4 1 4 (b7 b3r)) ∧
 TG (((decide ((a8.mk f2 f5 f6 d5).b6 = 8)) || (decide ((a8.mk f2 f5 f6 d5).b6 = 9))) = true) (z6 b3r 1 a0W) false a0W (fun (a6j : Bool) (U8 : Hp) =>
 ((((decide ((a8.mk f2 f5 f6 d5).b6 = 8)) || (decide ((a8.mk f2 f5 f6 d5).b6 = 9))) && a6j) = true →
 (0 : Int) ≤ 0 ∧ (0 : Int) < (a8.mk f2 f5 f6 d5).i4.n ∧ ∃ a7F : a8, EltH U8 (a8.mk f2 f5 f6 d5).i4 0 4 (b7 a7F) ∧
 K a7F U8) ∧
 ((((decide ((a8.mk f2 f5 f6 d5).b6 = 8)) || (decide ((a8.mk f2 f5 f6 d5).b6 = 9))) && a6j) = false →
 ∃ b0y : a8, ((decide ((a8.mk f2 f5 f6 d5).b6 = 8)) = true → (0 : Int) ≤ 0 ∧ (0 : Int) < (a8.mk f2 f5 f6 d5).i4.n ∧ EltH U8 (a8.mk f2 f5 f6 d5).i4 0 4 (b7 b0y)) ∧
 TG ((decide ((a8.mk f2 f5 f6 d5).b6 = 8)) = true) (z6 b0y 1 U8) false U8 (fun (a3C : Bool) (a1w : Hp) =>
 (((decide ((a8.mk f2 f5 f6 d5).b6 = 8)) && a3C) = true →
 (0 : Int) ≤ 1 ∧ (1 : Int) < (a8.mk f2 f5 f6 d5).i4.n ∧ ∃ a5s : a8, EltH a1w (a8.mk f2 f5 f6 d5).i4 1 4 (b7 a5s) ∧
 K a5s a1w) ∧
 (((decide ((a8.mk f2 f5 f6 d5).b6 = 8)) && a3C) = false →
 K (a8.mk f2 f5 f6 d5) a1w))))))))))) (fun d5A => ?_) (fun d5A => ?_) ?_
      ·replace h := h.1 d5A
       have b9 := d5A
       simp only [i7 b9]
       refine g9 (cap := []) (fun args w => Tryz.call99 args w) ?_
       refine l7 (Fi := []) (Fr := [bx P4 53 [(vi (a8.mk f2 f5 f6 d5).b6), (vi (a8.mk f2 f5 f6 d5).m8), (Value.string (a8.mk f2 f5 f6 d5).g7), (Value.slice (a8.mk f2 f5 f6 d5).i4.a (a8.mk f2 f5 f6 d5).i4.n (a8.mk f2 f5 f6 d5).i4.c)], bx g_7 53 (b7 m7), bx g_2 53 (b7 x0)]) I (h) (fun f3p a8m k6V a5H b3o g5K f2J j8b => ?_) (fun _ _ _ _ _ q => q.elim)
       obtain ⟨b6t, rfl, rfl, h⟩ := j8b
       exact ⟨b6t, a8m, by rfl, b3o, f2J, g5K, h⟩
      ·exact ⟨false, H, by rw [a4L d5A], I, fun _ _ _ => rfl, Hle.refl _, h.2 d5A⟩
      ·clear h
       rintro f3p a5H ⟨b6t, a8m, rfl, b3o, f2J, g5K, h⟩
       refine a7 (s7 _ _) ?_
       refine o0 (fun f3q => ?_) (fun f3q => ?_)
       ·replace h := h.1 f3q
        refine a7 v8 ?_
        refine f7 (ld1 Tryz.isAgg51 (b3o.at1 (o := 3) (vs := [(Value.slice (a8.mk f2 f5 f6 d5).i4.a (a8.mk f2 f5 f6 d5).i4.n (a8.mk f2 f5 f6 d5).i4.c)]) (nb rfl) rfl)) ?_
        obtain ⟨d4R, d9j, b6u, b4j, h⟩ := h
        obtain ⟨k6W, k6X, b9M, b4j⟩ := b4j
        refine a7 (A0 b9M _ _ _ _ d4R d9j) ?_
        refine f7 (ldA (vs := (b7 b6u)) Tryz.isAgg53 Tryz.sizeOf53 rfl (b3o.atH b4j)) ?_
        refine m6 (b3o.bring 1) Tryz.sizeOf53 (vs := (b7 b6u)) (cs' := (b7 b6u)) rfl rfl (nb rfl) rfl rfl fun c2M g5L k6Y => ?_
        refine B0 Tryz.isAgg53 Tryz.sizeOf53 rfl (g5L.at1 (o := 0) (vs := (b7 b6u)) (nb rfl) rfl) ?_
        exact hR b6u a8m _ g5L.drop.drop.drop h
       ·replace h := h.2 f3q
        refine a7 F7 ?_
        refine f7 (ld1 Tryz.isAgg3 (b3o.at1 (o := 0) (vs := [(vi (a8.mk f2 f5 f6 d5).b6)]) (nb rfl) rfl)) ?_
        refine a7 (i8 _ _ _ _ _ _) ?_
        refine a7 (Pu.g fun hb => by have b9 := hb; exact v8) ?_
        refine f7 (Ld.g fun hb => by have b9 := hb; simp only [i7 b9]; exact (ld1 Tryz.isAgg51 (b3o.at1 (o := 3) (vs := [(Value.slice (a8.mk f2 f5 f6 d5).i4.a (a8.mk f2 f5 f6 d5).i4.n (a8.mk f2 f5 f6 d5).i4.c)]) (nb rfl) rfl))) ?_
        obtain ⟨c7q, b8g, h⟩ := h
        obtain ⟨k6Z, k7a, b8g⟩ := b3a b8g
        refine a7 (Pu.g fun hb => by have b9 := hb; simp only [i7 b9]; exact (A0 (b8g hb).2.2.1 _ _ _ _ (b8g hb).1 (b8g hb).2.1)) ?_
        refine f7 (Ld.g fun hb => by have b9 := hb; simp only [i7 b9]; exact (ldA (vs := (b7 c7q)) Tryz.isAgg53 Tryz.sizeOf53 rfl (b3o.atH (b8g hb).2.2.2))) ?_
        refine X8 (D := fun f3r b7Y => ∃ (b1V : Bool) (a3T : Hp) , f3r = (gv (decide ((a8.mk f2 f5 f6 d5).b6 = 6)) true (vB b1V)) ∧ (Inv w0 ps0 H0 a3T [bx P4 53 [(vi (a8.mk f2 f5 f6 d5).b6), (vi (a8.mk f2 f5 f6 d5).m8), (Value.string (a8.mk f2 f5 f6 d5).g7), (Value.slice (a8.mk f2 f5 f6 d5).i4.a (a8.mk f2 f5 f6 d5).i4.n (a8.mk f2 f5 f6 d5).i4.c)], bx g_7 53 (b7 m7), bx g_2 53 (b7 x0)] b7Y) ∧ (∀ i, i < a5H.heap.size → ¬ inF [] i → b7Y.heap[i]? = a5H.heap[i]?) ∧ Hle a8m a3T ∧ ((((decide ((a8.mk f2 f5 f6 d5).b6 = 6)) && b1V) = true →
 (0 : Int) ≤ 1 ∧ (1 : Int) < (a8.mk f2 f5 f6 d5).i4.n ∧ ∃ b2q : a8, EltH a3T (a8.mk f2 f5 f6 d5).i4 1 4 (b7 b2q) ∧
 K b2q a3T) ∧
 (((decide ((a8.mk f2 f5 f6 d5).b6 = 6)) && b1V) = false →
 ∃ b8i : a8, ((decide ((a8.mk f2 f5 f6 d5).b6 = 7)) = true → (0 : Int) ≤ 1 ∧ (1 : Int) < (a8.mk f2 f5 f6 d5).i4.n ∧ EltH a3T (a8.mk f2 f5 f6 d5).i4 1 4 (b7 b8i)) ∧
 TG ((decide ((a8.mk f2 f5 f6 d5).b6 = 7)) = true) (z6 b8i 0 a3T) false a3T (fun (a8O : Bool) (a0W : Hp) =>
 (((decide ((a8.mk f2 f5 f6 d5).b6 = 7)) && a8O) = true →
 (0 : Int) ≤ 0 ∧ (0 : Int) < (a8.mk f2 f5 f6 d5).i4.n ∧ ∃ a9K : a8, EltH a0W (a8.mk f2 f5 f6 d5).i4 0 4 (b7 a9K) ∧
 K a9K a0W) ∧
 (((decide ((a8.mk f2 f5 f6 d5).b6 = 7)) && a8O) = false →
 ∃ b3r : a8, (((decide ((a8.mk f2 f5 f6 d5).b6 = 8)) || (decide ((a8.mk f2 f5 f6 d5).b6 = 9))) = true → (0 : Int) ≤ 1 ∧ (1 : Int) < (a8.mk f2 f5 f6 d5).i4.n ∧ EltH a0W (a8.mk f2 f5 f6 d5).i4 1 4 (b7 b3r)) ∧
 TG (((decide ((a8.mk f2 f5 f6 d5).b6 = 8)) || (decide ((a8.mk f2 f5 f6 d5).b6 = 9))) = true) (z6 b3r 1 a0W) false a0W (fun (a6j : Bool) (U8 : Hp) =>
 ((((decide ((a8.mk f2 f5 f6 d5).b6 = 8)) || (decide ((a8.mk f2 f5 f6 d5).b6 = 9))) && a6j) = true →
 (0 : Int) ≤ 0 ∧ (0 : Int) < (a8.mk f2 f5 f6 d5).i4.n ∧ ∃ a7F : a8, EltH U8 (a8.mk f2 f5 f6 d5).i4 0 4 (b7 a7F) ∧
 K a7F U8) ∧
 ((((decide ((a8.mk f2 f5 f6 d5).b6 = 8)) || (decide ((a8.mk f2 f5 f6 d5).b6 = 9))) && a6j) = false →
 ∃ b0y : a8, ((decide ((a8.mk f2 f5 f6 d5).b6 = 8)) = true → (0 : Int) ≤ 0 ∧ (0 : Int) < (a8.mk f2 f5 f6 d5).i4.n ∧ EltH U8 (a8.mk f2 f5 f6 d5).i4 0 4 (b7 b0y)) ∧
 TG ((decide ((a8.mk f2 f5 f6 d5).b6 = 8)) = true) (z6 b0y 1 U8) false U8 (fun (a3C : Bool) (a1w : Hp) =>
 (((decide ((a8.mk f2 f5 f6 d5).b6 = 8)) && a3C) = true →
 (0 : Int) ≤ 1 ∧ (1 : Int) < (a8.mk f2 f5 f6 d5).i4.n ∧ ∃ a5s : a8, EltH a1w (a8.mk f2 f5 f6 d5).i4 1 4 (b7 a5s) ∧
 K a5s a1w) ∧
 (((decide ((a8.mk f2 f5 f6 d5).b6 = 8)) && a3C) = false →
 K (a8.mk f2 f5 f6 d5) a1w))))))))) (fun d5B => ?_) (fun d5B => ?_) ?_
        ·replace h := h.1 d5B
         have b9 := d5B
         simp only [i7 b9]
         refine g9 (cap := []) (fun args w => Tryz.call99 args w) ?_
         refine l7 (Fi := []) (Fr := [bx P4 53 [(vi (a8.mk f2 f5 f6 d5).b6), (vi (a8.mk f2 f5 f6 d5).m8), (Value.string (a8.mk f2 f5 f6 d5).g7), (Value.slice (a8.mk f2 f5 f6 d5).i4.a (a8.mk f2 f5 f6 d5).i4.n (a8.mk f2 f5 f6 d5).i4.c)], bx g_7 53 (b7 m7), bx g_2 53 (b7 x0)]) b3o (h) (fun f3r a3T k7b b7Y b8j g5M g5N j8c => ?_) (fun _ _ _ _ _ q => q.elim)
         obtain ⟨b1V, rfl, rfl, h⟩ := j8c
         exact ⟨b1V, a3T, by rfl, b8j, g5N, g5M, h⟩
        ·exact ⟨false, a8m, by rw [a4L d5B], b3o, fun _ _ _ => rfl, Hle.refl _, h.2 d5B⟩
        ·clear h
         rintro f3r b7Y ⟨b1V, a3T, rfl, b8j, g5N, g5M, h⟩
         refine a7 (s7 _ _) ?_
         refine o0 (fun f3s => ?_) (fun f3s => ?_)
         ·replace h := h.1 f3s
          refine a7 v8 ?_
          refine f7 (ld1 Tryz.isAgg51 (b8j.at1 (o := 3) (vs := [(Value.slice (a8.mk f2 f5 f6 d5).i4.a (a8.mk f2 f5 f6 d5).i4.n (a8.mk f2 f5 f6 d5).i4.c)]) (nb rfl) rfl)) ?_
          obtain ⟨j8d, g5O, b2q, c7l, h⟩ := h
          obtain ⟨k7c, k7d, d5s, c7l⟩ := c7l
          refine a7 (A0 d5s _ _ _ _ j8d g5O) ?_
          refine f7 (ldA (vs := (b7 b2q)) Tryz.isAgg53 Tryz.sizeOf53 rfl (b8j.atH c7l)) ?_
          refine m6 (b8j.bring 1) Tryz.sizeOf53 (vs := (b7 b2q)) (cs' := (b7 b2q)) rfl rfl (nb rfl) rfl rfl fun k7e d9u k7f => ?_
          refine B0 Tryz.isAgg53 Tryz.sizeOf53 rfl (d9u.at1 (o := 0) (vs := (b7 b2q)) (nb rfl) rfl) ?_
          exact hR b2q a3T _ d9u.drop.drop.drop h
         ·replace h := h.2 f3s
          refine a7 F7 ?_
          refine f7 (ld1 Tryz.isAgg3 (b8j.at1 (o := 0) (vs := [(vi (a8.mk f2 f5 f6 d5).b6)]) (nb rfl) rfl)) ?_
          refine a7 (i8 _ _ _ _ _ _) ?_
          refine a7 (Pu.g fun hb => by have b9 := hb; exact v8) ?_
          refine f7 (Ld.g fun hb => by have b9 := hb; simp only [i7 b9]; exact (ld1 Tryz.isAgg51 (b8j.at1 (o := 3) (vs := [(Value.slice (a8.mk f2 f5 f6 d5).i4.a (a8.mk f2 f5 f6 d5).i4.n (a8.mk f2 f5 f6 d5).i4.c)]) (nb rfl) rfl))) ?_
          obtain ⟨b8i, b7S, h⟩ := h
          obtain ⟨k7g, k7h, b7S⟩ := b3a b7S
          refine a7 (Pu.g fun hb => by have b9 := hb; simp only [i7 b9]; exact (A0 (b7S hb).2.2.1 _ _ _ _ (b7S hb).1 (b7S hb).2.1)) ?_
          refine f7 (Ld.g fun hb => by have b9 := hb; simp only [i7 b9]; exact (ldA (vs := (b7 b8i)) Tryz.isAgg53 Tryz.sizeOf53 rfl (b8j.atH (b7S hb).2.2.2))) ?_
          refine X8 (D := fun f3t b7Z => ∃ (a8O : Bool) (a0W : Hp) , f3t = (gv (decide ((a8.mk f2 f5 f6 d5).b6 = 7)) true (vB a8O)) ∧ (Inv w0 ps0 H0 a0W [bx P4 53 [(vi (a8.mk f2 f5 f6 d5).b6), (vi (a8.mk f2 f5 f6 d5).m8), (Value.string (a8.mk f2 f5 f6 d5).g7), (Value.slice (a8.mk f2 f5 f6 d5).i4.a (a8.mk f2 f5 f6 d5).i4.n (a8.mk f2 f5 f6 d5).i4.c)], bx g_7 53 (b7 m7), bx g_2 53 (b7 x0)] b7Z) ∧ (∀ i, i < b7Y.heap.size → ¬ inF [] i → b7Z.heap[i]? = b7Y.heap[i]?) ∧ Hle a3T a0W ∧ ((((decide ((a8.mk f2 f5 f6 d5).b6 = 7)) && a8O) = true →
 (0 : Int) ≤ 0 ∧ (0 : Int) < (a8.mk f2 f5 f6 d5).i4.n ∧ ∃ a9K : a8, EltH a0W (a8.mk f2 f5 f6 d5).i4 0 4 (b7 a9K) ∧
 K a9K a0W) ∧
 (((decide ((a8.mk f2 f5 f6 d5).b6 = 7)) && a8O) = false →
 ∃ b3r : a8, (((decide ((a8.mk f2 f5 f6 d5).b6 = 8)) || (decide ((a8.mk f2 f5 f6 d5).b6 = 9))) = true → (0 : Int) ≤ 1 ∧ (1 : Int) < (a8.mk f2 f5 f6 d5).i4.n ∧ EltH a0W (a8.mk f2 f5 f6 d5).i4 1 4 (b7 b3r)) ∧
 TG (((decide ((a8.mk f2 f5 f6 d5).b6 = 8)) || (decide ((a8.mk f2 f5 f6 d5).b6 = 9))) = true) (z6 b3r 1 a0W) false a0W (fun (a6j : Bool) (U8 : Hp) =>
 ((((decide ((a8.mk f2 f5 f6 d5).b6 = 8)) || (decide ((a8.mk f2 f5 f6 d5).b6 = 9))) && a6j) = true →
 (0 : Int) ≤ 0 ∧ (0 : Int) < (a8.mk f2 f5 f6 d5).i4.n ∧ ∃ a7F : a8, EltH U8 (a8.mk f2 f5 f6 d5).i4 0 4 (b7 a7F) ∧
 K a7F U8) ∧
 ((((decide ((a8.mk f2 f5 f6 d5).b6 = 8)) || (decide ((a8.mk f2 f5 f6 d5).b6 = 9))) && a6j) = false →
 ∃ b0y : a8, ((decide ((a8.mk f2 f5 f6 d5).b6 = 8)) = true → (0 : Int) ≤ 0 ∧ (0 : Int) < (a8.mk f2 f5 f6 d5).i4.n ∧ EltH U8 (a8.mk f2 f5 f6 d5).i4 0 4 (b7 b0y)) ∧
 TG ((decide ((a8.mk f2 f5 f6 d5).b6 = 8)) = true) (z6 b0y 1 U8) false U8 (fun (a3C : Bool) (a1w : Hp) =>
 (((decide ((a8.mk f2 f5 f6 d5).b6 = 8)) && a3C) = true →
 (0 : Int) ≤ 1 ∧ (1 : Int) < (a8.mk f2 f5 f6 d5).i4.n ∧ ∃ a5s : a8, EltH a1w (a8.mk f2 f5 f6 d5).i4 1 4 (b7 a5s) ∧
 K a5s a1w) ∧
 (((decide ((a8.mk f2 f5 f6 d5).b6 = 8)) && a3C) = false →
 K (a8.mk f2 f5 f6 d5) a1w))))))) (fun d5C => ?_) (fun d5C => ?_) ?_
          ·replace h := h.1 d5C
           have b9 := d5C
           simp only [i7 b9]
           refine g9 (cap := []) (fun args w => Tryz.call99 args w) ?_
           refine l7 (Fi := []) (Fr := [bx P4 53 [(vi (a8.mk f2 f5 f6 d5).b6), (vi (a8.mk f2 f5 f6 d5).m8), (Value.string (a8.mk f2 f5 f6 d5).g7), (Value.slice (a8.mk f2 f5 f6 d5).i4.a (a8.mk f2 f5 f6 d5).i4.n (a8.mk f2 f5 f6 d5).i4.c)], bx g_7 53 (b7 m7), bx g_2 53 (b7 x0)]) b8j (h) (fun f3t a0W k7i b7Z b6v g5P g5Q j8e => ?_) (fun _ _ _ _ _ q => q.elim)
           obtain ⟨a8O, rfl, rfl, h⟩ := j8e
           exact ⟨a8O, a0W, by rfl, b6v, g5Q, g5P, h⟩
          ·exact ⟨false, a3T, by rw [a4L d5C], b8j, fun _ _ _ => rfl, Hle.refl _, h.2 d5C⟩
          ·clear h
           rintro f3t b7Z ⟨a8O, a0W, rfl, b6v, g5Q, g5P, h⟩
           refine a7 (s7 _ _) ?_
           refine o0 (fun f3u => ?_) (fun f3u => ?_)
           ·replace h := h.1 f3u
            refine a7 v8 ?_
            refine f7 (ld1 Tryz.isAgg51 (b6v.at1 (o := 3) (vs := [(Value.slice (a8.mk f2 f5 f6 d5).i4.a (a8.mk f2 f5 f6 d5).i4.n (a8.mk f2 f5 f6 d5).i4.c)]) (nb rfl) rfl)) ?_
            obtain ⟨j8f, j8g, a9K, f3v, h⟩ := h
            obtain ⟨k7j, k7k, j8h, f3v⟩ := f3v
            refine a7 (A0 j8h _ _ _ _ j8f j8g) ?_
            refine f7 (ldA (vs := (b7 a9K)) Tryz.isAgg53 Tryz.sizeOf53 rfl (b6v.atH f3v)) ?_
            refine m6 (b6v.bring 1) Tryz.sizeOf53 (vs := (b7 a9K)) (cs' := (b7 a9K)) rfl rfl (nb rfl) rfl rfl fun k7l g5R k7m => ?_
            refine B0 Tryz.isAgg53 Tryz.sizeOf53 rfl (g5R.at1 (o := 0) (vs := (b7 a9K)) (nb rfl) rfl) ?_
            exact hR a9K a0W _ g5R.drop.drop.drop h
           ·replace h := h.2 f3u
            refine a7 F7 ?_
            refine f7 (ld1 Tryz.isAgg3 (b6v.at1 (o := 0) (vs := [(vi (a8.mk f2 f5 f6 d5).b6)]) (nb rfl) rfl)) ?_
            refine a7 (i8 _ _ _ _ _ _) ?_
            refine a7 (Pu.g fun hb => by have b9 := hb; exact F7) ?_
            refine f7 (Ld.g fun hb => by have b9 := hb; simp only [i7 b9]; exact (ld1 Tryz.isAgg3 (b6v.at1 (o := 0) (vs := [(vi (a8.mk f2 f5 f6 d5).b6)]) (nb rfl) rfl))) ?_
            refine a7 (Pu.g fun hb => by have b9 := hb; simp only [i7 b9]; exact (i8 _ _ _ _ _ _)) ?_
            refine a7 (J4 _ _) ?_
            refine a7 (Pu.g fun hb => by have b9 := hb; exact v8) ?_
            refine f7 (Ld.g fun hb => by have b9 := hb; simp only [i7 b9]; exact (ld1 Tryz.isAgg51 (b6v.at1 (o := 3) (vs := [(Value.slice (a8.mk f2 f5 f6 d5).i4.a (a8.mk f2 f5 f6 d5).i4.n (a8.mk f2 f5 f6 d5).i4.c)]) (nb rfl) rfl))) ?_
            obtain ⟨b3r, b8k, h⟩ := h
            obtain ⟨k7n, k7o, b8k⟩ := b3a b8k
            refine a7 (Pu.g fun hb => by have b9 := hb; simp only [i7 b9]; exact (A0 (b8k hb).2.2.1 _ _ _ _ (b8k hb).1 (b8k hb).2.1)) ?_
            refine f7 (Ld.g fun hb => by have b9 := hb; simp only [i7 b9]; exact (ldA (vs := (b7 b3r)) Tryz.isAgg53 Tryz.sizeOf53 rfl (b6v.atH (b8k hb).2.2.2))) ?_
            refine X8 (D := fun f3w b8a => ∃ (a6j : Bool) (U8 : Hp) , f3w = (gv ((decide ((a8.mk f2 f5 f6 d5).b6 = 8)) || (decide ((a8.mk f2 f5 f6 d5).b6 = 9))) true (vB a6j)) ∧ (Inv w0 ps0 H0 U8 [bx P4 53 [(vi (a8.mk f2 f5 f6 d5).b6), (vi (a8.mk f2 f5 f6 d5).m8), (Value.string (a8.mk f2 f5 f6 d5).g7), (Value.slice (a8.mk f2 f5 f6 d5).i4.a (a8.mk f2 f5 f6 d5).i4.n (a8.mk f2 f5 f6 d5).i4.c)], bx g_7 53 (b7 m7), bx g_2 53 (b7 x0)] b8a) ∧ (∀ i, i < b7Z.heap.size → ¬ inF [] i → b8a.heap[i]? = b7Z.heap[i]?) ∧ Hle a0W U8 ∧ (((((decide ((a8.mk f2 f5 f6 d5).b6 = 8)) || (decide ((a8.mk f2 f5 f6 d5).b6 = 9))) && a6j) = true →
 (0 : Int) ≤ 0 ∧ (0 : Int) < (a8.mk f2 f5 f6 d5).i4.n ∧ ∃ a7F : a8, EltH U8 (a8.mk f2 f5 f6 d5).i4 0 4 (b7 a7F) ∧
 K a7F U8) ∧
 ((((decide ((a8.mk f2 f5 f6 d5).b6 = 8)) || (decide ((a8.mk f2 f5 f6 d5).b6 = 9))) && a6j) = false →
 ∃ b0y : a8, ((decide ((a8.mk f2 f5 f6 d5).b6 = 8)) = true → (0 : Int) ≤ 0 ∧ (0 : Int) < (a8.mk f2 f5 f6 d5).i4.n ∧ EltH U8 (a8.mk f2 f5 f6 d5).i4 0 4 (b7 b0y)) ∧
 TG ((decide ((a8.mk f2 f5 f6 d5).b6 = 8)) = true) (z6 b0y 1 U8) false U8 (fun (a3C : Bool) (a1w : Hp) =>
 (((decide ((a8.mk f2 f5 f6 d5).b6 = 8)) && a3C) = true →
 (0 : Int) ≤ 1 ∧ (1 : Int) < (a8.mk f2 f5 f6 d5).i4.n ∧ ∃ a5s : a8, EltH a1w (a8.mk f2 f5 f6 d5).i4 1 4 (b7 a5s) ∧
 K a5s a1w) ∧
 (((decide ((a8.mk f2 f5 f6 d5).b6 = 8)) && a3C) = false →
 K (a8.mk f2 f5 f6 d5) a1w))))) (fun c7s => ?_) (fun c7s => ?_) ?_
            ·replace h := h.1 c7s
             have b9 := c7s
             simp only [i7 b9]
             refine g9 (cap := []) (fun args w => Tryz.call99 args w) ?_
             refine l7 (Fi := []) (Fr := [bx P4 53 [(vi (a8.mk f2 f5 f6 d5).b6), (vi (a8.mk f2 f5 f6 d5).m8), (Value.string (a8.mk f2 f5 f6 d5).g7), (Value.slice (a8.mk f2 f5 f6 d5).i4.a (a8.mk f2 f5 f6 d5).i4.n (a8.mk f2 f5 f6 d5).i4.c)], bx g_7 53 (b7 m7), bx g_2 53 (b7 x0)]) b6v (h) (fun f3w U8 k7p b8a b8l g5S g5T j8i => ?_) (fun _ _ _ _ _ q => q.elim)
             obtain ⟨a6j, rfl, rfl, h⟩ := j8i
             exact ⟨a6j, U8, by rfl, b8l, g5T, g5S, h⟩
            ·exact ⟨false, a0W, by rw [a4L c7s], b6v, fun _ _ _ => rfl, Hle.refl _, h.2 c7s⟩
            ·clear h
             rintro f3w b8a ⟨a6j, U8, rfl, b8l, g5T, g5S, h⟩
             refine a7 (s7 _ _) ?_
             refine o0 (fun f3x => ?_) (fun f3x => ?_)
             ·replace h := h.1 f3x
              refine a7 v8 ?_
              refine f7 (ld1 Tryz.isAgg51 (b8l.at1 (o := 3) (vs := [(Value.slice (a8.mk f2 f5 f6 d5).i4.a (a8.mk f2 f5 f6 d5).i4.n (a8.mk f2 f5 f6 d5).i4.c)]) (nb rfl) rfl)) ?_
              obtain ⟨j8j, j8k, a7F, f3y, h⟩ := h
              obtain ⟨k7q, k7r, j8l, f3y⟩ := f3y
              refine a7 (A0 j8l _ _ _ _ j8j j8k) ?_
              refine f7 (ldA (vs := (b7 a7F)) Tryz.isAgg53 Tryz.sizeOf53 rfl (b8l.atH f3y)) ?_
              refine m6 (b8l.bring 1) Tryz.sizeOf53 (vs := (b7 a7F)) (cs' := (b7 a7F)) rfl rfl (nb rfl) rfl rfl fun k7s g5U k7t => ?_
              refine B0 Tryz.isAgg53 Tryz.sizeOf53 rfl (g5U.at1 (o := 0) (vs := (b7 a7F)) (nb rfl) rfl) ?_
              exact hR a7F U8 _ g5U.drop.drop.drop h
             ·replace h := h.2 f3x
              refine a7 F7 ?_
              refine f7 (ld1 Tryz.isAgg3 (b8l.at1 (o := 0) (vs := [(vi (a8.mk f2 f5 f6 d5).b6)]) (nb rfl) rfl)) ?_
              refine a7 (i8 _ _ _ _ _ _) ?_
              refine a7 (Pu.g fun hb => by have b9 := hb; exact v8) ?_
              refine f7 (Ld.g fun hb => by have b9 := hb; simp only [i7 b9]; exact (ld1 Tryz.isAgg51 (b8l.at1 (o := 3) (vs := [(Value.slice (a8.mk f2 f5 f6 d5).i4.a (a8.mk f2 f5 f6 d5).i4.n (a8.mk f2 f5 f6 d5).i4.c)]) (nb rfl) rfl))) ?_
              obtain ⟨b0y, d1a, h⟩ := h
              obtain ⟨k7u, k7v, d1a⟩ := b3a d1a
              refine a7 (Pu.g fun hb => by have b9 := hb; simp only [i7 b9]; exact (A0 (d1a hb).2.2.1 _ _ _ _ (d1a hb).1 (d1a hb).2.1)) ?_
              refine f7 (Ld.g fun hb => by have b9 := hb; simp only [i7 b9]; exact (ldA (vs := (b7 b0y)) Tryz.isAgg53 Tryz.sizeOf53 rfl (b8l.atH (d1a hb).2.2.2))) ?_
              refine X8 (D := fun f3z c6I => ∃ (a3C : Bool) (a1w : Hp) , f3z = (gv (decide ((a8.mk f2 f5 f6 d5).b6 = 8)) true (vB a3C)) ∧ (Inv w0 ps0 H0 a1w [bx P4 53 [(vi (a8.mk f2 f5 f6 d5).b6), (vi (a8.mk f2 f5 f6 d5).m8), (Value.string (a8.mk f2 f5 f6 d5).g7), (Value.slice (a8.mk f2 f5 f6 d5).i4.a (a8.mk f2 f5 f6 d5).i4.n (a8.mk f2 f5 f6 d5).i4.c)], bx g_7 53 (b7 m7), bx g_2 53 (b7 x0)] c6I) ∧ (∀ i, i < b8a.heap.size → ¬ inF [] i → c6I.heap[i]? = b8a.heap[i]?) ∧ Hle U8 a1w ∧ ((((decide ((a8.mk f2 f5 f6 d5).b6 = 8)) && a3C) = true →
 (0 : Int) ≤ 1 ∧ (1 : Int) < (a8.mk f2 f5 f6 d5).i4.n ∧ ∃ a5s : a8, EltH a1w (a8.mk f2 f5 f6 d5).i4 1 4 (b7 a5s) ∧
 K a5s a1w) ∧
 (((decide ((a8.mk f2 f5 f6 d5).b6 = 8)) && a3C) = false →
 K (a8.mk f2 f5 f6 d5) a1w))) (fun d5D => ?_) (fun d5D => ?_) ?_
              ·replace h := h.1 d5D
               have b9 := d5D
               simp only [i7 b9]
               refine g9 (cap := []) (fun args w => Tryz.call99 args w) ?_
               refine l7 (Fi := []) (Fr := [bx P4 53 [(vi (a8.mk f2 f5 f6 d5).b6), (vi (a8.mk f2 f5 f6 d5).m8), (Value.string (a8.mk f2 f5 f6 d5).g7), (Value.slice (a8.mk f2 f5 f6 d5).i4.a (a8.mk f2 f5 f6 d5).i4.n (a8.mk f2 f5 f6 d5).i4.c)], bx g_7 53 (b7 m7), bx g_2 53 (b7 x0)]) b8l (h) (fun f3z a1w k7w c6I c7t g5V g5W j8m => ?_) (fun _ _ _ _ _ q => q.elim)
               obtain ⟨a3C, rfl, rfl, h⟩ := j8m
               exact ⟨a3C, a1w, by rfl, c7t, g5W, g5V, h⟩
              ·exact ⟨false, U8, by rw [a4L d5D], b8l, fun _ _ _ => rfl, Hle.refl _, h.2 d5D⟩
              ·clear h
               rintro f3z c6I ⟨a3C, a1w, rfl, c7t, g5W, g5V, h⟩
               refine a7 (s7 _ _) ?_
               refine o0 (fun f3A => ?_) (fun f3A => ?_)
               ·replace h := h.1 f3A
                refine a7 v8 ?_
                refine f7 (ld1 Tryz.isAgg51 (c7t.at1 (o := 3) (vs := [(Value.slice (a8.mk f2 f5 f6 d5).i4.a (a8.mk f2 f5 f6 d5).i4.n (a8.mk f2 f5 f6 d5).i4.c)]) (nb rfl) rfl)) ?_
                obtain ⟨j8n, j8o, a5s, f3B, h⟩ := h
                obtain ⟨k7x, k7y, f3C, f3B⟩ := f3B
                refine a7 (A0 f3C _ _ _ _ j8n j8o) ?_
                refine f7 (ldA (vs := (b7 a5s)) Tryz.isAgg53 Tryz.sizeOf53 rfl (c7t.atH f3B)) ?_
                refine m6 (c7t.bring 1) Tryz.sizeOf53 (vs := (b7 a5s)) (cs' := (b7 a5s)) rfl rfl (nb rfl) rfl rfl fun g5p g5X k7z => ?_
                refine B0 Tryz.isAgg53 Tryz.sizeOf53 rfl (g5X.at1 (o := 0) (vs := (b7 a5s)) (nb rfl) rfl) ?_
                exact hR a5s a1w _ g5X.drop.drop.drop h
               ·replace h := h.2 f3A
                refine f7 (ldA Tryz.isAgg53 Tryz.sizeOf53 rfl (c7t.at1 (o := 0) (vs := [(vi (a8.mk f2 f5 f6 d5).b6), (vi (a8.mk f2 f5 f6 d5).m8), (Value.string (a8.mk f2 f5 f6 d5).g7), (Value.slice (a8.mk f2 f5 f6 d5).i4.a (a8.mk f2 f5 f6 d5).i4.n (a8.mk f2 f5 f6 d5).i4.c)]) (nb rfl) rfl)) ?_
                refine m6 (c7t.bring 1) Tryz.sizeOf53 (vs := [(vi (a8.mk f2 f5 f6 d5).b6), (vi (a8.mk f2 f5 f6 d5).m8), (Value.string (a8.mk f2 f5 f6 d5).g7), (Value.slice (a8.mk f2 f5 f6 d5).i4.a (a8.mk f2 f5 f6 d5).i4.n (a8.mk f2 f5 f6 d5).i4.c)]) (cs' := [(vi (a8.mk f2 f5 f6 d5).b6), (vi (a8.mk f2 f5 f6 d5).m8), (Value.string (a8.mk f2 f5 f6 d5).g7), (Value.slice (a8.mk f2 f5 f6 d5).i4.a (a8.mk f2 f5 f6 d5).i4.n (a8.mk f2 f5 f6 d5).i4.c)]) rfl rfl (nb rfl) rfl rfl fun k7A d5E g5Y => ?_
                refine B0 Tryz.isAgg53 Tryz.sizeOf53 rfl (d5E.at1 (o := 0) (vs := [(vi (a8.mk f2 f5 f6 d5).b6), (vi (a8.mk f2 f5 f6 d5).m8), (Value.string (a8.mk f2 f5 f6 d5).g7), (Value.slice (a8.mk f2 f5 f6 d5).i4.a (a8.mk f2 f5 f6 d5).i4.n (a8.mk f2 f5 f6 d5).i4.c)]) (nb rfl) rfl) ?_
                exact hR (a8.mk f2 f5 f6 d5) a1w _ d5E.drop.drop.drop h
     refine t6 fun j3 hx3 => ?_
     refine o0 (fun f3D => ?_) (fun f3D => ?_)
     ·replace h := h.1 f3D
      refine a7 F7 ?_
      refine f7 (ld1 Tryz.isAgg3 (I.at1 (o := 0) (vs := [(vi (a8.mk f2 f5 f6 d5).b6)]) (nb rfl) rfl)) ?_
      refine g9 (cap := []) (fun args w => Tryz.call98 args w) ?_
      refine l7 (Fi := []) (Fr := [bx P4 53 [(vi (a8.mk f2 f5 f6 d5).b6), (vi (a8.mk f2 f5 f6 d5).m8), (Value.string (a8.mk f2 f5 f6 d5).g7), (Value.slice (a8.mk f2 f5 f6 d5).i4.a (a8.mk f2 f5 f6 d5).i4.n (a8.mk f2 f5 f6 d5).i4.c)], bx g_7 53 (b7 m7), bx g_2 53 (b7 x0)]) I (h) (fun k7B d9r k7C a9y g5Z k7D k7E j8p => ?_) (fun _ _ _ _ _ q => q.elim)
      obtain ⟨c9H, d5x, rfl, rfl, h⟩ := j8p
      refine a7 (o2 _ _ (vi c9H) rfl) ?_
      refine a7 (o2 _ _ (vi d5x) rfl) ?_
      refine a7 (i8 _ _ _ _ _ _) ?_
      simp only [u5]
      refine a7 (Pu.g fun hb => by have b9 := hb; simp only [i7 b9]; exact (M7 _ _ _ _ _ _)) ?_
      refine a7 (s7 _ _) ?_
      refine o0 (fun c7u => ?_) (fun c7u => ?_)
      ·replace h := h.1 c7u
       refine g9 (cap := []) (fun args w => Tryz.call97 args w) ?_
       refine l7 (Fi := []) (Fr := [bx P4 53 [(vi (a8.mk f2 f5 f6 d5).b6), (vi (a8.mk f2 f5 f6 d5).m8), (Value.string (a8.mk f2 f5 f6 d5).g7), (Value.slice (a8.mk f2 f5 f6 d5).i4.a (a8.mk f2 f5 f6 d5).i4.n (a8.mk f2 f5 f6 d5).i4.c)], bx g_7 53 (b7 m7), bx g_2 53 (b7 x0)]) g5Z (h) (fun k7F f3h k7G f2k j8q k7H k7I j8r => ?_) (fun _ _ _ _ _ q => q.elim)
       obtain ⟨c5l, rfl, rfl, h⟩ := j8r
       refine m6 (j8q.bring 1) Tryz.sizeOf53 (vs := (b7 c5l)) (cs' := (b7 c5l)) rfl rfl (nb rfl) rfl rfl fun b7O d8T j6b => ?_
       refine B0 Tryz.isAgg53 Tryz.sizeOf53 rfl (d8T.at1 (o := 0) (vs := (b7 c5l)) (nb rfl) rfl) ?_
       exact hR c5l f3h _ d8T.drop.drop.drop h
      ·replace h := h.2 c7u
       exact hx3 _ _ (hj3 d9r _ (((g5Z.bring 2).bring 2).bring 2) h)
     ·replace h := h.2 f3D
      exact hx3 _ _ (hj3 H _ (((I.bring 2).bring 2).bring 2) h)
    refine t6 fun j2 hx2 => ?_
    refine a7 v8 ?_
    refine f7 (ld1 Tryz.isAgg51 (c5O.at1 (o := 3) (vs := [(vs d5)]) (nb rfl) rfl)) ?_
    refine a7 (J3 _ _ _) ?_
    refine a7 (i8 _ _ _ _ _ _) ?_
    refine k7 (fun f3E => ?_) (fun f3E => ?_)
    ·replace h := h.1 f3E
     refine a7 v8 ?_
     refine f7 (ld1 Tryz.isAgg51 (c5O.at1 (o := 3) (vs := [(vs d5)]) (nb rfl) rfl)) ?_
     obtain ⟨f1o, f1p, f3k, d0R, h⟩ := h
     obtain ⟨j7Y, k7J, c2Z, d0R⟩ := d0R
     refine a7 (A0 c2Z _ _ _ _ f1o f1p) ?_
     refine f7 (ldA (vs := (b7 f3k)) Tryz.isAgg53 Tryz.sizeOf53 rfl (c5O.atH d0R)) ?_
     refine g9 (cap := []) (fun args w => Tryz.call94 args w) ?_
     refine l7 (Fi := []) (Fr := [bx P4 53 [(vi f2), (vi f5), (Value.string f6), (vs d5)], bx g_7 53 (b7 m7), bx g_2 53 (b7 x0)]) c5O (h) (fun k7K f3l k7L b2i j8s d8F k7M j8t => ?_) (fun _ _ _ _ _ q => q.elim)
     obtain ⟨d5y, d5z, rfl, rfl, h⟩ := j8t
     refine a7 (o2 _ _ (vi d5y) rfl) ?_
     refine a7 (o2 _ _ (vB d5z) rfl) ?_
     simp only [u5]
     refine a7 (s7 _ _) ?_
     exact hx2 _ _ (hj2 (b3q && d5z) d5y f3l _ (((j8s.bring 2).bring 2).bring 2) h)
    ·replace h := h.2 f3E
     exact hx2 _ _ (hj2 b3q 0 b4s _ (((c5O.bring 2).bring 2).bring 2) h)
 refine t6 fun j1 hx1 => ?_
 obtain ⟨f3F, d5F, j8u, j8v⟩ := h
 refine B5 (J := fun n l w => ∃ (s : Int × Int × Int × ByteArray × (List a8) × a8) (H : Hp) (b1G : Sl) (Fcr_11l4_3 : Frag) , n = d5F s ∧ l = (match s with | (a5e, a2v, a2w, a2x, a0X, T5) => [(vi a5e)]) ∧ (match s with | (a5e, a2v, a2w, a2x, a0X, T5) => RowL 53 4 b7 b1G a0X Fcr_11l4_3) ∧ (match s with | (a5e, a2v, a2w, a2x, a0X, T5) => Inv w0 ps0 H0 H [bx P4 53 [(vi a2v), (vi a2w), (Value.string a2x), (vs b1G)], bx g_7 53 (b7 T5), bx g_2 53 (b7 x0), Fcr_11l4_3] w) ∧ f3F s H) ⟨_, (0, x0.b6, x0.m8, x0.g7, [], (a8.mk 0 0 ⟨#[]⟩ (Sl.mk none 0 0))), H, (Sl.mk none 0 0), [], rfl, rfl, (RowL.nil N7 N8), (((b5M.nil.bring 3).bring 3).bring 3), j8u⟩ ?_
 rintro k7N τ_334 w next4 ⟨⟨a5e, a2v, a2w, a2x, a0X, T5⟩, H, b1G, Fcr_11l4_3, rfl, f3G, c7v, I, j8w⟩ hn4
 dsimp only at f3G I c7v
 simp only [List.map_cons, List.map_nil, List.cons.injEq, and_true] at f3G
 have e4 := f3G
 simp only [e4]
 obtain ⟨n4, hm4, h⟩ : ∃ n4 : (Int × Int × Int × ByteArray × (List a8) × a8) → Hp → Prop, (∀ s' H', n4 s' H' → f3F s' H' ∧ d5F s' < d5F (a5e, a2v, a2w, a2x, a0X, T5)) ∧ a2Z x0 a5e a2v a2w a2x a0X T5 H n4 K := ⟨_, fun _ _ h => h, j8v (a5e, a2v, a2w, a2x, a0X, T5) H (fun s' H' => f3F s' H' ∧ d5F s' < d5F (a5e, a2v, a2w, a2x, a0X, T5)) j8w (fun _ _ a b => ⟨a, b⟩)⟩
 unfold f7Q
 unfold a2Z at h
 refine a7 v8 ?_
 refine f7 (ld1 Tryz.isAgg51 ((I.bring 2).at1 (o := 3) (vs := [(vs x0.i4)]) (nb rfl) rfl)) ?_
 refine a7 (J3 _ _ _) ?_
 refine a7 (w9 _ _ _ _ _ _) ?_
 refine k7 (fun f3H => ?_) (fun f3H => ?_)
 ·replace h := h.1 f3H
  refine a5z I fun d9e b3s => ?_
  refine q9 v8 ?_
  refine q9 v8 ?_
  refine A5 (ld1 Tryz.isAgg51 (b3s.at1 (o := 3) (vs := [(vs b1G)]) (nb rfl) rfl)) ?_
  refine A5 (ld1 Tryz.isAgg51 ((b3s.bring 2).at1 (o := 3) (vs := [(vs x0.i4)]) (nb rfl) rfl)) ?_
  obtain ⟨j8x, j8y, d9t, f3I, h⟩ := h
  obtain ⟨k7O, k7P, j8z, f3I⟩ := f3I
  refine q9 (A0 j8z _ _ _ _ j8x j8y) ?_
  refine A5 (ldA (vs := (b7 d9t)) Tryz.isAgg53 Tryz.sizeOf53 rfl (b3s.atH f3I)) ?_
  refine g9 (cap := []) (fun args w => Tryz.call56 args w) ?_
  refine l7 (Fi := []) (Fr := [bx P4 53 [(vi a2v), (vi a2w), (Value.string a2x), (vs b1G)], bx g_7 53 (b7 T5), bx g_2 53 (b7 x0), Fcr_11l4_3]) b3s (h) (fun k7Q f3m k7R k7S g6a k7T j8A j8B => ?_) (fun _ _ _ _ _ q => q.elim)
  obtain ⟨c9I, rfl, rfl, h⟩ := j8B
  refine ⟨(j8A _ b3s.lt1 (Inv.a3h (Fi := []) b3s)), ?_⟩
  refine a5A (e := 53) (c := b7) (xs := [c9I]) g6a (b6N _ _ _ _ _ _) rfl rfl N7 N8 (nb rfl) fun k7U k7V k7W j8C g6b j8D => ?_
  refine ⟨(j8D _ g6a.lt1), ?_⟩
  obtain ⟨j8E, h⟩ := h
  refine c8e (s := b1G) (xs := a0X) (g6b.bring 4) c7v (j8C.srcO ((g6b.bring 4).bring 1)) j8E fun f3J j8F k7X j8G j8H k7Y => ?_
  refine q9 v8 ?_
  refine m6 ((j8H.bring 1).drop.bring 1) Tryz.sizeOf51 (vs := [(vs f3J)]) (cs' := [(vi a2v), (vi a2w), (Value.string a2x), (vs f3J)]) rfl rfl (nb rfl) rfl rfl fun k7Z f3K j8I => ?_
  refine a7 (y6 _ _ _ _ _ _) ?_
  exact hn4 _ _ _ (hm4 _ _ h).2 ⟨((IntKind.wrap .i64 (a5e + 1)), a2v, a2w, a2x, (a0X ++ [c9I]), T5), f3m, f3J, j8F, rfl, rfl, j8G, ((((f3K.bring 1).bring 3).bring 3).bring 3), (hm4 _ _ h).1⟩
 ·replace h := h.2 f3H
  exact hx1 _ _ (hj1 a2v a2w a2x a0X T5 b1G Fcr_11l4_3 H _ c7v ((((I.bring 3).bring 3).bring 3).bring 3) h)
theorem b9Q (x0 : a8) {H : Hp} {K : a8 → Hp → Prop} (h : a4v x0 H K) : a1L x0 H K := by
 intro w I
 refine j1O ?_
 refine b9h x0 I (fun r0 H' w' I' hk => ⟨H', _, I', r0, rfl, rfl, hk⟩) h
def a7L (x0 : Bool) (H : Hp) (K : b8 → Hp → Prop) : Prop :=
 (x0 = true →
 K (b8.mk 1 0 (Sl.mk none 0 0) (Sl.mk none 0 0)) H) ∧
 (x0 = false →
 K (b8.mk 2 0 (Sl.mk none 0 0) (Sl.mk none 0 0)) H)
theorem b8H (x0 : Bool) {K : b8 → Hp → Prop} (I : Inv w0 ps0 H0 H [] w) (hR : ∀ (r0 : b8) (H' : Hp) (w' : World) (_ : Inv w0 ps0 H0 H' [] w') (_ : K r0 H'), R (Value.agg (d6 r0).toArray) w') (h : a7L x0 H K) : F95 (vB x0) w R E := by
 unfold a7L at h
 unfold F95
 refine z7 I Tryz.zeroValue59 (cs := [(vi 0), (vi 0), (nS), (nS)]) rfl fun g_2 w_3 I_4 k_5 => ?_
 refine o0 (fun c1y => ?_) (fun c1y => ?_)
 ·replace h := h.1 c1y
  refine a7 (b7N _) ?_
  refine m6 I_4 Tryz.sizeOf59 (vs := [(vi 1), (vi 0), (nS), (nS)]) (cs' := [(vi 1), (vi 0), (nS), (nS)]) rfl rfl (nb rfl) rfl rfl fun w_6 I_7 k_8 => ?_
  refine B0 Tryz.isAgg59 Tryz.sizeOf59 rfl (I_7.at1 (o := 0) (vs := [(vi 1), (vi 0), (nS), (nS)]) (nb rfl) rfl) ?_
  exact hR (b8.mk 1 0 (Sl.mk none 0 0) (Sl.mk none 0 0)) H _ I_7.drop h
 ·replace h := h.2 c1y
  refine a7 (b7N _) ?_
  refine m6 I_4 Tryz.sizeOf59 (vs := [(vi 2), (vi 0), (nS), (nS)]) (cs' := [(vi 2), (vi 0), (nS), (nS)]) rfl rfl (nb rfl) rfl rfl fun w_9 b2N c0N => ?_
  refine B0 Tryz.isAgg59 Tryz.sizeOf59 rfl (b2N.at1 (o := 0) (vs := [(vi 2), (vi 0), (nS), (nS)]) (nb rfl) rfl) ?_
  exact hR (b8.mk 2 0 (Sl.mk none 0 0) (Sl.mk none 0 0)) H _ b2N.drop h
theorem b9i (x0 : Bool) {H : Hp} {K : b8 → Hp → Prop} (h : a7L x0 H K) : a3M x0 H K := by
 intro w I
 refine j2V ?_
 refine b8H x0 I (fun r0 H' w' I' hk => ⟨H', _, I', r0, rfl, rfl, hk⟩) h
def M1 (a8o : Int) (a8p : Int) (f3L : (List a8)) (f3M : (List b8)) (e5n : b8) (S5 : b8) (H : Hp) (K : b8 → Hp → Prop) : Prop :=
 ∀ (G1 : Sl) (a7y : Hp), Hle H a7y → SlH a7y 4 b7 G1 f3L → G1.n ≤ G1.c →
 ∀ (G2 : Sl) (d1b : Hp), Hle a7y d1b → SlH d1b 4 d6 G2 f3M → G2.n ≤ G2.c →
 K (b8.mk a8o a8p G1 G2) d1b
def U1 (b7U : Int) (d1c : Int) (b5h : Int) (b5i : Int) (f3N : (List a8)) (b1H : (List b8)) (j3m : b8) (d4G : b8) (H : Hp) (K : b8 → Hp → Prop) : Prop :=
 (0 : Int) ≤ 0 ∧ ∃ d5G : b8, (b1H)[(0 : Int).toNat]? = some d5G ∧
 (d5G.b6 = b7U →
 (0 : Int) ≤ 1 ∧ ∃ c3g : b8, (b1H)[(1 : Int).toNat]? = some c3g ∧
 K c3g H) ∧
 (¬ (d5G.b6 = b7U) →
 (0 : Int) ≤ 0 ∧ ∃ b8c : b8, (b1H)[(0 : Int).toNat]? = some b8c ∧
 (b8c.b6 = d1c →
 (0 : Int) ≤ 0 ∧ ∃ c3h : b8, (b1H)[(0 : Int).toNat]? = some c3h ∧
 K c3h H) ∧
 (¬ (b8c.b6 = d1c) →
 (0 : Int) ≤ 1 ∧ ∃ d5H : b8, (b1H)[(1 : Int).toNat]? = some d5H ∧
 (d5H.b6 = b7U →
 (0 : Int) ≤ 0 ∧ ∃ c3i : b8, (b1H)[(0 : Int).toNat]? = some c3i ∧
 K c3i H) ∧
 (¬ (d5H.b6 = b7U) →
 M1 b5h b5i f3N b1H j3m d4G H K)))
def U2 (c5m : Bool) (a4h : Int) (a8q : Int) (c7w : (List a8)) (c7x : (List b8)) (e5z : b8) (b0Q : b8) (H : Hp) (K : b8 → Hp → Prop) : Prop :=
 (c5m = true →
 (a4h = 6 →
 U1 2 1 a4h a8q c7w c7x e5z b0Q H K) ∧
 (¬ (a4h = 6) →
 U1 1 2 a4h a8q c7w c7x e5z b0Q H K)) ∧
 (c5m = false →
 M1 a4h a8q c7w c7x e5z b0Q H K)
def a3b (K4 : Int) (W8 : Int) (a3d : (List a8)) (a3V : (List b8)) (Q7 : b8) (N9 : b8) (H : Hp) (K : b8 → Hp → Prop) : Prop :=
 (K4 = 3 →
 (0 : Int) ≤ 0 ∧ ∃ f3O : a8, (a3d)[(0 : Int).toNat]? = some f3O ∧
 K3 f3O H (fun (e5A : Int) (d5I : Bool) (j3n : Hp) =>
 (0 : Int) ≤ 1 ∧ ∃ d9v : a8, (a3d)[(1 : Int).toNat]? = some d9v ∧
 K3 d9v j3n (fun (e5B : Int) (d5J : Bool) (d9w : Hp) =>
 ((d5I && d5J) = true →
 a9e W8 e5A e5B d9w (fun (f8b : Bool) (g6c : Hp) =>
 a3M f8b g6c (fun (c5n : b8) (f3P : Hp) =>
 K c5n f3P))) ∧
 ((d5I && d5J) = false →
 M1 K4 W8 a3d a3V Q7 N9 d9w K)))) ∧
 (¬ (K4 = 3) →
 (K4 = 4 →
 (0 : Int) ≤ 0 ∧ ∃ b3i : b8, (a3V)[(0 : Int).toNat]? = some b3i ∧
 (((decide (b3i.b6 = 1)) || (decide (b3i.b6 = 2))) = true →
 a3M (decide (b3i.b6 = 2)) H (fun (c5o : b8) (c6h : Hp) =>
 K c5o c6h)) ∧
 (((decide (b3i.b6 = 1)) || (decide (b3i.b6 = 2))) = false →
 M1 K4 W8 a3d a3V Q7 N9 H K)) ∧
 (¬ (K4 = 4) →
 (K4 = 5 →
 U2 (decide (K4 = 5)) K4 W8 a3d a3V Q7 N9 H K) ∧
 (¬ (K4 = 5) →
 U2 (decide (K4 = 6)) K4 W8 a3d a3V Q7 N9 H K)))
def a3e (f3Q : (List a8)) (a7i : b8) (b2d : Int) (a2y : Int) (a2z : Int) (a0Y : (List b8)) (a9L : b8) (H : Hp) (n6 : (Int × Int × Int × (List b8) × b8) → Hp → Prop) (K : b8 → Hp → Prop) : Prop :=
 (b2d < (a7i.p8.n : Int) →
 (0 : Int) ≤ b2d ∧ (b2d : Int) < a7i.p8.n ∧ ∃ d9x : b8, EltH H a7i.p8 b2d 4 (d6 d9x) ∧
 a4k d9x H (fun (c9J : b8) (f3R : Hp) =>
 (a0Y.length + ([c9J] : List b8).length) * 65 ≤ 140737488355328 ∧
 n6 ((IntKind.wrap .i64 (b2d + 1)), a2y, a2z, (a0Y ++ [c9J]), a9L) f3R)) ∧
 (¬ (b2d < (a7i.p8.n : Int)) →
 a3b a2y a2z f3Q a0Y a9L a7i H K)
def a3f (f2 : Int) (f5 : Int) (b1I : (List a8)) (a3U : (List b8)) (m7 : b8) (r7 : b8) (H : Hp) (K : b8 → Hp → Prop) : Prop :=
 TL ((0, f2, f5, a3U, m7) : Int × Int × Int × (List b8) × b8) H fun (s : Int × Int × Int × (List b8) × b8) H n6 => a3e b1I r7 s.1 s.2.1 s.2.2.1 s.2.2.2.1 s.2.2.2.2 H n6 K
def a3g (a7j : b8) (b2W : Int) (a1z : Int) (a1A : Int) (Y9 : (List a8)) (a1O : (List b8)) (a8P : b8) (H : Hp) (n7 : (Int × Int × Int × (List a8) × (List b8) × b8) → Hp → Prop) (K : b8 → Hp → Prop) : Prop :=
 (b2W < (a7j.i6.n : Int) →
 (0 : Int) ≤ b2W ∧ (b2W : Int) < a7j.i6.n ∧ ∃ d9y : a8, EltH H a7j.i6 b2W 4 (b7 d9y) ∧
 a1L d9y H (fun (c9K : a8) (f3S : Hp) =>
 (Y9.length + ([c9K] : List a8).length) * 57 ≤ 140737488355328 ∧
 n7 ((IntKind.wrap .i64 (b2W + 1)), a1z, a1A, (Y9 ++ [c9K]), a1O, a8P) f3S)) ∧
 (¬ (b2W < (a7j.i6.n : Int)) →
 a3f a1z a1A Y9 a1O a8P a7j H K)
def a4w (x0 : b8) (H : Hp) (K : b8 → Hp → Prop) : Prop :=
 TL ((0, x0.b6, x0.fOp, [], [], (b8.mk 0 0 (Sl.mk none 0 0) (Sl.mk none 0 0))) : Int × Int × Int × (List a8) × (List b8) × b8) H fun (s : Int × Int × Int × (List a8) × (List b8) × b8) H n7 => a3g x0 s.1 s.2.1 s.2.2.1 s.2.2.2.1 s.2.2.2.2.1 s.2.2.2.2.2 H n7 K
theorem b9j (x0 : b8) {K : b8 → Hp → Prop} (I : Inv w0 ps0 H0 H [] w) (hR : ∀ (r0 : b8) (H' : Hp) (w' : World) (_ : Inv w0 ps0 H0 H' [] w') (_ : K r0 H'), R (Value.agg (d6 r0).toArray) w') (h : a4w x0 H K) : F55 (Value.agg (d6 x0).toArray) w R E := by
 unfold a4w at h
 unfold F55
 refine J5 I (cs := (d6 x0)) rfl fun g_2 w_3 I_4 k_5 => ?_
 refine z7 I_4 Tryz.zeroValue59 (cs := [(vi 0), (vi 0), (nS), (nS)]) rfl fun g_7 w_8 I_9 b0M => ?_
 refine a7 Q2 ?_
 refine f7 (ld1 Tryz.isAgg3 ((I_9.bring 1).at1 (o := 0) (vs := [(vi x0.b6)]) (nb rfl) rfl)) ?_
 refine a7 a4N ?_
 refine f7 (ld1 Tryz.isAgg3 ((I_9.bring 1).at1 (o := 1) (vs := [(vi x0.fOp)]) (nb rfl) rfl)) ?_
 refine a7 (d8q _ _) ?_
 refine z7 I_9 Tryz.zeroValue59 (cs := [(vi 0), (vi 0), (nS), (nS)]) rfl fun P4 a2s L9 a4z => ?_
 refine m6 L9 Tryz.sizeOf59 (vs := [(vi x0.b6), (vi x0.fOp), (nS), (nS)]) (cs' := [(vi x0.b6), (vi x0.fOp), (nS), (nS)]) rfl rfl (nb rfl) rfl rfl fun r8 b5M e1J => ?_
 have hj1 : ∀ (f2 : Int) (f5 : Int) (b1I : (List a8)) (a3U : (List b8)) (m7 : b8) (G1 : Sl) (Fcr_11j1_2 : Frag) (d5 : Sl) (Fcr_11j1_3 : Frag) (H : Hp) (w : World) (_ : RowL 53 4 b7 G1 b1I Fcr_11j1_2) (_ : RowL 59 4 d6 d5 a3U Fcr_11j1_3) (_ : Inv w0 ps0 H0 H [bx P4 59 [(vi f2), (vi f5), (vs G1), (vs d5)], bx g_7 59 (d6 m7), bx g_2 59 (d6 x0), Fcr_11j1_2, Fcr_11j1_3] w) (_ : a3f f2 f5 b1I a3U m7 x0 H K), e5b (Value.pointer (some ⟨g_2, 0, none⟩)) (Value.pointer (some ⟨g_7, 0, none⟩)) (Value.pointer (some ⟨P4, 0, none⟩)) w R E := by
  intro f2 f5 b1I a3U m7 G1 Fcr_11j1_2 d5 Fcr_11j1_3 H w f3T c7r I h
  unfold e5b
  intro _
  unfold a3f at h
  have hj2 : ∀ (K4 : Int) (W8 : Int) (a3d : (List a8)) (a3V : (List b8)) (Q7 : b8) (Fcr_11j2_2 : Frag) (G2 : Sl) (Fcr_11j2_3 : Frag) (H : Hp) (w : World) (_ : RowL 53 4 b7 G1 a3d Fcr_11j2_2) (_ : RowL 59 4 d6 G2 a3V Fcr_11j2_3) (_ : Inv w0 ps0 H0 H [bx P4 59 [(vi K4), (vi W8), (vs G1), (vs G2)], bx g_7 59 (d6 Q7), bx g_2 59 (d6 x0), Fcr_11j2_2, Fcr_11j2_3] w) (_ : a3b K4 W8 a3d a3V Q7 x0 H K), e4X (Value.pointer (some ⟨g_7, 0, none⟩)) (Value.pointer (some ⟨P4, 0, none⟩)) w R E := by
   intro K4 W8 a3d a3V Q7 Fcr_11j2_2 G2 Fcr_11j2_3 H w b1J O7 I h
   unfold e4X
   intro _
   unfold a3b at h
   have hj3 : ∀ (a8o : Int) (a8p : Int) (H : Hp) (w : World) (_ : Inv w0 ps0 H0 H [bx P4 59 [(vi a8o), (vi a8p), (vs G1), (vs G2)], bx g_7 59 (d6 Q7), bx g_2 59 (d6 x0), Fcr_11j2_2, Fcr_11j2_3] w) (_ : M1 a8o a8p a3d a3V Q7 x0 H K), e4U (Value.pointer (some ⟨g_7, 0, none⟩)) (Value.pointer (some ⟨P4, 0, none⟩)) w R E := by
    intro a8o a8p H w I h
    unfold e4U
    intro _
    unfold M1 at h
    refine f7 (ldA Tryz.isAgg59 Tryz.sizeOf59 rfl (I.at1 (o := 0) (vs := [(vi a8o), (vi a8p), (vs G1), (vs G2)]) (nb rfl) rfl)) ?_
    refine m6 (I.bring 1) Tryz.sizeOf59 (vs := [(vi a8o), (vi a8p), (vs G1), (vs G2)]) (cs' := [(vi a8o), (vi a8p), (vs G1), (vs G2)]) rfl rfl (nb rfl) rfl rfl fun a4W g6d k8a => ?_
    refine B0 Tryz.isAgg59 Tryz.sizeOf59 rfl (g6d.at1 (o := 0) (vs := [(vi a8o), (vi a8p), (vs G1), (vs G2)]) (nb rfl) rfl) ?_
    obtain ⟨a7y, j8J, d8D, j8K, j8L⟩ := Inv.freezeC (g6d.bring 3) b1J (by decide)
    replace h := h G1 a7y d8D j8K j8L
    obtain ⟨d1b, j8M, d9o, f1u, f1v⟩ := Inv.freezeC (j8J.bring 3) O7 (by decide)
    replace h := h G2 d1b d9o f1u f1v
    exact hR (b8.mk a8o a8p G1 G2) d1b _ j8M.drop.drop.drop h
   refine t6 fun j3 hx3 => ?_
   refine a7 Q2 ?_
   refine f7 (ld1 Tryz.isAgg3 (I.at1 (o := 0) (vs := [(vi K4)]) (nb rfl) rfl)) ?_
   refine a7 (i8 _ _ _ _ _ _) ?_
   refine k7 (fun f3U => ?_) (fun f3U => ?_)
   ·replace h := h.1 f3U
    refine a7 M4 ?_
    refine f7 (ld1 Tryz.isAgg51 (I.at1 (o := 2) (vs := [(vs G1)]) (nb rfl) rfl)) ?_
    obtain ⟨c5T, f3O, b8Q, h⟩ := h
    obtain ⟨l2j, l2k, c6g, d7e⟩ := b1J.addr b8Q
    refine a7 (A0 c6g _ _ _ _ c5T (b1J.lt c5T b8Q)) ?_
    refine f7 (ldA (vs := (b7 f3O)) Tryz.isAgg53 Tryz.sizeOf53 rfl (b1J.atW (I.bring 3) c6g b8Q)) ?_
    refine g9 (cap := []) (fun args w => Tryz.call94 args w) ?_
    refine l7 (Fi := []) (Fr := [bx P4 59 [(vi K4), (vi W8), (vs G1), (vs G2)], bx g_7 59 (d6 Q7), bx g_2 59 (d6 x0), Fcr_11j2_2, Fcr_11j2_3]) I (h) (fun k8b j3n k8c d3n g4f k8d l2l j8N => ?_) (fun _ _ _ _ _ q => q.elim)
    obtain ⟨e5A, d5I, rfl, rfl, h⟩ := j8N
    refine a7 (o2 _ _ (vi e5A) rfl) ?_
    refine a7 (o2 _ _ (vB d5I) rfl) ?_
    refine a7 M4 ?_
    refine f7 (ld1 Tryz.isAgg51 (g4f.at1 (o := 2) (vs := [(vs G1)]) (nb rfl) rfl)) ?_
    obtain ⟨d5p, d9v, f3V, h⟩ := h
    obtain ⟨k8e, k8f, g6e, g5D⟩ := b1J.addr f3V
    refine a7 (A0 g6e _ _ _ _ d5p (b1J.lt d5p f3V)) ?_
    refine f7 (ldA (vs := (b7 d9v)) Tryz.isAgg53 Tryz.sizeOf53 rfl (b1J.atW (g4f.bring 3) g6e f3V)) ?_
    refine g9 (cap := []) (fun args w => Tryz.call94 args w) ?_
    refine l7 (Fi := []) (Fr := [bx P4 59 [(vi K4), (vi W8), (vs G1), (vs G2)], bx g_7 59 (d6 Q7), bx g_2 59 (d6 x0), Fcr_11j2_2, Fcr_11j2_3]) g4f (h) (fun k8g d9w k8h c3d f3W e9c k8i j8O => ?_) (fun _ _ _ _ _ q => q.elim)
    obtain ⟨e5B, d5J, rfl, rfl, h⟩ := j8O
    refine a7 (o2 _ _ (vi e5B) rfl) ?_
    refine a7 (o2 _ _ (vB d5J) rfl) ?_
    simp only [u5]
    refine a7 (s7 _ _) ?_
    refine o0 (fun f3X => ?_) (fun f3X => ?_)
    ·replace h := h.1 f3X
     refine a7 a4N ?_
     refine f7 (ld1 Tryz.isAgg3 (f3W.at1 (o := 1) (vs := [(vi W8)]) (nb rfl) rfl)) ?_
     refine g9 (cap := []) (fun args w => Tryz.call96 args w) ?_
     refine l7 (Fi := []) (Fr := [bx P4 59 [(vi K4), (vi W8), (vs G1), (vs G2)], bx g_7 59 (d6 Q7), bx g_2 59 (d6 x0), Fcr_11j2_2, Fcr_11j2_3]) f3W (h) (fun k8j g6c k8k a2J j8P k8l k8m j8Q => ?_) (fun _ _ _ _ _ q => q.elim)
     obtain ⟨f8b, rfl, rfl, h⟩ := j8Q
     refine g9 (cap := []) (fun args w => Tryz.call95 args w) ?_
     refine l7 (Fi := []) (Fr := [bx P4 59 [(vi K4), (vi W8), (vs G1), (vs G2)], bx g_7 59 (d6 Q7), bx g_2 59 (d6 x0), Fcr_11j2_2, Fcr_11j2_3]) j8P (h) (fun k8n f3P k8o e9f d8E k8p e9g j8R => ?_) (fun _ _ _ _ _ q => q.elim)
     obtain ⟨c5n, rfl, rfl, h⟩ := j8R
     refine m6 (d8E.bring 1) Tryz.sizeOf59 (vs := (d6 c5n)) (cs' := (d6 c5n)) rfl rfl (nb rfl) rfl rfl fun g5i g6f k8q => ?_
     refine B0 Tryz.isAgg59 Tryz.sizeOf59 rfl (g6f.at1 (o := 0) (vs := (d6 c5n)) (nb rfl) rfl) ?_
     exact hR c5n f3P _ g6f.drop.drop.drop.drop.drop h
    ·replace h := h.2 f3X
     exact hx3 _ _ (hj3 K4 W8 d9w _ (((((f3W.bring 4).bring 4).bring 4).bring 4).bring 4) h)
   ·replace h := h.2 f3U
    refine a7 (i8 _ _ _ _ _ _) ?_
    refine k7 (fun f3Y => ?_) (fun f3Y => ?_)
    ·replace h := h.1 f3Y
     refine a7 E5 ?_
     refine f7 (ld1 Tryz.isAgg57 (I.at1 (o := 3) (vs := [(vs G2)]) (nb rfl) rfl)) ?_
     obtain ⟨b4j, b3i, b7R, h⟩ := h
     obtain ⟨j5c, k8r, c2T, d0g⟩ := O7.addr b7R
     refine a7 (S7 c2T _ _ _ _ b4j (O7.lt b4j b7R)) ?_
     refine a7 Q2 ?_
     refine f7 (ld1 (v := (vi b3i.b6)) Tryz.isAgg3 ((O7.atW (I.bring 4) c2T b7R).sub (k := 0) (n := 1) (nb rfl))) ?_
     refine a7 (i8 _ _ _ _ _ _) ?_
     simp only [u5]
     refine a7 (Pu.g fun hb => by have b9 := hb; simp only [i7 b9]; exact (i8 _ _ _ _ _ _)) ?_
     refine a7 (J4 _ _) ?_
     refine o0 (fun c6T => ?_) (fun c6T => ?_)
     ·replace h := h.1 c6T
      refine a7 (i8 _ _ _ _ _ _) ?_
      refine g9 (cap := []) (fun args w => Tryz.call95 args w) ?_
      refine l7 (Fi := []) (Fr := [bx P4 59 [(vi K4), (vi W8), (vs G1), (vs G2)], bx g_7 59 (d6 Q7), bx g_2 59 (d6 x0), Fcr_11j2_2, Fcr_11j2_3]) I (h) (fun j5d c6h j5e d0h e9F j5f j5g e9G => ?_) (fun _ _ _ _ _ q => q.elim)
      obtain ⟨c5o, rfl, rfl, h⟩ := e9G
      refine m6 (e9F.bring 1) Tryz.sizeOf59 (vs := (d6 c5o)) (cs' := (d6 c5o)) rfl rfl (nb rfl) rfl rfl fun d4s c7k j7L => ?_
      refine B0 Tryz.isAgg59 Tryz.sizeOf59 rfl (c7k.at1 (o := 0) (vs := (d6 c5o)) (nb rfl) rfl) ?_
      exact hR c5o c6h _ c7k.drop.drop.drop.drop.drop h
     ·replace h := h.2 c6T
      exact hx3 _ _ (hj3 K4 W8 H _ (((((I.bring 4).bring 4).bring 4).bring 4).bring 4) h)
    ·replace h := h.2 f3Y
     have hj4 : ∀ (c5m : Bool) (a4h : Int) (a8q : Int) (H : Hp) (w : World) (_ : Inv w0 ps0 H0 H [bx P4 59 [(vi a4h), (vi a8q), (vs G1), (vs G2)], bx g_7 59 (d6 Q7), bx g_2 59 (d6 x0), Fcr_11j2_2, Fcr_11j2_3] w) (_ : U2 c5m a4h a8q a3d a3V Q7 x0 H K), e4W (Value.pointer (some ⟨g_7, 0, none⟩)) (Value.pointer (some ⟨P4, 0, none⟩)) (vB c5m) w j3 R E := by
      intro c5m a4h a8q H w I h
      unfold e4W
      intro _
      unfold U2 at h
      refine o0 (fun f3Z => ?_) (fun f3Z => ?_)
      ·replace h := h.1 f3Z
       have hj5 : ∀ (b7U : Int) (d1c : Int) (b5h : Int) (b5i : Int) (H : Hp) (w : World) (_ : Inv w0 ps0 H0 H [bx P4 59 [(vi b5h), (vi b5i), (vs G1), (vs G2)], bx g_7 59 (d6 Q7), bx g_2 59 (d6 x0), Fcr_11j2_2, Fcr_11j2_3] w) (_ : U1 b7U d1c b5h b5i a3d a3V Q7 x0 H K), e4V (Value.pointer (some ⟨g_7, 0, none⟩)) (Value.pointer (some ⟨P4, 0, none⟩)) (vi b7U) (vi d1c) w j3 R E := by
        intro b7U d1c b5h b5i H w I h
        unfold e4V
        intro _
        unfold U1 at h
        refine a7 E5 ?_
        refine f7 (ld1 Tryz.isAgg57 (I.at1 (o := 3) (vs := [(vs G2)]) (nb rfl) rfl)) ?_
        obtain ⟨g6g, d5G, d5K, h⟩ := h
        obtain ⟨k8s, k8t, g6h, g5O⟩ := O7.addr d5K
        refine a7 (S7 g6h _ _ _ _ g6g (O7.lt g6g d5K)) ?_
        refine a7 Q2 ?_
        refine f7 (ld1 (v := (vi d5G.b6)) Tryz.isAgg3 ((O7.atW (I.bring 4) g6h d5K).sub (k := 0) (n := 1) (nb rfl))) ?_
        refine a7 (i8 _ _ _ _ _ _) ?_
        refine k7 (fun f4a => ?_) (fun f4a => ?_)
        ·replace h := h.1 f4a
         refine a7 E5 ?_
         refine f7 (ld1 Tryz.isAgg57 (I.at1 (o := 3) (vs := [(vs G2)]) (nb rfl) rfl)) ?_
         obtain ⟨d9n, c3g, c7m, h⟩ := h
         obtain ⟨k8u, k8v, g6i, g6j⟩ := O7.addr c7m
         refine a7 (S7 g6i _ _ _ _ d9n (O7.lt d9n c7m)) ?_
         refine f7 (ldA (vs := (d6 c3g)) Tryz.isAgg59 Tryz.sizeOf59 rfl (O7.atW (I.bring 4) g6i c7m)) ?_
         refine m6 (I.bring 1) Tryz.sizeOf59 (vs := (d6 c3g)) (cs' := (d6 c3g)) rfl rfl (nb rfl) rfl rfl fun b5Z g6k k8w => ?_
         refine B0 Tryz.isAgg59 Tryz.sizeOf59 rfl (g6k.at1 (o := 0) (vs := (d6 c3g)) (nb rfl) rfl) ?_
         exact hR c3g H _ g6k.drop.drop.drop.drop.drop h
        ·replace h := h.2 f4a
         refine a7 E5 ?_
         refine f7 (ld1 Tryz.isAgg57 (I.at1 (o := 3) (vs := [(vs G2)]) (nb rfl) rfl)) ?_
         obtain ⟨d8H, b8c, b9w, h⟩ := h
         obtain ⟨j6n, k8x, d8U, d8V⟩ := O7.addr b9w
         refine a7 (S7 d8U _ _ _ _ d8H (O7.lt d8H b9w)) ?_
         refine a7 Q2 ?_
         refine f7 (ld1 (v := (vi b8c.b6)) Tryz.isAgg3 ((O7.atW (I.bring 4) d8U b9w).sub (k := 0) (n := 1) (nb rfl))) ?_
         refine a7 (i8 _ _ _ _ _ _) ?_
         refine k7 (fun f4b => ?_) (fun f4b => ?_)
         ·replace h := h.1 f4b
          refine a7 E5 ?_
          refine f7 (ld1 Tryz.isAgg57 (I.at1 (o := 3) (vs := [(vs G2)]) (nb rfl) rfl)) ?_
          obtain ⟨g6l, c3h, d5L, h⟩ := h
          obtain ⟨k8y, k8z, g6m, k8A⟩ := O7.addr d5L
          refine a7 (S7 g6m _ _ _ _ g6l (O7.lt g6l d5L)) ?_
          refine f7 (ldA (vs := (d6 c3h)) Tryz.isAgg59 Tryz.sizeOf59 rfl (O7.atW (I.bring 4) g6m d5L)) ?_
          refine m6 (I.bring 1) Tryz.sizeOf59 (vs := (d6 c3h)) (cs' := (d6 c3h)) rfl rfl (nb rfl) rfl rfl fun k8B g6n k8C => ?_
          refine B0 Tryz.isAgg59 Tryz.sizeOf59 rfl (g6n.at1 (o := 0) (vs := (d6 c3h)) (nb rfl) rfl) ?_
          exact hR c3h H _ g6n.drop.drop.drop.drop.drop h
         ·replace h := h.2 f4b
          refine a7 E5 ?_
          refine f7 (ld1 Tryz.isAgg57 (I.at1 (o := 3) (vs := [(vs G2)]) (nb rfl) rfl)) ?_
          obtain ⟨g6o, d5H, f4c, h⟩ := h
          obtain ⟨k8D, k8E, g6p, k8F⟩ := O7.addr f4c
          refine a7 (S7 g6p _ _ _ _ g6o (O7.lt g6o f4c)) ?_
          refine a7 Q2 ?_
          refine f7 (ld1 (v := (vi d5H.b6)) Tryz.isAgg3 ((O7.atW (I.bring 4) g6p f4c).sub (k := 0) (n := 1) (nb rfl))) ?_
          refine a7 (i8 _ _ _ _ _ _) ?_
          refine k7 (fun c6V => ?_) (fun c6V => ?_)
          ·replace h := h.1 c6V
           refine a7 E5 ?_
           refine f7 (ld1 Tryz.isAgg57 (I.at1 (o := 3) (vs := [(vs G2)]) (nb rfl) rfl)) ?_
           obtain ⟨g6q, c3i, b8k, h⟩ := h
           obtain ⟨k8G, k8H, g6r, f4d⟩ := O7.addr b8k
           refine a7 (S7 g6r _ _ _ _ g6q (O7.lt g6q b8k)) ?_
           refine f7 (ldA (vs := (d6 c3i)) Tryz.isAgg59 Tryz.sizeOf59 rfl (O7.atW (I.bring 4) g6r b8k)) ?_
           refine m6 (I.bring 1) Tryz.sizeOf59 (vs := (d6 c3i)) (cs' := (d6 c3i)) rfl rfl (nb rfl) rfl rfl fun d8L g6s k8I => ?_
           refine B0 Tryz.isAgg59 Tryz.sizeOf59 rfl (g6s.at1 (o := 0) (vs := (d6 c3i)) (nb rfl) rfl) ?_
           exact hR c3i H _ g6s.drop.drop.drop.drop.drop h
          ·replace h := h.2 c6V
           exact hx3 _ _ (hj3 b5h b5i H _ (((((I.bring 4).bring 4).bring 4).bring 4).bring 4) h)
       refine t6 fun j5 hx5 => ?_
       refine a7 Q2 ?_
       refine f7 (ld1 Tryz.isAgg3 (I.at1 (o := 0) (vs := [(vi a4h)]) (nb rfl) rfl)) ?_
       refine a7 (i8 _ _ _ _ _ _) ?_
       refine k7 (fun f4e => ?_) (fun f4e => ?_)
       ·replace h := h.1 f4e
        exact hx5 _ _ (hj5 2 1 a4h a8q H _ (((((I.bring 4).bring 4).bring 4).bring 4).bring 4) h)
       ·replace h := h.2 f4e
        exact hx5 _ _ (hj5 1 2 a4h a8q H _ (((((I.bring 4).bring 4).bring 4).bring 4).bring 4) h)
      ·replace h := h.2 f3Z
       exact hx3 _ _ (hj3 a4h a8q H _ (((((I.bring 4).bring 4).bring 4).bring 4).bring 4) h)
     refine t6 fun j4 hx4 => ?_
     refine a7 (i8 _ _ _ _ _ _) ?_
     refine k7 (fun f4f => ?_) (fun f4f => ?_)
     ·replace h := h.1 f4f
      exact hx4 _ _ (hj4 (decide (K4 = 5)) K4 W8 H _ (((((I.bring 4).bring 4).bring 4).bring 4).bring 4) h)
     ·replace h := h.2 f4f
      refine a7 (i8 _ _ _ _ _ _) ?_
      exact hx4 _ _ (hj4 (decide (K4 = 6)) K4 W8 H _ (((((I.bring 4).bring 4).bring 4).bring 4).bring 4) h)
  refine t6 fun j2 hx2 => ?_
  obtain ⟨f4g, d5M, j8S, j8T⟩ := h
  refine B5 (J := fun n l w => ∃ (s : Int × Int × Int × (List b8) × b8) (H : Hp) (b1K : Sl) (Fcr_11l6_3 : Frag) , n = d5M s ∧ l = (match s with | (b2d, a2y, a2z, a0Y, a9L) => [(vi b2d)]) ∧ (match s with | (b2d, a2y, a2z, a0Y, a9L) => RowL 59 4 d6 b1K a0Y Fcr_11l6_3) ∧ (match s with | (b2d, a2y, a2z, a0Y, a9L) => Inv w0 ps0 H0 H [bx P4 59 [(vi a2y), (vi a2z), (vs G1), (vs b1K)], bx g_7 59 (d6 a9L), bx g_2 59 (d6 x0), Fcr_11j1_2, Fcr_11l6_3] w) ∧ f4g s H) ⟨_, (0, f2, f5, a3U, m7), H, d5, Fcr_11j1_3, rfl, rfl, c7r, (((((I.bring 4).bring 4).bring 4).bring 4).bring 4), j8S⟩ ?_
  rintro k8J τ_285 w next6 ⟨⟨b2d, a2y, a2z, a0Y, a9L⟩, H, b1K, Fcr_11l6_3, rfl, f4h, c7y, I, j8U⟩ hn6
  dsimp only at f4h I c7y
  simp only [List.map_cons, List.map_nil, List.cons.injEq, and_true] at f4h
  have e5 := f4h
  simp only [e5]
  obtain ⟨n6, hm6, h⟩ : ∃ n6 : (Int × Int × Int × (List b8) × b8) → Hp → Prop, (∀ s' H', n6 s' H' → f4g s' H' ∧ d5M s' < d5M (b2d, a2y, a2z, a0Y, a9L)) ∧ a3e b1I x0 b2d a2y a2z a0Y a9L H n6 K := ⟨_, fun _ _ h => h, j8T (b2d, a2y, a2z, a0Y, a9L) H (fun s' H' => f4g s' H' ∧ d5M s' < d5M (b2d, a2y, a2z, a0Y, a9L)) j8U (fun _ _ a b => ⟨a, b⟩)⟩
  unfold f7N
  unfold a3e at h
  refine a7 E5 ?_
  refine f7 (ld1 Tryz.isAgg57 ((I.bring 2).at1 (o := 3) (vs := [(vs x0.p8)]) (nb rfl) rfl)) ?_
  refine a7 (U9 _ _ _) ?_
  refine a7 (w9 _ _ _ _ _ _) ?_
  refine k7 (fun c7u => ?_) (fun c7u => ?_)
  ·replace h := h.1 c7u
   refine a5z I fun g4Q d1d => ?_
   refine q9 E5 ?_
   refine q9 E5 ?_
   refine A5 (ld1 Tryz.isAgg57 (d1d.at1 (o := 3) (vs := [(vs b1K)]) (nb rfl) rfl)) ?_
   refine A5 (ld1 Tryz.isAgg57 ((d1d.bring 2).at1 (o := 3) (vs := [(vs x0.p8)]) (nb rfl) rfl)) ?_
   obtain ⟨j8V, j8W, d9x, f4i, h⟩ := h
   obtain ⟨k8K, k8L, j8X, f4i⟩ := f4i
   refine q9 (S7 j8X _ _ _ _ j8V j8W) ?_
   refine A5 (ldA (vs := (d6 d9x)) Tryz.isAgg59 Tryz.sizeOf59 rfl (d1d.atH f4i)) ?_
   refine g9 (cap := []) (fun args w => Tryz.call55 args w) ?_
   refine l7 (Fi := []) (Fr := [bx P4 59 [(vi a2y), (vi a2z), (vs G1), (vs b1K)], bx g_7 59 (d6 a9L), bx g_2 59 (d6 x0), Fcr_11j1_2, Fcr_11l6_3]) d1d (h) (fun k8M f3R k8N j8Y g6t k8O j8Z j9a => ?_) (fun _ _ _ _ _ q => q.elim)
   obtain ⟨c9J, rfl, rfl, h⟩ := j9a
   refine ⟨(j8Z _ d1d.lt1 (Inv.a3h (Fi := []) d1d)), ?_⟩
   refine a5A (e := 59) (c := d6) (xs := [c9J]) g6t (c9U _ _ _ _ _ _ _ _) rfl rfl a2F a2G (nb rfl) fun k8P k8Q f2v j9b d5E g5Y => ?_
   refine ⟨(g5Y _ g6t.lt1), ?_⟩
   obtain ⟨j9c, h⟩ := h
   refine d3C (s := b1K) (xs := a0Y) (d5E.bring 5) c7y (j9b.srcO ((d5E.bring 5).bring 1)) j9c fun f4j j9d g5q j9e j9f k8R => ?_
   refine q9 E5 ?_
   refine m6 ((j9f.bring 1).drop.bring 1) Tryz.sizeOf57 (vs := [(vs f4j)]) (cs' := [(vi a2y), (vi a2z), (vs G1), (vs f4j)]) rfl rfl (nb rfl) rfl rfl fun k8S j9g k8T => ?_
   refine a7 (y6 _ _ _ _ _ _) ?_
   exact hn6 _ _ _ (hm6 _ _ h).2 ⟨((IntKind.wrap .i64 (b2d + 1)), a2y, a2z, (a0Y ++ [c9J]), a9L), f3R, f4j, j9d, rfl, rfl, j9e, (((((j9g.bring 1).bring 4).bring 4).bring 4).bring 4), (hm6 _ _ h).1⟩
  ·replace h := h.2 c7u
   exact hx2 _ _ (hj2 a2y a2z b1I a0Y a9L Fcr_11j1_2 b1K Fcr_11l6_3 H _ f3T c7y (((((I.bring 4).bring 4).bring 4).bring 4).bring 4) h)
 refine t6 fun j1 hx1 => ?_
 obtain ⟨f4k, d5N, j9h, j9i⟩ := h
 refine B5 (J := fun n l w => ∃ (s : Int × Int × Int × (List a8) × (List b8) × b8) (H : Hp) (b1L : Sl) (Fcr_11l7_2 : Frag) (b1M : Sl) (Fcr_11l7_3 : Frag) , n = d5N s ∧ l = (match s with | (b2W, a1z, a1A, Y9, a1O, a8P) => [(vi b2W)]) ∧ (match s with | (b2W, a1z, a1A, Y9, a1O, a8P) => RowL 53 4 b7 b1L Y9 Fcr_11l7_2) ∧ (match s with | (b2W, a1z, a1A, Y9, a1O, a8P) => RowL 59 4 d6 b1M a1O Fcr_11l7_3) ∧ (match s with | (b2W, a1z, a1A, Y9, a1O, a8P) => Inv w0 ps0 H0 H [bx P4 59 [(vi a1z), (vi a1A), (vs b1L), (vs b1M)], bx g_7 59 (d6 a8P), bx g_2 59 (d6 x0), Fcr_11l7_2, Fcr_11l7_3] w) ∧ f4k s H) ⟨_, (0, x0.b6, x0.fOp, [], [], (b8.mk 0 0 (Sl.mk none 0 0) (Sl.mk none 0 0))), H, (Sl.mk none 0 0), [], (Sl.mk none 0 0), [], rfl, rfl, (RowL.nil N7 N8), (RowL.nil a2F a2G), ((((b5M.nil.nil.bring 1).bring 4).bring 4).bring 4), j9h⟩ ?_
 rintro k8U τ_338 w next7 ⟨⟨b2W, a1z, a1A, Y9, a1O, a8P⟩, H, b1L, Fcr_11l7_2, b1M, Fcr_11l7_3, rfl, f4l, c7z, c7A, I, j9j⟩ hn7
 dsimp only at f4l I c7z c7A
 simp only [List.map_cons, List.map_nil, List.cons.injEq, and_true] at f4l
 have e4 := f4l
 simp only [e4]
 obtain ⟨n7, hm7, h⟩ : ∃ n7 : (Int × Int × Int × (List a8) × (List b8) × b8) → Hp → Prop, (∀ s' H', n7 s' H' → f4k s' H' ∧ d5N s' < d5N (b2W, a1z, a1A, Y9, a1O, a8P)) ∧ a3g x0 b2W a1z a1A Y9 a1O a8P H n7 K := ⟨_, fun _ _ h => h, j9i (b2W, a1z, a1A, Y9, a1O, a8P) H (fun s' H' => f4k s' H' ∧ d5N s' < d5N (b2W, a1z, a1A, Y9, a1O, a8P)) j9j (fun _ _ a b => ⟨a, b⟩)⟩
 unfold f7O
 unfold a3g at h
 refine a7 M4 ?_
 refine f7 (ld1 Tryz.isAgg51 ((I.bring 2).at1 (o := 2) (vs := [(vs x0.i6)]) (nb rfl) rfl)) ?_
 refine a7 (J3 _ _ _) ?_
 refine a7 (w9 _ _ _ _ _ _) ?_
 refine k7 (fun f4m => ?_) (fun f4m => ?_)
 ·replace h := h.1 f4m
  refine a5z I fun g5s d1e => ?_
  refine q9 M4 ?_
  refine q9 M4 ?_
  refine A5 (ld1 Tryz.isAgg51 (d1e.at1 (o := 2) (vs := [(vs b1L)]) (nb rfl) rfl)) ?_
  refine A5 (ld1 Tryz.isAgg51 ((d1e.bring 2).at1 (o := 2) (vs := [(vs x0.i6)]) (nb rfl) rfl)) ?_
  obtain ⟨j9k, j9l, d9y, d5O, h⟩ := h
  obtain ⟨k8V, k8W, j9m, d5O⟩ := d5O
  refine q9 (A0 j9m _ _ _ _ j9k j9l) ?_
  refine A5 (ldA (vs := (b7 d9y)) Tryz.isAgg53 Tryz.sizeOf53 rfl (d1e.atH d5O)) ?_
  refine g9 (cap := []) (fun args w => Tryz.call56 args w) ?_
  refine l7 (Fi := []) (Fr := [bx P4 59 [(vi a1z), (vi a1A), (vs b1L), (vs b1M)], bx g_7 59 (d6 a8P), bx g_2 59 (d6 x0), Fcr_11l7_2, Fcr_11l7_3]) d1e (h) (fun k8X f3S k8Y k8Z g6u k9a j9n j9o => ?_) (fun _ _ _ _ _ q => q.elim)
  obtain ⟨c9K, rfl, rfl, h⟩ := j9o
  refine ⟨(j9n _ d1e.lt1 (Inv.a3h (Fi := []) d1e)), ?_⟩
  refine a5A (e := 53) (c := b7) (xs := [c9K]) g6u (b6N _ _ _ _ _ _) rfl rfl N7 N8 (nb rfl) fun k9b k9c k9d j9p g6v j9q => ?_
  refine ⟨(j9q _ g6u.lt1), ?_⟩
  obtain ⟨f4n, h⟩ := h
  refine c8e (s := b1L) (xs := Y9) (g6v.bring 4) c7z (j9p.srcO ((g6v.bring 4).bring 1)) f4n fun f4o j9r k9e j9s f3K j8I => ?_
  refine q9 M4 ?_
  refine m6 ((f3K.bring 1).drop.bring 1) Tryz.sizeOf51 (vs := [(vs f4o)]) (cs' := [(vi a1z), (vi a1A), (vs f4o), (vs b1M)]) rfl rfl (nb rfl) rfl rfl fun k9f j9t k9g => ?_
  refine a7 (y6 _ _ _ _ _ _) ?_
  exact hn7 _ _ _ (hm7 _ _ h).2 ⟨((IntKind.wrap .i64 (b2W + 1)), a1z, a1A, (Y9 ++ [c9K]), a1O, a8P), f3S, f4o, j9r, b1M, Fcr_11l7_3, rfl, rfl, j9s, c7A, (((((j9t.bring 4).bring 2).bring 4).bring 4).bring 4), (hm7 _ _ h).1⟩
 ·replace h := h.2 f4m
  exact hx1 _ _ (hj1 a1z a1A Y9 a1O a8P b1L Fcr_11l7_2 b1M Fcr_11l7_3 H _ c7z c7A (((((I.bring 4).bring 4).bring 4).bring 4).bring 4) h)
theorem b9R (x0 : b8) {H : Hp} {K : b8 → Hp → Prop} (h : a4w x0 H K) : a4k x0 H K := by
 intro w I
 refine j1x ?_
 refine b9j x0 I (fun r0 H' w' I' hk => ⟨H', _, I', r0, rfl, rfl, hk⟩) h
def O1 (k0S : Sl) (d1f : (List d8)) (e4b : Int) (H : Hp) (n2 : ((List d8) × Int) → Hp → Prop) (K : Sl → Hp → Prop) : Prop :=
 n2 (d1f, (IntKind.wrap .i64 (e4b + 1))) H
def O2 (f4p : Sl) (c7B : (List d8)) (f4q : Int) (f4r : Int) (d1g : Bool) (a2A : Int) (a9M : ByteArray) (f4s : (List a8)) (f4t : (List b8)) (a7l : Sl) (a7m : Sl) (H : Hp) (n2 : ((List d8) × Int) → Hp → Prop) (K : Sl → Hp → Prop) : Prop :=
 (d1g = true →
 O1 f4p c7B f4q H n2 K) ∧
 (d1g = false →
 (((decide (a2A = 3)) && (decide (f4r = 1))) = true →
 ∃ c9L : List d8, SlH H 6 g8 a7l c9L ∧ (c7B.length + c9L.length) * 121 ≤ 140737488355328 ∧
 O1 f4p (c7B ++ c9L) f4q H n2 K) ∧
 (((decide (a2A = 3)) && (decide (f4r = 1))) = false →
 (((decide (a2A = 3)) && (decide (f4r = 2))) = true →
 ∃ c9M : List d8, SlH H 6 g8 a7m c9M ∧ (c7B.length + c9M.length) * 121 ≤ 140737488355328 ∧
 O1 f4p (c7B ++ c9M) f4q H n2 K) ∧
 (((decide (a2A = 3)) && (decide (f4r = 2))) = false →
 ∀ (a0Z : Sl) (d5P : Hp), Hle H d5P → SlH d5P 4 b7 a0Z f4s → a0Z.n ≤ a0Z.c →
 ∀ (O8 : Sl) (d1h : Hp), Hle d5P d1h → SlH d1h 4 d6 O8 f4t → O8.n ≤ O8.c →
 (c7B.length + ([(d8.mk a2A a9M a0Z O8 a7l a7m)] : List d8).length) * 121 ≤ 140737488355328 ∧
 O1 f4p (c7B ++ [(d8.mk a2A a9M a0Z O8 a7l a7m)]) f4q d1h n2 K)))
def T1 (g4g : Sl) (f4u : (List d8)) (d7u : Int) (b4X : Int) (R0 : Int) (a8r : ByteArray) (c7C : (List a8)) (c7D : (List b8)) (a8s : Sl) (a8t : Sl) (H : Hp) (n2 : ((List d8) × Int) → Hp → Prop) (K : Sl → Hp → Prop) : Prop :=
 (R0 = 7 →
 O2 g4g f4u d7u b4X (decide (R0 = 7)) R0 a8r c7C c7D a8s a8t H n2 K) ∧
 (¬ (R0 = 7) →
 (((decide (R0 = 6)) && (decide (b4X = 1))) = true →
 O2 g4g f4u d7u b4X ((decide (R0 = 6)) && (decide (b4X = 1))) R0 a8r c7C c7D a8s a8t H n2 K) ∧
 (((decide (R0 = 6)) && (decide (b4X = 1))) = false →
 O2 g4g f4u d7u b4X ((decide (R0 = 4)) && (decide (b4X = 2))) R0 a8r c7C c7D a8s a8t H n2 K))
def a2m (j3o : Sl) (b1N : (List d8)) (d3c : Int) (b0V : Int) (b0W : ByteArray) (a9N : (List a8)) (a5t : (List b8)) (b0X : Sl) (b0Y : Sl) (H : Hp) (n2 : ((List d8) × Int) → Hp → Prop) (K : Sl → Hp → Prop) : Prop :=
 (0 < (a5t.length : Int) →
 (0 : Int) ≤ 0 ∧ ∃ d5Q : b8, (a5t)[(0 : Int).toNat]? = some d5Q ∧
 T1 j3o b1N d3c d5Q.b6 b0V b0W a9N a5t b0X b0Y H n2 K) ∧
 (¬ (0 < (a5t.length : Int)) →
 T1 j3o b1N d3c 0 b0V b0W a9N a5t b0X b0Y H n2 K)
def a2o (g4h : Sl) (j9u : (List d8)) (f4v : Int) (f4w : (List b8)) (b3Q : Int) (a2B : Int) (a2C : ByteArray) (a1b : (List a8)) (a2D : Sl) (a2E : Sl) (H : Hp) (n2 : ((List d8) × Int) → Hp → Prop) (n9 : (Int × Int × ByteArray × (List a8) × Sl × Sl) → Hp → Prop) (K : Sl → Hp → Prop) : Prop :=
 (0 : Int) ≤ f4v ∧ (f4v : Int) < g4h.n ∧ ∃ c3j : d8, EltH H g4h f4v 6 (g8 c3j) ∧
 (b3Q < (c3j.i6.n : Int) →
 (0 : Int) ≤ b3Q ∧ (b3Q : Int) < c3j.i6.n ∧ ∃ d9z : a8, EltH H c3j.i6 b3Q 4 (b7 d9z) ∧
 a1L d9z H (fun (c9N : a8) (f4x : Hp) =>
 (a1b.length + ([c9N] : List a8).length) * 57 ≤ 140737488355328 ∧
 n9 ((IntKind.wrap .i64 (b3Q + 1)), a2B, a2C, (a1b ++ [c9N]), a2D, a2E) f4x)) ∧
 (¬ (b3Q < (c3j.i6.n : Int)) →
 a2m g4h j9u f4v a2B a2C a1b f4w a2D a2E H n2 K)
def a2p (e8S : Sl) (j9v : (List d8)) (g1O : Int) (b5j : Int) (b5k : ByteArray) (f4y : (List a8)) (b1O : (List b8)) (b5l : Sl) (b5m : Sl) (H : Hp) (n2 : ((List d8) × Int) → Hp → Prop) (K : Sl → Hp → Prop) : Prop :=
 TL ((0, b5j, b5k, f4y, b5l, b5m) : Int × Int × ByteArray × (List a8) × Sl × Sl) H fun (s : Int × Int × ByteArray × (List a8) × Sl × Sl) H n9 => a2o e8S j9v g1O b1O s.1 s.2.1 s.2.2.1 s.2.2.2.1 s.2.2.2.2.1 s.2.2.2.2.2 H n2 n9 K
def a1P (f4z : Sl) (j3p : (List d8)) (d9A : Int) (e6f : (List a8)) (b0z : Int) (a1d : Int) (a1e : ByteArray) (X4 : (List b8)) (a1f : Sl) (a1g : Sl) (H : Hp) (n2 : ((List d8) × Int) → Hp → Prop) (n10 : (Int × Int × ByteArray × (List b8) × Sl × Sl) → Hp → Prop) (K : Sl → Hp → Prop) : Prop :=
 (0 : Int) ≤ d9A ∧ (d9A : Int) < f4z.n ∧ ∃ c3k : d8, EltH H f4z d9A 6 (g8 c3k) ∧
 (b0z < (c3k.m9.n : Int) →
 (0 : Int) ≤ b0z ∧ (b0z : Int) < c3k.m9.n ∧ ∃ d9B : b8, EltH H c3k.m9 b0z 4 (d6 d9B) ∧
 a4k d9B H (fun (c9O : b8) (f4A : Hp) =>
 (X4.length + ([c9O] : List b8).length) * 65 ≤ 140737488355328 ∧
 n10 ((IntKind.wrap .i64 (b0z + 1)), a1d, a1e, (X4 ++ [c9O]), a1f, a1g) f4A)) ∧
 (¬ (b0z < (c3k.m9.n : Int)) →
 a2p f4z j3p d9A a1d a1e e6f X4 a1f a1g H n2 K)
def Y4 (f9f : Sl) (j9w : (List d8)) (d3b : Int) (b5n : Int) (b5o : ByteArray) (a9O : (List a8)) (b3t : (List b8)) (b5p : Sl) (b5q : Sl) (H : Hp) (n2 : ((List d8) × Int) → Hp → Prop) (K : Sl → Hp → Prop) : Prop :=
 TL ((0, b5n, b5o, b3t, b5p, b5q) : Int × Int × ByteArray × (List b8) × Sl × Sl) H fun (s : Int × Int × ByteArray × (List b8) × Sl × Sl) H n10 => a1P f9f j9w d3b a9O s.1 s.2.1 s.2.2.1 s.2.2.2.1 s.2.2.2.2.1 s.2.2.2.2.2 H n2 n10 K
def a2q (b6r : (List d8)) (H : Hp) (K : Sl → Hp → Prop) : Prop :=
 ∀ (a6U : Sl) (d1i : Hp), Hle H d1i → SlH d1i 6 g8 a6U b6r → a6U.n ≤ a6U.c →
 K a6U d1i
def a2r (b2e : Sl) (Y8 : (List d8)) (N6 : Int) (H : Hp) (n2 : ((List d8) × Int) → Hp → Prop) (K : Sl → Hp → Prop) : Prop :=
 (N6 < (b2e.n : Int) →
 (0 : Int) ≤ N6 ∧ (N6 : Int) < b2e.n ∧ ∃ x_3 : d8, EltH H b2e N6 6 (g8 x_3) ∧
 S8 x_3.v7 H (fun (U7 : Sl) (b2O : Hp) =>
 S8 x_3.t7 b2O (fun (d5R : Sl) (g4i : Hp) =>
 Y4 b2e Y8 N6 x_3.b6 x_3.g7 [] [] U7 d5R g4i n2 K))) ∧
 (¬ (N6 < (b2e.n : Int)) →
 a2q Y8 H K)
def a3W (x0 : Sl) (H : Hp) (K : Sl → Hp → Prop) : Prop :=
 TL (([], 0) : (List d8) × Int) H fun (s : (List d8) × Int) H n2 => a2r x0 s.1 s.2 H n2 K
theorem b8I (x0 : Sl) {K : Sl → Hp → Prop} (I : Inv w0 ps0 H0 H [] w) (hR : ∀ (r0 : Sl) (H' : Hp) (w' : World) (_ : Inv w0 ps0 H0 H' [] w') (_ : K r0 H'), R (vs r0) w') (h : a3W x0 H K) : F32 (vs x0) w R E := by
 unfold a3W at h
 unfold F32
 have hj1 : ∀ (b6r : (List d8)) (a6U : Sl) (Fs3j1 : Frag) (H : Hp) (w : World) (_ : RowL 73 6 g8 a6U b6r Fs3j1) (_ : Inv w0 ps0 H0 H [Fs3j1] w) (_ : a2q b6r H K), e4D (vs a6U) w R E := by
  intro b6r a6U Fs3j1 H w f3f I h
  unfold e4D
  intro _
  unfold a2q at h
  obtain ⟨d1i, j9x, j9y, j9z, j9A⟩ := Inv.freezeC I f3f (by decide)
  replace h := h a6U d1i j9y j9z j9A
  exact hR a6U d1i _ j9x h
 refine t6 fun j1 hx1 => ?_
 obtain ⟨f4B, d5S, j9B, j9C⟩ := h
 refine B5 (J := fun n l w => ∃ (s : (List d8) × Int) (H : Hp) (a7D : Sl) (Fs3l2 : Frag) , n = d5S s ∧ l = (match s with | (Y8, N6) => [(vs a7D), (vi N6)]) ∧ (match s with | (Y8, N6) => RowL 73 6 g8 a7D Y8 Fs3l2) ∧ (match s with | (Y8, N6) => Inv w0 ps0 H0 H [Fs3l2] w) ∧ f4B s H) ⟨_, ([], 0), H, (Sl.mk none 0 0), [], rfl, rfl, (RowL.nil a3F a9p), I.nil, j9B⟩ ?_
 rintro k9h τ_398 w next2 ⟨⟨Y8, N6⟩, H, a7D, Fs3l2, rfl, f4C, c7p, I, j9D⟩ hn2
 dsimp only at f4C I c7p
 simp only [List.map_cons, List.map_nil, List.cons.injEq, and_true] at f4C
 obtain ⟨e3, e4⟩ := f4C
 simp only [e3, e4]
 obtain ⟨n2, hm2, h⟩ : ∃ n2 : ((List d8) × Int) → Hp → Prop, (∀ s' H', n2 s' H' → f4B s' H' ∧ d5S s' < d5S (Y8, N6)) ∧ a2r x0 Y8 N6 H n2 K := ⟨_, fun _ _ h => h, j9C (Y8, N6) H (fun s' H' => f4B s' H' ∧ d5S s' < d5S (Y8, N6)) j9D (fun _ _ a b => ⟨a, b⟩)⟩
 unfold f7A
 unfold a2r at h
 refine a7 (W4 _ _ _) ?_
 refine a7 (w9 _ _ _ _ _ _) ?_
 refine k7 (fun f4D => ?_) (fun f4D => ?_)
 ·replace h := h.1 f4D
  have hj3 : ∀ (d1f : (List d8)) (d9C : Sl) (Fs3j3 : Frag) (H : Hp) (w : World) (_ : RowL 73 6 g8 d9C d1f Fs3j3) (_ : Inv w0 ps0 H0 H [Fs3j3] w) (_ : O1 x0 d1f N6 H n2 K), e4E (vs x0) (vs d9C) (vi N6) w next2 R E := by
   intro d1f d9C Fs3j3 H w j9E I h
   unfold e4E
   intro _
   unfold O1 at h
   refine a7 (y6 _ _ _ _ _ _) ?_
   exact hn2 _ _ _ (hm2 _ _ h).2 ⟨(d1f, (IntKind.wrap .i64 (N6 + 1))), H, d9C, Fs3j3, rfl, rfl, j9E, I, (hm2 _ _ h).1⟩
  refine t6 fun j3 hx3 => ?_
  have hj4 : ∀ (b5n : Int) (b5o : ByteArray) (a9O : (List a8)) (b3t : (List b8)) (b5p : Sl) (b5q : Sl) (a9P : Sl) (Fcr_49j4_2 : Frag) (b9S : Sl) (Fcr_49j4_3 : Frag) (a4e : Nat) (H : Hp) (w : World) (_ : RowL 53 4 b7 a9P a9O Fcr_49j4_2) (_ : RowL 59 4 d6 b9S b3t Fcr_49j4_3) (_ : Inv w0 ps0 H0 H [bx a4e 73 [(vi b5n), (Value.string b5o), (vs a9P), (vs b9S), (vs b5p), (vs b5q)], Fs3l2, Fcr_49j4_2, Fcr_49j4_3] w) (_ : Y4 x0 Y8 N6 b5n b5o a9O b3t b5p b5q H n2 K), e4J (vs x0) (vs a7D) (vi N6) (Value.pointer (some ⟨a4e, 0, none⟩)) w j3 R E := by
   intro b5n b5o a9O b3t b5p b5q a9P Fcr_49j4_2 b9S Fcr_49j4_3 a4e H w f4E f4F I h
   unfold e4J
   intro _
   unfold Y4 at h
   have hj5 : ∀ (b5j : Int) (b5k : ByteArray) (b1O : (List b8)) (b5l : Sl) (b5m : Sl) (O8 : Sl) (Fcr_49j5_3 : Frag) (H : Hp) (w : World) (_ : RowL 59 4 d6 O8 b1O Fcr_49j5_3) (_ : Inv w0 ps0 H0 H [bx a4e 73 [(vi b5j), (Value.string b5k), (vs a9P), (vs O8), (vs b5l), (vs b5m)], Fs3l2, Fcr_49j4_2, Fcr_49j5_3] w) (_ : a2p x0 Y8 N6 b5j b5k a9O b1O b5l b5m H n2 K), e4I (vs x0) (vs a7D) (vi N6) (Value.pointer (some ⟨a4e, 0, none⟩)) w j3 R E := by
    intro b5j b5k b1O b5l b5m O8 Fcr_49j5_3 H w f4G I h
    unfold e4I
    intro _
    unfold a2p at h
    have hj6 : ∀ (b1N : (List d8)) (b0V : Int) (b0W : ByteArray) (a9N : (List a8)) (a5t : (List b8)) (b0X : Sl) (b0Y : Sl) (Fs3j6 : Frag) (a0Z : Sl) (Fcr_49j6_2 : Frag) (Fcr_49j6_3 : Frag) (H : Hp) (w : World) (_ : RowL 73 6 g8 a7D b1N Fs3j6) (_ : RowL 53 4 b7 a0Z a9N Fcr_49j6_2) (_ : RowL 59 4 d6 O8 a5t Fcr_49j6_3) (_ : Inv w0 ps0 H0 H [bx a4e 73 [(vi b0V), (Value.string b0W), (vs a0Z), (vs O8), (vs b0X), (vs b0Y)], Fs3j6, Fcr_49j6_2, Fcr_49j6_3] w) (_ : a2m x0 b1N N6 b0V b0W a9N a5t b0X b0Y H n2 K), e4H (vs x0) (vs a7D) (vi N6) (Value.pointer (some ⟨a4e, 0, none⟩)) w j3 R E := by
     intro b1N b0V b0W a9N a5t b0X b0Y Fs3j6 a0Z Fcr_49j6_2 Fcr_49j6_3 H w d9D f4H b6w I h
     unfold e4H
     intro _
     unfold a2m at h
     have hj7 : ∀ (b4X : Int) (R0 : Int) (a8r : ByteArray) (a8s : Sl) (a8t : Sl) (H : Hp) (w : World) (_ : Inv w0 ps0 H0 H [bx a4e 73 [(vi R0), (Value.string a8r), (vs a0Z), (vs O8), (vs a8s), (vs a8t)], Fs3j6, Fcr_49j6_2, Fcr_49j6_3] w) (_ : T1 x0 b1N N6 b4X R0 a8r a9N a5t a8s a8t H n2 K), e4G (vs x0) (vs a7D) (vi N6) (Value.pointer (some ⟨a4e, 0, none⟩)) (vi b4X) w j3 R E := by
      intro b4X R0 a8r a8s a8t H w I h
      unfold e4G
      intro _
      unfold T1 at h
      have hj8 : ∀ (d1g : Bool) (a2A : Int) (a9M : ByteArray) (a7l : Sl) (a7m : Sl) (H : Hp) (w : World) (_ : Inv w0 ps0 H0 H [bx a4e 73 [(vi a2A), (Value.string a9M), (vs a0Z), (vs O8), (vs a7l), (vs a7m)], Fs3j6, Fcr_49j6_2, Fcr_49j6_3] w) (_ : O2 x0 b1N N6 b4X d1g a2A a9M a9N a5t a7l a7m H n2 K), e4F (vs x0) (vs a7D) (vi N6) (Value.pointer (some ⟨a4e, 0, none⟩)) (vi b4X) (vB d1g) w j3 R E := by
       intro d1g a2A a9M a7l a7m H w I h
       unfold e4F
       intro _
       unfold O2 at h
       refine o0 (fun c6j => ?_) (fun c6j => ?_)
       ·replace h := h.1 c6j
        exact hx3 _ _ (hj3 b1N a7D Fs3j6 H _ d9D ((I.drop.bring 1).drop.bring 1).drop h)
       ·replace h := h.2 c6j
        refine a7 O4 ?_
        refine f7 (ld1 Tryz.isAgg3 (I.at1 (o := 0) (vs := [(vi a2A)]) (nb rfl) rfl)) ?_
        refine a7 (i8 _ _ _ _ _ _) ?_
        simp only [u5]
        refine a7 (Pu.g fun hb => by have b9 := hb; simp only [i7 b9]; exact (i8 _ _ _ _ _ _)) ?_
        refine a7 (s7 _ _) ?_
        refine o0 (fun f4I => ?_) (fun f4I => ?_)
        ·replace h := h.1 f4I
         refine a7 Y7 ?_
         refine f7 (ld1 Tryz.isAgg23 (I.at1 (o := 4) (vs := [(vs a7l)]) (nb rfl) rfl)) ?_
         obtain ⟨c9L, d5r, h⟩ := h
         obtain ⟨b8g, h⟩ := h
         refine c8f (s := a7D) (xs := b1N) (I.bring 1) d9D (SlH.src (I.bring 1) d5r a3F) b8g fun j9F j9G d0h d4N j9H k9i => ?_
         exact hx3 _ _ (hj3 (b1N ++ c9L) j9F j9G H _ d4N (((j9H.bring 1).drop.bring 1).drop.bring 1).drop h)
        ·replace h := h.2 f4I
         refine a7 O4 ?_
         refine f7 (ld1 Tryz.isAgg3 (I.at1 (o := 0) (vs := [(vi a2A)]) (nb rfl) rfl)) ?_
         refine a7 (i8 _ _ _ _ _ _) ?_
         simp only [u5]
         refine a7 (Pu.g fun hb => by have b9 := hb; simp only [i7 b9]; exact (i8 _ _ _ _ _ _)) ?_
         refine a7 (s7 _ _) ?_
         refine o0 (fun f4J => ?_) (fun f4J => ?_)
         ·replace h := h.1 f4J
          refine a7 W5 ?_
          refine f7 (ld1 Tryz.isAgg23 (I.at1 (o := 5) (vs := [(vs a7m)]) (nb rfl) rfl)) ?_
          obtain ⟨c9M, d5K, h⟩ := h
          obtain ⟨j9I, h⟩ := h
          refine c8f (s := a7D) (xs := b1N) (I.bring 1) d9D (SlH.src (I.bring 1) d5K a3F) j9I fun j9J j9K d3I j9L j9M k9j => ?_
          exact hx3 _ _ (hj3 (b1N ++ c9M) j9J j9K H _ j9L (((j9M.bring 1).drop.bring 1).drop.bring 1).drop h)
         ·replace h := h.2 f4J
          refine f7 (ldA Tryz.isAgg73 Tryz.sizeOf73 rfl (I.at1 (o := 0) (vs := [(vi a2A), (Value.string a9M), (vs a0Z), (vs O8), (vs a7l), (vs a7m)]) (nb rfl) rfl)) ?_
          obtain ⟨d5P, j9N, d4M, d5s, c7l⟩ := Inv.freezeC (I.bring 2) f4H (by decide)
          replace h := h a0Z d5P d4M d5s c7l
          obtain ⟨d1h, d9u, j9O, j9P, g6j⟩ := Inv.freezeC (j9N.bring 2) b6w (by decide)
          replace h := h O8 d1h j9O j9P g6j
          refine a5A (e := 73) (c := g8) (xs := [(d8.mk a2A a9M a0Z O8 a7l a7m)]) d9u (d6l _ _ _ _ _ _ _ _ _ _ _ _ _ _) rfl rfl a3F a9p (nb rfl) fun k9k k9l f2m b7S g6w k9m => ?_
          obtain ⟨d5L, h⟩ := h
          refine c8f (s := a7D) (xs := b1N) (g6w.bring 2) d9D (b7S.srcO ((g6w.bring 2).bring 1)) d5L fun j9Q j9R c3c j9S j9T k9n => ?_
          exact hx3 _ _ (hj3 (b1N ++ [(d8.mk a2A a9M a0Z O8 a7l a7m)]) j9Q j9R d1h _ j9S ((j9T.bring 1).drop.bring 1).drop h)
      refine t6 fun j8 hx8 => ?_
      refine a7 O4 ?_
      refine f7 (ld1 Tryz.isAgg3 (I.at1 (o := 0) (vs := [(vi R0)]) (nb rfl) rfl)) ?_
      refine a7 (i8 _ _ _ _ _ _) ?_
      refine k7 (fun f4K => ?_) (fun f4K => ?_)
      ·replace h := h.1 f4K
       exact hx8 _ _ (hj8 (decide (R0 = 7)) R0 a8r a8s a8t H _ ((((I.bring 3).bring 3).bring 3).bring 3) h)
      ·replace h := h.2 f4K
       refine a7 O4 ?_
       refine f7 (ld1 Tryz.isAgg3 (I.at1 (o := 0) (vs := [(vi R0)]) (nb rfl) rfl)) ?_
       refine a7 (i8 _ _ _ _ _ _) ?_
       simp only [u5]
       refine a7 (Pu.g fun hb => by have b9 := hb; simp only [i7 b9]; exact (i8 _ _ _ _ _ _)) ?_
       refine a7 (s7 _ _) ?_
       refine o0 (fun f4L => ?_) (fun f4L => ?_)
       ·replace h := h.1 f4L
        exact hx8 _ _ (hj8 ((decide (R0 = 6)) && (decide (b4X = 1))) R0 a8r a8s a8t H _ ((((I.bring 3).bring 3).bring 3).bring 3) h)
       ·replace h := h.2 f4L
        refine a7 O4 ?_
        refine f7 (ld1 Tryz.isAgg3 (I.at1 (o := 0) (vs := [(vi R0)]) (nb rfl) rfl)) ?_
        refine a7 (i8 _ _ _ _ _ _) ?_
        simp only [u5]
        refine a7 (Pu.g fun hb => by have b9 := hb; simp only [i7 b9]; exact (i8 _ _ _ _ _ _)) ?_
        refine a7 (s7 _ _) ?_
        exact hx8 _ _ (hj8 ((decide (R0 = 4)) && (decide (b4X = 2))) R0 a8r a8s a8t H _ ((((I.bring 3).bring 3).bring 3).bring 3) h)
     refine t6 fun j7 hx7 => ?_
     refine a7 M3 ?_
     refine f7 (ld1 Tryz.isAgg57 (I.at1 (o := 3) (vs := [(vs O8)]) (nb rfl) rfl)) ?_
     refine a7 (d3A Tryz.underlying57 b6w) ?_
     refine a7 (a4M _ _ _ _ _ _) ?_
     refine k7 (fun c6U => ?_) (fun c6U => ?_)
     ·replace h := h.1 c6U
      refine a7 M3 ?_
      refine f7 (ld1 Tryz.isAgg57 (I.at1 (o := 3) (vs := [(vs O8)]) (nb rfl) rfl)) ?_
      obtain ⟨b9M, d5Q, b4j, h⟩ := h
      obtain ⟨k9o, k9p, b7R, g4K⟩ := b6w.addr b4j
      refine a7 (S7 b7R _ _ _ _ b9M (b6w.lt b9M b4j)) ?_
      refine a7 Q2 ?_
      refine f7 (ld1 (v := (vi d5Q.b6)) Tryz.isAgg3 ((b6w.atW (I.bring 3) b7R b4j).sub (k := 0) (n := 1) (nb rfl))) ?_
      exact hx7 _ _ (hj7 d5Q.b6 b0V b0W b0X b0Y H _ ((((I.bring 3).bring 3).bring 3).bring 3) h)
     ·replace h := h.2 c6U
      exact hx7 _ _ (hj7 0 b0V b0W b0X b0Y H _ ((((I.bring 3).bring 3).bring 3).bring 3) h)
    refine t6 fun j6 hx6 => ?_
    obtain ⟨f4M, d5T, j9U, c7s⟩ := h
    refine B5 (J := fun n l w => ∃ (s : Int × Int × ByteArray × (List a8) × Sl × Sl) (H : Hp) (b1P : Sl) (Fcr_49l9_2 : Frag) , n = d5T s ∧ l = (match s with | (b3Q, a2B, a2C, a1b, a2D, a2E) => [(vi b3Q)]) ∧ (match s with | (b3Q, a2B, a2C, a1b, a2D, a2E) => RowL 53 4 b7 b1P a1b Fcr_49l9_2) ∧ (match s with | (b3Q, a2B, a2C, a1b, a2D, a2E) => Inv w0 ps0 H0 H [bx a4e 73 [(vi a2B), (Value.string a2C), (vs b1P), (vs O8), (vs a2D), (vs a2E)], Fs3l2, Fcr_49j5_3, Fcr_49l9_2] w) ∧ f4M s H) ⟨_, (0, b5j, b5k, a9O, b5l, b5m), H, a9P, Fcr_49j4_2, rfl, rfl, f4E, ((((I.bring 2).bring 3).bring 3).bring 3), j9U⟩ ?_
    rintro k9q τ_274 w next9 ⟨⟨b3Q, a2B, a2C, a1b, a2D, a2E⟩, H, b1P, Fcr_49l9_2, rfl, f4N, c7E, I, j9V⟩ hn9
    dsimp only at f4N I c7E
    simp only [List.map_cons, List.map_nil, List.cons.injEq, and_true] at f4N
    have e7 := f4N
    simp only [e7]
    obtain ⟨n9, hm9, h⟩ : ∃ n9 : (Int × Int × ByteArray × (List a8) × Sl × Sl) → Hp → Prop, (∀ s' H', n9 s' H' → f4M s' H' ∧ d5T s' < d5T (b3Q, a2B, a2C, a1b, a2D, a2E)) ∧ a2o x0 Y8 N6 b1O b3Q a2B a2C a1b a2D a2E H n2 n9 K := ⟨_, fun _ _ h => h, c7s (b3Q, a2B, a2C, a1b, a2D, a2E) H (fun s' H' => f4M s' H' ∧ d5T s' < d5T (b3Q, a2B, a2C, a1b, a2D, a2E)) j9V (fun _ _ a b => ⟨a, b⟩)⟩
    unfold f7z
    unfold a2o at h
    obtain ⟨g6x, f4d, c3j, d9E, h⟩ := h
    obtain ⟨k9r, k9s, g6y, d9E⟩ := d9E
    refine a7 (a0m g6y _ _ _ _ g6x f4d) ?_
    refine a7 R8 ?_
    refine f7 (ld1 (v := (vs c3j.i6)) Tryz.isAgg51 ((I.atH d9E).sub (k := 2) (n := 1) (nb rfl))) ?_
    refine a7 (J3 _ _ _) ?_
    refine a7 (w9 _ _ _ _ _ _) ?_
    refine k7 (fun f4O => ?_) (fun f4O => ?_)
    ·replace h := h.1 f4O
     refine a5z I fun d8M d1j => ?_
     refine q9 R8 ?_
     refine q9 (a0m g6y _ _ _ _ g6x f4d) ?_
     refine q9 R8 ?_
     refine A5 (ld1 Tryz.isAgg51 (d1j.at1 (o := 2) (vs := [(vs b1P)]) (nb rfl) rfl)) ?_
     refine A5 (ld1 (v := (vs c3j.i6)) Tryz.isAgg51 ((d1j.atH d9E).sub (k := 2) (n := 1) (nb rfl))) ?_
     obtain ⟨j9W, j9X, d9z, f4P, h⟩ := h
     obtain ⟨k9t, k9u, j9Y, f4P⟩ := f4P
     refine q9 (A0 j9Y _ _ _ _ j9W j9X) ?_
     refine A5 (ldA (vs := (b7 d9z)) Tryz.isAgg53 Tryz.sizeOf53 rfl (d1j.atH f4P)) ?_
     refine g9 (cap := []) (fun args w => Tryz.call56 args w) ?_
     refine l7 (Fi := []) (Fr := [bx a4e 73 [(vi a2B), (Value.string a2C), (vs b1P), (vs O8), (vs a2D), (vs a2E)], Fs3l2, Fcr_49j5_3, Fcr_49l9_2]) d1j (h) (fun k9v f4x k9w g5n g6z k9x j9Z k0a => ?_) (fun _ _ _ _ _ q => q.elim)
     obtain ⟨c9N, rfl, rfl, h⟩ := k0a
     refine ⟨(j9Z _ d1j.lt1 (Inv.a3h (Fi := []) d1j)), ?_⟩
     refine a5A (e := 53) (c := b7) (xs := [c9N]) g6z (b6N _ _ _ _ _ _) rfl rfl N7 N8 (nb rfl) fun k9y k9z j8Y k0b g6A k0c => ?_
     refine ⟨(k0c _ g6z.lt1), ?_⟩
     obtain ⟨k0d, h⟩ := h
     refine c8e (s := b1P) (xs := a1b) (g6A.bring 4) c7E (k0b.srcO ((g6A.bring 4).bring 1)) k0d fun f4Q k0e k9A f3C k0f k9B => ?_
     refine q9 R8 ?_
     refine m6 ((k0f.bring 1).drop.bring 1) Tryz.sizeOf51 (vs := [(vs f4Q)]) (cs' := [(vi a2B), (Value.string a2C), (vs f4Q), (vs O8), (vs a2D), (vs a2E)]) rfl rfl (nb rfl) rfl rfl fun f2v k0g k9C => ?_
     refine a7 (y6 _ _ _ _ _ _) ?_
     exact hn9 _ _ _ (hm9 _ _ h).2 ⟨((IntKind.wrap .i64 (b3Q + 1)), a2B, a2C, (a1b ++ [c9N]), a2D, a2E), f4x, f4Q, k0e, rfl, rfl, f3C, ((((k0g.bring 1).bring 3).bring 3).bring 3), (hm9 _ _ h).1⟩
    ·replace h := h.2 f4O
     exact hx6 _ _ (hj6 Y8 a2B a2C a1b b1O a2D a2E Fs3l2 b1P Fcr_49l9_2 Fcr_49j5_3 H _ c7p c7E f4G ((((I.bring 2).bring 3).bring 3).bring 3) h)
   refine t6 fun j5 hx5 => ?_
   obtain ⟨f4R, d5U, k0h, k0i⟩ := h
   refine B5 (J := fun n l w => ∃ (s : Int × Int × ByteArray × (List b8) × Sl × Sl) (H : Hp) (b0h : Sl) (Fcr_49l10_3 : Frag) , n = d5U s ∧ l = (match s with | (b0z, a1d, a1e, X4, a1f, a1g) => [(vi b0z)]) ∧ (match s with | (b0z, a1d, a1e, X4, a1f, a1g) => RowL 59 4 d6 b0h X4 Fcr_49l10_3) ∧ (match s with | (b0z, a1d, a1e, X4, a1f, a1g) => Inv w0 ps0 H0 H [bx a4e 73 [(vi a1d), (Value.string a1e), (vs a9P), (vs b0h), (vs a1f), (vs a1g)], Fs3l2, Fcr_49j4_2, Fcr_49l10_3] w) ∧ f4R s H) ⟨_, (0, b5n, b5o, b3t, b5p, b5q), H, b9S, Fcr_49j4_3, rfl, rfl, f4F, ((((I.bring 3).bring 3).bring 3).bring 3), k0h⟩ ?_
   rintro k9D τ_341 w next10 ⟨⟨b0z, a1d, a1e, X4, a1f, a1g⟩, H, b0h, Fcr_49l10_3, rfl, f4S, c4i, I, k0j⟩ hn10
   dsimp only at f4S I c4i
   simp only [List.map_cons, List.map_nil, List.cons.injEq, and_true] at f4S
   have e6 := f4S
   simp only [e6]
   obtain ⟨n10, hm10, h⟩ : ∃ n10 : (Int × Int × ByteArray × (List b8) × Sl × Sl) → Hp → Prop, (∀ s' H', n10 s' H' → f4R s' H' ∧ d5U s' < d5U (b0z, a1d, a1e, X4, a1f, a1g)) ∧ a1P x0 Y8 N6 a9O b0z a1d a1e X4 a1f a1g H n2 n10 K := ⟨_, fun _ _ h => h, k0i (b0z, a1d, a1e, X4, a1f, a1g) H (fun s' H' => f4R s' H' ∧ d5U s' < d5U (b0z, a1d, a1e, X4, a1f, a1g)) k0j (fun _ _ a b => ⟨a, b⟩)⟩
   unfold e7i
   unfold a1P at h
   obtain ⟨g6B, g6C, c3k, d9F, h⟩ := h
   obtain ⟨k9E, k9F, g6D, d9F⟩ := d9F
   refine a7 (a0m g6D _ _ _ _ g6B g6C) ?_
   refine a7 M3 ?_
   refine f7 (ld1 (v := (vs c3k.m9)) Tryz.isAgg57 ((I.atH d9F).sub (k := 3) (n := 1) (nb rfl))) ?_
   refine a7 (U9 _ _ _) ?_
   refine a7 (w9 _ _ _ _ _ _) ?_
   refine k7 (fun f4T => ?_) (fun f4T => ?_)
   ·replace h := h.1 f4T
    refine a5z I fun d9e b3s => ?_
    refine q9 M3 ?_
    refine q9 (a0m g6D _ _ _ _ g6B g6C) ?_
    refine q9 M3 ?_
    refine A5 (ld1 Tryz.isAgg57 (b3s.at1 (o := 3) (vs := [(vs b0h)]) (nb rfl) rfl)) ?_
    refine A5 (ld1 (v := (vs c3k.m9)) Tryz.isAgg57 ((b3s.atH d9F).sub (k := 3) (n := 1) (nb rfl))) ?_
    obtain ⟨d5O, k0k, d9B, f4U, h⟩ := h
    obtain ⟨k9G, k9H, k0l, f4U⟩ := f4U
    refine q9 (S7 k0l _ _ _ _ d5O k0k) ?_
    refine A5 (ldA (vs := (d6 d9B)) Tryz.isAgg59 Tryz.sizeOf59 rfl (b3s.atH f4U)) ?_
    refine g9 (cap := []) (fun args w => Tryz.call55 args w) ?_
    refine l7 (Fi := []) (Fr := [bx a4e 73 [(vi a1d), (Value.string a1e), (vs a9P), (vs b0h), (vs a1f), (vs a1g)], Fs3l2, Fcr_49j4_2, Fcr_49l10_3]) b3s (h) (fun k9I f4A k9J k9K g6E k9L k0m k0n => ?_) (fun _ _ _ _ _ q => q.elim)
    obtain ⟨c9O, rfl, rfl, h⟩ := k0n
    refine ⟨(k0m _ b3s.lt1 (Inv.a3h (Fi := []) b3s)), ?_⟩
    refine a5A (e := 59) (c := d6) (xs := [c9O]) g6E (c9U _ _ _ _ _ _ _ _) rfl rfl a2F a2G (nb rfl) fun k9M k9N k9O k0o g6F k0p => ?_
    refine ⟨(k0p _ g6E.lt1), ?_⟩
    obtain ⟨k0q, h⟩ := h
    refine d3C (s := b0h) (xs := X4) (g6F.bring 4) c4i (k0o.srcO ((g6F.bring 4).bring 1)) k0q fun f4V k0r k9P f4n k0s k9Q => ?_
    refine q9 M3 ?_
    refine m6 ((k0s.bring 1).drop.bring 1) Tryz.sizeOf57 (vs := [(vs f4V)]) (cs' := [(vi a1d), (Value.string a1e), (vs a9P), (vs f4V), (vs a1f), (vs a1g)]) rfl rfl (nb rfl) rfl rfl fun k9R k0t k9S => ?_
    refine a7 (y6 _ _ _ _ _ _) ?_
    exact hn10 _ _ _ (hm10 _ _ h).2 ⟨((IntKind.wrap .i64 (b0z + 1)), a1d, a1e, (X4 ++ [c9O]), a1f, a1g), f4A, f4V, k0r, rfl, rfl, f4n, ((((k0t.bring 1).bring 3).bring 3).bring 3), (hm10 _ _ h).1⟩
   ·replace h := h.2 f4T
    exact hx5 _ _ (hj5 a1d a1e X4 a1f a1g b0h Fcr_49l10_3 H _ c4i ((((I.bring 3).bring 3).bring 3).bring 3) h)
  refine t6 fun j4 hx4 => ?_
  refine a5z I fun w_1 I_2 => ?_
  obtain ⟨h_6, h_7, x_3, h_9, h⟩ := h
  obtain ⟨g_4, o_5, h_8, h_9⟩ := h_9
  refine q9 (a0m h_8 _ _ _ _ h_6 h_7) ?_
  refine q9 O4 ?_
  refine q9 (a0m h_8 _ _ _ _ h_6 h_7) ?_
  refine q9 a9t ?_
  refine q9 (a0m h_8 _ _ _ _ h_6 h_7) ?_
  refine q9 Y7 ?_
  refine q9 (a0m h_8 _ _ _ _ h_6 h_7) ?_
  refine q9 W5 ?_
  refine A5 (ld1 (v := (vi x_3.b6)) Tryz.isAgg3 ((I_2.atH h_9).sub (k := 0) (n := 1) (nb rfl))) ?_
  refine A5 (ld1 (v := (Value.string x_3.g7)) Tryz.isAgg9 ((I_2.atH h_9).sub (k := 1) (n := 1) (nb rfl))) ?_
  refine A5 (ld1 (v := (vs x_3.v7)) Tryz.isAgg23 ((I_2.atH h_9).sub (k := 4) (n := 1) (nb rfl))) ?_
  refine A5 (ld1 (v := (vs x_3.t7)) Tryz.isAgg23 ((I_2.atH h_9).sub (k := 5) (n := 1) (nb rfl))) ?_
  refine ⟨?_, ?_⟩
  ·refine g9 (cap := []) (fun args w => Tryz.call32 args w) ?_
   refine l7 (Fi := []) (Fr := [Fs3l2]) I_2 (h) (fun e2s b2O i3q B6 a4B b0O c6o e2t => ?_) (fun _ _ _ _ _ q => q.elim)
   obtain ⟨U7, rfl, rfl, h⟩ := e2t
   refine ⟨(c6o _ (I_2.M8 h_9) ((Inv.self (Fi := []) (Fr := [Fs3l2]) I_2).a8v h_9)), (c6o _ (I_2.M8 h_9) ((Inv.self (Fi := []) (Fr := [Fs3l2]) I_2).a8v h_9)), (c6o _ (I_2.M8 h_9) ((Inv.self (Fi := []) (Fr := [Fs3l2]) I_2).a8v h_9)), ?_⟩
   refine ⟨?_, ?_⟩
   ·refine g9 (cap := []) (fun args w => Tryz.call32 args w) ?_
    refine l7 (Fi := []) (Fr := [Fs3l2]) a4B (h) (fun l2m g4i l2n b8K c9F c9e g3U k4C => ?_) (fun _ _ _ _ _ q => q.elim)
    obtain ⟨d5R, rfl, rfl, h⟩ := k4C
    refine ⟨(g3U _ (a4B.M8 (h_9.le b0O)) ((Inv.self (Fi := []) (Fr := [Fs3l2]) a4B).a8v (h_9.le b0O))), (g3U _ (a4B.M8 (h_9.le b0O)) ((Inv.self (Fi := []) (Fr := [Fs3l2]) a4B).a8v (h_9.le b0O))), ?_⟩
    refine q9 (b3D _ _ _ _ _ _ _ _) ?_
    refine z7 c9F Tryz.zeroValue73 (cs := [(vi 0), (eS), (nS), (nS), (nS), (nS)]) rfl fun k4D c8m c0J e4d => ?_
    refine ⟨(e4d _ (c9F.M8 (h_9.le (Hle.trans b0O c9e)))), (e4d _ (c9F.M8 (h_9.le (Hle.trans b0O c9e)))), (e4d _ (c9F.M8 (h_9.le (Hle.trans b0O c9e)))), (e4d _ (c9F.M8 (h_9.le (Hle.trans b0O c9e)))), ?_⟩
    refine m6 c0J Tryz.sizeOf73 (vs := [(vi x_3.b6), (Value.string x_3.g7), (nS), (nS), (vs U7), (vs d5R)]) (cs' := [(vi x_3.b6), (Value.string x_3.g7), (nS), (nS), (vs U7), (vs d5R)]) rfl rfl (nb rfl) rfl rfl fun K5 c3O g0w => ?_
    exact hx4 _ _ (hj4 x_3.b6 x_3.g7 [] [] U7 d5R (Sl.mk none 0 0) [] (Sl.mk none 0 0) [] k4D g4i _ (RowL.nil N7 N8) (RowL.nil a2F a2G) (((c3O.nil.nil.bring 1).bring 3).bring 3) h)
   ·refine z7 a4B Tryz.zeroValue73 (cs := [(vi 0), (eS), (nS), (nS), (nS), (nS)]) rfl fun d9G k9T d5V d9H => ?_
    refine ⟨(d9H _ (a4B.M8 (h_9.le b0O))), (d9H _ (a4B.M8 (h_9.le b0O))), (d9H _ (a4B.M8 (h_9.le b0O))), (d9H _ (a4B.M8 (h_9.le b0O))), ?_⟩
    refine g9 (cap := []) (fun args w => Tryz.call32 args w) ?_
    refine l7 (Fi := []) (Fr := [bx d9G 73 [(vi 0), (eS), (nS), (nS), (nS), (nS)], Fs3l2]) d5V (h) (fun k9U k0u k9V k9W k0v k9X g6G k0w => ?_) (fun _ _ _ _ _ q => q.elim)
    obtain ⟨e5C, rfl, rfl, h⟩ := k0w
    refine ⟨(g6G _ (d5V.M8 (h_9.le b0O)) ((Inv.self (Fi := []) (Fr := [bx d9G 73 [(vi 0), (eS), (nS), (nS), (nS), (nS)], Fs3l2]) d5V).a8v (h_9.le b0O))), (g6G _ (d5V.M8 (h_9.le b0O)) ((Inv.self (Fi := []) (Fr := [bx d9G 73 [(vi 0), (eS), (nS), (nS), (nS), (nS)], Fs3l2]) d5V).a8v (h_9.le b0O))), ?_⟩
    refine q9 (b3D _ _ _ _ _ _ _ _) ?_
    refine m6 k0v Tryz.sizeOf73 (vs := [(vi x_3.b6), (Value.string x_3.g7), (nS), (nS), (vs U7), (vs e5C)]) (cs' := [(vi x_3.b6), (Value.string x_3.g7), (nS), (nS), (vs U7), (vs e5C)]) rfl rfl (nb rfl) rfl rfl fun k9Y k0x k9Z => ?_
    exact hx4 _ _ (hj4 x_3.b6 x_3.g7 [] [] U7 e5C (Sl.mk none 0 0) [] (Sl.mk none 0 0) [] d9G k0u _ (RowL.nil N7 N8) (RowL.nil a2F a2G) (((k0x.nil.nil.bring 1).bring 3).bring 3) h)
  ·refine z7 I_2 Tryz.zeroValue73 (cs := [(vi 0), (eS), (nS), (nS), (nS), (nS)]) rfl fun c3l l0a c7F d9I => ?_
   refine ⟨(d9I _ (I_2.M8 h_9)), (d9I _ (I_2.M8 h_9)), (d9I _ (I_2.M8 h_9)), (d9I _ (I_2.M8 h_9)), ?_⟩
   refine g9 (cap := []) (fun args w => Tryz.call32 args w) ?_
   refine l7 (Fi := []) (Fr := [bx c3l 73 [(vi 0), (eS), (nS), (nS), (nS), (nS)], Fs3l2]) c7F (h) (fun l0b l0c l0d l0e d5W d9J f4W k0y => ?_) (fun _ _ _ _ _ q => q.elim)
   obtain ⟨e5D, rfl, rfl, h⟩ := k0y
   refine ⟨(f4W _ (c7F.M8 h_9) ((Inv.self (Fi := []) (Fr := [bx c3l 73 [(vi 0), (eS), (nS), (nS), (nS), (nS)], Fs3l2]) c7F).a8v h_9)), (f4W _ (c7F.M8 h_9) ((Inv.self (Fi := []) (Fr := [bx c3l 73 [(vi 0), (eS), (nS), (nS), (nS), (nS)], Fs3l2]) c7F).a8v h_9)), (f4W _ (c7F.M8 h_9) ((Inv.self (Fi := []) (Fr := [bx c3l 73 [(vi 0), (eS), (nS), (nS), (nS), (nS)], Fs3l2]) c7F).a8v h_9)), ?_⟩
   refine g9 (cap := []) (fun args w => Tryz.call32 args w) ?_
   refine l7 (Fi := []) (Fr := [bx c3l 73 [(vi 0), (eS), (nS), (nS), (nS), (nS)], Fs3l2]) d5W (h) (fun l0f k0z l0g l0h k0A l0i g6H k0B => ?_) (fun _ _ _ _ _ q => q.elim)
   obtain ⟨e5E, rfl, rfl, h⟩ := k0B
   refine ⟨(g6H _ (d5W.M8 (h_9.le d9J)) ((Inv.self (Fi := []) (Fr := [bx c3l 73 [(vi 0), (eS), (nS), (nS), (nS), (nS)], Fs3l2]) d5W).a8v (h_9.le d9J))), (g6H _ (d5W.M8 (h_9.le d9J)) ((Inv.self (Fi := []) (Fr := [bx c3l 73 [(vi 0), (eS), (nS), (nS), (nS), (nS)], Fs3l2]) d5W).a8v (h_9.le d9J))), ?_⟩
   refine q9 (b3D _ _ _ _ _ _ _ _) ?_
   refine m6 k0A Tryz.sizeOf73 (vs := [(vi x_3.b6), (Value.string x_3.g7), (nS), (nS), (vs e5D), (vs e5E)]) (cs' := [(vi x_3.b6), (Value.string x_3.g7), (nS), (nS), (vs e5D), (vs e5E)]) rfl rfl (nb rfl) rfl rfl fun l0j k0C l0k => ?_
   exact hx4 _ _ (hj4 x_3.b6 x_3.g7 [] [] e5D e5E (Sl.mk none 0 0) [] (Sl.mk none 0 0) [] c3l k0z _ (RowL.nil N7 N8) (RowL.nil a2F a2G) (((k0C.nil.nil.bring 1).bring 3).bring 3) h)
 ·replace h := h.2 f4D
  exact hx1 _ _ (hj1 Y8 a7D Fs3l2 H _ c7p I h)
theorem b9k (x0 : Sl) {H : Hp} {K : Sl → Hp → Prop} (h : a3W x0 H K) : S8 x0 H K := by
 intro w I
 refine i9z ?_
 refine b8I x0 I (fun r0 H' w' I' hk => ⟨H', _, I', r0, rfl, rfl, hk⟩) h
def a4x (x0 : m5) (H : Hp) (K : m5 → Int → Hp → Prop) : Prop :=
 a7X x0 H (fun (o9 : Int) (a1j : Hp) =>
 (¬ (o9 = 0) →
 K (m5.mk (Sl.mk none 0 0) (Sl.mk none 0 0)) o9 a1j) ∧
 (o9 = 0 →
 ∃ b7W : List I3, SlH a1j 2 y8 x0.z8 b7W ∧ (([] : List I3).length + b7W.length) * 25 ≤ 140737488355328 ∧
 S8 x0.V3 a1j (fun (b7T : Sl) (b8Y : Hp) =>
 ∀ (b0a : Sl) (b5S : Hp), Hle b8Y b5S → SlH b5S 2 y8 b0a b7W → b0a.n ≤ b0a.c →
 K (m5.mk b0a b7T) 0 b5S)))
theorem b9l (x0 : m5) {K : m5 → Int → Hp → Prop} (I : Inv w0 ps0 H0 H [] w) (hR : ∀ (r0 : m5) (r1 : Int) (H' : Hp) (w' : World) (_ : Inv w0 ps0 H0 H' [] w') (_ : K r0 r1 H'), R (Value.tuple #[(Value.agg (k4 r0).toArray), (vi r1)]) w') (h : a4x x0 H K) : F13 (Value.agg (k4 x0).toArray) w R E := by
 unfold a4x at h
 unfold F13
 refine J5 I (cs := (k4 x0)) rfl fun g_2 w_3 I_4 k_5 => ?_
 refine z7 I_4 Tryz.zeroValue25 (cs := [(nS), (nS)]) rfl fun g_7 w_8 I_9 b0M => ?_
 refine f7 (ldA Tryz.isAgg25 Tryz.sizeOf25 rfl ((I_9.bring 1).at1 (o := 0) (vs := (k4 x0)) (nb rfl) rfl)) ?_
 refine g9 (cap := []) (fun args w => Tryz.call27 args w) ?_
 refine l7 (Fi := []) (Fr := [bx g_7 25 [(nS), (nS)], bx g_2 25 (k4 x0)]) I_9 (h) (fun d2A a1j d2B q8 a8L c6v d2C b4H => ?_) (fun _ _ _ _ _ q => q.elim)
 obtain ⟨o9, rfl, rfl, h⟩ := b4H
 refine a7 (M7 _ _ _ _ _ _) ?_
 refine a4f (fun d3p => ?_) (fun d3p => ?_)
 ·replace h := h.1 d3p
  refine a7 (c8d ) ?_
  refine m6 a8L Tryz.sizeOf25 (vs := [(nS), (nS)]) (cs' := [(nS), (nS)]) rfl rfl (nb rfl) rfl rfl fun r9 a0h b4p => ?_
  refine B0 Tryz.isAgg25 Tryz.sizeOf25 rfl (a0h.at1 (o := 0) (vs := [(nS), (nS)]) (nb rfl) rfl) ?_
  exact hR (m5.mk (Sl.mk none 0 0) (Sl.mk none 0 0)) o9 a1j _ a0h.drop.drop h
 ·replace h := h.2 d3p
  refine a5z a8L fun b0C a5E => ?_
  refine q9 a1G ?_
  refine q9 a3D ?_
  refine A5 (ld1 Tryz.isAgg22 ((a5E.bring 1).at1 (o := 0) (vs := [(vs x0.z8)]) (nb rfl) rfl)) ?_
  refine A5 (ld1 Tryz.isAgg23 ((a5E.bring 1).at1 (o := 1) (vs := [(vs x0.V3)]) (nb rfl) rfl)) ?_
  obtain ⟨b7W, g0o, h⟩ := h
  obtain ⟨g0p, h⟩ := h
  refine f5t (s := ⟨none, 0, 0⟩) (xs := []) a5E.nil (RowL.nil b4c c7N) (SlH.src a5E.nil g0o b4c) g0p fun b0a b3K B3 a7h T8 a9i => ?_
  simp only [List.nil_append] at a7h
  refine ⟨(a9i _ (a5E.nil.bring 2).lt1 (Inv.f8z ((a5E.nil.bring 2).bring 1))), ?_⟩
  refine g9 (cap := []) (fun args w => Tryz.call32 args w) ?_
  refine l7 (Fi := []) (Fr := [b3K, bx g_7 25 [(nS), (nS)], bx g_2 25 (k4 x0)]) T8 (h) (fun k2g b8Y k2h I7 f9W k2i k2j f9X => ?_) (fun _ _ _ _ _ q => q.elim)
  obtain ⟨b7T, rfl, rfl, h⟩ := f9X
  refine q9 (c7M _ _ _ _ _ _) ?_
  refine m6 (f9W.bring 1) Tryz.sizeOf25 (vs := [(vs b0a), (vs b7T)]) (cs' := [(vs b0a), (vs b7T)]) rfl rfl (nb rfl) rfl rfl fun E4 b2c d6W => ?_
  refine B0 Tryz.isAgg25 Tryz.sizeOf25 rfl (b2c.at1 (o := 0) (vs := [(vs b0a), (vs b7T)]) (nb rfl) rfl) ?_
  obtain ⟨b5S, c9t, d6Y, e2y, d2n⟩ := Inv.freezeC (b2c.bring 1) a7h (by decide)
  replace h := h b0a b5S d6Y e2y d2n
  exact hR (m5.mk b0a b7T) 0 b5S _ c9t.drop.drop h
theorem b9T (x0 : m5) {H : Hp} {K : m5 → Int → Hp → Prop} (h : a4x x0 H K) : a7Z x0 H K := by
 intro w I
 refine i9c ?_
 refine b9l x0 I (fun r0 r1 H' w' I' hk => ⟨H', _, I', r0, r1, rfl, rfl, hk⟩) h
def a0e (x0 : m5) (H : Hp) (K : Bool → Hp → Prop) : Prop :=
 a7I H (fun (C1 : Bool) (H_6 : Hp) =>
 ((!C1) = true →
 K false H_6) ∧
 ((!C1) = false →
 b0I x0 H_6 (fun (b3u : m5) (d9K : Int) (j3q : Hp) =>
 a7Z x0 j3q (fun (b3p : m5) (d1k : Int) (b2P : Hp) =>
 (¬ (d9K = d1k) →
 K false b2P) ∧
 (d9K = d1k →
 (¬ (d1k = 0) →
 K ((decide ((b3u.z8.n : Int) = 0)) && (decide ((b3u.V3.n : Int) = 0))) b2P) ∧
 (d1k = 0 →
 a7Y b3u b3p b2P (fun (f4X : Bool) (g4j : Hp) =>
 K f4X g4j)))))))
theorem b3R (x0 : m5) {K : Bool → Hp → Prop} (I : Inv w0 ps0 H0 H [] w) (hR : ∀ (r0 : Bool) (H' : Hp) (w' : World) (_ : Inv w0 ps0 H0 H' [] w') (_ : K r0 H'), R (vB r0) w') (h : a0e x0 H K) : F4 (Value.agg (k4 x0).toArray) w R E := by
 unfold a0e at h
 unfold F4
 refine J5 I (cs := (k4 x0)) rfl fun g_2 w_3 I_4 k_5 => ?_
 refine g9 (cap := []) (fun args w => Tryz.call8 args w) ?_
 refine l7 (Fi := []) (Fr := [bx g_2 25 (k4 x0)]) I_4 (h) (fun b7c H_6 b5P w_7 I_8 b7d k_9 a6w => ?_) (fun _ _ _ _ _ q => q.elim)
 obtain ⟨C1, rfl, rfl, h⟩ := a6w
 refine a7 (T4 _) ?_
 refine o0 (fun g4k => ?_) (fun g4k => ?_)
 ·replace h := h.1 g4k
  exact hR false H_6 _ I_8.drop h
 ·replace h := h.2 g4k
  refine f7 (ldA Tryz.isAgg25 Tryz.sizeOf25 rfl (I_8.at1 (o := 0) (vs := (k4 x0)) (nb rfl) rfl)) ?_
  refine g9 (cap := []) (fun args w => Tryz.call12 args w) ?_
  refine l7 (Fi := []) (Fr := [bx g_2 25 (k4 x0)]) I_8 (h) (fun l2o j3q l2p r8 b5M l2q e1J k4E => ?_) (fun _ _ _ _ _ q => q.elim)
  obtain ⟨b3u, d9K, rfl, rfl, h⟩ := k4E
  refine a7 (o2 _ _ _ rfl) ?_
  refine a7 (o2 _ _ (vi d9K) rfl) ?_
  refine z7 b5M Tryz.zeroValue25 (cs := [(nS), (nS)]) rfl fun j3r z2 c3N e9P => ?_
  refine m6 c3N Tryz.sizeOf25 (vs := (k4 b3u)) (cs' := (k4 b3u)) rfl rfl (nb rfl) rfl rfl fun a4y T8 a9i => ?_
  refine f7 (ldA Tryz.isAgg25 Tryz.sizeOf25 rfl ((T8.bring 1).at1 (o := 0) (vs := (k4 x0)) (nb rfl) rfl)) ?_
  refine g9 (cap := []) (fun args w => Tryz.call13 args w) ?_
  refine l7 (Fi := []) (Fr := [bx j3r 25 (k4 b3u), bx g_2 25 (k4 x0)]) T8 (h) (fun k3P b2P k3Q b6T d2k k3R k3S g3T => ?_) (fun _ _ _ _ _ q => q.elim)
  obtain ⟨b3p, d1k, rfl, rfl, h⟩ := g3T
  refine a7 (o2 _ _ _ rfl) ?_
  refine a7 (o2 _ _ (vi d1k) rfl) ?_
  refine z7 d2k Tryz.zeroValue25 (cs := [(nS), (nS)]) rfl fun k4F b3E b4w d6Z => ?_
  refine m6 b4w Tryz.sizeOf25 (vs := (k4 b3p)) (cs' := (k4 b3p)) rfl rfl (nb rfl) rfl rfl fun N1 c4a k3Y => ?_
  refine a7 (M7 _ _ _ _ _ _) ?_
  refine a4f (fun c1D => ?_) (fun c1D => ?_)
  ·replace h := h.1 c1D
   exact hR false b2P _ c4a.drop.drop.drop h
  ·replace h := h.2 c1D
   refine a7 (M7 _ _ _ _ _ _) ?_
   refine a4f (fun c1A => ?_) (fun c1A => ?_)
   ·replace h := h.1 c1A
    refine a7 a1G ?_
    refine f7 (ld1 Tryz.isAgg22 ((c4a.bring 1).at1 (o := 0) (vs := [(vs b3u.z8)]) (nb rfl) rfl)) ?_
    refine a7 (b2t _ _ _) ?_
    refine a7 (i8 _ _ _ _ _ _) ?_
    refine a7 (Pu.g fun hb => by have b9 := hb; exact a3D) ?_
    refine f7 (Ld.g fun hb => by have b9 := hb; simp only [i7 b9]; exact (ld1 Tryz.isAgg23 ((c4a.bring 1).at1 (o := 1) (vs := [(vs b3u.V3)]) (nb rfl) rfl))) ?_
    refine a7 (Pu.g fun hb => by have b9 := hb; simp only [i7 b9]; exact (W4 _ _ _)) ?_
    refine a7 (Pu.g fun hb => by have b9 := hb; simp only [i7 b9]; exact (i8 _ _ _ _ _ _)) ?_
    refine a7 (s7 _ _) ?_
    exact hR ((decide ((b3u.z8.n : Int) = 0)) && (decide ((b3u.V3.n : Int) = 0))) b2P _ c4a.drop.drop.drop h
   ·replace h := h.2 c1A
    refine f7 (ldA Tryz.isAgg25 Tryz.sizeOf25 rfl ((c4a.bring 1).at1 (o := 0) (vs := (k4 b3u)) (nb rfl) rfl)) ?_
    refine f7 (ldA Tryz.isAgg25 Tryz.sizeOf25 rfl (c4a.at1 (o := 0) (vs := (k4 b3p)) (nb rfl) rfl)) ?_
    refine g9 (cap := []) (fun args w => Tryz.call11 args w) ?_
    refine l7 (Fi := []) (Fr := [bx k4F 25 (k4 b3p), bx j3r 25 (k4 b3u), bx g_2 25 (k4 x0)]) c4a (h) (fun l2r g4j k1U L8 k4G d7i l2s k4H => ?_) (fun _ _ _ _ _ q => q.elim)
    obtain ⟨f4X, rfl, rfl, h⟩ := k4H
    exact hR f4X g4j _ k4G.drop.drop.drop h
theorem b4a (x0 : m5) {H : Hp} {K : Bool → Hp → Prop} (h : a0e x0 H K) : a3w x0 H K := by
 intro w I
 refine j6L ?_
 refine b3R x0 I (fun r0 H' w' I' hk => ⟨H', _, I', r0, rfl, rfl, hk⟩) h
end Go.Proofs.YtnhkdkcgdcgmdaaGreatDoor
