/- Typed formulas of the program's functions, and the theorems that the contracts follow from them; printed by lift.py off the code. -/
import Derived.Test.YthldnpmfelniiaaDoorzWV1
namespace Go.Proofs.YthldnpmfelniiaaDoor
open Go.RowKit
set_option maxRecDepth 100000
set_option maxHeartbeats 2000000
def B6 (a1M : (List c7)) (H : Hp) (K : Sl → Hp → Prop) : Prop :=
 ∀ (J8 : Sl) (a2x : Hp), Hle H a2x → SlH a2x 1 q6 J8 a1M → J8.n ≤ J8.c →
 K J8 a2x
def B7 (a3r : Sl) (a2y : Int) (y9 : (List c7)) (v1 : Int) (H : Hp) (n2 : ((List c7) × Int) → Hp → Prop) (K : Sl → Hp → Prop) : Prop :=
 (v1 < a2y →
 (0 : Int) ≤ v1 ∧ (v1 : Int) < a3r.n ∧ ∃ x_1 : i4, EltH H a3r v1 2 (g9 x_1) ∧
 a8N x_1 H (fun (W7 : c7) (a2z : Hp) =>
 (y9.length + ([W7] : List c7).length) * 17 ≤ 140737488355328 ∧
 n2 ((y9 ++ [W7]), (IntKind.wrap .i64 (v1 + 1))) a2z)) ∧
 (¬ (v1 < a2y) →
 B6 y9 H K)
def C8 (x0 : Sl) (H : Hp) (K : Sl → Hp → Prop) : Prop :=
 TL (([], 0) : (List c7) × Int) H fun (s : (List c7) × Int) H n2 => B7 x0 (x0.n : Int) s.1 s.2 H n2 K
theorem a2t (x0 : Sl) {w0 w : World} {ps0 : Nat → Prop} {H0 H : Hp} {K : Sl → Hp → Prop} {R : Value → World → Prop} {E : Pan} (I : Inv w0 ps0 H0 H [] w) (hR : ∀ (r0 : Sl) (H' : Hp) (w' : World) (_ : Inv w0 ps0 H0 H' [] w') (_ : K r0 H'), R (vs r0) w') (h : C8 x0 H K) : F95 (vs x0) (Value.func (.func 96) #[] #[]) w R E := by
 unfold C8 at h
 unfold F95
 have hj1 : ∀ (a1M : (List c7)) (J8 : Sl) (Fs5j1 : Frag) (H : Hp) (w : World) (_ : RowL 141 1 q6 J8 a1M Fs5j1) (_ : Inv w0 ps0 H0 H [Fs5j1] w) (_ : B6 a1M H K), c6I (vs J8) w R E := by
  intro a1M J8 Fs5j1 H w b5B I h
  unfold c6I
  intro _
  unfold B6 at h
  obtain ⟨a2x, b2t, b5C, b2u, a8R⟩ := Inv.freezeC I b5B (by decide)
  replace h := h J8 a2x b5C b2u a8R
  exact hR J8 a2x _ b2t h
 refine o3 fun j1 hx1 => ?_
 refine a6 (Z6 _ _ _) ?_
 obtain ⟨a7X, a4l, b9J, b9K⟩ := h
 refine t6 (J := fun n l w => ∃ (s : (List c7) × Int) (H : Hp) (a1N : Sl) (Fs5l2 : Frag) , n = a4l s ∧ l = (match s with | (y9, v1) => [(vs a1N), (vi v1)]) ∧ (match s with | (y9, v1) => RowL 141 1 q6 a1N y9 Fs5l2) ∧ (match s with | (y9, v1) => Inv w0 ps0 H0 H [Fs5l2] w) ∧ a7X s H) ⟨_, ([], 0), H, (Sl.mk none 0 0), [], rfl, rfl, (RowL.nil Q1 V9), I.nil, b9J⟩ ?_
 rintro d9J τ_50 w next2 ⟨⟨y9, v1⟩, H, a1N, Fs5l2, rfl, a7Y, a5W, I, b9L⟩ hn2
 dsimp only at a7Y I a5W
 simp only [List.map_cons, List.map_nil, List.cons.injEq, and_true] at a7Y
 obtain ⟨e5, e10⟩ := a7Y
 simp only [e5, e10]
 obtain ⟨n2, hm2, h⟩ : ∃ n2 : ((List c7) × Int) → Hp → Prop, (∀ s' H', n2 s' H' → a7X s' H' ∧ a4l s' < a4l (y9, v1)) ∧ B7 x0 (x0.n : Int) y9 v1 H n2 K := ⟨_, fun _ _ h => h, b9K (y9, v1) H (fun s' H' => a7X s' H' ∧ a4l s' < a4l (y9, v1)) b9L (fun _ _ a b => ⟨a, b⟩)⟩
 unfold d6Y
 unfold B7 at h
 refine a6 (p6 _ _ _ _ _ _) ?_
 refine g8 (fun a4m => ?_) (fun a4m => ?_)
 ·replace h := h.1 a4m
  obtain ⟨h_4, h_5, x_1, h_7, h⟩ := h
  obtain ⟨g_2, o_3, h_6, h_7⟩ := h_7
  refine a6 (N0 h_6 _ _ _ _ h_4 h_5) ?_
  refine c5 (ldA (vs := (g9 x_1)) Tryd.isAgg67 Tryd.sizeOf67 rfl (I.atH h_7)) ?_
  refine L8 I Tryd.zeroValue67 (cs := [(Value.string ⟨#[]⟩), (vi 0)]) rfl fun g_9 o2 a5z b7M => ?_
  refine u1 a5z Tryd.sizeOf67 (vs := (g9 x_1)) (cs' := (g9 x_1)) rfl rfl (nb rfl) rfl rfl fun a0b a3N c3r => ?_
  refine c5 (ldA Tryd.isAgg67 Tryd.sizeOf67 rfl (a3N.at1 (o := 0) (vs := (g9 x_1)) (nb rfl) rfl)) ?_
  refine f7 (cap := []) (fun args w => Tryd.call96 args w) ?_
  refine m2 (Fi := []) (Fr := [bx g_9 67 (g9 x_1), Fs5l2]) a3N (h) (fun d2w a2z d2x a5M a5X d2y c7f b5D => ?_) (fun _ _ _ _ _ q => q.elim)
  obtain ⟨W7, rfl, rfl, h⟩ := b5D
  refine a5G (e := 141) (c := q6) (xs := [W7]) a5X (b8A _) rfl rfl Q1 V9 (nb rfl) fun b5E c3s y7 b2v a6x b9M => ?_
  obtain ⟨a9T, h⟩ := h
  refine b7c (s := a1N) (xs := y9) (a6x.bring 2) a5W (b2v.srcO ((a6x.bring 2).bring 1)) a9T fun b9N b7N A8 b2w a3s c7g => ?_
  refine a6 (o4 _ _ _ _ _ _) ?_
  exact hn2 _ _ _ (hm2 _ _ h).2 ⟨((y9 ++ [W7]), (IntKind.wrap .i64 (v1 + 1))), a2z, b9N, b7N, rfl, rfl, b2w, ((a3s.bring 1).drop.bring 1).drop, (hm2 _ _ h).1⟩
 ·replace h := h.2 a4m
  exact hx1 _ _ (hj1 y9 a1N Fs5l2 H _ a5W I h)
theorem a2I (x0 : Sl) {H : Hp} {K : Sl → Hp → Prop} (h : C8 x0 H K) : I0 x0 H K := by
 intro w I
 refine f2U ?_
 refine a2t x0 I (fun r0 H' w' I' hk => ⟨H', _, I', r0, rfl, rfl, hk⟩) h
def a4U (x0 : c7) (H : Hp) (K : ByteArray → Bool → Hp → Prop) : Prop :=
 (x0.a9K = true →
 K ((((x0.Z9)).Q0).f5) true H) ∧
 (x0.a9K = false →
 (x0.a9L = true →
 K ((((x0.i8)).d4).f5) ((decide (((((x0.i8)).d4).c6) = 1)) || (decide (((((x0.i8)).d4).c6) = 2))) H) ∧
 (x0.a9L = false →
 (x0.a9J = true →
 K ((((x0.q9)).m9).f5) ((decide (((((x0.q9)).m9).c6) = 2)) || (decide (((((x0.q9)).m9).c6) = 4))) H) ∧
 (x0.a9J = false →
 K ⟨#[]⟩ false H)))
theorem b6R (x0 : c7) {w0 w : World} {ps0 : Nat → Prop} {H0 H : Hp} {K : ByteArray → Bool → Hp → Prop} {R : Value → World → Prop} {E : Pan} (I : Inv w0 ps0 H0 H [] w) (hR : ∀ (r0 : ByteArray) (r1 : Bool) (H' : Hp) (w' : World) (_ : Inv w0 ps0 H0 H' [] w') (_ : K r0 r1 H'), R (Value.tuple #[(Value.string r0), (Value.bool r1)]) w') (h : a4U x0 H K) : d1X (A6 x0) w R E := by
 unfold a4U at h
 unfold d1X
 refine a6 (c4W x0) ?_
 refine a6 (u0 _ _ _ rfl) ?_
 refine a6 (u0 _ _ _ rfl) ?_
 refine m5 (fun e0D => ?_) (fun e0D => ?_)
 ·replace h := h.1 e0D
  refine L8 I Tryd.zeroValue175 (cs := [(Value.string ⟨#[]⟩), (vi 0)]) rfl fun g_2 w_3 I_4 k_5 => ?_
  refine u1 I_4 Tryd.sizeOf175 (vs := [(Value.string ((((x0.Z9)).Q0).f5)), (vi ((((x0.Z9)).Q0).A5))]) (cs' := [(Value.string ((((x0.Z9)).Q0).f5)), (vi ((((x0.Z9)).Q0).A5))]) rfl rfl (nb rfl) rfl rfl fun w_6 I_7 k_8 => ?_
  refine a6 a7G ?_
  refine a6 W4 ?_
  refine c5 (ld1 Tryd.isAgg9 (I_7.at1 (o := 0) (vs := [(Value.string ((((x0.Z9)).Q0).f5))]) (nb rfl) rfl)) ?_
  exact hR ((((x0.Z9)).Q0).f5) true H _ I_7.drop h
 ·replace h := h.2 e0D
  refine a6 (c4X x0) ?_
  refine a6 (u0 _ _ _ rfl) ?_
  refine a6 (u0 _ _ _ rfl) ?_
  refine m5 (fun e0E => ?_) (fun e0E => ?_)
  ·replace h := h.1 e0E
   refine L8 I Tryd.zeroValue177 (cs := [(vi 0), (Value.string ⟨#[]⟩), (Value.slice none 0 0), (Value.slice none 0 0), (Value.slice none 0 0), (Value.slice none 0 0)]) rfl fun h2e a1j G9 b5A => ?_
   refine u1 G9 Tryd.sizeOf177 (vs := [(vi ((((x0.i8)).d4).c6)), (Value.string ((((x0.i8)).d4).f5)), (Value.slice ((((x0.i8)).d4).g5).a ((((x0.i8)).d4).g5).n ((((x0.i8)).d4).g5).c), (Value.slice ((((x0.i8)).d4).m4).a ((((x0.i8)).d4).m4).n ((((x0.i8)).d4).m4).c), (Value.slice ((((x0.i8)).d4).A9).a ((((x0.i8)).d4).A9).n ((((x0.i8)).d4).A9).c), (Value.slice ((((x0.i8)).d4).y8).a ((((x0.i8)).d4).y8).n ((((x0.i8)).d4).y8).c)]) (cs' := [(vi ((((x0.i8)).d4).c6)), (Value.string ((((x0.i8)).d4).f5)), (Value.slice ((((x0.i8)).d4).g5).a ((((x0.i8)).d4).g5).n ((((x0.i8)).d4).g5).c), (Value.slice ((((x0.i8)).d4).m4).a ((((x0.i8)).d4).m4).n ((((x0.i8)).d4).m4).c), (Value.slice ((((x0.i8)).d4).A9).a ((((x0.i8)).d4).A9).n ((((x0.i8)).d4).A9).c), (Value.slice ((((x0.i8)).d4).y8).a ((((x0.i8)).d4).y8).n ((((x0.i8)).d4).y8).c)]) rfl rfl (nb rfl) rfl rfl fun o8 b5H c7q => ?_
   refine a5F b5H fun a5M a5X => ?_
   refine q8 G5 ?_
   refine q8 a4P ?_
   refine q8 G5 ?_
   refine q8 C1 ?_
   refine M2 (ld1 Tryd.isAgg9 (a5X.at1 (o := 1) (vs := [(Value.string ((((x0.i8)).d4).f5))]) (nb rfl) rfl)) ?_
   refine M2 (ld1 Tryd.isAgg3 (a5X.at1 (o := 0) (vs := [(vi ((((x0.i8)).d4).c6))]) (nb rfl) rfl)) ?_
   refine q8 (c8 _ _ _ _ _ _) ?_
   refine q8 (Pu.g fun hb => by have a7 := hb; first | exact G5 | (simp only [b8 a7, a8 a7, a8 hb, a4O a7]; exact G5) | (simp only [b8 a7, a8 a7, a8 hb, v8 a7, h7]; exact G5)) ?_
   refine q8 (Pu.g fun hb => by have a7 := hb; first | exact C1 | (simp only [a8 a7]; exact C1) | (simp only [b8 a7, a8 a7, a8 hb, v8 a7, h7]; exact C1)) ?_
   refine e9v (p := (Value.pointer (some ⟨h2e, 0, none⟩))) rfl (Ld.g fun hb => by have a7 := hb; first | exact (ld1 Tryd.isAgg3 (a5X.at1 (o := 0) (vs := [(vi ((((x0.i8)).d4).c6))]) (nb rfl) rfl)) | (simp only [a8 a7]; exact (ld1 Tryd.isAgg3 (a5X.at1 (o := 0) (vs := [(vi ((((x0.i8)).d4).c6))]) (nb rfl) rfl))) | (simp only [b8 a7, a8 a7, a8 hb, v8 a7, h7]; exact (ld1 Tryd.isAgg3 (a5X.at1 (o := 0) (vs := [(vi ((((x0.i8)).d4).c6))]) (nb rfl) rfl)))) ?_
   refine q8 (Pu.g fun hb => by have a7 := hb; first | exact (c8 _ _ _ _ _ _) | (simp only [a8 a7]; exact (c8 _ _ _ _ _ _)) | (simp only [b8 a7, a8 a7, a8 hb, v8 a7, h7]; exact (c8 _ _ _ _ _ _))) ?_
   refine q8 (E6 _ _) ?_
   exact hR ((((x0.i8)).d4).f5) ((decide (((((x0.i8)).d4).c6) = 1)) || (decide (((((x0.i8)).d4).c6) = 2))) H _ a5X.drop h
  ·replace h := h.2 e0E
   refine a6 (c5T x0) ?_
   refine a6 (u0 _ _ _ rfl) ?_
   refine a6 (u0 _ _ _ rfl) ?_
   refine m5 (fun c0x => ?_) (fun c0x => ?_)
   ·replace h := h.1 c0x
    refine L8 I Tryd.zeroValue96 (cs := [(vi 0), (vi 0), (Value.string ⟨#[]⟩), (Value.slice none 0 0)]) rfl fun f6j a9Q h2f h8l => ?_
    refine u1 h2f Tryd.sizeOf96 (vs := [(vi ((((x0.q9)).m9).c6)), (vi ((((x0.q9)).m9).Q6)), (Value.string ((((x0.q9)).m9).f5)), (Value.slice ((((x0.q9)).m9).u6).a ((((x0.q9)).m9).u6).n ((((x0.q9)).m9).u6).c)]) (cs' := [(vi ((((x0.q9)).m9).c6)), (vi ((((x0.q9)).m9).Q6)), (Value.string ((((x0.q9)).m9).f5)), (Value.slice ((((x0.q9)).m9).u6).a ((((x0.q9)).m9).u6).n ((((x0.q9)).m9).u6).c)]) rfl rfl (nb rfl) rfl rfl fun t8 a4H c7M => ?_
    refine a5F a4H fun a7U a8l => ?_
    refine q8 O0 ?_
    refine q8 a3G ?_
    refine q8 O0 ?_
    refine q8 J6 ?_
    refine M2 (ld1 Tryd.isAgg9 (a8l.at1 (o := 2) (vs := [(Value.string ((((x0.q9)).m9).f5))]) (nb rfl) rfl)) ?_
    refine M2 (ld1 Tryd.isAgg3 (a8l.at1 (o := 0) (vs := [(vi ((((x0.q9)).m9).c6))]) (nb rfl) rfl)) ?_
    refine q8 (c8 _ _ _ _ _ _) ?_
    refine q8 (Pu.g fun hb => by have a7 := hb; first | exact O0 | (simp only [b8 a7, a8 a7, a8 hb, a4O a7]; exact O0) | (simp only [b8 a7, a8 a7, a8 hb, v8 a7, h7]; exact O0)) ?_
    refine q8 (Pu.g fun hb => by have a7 := hb; first | exact J6 | (simp only [a8 a7]; exact J6) | (simp only [b8 a7, a8 a7, a8 hb, v8 a7, h7]; exact J6)) ?_
    refine e9v (p := (Value.pointer (some ⟨f6j, 0, none⟩))) rfl (Ld.g fun hb => by have a7 := hb; first | exact (ld1 Tryd.isAgg3 (a8l.at1 (o := 0) (vs := [(vi ((((x0.q9)).m9).c6))]) (nb rfl) rfl)) | (simp only [a8 a7]; exact (ld1 Tryd.isAgg3 (a8l.at1 (o := 0) (vs := [(vi ((((x0.q9)).m9).c6))]) (nb rfl) rfl))) | (simp only [b8 a7, a8 a7, a8 hb, v8 a7, h7]; exact (ld1 Tryd.isAgg3 (a8l.at1 (o := 0) (vs := [(vi ((((x0.q9)).m9).c6))]) (nb rfl) rfl)))) ?_
    refine q8 (Pu.g fun hb => by have a7 := hb; first | exact (c8 _ _ _ _ _ _) | (simp only [a8 a7]; exact (c8 _ _ _ _ _ _)) | (simp only [b8 a7, a8 a7, a8 hb, v8 a7, h7]; exact (c8 _ _ _ _ _ _))) ?_
    refine q8 (E6 _ _) ?_
    exact hR ((((x0.q9)).m9).f5) ((decide (((((x0.q9)).m9).c6) = 2)) || (decide (((((x0.q9)).m9).c6) = 4))) H _ a8l.drop h
   ·replace h := h.2 c0x
    exact hR ⟨#[]⟩ false H _ I h
theorem b7X (x0 : c7) {H : Hp} {K : ByteArray → Bool → Hp → Prop} (h : a4U x0 H K) : a2W x0 H K := by
 intro w I
 refine e5C ?_
 refine b6R x0 I (fun r0 r1 H' w' I' hk => ⟨H', _, I', r0, r1, rfl, rfl, hk⟩) h
def a4w (x0 : Int) (H : Hp) (K : Bool → Hp → Prop) : Prop :=
 a4r x0 H (fun (L9 : Int) (H_1 : Hp) =>
 K ((decide (L9 = 3)) || (decide (L9 = 4))) H_1)
theorem b6g (x0 : Int) {w0 w : World} {ps0 : Nat → Prop} {H0 H : Hp} {K : Bool → Hp → Prop} {R : Value → World → Prop} {E : Pan} (I : Inv w0 ps0 H0 H [] w) (hR : ∀ (r0 : Bool) (H' : Hp) (w' : World) (_ : Inv w0 ps0 H0 H' [] w') (_ : K r0 H'), R (Value.bool r0) w') (h : a4w x0 H K) : d2c (Value.int .i32 x0) w R E := by
 unfold a4w at h
 unfold d2c
 refine f7 (cap := []) (fun args w => Tryd.call126 args w) ?_
 refine m2 (Fi := []) (Fr := []) I (h) (fun v_5 H_1 F_6 w_2 I_3 l_8 k_4 q_7 => ?_) (fun _ _ _ _ _ q => q.elim)
 obtain ⟨L9, rfl, rfl, h⟩ := q_7
 refine a6 (c8 _ _ _ _ _ _) ?_
 try simp only [o6]
 refine a6 (Pu.g fun hb => by have a7 := hb; first | exact (c8 _ _ _ _ _ _) | (simp only [a8 a7]; exact (c8 _ _ _ _ _ _)) | (simp only [b8 a7, a8 a7, a8 hb, v8 a7, h7]; exact (c8 _ _ _ _ _ _))) ?_
 refine a6 (E6 _ _) ?_
 exact hR ((decide (L9 = 3)) || (decide (L9 = 4))) H_1 _ I_3 h
theorem b6S (x0 : Int) {H : Hp} {K : Bool → Hp → Prop} (h : a4w x0 H K) : a6v x0 H K := by
 intro w I
 refine e5O ?_
 refine b6g x0 I (fun r0 H' w' I' hk => ⟨H', _, I', r0, rfl, rfl, hk⟩) h
def U4 (H : Hp) (K : Int → Hp → Prop) : Prop :=
 K (-1) H
def U5 (a3U : (List ByteArray)) (a5c : ByteArray) (a1m : Int) (a3r : Int) (H : Hp) (n2 : Int → Hp → Prop) (K : Int → Hp → Prop) : Prop :=
 (a3r < a1m →
 (0 : Int) ≤ a3r ∧ ∃ x_1 : ByteArray, (a3U)[(a3r : Int).toNat]? = some x_1 ∧
 (a5c = x_1 →
 K a3r H) ∧
 (¬ (a5c = x_1) →
 n2 (IntKind.wrap .i64 (a3r + 1)) H)) ∧
 (¬ (a3r < a1m) →
 U4 H K)
def a0g (x0 : (List ByteArray)) (x1 : ByteArray) (H : Hp) (K : Int → Hp → Prop) : Prop :=
 TL (0 : Int) H fun (s : Int) H n2 => U5 x0 x1 (x0.length : Int) s H n2 K
theorem a9x (x0 : (List ByteArray)) (x1 : ByteArray) (sx0 : Sl) (Fx0 : Frag) (hx0 : RowL 9 1 u7 sx0 x0 Fx0) {w0 w : World} {ps0 : Nat → Prop} {H0 H : Hp} {K : Int → Hp → Prop} {R : Value → World → Prop} {E : Pan} (I : Inv w0 ps0 H0 H [Fx0] w) (hR : ∀ (r0 : Int) (H' : Hp) (w' : World) (_ : Inv w0 ps0 H0 H' [Fx0] w') (_ : K r0 H'), R (vi r0) w') (h : a0g x0 x1 H K) : d2e (vs sx0) (Value.string x1) w R E := by
 unfold a0g at h
 unfold d2e
 have hj1 : ∀ (H : Hp) (w : World) (_ : Inv w0 ps0 H0 H [Fx0] w) (_ : U4 H K), c3g w R E := by
  intro H w I h
  unfold c3g
  intro _
  unfold U4 at h
  exact hR (-1) H _ I h
 refine o3 fun j1 hx1 => ?_
 refine a6 (b1h Tryd.underlying47 hx0) ?_
 obtain ⟨c0y, b2W, e0F, e0G⟩ := h
 refine t6 (J := fun n l w => ∃ (s : Int) (H : Hp) , n = b2W s ∧ l = [(vi s)] ∧ Inv w0 ps0 H0 H [Fx0] w ∧ c0y s H) ⟨_, 0, H, rfl, rfl, I, e0F⟩ ?_
 rintro h2g τ_15 w next2 ⟨a3r, H, rfl, c3x, I, d3q⟩ hn2
 simp only [List.map_cons, List.map_nil, List.cons.injEq, and_true] at c3x
 have e8 := c3x
 simp only [e8]
 obtain ⟨n2, hm2, h⟩ : ∃ n2 : Int → Hp → Prop, (∀ s' H', n2 s' H' → c0y s' H' ∧ b2W s' < b2W a3r) ∧ U5 x0 x1 (x0.length : Int) a3r H n2 K := ⟨_, fun _ _ h => h, e0G a3r H (fun s' H' => c0y s' H' ∧ b2W s' < b2W a3r) d3q (fun _ _ a b => ⟨a, b⟩)⟩
 unfold d0P
 unfold U5 at h
 refine a6 (p6 _ _ _ _ _ _) ?_
 refine g8 (fun c_9 => ?_) (fun c_9 => ?_)
 ·replace h := h.1 c_9
  obtain ⟨h_3, x_1, h_4, h⟩ := h
  obtain ⟨g_2, a_6, h_5, h_7⟩ := hx0.addr h_4
  refine a6 (b9C h_5 _ _ _ _ h_3 (hx0.lt h_3 h_4)) ?_
  refine c5 (ld1 (v := (Value.string x_1)) Tryd.isAgg9 (hx0.atW I h_5 h_4)) ?_
  refine a6 (L3 _ _ _ _ _) ?_
  refine g8 (fun c_8 => ?_) (fun c_8 => ?_)
  ·replace h := h.1 c_8
   exact hR a3r H _ I h
  ·replace h := h.2 c_8
   refine a6 (o4 _ _ _ _ _ _) ?_
   exact hn2 _ _ _ (hm2 _ _ h).2 ⟨(IntKind.wrap .i64 (a3r + 1)), H, rfl, rfl, I, (hm2 _ _ h).1⟩
 ·replace h := h.2 c_9
  exact hx1 _ _ (hj1 H _ I h)
theorem b0c (x0 : (List ByteArray)) (x1 : ByteArray) {H : Hp} {K : Int → Hp → Prop} (h : a0g x0 x1 H K) : a2w x0 x1 H K := by
 intro sx0 Fx0 hx0 w I
 refine e5S ?_
 refine a9x x0 x1 sx0 Fx0 hx0 I (fun r0 H' w' I' hk => ⟨H', _, I', r0, rfl, rfl, hk⟩) h
def a4x (x0 : i7) (H : Hp) (K : Int → Hp → Prop) : Prop :=
 a7x x0 H (fun (u4 : i5) (H_6 : Hp) =>
 K u4.fe H_6)
theorem b6h (x0 : i7) {w0 w : World} {ps0 : Nat → Prop} {H0 H : Hp} {K : Int → Hp → Prop} {R : Value → World → Prop} {E : Pan} (I : Inv w0 ps0 H0 H [] w) (hR : ∀ (r0 : Int) (H' : Hp) (w' : World) (_ : Inv w0 ps0 H0 H' [] w') (_ : K r0 H'), R (vi r0) w') (h : a4x x0 H K) : F27 (Value.agg (d5 x0).toArray) w R E := by
 unfold a4x at h
 unfold F27
 refine K2 I (cs := (d5 x0)) rfl fun g_2 w_3 I_4 k_5 => ?_
 refine c5 (ldA Tryd.isAgg25 Tryd.sizeOf25 rfl (I_4.at1 (o := 0) (vs := (d5 x0)) (nb rfl) rfl)) ?_
 refine f7 (cap := []) (fun args w => Tryd.call66 args w) ?_
 refine m2 (Fi := []) (Fr := [bx g_2 25 (d5 x0)]) I_4 (h) (fun a8X H_6 a8Y w_7 I_8 a8Z k_9 a1P => ?_) (fun _ _ _ _ _ q => q.elim)
 obtain ⟨u4, h4B, rfl, rfl, h⟩ := a1P
 refine a6 (m1 _) ?_
 refine a6 a8E ?_
 refine c5 (ld1 Tryd.isAgg34 (I_8.at1 (o := 2) (vs := [(vi u4.fe)]) (nb rfl) rfl)) ?_
 exact hR u4.fe H_6 _ I_8.drop.drop h
theorem b6T (x0 : i7) {H : Hp} {K : Int → Hp → Prop} (h : a4x x0 H K) : a6w x0 H K := by
 intro w I
 refine e9O ?_
 refine b6h x0 I (fun r0 H' w' I' hk => ⟨H', _, I', r0, rfl, rfl, hk⟩) h
def S2 (a9c : Int) (cr_1l2 : m8) (a1m : Int) (O5 : b7) (H : Hp) (n2 : (Int × b7) → Hp → Prop) (K : b7 → Hp → Prop) : Prop :=
 (((decide (a1m < (cr_1l2.p5.n : Int))) && (decide (O5.fbad = 0))) = true →
 (0 : Int) ≤ a1m ∧ (a1m : Int) < cr_1l2.p5.n ∧ ∃ b6b : m8, EltH H cr_1l2.p5 a1m 4 (g7 b6b) ∧
 W9 O5 b6b (IntKind.wrap .i64 (a9c + 1)) H (fun (b6c : b7) (c0u : Hp) =>
 n2 ((IntKind.wrap .i64 (a1m + 1)), b6c) c0u)) ∧
 (((decide (a1m < (cr_1l2.p5.n : Int))) && (decide (O5.fbad = 0))) = false →
 K O5 H)
def S3 (b4c : Int) (K3 : b7) (cr_1j1 : m8) (H : Hp) (K : b7 → Hp → Prop) : Prop :=
 TL ((0, K3) : Int × b7) H fun (s : Int × b7) H n2 => S2 b4c cr_1j1 s.1 s.2 H n2 K
def S4 (f6D : Int) (cr_1l3 : m8) (M0 : Int) (a4V : b7) (H : Hp) (n3 : (Int × b7) → Hp → Prop) (K : b7 → Hp → Prop) : Prop :=
 (((decide (M0 < (cr_1l3.g5.n : Int))) && (decide (a4V.fbad = 0))) = true →
 (0 : Int) ≤ M0 ∧ (M0 : Int) < cr_1l3.g5.n ∧ ∃ b4j : m7, EltH H cr_1l3.g5 M0 4 (f6 b4j) ∧
 P3 a4V b4j (IntKind.wrap .i64 (f6D + 1)) H (fun (c7N : b7) (e0H : Hp) =>
 n3 ((IntKind.wrap .i64 (M0 + 1)), c7N) e0H)) ∧
 (((decide (M0 < (cr_1l3.g5.n : Int))) && (decide (a4V.fbad = 0))) = false →
 S3 f6D a4V cr_1l3 H K)
def X8 (x0 : b7) (x1 : m8) (x2 : Int) (H : Hp) (K : b7 → Hp → Prop) : Prop :=
 L4 x0 x2 H (fun (u4 : Bool) (M4 : b7) (H_6 : Hp) =>
 ((!u4) = true →
 K M4 H_6) ∧
 ((!u4) = false →
 TL ((0, M4) : Int × b7) H_6 fun (s : Int × b7) H n3 => S4 x2 x1 s.1 s.2 H n3 K))
theorem a9g (x0 : b7) (x1 : m8) (x2 : Int) (g0 : Nat) {w0 w : World} {ps0 : Nat → Prop} {H0 H : Hp} {K : b7 → Hp → Prop} {R : Value → World → Prop} {E : Pan} (I : Inv w0 ps0 H0 H [bx g0 99 (d7 x0)] w) (hR : ∀ (y0 : b7) (H' : Hp) (w' : World) (_ : Inv w0 ps0 H0 H' [bx g0 99 (d7 y0)] w') (_ : K y0 H'), R (Value.tuple #[]) w') (h : X8 x0 x1 x2 H K) : F61 (Value.pointer (some ⟨g0, 0, none⟩)) (Value.agg (g7 x1).toArray) (vi x2) w R E := by
 unfold X8 at h
 unfold F61
 refine K2 I (cs := (g7 x1)) rfl fun g_2 w_3 I_4 k_5 => ?_
 refine f7 (cap := []) (fun args w => Tryd.call91 args w) ?_
 refine m2 (Fi := [bx g0 99 (d7 x0)]) (Fr := [bx g_2 33 (g7 x1)]) (I_4.bring 1) (h g0) (fun a8X H_6 a8Y w_7 I_8 a8Z k_9 a1P => ?_) (fun _ _ _ _ _ q => q.elim)
 obtain ⟨u4, M4, rfl, rfl, h⟩ := a1P
 refine a6 (L2 _) ?_
 refine m5 (fun a9h => ?_) (fun a9h => ?_)
 ·replace h := h.1 a9h
  exact hR M4 H_6 _ (I_8.bring 1).drop h
 ·replace h := h.2 a9h
  have hj1 : ∀ (K3 : b7) (H : Hp) (w : World) (_ : Inv w0 ps0 H0 H [bx g0 99 (d7 K3), bx g_2 33 (g7 x1)] w) (_ : S3 x2 K3 x1 H K), c6g (Value.pointer (some ⟨g0, 0, none⟩)) (vi x2) (Value.pointer (some ⟨g_2, 0, none⟩)) w R E := by
   intro K3 H w I h
   unfold c6g
   intro _
   unfold S3 at h
   obtain ⟨c0v, b2U, e0w, e0x⟩ := h
   refine t6 (J := fun n l w => ∃ (s : Int × b7) (H : Hp) , n = b2U s ∧ l = (match s with | (a1m, O5) => [(vi a1m)]) ∧ (match s with | (a1m, O5) => Inv w0 ps0 H0 H [bx g0 99 (d7 O5), bx g_2 33 (g7 x1)] w) ∧ c0v s H) ⟨_, (0, K3), H, rfl, rfl, ((I.bring 1).bring 1), e0w⟩ ?_
   rintro h1V τ_78 w next2 ⟨⟨a1m, O5⟩, H, rfl, a8M, I, e0y⟩ hn2
   dsimp only at a8M I
   simp only [List.map_cons, List.map_nil, List.cons.injEq, and_true] at a8M
   have e7 := a8M
   simp only [e7]
   obtain ⟨n2, hm2, h⟩ : ∃ n2 : (Int × b7) → Hp → Prop, (∀ s' H', n2 s' H' → c0v s' H' ∧ b2U s' < b2U (a1m, O5)) ∧ S2 x2 x1 a1m O5 H n2 K := ⟨_, fun _ _ h => h, e0x (a1m, O5) H (fun s' H' => c0v s' H' ∧ b2U s' < b2U (a1m, O5)) e0y (fun _ _ a b => ⟨a, b⟩)⟩
   unfold d6M
   unfold S2 at h
   refine a6 a0W ?_
   refine c5 (ld1 Tryd.isAgg31 ((I.bring 1).at1 (o := 3) (vs := [(vs x1.p5)]) (nb rfl) rfl)) ?_
   refine a6 (Q7 _ _ _) ?_
   refine a6 (p6 _ _ _ _ _ _) ?_
   try simp only [o6]
   refine a6 (Pu.g fun hb => by have a7 := hb; first | exact (m1 _) | (simp only [a8 a7]; exact (m1 _)) | (simp only [b8 a7, a8 a7, a8 hb, d9 a7, h7]; exact (m1 _))) ?_
   refine a6 (Pu.g fun hb => by have a7 := hb; first | exact y6 | (simp only [a8 a7]; exact y6) | (simp only [b8 a7, a8 a7, a8 hb, d9 a7, h7]; exact y6)) ?_
   refine c5 (Ld.g fun hb => by have a7 := hb; first | exact (ld1 Tryd.isAgg3 (I.at1 (o := 2) (vs := [(vi O5.fbad)]) (nb rfl) rfl)) | (simp only [a8 a7]; exact (ld1 Tryd.isAgg3 (I.at1 (o := 2) (vs := [(vi O5.fbad)]) (nb rfl) rfl))) | (simp only [b8 a7, a8 a7, a8 hb, d9 a7, h7]; exact (ld1 Tryd.isAgg3 (I.at1 (o := 2) (vs := [(vi O5.fbad)]) (nb rfl) rfl)))) ?_
   refine a6 (Pu.g fun hb => by have a7 := hb; first | exact (c8 _ _ _ _ _ _) | (simp only [a8 a7]; exact (c8 _ _ _ _ _ _)) | (simp only [b8 a7, a8 a7, a8 hb, d9 a7, h7]; exact (c8 _ _ _ _ _ _))) ?_
   refine a6 (p1 _ _) ?_
   refine m5 (fun a6c => ?_) (fun a6c => ?_)
   ·replace h := h.1 a6c
    refine a6 a0W ?_
    refine c5 (ld1 Tryd.isAgg31 ((I.bring 1).at1 (o := 3) (vs := [(vs x1.p5)]) (nb rfl) rfl)) ?_
    obtain ⟨e0z, e0A, b6b, a7B, h⟩ := h
    obtain ⟨h1W, h1X, b4i, a7B⟩ := a7B
    refine a6 (a5I b4i _ _ _ _ e0z e0A) ?_
    refine c5 (ldA (vs := (g7 b6b)) Tryd.isAgg33 Tryd.sizeOf33 rfl (I.atH a7B)) ?_
    refine a6 (o4 _ _ _ _ _ _) ?_
    refine f7 (cap := []) (fun args w => Tryd.call61 args w) ?_
    refine m2 (Fi := [bx g0 99 (d7 O5)]) (Fr := [bx g_2 33 (g7 x1)]) I (h g0) (fun h1Y c0u h1Z Q2 e0B d3h h2a e0C => ?_) (fun _ _ _ _ _ q => q.elim)
    obtain ⟨b6c, rfl, rfl, h⟩ := e0C
    refine a6 (o4 _ _ _ _ _ _) ?_
    exact hn2 _ _ _ (hm2 _ _ h).2 ⟨((IntKind.wrap .i64 (a1m + 1)), b6c), c0u, rfl, rfl, ((e0B.bring 1).bring 1), (hm2 _ _ h).1⟩
   ·replace h := h.2 a6c
    exact hR O5 H _ (I.bring 1).drop h
  refine o3 fun j1 hx1 => ?_
  obtain ⟨b6i, a9i, d3r, d3s⟩ := h
  refine t6 (J := fun n l w => ∃ (s : Int × b7) (H : Hp) , n = a9i s ∧ l = (match s with | (M0, a4V) => [(vi M0)]) ∧ (match s with | (M0, a4V) => Inv w0 ps0 H0 H [bx g0 99 (d7 a4V), bx g_2 33 (g7 x1)] w) ∧ b6i s H) ⟨_, (0, M4), H_6, rfl, rfl, ((I_8.bring 1).bring 1), d3r⟩ ?_
  rintro g6T τ_112 w next3 ⟨⟨M0, a4V⟩, H, rfl, b1s, I, d3t⟩ hn3
  dsimp only at b1s I
  simp only [List.map_cons, List.map_nil, List.cons.injEq, and_true] at b1s
  have e6 := b1s
  simp only [e6]
  obtain ⟨n3, hm3, h⟩ : ∃ n3 : (Int × b7) → Hp → Prop, (∀ s' H', n3 s' H' → b6i s' H' ∧ a9i s' < a9i (M0, a4V)) ∧ S4 x2 x1 M0 a4V H n3 K := ⟨_, fun _ _ h => h, d3s (M0, a4V) H (fun s' H' => b6i s' H' ∧ a9i s' < a9i (M0, a4V)) d3t (fun _ _ a b => ⟨a, b⟩)⟩
  unfold d6N
  unfold S4 at h
  refine a6 a0V ?_
  refine c5 (ld1 Tryd.isAgg28 ((I.bring 1).at1 (o := 2) (vs := [(vs x1.g5)]) (nb rfl) rfl)) ?_
  refine a6 (G2 _ _ _) ?_
  refine a6 (p6 _ _ _ _ _ _) ?_
  try simp only [o6]
  refine a6 (Pu.g fun hb => by have a7 := hb; first | exact (m1 _) | (simp only [a8 a7]; exact (m1 _)) | (simp only [b8 a7, a8 a7, a8 hb, d9 a7, h7]; exact (m1 _))) ?_
  refine a6 (Pu.g fun hb => by have a7 := hb; first | exact y6 | (simp only [a8 a7]; exact y6) | (simp only [b8 a7, a8 a7, a8 hb, d9 a7, h7]; exact y6)) ?_
  refine c5 (Ld.g fun hb => by have a7 := hb; first | exact (ld1 Tryd.isAgg3 (I.at1 (o := 2) (vs := [(vi a4V.fbad)]) (nb rfl) rfl)) | (simp only [a8 a7]; exact (ld1 Tryd.isAgg3 (I.at1 (o := 2) (vs := [(vi a4V.fbad)]) (nb rfl) rfl))) | (simp only [b8 a7, a8 a7, a8 hb, d9 a7, h7]; exact (ld1 Tryd.isAgg3 (I.at1 (o := 2) (vs := [(vi a4V.fbad)]) (nb rfl) rfl)))) ?_
  refine a6 (Pu.g fun hb => by have a7 := hb; first | exact (c8 _ _ _ _ _ _) | (simp only [a8 a7]; exact (c8 _ _ _ _ _ _)) | (simp only [b8 a7, a8 a7, a8 hb, d9 a7, h7]; exact (c8 _ _ _ _ _ _))) ?_
  refine a6 (p1 _ _) ?_
  refine m5 (fun b6j => ?_) (fun b6j => ?_)
  ·replace h := h.1 b6j
   refine a6 a0V ?_
   refine c5 (ld1 Tryd.isAgg28 ((I.bring 1).at1 (o := 2) (vs := [(vs x1.g5)]) (nb rfl) rfl)) ?_
   obtain ⟨c7B, b5M, b4j, b6k, h⟩ := h
   obtain ⟨h2h, h2i, c7O, b6k⟩ := b6k
   refine a6 (a2u c7O _ _ _ _ c7B b5M) ?_
   refine c5 (ldA (vs := (f6 b4j)) Tryd.isAgg30 Tryd.sizeOf30 rfl (I.atH b6k)) ?_
   refine a6 (o4 _ _ _ _ _ _) ?_
   refine f7 (cap := []) (fun args w => Tryd.call58 args w) ?_
   refine m2 (Fi := [bx g0 99 (d7 a4V)]) (Fr := [bx g_2 33 (g7 x1)]) I (h g0) (fun h5g e0H h5h a4D h2j h5i h5j g6U => ?_) (fun _ _ _ _ _ q => q.elim)
   obtain ⟨c7N, rfl, rfl, h⟩ := g6U
   refine a6 (o4 _ _ _ _ _ _) ?_
   exact hn3 _ _ _ (hm3 _ _ h).2 ⟨((IntKind.wrap .i64 (M0 + 1)), c7N), e0H, rfl, rfl, ((h2j.bring 1).bring 1), (hm3 _ _ h).1⟩
  ·replace h := h.2 b6j
   exact hx1 _ _ (hj1 a4V H _ ((I.bring 1).bring 1) h)
theorem a9y (x0 : b7) (x1 : m8) (x2 : Int) {H : Hp} {K : b7 → Hp → Prop} (h : X8 x0 x1 x2 H K) : W9 x0 x1 x2 H K := by
 intro g0 w I
 refine f0H ?_
 refine a9g x0 x1 x2 g0 I (fun y0 H' w' I' hk => ⟨H', _, I', y0, rfl, rfl, hk⟩) h
def N6 (a0Q : Bool) (e3M : Int) (b8R : Bool) (cr_6j1 : A0) (_cr_1j1 : N8) (H : Hp) (K : Bool → Hp → Prop) : Prop :=
 (b8R = true →
 K (a0Q && (decide (cr_6j1.fexprs = 0 ∧ cr_6j1.fconds = 1))) H) ∧
 (b8R = false →
 (e3M = 7 →
 K (a0Q && (decide (cr_6j1.fexprs = 0 ∧ cr_6j1.fconds = 0))) H) ∧
 (¬ (e3M = 7) →
 K false H))
def a2o (x0 : N8) (H : Hp) (K : Bool → Hp → Prop) : Prop :=
 (x0.d4.c6 = 1 →
 K ((!(decide (0 < (IntKind.wrap .i64 ((x0.d4.A9.n : Int) + (x0.d4.y8.n : Int)))))) && (decide ((x0.d4.g5.n : Int) = 1 ∧ (x0.d4.m4.n : Int) = 0))) H) ∧
 (¬ (x0.d4.c6 = 1) →
 (x0.d4.c6 = 2 →
 K ((!(decide (0 < (IntKind.wrap .i64 ((x0.d4.A9.n : Int) + (x0.d4.y8.n : Int)))))) && (decide ((x0.d4.g5.n : Int) = 2 ∧ (x0.d4.m4.n : Int) = 0))) H) ∧
 (¬ (x0.d4.c6 = 2) →
 (x0.d4.c6 = 3 →
 K ((decide (x0.d4.f5 = ⟨#[]⟩)) && (decide ((x0.d4.g5.n : Int) = 0 ∧ (x0.d4.m4.n : Int) = 1))) H) ∧
 (¬ (x0.d4.c6 = 3) →
 (x0.d4.c6 = 4 →
 K (((decide (x0.d4.f5 = ⟨#[]⟩)) && (decide ((x0.d4.y8.n : Int) = 0))) && (decide ((x0.d4.g5.n : Int) = 0 ∧ (x0.d4.m4.n : Int) = 1))) H) ∧
 (¬ (x0.d4.c6 = 4) →
 (x0.d4.c6 = 5 →
 N6 ((decide (x0.d4.f5 = ⟨#[]⟩)) && (!(decide (0 < (IntKind.wrap .i64 ((x0.d4.A9.n : Int) + (x0.d4.y8.n : Int))))))) x0.d4.c6 (decide (x0.d4.c6 = 5)) (A0.mk (x0.d4.g5.n : Int) (x0.d4.m4.n : Int)) x0 H K) ∧
 (¬ (x0.d4.c6 = 5) →
 N6 ((decide (x0.d4.f5 = ⟨#[]⟩)) && (!(decide (0 < (IntKind.wrap .i64 ((x0.d4.A9.n : Int) + (x0.d4.y8.n : Int))))))) x0.d4.c6 (decide (x0.d4.c6 = 6)) (A0.mk (x0.d4.g5.n : Int) (x0.d4.m4.n : Int)) x0 H K)))))
theorem b2X (x0 : N8) {w0 w : World} {ps0 : Nat → Prop} {H0 H : Hp} {K : Bool → Hp → Prop} {R : Value → World → Prop} {E : Pan} (I : Inv w0 ps0 H0 H [] w) (hR : ∀ (r0 : Bool) (H' : Hp) (w' : World) (_ : Inv w0 ps0 H0 H' [] w') (_ : K r0 H'), R (Value.bool r0) w') (h : a2o x0 H K) : d2s (Value.agg (d8 x0.d4).toArray) w R E := by
 unfold a2o at h
 unfold d2s
 refine K2 I (cs := (d8 x0.d4)) rfl fun g_2 w_3 I_4 k_5 => ?_
 refine a6 G5 ?_
 refine a6 a1F ?_
 refine c5 (ld1 Tryd.isAgg23 (I_4.at1 (o := 4) (vs := [(vs x0.d4.A9)]) (nb rfl) rfl)) ?_
 refine a6 (M5 _ _ _) ?_
 refine a6 G5 ?_
 refine a6 W5 ?_
 refine c5 (ld1 Tryd.isAgg23 (I_4.at1 (o := 5) (vs := [(vs x0.d4.y8)]) (nb rfl) rfl)) ?_
 refine a6 (M5 _ _ _) ?_
 refine a6 (o4 _ _ _ _ _ _) ?_
 refine a6 (T7 _ _ _ _ _ _) ?_
 refine a6 G5 ?_
 refine a6 a0X ?_
 refine c5 (ld1 Tryd.isAgg28 (I_4.at1 (o := 2) (vs := [(vs x0.d4.g5)]) (nb rfl) rfl)) ?_
 refine a6 (G2 _ _ _) ?_
 refine a6 G5 ?_
 refine a6 a0Y ?_
 refine c5 (ld1 Tryd.isAgg31 (I_4.at1 (o := 3) (vs := [(vs x0.d4.m4)]) (nb rfl) rfl)) ?_
 refine a6 (Q7 _ _ _) ?_
 refine a6 (F8 _ _) ?_
 refine L8 I_4 Tryd.zeroValue213 (cs := [(vi 0), (vi 0)]) rfl fun g_7 w_8 I_9 d2v => ?_
 refine u1 I_9 Tryd.sizeOf213 (vs := [(vi (x0.d4.g5.n : Int)), (vi (x0.d4.m4.n : Int))]) (cs' := [(vi (x0.d4.g5.n : Int)), (vi (x0.d4.m4.n : Int))]) rfl rfl (nb rfl) rfl rfl fun a1j G9 b5A => ?_
 refine a6 G5 ?_
 refine a6 a4P ?_
 refine c5 (ld1 Tryd.isAgg9 ((G9.bring 1).at1 (o := 1) (vs := [(Value.string x0.d4.f5)]) (nb rfl) rfl)) ?_
 refine a6 (L3 _ _ _ _ _) ?_
 try simp only [o6]
 refine a6 (Pu.g fun hb => by have a7 := hb; first | exact (L2 _) | (simp only [a8 a7]; exact (L2 _)) | (simp only [b8 a7, a8 a7, a8 hb, d9 a7, h7]; exact (L2 _))) ?_
 refine a6 (p1 _ _) ?_
 refine a6 G5 ?_
 refine a6 C1 ?_
 refine c5 (ld1 Tryd.isAgg3 ((G9.bring 1).at1 (o := 0) (vs := [(vi x0.d4.c6)]) (nb rfl) rfl)) ?_
 refine a6 (c8 _ _ _ _ _ _) ?_
 refine g8 (fun b2p => ?_) (fun b2p => ?_)
 ·replace h := h.1 b2p
  refine a6 (L2 _) ?_
  refine c5 (Ld.g fun hb => by have a7 := hb; first | exact (ldA Tryd.isAgg213 Tryd.sizeOf213 rfl (G9.at1 (o := 0) (vs := [(vi (x0.d4.g5.n : Int)), (vi (x0.d4.m4.n : Int))]) (nb rfl) rfl)) | (simp only [b8 a7, a8 a7, a8 hb, r9 a7]; exact (ldA Tryd.isAgg213 Tryd.sizeOf213 rfl (G9.at1 (o := 0) (vs := [(vi (x0.d4.g5.n : Int)), (vi (x0.d4.m4.n : Int))]) (nb rfl) rfl))) | (simp only [b8 a7, a8 a7, a8 hb, d9 a7, h7]; exact (ldA Tryd.isAgg213 Tryd.sizeOf213 rfl (G9.at1 (o := 0) (vs := [(vi (x0.d4.g5.n : Int)), (vi (x0.d4.m4.n : Int))]) (nb rfl) rfl)))) ?_
  refine a6 (Pu.g fun hb => by have a7 := hb; first | exact (F8 _ _) | (simp only [b8 a7, a8 a7, a8 hb, r9 a7]; exact (F8 _ _)) | (simp only [b8 a7, a8 a7, a8 hb, d9 a7, h7]; exact (F8 _ _))) ?_
  refine a6 (Pu.g fun hb => by have a7 := hb; first | exact (P9 _ _ _ _ _ _) | (simp only [a8 a7]; exact (P9 _ _ _ _ _ _)) | (simp only [b8 a7, a8 a7, a8 hb, d9 a7, h7]; exact (P9 _ _ _ _ _ _))) ?_
  refine a6 (p1 _ _) ?_
  exact hR ((!(decide (0 < (IntKind.wrap .i64 ((x0.d4.A9.n : Int) + (x0.d4.y8.n : Int)))))) && (decide ((x0.d4.g5.n : Int) = 1 ∧ (x0.d4.m4.n : Int) = 0))) H _ G9.drop.drop h
 ·replace h := h.2 b2p
  refine a6 (c8 _ _ _ _ _ _) ?_
  refine g8 (fun b2q => ?_) (fun b2q => ?_)
  ·replace h := h.1 b2q
   refine a6 (L2 _) ?_
   refine c5 (Ld.g fun hb => by have a7 := hb; first | exact (ldA Tryd.isAgg213 Tryd.sizeOf213 rfl (G9.at1 (o := 0) (vs := [(vi (x0.d4.g5.n : Int)), (vi (x0.d4.m4.n : Int))]) (nb rfl) rfl)) | (simp only [b8 a7, a8 a7, a8 hb, r9 a7]; exact (ldA Tryd.isAgg213 Tryd.sizeOf213 rfl (G9.at1 (o := 0) (vs := [(vi (x0.d4.g5.n : Int)), (vi (x0.d4.m4.n : Int))]) (nb rfl) rfl))) | (simp only [b8 a7, a8 a7, a8 hb, d9 a7, h7]; exact (ldA Tryd.isAgg213 Tryd.sizeOf213 rfl (G9.at1 (o := 0) (vs := [(vi (x0.d4.g5.n : Int)), (vi (x0.d4.m4.n : Int))]) (nb rfl) rfl)))) ?_
   refine a6 (Pu.g fun hb => by have a7 := hb; first | exact (F8 _ _) | (simp only [b8 a7, a8 a7, a8 hb, r9 a7]; exact (F8 _ _)) | (simp only [b8 a7, a8 a7, a8 hb, d9 a7, h7]; exact (F8 _ _))) ?_
   refine a6 (Pu.g fun hb => by have a7 := hb; first | exact (P9 _ _ _ _ _ _) | (simp only [a8 a7]; exact (P9 _ _ _ _ _ _)) | (simp only [b8 a7, a8 a7, a8 hb, d9 a7, h7]; exact (P9 _ _ _ _ _ _))) ?_
   refine a6 (p1 _ _) ?_
   exact hR ((!(decide (0 < (IntKind.wrap .i64 ((x0.d4.A9.n : Int) + (x0.d4.y8.n : Int)))))) && (decide ((x0.d4.g5.n : Int) = 2 ∧ (x0.d4.m4.n : Int) = 0))) H _ G9.drop.drop h
  ·replace h := h.2 b2q
   refine a6 (c8 _ _ _ _ _ _) ?_
   refine g8 (fun a5V => ?_) (fun a5V => ?_)
   ·replace h := h.1 a5V
    refine a6 G5 ?_
    refine a6 a4P ?_
    refine c5 (ld1 Tryd.isAgg9 ((G9.bring 1).at1 (o := 1) (vs := [(Value.string x0.d4.f5)]) (nb rfl) rfl)) ?_
    refine a6 (L3 _ _ _ _ _) ?_
    refine c5 (Ld.g fun hb => by have a7 := hb; first | exact (ldA Tryd.isAgg213 Tryd.sizeOf213 rfl (G9.at1 (o := 0) (vs := [(vi (x0.d4.g5.n : Int)), (vi (x0.d4.m4.n : Int))]) (nb rfl) rfl)) | (simp only [b8 a7, a8 a7, a8 hb, r9 a7]; exact (ldA Tryd.isAgg213 Tryd.sizeOf213 rfl (G9.at1 (o := 0) (vs := [(vi (x0.d4.g5.n : Int)), (vi (x0.d4.m4.n : Int))]) (nb rfl) rfl))) | (simp only [b8 a7, a8 a7, a8 hb, d9 a7, h7]; exact (ldA Tryd.isAgg213 Tryd.sizeOf213 rfl (G9.at1 (o := 0) (vs := [(vi (x0.d4.g5.n : Int)), (vi (x0.d4.m4.n : Int))]) (nb rfl) rfl)))) ?_
    refine a6 (Pu.g fun hb => by have a7 := hb; first | exact (F8 _ _) | (simp only [b8 a7, a8 a7, a8 hb, r9 a7]; exact (F8 _ _)) | (simp only [b8 a7, a8 a7, a8 hb, d9 a7, h7]; exact (F8 _ _))) ?_
    refine a6 (Pu.g fun hb => by have a7 := hb; first | exact (P9 _ _ _ _ _ _) | (simp only [a8 a7]; exact (P9 _ _ _ _ _ _)) | (simp only [b8 a7, a8 a7, a8 hb, d9 a7, h7]; exact (P9 _ _ _ _ _ _))) ?_
    refine a6 (p1 _ _) ?_
    exact hR ((decide (x0.d4.f5 = ⟨#[]⟩)) && (decide ((x0.d4.g5.n : Int) = 0 ∧ (x0.d4.m4.n : Int) = 1))) H _ G9.drop.drop h
   ·replace h := h.2 a5V
    refine a6 (c8 _ _ _ _ _ _) ?_
    refine g8 (fun a4k => ?_) (fun a4k => ?_)
    ·replace h := h.1 a4k
     refine a6 G5 ?_
     refine a6 a4P ?_
     refine c5 (ld1 Tryd.isAgg9 ((G9.bring 1).at1 (o := 1) (vs := [(Value.string x0.d4.f5)]) (nb rfl) rfl)) ?_
     refine a6 (L3 _ _ _ _ _) ?_
     refine a6 (Pu.g fun hb => by have a7 := hb; first | exact G5 | (simp only [b8 a7, a8 a7, a8 hb, r9 a7]; exact G5) | (simp only [b8 a7, a8 a7, a8 hb, d9 a7, h7]; exact G5)) ?_
     refine a6 (Pu.g fun hb => by have a7 := hb; first | exact W5 | (simp only [a8 a7]; exact W5) | (simp only [b8 a7, a8 a7, a8 hb, d9 a7, h7]; exact W5)) ?_
     refine c5 (Ld.g fun hb => by have a7 := hb; first | exact (ld1 Tryd.isAgg23 ((G9.bring 1).at1 (o := 5) (vs := [(vs x0.d4.y8)]) (nb rfl) rfl)) | (simp only [a8 a7]; exact (ld1 Tryd.isAgg23 ((G9.bring 1).at1 (o := 5) (vs := [(vs x0.d4.y8)]) (nb rfl) rfl))) | (simp only [b8 a7, a8 a7, a8 hb, d9 a7, h7]; exact (ld1 Tryd.isAgg23 ((G9.bring 1).at1 (o := 5) (vs := [(vs x0.d4.y8)]) (nb rfl) rfl)))) ?_
     refine a6 (Pu.g fun hb => by have a7 := hb; first | exact (M5 _ _ _) | (simp only [a8 a7]; exact (M5 _ _ _)) | (simp only [b8 a7, a8 a7, a8 hb, d9 a7, h7]; exact (M5 _ _ _))) ?_
     refine a6 (Pu.g fun hb => by have a7 := hb; first | exact (c8 _ _ _ _ _ _) | (simp only [a8 a7]; exact (c8 _ _ _ _ _ _)) | (simp only [b8 a7, a8 a7, a8 hb, d9 a7, h7]; exact (c8 _ _ _ _ _ _))) ?_
     refine a6 (p1 _ _) ?_
     refine c5 (Ld.g fun hb => by have a7 := hb; first | exact (ldA Tryd.isAgg213 Tryd.sizeOf213 rfl (G9.at1 (o := 0) (vs := [(vi (x0.d4.g5.n : Int)), (vi (x0.d4.m4.n : Int))]) (nb rfl) rfl)) | (simp only [b8 a7, a8 a7, a8 hb, r9 a7]; exact (ldA Tryd.isAgg213 Tryd.sizeOf213 rfl (G9.at1 (o := 0) (vs := [(vi (x0.d4.g5.n : Int)), (vi (x0.d4.m4.n : Int))]) (nb rfl) rfl))) | (simp only [b8 a7, a8 a7, a8 hb, d9 a7, h7]; exact (ldA Tryd.isAgg213 Tryd.sizeOf213 rfl (G9.at1 (o := 0) (vs := [(vi (x0.d4.g5.n : Int)), (vi (x0.d4.m4.n : Int))]) (nb rfl) rfl)))) ?_
     refine a6 (Pu.g fun hb => by have a7 := hb; first | exact (F8 _ _) | (simp only [b8 a7, a8 a7, a8 hb, r9 a7]; exact (F8 _ _)) | (simp only [b8 a7, a8 a7, a8 hb, d9 a7, h7]; exact (F8 _ _))) ?_
     refine a6 (Pu.g fun hb => by have a7 := hb; first | exact (P9 _ _ _ _ _ _) | (simp only [a8 a7]; exact (P9 _ _ _ _ _ _)) | (simp only [b8 a7, a8 a7, a8 hb, d9 a7, h7]; exact (P9 _ _ _ _ _ _))) ?_
     refine a6 (p1 _ _) ?_
     exact hR (((decide (x0.d4.f5 = ⟨#[]⟩)) && (decide ((x0.d4.y8.n : Int) = 0))) && (decide ((x0.d4.g5.n : Int) = 0 ∧ (x0.d4.m4.n : Int) = 1))) H _ G9.drop.drop h
    ·replace h := h.2 a4k
     have hj1 : ∀ (b8R : Bool) (H : Hp) (w : World) (_ : Inv w0 ps0 H0 H [bx g_7 213 [(vi (A0.mk (x0.d4.g5.n : Int) (x0.d4.m4.n : Int)).fexprs), (vi (A0.mk (x0.d4.g5.n : Int) (x0.d4.m4.n : Int)).fconds)], bx g_2 177 (d8 x0.d4)] w) (_ : N6 ((decide (x0.d4.f5 = ⟨#[]⟩)) && (!(decide (0 < (IntKind.wrap .i64 ((x0.d4.A9.n : Int) + (x0.d4.y8.n : Int))))))) x0.d4.c6 b8R (A0.mk (x0.d4.g5.n : Int) (x0.d4.m4.n : Int)) x0 H K), c3q (Value.pointer (some ⟨g_7, 0, none⟩)) (Value.bool ((decide (x0.d4.f5 = ⟨#[]⟩)) && (!(decide (0 < (IntKind.wrap .i64 ((x0.d4.A9.n : Int) + (x0.d4.y8.n : Int)))))))) (vi x0.d4.c6) (Value.bool b8R) w R E := by
      intro b8R H w I h
      unfold c3q
      intro _
      unfold N6 at h
      refine m5 (fun a5U => ?_) (fun a5U => ?_)
      ·replace h := h.1 a5U
       refine c5 (Ld.g fun hb => by have a7 := hb; first | exact (ldA Tryd.isAgg213 Tryd.sizeOf213 rfl (I.at1 (o := 0) (vs := [(vi (A0.mk (x0.d4.g5.n : Int) (x0.d4.m4.n : Int)).fexprs), (vi (A0.mk (x0.d4.g5.n : Int) (x0.d4.m4.n : Int)).fconds)]) (nb rfl) rfl)) | (simp only [b8 a7, a8 a7, a8 hb, r9 a7]; exact (ldA Tryd.isAgg213 Tryd.sizeOf213 rfl (I.at1 (o := 0) (vs := [(vi (A0.mk (x0.d4.g5.n : Int) (x0.d4.m4.n : Int)).fexprs), (vi (A0.mk (x0.d4.g5.n : Int) (x0.d4.m4.n : Int)).fconds)]) (nb rfl) rfl))) | (simp only [b8 a7, a8 a7, a8 hb, d9 a7, h7]; exact (ldA Tryd.isAgg213 Tryd.sizeOf213 rfl (I.at1 (o := 0) (vs := [(vi (A0.mk (x0.d4.g5.n : Int) (x0.d4.m4.n : Int)).fexprs), (vi (A0.mk (x0.d4.g5.n : Int) (x0.d4.m4.n : Int)).fconds)]) (nb rfl) rfl)))) ?_
       refine a6 (Pu.g fun hb => by have a7 := hb; first | exact (F8 _ _) | (simp only [b8 a7, a8 a7, a8 hb, r9 a7]; exact (F8 _ _)) | (simp only [b8 a7, a8 a7, a8 hb, d9 a7, h7]; exact (F8 _ _))) ?_
       refine a6 (Pu.g fun hb => by have a7 := hb; first | exact (P9 _ _ _ _ _ _) | (simp only [a8 a7]; exact (P9 _ _ _ _ _ _)) | (simp only [b8 a7, a8 a7, a8 hb, d9 a7, h7]; exact (P9 _ _ _ _ _ _))) ?_
       refine a6 (p1 _ _) ?_
       exact hR (((decide (x0.d4.f5 = ⟨#[]⟩)) && (!(decide (0 < (IntKind.wrap .i64 ((x0.d4.A9.n : Int) + (x0.d4.y8.n : Int))))))) && (decide ((A0.mk (x0.d4.g5.n : Int) (x0.d4.m4.n : Int)).fexprs = 0 ∧ (A0.mk (x0.d4.g5.n : Int) (x0.d4.m4.n : Int)).fconds = 1))) H _ I.drop.drop h
      ·replace h := h.2 a5U
       refine a6 (c8 _ _ _ _ _ _) ?_
       refine g8 (fun b2s => ?_) (fun b2s => ?_)
       ·replace h := h.1 b2s
        refine c5 (Ld.g fun hb => by have a7 := hb; first | exact (ldA Tryd.isAgg213 Tryd.sizeOf213 rfl (I.at1 (o := 0) (vs := [(vi (A0.mk (x0.d4.g5.n : Int) (x0.d4.m4.n : Int)).fexprs), (vi (A0.mk (x0.d4.g5.n : Int) (x0.d4.m4.n : Int)).fconds)]) (nb rfl) rfl)) | (simp only [b8 a7, a8 a7, a8 hb, r9 a7]; exact (ldA Tryd.isAgg213 Tryd.sizeOf213 rfl (I.at1 (o := 0) (vs := [(vi (A0.mk (x0.d4.g5.n : Int) (x0.d4.m4.n : Int)).fexprs), (vi (A0.mk (x0.d4.g5.n : Int) (x0.d4.m4.n : Int)).fconds)]) (nb rfl) rfl))) | (simp only [b8 a7, a8 a7, a8 hb, d9 a7, h7]; exact (ldA Tryd.isAgg213 Tryd.sizeOf213 rfl (I.at1 (o := 0) (vs := [(vi (A0.mk (x0.d4.g5.n : Int) (x0.d4.m4.n : Int)).fexprs), (vi (A0.mk (x0.d4.g5.n : Int) (x0.d4.m4.n : Int)).fconds)]) (nb rfl) rfl)))) ?_
        refine a6 (Pu.g fun hb => by have a7 := hb; first | exact (b5n ) | (simp only [b8 a7, a8 a7, a8 hb, r9 a7]; exact (b5n )) | (simp only [b8 a7, a8 a7, a8 hb, d9 a7, h7]; exact (b5n ))) ?_
        refine a6 (Pu.g fun hb => by have a7 := hb; first | exact (P9 _ _ _ _ _ _) | (simp only [a8 a7]; exact (P9 _ _ _ _ _ _)) | (simp only [b8 a7, a8 a7, a8 hb, d9 a7, h7]; exact (P9 _ _ _ _ _ _))) ?_
        refine a6 (p1 _ _) ?_
        exact hR (((decide (x0.d4.f5 = ⟨#[]⟩)) && (!(decide (0 < (IntKind.wrap .i64 ((x0.d4.A9.n : Int) + (x0.d4.y8.n : Int))))))) && (decide ((A0.mk (x0.d4.g5.n : Int) (x0.d4.m4.n : Int)).fexprs = 0 ∧ (A0.mk (x0.d4.g5.n : Int) (x0.d4.m4.n : Int)).fconds = 0))) H _ I.drop.drop h
       ·replace h := h.2 b2s
        exact hR false H _ I.drop.drop h
     refine o3 fun j1 hx1 => ?_
     refine a6 (c8 _ _ _ _ _ _) ?_
     refine g8 (fun b2r => ?_) (fun b2r => ?_)
     ·replace h := h.1 b2r
      exact hx1 _ _ (hj1 (decide (x0.d4.c6 = 5)) H _ ((G9.bring 1).bring 1) h)
     ·replace h := h.2 b2r
      refine a6 (c8 _ _ _ _ _ _) ?_
      exact hx1 _ _ (hj1 (decide (x0.d4.c6 = 6)) H _ ((G9.bring 1).bring 1) h)
theorem b3D (x0 : N8) {H : Hp} {K : Bool → Hp → Prop} (h : a2o x0 H K) : a4G x0 H K := by
 intro w I
 refine e6T ?_
 refine b2X x0 I (fun r0 H' w' I' hk => ⟨H', _, I', r0, rfl, rfl, hk⟩) h
def a1T (x0 : N8) (H : Hp) (K : Sl → Hp → Prop) : Prop :=
 C4 x0.d4.m4 H (fun (a8S : Sl) (H_8 : Hp) =>
 v7 x0.d4.g5 H_8 (fun (a8T : Sl) (b7O : Hp) =>
 v6 x0.d4.A9 b7O (fun (d3u : Sl) (f6E : Hp) =>
 v6 x0.d4.y8 f6E (fun (d3v : Sl) (a4n : Hp) =>
 ∀ (c3O : Sl) (b7Y : Hp), Hle a4n b7Y → SlH b7Y 1 csl c3O [a8S, a8T, d3u, d3v] → c3O.n ≤ c3O.c →
 B9 c3O b7Y (fun (d3w : Sl) (e0I : Hp) =>
 K d3w e0I)))))
theorem b1t (x0 : N8) {w0 w : World} {ps0 : Nat → Prop} {H0 H : Hp} {K : Sl → Hp → Prop} {R : Value → World → Prop} {E : Pan} (I : Inv w0 ps0 H0 H [] w) (hR : ∀ (r0 : Sl) (H' : Hp) (w' : World) (_ : Inv w0 ps0 H0 H' [] w') (_ : K r0 H'), R (vs r0) w') (h : a1T x0 H K) : d2u (Value.agg (d8 x0.d4).toArray) w R E := by
 unfold a1T at h
 unfold d2u
 refine K2 I (cs := (d8 x0.d4)) rfl fun g_2 w_3 I_4 k_5 => ?_
 refine a5F I_4 fun w_6 I_7 => ?_
 refine q8 G5 ?_
 refine q8 a0Y ?_
 refine q8 G5 ?_
 refine q8 a0X ?_
 refine q8 G5 ?_
 refine q8 a1F ?_
 refine q8 G5 ?_
 refine q8 W5 ?_
 refine M2 (ld1 Tryd.isAgg31 (I_7.at1 (o := 3) (vs := [(vs x0.d4.m4)]) (nb rfl) rfl)) ?_
 refine M2 (ld1 Tryd.isAgg28 (I_7.at1 (o := 2) (vs := [(vs x0.d4.g5)]) (nb rfl) rfl)) ?_
 refine M2 (ld1 Tryd.isAgg23 (I_7.at1 (o := 4) (vs := [(vs x0.d4.A9)]) (nb rfl) rfl)) ?_
 refine M2 (ld1 Tryd.isAgg23 (I_7.at1 (o := 5) (vs := [(vs x0.d4.y8)]) (nb rfl) rfl)) ?_
 refine f7 (cap := []) (fun args w => Tryd.call154 args w) ?_
 refine m2 (Fi := []) (Fr := [bx g_2 177 (d8 x0.d4)]) I_7 (h) (fun f5Z H_8 f6a w_9 b5F b7P b9O c7h => ?_) (fun _ _ _ _ _ q => q.elim)
 obtain ⟨a8S, rfl, rfl, h⟩ := c7h
 refine ⟨(b9O _ I_7.lt1 (Inv.a8D (Fi := []) I_7)), (b9O _ I_7.lt1 (Inv.a8D (Fi := []) I_7)), (b9O _ I_7.lt1 (Inv.a8D (Fi := []) I_7)), ?_⟩
 refine f7 (cap := []) (fun args w => Tryd.call150 args w) ?_
 refine m2 (Fi := []) (Fr := [bx g_2 177 (d8 x0.d4)]) b5F (h) (fun f6b b7O d2z r5 b2x f6c c3u c7i => ?_) (fun _ _ _ _ _ q => q.elim)
 obtain ⟨a8T, rfl, rfl, h⟩ := c7i
 refine ⟨(c3u _ b5F.lt1 (Inv.a8D (Fi := []) b5F)), (c3u _ b5F.lt1 (Inv.a8D (Fi := []) b5F)), ?_⟩
 refine f7 (cap := []) (fun args w => Tryd.call97 args w) ?_
 refine m2 (Fi := []) (Fr := [bx g_2 177 (d8 x0.d4)]) b2x (h) (fun h8m f6E h8n a7U a8l e0J e0K h2k => ?_) (fun _ _ _ _ _ q => q.elim)
 obtain ⟨d3u, rfl, rfl, h⟩ := h2k
 refine ⟨(e0K _ b2x.lt1 (Inv.a8D (Fi := []) b2x)), ?_⟩
 refine f7 (cap := []) (fun args w => Tryd.call97 args w) ?_
 refine m2 (Fi := []) (Fr := [bx g_2 177 (d8 x0.d4)]) a8l (h) (fun h8o a4n h8p C9 h2l h8q h8r h2m => ?_) (fun _ _ _ _ _ q => q.elim)
 obtain ⟨d3v, rfl, rfl, h⟩ := h2m
 refine a5G (e := 97) (c := csl) (xs := [a8S, a8T, d3u, d3v]) h2l (d9x _ _ _ _ _ _ _ _ _ _ _ _) rfl rfl c4Y c4Z (nb rfl) fun c3O h8s a9R c7P b5K d2L => ?_
 obtain ⟨b7Y, b0U, d3x, c0r, c7Q⟩ := Inv.freezeC b5K c7P (by decide)
 replace h := h c3O b7Y d3x c0r c7Q
 refine f7 (cap := []) (fun args w => Tryd.call94 args w) ?_
 refine m2 (Fi := []) (Fr := [bx g_2 177 (d8 x0.d4)]) b0U (h) (fun h8t e0I h8u b9E h2n d2K h8v h2o => ?_) (fun _ _ _ _ _ q => q.elim)
 obtain ⟨d3w, rfl, rfl, h⟩ := h2o
 exact hR d3w e0I _ h2n.drop h
theorem b2Y (x0 : N8) {H : Hp} {K : Sl → Hp → Prop} (h : a1T x0 H K) : a6W x0 H K := by
 intro w I
 refine e6V ?_
 refine b1t x0 I (fun r0 H' w' I' hk => ⟨H', _, I', r0, rfl, rfl, hk⟩) h
end Go.Proofs.YthldnpmfelniiaaDoor
