/- Typed formulas of the program's functions, and the theorems that the contracts follow from them; printed by lift.py off the code. -/
import Derived.Test.YthldnpmfelniiaaDoorCV1
namespace Go.Proofs.YthldnpmfelniiaaDoor
open Go.RowKit
set_option maxRecDepth 100000
set_option maxHeartbeats 2000000
def A5 (a1l : (List c8)) (H : Hp) (K : Sl → Hp → Prop) : Prop :=
 ∀ (I4 : Sl) (a1V : Hp), Hle H a1V → SlH a1V 1 o8 I4 a1l → I4.n ≤ I4.c →
 K I4 a1V
def A6 (a2V : Sl) (a7W : Int) (w3 : (List c8)) (t8 : Int) (H : Hp) (n2 : ((List c8) × Int) → Hp → Prop) (K : Sl → Hp → Prop) : Prop :=
 (t8 < a7W →
 (0 : Int) ≤ t8 ∧ (t8 : Int) < a2V.n ∧ ∃ x_1 : B8, EltH H a2V t8 2 (p7 x_1) ∧
 a7Q x_1 H (fun (W1 : c8) (a1W : Hp) =>
 (w3.length + ([W1] : List c8).length) * 17 ≤ 140737488355328 ∧
 n2 ((w3 ++ [W1]), (IntKind.wrap .i64 (t8 + 1))) a1W)) ∧
 (¬ (t8 < a7W) →
 A5 w3 H K)
def B7 (x0 : Sl) (H : Hp) (K : Sl → Hp → Prop) : Prop :=
 TL (([], 0) : (List c8) × Int) H fun (s : (List c8) × Int) H n2 => A6 x0 (x0.n : Int) s.1 s.2 H n2 K
theorem a1P (x0 : Sl) {w0 w : World} {ps0 : Nat → Prop} {H0 H : Hp} {K : Sl → Hp → Prop} {R : Value → World → Prop} {E : Pan} (I : Inv w0 ps0 H0 H [] w) (hR : ∀ (r0 : Sl) (H' : Hp) (w' : World) (_ : Inv w0 ps0 H0 H' [] w') (_ : K r0 H'), R (vs r0) w') (h : B7 x0 H K) : F95 (vs x0) (Value.func (.func 96) #[] #[]) w R E := by
 unfold B7 at h
 unfold F95
 have hj1 : ∀ (a1l : (List c8)) (I4 : Sl) (Fs5j1 : Frag) (H : Hp) (w : World) (_ : RowL 141 1 o8 I4 a1l Fs5j1) (_ : Inv w0 ps0 H0 H [Fs5j1] w) (_ : A5 a1l H K), c4s (vs I4) w R E := by
  intro a1l I4 Fs5j1 H w b4r I h
  unfold c4s
  intro _
  unfold A5 at h
  obtain ⟨a1V, a4t, b6E, b8r, b1C⟩ := Inv.freezeC I b4r (by decide)
  replace h := h I4 a1V b6E b8r b1C
  exact hR I4 a1V _ a4t h
 refine p9 fun j1 hx1 => ?_
 refine a7 (a5K _ _ _) ?_
 obtain ⟨a6V, a3B, b8s, a4u⟩ := h
 refine v6 (J := fun n l w => ∃ (s : (List c8) × Int) (H : Hp) (a1m : Sl) (Fs5l2 : Frag) , n = a3B s ∧ l = (match s with | (w3, t8) => [(vs a1m), (vi t8)]) ∧ (match s with | (w3, t8) => RowL 141 1 o8 a1m w3 Fs5l2) ∧ (match s with | (w3, t8) => Inv w0 ps0 H0 H [Fs5l2] w) ∧ a6V s H) ⟨_, ([], 0), H, (Sl.mk none 0 0), [], rfl, rfl, (RowL.nil L6 P5), I.nil, b8s⟩ ?_
 rintro d5j τ_50 w next2 ⟨⟨w3, t8⟩, H, a1m, Fs5l2, rfl, a6W, a5k, I, b8t⟩ hn2
 dsimp only at a6W I a5k
 simp only [List.map_cons, List.map_nil, List.cons.injEq, and_true] at a6W
 obtain ⟨e5, e10⟩ := a6W
 simp only [e5, e10]
 obtain ⟨n2, hm2, h⟩ : ∃ n2 : ((List c8) × Int) → Hp → Prop, (∀ s' H', n2 s' H' → a6V s' H' ∧ a3B s' < a3B (w3, t8)) ∧ A6 x0 (x0.n : Int) w3 t8 H n2 K := ⟨_, fun _ _ h => h, a4u (w3, t8) H (fun s' H' => a6V s' H' ∧ a3B s' < a3B (w3, t8)) b8t (fun _ _ a b => ⟨a, b⟩)⟩
 unfold d3h
 unfold A6 at h
 refine a7 (r8 _ _ _ _ _ _) ?_
 refine g9 (fun a5l => ?_) (fun a5l => ?_)
 ·replace h := h.1 a5l
  obtain ⟨h_4, h_5, x_1, h_7, h⟩ := h
  obtain ⟨g_2, o_3, h_6, h_7⟩ := h_7
  refine a7 (a3u h_6 _ _ _ _ h_4 h_5) ?_
  refine c7 (ldA (vs := (p7 x_1)) Tryd.isAgg67 Tryd.sizeOf67 rfl (I.atH h_7)) ?_
  refine L5 I Tryd.zeroValue67 (cs := [(Value.string ⟨#[]⟩), (vi 0)]) rfl fun g_9 m1 a0Y a8S => ?_
  refine u1 a0Y Tryd.sizeOf67 (vs := (p7 x_1)) (cs' := (p7 x_1)) rfl rfl (nb rfl) rfl rfl fun V5 T2 b2T => ?_
  refine c7 (ldA Tryd.isAgg67 Tryd.sizeOf67 rfl (T2.at1 (o := 0) (vs := (p7 x_1)) (nb rfl) rfl)) ?_
  refine f8 (cap := []) (fun args w => Tryd.call96 args w) ?_
  refine i6 (Fi := []) (Fr := [bx g_9 67 (p7 x_1), Fs5l2]) T2 (h) (fun c9B a1W c9C a5c a4v c9D c1C b4s => ?_) (fun _ _ _ _ _ q => q.elim)
  obtain ⟨W1, rfl, rfl, h⟩ := b4s
  refine a6l (e := 141) (c := o8) (xs := [W1]) a4v (b3l _) rfl rfl L6 P5 (nb rfl) fun b4t b8u v8 b1D a4s b6C => ?_
  obtain ⟨b4u, h⟩ := h
  refine b5M (s := a1m) (xs := w3) (a4s.bring 2) a5k (b1D.srcO ((a4s.bring 2).bring 1)) b4u fun b8v b4q A8 a8U a9Q c9E => ?_
  refine a7 (q8 _ _ _ _ _ _) ?_
  exact hn2 _ _ _ (hm2 _ _ h).2 ⟨((w3 ++ [W1]), (IntKind.wrap .i64 (t8 + 1))), a1W, b8v, b4q, rfl, rfl, a8U, ((a9Q.bring 1).drop.bring 1).drop, (hm2 _ _ h).1⟩
 ·replace h := h.2 a5l
  exact hx1 _ _ (hj1 w3 a1m Fs5l2 H _ a5k I h)
theorem a2i (x0 : Sl) {H : Hp} {K : Sl → Hp → Prop} (h : B7 x0 H K) : G9 x0 H K := by
 intro w I
 refine e7V ?_
 refine a1P x0 I (fun r0 H' w' I' hk => ⟨H', _, I', r0, rfl, rfl, hk⟩) h
def a4k (x0 : c8) (H : Hp) (K : ByteArray → Bool → Hp → Prop) : Prop :=
 (x0.a8L = true →
 K ((((x0.Y5)).P2).g7) true H) ∧
 (x0.a8L = false →
 (x0.a8M = true →
 K ((((x0.h7)).d8).g7) ((decide (((((x0.h7)).d8).b9) = 1)) || (decide (((((x0.h7)).d8).b9) = 2))) H) ∧
 (x0.a8M = false →
 (x0.a8K = true →
 K ((((x0.q6)).m0).g7) ((decide (((((x0.q6)).m0).b9) = 2)) || (decide (((((x0.q6)).m0).b9) = 4))) H) ∧
 (x0.a8K = false →
 K ⟨#[]⟩ false H)))
theorem b5A (x0 : c8) {w0 w : World} {ps0 : Nat → Prop} {H0 H : Hp} {K : ByteArray → Bool → Hp → Prop} {R : Value → World → Prop} {E : Pan} (I : Inv w0 ps0 H0 H [] w) (hR : ∀ (r0 : ByteArray) (r1 : Bool) (H' : Hp) (w' : World) (_ : Inv w0 ps0 H0 H' [] w') (_ : K r0 r1 H'), R (Value.tuple #[(Value.string r0), (Value.bool r1)]) w') (h : a4k x0 H K) : c8Z (y7 x0) w R E := by
 unfold a4k at h
 unfold c8Z
 refine a7 (c2Q x0) ?_
 refine a7 (v7 _ _ _ rfl) ?_
 refine a7 (v7 _ _ _ rfl) ?_
 refine k9 (fun d6t => ?_) (fun d6t => ?_)
 ·replace h := h.1 d6t
  refine L5 I Tryd.zeroValue175 (cs := [(Value.string ⟨#[]⟩), (vi 0)]) rfl fun g_2 w_3 I_4 k_5 => ?_
  refine u1 I_4 Tryd.sizeOf175 (vs := [(Value.string ((((x0.Y5)).P2).g7)), (vi ((((x0.Y5)).P2).M3))]) (cs' := [(Value.string ((((x0.Y5)).P2).g7)), (vi ((((x0.Y5)).P2).M3))]) rfl rfl (nb rfl) rfl rfl fun w_6 I_7 k_8 => ?_
  refine a7 a6x ?_
  refine a7 b3S ?_
  refine c7 (ld1 Tryd.isAgg9 (I_7.at1 (o := 0) (vs := [(Value.string ((((x0.Y5)).P2).g7))]) (nb rfl) rfl)) ?_
  exact hR ((((x0.Y5)).P2).g7) true H _ I_7.drop h
 ·replace h := h.2 d6t
  refine a7 (c2R x0) ?_
  refine a7 (v7 _ _ _ rfl) ?_
  refine a7 (v7 _ _ _ rfl) ?_
  refine k9 (fun d6u => ?_) (fun d6u => ?_)
  ·replace h := h.1 d6u
   refine L5 I Tryd.zeroValue177 (cs := [(vi 0), (Value.string ⟨#[]⟩), (Value.slice none 0 0), (Value.slice none 0 0), (Value.slice none 0 0), (Value.slice none 0 0)]) rfl fun g3C Y2 G6 b4o => ?_
   refine u1 G6 Tryd.sizeOf177 (vs := [(vi ((((x0.h7)).d8).b9)), (Value.string ((((x0.h7)).d8).g7)), (Value.slice ((((x0.h7)).d8).f9).a ((((x0.h7)).d8).f9).n ((((x0.h7)).d8).f9).c), (Value.slice ((((x0.h7)).d8).k3).a ((((x0.h7)).d8).k3).n ((((x0.h7)).d8).k3).c), (Value.slice ((((x0.h7)).d8).u0).a ((((x0.h7)).d8).u0).n ((((x0.h7)).d8).u0).c), (Value.slice ((((x0.h7)).d8).s7).a ((((x0.h7)).d8).s7).n ((((x0.h7)).d8).s7).c)]) (cs' := [(vi ((((x0.h7)).d8).b9)), (Value.string ((((x0.h7)).d8).g7)), (Value.slice ((((x0.h7)).d8).f9).a ((((x0.h7)).d8).f9).n ((((x0.h7)).d8).f9).c), (Value.slice ((((x0.h7)).d8).k3).a ((((x0.h7)).d8).k3).n ((((x0.h7)).d8).k3).c), (Value.slice ((((x0.h7)).d8).u0).a ((((x0.h7)).d8).u0).n ((((x0.h7)).d8).u0).c), (Value.slice ((((x0.h7)).d8).s7).a ((((x0.h7)).d8).s7).n ((((x0.h7)).d8).s7).c)]) rfl rfl (nb rfl) rfl rfl fun o3 b4B c5d => ?_
   refine a9L b4B fun a5c a4v => ?_
   refine D5 F9 ?_
   refine D5 a0u ?_
   refine D5 F9 ?_
   refine D5 y9 ?_
   refine a1b (ld1 Tryd.isAgg9 (a4v.at1 (o := 1) (vs := [(Value.string ((((x0.h7)).d8).g7))]) (nb rfl) rfl)) ?_
   refine a1b (ld1 Tryd.isAgg3 (a4v.at1 (o := 0) (vs := [(vi ((((x0.h7)).d8).b9))]) (nb rfl) rfl)) ?_
   refine D5 (d6 _ _ _ _ _ _) ?_
   refine D5 (Pu.g fun hb => by have a6 := hb; first | exact F9 | (simp only [b7 a6, a8 a6, a8 hb, a4b a6]; exact F9) | (simp only [b7 a6, a8 a6, a8 hb, v1 a6, d9]; exact F9)) ?_
   refine D5 (Pu.g fun hb => by have a6 := hb; first | exact y9 | (simp only [a8 a6]; exact y9) | (simp only [b7 a6, a8 a6, a8 hb, v1 a6, d9]; exact y9)) ?_
   refine e3q (p := (Value.pointer (some ⟨g3C, 0, none⟩))) rfl (Ld.g fun hb => by have a6 := hb; first | exact (ld1 Tryd.isAgg3 (a4v.at1 (o := 0) (vs := [(vi ((((x0.h7)).d8).b9))]) (nb rfl) rfl)) | (simp only [a8 a6]; exact (ld1 Tryd.isAgg3 (a4v.at1 (o := 0) (vs := [(vi ((((x0.h7)).d8).b9))]) (nb rfl) rfl))) | (simp only [b7 a6, a8 a6, a8 hb, v1 a6, d9]; exact (ld1 Tryd.isAgg3 (a4v.at1 (o := 0) (vs := [(vi ((((x0.h7)).d8).b9))]) (nb rfl) rfl)))) ?_
   refine D5 (Pu.g fun hb => by have a6 := hb; first | exact (d6 _ _ _ _ _ _) | (simp only [a8 a6]; exact (d6 _ _ _ _ _ _)) | (simp only [b7 a6, a8 a6, a8 hb, v1 a6, d9]; exact (d6 _ _ _ _ _ _))) ?_
   refine D5 (E1 _ _) ?_
   exact hR ((((x0.h7)).d8).g7) ((decide (((((x0.h7)).d8).b9) = 1)) || (decide (((((x0.h7)).d8).b9) = 2))) H _ a4v.drop h
  ·replace h := h.2 d6u
   refine a7 (c3B x0) ?_
   refine a7 (v7 _ _ _ rfl) ?_
   refine a7 (v7 _ _ _ rfl) ?_
   refine k9 (fun b9g => ?_) (fun b9g => ?_)
   ·replace h := h.1 b9g
    refine L5 I Tryd.zeroValue96 (cs := [(vi 0), (vi 0), (Value.string ⟨#[]⟩), (Value.slice none 0 0)]) rfl fun f1n a0q a1Y b4H => ?_
    refine u1 a1Y Tryd.sizeOf96 (vs := [(vi ((((x0.q6)).m0).b9)), (vi ((((x0.q6)).m0).I3)), (Value.string ((((x0.q6)).m0).g7)), (Value.slice ((((x0.q6)).m0).t1).a ((((x0.q6)).m0).t1).n ((((x0.q6)).m0).t1).c)]) (cs' := [(vi ((((x0.q6)).m0).b9)), (vi ((((x0.q6)).m0).I3)), (Value.string ((((x0.q6)).m0).g7)), (Value.slice ((((x0.q6)).m0).t1).a ((((x0.q6)).m0).t1).n ((((x0.q6)).m0).t1).c)]) rfl rfl (nb rfl) rfl rfl fun r5 a9W g3s => ?_
    refine a9L a9W fun a8Q b6P => ?_
    refine D5 N2 ?_
    refine D5 Y6 ?_
    refine D5 N2 ?_
    refine D5 G1 ?_
    refine a1b (ld1 Tryd.isAgg9 (b6P.at1 (o := 2) (vs := [(Value.string ((((x0.q6)).m0).g7))]) (nb rfl) rfl)) ?_
    refine a1b (ld1 Tryd.isAgg3 (b6P.at1 (o := 0) (vs := [(vi ((((x0.q6)).m0).b9))]) (nb rfl) rfl)) ?_
    refine D5 (d6 _ _ _ _ _ _) ?_
    refine D5 (Pu.g fun hb => by have a6 := hb; first | exact N2 | (simp only [b7 a6, a8 a6, a8 hb, a4b a6]; exact N2) | (simp only [b7 a6, a8 a6, a8 hb, v1 a6, d9]; exact N2)) ?_
    refine D5 (Pu.g fun hb => by have a6 := hb; first | exact G1 | (simp only [a8 a6]; exact G1) | (simp only [b7 a6, a8 a6, a8 hb, v1 a6, d9]; exact G1)) ?_
    refine e3q (p := (Value.pointer (some ⟨f1n, 0, none⟩))) rfl (Ld.g fun hb => by have a6 := hb; first | exact (ld1 Tryd.isAgg3 (b6P.at1 (o := 0) (vs := [(vi ((((x0.q6)).m0).b9))]) (nb rfl) rfl)) | (simp only [a8 a6]; exact (ld1 Tryd.isAgg3 (b6P.at1 (o := 0) (vs := [(vi ((((x0.q6)).m0).b9))]) (nb rfl) rfl))) | (simp only [b7 a6, a8 a6, a8 hb, v1 a6, d9]; exact (ld1 Tryd.isAgg3 (b6P.at1 (o := 0) (vs := [(vi ((((x0.q6)).m0).b9))]) (nb rfl) rfl)))) ?_
    refine D5 (Pu.g fun hb => by have a6 := hb; first | exact (d6 _ _ _ _ _ _) | (simp only [a8 a6]; exact (d6 _ _ _ _ _ _)) | (simp only [b7 a6, a8 a6, a8 hb, v1 a6, d9]; exact (d6 _ _ _ _ _ _))) ?_
    refine D5 (E1 _ _) ?_
    exact hR ((((x0.q6)).m0).g7) ((decide (((((x0.q6)).m0).b9) = 2)) || (decide (((((x0.q6)).m0).b9) = 4))) H _ b6P.drop h
   ·replace h := h.2 b9g
    exact hR ⟨#[]⟩ false H _ I h
theorem b6Q (x0 : c8) {H : Hp} {K : ByteArray → Bool → Hp → Prop} (h : a4k x0 H K) : a2E x0 H K := by
 intro w I
 refine e0i ?_
 refine b5A x0 I (fun r0 r1 H' w' I' hk => ⟨H', _, I', r0, r1, rfl, rfl, hk⟩) h
def a3L (x0 : Int) (H : Hp) (K : Bool → Hp → Prop) : Prop :=
 a3E x0 H (fun (K1 : Int) (H_1 : Hp) =>
 K ((decide (K1 = 3)) || (decide (K1 = 4))) H_1)
theorem b5b (x0 : Int) {w0 w : World} {ps0 : Nat → Prop} {H0 H : Hp} {K : Bool → Hp → Prop} {R : Value → World → Prop} {E : Pan} (I : Inv w0 ps0 H0 H [] w) (hR : ∀ (r0 : Bool) (H' : Hp) (w' : World) (_ : Inv w0 ps0 H0 H' [] w') (_ : K r0 H'), R (Value.bool r0) w') (h : a3L x0 H K) : c9e (Value.int .i32 x0) w R E := by
 unfold a3L at h
 unfold c9e
 refine f8 (cap := []) (fun args w => Tryd.call126 args w) ?_
 refine i6 (Fi := []) (Fr := []) I (h) (fun v_5 H_1 F_6 w_2 I_3 l_8 k_4 q_7 => ?_) (fun _ _ _ _ _ q => q.elim)
 obtain ⟨K1, rfl, rfl, h⟩ := q_7
 refine a7 (d6 _ _ _ _ _ _) ?_
 try simp only [m9]
 refine a7 (Pu.g fun hb => by have a6 := hb; first | exact (d6 _ _ _ _ _ _) | (simp only [a8 a6]; exact (d6 _ _ _ _ _ _)) | (simp only [b7 a6, a8 a6, a8 hb, v1 a6, d9]; exact (d6 _ _ _ _ _ _))) ?_
 refine a7 (E1 _ _) ?_
 exact hR ((decide (K1 = 3)) || (decide (K1 = 4))) H_1 _ I_3 h
theorem b5B (x0 : Int) {H : Hp} {K : Bool → Hp → Prop} (h : a3L x0 H K) : a5y x0 H K := by
 intro w I
 refine e0u ?_
 refine b5b x0 I (fun r0 H' w' I' hk => ⟨H', _, I', r0, rfl, rfl, hk⟩) h
def T8 (H : Hp) (K : Int → Hp → Prop) : Prop :=
 K (-1) H
def T9 (a0z : (List ByteArray)) (a0M : ByteArray) (a5B : Int) (a2V : Int) (H : Hp) (n2 : Int → Hp → Prop) (K : Int → Hp → Prop) : Prop :=
 (a2V < a5B →
 (0 : Int) ≤ a2V ∧ ∃ x_1 : ByteArray, (a0z)[(a2V : Int).toNat]? = some x_1 ∧
 (a0M = x_1 →
 K a2V H) ∧
 (¬ (a0M = x_1) →
 n2 (IntKind.wrap .i64 (a2V + 1)) H)) ∧
 (¬ (a2V < a5B) →
 T8 H K)
def Y8 (x0 : (List ByteArray)) (x1 : ByteArray) (H : Hp) (K : Int → Hp → Prop) : Prop :=
 TL (0 : Int) H fun (s : Int) H n2 => T9 x0 x1 (x0.length : Int) s H n2 K
theorem a8z (x0 : (List ByteArray)) (x1 : ByteArray) (sx0 : Sl) (Fx0 : Frag) (hx0 : RowL 9 1 s8 sx0 x0 Fx0) {w0 w : World} {ps0 : Nat → Prop} {H0 H : Hp} {K : Int → Hp → Prop} {R : Value → World → Prop} {E : Pan} (I : Inv w0 ps0 H0 H [Fx0] w) (hR : ∀ (r0 : Int) (H' : Hp) (w' : World) (_ : Inv w0 ps0 H0 H' [Fx0] w') (_ : K r0 H'), R (vi r0) w') (h : Y8 x0 x1 H K) : c9h (vs sx0) (Value.string x1) w R E := by
 unfold Y8 at h
 unfold c9h
 have hj1 : ∀ (H : Hp) (w : World) (_ : Inv w0 ps0 H0 H [Fx0] w) (_ : T8 H K), c1k w R E := by
  intro H w I h
  unfold c1k
  intro _
  unfold T8 at h
  exact hR (-1) H _ I h
 refine p9 fun j1 hx1 => ?_
 refine a7 (b9s Tryd.underlying47 hx0) ?_
 obtain ⟨d6v, c5z, g3D, g3E⟩ := h
 refine v6 (J := fun n l w => ∃ (s : Int) (H : Hp) , n = c5z s ∧ l = [(vi s)] ∧ Inv w0 ps0 H0 H [Fx0] w ∧ d6v s H) ⟨_, 0, H, rfl, rfl, I, g3D⟩ ?_
 rintro g7M τ_15 w next2 ⟨a2V, H, rfl, d5p, I, f1z⟩ hn2
 simp only [List.map_cons, List.map_nil, List.cons.injEq, and_true] at d5p
 have e8 := d5p
 simp only [e8]
 obtain ⟨n2, hm2, h⟩ : ∃ n2 : Int → Hp → Prop, (∀ s' H', n2 s' H' → d6v s' H' ∧ c5z s' < c5z a2V) ∧ T9 x0 x1 (x0.length : Int) a2V H n2 K := ⟨_, fun _ _ h => h, g3E a2V H (fun s' H' => d6v s' H' ∧ c5z s' < c5z a2V) f1z (fun _ _ a b => ⟨a, b⟩)⟩
 unfold c7T
 unfold T9 at h
 refine a7 (r8 _ _ _ _ _ _) ?_
 refine g9 (fun c_9 => ?_) (fun c_9 => ?_)
 ·replace h := h.1 c_9
  obtain ⟨h_3, x_1, h_4, h⟩ := h
  obtain ⟨g_2, a_6, h_5, h_7⟩ := hx0.addr h_4
  refine a7 (b3V h_5 _ _ _ _ h_3 (hx0.lt h_3 h_4)) ?_
  refine c7 (ld1 (v := (Value.string x_1)) Tryd.isAgg9 (hx0.atW I h_5 h_4)) ?_
  refine a7 (F0 _ _ _ _ _) ?_
  refine g9 (fun c_8 => ?_) (fun c_8 => ?_)
  ·replace h := h.1 c_8
   exact hR a2V H _ I h
  ·replace h := h.2 c_8
   refine a7 (q8 _ _ _ _ _ _) ?_
   exact hn2 _ _ _ (hm2 _ _ h).2 ⟨(IntKind.wrap .i64 (a2V + 1)), H, rfl, rfl, I, (hm2 _ _ h).1⟩
 ·replace h := h.2 c_9
  exact hx1 _ _ (hj1 H _ I h)
theorem a9g (x0 : (List ByteArray)) (x1 : ByteArray) {H : Hp} {K : Int → Hp → Prop} (h : Y8 x0 x1 H K) : a1S x0 x1 H K := by
 intro sx0 Fx0 hx0 w I
 refine e0y ?_
 refine a8z x0 x1 sx0 Fx0 hx0 I (fun r0 H' w' I' hk => ⟨H', _, I', r0, rfl, rfl, hk⟩) h
def a3M (x0 : g5) (H : Hp) (K : Int → Int → Hp → Prop) : Prop :=
 a1A x0 H (fun (o0 : g6) (H_6 : Hp) =>
 (¬ (o0.fe = 0) →
 K 0 o0.fe H_6) ∧
 (o0.fe = 0 →
 K o0.fdepth 0 H_6))
theorem b5c (x0 : g5) {w0 w : World} {ps0 : Nat → Prop} {H0 H : Hp} {K : Int → Int → Hp → Prop} {R : Value → World → Prop} {E : Pan} (I : Inv w0 ps0 H0 H [] w) (hR : ∀ (r0 : Int) (r1 : Int) (H' : Hp) (w' : World) (_ : Inv w0 ps0 H0 H' [] w') (_ : K r0 r1 H'), R (Value.tuple #[(vi r0), (vi r1)]) w') (h : a3M x0 H K) : F24 (Value.agg (d7 x0).toArray) w R E := by
 unfold a3M at h
 unfold F24
 refine G7 I (cs := (d7 x0)) rfl fun g_2 w_3 I_4 k_5 => ?_
 refine c7 (ldA Tryd.isAgg25 Tryd.sizeOf25 rfl (I_4.at1 (o := 0) (vs := (d7 x0)) (nb rfl) rfl)) ?_
 refine f8 (cap := []) (fun args w => Tryd.call66 args w) ?_
 refine i6 (Fi := []) (Fr := [bx g_2 25 (d7 x0)]) I_4 (h) (fun a6Q H_6 a6q w_7 I_8 a6R k_9 a0J => ?_) (fun _ _ _ _ _ q => q.elim)
 obtain ⟨o0, c4I, rfl, rfl, h⟩ := a0J
 refine a7 (i7 _) ?_
 refine a7 a0t ?_
 refine c7 (ld1 Tryd.isAgg34 (I_8.at1 (o := 2) (vs := [(vi o0.fe)]) (nb rfl) rfl)) ?_
 refine a7 (u7 _ _ _ _ _ _) ?_
 refine a2H (fun a0K => ?_) (fun a0K => ?_)
 ·replace h := h.1 a0K
  refine a9L I_8 fun q7 a5i => ?_
  refine D5 (i7 _) ?_
  refine D5 a0t ?_
  refine a1b (ld1 Tryd.isAgg34 (a5i.at1 (o := 2) (vs := [(vi o0.fe)]) (nb rfl) rfl)) ?_
  exact hR 0 o0.fe H_6 _ a5i.drop.drop h
 ·replace h := h.2 a0K
  refine a7 (i7 _) ?_
  refine a7 b3U ?_
  refine c7 (ld1 Tryd.isAgg3 (I_8.at1 (o := 1) (vs := [(vi o0.fdepth)]) (nb rfl) rfl)) ?_
  exact hR o0.fdepth 0 H_6 _ I_8.drop.drop h
theorem b5C (x0 : g5) {H : Hp} {K : Int → Int → Hp → Prop} (h : a3M x0 H K) : a3F x0 H K := by
 intro w I
 refine e3V ?_
 refine b5c x0 I (fun r0 r1 H' w' I' hk => ⟨H', _, I', r0, r1, rfl, rfl, hk⟩) h
def a3N (x0 : g5) (H : Hp) (K : Int → Hp → Prop) : Prop :=
 a1A x0 H (fun (o0 : g6) (H_6 : Hp) =>
 K o0.fe H_6)
theorem b5d (x0 : g5) {w0 w : World} {ps0 : Nat → Prop} {H0 H : Hp} {K : Int → Hp → Prop} {R : Value → World → Prop} {E : Pan} (I : Inv w0 ps0 H0 H [] w) (hR : ∀ (r0 : Int) (H' : Hp) (w' : World) (_ : Inv w0 ps0 H0 H' [] w') (_ : K r0 H'), R (vi r0) w') (h : a3N x0 H K) : F27 (Value.agg (d7 x0).toArray) w R E := by
 unfold a3N at h
 unfold F27
 refine G7 I (cs := (d7 x0)) rfl fun g_2 w_3 I_4 k_5 => ?_
 refine c7 (ldA Tryd.isAgg25 Tryd.sizeOf25 rfl (I_4.at1 (o := 0) (vs := (d7 x0)) (nb rfl) rfl)) ?_
 refine f8 (cap := []) (fun args w => Tryd.call66 args w) ?_
 refine i6 (Fi := []) (Fr := [bx g_2 25 (d7 x0)]) I_4 (h) (fun a6Q H_6 a6q w_7 I_8 a6R k_9 a0J => ?_) (fun _ _ _ _ _ q => q.elim)
 obtain ⟨o0, c4I, rfl, rfl, h⟩ := a0J
 refine a7 (i7 _) ?_
 refine a7 a0t ?_
 refine c7 (ld1 Tryd.isAgg34 (I_8.at1 (o := 2) (vs := [(vi o0.fe)]) (nb rfl) rfl)) ?_
 exact hR o0.fe H_6 _ I_8.drop.drop h
theorem b5D (x0 : g5) {H : Hp} {K : Int → Hp → Prop} (h : a3N x0 H K) : a3H x0 H K := by
 intro w I
 refine e3Z ?_
 refine b5d x0 I (fun r0 H' w' I' hk => ⟨H', _, I', r0, rfl, rfl, hk⟩) h
def a2N (x0 : g5) (H : Hp) (K : Bool → Hp → Prop) : Prop :=
 a3H x0 H (fun (o0 : Int) (H_6 : Hp) =>
 K ((!decide (o0 = 32)) && (!decide (o0 = 33))) H_6)
theorem b3f (x0 : g5) {w0 w : World} {ps0 : Nat → Prop} {H0 H : Hp} {K : Bool → Hp → Prop} {R : Value → World → Prop} {E : Pan} (I : Inv w0 ps0 H0 H [] w) (hR : ∀ (r0 : Bool) (H' : Hp) (w' : World) (_ : Inv w0 ps0 H0 H' [] w') (_ : K r0 H'), R (Value.bool r0) w') (h : a2N x0 H K) : F51 (Value.agg (d7 x0).toArray) w R E := by
 unfold a2N at h
 unfold F51
 refine G7 I (cs := (d7 x0)) rfl fun g_2 w_3 I_4 k_5 => ?_
 refine c7 (ldA Tryd.isAgg25 Tryd.sizeOf25 rfl (I_4.at1 (o := 0) (vs := (d7 x0)) (nb rfl) rfl)) ?_
 refine f8 (cap := []) (fun args w => Tryd.call27 args w) ?_
 refine i6 (Fi := []) (Fr := [bx g_2 25 (d7 x0)]) I_4 (h) (fun a6Q H_6 a6q w_7 I_8 a6R k_9 a0J => ?_) (fun _ _ _ _ _ q => q.elim)
 obtain ⟨o0, rfl, rfl, h⟩ := a0J
 refine a7 (u7 _ _ _ _ _ _) ?_
 try simp only [m9]
 refine a7 (Pu.g fun hb => by have a6 := hb; first | exact (u7 _ _ _ _ _ _) | (simp only [a8 a6]; exact (u7 _ _ _ _ _ _)) | (simp only [b7 a6, a8 a6, a8 hb, c9 a6, d9]; exact (u7 _ _ _ _ _ _))) ?_
 refine a7 (k7 _ _) ?_
 exact hR ((!decide (o0 = 32)) && (!decide (o0 = 33))) H_6 _ I_8.drop h
theorem b3E (x0 : g5) {H : Hp} {K : Bool → Hp → Prop} (h : a2N x0 H K) : a2L x0 H K := by
 intro w I
 refine e4h ?_
 refine b3f x0 I (fun r0 H' w' I' hk => ⟨H', _, I', r0, rfl, rfl, hk⟩) h
def p6 (H : Hp) (K : Bool → Hp → Prop) : Prop :=
 K true H
def m5 (a0M : Sl) (b2H : Sl) (b2I : Int) (E6 : Int) (H : Hp) (n2 : Int → Hp → Prop) (K : Bool → Hp → Prop) : Prop :=
 (E6 < b2I →
 (0 : Int) ≤ E6 ∧ (E6 : Int) < b2H.n ∧ ∃ x_1 : k4, EltH H b2H E6 4 (f7 x_1) ∧
 (0 : Int) ≤ E6 ∧ (E6 : Int) < a0M.n ∧ ∃ a2F : k4, EltH H a0M E6 4 (f7 a2F) ∧
 a2o x_1 a2F H (fun (T6 : Bool) (a1E : Hp) =>
 ((!T6) = true →
 K false a1E) ∧
 ((!T6) = false →
 n2 (IntKind.wrap .i64 (E6 + 1)) a1E))) ∧
 (¬ (E6 < b2I) →
 p6 H K)
def m8 (x0 : Sl) (x1 : Sl) (H : Hp) (K : Bool → Hp → Prop) : Prop :=
 (¬ ((x0.n : Int) = (x1.n : Int)) →
 K false H) ∧
 ((x0.n : Int) = (x1.n : Int) →
 TL (0 : Int) H fun (s : Int) H n2 => m5 x1 x0 (x0.n : Int) s H n2 K)
theorem J4 (x0 : Sl) (x1 : Sl) {w0 w : World} {ps0 : Nat → Prop} {H0 H : Hp} {K : Bool → Hp → Prop} {R : Value → World → Prop} {E : Pan} (I : Inv w0 ps0 H0 H [] w) (hR : ∀ (r0 : Bool) (H' : Hp) (w' : World) (_ : Inv w0 ps0 H0 H' [] w') (_ : K r0 H'), R (Value.bool r0) w') (h : m8 x0 x1 H K) : F85 (vs x0) (vs x1) (Value.func (.func 86) #[] #[]) w R E := by
 unfold m8 at h
 unfold F85
 refine a7 (O9 _ _ _) ?_
 refine a7 (O9 _ _ _) ?_
 refine a7 (u7 _ _ _ _ _ _) ?_
 refine a2H (fun b1r => ?_) (fun b1r => ?_)
 ·replace h := h.1 b1r
  exact hR false H _ I h
 ·replace h := h.2 b1r
  have hj1 : ∀ (H : Hp) (w : World) (_ : Inv w0 ps0 H0 H [] w) (_ : p6 H K), c4d w R E := by
   intro H w I h
   unfold c4d
   intro _
   unfold p6 at h
   exact hR true H _ I h
  refine p9 fun j1 hx1 => ?_
  refine a7 (O9 _ _ _) ?_
  obtain ⟨b1s, a5R, c4J, c4K⟩ := h
  refine v6 (J := fun n l w => ∃ (s : Int) (H : Hp) , n = a5R s ∧ l = [(vi s)] ∧ Inv w0 ps0 H0 H [] w ∧ b1s s H) ⟨_, 0, H, rfl, rfl, I, c4J⟩ ?_
  rintro f0T τ_47 w next2 ⟨E6, H, rfl, b6A, I, c4L⟩ hn2
  simp only [List.map_cons, List.map_nil, List.cons.injEq, and_true] at b6A
  have e17 := b6A
  simp only [e17]
  obtain ⟨n2, hm2, h⟩ : ∃ n2 : Int → Hp → Prop, (∀ s' H', n2 s' H' → b1s s' H' ∧ a5R s' < a5R E6) ∧ m5 x1 x0 (x0.n : Int) E6 H n2 K := ⟨_, fun _ _ h => h, c4K E6 H (fun s' H' => b1s s' H' ∧ a5R s' < a5R E6) c4L (fun _ _ a b => ⟨a, b⟩)⟩
  unfold d2Y
  unfold m5 at h
  refine a7 (r8 _ _ _ _ _ _) ?_
  refine g9 (fun b1t => ?_) (fun b1t => ?_)
  ·replace h := h.1 b1t
   obtain ⟨h_4, h_5, x_1, h_7, h⟩ := h
   obtain ⟨g_2, o_3, h_6, h_7⟩ := h_7
   refine a7 (a4X h_6 _ _ _ _ h_4 h_5) ?_
   refine c7 (ldA (vs := (f7 x_1)) Tryd.isAgg33 Tryd.sizeOf33 rfl (I.atH h_7)) ?_
   refine L5 I Tryd.zeroValue33 (cs := [(vi 0), (vi 0), (Value.slice none 0 0), (Value.slice none 0 0)]) rfl fun g_9 m1 a0Y a8S => ?_
   refine u1 a0Y Tryd.sizeOf33 (vs := (f7 x_1)) (cs' := (f7 x_1)) rfl rfl (nb rfl) rfl rfl fun V5 T2 b2T => ?_
   obtain ⟨b1u, b4n, a2F, a6S, h⟩ := h
   obtain ⟨f0U, f0V, c4M, a6S⟩ := a6S
   refine a7 (a4X c4M _ _ _ _ b1u b4n) ?_
   refine c7 (ldA (vs := (f7 a2F)) Tryd.isAgg33 Tryd.sizeOf33 rfl (T2.atH a6S)) ?_
   refine L5 T2 Tryd.zeroValue33 (cs := [(vi 0), (vi 0), (Value.slice none 0 0), (Value.slice none 0 0)]) rfl fun a5S a6m a8T c4N => ?_
   refine u1 a8T Tryd.sizeOf33 (vs := (f7 a2F)) (cs' := (f7 a2F)) rfl rfl (nb rfl) rfl rfl fun v8 a5T c9y => ?_
   refine c7 (ldA Tryd.isAgg33 Tryd.sizeOf33 rfl ((a5T.bring 1).at1 (o := 0) (vs := (f7 x_1)) (nb rfl) rfl)) ?_
   refine c7 (ldA Tryd.isAgg33 Tryd.sizeOf33 rfl (a5T.at1 (o := 0) (vs := (f7 a2F)) (nb rfl) rfl)) ?_
   refine f8 (cap := []) (fun args w => Tryd.call86 args w) ?_
   refine i6 (Fi := []) (Fr := [bx a5S 33 (f7 a2F), bx g_9 33 (f7 x_1)]) a5T (h) (fun c1v a1E d5b y8 a7U c4O c4P b8k => ?_) (fun _ _ _ _ _ q => q.elim)
   obtain ⟨T6, rfl, rfl, h⟩ := b8k
   refine a7 (I7 _) ?_
   refine k9 (fun a6T => ?_) (fun a6T => ?_)
   ·replace h := h.1 a6T
    exact hR false a1E _ a7U.drop.drop h
   ·replace h := h.2 a6T
    refine a7 (q8 _ _ _ _ _ _) ?_
    exact hn2 _ _ _ (hm2 _ _ h).2 ⟨(IntKind.wrap .i64 (E6 + 1)), a1E, rfl, rfl, a7U.drop.drop, (hm2 _ _ h).1⟩
  ·replace h := h.2 b1t
   exact hx1 _ _ (hj1 H _ I h)
theorem J7 (x0 : Sl) (x1 : Sl) {H : Hp} {K : Bool → Hp → Prop} (h : m8 x0 x1 H K) : h8 x0 x1 H K := by
 intro w I
 refine e6b ?_
 refine J4 x0 x1 I (fun r0 H' w' I' hk => ⟨H', _, I', r0, rfl, rfl, hk⟩) h
def a3O (x0 : g5) (x1 : g5) (H : Hp) (K : Bool → Hp → Prop) : Prop :=
 a2L x0 H (fun (y6 : Bool) (Q0 : Hp) =>
 TG (y6 = true) (a2L x1 Q0) false Q0 (fun (D7 : Bool) (Q4 : Hp) =>
 TG ((y6 && D7) = true) (B9 x0.D8 x1.D8 Q4) false Q4 (fun (K9 : Bool) (T3 : Hp) =>
 TG (((y6 && D7) && K9) = true) (d4 x0.P1 x1.P1 T3) false T3 (fun (K8 : Bool) (Q3 : Hp) =>
 K (((y6 && D7) && K9) && K8) Q3))))
theorem b5e (x0 : g5) (x1 : g5) {w0 w : World} {ps0 : Nat → Prop} {H0 H : Hp} {K : Bool → Hp → Prop} {R : Value → World → Prop} {E : Pan} (I : Inv w0 ps0 H0 H [] w) (hR : ∀ (r0 : Bool) (H' : Hp) (w' : World) (_ : Inv w0 ps0 H0 H' [] w') (_ : K r0 H'), R (Value.bool r0) w') (h : a3O x0 x1 H K) : F15 (Value.agg (d7 x0).toArray) (Value.agg (d7 x1).toArray) w R E := by
 unfold a3O at h
 unfold F15
 refine G7 I (cs := (d7 x0)) rfl fun g_2 w_3 I_4 k_5 => ?_
 refine G7 I_4 (cs := (d7 x1)) rfl fun g_7 w_8 I_9 b6z => ?_
 refine c7 (ldA Tryd.isAgg25 Tryd.sizeOf25 rfl ((I_9.bring 1).at1 (o := 0) (vs := (d7 x0)) (nb rfl) rfl)) ?_
 refine f8 (cap := []) (fun args w => Tryd.call51 args w) ?_
 refine i6 (Fi := []) (Fr := [bx g_7 25 (d7 x1), bx g_2 25 (d7 x0)]) I_9 (h) (fun a9O Q0 d5a k6 a0L b1q b4m b8j => ?_) (fun _ _ _ _ _ q => q.elim)
 obtain ⟨y6, rfl, rfl, h⟩ := b8j
 refine c7 (Ld.g fun hb => by have a6 := hb; first | exact (ldA Tryd.isAgg25 Tryd.sizeOf25 rfl (a0L.at1 (o := 0) (vs := (d7 x1)) (nb rfl) rfl)) | (simp only [b7 a6, a8 a6, a8 hb, l9 a6]; exact (ldA Tryd.isAgg25 Tryd.sizeOf25 rfl (a0L.at1 (o := 0) (vs := (d7 x1)) (nb rfl) rfl))) | (simp only [b7 a6, a8 a6, a8 hb, c9 a6, d9]; exact (ldA Tryd.isAgg25 Tryd.sizeOf25 rfl (a0L.at1 (o := 0) (vs := (d7 x1)) (nb rfl) rfl)))) ?_
 refine L2 (D := fun b1N a0q => ∃ (D7 : Bool) (Q4 : Hp) , b1N = (gv y6 true (Value.bool D7)) ∧ (Inv w0 ps0 H0 Q4 [bx g_7 25 (d7 x1), bx g_2 25 (d7 x0)] a0q) ∧ (∀ i, i < k6.heap.size → ¬ inF [] i → a0q.heap[i]? = k6.heap[i]?) ∧ Hle Q0 Q4 ∧ (TG ((y6 && D7) = true) (B9 x0.D8 x1.D8 Q4) false Q4 (fun (K9 : Bool) (T3 : Hp) =>
 TG (((y6 && D7) && K9) = true) (d4 x0.P1 x1.P1 T3) false T3 (fun (K8 : Bool) (Q3 : Hp) =>
 K (((y6 && D7) && K9) && K8) Q3)))) (fun a9e => ?_) (fun a9e => ?_) ?_
 ·replace h := h.1 a9e
  have a6 := a9e
  try simp only [a8 a6]
  refine f8 (cap := []) (fun args w => Tryd.call51 args w) ?_
  refine i6 (Fi := []) (Fr := [bx g_7 25 (d7 x1), bx g_2 25 (d7 x0)]) a0L (h) (fun b1N Q4 f1p a0q a1Y a6p b4H c5g => ?_) (fun _ _ _ _ _ q => q.elim)
  obtain ⟨D7, rfl, rfl, h⟩ := c5g
  exact ⟨D7, Q4, by first | rfl | rw [a8 a9e], a1Y, b4H, a6p, h⟩
 ·exact ⟨false, Q0, by first | rfl | rw [a0E a9e], a0L, fun _ _ _ => rfl, Hle.refl _, h.2 a9e⟩
 ·clear h
  rintro b1N a0q ⟨D7, Q4, rfl, a1Y, b4H, a6p, h⟩
  refine a7 (k7 _ _) ?_
  refine a7 (Pu.g fun hb => by have a6 := hb; first | exact L0 | (simp only [b7 a6, a8 a6, a8 hb, l9 a6]; exact L0) | (simp only [b7 a6, a8 a6, a8 hb, c9 a6, d9]; exact L0)) ?_
  refine c7 (Ld.g fun hb => by have a6 := hb; first | exact (ld1 Tryd.isAgg22 ((a1Y.bring 1).at1 (o := 0) (vs := [(vs x0.D8)]) (nb rfl) rfl)) | (simp only [a8 a6]; exact (ld1 Tryd.isAgg22 ((a1Y.bring 1).at1 (o := 0) (vs := [(vs x0.D8)]) (nb rfl) rfl))) | (simp only [b7 a6, a8 a6, a8 hb, c9 a6, d9]; exact (ld1 Tryd.isAgg22 ((a1Y.bring 1).at1 (o := 0) (vs := [(vs x0.D8)]) (nb rfl) rfl)))) ?_
  refine a7 (Pu.g fun hb => by have a6 := hb; first | exact L0 | (simp only [b7 a6, a8 a6, a8 hb, l9 a6]; exact L0) | (simp only [b7 a6, a8 a6, a8 hb, c9 a6, d9]; exact L0)) ?_
  refine c7 (Ld.g fun hb => by have a6 := hb; first | exact (ld1 Tryd.isAgg22 (a1Y.at1 (o := 0) (vs := [(vs x1.D8)]) (nb rfl) rfl)) | (simp only [a8 a6]; exact (ld1 Tryd.isAgg22 (a1Y.at1 (o := 0) (vs := [(vs x1.D8)]) (nb rfl) rfl))) | (simp only [b7 a6, a8 a6, a8 hb, c9 a6, d9]; exact (ld1 Tryd.isAgg22 (a1Y.at1 (o := 0) (vs := [(vs x1.D8)]) (nb rfl) rfl)))) ?_
  refine L2 (D := fun b6O t7 => ∃ (K9 : Bool) (T3 : Hp) , b6O = (gv (y6 && D7) true (Value.bool K9)) ∧ (Inv w0 ps0 H0 T3 [bx g_7 25 (d7 x1), bx g_2 25 (d7 x0)] t7) ∧ (∀ i, i < a0q.heap.size → ¬ inF [] i → t7.heap[i]? = a0q.heap[i]?) ∧ Hle Q4 T3 ∧ (TG (((y6 && D7) && K9) = true) (d4 x0.P1 x1.P1 T3) false T3 (fun (K8 : Bool) (Q3 : Hp) =>
 K (((y6 && D7) && K9) && K8) Q3))) (fun a4u => ?_) (fun a4u => ?_) ?_
  ·replace h := h.1 a4u
   have a6 := a4u
   try simp only [a8 a6]
   refine f8 (cap := []) (fun args w => Tryd.call52 args w) ?_
   refine i6 (Fi := []) (Fr := [bx g_7 25 (d7 x1), bx g_2 25 (d7 x0)]) a1Y (h) (fun b6O T3 f1y t7 a1p b3c b4w c5y => ?_) (fun _ _ _ _ _ q => q.elim)
   obtain ⟨K9, rfl, rfl, h⟩ := c5y
   exact ⟨K9, T3, by first | rfl | rw [a8 a4u], a1p, b4w, b3c, h⟩
  ·exact ⟨false, Q4, by first | rfl | rw [a0E a4u], a1Y, fun _ _ _ => rfl, Hle.refl _, h.2 a4u⟩
  ·clear h
   rintro b6O t7 ⟨K9, T3, rfl, a1p, b4w, b3c, h⟩
   refine a7 (k7 _ _) ?_
   refine a7 (Pu.g fun hb => by have a6 := hb; first | exact a0s | (simp only [b7 a6, a8 a6, a8 hb, l9 a6]; exact a0s) | (simp only [b7 a6, a8 a6, a8 hb, c9 a6, d9]; exact a0s)) ?_
   refine c7 (Ld.g fun hb => by have a6 := hb; first | exact (ld1 Tryd.isAgg23 ((a1p.bring 1).at1 (o := 1) (vs := [(vs x0.P1)]) (nb rfl) rfl)) | (simp only [a8 a6]; exact (ld1 Tryd.isAgg23 ((a1p.bring 1).at1 (o := 1) (vs := [(vs x0.P1)]) (nb rfl) rfl))) | (simp only [b7 a6, a8 a6, a8 hb, c9 a6, d9]; exact (ld1 Tryd.isAgg23 ((a1p.bring 1).at1 (o := 1) (vs := [(vs x0.P1)]) (nb rfl) rfl)))) ?_
   refine a7 (Pu.g fun hb => by have a6 := hb; first | exact a0s | (simp only [b7 a6, a8 a6, a8 hb, l9 a6]; exact a0s) | (simp only [b7 a6, a8 a6, a8 hb, c9 a6, d9]; exact a0s)) ?_
   refine c7 (Ld.g fun hb => by have a6 := hb; first | exact (ld1 Tryd.isAgg23 (a1p.at1 (o := 1) (vs := [(vs x1.P1)]) (nb rfl) rfl)) | (simp only [a8 a6]; exact (ld1 Tryd.isAgg23 (a1p.at1 (o := 1) (vs := [(vs x1.P1)]) (nb rfl) rfl))) | (simp only [b7 a6, a8 a6, a8 hb, c9 a6, d9]; exact (ld1 Tryd.isAgg23 (a1p.at1 (o := 1) (vs := [(vs x1.P1)]) (nb rfl) rfl)))) ?_
   refine L2 (D := fun b2W a7J => ∃ (K8 : Bool) (Q3 : Hp) , b2W = (gv ((y6 && D7) && K9) true (Value.bool K8)) ∧ (Inv w0 ps0 H0 Q3 [bx g_7 25 (d7 x1), bx g_2 25 (d7 x0)] a7J) ∧ (∀ i, i < t7.heap.size → ¬ inF [] i → a7J.heap[i]? = t7.heap[i]?) ∧ Hle T3 Q3 ∧ (K (((y6 && D7) && K9) && K8) Q3)) (fun a9f => ?_) (fun a9f => ?_) ?_
   ·replace h := h.1 a9f
    have a6 := a9f
    try simp only [a8 a6]
    refine f8 (cap := []) (fun args w => Tryd.call53 args w) ?_
    refine i6 (Fi := []) (Fr := [bx g_7 25 (d7 x1), bx g_2 25 (d7 x0)]) a1p (h) (fun b2W Q3 c9F a7J a4t a9R b6G b4y => ?_) (fun _ _ _ _ _ q => q.elim)
    obtain ⟨K8, rfl, rfl, h⟩ := b4y
    exact ⟨K8, Q3, by first | rfl | rw [a8 a9f], a4t, b6G, a9R, h⟩
   ·exact ⟨false, T3, by first | rfl | rw [a0E a9f], a1p, fun _ _ _ => rfl, Hle.refl _, h.2 a9f⟩
   ·clear h
    rintro b2W a7J ⟨K8, Q3, rfl, a4t, b6G, a9R, h⟩
    refine a7 (k7 _ _) ?_
    exact hR (((y6 && D7) && K9) && K8) Q3 _ a4t.drop.drop h
theorem b5E (x0 : g5) (x1 : g5) {H : Hp} {K : Bool → Hp → Prop} (h : a3O x0 x1 H K) : a0l x0 x1 H K := by
 intro w I
 refine e3Q ?_
 refine b5e x0 x1 I (fun r0 H' w' I' hk => ⟨H', _, I', r0, rfl, rfl, hk⟩) h
def R7 (a8f : Int) (cr_1l2 : k4) (a5B : Int) (N7 : b8) (H : Hp) (n2 : (Int × b8) → Hp → Prop) (K : b8 → Hp → Prop) : Prop :=
 (((decide (a5B < (cr_1l2.o5.n : Int))) && (decide (N7.fbad = 0))) = true →
 (0 : Int) ≤ a5B ∧ (a5B : Int) < cr_1l2.o5.n ∧ ∃ b4W : k4, EltH H cr_1l2.o5 a5B 4 (f7 b4W) ∧
 W6 N7 b4W (IntKind.wrap .i64 (a8f + 1)) H (fun (b4X : b8) (b9d : Hp) =>
 n2 ((IntKind.wrap .i64 (a5B + 1)), b4X) b9d)) ∧
 (((decide (a5B < (cr_1l2.o5.n : Int))) && (decide (N7.fbad = 0))) = false →
 K N7 H)
def R8 (b3a : Int) (J1 : b8) (cr_1j1 : k4) (H : Hp) (K : b8 → Hp → Prop) : Prop :=
 TL ((0, J1) : Int × b8) H fun (s : Int × b8) H n2 => R7 b3a cr_1j1 s.1 s.2 H n2 K
def R9 (f1A : Int) (cr_1l3 : k4) (C5 : Int) (a4l : b8) (H : Hp) (n3 : (Int × b8) → Hp → Prop) (K : b8 → Hp → Prop) : Prop :=
 (((decide (C5 < (cr_1l3.f9.n : Int))) && (decide (a4l.fbad = 0))) = true →
 (0 : Int) ≤ C5 ∧ (C5 : Int) < cr_1l3.f9.n ∧ ∃ d0x : h9, EltH H cr_1l3.f9 C5 4 (f4 d0x) ∧
 O2 a4l d0x (IntKind.wrap .i64 (f1A + 1)) H (fun (c5A : b8) (d6w : Hp) =>
 n3 ((IntKind.wrap .i64 (C5 + 1)), c5A) d6w)) ∧
 (((decide (C5 < (cr_1l3.f9.n : Int))) && (decide (a4l.fbad = 0))) = false →
 R8 f1A a4l cr_1l3 H K)
def X5 (x0 : b8) (x1 : k4) (x2 : Int) (H : Hp) (K : b8 → Hp → Prop) : Prop :=
 K4 x0 x2 H (fun (o0 : Bool) (L1 : b8) (H_6 : Hp) =>
 ((!o0) = true →
 K L1 H_6) ∧
 ((!o0) = false →
 TL ((0, L1) : Int × b8) H_6 fun (s : Int × b8) H n3 => R9 x2 x1 s.1 s.2 H n3 K))
theorem a8j (x0 : b8) (x1 : k4) (x2 : Int) (g0 : Nat) {w0 w : World} {ps0 : Nat → Prop} {H0 H : Hp} {K : b8 → Hp → Prop} {R : Value → World → Prop} {E : Pan} (I : Inv w0 ps0 H0 H [bx g0 99 (f5 x0)] w) (hR : ∀ (y0 : b8) (H' : Hp) (w' : World) (_ : Inv w0 ps0 H0 H' [bx g0 99 (f5 y0)] w') (_ : K y0 H'), R (Value.tuple #[]) w') (h : X5 x0 x1 x2 H K) : F61 (Value.pointer (some ⟨g0, 0, none⟩)) (Value.agg (f7 x1).toArray) (vi x2) w R E := by
 unfold X5 at h
 unfold F61
 refine G7 I (cs := (f7 x1)) rfl fun g_2 w_3 I_4 k_5 => ?_
 refine f8 (cap := []) (fun args w => Tryd.call91 args w) ?_
 refine i6 (Fi := [bx g0 99 (f5 x0)]) (Fr := [bx g_2 33 (f7 x1)]) (I_4.bring 1) (h g0) (fun a6Q H_6 a6q w_7 I_8 a6R k_9 a0J => ?_) (fun _ _ _ _ _ q => q.elim)
 obtain ⟨o0, L1, rfl, rfl, h⟩ := a0J
 refine a7 (I7 _) ?_
 refine k9 (fun b5f => ?_) (fun b5f => ?_)
 ·replace h := h.1 b5f
  exact hR L1 H_6 _ (I_8.bring 1).drop h
 ·replace h := h.2 b5f
  have hj1 : ∀ (J1 : b8) (H : Hp) (w : World) (_ : Inv w0 ps0 H0 H [bx g0 99 (f5 J1), bx g_2 33 (f7 x1)] w) (_ : R8 x2 J1 x1 H K), c3Y (Value.pointer (some ⟨g0, 0, none⟩)) (vi x2) (Value.pointer (some ⟨g_2, 0, none⟩)) w R E := by
   intro J1 H w I h
   unfold c3Y
   intro _
   unfold R8 at h
   obtain ⟨b9e, b1X, d6n, b2V⟩ := h
   refine v6 (J := fun n l w => ∃ (s : Int × b8) (H : Hp) , n = b1X s ∧ l = (match s with | (a5B, N7) => [(vi a5B)]) ∧ (match s with | (a5B, N7) => Inv w0 ps0 H0 H [bx g0 99 (f5 N7), bx g_2 33 (f7 x1)] w) ∧ b9e s H) ⟨_, (0, J1), H, rfl, rfl, ((I.bring 1).bring 1), d6n⟩ ?_
   rintro g3u τ_78 w next2 ⟨⟨a5B, N7⟩, H, rfl, a7O, I, d6o⟩ hn2
   dsimp only at a7O I
   simp only [List.map_cons, List.map_nil, List.cons.injEq, and_true] at a7O
   have e7 := a7O
   simp only [e7]
   obtain ⟨n2, hm2, h⟩ : ∃ n2 : (Int × b8) → Hp → Prop, (∀ s' H', n2 s' H' → b9e s' H' ∧ b1X s' < b1X (a5B, N7)) ∧ R7 x2 x1 a5B N7 H n2 K := ⟨_, fun _ _ h => h, b2V (a5B, N7) H (fun s' H' => b9e s' H' ∧ b1X s' < b1X (a5B, N7)) d6o (fun _ _ a b => ⟨a, b⟩)⟩
   unfold d2T
   unfold R7 at h
   refine a7 M9 ?_
   refine c7 (ld1 Tryd.isAgg31 ((I.bring 1).at1 (o := 3) (vs := [(vs x1.o5)]) (nb rfl) rfl)) ?_
   refine a7 (O9 _ _ _) ?_
   refine a7 (r8 _ _ _ _ _ _) ?_
   try simp only [m9]
   refine a7 (Pu.g fun hb => by have a6 := hb; first | exact (i7 _) | (simp only [a8 a6]; exact (i7 _)) | (simp only [b7 a6, a8 a6, a8 hb, c9 a6, d9]; exact (i7 _))) ?_
   refine a7 (Pu.g fun hb => by have a6 := hb; first | exact u5 | (simp only [a8 a6]; exact u5) | (simp only [b7 a6, a8 a6, a8 hb, c9 a6, d9]; exact u5)) ?_
   refine c7 (Ld.g fun hb => by have a6 := hb; first | exact (ld1 Tryd.isAgg3 (I.at1 (o := 2) (vs := [(vi N7.fbad)]) (nb rfl) rfl)) | (simp only [a8 a6]; exact (ld1 Tryd.isAgg3 (I.at1 (o := 2) (vs := [(vi N7.fbad)]) (nb rfl) rfl))) | (simp only [b7 a6, a8 a6, a8 hb, c9 a6, d9]; exact (ld1 Tryd.isAgg3 (I.at1 (o := 2) (vs := [(vi N7.fbad)]) (nb rfl) rfl)))) ?_
   refine a7 (Pu.g fun hb => by have a6 := hb; first | exact (d6 _ _ _ _ _ _) | (simp only [a8 a6]; exact (d6 _ _ _ _ _ _)) | (simp only [b7 a6, a8 a6, a8 hb, c9 a6, d9]; exact (d6 _ _ _ _ _ _))) ?_
   refine a7 (k7 _ _) ?_
   refine k9 (fun a5q => ?_) (fun a5q => ?_)
   ·replace h := h.1 a5q
    refine a7 M9 ?_
    refine c7 (ld1 Tryd.isAgg31 ((I.bring 1).at1 (o := 3) (vs := [(vs x1.o5)]) (nb rfl) rfl)) ?_
    obtain ⟨c4Z, d6p, b4W, b4G, h⟩ := h
    obtain ⟨g3v, g3w, d6q, b4G⟩ := b4G
    refine a7 (a4X d6q _ _ _ _ c4Z d6p) ?_
    refine c7 (ldA (vs := (f7 b4W)) Tryd.isAgg33 Tryd.sizeOf33 rfl (I.atH b4G)) ?_
    refine a7 (q8 _ _ _ _ _ _) ?_
    refine f8 (cap := []) (fun args w => Tryd.call61 args w) ?_
    refine i6 (Fi := [bx g0 99 (f5 N7)]) (Fr := [bx g_2 33 (f7 x1)]) I (h g0) (fun g3x b9d g3y V6 d6r d0o g3z d6s => ?_) (fun _ _ _ _ _ q => q.elim)
    obtain ⟨b4X, rfl, rfl, h⟩ := d6s
    refine a7 (q8 _ _ _ _ _ _) ?_
    exact hn2 _ _ _ (hm2 _ _ h).2 ⟨((IntKind.wrap .i64 (a5B + 1)), b4X), b9d, rfl, rfl, ((d6r.bring 1).bring 1), (hm2 _ _ h).1⟩
   ·replace h := h.2 a5q
    exact hR N7 H _ (I.bring 1).drop h
  refine p9 fun j1 hx1 => ?_
  obtain ⟨d0y, c0h, f9i, f9j⟩ := h
  refine v6 (J := fun n l w => ∃ (s : Int × b8) (H : Hp) , n = c0h s ∧ l = (match s with | (C5, a4l) => [(vi C5)]) ∧ (match s with | (C5, a4l) => Inv w0 ps0 H0 H [bx g0 99 (f5 a4l), bx g_2 33 (f7 x1)] w) ∧ d0y s H) ⟨_, (0, L1), H_6, rfl, rfl, ((I_8.bring 1).bring 1), f9i⟩ ?_
  rintro g5W τ_112 w next3 ⟨⟨C5, a4l⟩, H, rfl, d0z, I, f9k⟩ hn3
  dsimp only at d0z I
  simp only [List.map_cons, List.map_nil, List.cons.injEq, and_true] at d0z
  have e6 := d0z
  simp only [e6]
  obtain ⟨n3, hm3, h⟩ : ∃ n3 : (Int × b8) → Hp → Prop, (∀ s' H', n3 s' H' → d0y s' H' ∧ c0h s' < c0h (C5, a4l)) ∧ R9 x2 x1 C5 a4l H n3 K := ⟨_, fun _ _ h => h, f9j (C5, a4l) H (fun s' H' => d0y s' H' ∧ c0h s' < c0h (C5, a4l)) f9k (fun _ _ a b => ⟨a, b⟩)⟩
  unfold d2U
  unfold R9 at h
  refine a7 M8 ?_
  refine c7 (ld1 Tryd.isAgg28 ((I.bring 1).at1 (o := 2) (vs := [(vs x1.f9)]) (nb rfl) rfl)) ?_
  refine a7 (F5 _ _ _) ?_
  refine a7 (r8 _ _ _ _ _ _) ?_
  try simp only [m9]
  refine a7 (Pu.g fun hb => by have a6 := hb; first | exact (i7 _) | (simp only [a8 a6]; exact (i7 _)) | (simp only [b7 a6, a8 a6, a8 hb, c9 a6, d9]; exact (i7 _))) ?_
  refine a7 (Pu.g fun hb => by have a6 := hb; first | exact u5 | (simp only [a8 a6]; exact u5) | (simp only [b7 a6, a8 a6, a8 hb, c9 a6, d9]; exact u5)) ?_
  refine c7 (Ld.g fun hb => by have a6 := hb; first | exact (ld1 Tryd.isAgg3 (I.at1 (o := 2) (vs := [(vi a4l.fbad)]) (nb rfl) rfl)) | (simp only [a8 a6]; exact (ld1 Tryd.isAgg3 (I.at1 (o := 2) (vs := [(vi a4l.fbad)]) (nb rfl) rfl))) | (simp only [b7 a6, a8 a6, a8 hb, c9 a6, d9]; exact (ld1 Tryd.isAgg3 (I.at1 (o := 2) (vs := [(vi a4l.fbad)]) (nb rfl) rfl)))) ?_
  refine a7 (Pu.g fun hb => by have a6 := hb; first | exact (d6 _ _ _ _ _ _) | (simp only [a8 a6]; exact (d6 _ _ _ _ _ _)) | (simp only [b7 a6, a8 a6, a8 hb, c9 a6, d9]; exact (d6 _ _ _ _ _ _))) ?_
  refine a7 (k7 _ _) ?_
  refine k9 (fun d0A => ?_) (fun d0A => ?_)
  ·replace h := h.1 d0A
   refine a7 M8 ?_
   refine c7 (ld1 Tryd.isAgg28 ((I.bring 1).at1 (o := 2) (vs := [(vs x1.f9)]) (nb rfl) rfl)) ?_
   obtain ⟨d5L, b8G, d0x, c5B, h⟩ := h
   obtain ⟨g7N, g7O, d6x, c5B⟩ := c5B
   refine a7 (a2O d6x _ _ _ _ d5L b8G) ?_
   refine c7 (ldA (vs := (f4 d0x)) Tryd.isAgg30 Tryd.sizeOf30 rfl (I.atH c5B)) ?_
   refine a7 (q8 _ _ _ _ _ _) ?_
   refine f8 (cap := []) (fun args w => Tryd.call58 args w) ?_
   refine i6 (Fi := [bx g0 99 (f5 a4l)]) (Fr := [bx g_2 33 (f7 x1)]) I (h g0) (fun g5X d6w g5Y a4P g3F g5Z g6a f9l => ?_) (fun _ _ _ _ _ q => q.elim)
   obtain ⟨c5A, rfl, rfl, h⟩ := f9l
   refine a7 (q8 _ _ _ _ _ _) ?_
   exact hn3 _ _ _ (hm3 _ _ h).2 ⟨((IntKind.wrap .i64 (C5 + 1)), c5A), d6w, rfl, rfl, ((g3F.bring 1).bring 1), (hm3 _ _ h).1⟩
  ·replace h := h.2 d0A
   exact hx1 _ _ (hj1 a4l H _ ((I.bring 1).bring 1) h)
theorem a8A (x0 : b8) (x1 : k4) (x2 : Int) {H : Hp} {K : b8 → Hp → Prop} (h : X5 x0 x1 x2 H K) : W6 x0 x1 x2 H K := by
 intro g0 w I
 refine e5q ?_
 refine a8j x0 x1 x2 g0 I (fun y0 H' w' I' hk => ⟨H', _, I', y0, rfl, rfl, hk⟩) h
def M2 (a0Z : Bool) (d8U : Int) (b7u : Bool) (cr_6j1 : w9) (_cr_1j1 : M5) (H : Hp) (K : Bool → Hp → Prop) : Prop :=
 (b7u = true →
 K (a0Z && (decide (cr_6j1.fexprs = 0 ∧ cr_6j1.fconds = 1))) H) ∧
 (b7u = false →
 (d8U = 7 →
 K (a0Z && (decide (cr_6j1.fexprs = 0 ∧ cr_6j1.fconds = 0))) H) ∧
 (¬ (d8U = 7) →
 K false H))
def a1K (x0 : M5) (H : Hp) (K : Bool → Hp → Prop) : Prop :=
 (x0.d8.b9 = 1 →
 K ((!(decide (0 < (IntKind.wrap .i64 ((x0.d8.u0.n : Int) + (x0.d8.s7.n : Int)))))) && (decide ((x0.d8.f9.n : Int) = 1 ∧ (x0.d8.k3.n : Int) = 0))) H) ∧
 (¬ (x0.d8.b9 = 1) →
 (x0.d8.b9 = 2 →
 K ((!(decide (0 < (IntKind.wrap .i64 ((x0.d8.u0.n : Int) + (x0.d8.s7.n : Int)))))) && (decide ((x0.d8.f9.n : Int) = 2 ∧ (x0.d8.k3.n : Int) = 0))) H) ∧
 (¬ (x0.d8.b9 = 2) →
 (x0.d8.b9 = 3 →
 K ((decide (x0.d8.g7 = ⟨#[]⟩)) && (decide ((x0.d8.f9.n : Int) = 0 ∧ (x0.d8.k3.n : Int) = 1))) H) ∧
 (¬ (x0.d8.b9 = 3) →
 (x0.d8.b9 = 4 →
 K (((decide (x0.d8.g7 = ⟨#[]⟩)) && (decide ((x0.d8.s7.n : Int) = 0))) && (decide ((x0.d8.f9.n : Int) = 0 ∧ (x0.d8.k3.n : Int) = 1))) H) ∧
 (¬ (x0.d8.b9 = 4) →
 (x0.d8.b9 = 5 →
 M2 ((decide (x0.d8.g7 = ⟨#[]⟩)) && (!(decide (0 < (IntKind.wrap .i64 ((x0.d8.u0.n : Int) + (x0.d8.s7.n : Int))))))) x0.d8.b9 (decide (x0.d8.b9 = 5)) (w9.mk (x0.d8.f9.n : Int) (x0.d8.k3.n : Int)) x0 H K) ∧
 (¬ (x0.d8.b9 = 5) →
 M2 ((decide (x0.d8.g7 = ⟨#[]⟩)) && (!(decide (0 < (IntKind.wrap .i64 ((x0.d8.u0.n : Int) + (x0.d8.s7.n : Int))))))) x0.d8.b9 (decide (x0.d8.b9 = 6)) (w9.mk (x0.d8.f9.n : Int) (x0.d8.k3.n : Int)) x0 H K)))))
theorem b1Z (x0 : M5) {w0 w : World} {ps0 : Nat → Prop} {H0 H : Hp} {K : Bool → Hp → Prop} {R : Value → World → Prop} {E : Pan} (I : Inv w0 ps0 H0 H [] w) (hR : ∀ (r0 : Bool) (H' : Hp) (w' : World) (_ : Inv w0 ps0 H0 H' [] w') (_ : K r0 H'), R (Value.bool r0) w') (h : a1K x0 H K) : c9v (Value.agg (d5 x0.d8).toArray) w R E := by
 unfold a1K at h
 unfold c9v
 refine G7 I (cs := (d5 x0.d8)) rfl fun g_2 w_3 I_4 k_5 => ?_
 refine a7 F9 ?_
 refine a7 P4 ?_
 refine c7 (ld1 Tryd.isAgg23 (I_4.at1 (o := 4) (vs := [(vs x0.d8.u0)]) (nb rfl) rfl)) ?_
 refine a7 (K2 _ _ _) ?_
 refine a7 F9 ?_
 refine a7 K5 ?_
 refine c7 (ld1 Tryd.isAgg23 (I_4.at1 (o := 5) (vs := [(vs x0.d8.s7)]) (nb rfl) rfl)) ?_
 refine a7 (K2 _ _ _) ?_
 refine a7 (q8 _ _ _ _ _ _) ?_
 refine a7 (a2W _ _ _ _ _ _) ?_
 refine a7 F9 ?_
 refine a7 N0 ?_
 refine c7 (ld1 Tryd.isAgg28 (I_4.at1 (o := 2) (vs := [(vs x0.d8.f9)]) (nb rfl) rfl)) ?_
 refine a7 (F5 _ _ _) ?_
 refine a7 F9 ?_
 refine a7 N1 ?_
 refine c7 (ld1 Tryd.isAgg31 (I_4.at1 (o := 3) (vs := [(vs x0.d8.k3)]) (nb rfl) rfl)) ?_
 refine a7 (O9 _ _ _) ?_
 refine a7 (E9 _ _) ?_
 refine L5 I_4 Tryd.zeroValue213 (cs := [(vi 0), (vi 0)]) rfl fun g_7 w_8 I_9 b6z => ?_
 refine u1 I_9 Tryd.sizeOf213 (vs := [(vi (x0.d8.f9.n : Int)), (vi (x0.d8.k3.n : Int))]) (cs' := [(vi (x0.d8.f9.n : Int)), (vi (x0.d8.k3.n : Int))]) rfl rfl (nb rfl) rfl rfl fun Y2 G6 b4o => ?_
 refine a7 F9 ?_
 refine a7 a0u ?_
 refine c7 (ld1 Tryd.isAgg9 ((G6.bring 1).at1 (o := 1) (vs := [(Value.string x0.d8.g7)]) (nb rfl) rfl)) ?_
 refine a7 (F0 _ _ _ _ _) ?_
 try simp only [m9]
 refine a7 (Pu.g fun hb => by have a6 := hb; first | exact (I7 _) | (simp only [a8 a6]; exact (I7 _)) | (simp only [b7 a6, a8 a6, a8 hb, c9 a6, d9]; exact (I7 _))) ?_
 refine a7 (k7 _ _) ?_
 refine a7 F9 ?_
 refine a7 y9 ?_
 refine c7 (ld1 Tryd.isAgg3 ((G6.bring 1).at1 (o := 0) (vs := [(vi x0.d8.b9)]) (nb rfl) rfl)) ?_
 refine a7 (d6 _ _ _ _ _ _) ?_
 refine g9 (fun b1y => ?_) (fun b1y => ?_)
 ·replace h := h.1 b1y
  refine a7 (I7 _) ?_
  refine c7 (Ld.g fun hb => by have a6 := hb; first | exact (ldA Tryd.isAgg213 Tryd.sizeOf213 rfl (G6.at1 (o := 0) (vs := [(vi (x0.d8.f9.n : Int)), (vi (x0.d8.k3.n : Int))]) (nb rfl) rfl)) | (simp only [b7 a6, a8 a6, a8 hb, l9 a6]; exact (ldA Tryd.isAgg213 Tryd.sizeOf213 rfl (G6.at1 (o := 0) (vs := [(vi (x0.d8.f9.n : Int)), (vi (x0.d8.k3.n : Int))]) (nb rfl) rfl))) | (simp only [b7 a6, a8 a6, a8 hb, c9 a6, d9]; exact (ldA Tryd.isAgg213 Tryd.sizeOf213 rfl (G6.at1 (o := 0) (vs := [(vi (x0.d8.f9.n : Int)), (vi (x0.d8.k3.n : Int))]) (nb rfl) rfl)))) ?_
  refine a7 (Pu.g fun hb => by have a6 := hb; first | exact (E9 _ _) | (simp only [b7 a6, a8 a6, a8 hb, l9 a6]; exact (E9 _ _)) | (simp only [b7 a6, a8 a6, a8 hb, c9 a6, d9]; exact (E9 _ _))) ?_
  refine a7 (Pu.g fun hb => by have a6 := hb; first | exact (P0 _ _ _ _ _ _) | (simp only [a8 a6]; exact (P0 _ _ _ _ _ _)) | (simp only [b7 a6, a8 a6, a8 hb, c9 a6, d9]; exact (P0 _ _ _ _ _ _))) ?_
  refine a7 (k7 _ _) ?_
  exact hR ((!(decide (0 < (IntKind.wrap .i64 ((x0.d8.u0.n : Int) + (x0.d8.s7.n : Int)))))) && (decide ((x0.d8.f9.n : Int) = 1 ∧ (x0.d8.k3.n : Int) = 0))) H _ G6.drop.drop h
 ·replace h := h.2 b1y
  refine a7 (d6 _ _ _ _ _ _) ?_
  refine g9 (fun b1z => ?_) (fun b1z => ?_)
  ·replace h := h.1 b1z
   refine a7 (I7 _) ?_
   refine c7 (Ld.g fun hb => by have a6 := hb; first | exact (ldA Tryd.isAgg213 Tryd.sizeOf213 rfl (G6.at1 (o := 0) (vs := [(vi (x0.d8.f9.n : Int)), (vi (x0.d8.k3.n : Int))]) (nb rfl) rfl)) | (simp only [b7 a6, a8 a6, a8 hb, l9 a6]; exact (ldA Tryd.isAgg213 Tryd.sizeOf213 rfl (G6.at1 (o := 0) (vs := [(vi (x0.d8.f9.n : Int)), (vi (x0.d8.k3.n : Int))]) (nb rfl) rfl))) | (simp only [b7 a6, a8 a6, a8 hb, c9 a6, d9]; exact (ldA Tryd.isAgg213 Tryd.sizeOf213 rfl (G6.at1 (o := 0) (vs := [(vi (x0.d8.f9.n : Int)), (vi (x0.d8.k3.n : Int))]) (nb rfl) rfl)))) ?_
   refine a7 (Pu.g fun hb => by have a6 := hb; first | exact (E9 _ _) | (simp only [b7 a6, a8 a6, a8 hb, l9 a6]; exact (E9 _ _)) | (simp only [b7 a6, a8 a6, a8 hb, c9 a6, d9]; exact (E9 _ _))) ?_
   refine a7 (Pu.g fun hb => by have a6 := hb; first | exact (P0 _ _ _ _ _ _) | (simp only [a8 a6]; exact (P0 _ _ _ _ _ _)) | (simp only [b7 a6, a8 a6, a8 hb, c9 a6, d9]; exact (P0 _ _ _ _ _ _))) ?_
   refine a7 (k7 _ _) ?_
   exact hR ((!(decide (0 < (IntKind.wrap .i64 ((x0.d8.u0.n : Int) + (x0.d8.s7.n : Int)))))) && (decide ((x0.d8.f9.n : Int) = 2 ∧ (x0.d8.k3.n : Int) = 0))) H _ G6.drop.drop h
  ·replace h := h.2 b1z
   refine a7 (d6 _ _ _ _ _ _) ?_
   refine g9 (fun a0K => ?_) (fun a0K => ?_)
   ·replace h := h.1 a0K
    refine a7 F9 ?_
    refine a7 a0u ?_
    refine c7 (ld1 Tryd.isAgg9 ((G6.bring 1).at1 (o := 1) (vs := [(Value.string x0.d8.g7)]) (nb rfl) rfl)) ?_
    refine a7 (F0 _ _ _ _ _) ?_
    refine c7 (Ld.g fun hb => by have a6 := hb; first | exact (ldA Tryd.isAgg213 Tryd.sizeOf213 rfl (G6.at1 (o := 0) (vs := [(vi (x0.d8.f9.n : Int)), (vi (x0.d8.k3.n : Int))]) (nb rfl) rfl)) | (simp only [b7 a6, a8 a6, a8 hb, l9 a6]; exact (ldA Tryd.isAgg213 Tryd.sizeOf213 rfl (G6.at1 (o := 0) (vs := [(vi (x0.d8.f9.n : Int)), (vi (x0.d8.k3.n : Int))]) (nb rfl) rfl))) | (simp only [b7 a6, a8 a6, a8 hb, c9 a6, d9]; exact (ldA Tryd.isAgg213 Tryd.sizeOf213 rfl (G6.at1 (o := 0) (vs := [(vi (x0.d8.f9.n : Int)), (vi (x0.d8.k3.n : Int))]) (nb rfl) rfl)))) ?_
    refine a7 (Pu.g fun hb => by have a6 := hb; first | exact (E9 _ _) | (simp only [b7 a6, a8 a6, a8 hb, l9 a6]; exact (E9 _ _)) | (simp only [b7 a6, a8 a6, a8 hb, c9 a6, d9]; exact (E9 _ _))) ?_
    refine a7 (Pu.g fun hb => by have a6 := hb; first | exact (P0 _ _ _ _ _ _) | (simp only [a8 a6]; exact (P0 _ _ _ _ _ _)) | (simp only [b7 a6, a8 a6, a8 hb, c9 a6, d9]; exact (P0 _ _ _ _ _ _))) ?_
    refine a7 (k7 _ _) ?_
    exact hR ((decide (x0.d8.g7 = ⟨#[]⟩)) && (decide ((x0.d8.f9.n : Int) = 0 ∧ (x0.d8.k3.n : Int) = 1))) H _ G6.drop.drop h
   ·replace h := h.2 a0K
    refine a7 (d6 _ _ _ _ _ _) ?_
    refine g9 (fun a3A => ?_) (fun a3A => ?_)
    ·replace h := h.1 a3A
     refine a7 F9 ?_
     refine a7 a0u ?_
     refine c7 (ld1 Tryd.isAgg9 ((G6.bring 1).at1 (o := 1) (vs := [(Value.string x0.d8.g7)]) (nb rfl) rfl)) ?_
     refine a7 (F0 _ _ _ _ _) ?_
     refine a7 (Pu.g fun hb => by have a6 := hb; first | exact F9 | (simp only [b7 a6, a8 a6, a8 hb, l9 a6]; exact F9) | (simp only [b7 a6, a8 a6, a8 hb, c9 a6, d9]; exact F9)) ?_
     refine a7 (Pu.g fun hb => by have a6 := hb; first | exact K5 | (simp only [a8 a6]; exact K5) | (simp only [b7 a6, a8 a6, a8 hb, c9 a6, d9]; exact K5)) ?_
     refine c7 (Ld.g fun hb => by have a6 := hb; first | exact (ld1 Tryd.isAgg23 ((G6.bring 1).at1 (o := 5) (vs := [(vs x0.d8.s7)]) (nb rfl) rfl)) | (simp only [a8 a6]; exact (ld1 Tryd.isAgg23 ((G6.bring 1).at1 (o := 5) (vs := [(vs x0.d8.s7)]) (nb rfl) rfl))) | (simp only [b7 a6, a8 a6, a8 hb, c9 a6, d9]; exact (ld1 Tryd.isAgg23 ((G6.bring 1).at1 (o := 5) (vs := [(vs x0.d8.s7)]) (nb rfl) rfl)))) ?_
     refine a7 (Pu.g fun hb => by have a6 := hb; first | exact (K2 _ _ _) | (simp only [a8 a6]; exact (K2 _ _ _)) | (simp only [b7 a6, a8 a6, a8 hb, c9 a6, d9]; exact (K2 _ _ _))) ?_
     refine a7 (Pu.g fun hb => by have a6 := hb; first | exact (d6 _ _ _ _ _ _) | (simp only [a8 a6]; exact (d6 _ _ _ _ _ _)) | (simp only [b7 a6, a8 a6, a8 hb, c9 a6, d9]; exact (d6 _ _ _ _ _ _))) ?_
     refine a7 (k7 _ _) ?_
     refine c7 (Ld.g fun hb => by have a6 := hb; first | exact (ldA Tryd.isAgg213 Tryd.sizeOf213 rfl (G6.at1 (o := 0) (vs := [(vi (x0.d8.f9.n : Int)), (vi (x0.d8.k3.n : Int))]) (nb rfl) rfl)) | (simp only [b7 a6, a8 a6, a8 hb, l9 a6]; exact (ldA Tryd.isAgg213 Tryd.sizeOf213 rfl (G6.at1 (o := 0) (vs := [(vi (x0.d8.f9.n : Int)), (vi (x0.d8.k3.n : Int))]) (nb rfl) rfl))) | (simp only [b7 a6, a8 a6, a8 hb, c9 a6, d9]; exact (ldA Tryd.isAgg213 Tryd.sizeOf213 rfl (G6.at1 (o := 0) (vs := [(vi (x0.d8.f9.n : Int)), (vi (x0.d8.k3.n : Int))]) (nb rfl) rfl)))) ?_
     refine a7 (Pu.g fun hb => by have a6 := hb; first | exact (E9 _ _) | (simp only [b7 a6, a8 a6, a8 hb, l9 a6]; exact (E9 _ _)) | (simp only [b7 a6, a8 a6, a8 hb, c9 a6, d9]; exact (E9 _ _))) ?_
     refine a7 (Pu.g fun hb => by have a6 := hb; first | exact (P0 _ _ _ _ _ _) | (simp only [a8 a6]; exact (P0 _ _ _ _ _ _)) | (simp only [b7 a6, a8 a6, a8 hb, c9 a6, d9]; exact (P0 _ _ _ _ _ _))) ?_
     refine a7 (k7 _ _) ?_
     exact hR (((decide (x0.d8.g7 = ⟨#[]⟩)) && (decide ((x0.d8.s7.n : Int) = 0))) && (decide ((x0.d8.f9.n : Int) = 0 ∧ (x0.d8.k3.n : Int) = 1))) H _ G6.drop.drop h
    ·replace h := h.2 a3A
     have hj1 : ∀ (b7u : Bool) (H : Hp) (w : World) (_ : Inv w0 ps0 H0 H [bx g_7 213 [(vi (w9.mk (x0.d8.f9.n : Int) (x0.d8.k3.n : Int)).fexprs), (vi (w9.mk (x0.d8.f9.n : Int) (x0.d8.k3.n : Int)).fconds)], bx g_2 177 (d5 x0.d8)] w) (_ : M2 ((decide (x0.d8.g7 = ⟨#[]⟩)) && (!(decide (0 < (IntKind.wrap .i64 ((x0.d8.u0.n : Int) + (x0.d8.s7.n : Int))))))) x0.d8.b9 b7u (w9.mk (x0.d8.f9.n : Int) (x0.d8.k3.n : Int)) x0 H K), c1t (Value.pointer (some ⟨g_7, 0, none⟩)) (Value.bool ((decide (x0.d8.g7 = ⟨#[]⟩)) && (!(decide (0 < (IntKind.wrap .i64 ((x0.d8.u0.n : Int) + (x0.d8.s7.n : Int)))))))) (vi x0.d8.b9) (Value.bool b7u) w R E := by
      intro b7u H w I h
      unfold c1t
      intro _
      unfold M2 at h
      refine k9 (fun a5j => ?_) (fun a5j => ?_)
      ·replace h := h.1 a5j
       refine c7 (Ld.g fun hb => by have a6 := hb; first | exact (ldA Tryd.isAgg213 Tryd.sizeOf213 rfl (I.at1 (o := 0) (vs := [(vi (w9.mk (x0.d8.f9.n : Int) (x0.d8.k3.n : Int)).fexprs), (vi (w9.mk (x0.d8.f9.n : Int) (x0.d8.k3.n : Int)).fconds)]) (nb rfl) rfl)) | (simp only [b7 a6, a8 a6, a8 hb, l9 a6]; exact (ldA Tryd.isAgg213 Tryd.sizeOf213 rfl (I.at1 (o := 0) (vs := [(vi (w9.mk (x0.d8.f9.n : Int) (x0.d8.k3.n : Int)).fexprs), (vi (w9.mk (x0.d8.f9.n : Int) (x0.d8.k3.n : Int)).fconds)]) (nb rfl) rfl))) | (simp only [b7 a6, a8 a6, a8 hb, c9 a6, d9]; exact (ldA Tryd.isAgg213 Tryd.sizeOf213 rfl (I.at1 (o := 0) (vs := [(vi (w9.mk (x0.d8.f9.n : Int) (x0.d8.k3.n : Int)).fexprs), (vi (w9.mk (x0.d8.f9.n : Int) (x0.d8.k3.n : Int)).fconds)]) (nb rfl) rfl)))) ?_
       refine a7 (Pu.g fun hb => by have a6 := hb; first | exact (E9 _ _) | (simp only [b7 a6, a8 a6, a8 hb, l9 a6]; exact (E9 _ _)) | (simp only [b7 a6, a8 a6, a8 hb, c9 a6, d9]; exact (E9 _ _))) ?_
       refine a7 (Pu.g fun hb => by have a6 := hb; first | exact (P0 _ _ _ _ _ _) | (simp only [a8 a6]; exact (P0 _ _ _ _ _ _)) | (simp only [b7 a6, a8 a6, a8 hb, c9 a6, d9]; exact (P0 _ _ _ _ _ _))) ?_
       refine a7 (k7 _ _) ?_
       exact hR (((decide (x0.d8.g7 = ⟨#[]⟩)) && (!(decide (0 < (IntKind.wrap .i64 ((x0.d8.u0.n : Int) + (x0.d8.s7.n : Int))))))) && (decide ((w9.mk (x0.d8.f9.n : Int) (x0.d8.k3.n : Int)).fexprs = 0 ∧ (w9.mk (x0.d8.f9.n : Int) (x0.d8.k3.n : Int)).fconds = 1))) H _ I.drop.drop h
      ·replace h := h.2 a5j
       refine a7 (d6 _ _ _ _ _ _) ?_
       refine g9 (fun b1B => ?_) (fun b1B => ?_)
       ·replace h := h.1 b1B
        refine c7 (Ld.g fun hb => by have a6 := hb; first | exact (ldA Tryd.isAgg213 Tryd.sizeOf213 rfl (I.at1 (o := 0) (vs := [(vi (w9.mk (x0.d8.f9.n : Int) (x0.d8.k3.n : Int)).fexprs), (vi (w9.mk (x0.d8.f9.n : Int) (x0.d8.k3.n : Int)).fconds)]) (nb rfl) rfl)) | (simp only [b7 a6, a8 a6, a8 hb, l9 a6]; exact (ldA Tryd.isAgg213 Tryd.sizeOf213 rfl (I.at1 (o := 0) (vs := [(vi (w9.mk (x0.d8.f9.n : Int) (x0.d8.k3.n : Int)).fexprs), (vi (w9.mk (x0.d8.f9.n : Int) (x0.d8.k3.n : Int)).fconds)]) (nb rfl) rfl))) | (simp only [b7 a6, a8 a6, a8 hb, c9 a6, d9]; exact (ldA Tryd.isAgg213 Tryd.sizeOf213 rfl (I.at1 (o := 0) (vs := [(vi (w9.mk (x0.d8.f9.n : Int) (x0.d8.k3.n : Int)).fexprs), (vi (w9.mk (x0.d8.f9.n : Int) (x0.d8.k3.n : Int)).fconds)]) (nb rfl) rfl)))) ?_
        refine a7 (Pu.g fun hb => by have a6 := hb; first | exact (b3Y ) | (simp only [b7 a6, a8 a6, a8 hb, l9 a6]; exact (b3Y )) | (simp only [b7 a6, a8 a6, a8 hb, c9 a6, d9]; exact (b3Y ))) ?_
        refine a7 (Pu.g fun hb => by have a6 := hb; first | exact (P0 _ _ _ _ _ _) | (simp only [a8 a6]; exact (P0 _ _ _ _ _ _)) | (simp only [b7 a6, a8 a6, a8 hb, c9 a6, d9]; exact (P0 _ _ _ _ _ _))) ?_
        refine a7 (k7 _ _) ?_
        exact hR (((decide (x0.d8.g7 = ⟨#[]⟩)) && (!(decide (0 < (IntKind.wrap .i64 ((x0.d8.u0.n : Int) + (x0.d8.s7.n : Int))))))) && (decide ((w9.mk (x0.d8.f9.n : Int) (x0.d8.k3.n : Int)).fexprs = 0 ∧ (w9.mk (x0.d8.f9.n : Int) (x0.d8.k3.n : Int)).fconds = 0))) H _ I.drop.drop h
       ·replace h := h.2 b1B
        exact hR false H _ I.drop.drop h
     refine p9 fun j1 hx1 => ?_
     refine a7 (d6 _ _ _ _ _ _) ?_
     refine g9 (fun b1A => ?_) (fun b1A => ?_)
     ·replace h := h.1 b1A
      exact hx1 _ _ (hj1 (decide (x0.d8.b9 = 5)) H _ ((G6.bring 1).bring 1) h)
     ·replace h := h.2 b1A
      refine a7 (d6 _ _ _ _ _ _) ?_
      exact hx1 _ _ (hj1 (decide (x0.d8.b9 = 6)) H _ ((G6.bring 1).bring 1) h)
theorem b2y (x0 : M5) {H : Hp} {K : Bool → Hp → Prop} (h : a1K x0 H K) : a3U x0 H K := by
 intro w I
 refine e1z ?_
 refine b1Z x0 I (fun r0 H' w' I' hk => ⟨H', _, I', r0, rfl, rfl, hk⟩) h
def a1u (x0 : M5) (H : Hp) (K : Sl → Hp → Prop) : Prop :=
 B3 x0.d8.k3 H (fun (a7X : Sl) (H_8 : Hp) =>
 u4 x0.d8.f9 H_8 (fun (a7Y : Sl) (b6F : Hp) =>
 u2 x0.d8.u0 b6F (fun (d0B : Sl) (f1B : Hp) =>
 u2 x0.d8.s7 f1B (fun (d0C : Sl) (b4A : Hp) =>
 ∀ (c1Q : Sl) (a9Y : Hp), Hle b4A a9Y → SlH a9Y 1 csl c1Q [a7X, a7Y, d0B, d0C] → c1Q.n ≤ c1Q.c →
 A7 c1Q a9Y (fun (d0D : Sl) (d6y : Hp) =>
 K d0D d6y)))))
theorem b0q (x0 : M5) {w0 w : World} {ps0 : Nat → Prop} {H0 H : Hp} {K : Sl → Hp → Prop} {R : Value → World → Prop} {E : Pan} (I : Inv w0 ps0 H0 H [] w) (hR : ∀ (r0 : Sl) (H' : Hp) (w' : World) (_ : Inv w0 ps0 H0 H' [] w') (_ : K r0 H'), R (vs r0) w') (h : a1u x0 H K) : c9x (Value.agg (d5 x0.d8).toArray) w R E := by
 unfold a1u at h
 unfold c9x
 refine G7 I (cs := (d5 x0.d8)) rfl fun g_2 w_3 I_4 k_5 => ?_
 refine a9L I_4 fun w_6 I_7 => ?_
 refine D5 F9 ?_
 refine D5 N1 ?_
 refine D5 F9 ?_
 refine D5 N0 ?_
 refine D5 F9 ?_
 refine D5 P4 ?_
 refine D5 F9 ?_
 refine D5 K5 ?_
 refine a1b (ld1 Tryd.isAgg31 (I_7.at1 (o := 3) (vs := [(vs x0.d8.k3)]) (nb rfl) rfl)) ?_
 refine a1b (ld1 Tryd.isAgg28 (I_7.at1 (o := 2) (vs := [(vs x0.d8.f9)]) (nb rfl) rfl)) ?_
 refine a1b (ld1 Tryd.isAgg23 (I_7.at1 (o := 4) (vs := [(vs x0.d8.u0)]) (nb rfl) rfl)) ?_
 refine a1b (ld1 Tryd.isAgg23 (I_7.at1 (o := 5) (vs := [(vs x0.d8.s7)]) (nb rfl) rfl)) ?_
 refine f8 (cap := []) (fun args w => Tryd.call154 args w) ?_
 refine i6 (Fi := []) (Fr := [bx g_2 177 (d5 x0.d8)]) I_7 (h) (fun f0Z H_8 f1a w_9 b4v c1D b8w c4U => ?_) (fun _ _ _ _ _ q => q.elim)
 obtain ⟨a7X, rfl, rfl, h⟩ := c4U
 refine ⟨(b8w _ I_7.lt1 (Inv.a7y (Fi := []) I_7)), (b8w _ I_7.lt1 (Inv.a7y (Fi := []) I_7)), (b8w _ I_7.lt1 (Inv.a7y (Fi := []) I_7)), ?_⟩
 refine f8 (cap := []) (fun args w => Tryd.call150 args w) ?_
 refine i6 (Fi := []) (Fr := [bx g_2 177 (d5 x0.d8)]) b4v (h) (fun f1b b6F f1c r6 b1E f1d c1E c4V => ?_) (fun _ _ _ _ _ q => q.elim)
 obtain ⟨a7Y, rfl, rfl, h⟩ := c4V
 refine ⟨(c1E _ b4v.lt1 (Inv.a7y (Fi := []) b4v)), (c1E _ b4v.lt1 (Inv.a7y (Fi := []) b4v)), ?_⟩
 refine f8 (cap := []) (fun args w => Tryd.call97 args w) ?_
 refine i6 (Fi := []) (Fr := [bx g_2 177 (d5 x0.d8)]) b1E (h) (fun g7P f1B g7Q a8Q b6P g7R g3G g3H => ?_) (fun _ _ _ _ _ q => q.elim)
 obtain ⟨d0B, rfl, rfl, h⟩ := g3H
 refine ⟨(g3G _ b1E.lt1 (Inv.a7y (Fi := []) b1E)), ?_⟩
 refine f8 (cap := []) (fun args w => Tryd.call97 args w) ?_
 refine i6 (Fi := []) (Fr := [bx g_2 177 (d5 x0.d8)]) b6P (h) (fun g7S b4A g7T B2 g3I f1g g7U g3J => ?_) (fun _ _ _ _ _ q => q.elim)
 obtain ⟨d0C, rfl, rfl, h⟩ := g3J
 refine a6l (e := 97) (c := csl) (xs := [a7X, a7Y, d0B, d0C]) g3I (d4M _ _ _ _ _ _ _ _ _ _ _ _) rfl rfl c2T c2U (nb rfl) fun c1Q g7V a6o d6z c5j f1q => ?_
 obtain ⟨a9Y, d6A, b8p, b9a, c5C⟩ := Inv.freezeC c5j d6z (by decide)
 replace h := h c1Q a9Y b8p b9a c5C
 refine f8 (cap := []) (fun args w => Tryd.call94 args w) ?_
 refine i6 (Fi := []) (Fr := [bx g_2 177 (d5 x0.d8)]) d6A (h) (fun g7W d6y g7X e5J g3K c9O g7Y g3L => ?_) (fun _ _ _ _ _ q => q.elim)
 obtain ⟨d0D, rfl, rfl, h⟩ := g3L
 exact hR d0D d6y _ g3K.drop h
theorem b2a (x0 : M5) {H : Hp} {K : Sl → Hp → Prop} (h : a1u x0 H K) : a5Q x0 H K := by
 intro w I
 refine e1B ?_
 refine b0q x0 I (fun r0 H' w' I' hk => ⟨H', _, I', r0, rfl, rfl, hk⟩) h
end Go.Proofs.YthldnpmfelniiaaDoor
