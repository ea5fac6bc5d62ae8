/- Typed formulas of the program's functions, and the theorems that the contracts follow from them; printed by lift.py off the code. -/
import Derived.Test.YthldnpmfelniiaaDoorzLV1
namespace Go.Proofs.YthldnpmfelniiaaDoor
open Go.RowKit
set_option maxRecDepth 100000
set_option maxHeartbeats 2000000
def m7 (N0 : (List b4)) (H : Hp) (K : Sl → Hp → Prop) : Prop :=
 ∀ (u9 : Sl) (Q2 : Hp), Hle H Q2 → SlH Q2 1 g9 u9 N0 → u9.n ≤ u9.c →
 K u9 Q2
def m8 (D3 : Sl) (a2S : Int) (k6 : (List b4)) (j7 : Int) (H : Hp) (n2 : ((List b4) × Int) → Hp → Prop) (K : Sl → Hp → Prop) : Prop :=
 (j7 < a2S →
 (0 : Int) ≤ j7 ∧ (j7 : Int) < D3.n ∧ ∃ x_1 : z6, EltH H D3 j7 2 (j8 x_1) ∧
 a2O x_1 H (fun (G8 : b4) (Q3 : Hp) =>
 (k6.length + ([G8] : List b4).length) * 17 ≤ 140737488355328 ∧
 n2 ((k6 ++ [G8]), (IntKind.wrap .i64 (j7 + 1))) Q3)) ∧
 (¬ (j7 < a2S) →
 m7 k6 H K)
def o6 (x0 : Sl) (H : Hp) (K : Sl → Hp → Prop) : Prop :=
 TL (([], 0) : (List b4) × Int) H fun (s : (List b4) × Int) H n2 => m8 x0 (x0.n : Int) s.1 s.2 H n2 K
theorem P8 (x0 : Sl) {w0 w : World} {ps0 : Nat → Prop} {H0 H : Hp} {K : Sl → Hp → Prop} {R : Value → World → Prop} {E : Pan} (I : Inv w0 ps0 H0 H [] w) (hR : ∀ (r0 : Sl) (H' : Hp) (w' : World) (_ : Inv w0 ps0 H0 H' [] w') (_ : K r0 H'), R (vs r0) w') (h : o6 x0 H K) : F95 (vs x0) (Value.func (.func 96) #[] #[]) w R E := by
 unfold o6 at h
 unfold F95
 have hj1 : ∀ (N0 : (List b4)) (u9 : Sl) (Fs5j1 : Frag) (H : Hp) (w : World) (_ : RowL 141 1 g9 u9 N0 Fs5j1) (_ : Inv w0 ps0 H0 H [Fs5j1] w) (_ : m7 N0 H K), b4m (vs u9) w R E := by
  intro N0 u9 Fs5j1 H w a6W I h
  unfold b4m
  intro _
  unfold m7 at h
  obtain ⟨Q2, a5a, a6c, a9R, a9S⟩ := Inv.freezeC I a6W (by decide)
  replace h := h u9 Q2 a6c a9R a9S
  exact hR u9 Q2 _ a5a h
 refine o8 fun j1 hx1 => ?_
 refine a7 (a7O _ _ _) ?_
 obtain ⟨a2d, V1, a9T, a9U⟩ := h
 refine y8 (J := fun n l w => ∃ (s : (List b4) × Int) (H : Hp) (N1 : Sl) (Fs5l2 : Frag) , n = V1 s ∧ l = (match s with | (k6, j7) => [(vs N1), (vi j7)]) ∧ (match s with | (k6, j7) => RowL 141 1 g9 N1 k6 Fs5l2) ∧ (match s with | (k6, j7) => Inv w0 ps0 H0 H [Fs5l2] w) ∧ a2d s H) ⟨_, ([], 0), H, (Sl.mk none 0 0), [], rfl, rfl, (RowL.nil C9 G5), I.nil, a9T⟩ ?_
 rintro c2y τ_50 w next2 ⟨⟨k6, j7⟩, H, N1, Fs5l2, rfl, a2e, a0s, I, a9V⟩ hn2
 dsimp only at a2e I a0s
 simp only [List.map_cons, List.map_nil, List.cons.injEq, and_true] at a2e
 obtain ⟨e5, e10⟩ := a2e
 simp only [e5, e10]
 obtain ⟨n2, hm2, h⟩ : ∃ n2 : ((List b4) × Int) → Hp → Prop, (∀ s' H', n2 s' H' → a2d s' H' ∧ V1 s' < V1 (k6, j7)) ∧ m8 x0 (x0.n : Int) k6 j7 H n2 K := ⟨_, fun _ _ h => h, a9U (k6, j7) H (fun s' H' => a2d s' H' ∧ V1 s' < V1 (k6, j7)) a9V (fun _ _ a b => ⟨a, b⟩)⟩
 unfold c0z
 unfold m8 at h
 refine a7 (C3 _ _ _ _ _ _) ?_
 refine d9 (fun a0t => ?_) (fun a0t => ?_)
 ·replace h := h.1 a0t
  obtain ⟨h_4, h_5, x_1, h_7, h⟩ := h
  obtain ⟨g_2, o_3, h_6, h_7⟩ := h_7
  refine a7 (a9K h_6 _ _ _ _ h_4 h_5) ?_
  refine b7 (ldA (vs := (j8 x_1)) Tryd.isAgg67 Tryd.sizeOf67 rfl (I.atH h_7)) ?_
  refine B9 I Tryd.zeroValue67 (cs := [(Value.string ⟨#[]⟩), (vi 0)]) rfl fun g_9 k8 Y3 a8p => ?_
  refine r5 Y3 Tryd.sizeOf67 (vs := (j8 x_1)) (cs' := (j8 x_1)) rfl rfl (nb rfl) rfl rfl fun a3V a0h b7Y => ?_
  refine b7 (ldA Tryd.isAgg67 Tryd.sizeOf67 rfl (a0h.at1 (o := 0) (vs := (j8 x_1)) (nb rfl) rfl)) ?_
  refine d7 (cap := []) (fun args w => Tryd.call96 args w) ?_
  refine h9 (Fi := []) (Fr := [bx g_9 67 (j8 x_1), Fs5l2]) a0h (h) (fun b7Z Q3 b8a a1x a0u b8b b4S a6X => ?_) (fun _ _ _ _ _ q => q.elim)
  obtain ⟨G8, rfl, rfl, h⟩ := a6X
  refine a1S (e := 141) (c := g9) (xs := [G8]) a0u (a8S _) rfl rfl C9 G5 (nb rfl) fun b4T b2j B5 a5b a3q b8c => ?_
  obtain ⟨a5c, h⟩ := h
  refine a7Q (s := N1) (xs := k6) (a3q.bring 2) a0s (a5b.srcO ((a3q.bring 2).bring 1)) a5c fun a9W a9X D5 a5d a3X b8d => ?_
  refine a7 (v7 _ _ _ _ _ _) ?_
  exact hn2 _ _ _ (hm2 _ _ h).2 ⟨((k6 ++ [G8]), (IntKind.wrap .i64 (j7 + 1))), Q3, a9W, a9X, rfl, rfl, a5d, ((a3X.bring 1).drop.bring 1).drop, (hm2 _ _ h).1⟩
 ·replace h := h.2 a0t
  exact hx1 _ _ (hj1 k6 N1 Fs5l2 H _ a0s I h)
theorem R3 (x0 : Sl) {H : Hp} {K : Sl → Hp → Prop} (h : o6 x0 H K) : u5 x0 H K := by
 intro w I
 refine c9I ?_
 refine P8 x0 I (fun r0 H' w' I' hk => ⟨H', _, I', r0, rfl, rfl, hk⟩) h
def X7 (x0 : b4) (H : Hp) (K : ByteArray → Bool → Hp → Prop) : Prop :=
 (x0.a3k = true →
 K ((((x0.H9)).C7).g8) true H) ∧
 (x0.a3k = false →
 (x0.a3l = true →
 K ((((x0.c6)).b5).g8) ((decide (((((x0.c6)).b5).c7) = 1)) || (decide (((((x0.c6)).b5).c7) = 2))) H) ∧
 (x0.a3l = false →
 (x0.a3j = true →
 K ((((x0.h7)).f4).g8) ((decide (((((x0.h7)).f4).c7) = 2)) || (decide (((((x0.h7)).f4).c7) = 4))) H) ∧
 (x0.a3j = false →
 K ⟨#[]⟩ false H)))
theorem a7D (x0 : b4) {w0 w : World} {ps0 : Nat → Prop} {H0 H : Hp} {K : ByteArray → Bool → Hp → Prop} {R : Value → World → Prop} {E : Pan} (I : Inv w0 ps0 H0 H [] w) (hR : ∀ (r0 : ByteArray) (r1 : Bool) (H' : Hp) (w' : World) (_ : Inv w0 ps0 H0 H' [] w') (_ : K r0 r1 H'), R (Value.tuple #[(Value.string r0), (Value.bool r1)]) w') (h : X7 x0 H K) : b7x (l8 x0) w R E := by
 unfold X7 at h
 unfold b7x
 refine a7 (b2Y x0) ?_
 refine a7 (u0 _ _ _ rfl) ?_
 refine a7 (u0 _ _ _ rfl) ?_
 refine p1 (fun c3E => ?_) (fun c3E => ?_)
 ·replace h := h.1 c3E
  refine B9 I Tryd.zeroValue175 (cs := [(Value.string ⟨#[]⟩), (vi 0)]) rfl fun g_2 w_3 I_4 k_5 => ?_
  refine r5 I_4 Tryd.sizeOf175 (vs := [(Value.string ((((x0.H9)).C7).g8)), (vi ((((x0.H9)).C7).S1))]) (cs' := [(Value.string ((((x0.H9)).C7).g8)), (vi ((((x0.H9)).C7).S1))]) rfl rfl (nb rfl) rfl rfl fun w_6 I_7 k_8 => ?_
  refine a7 a1H ?_
  refine a7 a6H ?_
  refine b7 (ld1 Tryd.isAgg9 (I_7.at1 (o := 0) (vs := [(Value.string ((((x0.H9)).C7).g8))]) (nb rfl) rfl)) ?_
  exact hR ((((x0.H9)).C7).g8) true H _ I_7.drop h
 ·replace h := h.2 c3E
  refine a7 (b2Z x0) ?_
  refine a7 (u0 _ _ _ rfl) ?_
  refine a7 (u0 _ _ _ rfl) ?_
  refine p1 (fun c3F => ?_) (fun c3F => ?_)
  ·replace h := h.1 c3F
   refine B9 I Tryd.zeroValue177 (cs := [(vi 0), (Value.string ⟨#[]⟩), (Value.slice none 0 0), (Value.slice none 0 0), (Value.slice none 0 0), (Value.slice none 0 0)]) rfl fun e2p W3 y9 b2i => ?_
   refine r5 y9 Tryd.sizeOf177 (vs := [(vi ((((x0.c6)).b5).c7)), (Value.string ((((x0.c6)).b5).g8)), (Value.slice ((((x0.c6)).b5).b9).a ((((x0.c6)).b5).b9).n ((((x0.c6)).b5).b9).c), (Value.slice ((((x0.c6)).b5).g6).a ((((x0.c6)).b5).g6).n ((((x0.c6)).b5).g6).c), (Value.slice ((((x0.c6)).b5).w3).a ((((x0.c6)).b5).w3).n ((((x0.c6)).b5).w3).c), (Value.slice ((((x0.c6)).b5).t1).a ((((x0.c6)).b5).t1).n ((((x0.c6)).b5).t1).c)]) (cs' := [(vi ((((x0.c6)).b5).c7)), (Value.string ((((x0.c6)).b5).g8)), (Value.slice ((((x0.c6)).b5).b9).a ((((x0.c6)).b5).b9).n ((((x0.c6)).b5).b9).c), (Value.slice ((((x0.c6)).b5).g6).a ((((x0.c6)).b5).g6).n ((((x0.c6)).b5).g6).c), (Value.slice ((((x0.c6)).b5).w3).a ((((x0.c6)).b5).w3).n ((((x0.c6)).b5).w3).c), (Value.slice ((((x0.c6)).b5).t1).a ((((x0.c6)).b5).t1).n ((((x0.c6)).b5).t1).c)]) rfl rfl (nb rfl) rfl rfl fun o0 b0a b8l => ?_
   refine a7M b0a fun a1x a0u => ?_
   refine u6 t8 ?_
   refine u6 a1k ?_
   refine u6 t8 ?_
   refine u6 M9 ?_
   refine Y4 (ld1 Tryd.isAgg9 (a0u.at1 (o := 1) (vs := [(Value.string ((((x0.c6)).b5).g8))]) (nb rfl) rfl)) ?_
   refine Y4 (ld1 Tryd.isAgg3 (a0u.at1 (o := 0) (vs := [(vi ((((x0.c6)).b5).c7))]) (nb rfl) rfl)) ?_
   refine u6 (f5 _ _ _ _ _ _) ?_
   refine u6 (Pu.g fun hb => by have b3 := hb; first | exact t8 | (simp only [d4 b3, b6 b3, b6 hb, a4J b3]; exact t8) | (simp only [d4 b3, b6 b3, b6 hb, E3 b3, l9]; exact t8)) ?_
   refine u6 (Pu.g fun hb => by have b3 := hb; first | exact M9 | (simp only [b6 b3]; exact M9) | (simp only [d4 b3, b6 b3, b6 hb, E3 b3, l9]; exact M9)) ?_
   refine c8c (p := (Value.pointer (some ⟨e2p, 0, none⟩))) rfl (Ld.g fun hb => by have b3 := hb; first | exact (ld1 Tryd.isAgg3 (a0u.at1 (o := 0) (vs := [(vi ((((x0.c6)).b5).c7))]) (nb rfl) rfl)) | (simp only [b6 b3]; exact (ld1 Tryd.isAgg3 (a0u.at1 (o := 0) (vs := [(vi ((((x0.c6)).b5).c7))]) (nb rfl) rfl))) | (simp only [d4 b3, b6 b3, b6 hb, E3 b3, l9]; exact (ld1 Tryd.isAgg3 (a0u.at1 (o := 0) (vs := [(vi ((((x0.c6)).b5).c7))]) (nb rfl) rfl)))) ?_
   refine u6 (Pu.g fun hb => by have b3 := hb; first | exact (f5 _ _ _ _ _ _) | (simp only [b6 b3]; exact (f5 _ _ _ _ _ _)) | (simp only [d4 b3, b6 b3, b6 hb, E3 b3, l9]; exact (f5 _ _ _ _ _ _))) ?_
   refine u6 (a1f _ _) ?_
   exact hR ((((x0.c6)).b5).g8) ((decide (((((x0.c6)).b5).c7) = 1)) || (decide (((((x0.c6)).b5).c7) = 2))) H _ a0u.drop h
  ·replace h := h.2 c3F
   refine a7 (b3S x0) ?_
   refine a7 (u0 _ _ _ rfl) ?_
   refine a7 (u0 _ _ _ rfl) ?_
   refine p1 (fun c3G => ?_) (fun c3G => ?_)
   ·replace h := h.1 c3G
    refine B9 I Tryd.zeroValue96 (cs := [(vi 0), (vi 0), (Value.string ⟨#[]⟩), (Value.slice none 0 0)]) rfl fun d3i a7U e2q e6R => ?_
    refine r5 e2q Tryd.sizeOf96 (vs := [(vi ((((x0.h7)).f4).c7)), (vi ((((x0.h7)).f4).W2)), (Value.string ((((x0.h7)).f4).g8)), (Value.slice ((((x0.h7)).f4).p6).a ((((x0.h7)).f4).p6).n ((((x0.h7)).f4).p6).c)]) (cs' := [(vi ((((x0.h7)).f4).c7)), (vi ((((x0.h7)).f4).W2)), (Value.string ((((x0.h7)).f4).g8)), (Value.slice ((((x0.h7)).f4).p6).a ((((x0.h7)).f4).p6).n ((((x0.h7)).f4).p6).c)]) rfl rfl (nb rfl) rfl rfl fun s9 a4e e2j => ?_
    refine a7M a4e fun a4M a8w => ?_
    refine u6 B3 ?_
    refine u6 a0l ?_
    refine u6 B3 ?_
    refine u6 K2 ?_
    refine Y4 (ld1 Tryd.isAgg9 (a8w.at1 (o := 2) (vs := [(Value.string ((((x0.h7)).f4).g8))]) (nb rfl) rfl)) ?_
    refine Y4 (ld1 Tryd.isAgg3 (a8w.at1 (o := 0) (vs := [(vi ((((x0.h7)).f4).c7))]) (nb rfl) rfl)) ?_
    refine u6 (f5 _ _ _ _ _ _) ?_
    refine u6 (Pu.g fun hb => by have b3 := hb; first | exact B3 | (simp only [d4 b3, b6 b3, b6 hb, a4J b3]; exact B3) | (simp only [d4 b3, b6 b3, b6 hb, E3 b3, l9]; exact B3)) ?_
    refine u6 (Pu.g fun hb => by have b3 := hb; first | exact K2 | (simp only [b6 b3]; exact K2) | (simp only [d4 b3, b6 b3, b6 hb, E3 b3, l9]; exact K2)) ?_
    refine c8c (p := (Value.pointer (some ⟨d3i, 0, none⟩))) rfl (Ld.g fun hb => by have b3 := hb; first | exact (ld1 Tryd.isAgg3 (a8w.at1 (o := 0) (vs := [(vi ((((x0.h7)).f4).c7))]) (nb rfl) rfl)) | (simp only [b6 b3]; exact (ld1 Tryd.isAgg3 (a8w.at1 (o := 0) (vs := [(vi ((((x0.h7)).f4).c7))]) (nb rfl) rfl))) | (simp only [d4 b3, b6 b3, b6 hb, E3 b3, l9]; exact (ld1 Tryd.isAgg3 (a8w.at1 (o := 0) (vs := [(vi ((((x0.h7)).f4).c7))]) (nb rfl) rfl)))) ?_
    refine u6 (Pu.g fun hb => by have b3 := hb; first | exact (f5 _ _ _ _ _ _) | (simp only [b6 b3]; exact (f5 _ _ _ _ _ _)) | (simp only [d4 b3, b6 b3, b6 hb, E3 b3, l9]; exact (f5 _ _ _ _ _ _))) ?_
    refine u6 (a1f _ _) ?_
    exact hR ((((x0.h7)).f4).g8) ((decide (((((x0.h7)).f4).c7) = 2)) || (decide (((((x0.h7)).f4).c7) = 4))) H _ a8w.drop h
   ·replace h := h.2 c3G
    exact hR ⟨#[]⟩ false H _ I h
theorem a8x (x0 : b4) {H : Hp} {K : ByteArray → Bool → Hp → Prop} (h : X7 x0 H K) : R8 x0 H K := by
 intro w I
 refine c6c ?_
 refine a7D x0 I (fun r0 r1 H' w' I' hk => ⟨H', _, I', r0, r1, rfl, rfl, hk⟩) h
def V9 (x0 : Int) (H : Hp) (K : Bool → Hp → Prop) : Prop :=
 V4 x0 H (fun (I1 : Int) (H_1 : Hp) =>
 K ((decide (I1 = 3)) || (decide (I1 = 4))) H_1)
theorem a7t (x0 : Int) {w0 w : World} {ps0 : Nat → Prop} {H0 H : Hp} {K : Bool → Hp → Prop} {R : Value → World → Prop} {E : Pan} (I : Inv w0 ps0 H0 H [] w) (hR : ∀ (r0 : Bool) (H' : Hp) (w' : World) (_ : Inv w0 ps0 H0 H' [] w') (_ : K r0 H'), R (Value.bool r0) w') (h : V9 x0 H K) : b7C (Value.int .i32 x0) w R E := by
 unfold V9 at h
 unfold b7C
 refine d7 (cap := []) (fun args w => Tryd.call126 args w) ?_
 refine h9 (Fi := []) (Fr := []) I (h) (fun v_5 H_1 F_6 w_2 I_3 l_8 k_4 q_7 => ?_) (fun _ _ _ _ _ q => q.elim)
 obtain ⟨I1, rfl, rfl, h⟩ := q_7
 refine a7 (f5 _ _ _ _ _ _) ?_
 try simp only [P4]
 refine a7 (Pu.g fun hb => by have b3 := hb; first | exact (f5 _ _ _ _ _ _) | (simp only [b6 b3]; exact (f5 _ _ _ _ _ _)) | (simp only [d4 b3, b6 b3, b6 hb, E3 b3, l9]; exact (f5 _ _ _ _ _ _))) ?_
 refine a7 (a1f _ _) ?_
 exact hR ((decide (I1 = 3)) || (decide (I1 = 4))) H_1 _ I_3 h
theorem a7E (x0 : Int) {H : Hp} {K : Bool → Hp → Prop} (h : V9 x0 H K) : a0N x0 H K := by
 intro w I
 refine c6o ?_
 refine a7t x0 I (fun r0 H' w' I' hk => ⟨H', _, I', r0, rfl, rfl, hk⟩) h
def E7 (H : Hp) (K : Int → Hp → Prop) : Prop :=
 K (-1) H
def E8 (U2 : (List ByteArray)) (a4c : ByteArray) (b5q : Int) (D3 : Int) (H : Hp) (n2 : Int → Hp → Prop) (K : Int → Hp → Prop) : Prop :=
 (D3 < b5q →
 (0 : Int) ≤ D3 ∧ ∃ x_1 : ByteArray, (U2)[(D3 : Int).toNat]? = some x_1 ∧
 (a4c = x_1 →
 K D3 H) ∧
 (¬ (a4c = x_1) →
 n2 (IntKind.wrap .i64 (D3 + 1)) H)) ∧
 (¬ (D3 < b5q) →
 E7 H K)
def I8 (x0 : (List ByteArray)) (x1 : ByteArray) (H : Hp) (K : Int → Hp → Prop) : Prop :=
 TL (0 : Int) H fun (s : Int) H n2 => E8 x0 x1 (x0.length : Int) s H n2 K
theorem a3e (x0 : (List ByteArray)) (x1 : ByteArray) (sx0 : Sl) (Fx0 : Frag) (hx0 : RowL 9 1 r9 sx0 x0 Fx0) {w0 w : World} {ps0 : Nat → Prop} {H0 H : Hp} {K : Int → Hp → Prop} {R : Value → World → Prop} {E : Pan} (I : Inv w0 ps0 H0 H [Fx0] w) (hR : ∀ (r0 : Int) (H' : Hp) (w' : World) (_ : Inv w0 ps0 H0 H' [Fx0] w') (_ : K r0 H'), R (vi r0) w') (h : I8 x0 x1 H K) : b7E (vs sx0) (Value.string x1) w R E := by
 unfold I8 at h
 unfold b7E
 have hj1 : ∀ (H : Hp) (w : World) (_ : Inv w0 ps0 H0 H [Fx0] w) (_ : E7 H K), b1X w R E := by
  intro H w I h
  unfold b1X
  intro _
  unfold E7 at h
  exact hR (-1) H _ I h
 refine o8 fun j1 hx1 => ?_
 refine a7 (b7l Tryd.underlying47 hx0) ?_
 obtain ⟨c3H, b5r, e2r, e2s⟩ := h
 refine y8 (J := fun n l w => ∃ (s : Int) (H : Hp) , n = b5r s ∧ l = [(vi s)] ∧ Inv w0 ps0 H0 H [Fx0] w ∧ c3H s H) ⟨_, 0, H, rfl, rfl, I, e2r⟩ ?_
 rintro e6S τ_15 w next2 ⟨D3, H, rfl, c2C, I, d3x⟩ hn2
 simp only [List.map_cons, List.map_nil, List.cons.injEq, and_true] at c2C
 have e8 := c2C
 simp only [e8]
 obtain ⟨n2, hm2, h⟩ : ∃ n2 : Int → Hp → Prop, (∀ s' H', n2 s' H' → c3H s' H' ∧ b5r s' < b5r D3) ∧ E8 x0 x1 (x0.length : Int) D3 H n2 K := ⟨_, fun _ _ h => h, e2s D3 H (fun s' H' => c3H s' H' ∧ b5r s' < b5r D3) d3x (fun _ _ a b => ⟨a, b⟩)⟩
 unfold b6N
 unfold E8 at h
 refine a7 (C3 _ _ _ _ _ _) ?_
 refine d9 (fun c_9 => ?_) (fun c_9 => ?_)
 ·replace h := h.1 c_9
  obtain ⟨h_3, x_1, h_4, h⟩ := h
  obtain ⟨g_2, a_6, h_5, h_7⟩ := hx0.addr h_4
  refine a7 (c2i h_5 _ _ _ _ h_3 (hx0.lt h_3 h_4)) ?_
  refine b7 (ld1 (v := (Value.string x_1)) Tryd.isAgg9 (hx0.atW I h_5 h_4)) ?_
  refine a7 (T0 _ _ _ _ _) ?_
  refine d9 (fun c_8 => ?_) (fun c_8 => ?_)
  ·replace h := h.1 c_8
   exact hR D3 H _ I h
  ·replace h := h.2 c_8
   refine a7 (v7 _ _ _ _ _ _) ?_
   exact hn2 _ _ _ (hm2 _ _ h).2 ⟨(IntKind.wrap .i64 (D3 + 1)), H, rfl, rfl, I, (hm2 _ _ h).1⟩
 ·replace h := h.2 c_9
  exact hx1 _ _ (hj1 H _ I h)
theorem a3A (x0 : (List ByteArray)) (x1 : ByteArray) {H : Hp} {K : Int → Hp → Prop} (h : I8 x0 x1 H K) : Q1 x0 x1 H K := by
 intro sx0 Fx0 hx0 w I
 refine c6s ?_
 refine a3e x0 x1 sx0 Fx0 hx0 I (fun r0 H' w' I' hk => ⟨H', _, I', r0, rfl, rfl, hk⟩) h
def W0 (x0 : i5) (H : Hp) (K : Int → Hp → Prop) : Prop :=
 Y8 x0 H (fun (C0 : b8) (H_6 : Hp) =>
 K C0.fe H_6)
theorem a7u (x0 : i5) {w0 w : World} {ps0 : Nat → Prop} {H0 H : Hp} {K : Int → Hp → Prop} {R : Value → World → Prop} {E : Pan} (I : Inv w0 ps0 H0 H [] w) (hR : ∀ (r0 : Int) (H' : Hp) (w' : World) (_ : Inv w0 ps0 H0 H' [] w') (_ : K r0 H'), R (vi r0) w') (h : W0 x0 H K) : F27 (Value.agg (f9 x0).toArray) w R E := by
 unfold W0 at h
 unfold F27
 refine K1 I (cs := (f9 x0)) rfl fun g_2 w_3 I_4 k_5 => ?_
 refine b7 (ldA Tryd.isAgg25 Tryd.sizeOf25 rfl (I_4.at1 (o := 0) (vs := (f9 x0)) (nb rfl) rfl)) ?_
 refine d7 (cap := []) (fun args w => Tryd.call66 args w) ?_
 refine h9 (Fi := []) (Fr := [bx g_2 25 (f9 x0)]) I_4 (h) (fun a8m H_6 a8n w_7 I_8 a8o k_9 a0Z => ?_) (fun _ _ _ _ _ q => q.elim)
 obtain ⟨C0, d2W, rfl, rfl, h⟩ := a0Z
 refine a7 (D7 _) ?_
 refine a7 a0k ?_
 refine b7 (ld1 Tryd.isAgg34 (I_8.at1 (o := 2) (vs := [(vi C0.fe)]) (nb rfl) rfl)) ?_
 exact hR C0.fe H_6 _ I_8.drop.drop h
theorem a7F (x0 : i5) {H : Hp} {K : Int → Hp → Prop} (h : W0 x0 H K) : a0P x0 H K := by
 intro w I
 refine c8o ?_
 refine a7u x0 I (fun r0 H' w' I' hk => ⟨H', _, I', r0, rfl, rfl, hk⟩) h
def B0 (a7g : Bool) (c5b : Int) (a9h : Bool) (cr_6j1 : k9) (_cr_1j1 : B2) (H : Hp) (K : Bool → Hp → Prop) : Prop :=
 (a9h = true →
 K (a7g && (decide (cr_6j1.fexprs = 0 ∧ cr_6j1.fconds = 1))) H) ∧
 (a9h = false →
 (c5b = 7 →
 K (a7g && (decide (cr_6j1.fexprs = 0 ∧ cr_6j1.fconds = 0))) H) ∧
 (¬ (c5b = 7) →
 K false H))
def O9 (x0 : B2) (H : Hp) (K : Bool → Hp → Prop) : Prop :=
 (x0.b5.c7 = 1 →
 K ((!(decide (0 < (IntKind.wrap .i64 ((x0.b5.w3.n : Int) + (x0.b5.t1.n : Int)))))) && (decide ((x0.b5.b9.n : Int) = 1 ∧ (x0.b5.g6.n : Int) = 0))) H) ∧
 (¬ (x0.b5.c7 = 1) →
 (x0.b5.c7 = 2 →
 K ((!(decide (0 < (IntKind.wrap .i64 ((x0.b5.w3.n : Int) + (x0.b5.t1.n : Int)))))) && (decide ((x0.b5.b9.n : Int) = 2 ∧ (x0.b5.g6.n : Int) = 0))) H) ∧
 (¬ (x0.b5.c7 = 2) →
 (x0.b5.c7 = 3 →
 K ((decide (x0.b5.g8 = ⟨#[]⟩)) && (decide ((x0.b5.b9.n : Int) = 0 ∧ (x0.b5.g6.n : Int) = 1))) H) ∧
 (¬ (x0.b5.c7 = 3) →
 (x0.b5.c7 = 4 →
 K (((decide (x0.b5.g8 = ⟨#[]⟩)) && (decide ((x0.b5.t1.n : Int) = 0))) && (decide ((x0.b5.b9.n : Int) = 0 ∧ (x0.b5.g6.n : Int) = 1))) H) ∧
 (¬ (x0.b5.c7 = 4) →
 (x0.b5.c7 = 5 →
 B0 ((decide (x0.b5.g8 = ⟨#[]⟩)) && (!(decide (0 < (IntKind.wrap .i64 ((x0.b5.w3.n : Int) + (x0.b5.t1.n : Int))))))) x0.b5.c7 (decide (x0.b5.c7 = 5)) (k9.mk (x0.b5.b9.n : Int) (x0.b5.g6.n : Int)) x0 H K) ∧
 (¬ (x0.b5.c7 = 5) →
 B0 ((decide (x0.b5.g8 = ⟨#[]⟩)) && (!(decide (0 < (IntKind.wrap .i64 ((x0.b5.w3.n : Int) + (x0.b5.t1.n : Int))))))) x0.b5.c7 (decide (x0.b5.c7 = 6)) (k9.mk (x0.b5.b9.n : Int) (x0.b5.g6.n : Int)) x0 H K)))))
theorem a5q (x0 : B2) {w0 w : World} {ps0 : Nat → Prop} {H0 H : Hp} {K : Bool → Hp → Prop} {R : Value → World → Prop} {E : Pan} (I : Inv w0 ps0 H0 H [] w) (hR : ∀ (r0 : Bool) (H' : Hp) (w' : World) (_ : Inv w0 ps0 H0 H' [] w') (_ : K r0 H'), R (Value.bool r0) w') (h : O9 x0 H K) : b7T (Value.agg (d5 x0.b5).toArray) w R E := by
 unfold O9 at h
 unfold b7T
 refine K1 I (cs := (d5 x0.b5)) rfl fun g_2 w_3 I_4 k_5 => ?_
 refine a7 t8 ?_
 refine a7 a2F ?_
 refine b7 (ld1 Tryd.isAgg23 (I_4.at1 (o := 4) (vs := [(vs x0.b5.w3)]) (nb rfl) rfl)) ?_
 refine a7 (U4 _ _ _) ?_
 refine a7 t8 ?_
 refine a7 X4 ?_
 refine b7 (ld1 Tryd.isAgg23 (I_4.at1 (o := 5) (vs := [(vs x0.b5.t1)]) (nb rfl) rfl)) ?_
 refine a7 (U4 _ _ _) ?_
 refine a7 (v7 _ _ _ _ _ _) ?_
 refine a7 (a7L _ _ _ _ _ _) ?_
 refine a7 t8 ?_
 refine a7 a1l ?_
 refine b7 (ld1 Tryd.isAgg28 (I_4.at1 (o := 2) (vs := [(vs x0.b5.b9)]) (nb rfl) rfl)) ?_
 refine a7 (M0 _ _ _) ?_
 refine a7 t8 ?_
 refine a7 a1m ?_
 refine b7 (ld1 Tryd.isAgg31 (I_4.at1 (o := 3) (vs := [(vs x0.b5.g6)]) (nb rfl) rfl)) ?_
 refine a7 (X3 _ _ _) ?_
 refine a7 (s8 _ _) ?_
 refine B9 I_4 Tryd.zeroValue213 (cs := [(vi 0), (vi 0)]) rfl fun g_7 w_8 I_9 c2x => ?_
 refine r5 I_9 Tryd.sizeOf213 (vs := [(vi (x0.b5.b9.n : Int)), (vi (x0.b5.g6.n : Int))]) (cs' := [(vi (x0.b5.b9.n : Int)), (vi (x0.b5.g6.n : Int))]) rfl rfl (nb rfl) rfl rfl fun W3 y9 b2i => ?_
 refine a7 t8 ?_
 refine a7 a1k ?_
 refine b7 (ld1 Tryd.isAgg9 ((y9.bring 1).at1 (o := 1) (vs := [(Value.string x0.b5.g8)]) (nb rfl) rfl)) ?_
 refine a7 (T0 _ _ _ _ _) ?_
 try simp only [P4]
 refine a7 (Pu.g fun hb => by have b3 := hb; first | exact (E2 _) | (simp only [b6 b3]; exact (E2 _)) | (simp only [d4 b3, b6 b3, b6 hb, m0 b3, l9]; exact (E2 _))) ?_
 refine a7 (J8 _ _) ?_
 refine a7 t8 ?_
 refine a7 M9 ?_
 refine b7 (ld1 Tryd.isAgg3 ((y9.bring 1).at1 (o := 0) (vs := [(vi x0.b5.c7)]) (nb rfl) rfl)) ?_
 refine a7 (f5 _ _ _ _ _ _) ?_
 refine d9 (fun a4W => ?_) (fun a4W => ?_)
 ·replace h := h.1 a4W
  refine a7 (E2 _) ?_
  refine b7 (Ld.g fun hb => by have b3 := hb; first | exact (ldA Tryd.isAgg213 Tryd.sizeOf213 rfl (y9.at1 (o := 0) (vs := [(vi (x0.b5.b9.n : Int)), (vi (x0.b5.g6.n : Int))]) (nb rfl) rfl)) | (simp only [d4 b3, b6 b3, b6 hb, G7 b3]; exact (ldA Tryd.isAgg213 Tryd.sizeOf213 rfl (y9.at1 (o := 0) (vs := [(vi (x0.b5.b9.n : Int)), (vi (x0.b5.g6.n : Int))]) (nb rfl) rfl))) | (simp only [d4 b3, b6 b3, b6 hb, m0 b3, l9]; exact (ldA Tryd.isAgg213 Tryd.sizeOf213 rfl (y9.at1 (o := 0) (vs := [(vi (x0.b5.b9.n : Int)), (vi (x0.b5.g6.n : Int))]) (nb rfl) rfl)))) ?_
  refine a7 (Pu.g fun hb => by have b3 := hb; first | exact (s8 _ _) | (simp only [d4 b3, b6 b3, b6 hb, G7 b3]; exact (s8 _ _)) | (simp only [d4 b3, b6 b3, b6 hb, m0 b3, l9]; exact (s8 _ _))) ?_
  refine a7 (Pu.g fun hb => by have b3 := hb; first | exact (C6 _ _ _ _ _ _) | (simp only [b6 b3]; exact (C6 _ _ _ _ _ _)) | (simp only [d4 b3, b6 b3, b6 hb, m0 b3, l9]; exact (C6 _ _ _ _ _ _))) ?_
  refine a7 (J8 _ _) ?_
  exact hR ((!(decide (0 < (IntKind.wrap .i64 ((x0.b5.w3.n : Int) + (x0.b5.t1.n : Int)))))) && (decide ((x0.b5.b9.n : Int) = 1 ∧ (x0.b5.g6.n : Int) = 0))) H _ y9.drop.drop h
 ·replace h := h.2 a4W
  refine a7 (f5 _ _ _ _ _ _) ?_
  refine d9 (fun a4X => ?_) (fun a4X => ?_)
  ·replace h := h.1 a4X
   refine a7 (E2 _) ?_
   refine b7 (Ld.g fun hb => by have b3 := hb; first | exact (ldA Tryd.isAgg213 Tryd.sizeOf213 rfl (y9.at1 (o := 0) (vs := [(vi (x0.b5.b9.n : Int)), (vi (x0.b5.g6.n : Int))]) (nb rfl) rfl)) | (simp only [d4 b3, b6 b3, b6 hb, G7 b3]; exact (ldA Tryd.isAgg213 Tryd.sizeOf213 rfl (y9.at1 (o := 0) (vs := [(vi (x0.b5.b9.n : Int)), (vi (x0.b5.g6.n : Int))]) (nb rfl) rfl))) | (simp only [d4 b3, b6 b3, b6 hb, m0 b3, l9]; exact (ldA Tryd.isAgg213 Tryd.sizeOf213 rfl (y9.at1 (o := 0) (vs := [(vi (x0.b5.b9.n : Int)), (vi (x0.b5.g6.n : Int))]) (nb rfl) rfl)))) ?_
   refine a7 (Pu.g fun hb => by have b3 := hb; first | exact (s8 _ _) | (simp only [d4 b3, b6 b3, b6 hb, G7 b3]; exact (s8 _ _)) | (simp only [d4 b3, b6 b3, b6 hb, m0 b3, l9]; exact (s8 _ _))) ?_
   refine a7 (Pu.g fun hb => by have b3 := hb; first | exact (C6 _ _ _ _ _ _) | (simp only [b6 b3]; exact (C6 _ _ _ _ _ _)) | (simp only [d4 b3, b6 b3, b6 hb, m0 b3, l9]; exact (C6 _ _ _ _ _ _))) ?_
   refine a7 (J8 _ _) ?_
   exact hR ((!(decide (0 < (IntKind.wrap .i64 ((x0.b5.w3.n : Int) + (x0.b5.t1.n : Int)))))) && (decide ((x0.b5.b9.n : Int) = 2 ∧ (x0.b5.g6.n : Int) = 0))) H _ y9.drop.drop h
  ·replace h := h.2 a4X
   refine a7 (f5 _ _ _ _ _ _) ?_
   refine d9 (fun a1Z => ?_) (fun a1Z => ?_)
   ·replace h := h.1 a1Z
    refine a7 t8 ?_
    refine a7 a1k ?_
    refine b7 (ld1 Tryd.isAgg9 ((y9.bring 1).at1 (o := 1) (vs := [(Value.string x0.b5.g8)]) (nb rfl) rfl)) ?_
    refine a7 (T0 _ _ _ _ _) ?_
    refine b7 (Ld.g fun hb => by have b3 := hb; first | exact (ldA Tryd.isAgg213 Tryd.sizeOf213 rfl (y9.at1 (o := 0) (vs := [(vi (x0.b5.b9.n : Int)), (vi (x0.b5.g6.n : Int))]) (nb rfl) rfl)) | (simp only [d4 b3, b6 b3, b6 hb, G7 b3]; exact (ldA Tryd.isAgg213 Tryd.sizeOf213 rfl (y9.at1 (o := 0) (vs := [(vi (x0.b5.b9.n : Int)), (vi (x0.b5.g6.n : Int))]) (nb rfl) rfl))) | (simp only [d4 b3, b6 b3, b6 hb, m0 b3, l9]; exact (ldA Tryd.isAgg213 Tryd.sizeOf213 rfl (y9.at1 (o := 0) (vs := [(vi (x0.b5.b9.n : Int)), (vi (x0.b5.g6.n : Int))]) (nb rfl) rfl)))) ?_
    refine a7 (Pu.g fun hb => by have b3 := hb; first | exact (s8 _ _) | (simp only [d4 b3, b6 b3, b6 hb, G7 b3]; exact (s8 _ _)) | (simp only [d4 b3, b6 b3, b6 hb, m0 b3, l9]; exact (s8 _ _))) ?_
    refine a7 (Pu.g fun hb => by have b3 := hb; first | exact (C6 _ _ _ _ _ _) | (simp only [b6 b3]; exact (C6 _ _ _ _ _ _)) | (simp only [d4 b3, b6 b3, b6 hb, m0 b3, l9]; exact (C6 _ _ _ _ _ _))) ?_
    refine a7 (J8 _ _) ?_
    exact hR ((decide (x0.b5.g8 = ⟨#[]⟩)) && (decide ((x0.b5.b9.n : Int) = 0 ∧ (x0.b5.g6.n : Int) = 1))) H _ y9.drop.drop h
   ·replace h := h.2 a1Z
    refine a7 (f5 _ _ _ _ _ _) ?_
    refine d9 (fun a4Y => ?_) (fun a4Y => ?_)
    ·replace h := h.1 a4Y
     refine a7 t8 ?_
     refine a7 a1k ?_
     refine b7 (ld1 Tryd.isAgg9 ((y9.bring 1).at1 (o := 1) (vs := [(Value.string x0.b5.g8)]) (nb rfl) rfl)) ?_
     refine a7 (T0 _ _ _ _ _) ?_
     refine a7 (Pu.g fun hb => by have b3 := hb; first | exact t8 | (simp only [d4 b3, b6 b3, b6 hb, G7 b3]; exact t8) | (simp only [d4 b3, b6 b3, b6 hb, m0 b3, l9]; exact t8)) ?_
     refine a7 (Pu.g fun hb => by have b3 := hb; first | exact X4 | (simp only [b6 b3]; exact X4) | (simp only [d4 b3, b6 b3, b6 hb, m0 b3, l9]; exact X4)) ?_
     refine b7 (Ld.g fun hb => by have b3 := hb; first | exact (ld1 Tryd.isAgg23 ((y9.bring 1).at1 (o := 5) (vs := [(vs x0.b5.t1)]) (nb rfl) rfl)) | (simp only [b6 b3]; exact (ld1 Tryd.isAgg23 ((y9.bring 1).at1 (o := 5) (vs := [(vs x0.b5.t1)]) (nb rfl) rfl))) | (simp only [d4 b3, b6 b3, b6 hb, m0 b3, l9]; exact (ld1 Tryd.isAgg23 ((y9.bring 1).at1 (o := 5) (vs := [(vs x0.b5.t1)]) (nb rfl) rfl)))) ?_
     refine a7 (Pu.g fun hb => by have b3 := hb; first | exact (U4 _ _ _) | (simp only [b6 b3]; exact (U4 _ _ _)) | (simp only [d4 b3, b6 b3, b6 hb, m0 b3, l9]; exact (U4 _ _ _))) ?_
     refine a7 (Pu.g fun hb => by have b3 := hb; first | exact (f5 _ _ _ _ _ _) | (simp only [b6 b3]; exact (f5 _ _ _ _ _ _)) | (simp only [d4 b3, b6 b3, b6 hb, m0 b3, l9]; exact (f5 _ _ _ _ _ _))) ?_
     refine a7 (J8 _ _) ?_
     refine b7 (Ld.g fun hb => by have b3 := hb; first | exact (ldA Tryd.isAgg213 Tryd.sizeOf213 rfl (y9.at1 (o := 0) (vs := [(vi (x0.b5.b9.n : Int)), (vi (x0.b5.g6.n : Int))]) (nb rfl) rfl)) | (simp only [d4 b3, b6 b3, b6 hb, G7 b3]; exact (ldA Tryd.isAgg213 Tryd.sizeOf213 rfl (y9.at1 (o := 0) (vs := [(vi (x0.b5.b9.n : Int)), (vi (x0.b5.g6.n : Int))]) (nb rfl) rfl))) | (simp only [d4 b3, b6 b3, b6 hb, m0 b3, l9]; exact (ldA Tryd.isAgg213 Tryd.sizeOf213 rfl (y9.at1 (o := 0) (vs := [(vi (x0.b5.b9.n : Int)), (vi (x0.b5.g6.n : Int))]) (nb rfl) rfl)))) ?_
     refine a7 (Pu.g fun hb => by have b3 := hb; first | exact (s8 _ _) | (simp only [d4 b3, b6 b3, b6 hb, G7 b3]; exact (s8 _ _)) | (simp only [d4 b3, b6 b3, b6 hb, m0 b3, l9]; exact (s8 _ _))) ?_
     refine a7 (Pu.g fun hb => by have b3 := hb; first | exact (C6 _ _ _ _ _ _) | (simp only [b6 b3]; exact (C6 _ _ _ _ _ _)) | (simp only [d4 b3, b6 b3, b6 hb, m0 b3, l9]; exact (C6 _ _ _ _ _ _))) ?_
     refine a7 (J8 _ _) ?_
     exact hR (((decide (x0.b5.g8 = ⟨#[]⟩)) && (decide ((x0.b5.t1.n : Int) = 0))) && (decide ((x0.b5.b9.n : Int) = 0 ∧ (x0.b5.g6.n : Int) = 1))) H _ y9.drop.drop h
    ·replace h := h.2 a4Y
     have hj1 : ∀ (a9h : Bool) (H : Hp) (w : World) (_ : Inv w0 ps0 H0 H [bx g_7 213 [(vi (k9.mk (x0.b5.b9.n : Int) (x0.b5.g6.n : Int)).fexprs), (vi (k9.mk (x0.b5.b9.n : Int) (x0.b5.g6.n : Int)).fconds)], bx g_2 177 (d5 x0.b5)] w) (_ : B0 ((decide (x0.b5.g8 = ⟨#[]⟩)) && (!(decide (0 < (IntKind.wrap .i64 ((x0.b5.w3.n : Int) + (x0.b5.t1.n : Int))))))) x0.b5.c7 a9h (k9.mk (x0.b5.b9.n : Int) (x0.b5.g6.n : Int)) x0 H K), b2g (Value.pointer (some ⟨g_7, 0, none⟩)) (Value.bool ((decide (x0.b5.g8 = ⟨#[]⟩)) && (!(decide (0 < (IntKind.wrap .i64 ((x0.b5.w3.n : Int) + (x0.b5.t1.n : Int)))))))) (vi x0.b5.c7) (Value.bool a9h) w R E := by
      intro a9h H w I h
      unfold b2g
      intro _
      unfold B0 at h
      refine p1 (fun a2b => ?_) (fun a2b => ?_)
      ·replace h := h.1 a2b
       refine b7 (Ld.g fun hb => by have b3 := hb; first | exact (ldA Tryd.isAgg213 Tryd.sizeOf213 rfl (I.at1 (o := 0) (vs := [(vi (k9.mk (x0.b5.b9.n : Int) (x0.b5.g6.n : Int)).fexprs), (vi (k9.mk (x0.b5.b9.n : Int) (x0.b5.g6.n : Int)).fconds)]) (nb rfl) rfl)) | (simp only [d4 b3, b6 b3, b6 hb, G7 b3]; exact (ldA Tryd.isAgg213 Tryd.sizeOf213 rfl (I.at1 (o := 0) (vs := [(vi (k9.mk (x0.b5.b9.n : Int) (x0.b5.g6.n : Int)).fexprs), (vi (k9.mk (x0.b5.b9.n : Int) (x0.b5.g6.n : Int)).fconds)]) (nb rfl) rfl))) | (simp only [d4 b3, b6 b3, b6 hb, m0 b3, l9]; exact (ldA Tryd.isAgg213 Tryd.sizeOf213 rfl (I.at1 (o := 0) (vs := [(vi (k9.mk (x0.b5.b9.n : Int) (x0.b5.g6.n : Int)).fexprs), (vi (k9.mk (x0.b5.b9.n : Int) (x0.b5.g6.n : Int)).fconds)]) (nb rfl) rfl)))) ?_
       refine a7 (Pu.g fun hb => by have b3 := hb; first | exact (s8 _ _) | (simp only [d4 b3, b6 b3, b6 hb, G7 b3]; exact (s8 _ _)) | (simp only [d4 b3, b6 b3, b6 hb, m0 b3, l9]; exact (s8 _ _))) ?_
       refine a7 (Pu.g fun hb => by have b3 := hb; first | exact (C6 _ _ _ _ _ _) | (simp only [b6 b3]; exact (C6 _ _ _ _ _ _)) | (simp only [d4 b3, b6 b3, b6 hb, m0 b3, l9]; exact (C6 _ _ _ _ _ _))) ?_
       refine a7 (J8 _ _) ?_
       exact hR (((decide (x0.b5.g8 = ⟨#[]⟩)) && (!(decide (0 < (IntKind.wrap .i64 ((x0.b5.w3.n : Int) + (x0.b5.t1.n : Int))))))) && (decide ((k9.mk (x0.b5.b9.n : Int) (x0.b5.g6.n : Int)).fexprs = 0 ∧ (k9.mk (x0.b5.b9.n : Int) (x0.b5.g6.n : Int)).fconds = 1))) H _ I.drop.drop h
      ·replace h := h.2 a2b
       refine a7 (f5 _ _ _ _ _ _) ?_
       refine d9 (fun a9Q => ?_) (fun a9Q => ?_)
       ·replace h := h.1 a9Q
        refine b7 (Ld.g fun hb => by have b3 := hb; first | exact (ldA Tryd.isAgg213 Tryd.sizeOf213 rfl (I.at1 (o := 0) (vs := [(vi (k9.mk (x0.b5.b9.n : Int) (x0.b5.g6.n : Int)).fexprs), (vi (k9.mk (x0.b5.b9.n : Int) (x0.b5.g6.n : Int)).fconds)]) (nb rfl) rfl)) | (simp only [d4 b3, b6 b3, b6 hb, G7 b3]; exact (ldA Tryd.isAgg213 Tryd.sizeOf213 rfl (I.at1 (o := 0) (vs := [(vi (k9.mk (x0.b5.b9.n : Int) (x0.b5.g6.n : Int)).fexprs), (vi (k9.mk (x0.b5.b9.n : Int) (x0.b5.g6.n : Int)).fconds)]) (nb rfl) rfl))) | (simp only [d4 b3, b6 b3, b6 hb, m0 b3, l9]; exact (ldA Tryd.isAgg213 Tryd.sizeOf213 rfl (I.at1 (o := 0) (vs := [(vi (k9.mk (x0.b5.b9.n : Int) (x0.b5.g6.n : Int)).fexprs), (vi (k9.mk (x0.b5.b9.n : Int) (x0.b5.g6.n : Int)).fconds)]) (nb rfl) rfl)))) ?_
        refine a7 (Pu.g fun hb => by have b3 := hb; first | exact (a6N ) | (simp only [d4 b3, b6 b3, b6 hb, G7 b3]; exact (a6N )) | (simp only [d4 b3, b6 b3, b6 hb, m0 b3, l9]; exact (a6N ))) ?_
        refine a7 (Pu.g fun hb => by have b3 := hb; first | exact (C6 _ _ _ _ _ _) | (simp only [b6 b3]; exact (C6 _ _ _ _ _ _)) | (simp only [d4 b3, b6 b3, b6 hb, m0 b3, l9]; exact (C6 _ _ _ _ _ _))) ?_
        refine a7 (J8 _ _) ?_
        exact hR (((decide (x0.b5.g8 = ⟨#[]⟩)) && (!(decide (0 < (IntKind.wrap .i64 ((x0.b5.w3.n : Int) + (x0.b5.t1.n : Int))))))) && (decide ((k9.mk (x0.b5.b9.n : Int) (x0.b5.g6.n : Int)).fexprs = 0 ∧ (k9.mk (x0.b5.b9.n : Int) (x0.b5.g6.n : Int)).fconds = 0))) H _ I.drop.drop h
       ·replace h := h.2 a9Q
        exact hR false H _ I.drop.drop h
     refine o8 fun j1 hx1 => ?_
     refine a7 (f5 _ _ _ _ _ _) ?_
     refine d9 (fun a4Z => ?_) (fun a4Z => ?_)
     ·replace h := h.1 a4Z
      exact hx1 _ _ (hj1 (decide (x0.b5.c7 = 5)) H _ ((y9.bring 1).bring 1) h)
     ·replace h := h.2 a4Z
      refine a7 (f5 _ _ _ _ _ _) ?_
      exact hx1 _ _ (hj1 (decide (x0.b5.c7 = 6)) H _ ((y9.bring 1).bring 1) h)
theorem a5C (x0 : B2) {H : Hp} {K : Bool → Hp → Prop} (h : O9 x0 H K) : W9 x0 H K := by
 intro w I
 refine c7t ?_
 refine a5q x0 I (fun r0 H' w' I' hk => ⟨H', _, I', r0, rfl, rfl, hk⟩) h
def N6 (x0 : B2) (H : Hp) (K : Sl → Hp → Prop) : Prop :=
 o2 x0.b5.g6 H (fun (a2T : Sl) (H_8 : Hp) =>
 k4 x0.b5.b9 H_8 (fun (a2U : Sl) (a8q : Hp) =>
 k3 x0.b5.w3 a8q (fun (b8E : Sl) (d3y : Hp) =>
 k3 x0.b5.t1 d3y (fun (b8F : Sl) (a7b : Hp) =>
 ∀ (b2w : Sl) (b5s : Hp), Hle a7b b5s → SlH b5s 1 csl b2w [a2T, a2U, b8E, b8F] → b2w.n ≤ b2w.c →
 m9 b2w b5s (fun (b8G : Sl) (c3I : Hp) =>
 K b8G c3I)))))
theorem a4v (x0 : B2) {w0 w : World} {ps0 : Nat → Prop} {H0 H : Hp} {K : Sl → Hp → Prop} {R : Value → World → Prop} {E : Pan} (I : Inv w0 ps0 H0 H [] w) (hR : ∀ (r0 : Sl) (H' : Hp) (w' : World) (_ : Inv w0 ps0 H0 H' [] w') (_ : K r0 H'), R (vs r0) w') (h : N6 x0 H K) : b7X (Value.agg (d5 x0.b5).toArray) w R E := by
 unfold N6 at h
 unfold b7X
 refine K1 I (cs := (d5 x0.b5)) rfl fun g_2 w_3 I_4 k_5 => ?_
 refine a7M I_4 fun w_6 I_7 => ?_
 refine u6 t8 ?_
 refine u6 a1m ?_
 refine u6 t8 ?_
 refine u6 a1l ?_
 refine u6 t8 ?_
 refine u6 a2F ?_
 refine u6 t8 ?_
 refine u6 X4 ?_
 refine Y4 (ld1 Tryd.isAgg31 (I_7.at1 (o := 3) (vs := [(vs x0.b5.g6)]) (nb rfl) rfl)) ?_
 refine Y4 (ld1 Tryd.isAgg28 (I_7.at1 (o := 2) (vs := [(vs x0.b5.b9)]) (nb rfl) rfl)) ?_
 refine Y4 (ld1 Tryd.isAgg23 (I_7.at1 (o := 4) (vs := [(vs x0.b5.w3)]) (nb rfl) rfl)) ?_
 refine Y4 (ld1 Tryd.isAgg23 (I_7.at1 (o := 5) (vs := [(vs x0.b5.t1)]) (nb rfl) rfl)) ?_
 refine d7 (cap := []) (fun args w => Tryd.call154 args w) ?_
 refine h9 (Fi := []) (Fr := [bx g_2 177 (d5 x0.b5)]) I_7 (h) (fun d2X H_8 d2Y w_9 a6Y b2l a9Y b4U => ?_) (fun _ _ _ _ _ q => q.elim)
 obtain ⟨a2T, rfl, rfl, h⟩ := b4U
 refine ⟨(a9Y _ I_7.lt1 (Inv.a2A (Fi := []) I_7)), (a9Y _ I_7.lt1 (Inv.a2A (Fi := []) I_7)), (a9Y _ I_7.lt1 (Inv.a2A (Fi := []) I_7)), ?_⟩
 refine d7 (cap := []) (fun args w => Tryd.call150 args w) ?_
 refine h9 (Fi := []) (Fr := [bx g_2 177 (d5 x0.b5)]) a6Y (h) (fun d2Z a8q d3a s7 a6Z d3b b4V b4W => ?_) (fun _ _ _ _ _ q => q.elim)
 obtain ⟨a2U, rfl, rfl, h⟩ := b4W
 refine ⟨(b4V _ a6Y.lt1 (Inv.a2A (Fi := []) a6Y)), (b4V _ a6Y.lt1 (Inv.a2A (Fi := []) a6Y)), ?_⟩
 refine d7 (cap := []) (fun args w => Tryd.call97 args w) ?_
 refine h9 (Fi := []) (Fr := [bx g_2 177 (d5 x0.b5)]) a6Z (h) (fun e6T d3y e6U a4M a8w e6V e2t e2u => ?_) (fun _ _ _ _ _ q => q.elim)
 obtain ⟨b8E, rfl, rfl, h⟩ := e2u
 refine ⟨(e2t _ a6Z.lt1 (Inv.a2A (Fi := []) a6Z)), ?_⟩
 refine d7 (cap := []) (fun args w => Tryd.call97 args w) ?_
 refine h9 (Fi := []) (Fr := [bx g_2 177 (d5 x0.b5)]) a8w (h) (fun e6W a7b e6X E4 e2v e6Y e6Z e2w => ?_) (fun _ _ _ _ _ q => q.elim)
 obtain ⟨b8F, rfl, rfl, h⟩ := e2w
 refine a1S (e := 97) (c := csl) (xs := [a2T, a2U, b8E, b8F]) e2v (c2k _ _ _ _ _ _ _ _ _ _ _ _) rfl rfl b3b b3c (nb rfl) fun b2w e7a b1O e2x c3D e2n => ?_
 obtain ⟨b5s, e2y, e2z, a3y, b5t⟩ := Inv.freezeC c3D e2x (by decide)
 replace h := h b2w b5s e2z a3y b5t
 refine d7 (cap := []) (fun args w => Tryd.call94 args w) ?_
 refine h9 (Fi := []) (Fr := [bx g_2 177 (d5 x0.b5)]) e2y (h) (fun e7b c3I e7c b5u c3J b8H e2A e2B => ?_) (fun _ _ _ _ _ q => q.elim)
 obtain ⟨b8G, rfl, rfl, h⟩ := e2B
 exact hR b8G c3I _ c3J.drop h
theorem a5r (x0 : B2) {H : Hp} {K : Sl → Hp → Prop} (h : N6 x0 H K) : a0Y x0 H K := by
 intro w I
 refine c7v ?_
 refine a4v x0 I (fun r0 H' w' I' hk => ⟨H', _, I', r0, rfl, rfl, hk⟩) h
end Go.Proofs.YthldnpmfelniiaaDoor
