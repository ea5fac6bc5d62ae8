/- Typed formulas of the program's functions, and the theorems that the contracts follow from them; printed by lift.py off the code. -/
import Derived.Test.YthldnpmfelniiaaDoorzSV1
namespace Go.Proofs.YthldnpmfelniiaaDoor
open Go.RowKit
set_option maxRecDepth 100000
set_option maxHeartbeats 2000000
def k6 (G3 : (List b3)) (H : Hp) (K : Sl → Hp → Prop) : Prop :=
 ∀ (s0 : Sl) (F7 : Hp), Hle H F7 → SlH F7 1 g6 s0 G3 → s0.n ≤ s0.c →
 K s0 F7
def k7 (z1 : Sl) (a1l : Int) (i4 : (List b3)) (g8 : Int) (H : Hp) (n2 : ((List b3) × Int) → Hp → Prop) (K : Sl → Hp → Prop) : Prop :=
 (g8 < a1l →
 (0 : Int) ≤ g8 ∧ (g8 : Int) < z1.n ∧ ∃ x_1 : z6, EltH H z1 g8 2 (i5 x_1) ∧
 a1h x_1 H (fun (B6 : b3) (T2 : Hp) =>
 (i4.length + ([B6] : List b3).length) * 17 ≤ 140737488355328 ∧
 n2 ((i4 ++ [B6]), (IntKind.wrap .i64 (g8 + 1))) T2)) ∧
 (¬ (g8 < a1l) →
 k6 i4 H K)
def m2 (x0 : Sl) (H : Hp) (K : Sl → Hp → Prop) : Prop :=
 TL (([], 0) : (List b3) × Int) H fun (s : (List b3) × Int) H n2 => k7 x0 (x0.n : Int) s.1 s.2 H n2 K
theorem K4 (x0 : Sl) {w0 w : World} {ps0 : Nat → Prop} {H0 H : Hp} {K : Sl → Hp → Prop} {R : Value → World → Prop} {E : Pan} (I : Inv w0 ps0 H0 H [] w) (hR : ∀ (r0 : Sl) (H' : Hp) (w' : World) (_ : Inv w0 ps0 H0 H' [] w') (_ : K r0 H'), R (vs r0) w') (h : m2 x0 H K) : F95 (vs x0) (Value.func (.func 96) #[] #[]) w R E := by
 unfold m2 at h
 unfold F95
 have hj1 : ∀ (G3 : (List b3)) (s0 : Sl) (Fs5j1 : Frag) (H : Hp) (w : World) (_ : RowL 141 1 g6 s0 G3 Fs5j1) (_ : Inv w0 ps0 H0 H [Fs5j1] w) (_ : k6 G3 H K), b1e (vs s0) w R E := by
  intro G3 s0 Fs5j1 H w a4Q I h
  unfold b1e
  intro _
  unfold k6 at h
  obtain ⟨F7, a2T, a6b, a7p, a7q⟩ := Inv.freezeC I a4Q (by decide)
  replace h := h s0 F7 a6b a7p a7q
  exact hR s0 F7 _ a2T h
 refine t7 fun j1 hx1 => ?_
 refine a7 (a9R _ _ _) ?_
 obtain ⟨a0s, O9, a7r, a7s⟩ := h
 refine B7 (J := fun n l w => ∃ (s : (List b3) × Int) (H : Hp) (G4 : Sl) (Fs5l2 : Frag) , n = O9 s ∧ l = (match s with | (i4, g8) => [(vs G4), (vi g8)]) ∧ (match s with | (i4, g8) => RowL 141 1 g6 G4 i4 Fs5l2) ∧ (match s with | (i4, g8) => Inv w0 ps0 H0 H [Fs5l2] w) ∧ a0s s H) ⟨_, ([], 0), H, (Sl.mk none 0 0), [], rfl, rfl, (RowL.nil y9 B4), I.nil, a7r⟩ ?_
 rintro b8k τ_50 w next2 ⟨⟨i4, g8⟩, H, G4, Fs5l2, rfl, a0t, U9, I, a7t⟩ hn2
 dsimp only at a0t I U9
 simp only [List.map_cons, List.map_nil, List.cons.injEq, and_true] at a0t
 obtain ⟨e5, e10⟩ := a0t
 simp only [e5, e10]
 obtain ⟨n2, hm2, h⟩ : ∃ n2 : ((List b3) × Int) → Hp → Prop, (∀ s' H', n2 s' H' → a0s s' H' ∧ O9 s' < O9 (i4, g8)) ∧ k7 x0 (x0.n : Int) i4 g8 H n2 K := ⟨_, fun _ _ h => h, a7s (i4, g8) H (fun s' H' => a0s s' H' ∧ O9 s' < O9 (i4, g8)) a7t (fun _ _ a b => ⟨a, b⟩)⟩
 unfold b6r
 unfold k7 at h
 refine a7 (E7 _ _ _ _ _ _) ?_
 refine d8 (fun V0 => ?_) (fun V0 => ?_)
 ·replace h := h.1 V0
  obtain ⟨h_4, h_5, x_1, h_7, h⟩ := h
  obtain ⟨g_2, o_3, h_6, h_7⟩ := h_7
  refine a7 (b0G h_6 _ _ _ _ h_4 h_5) ?_
  refine b7 (ldA (vs := (i5 x_1)) Tryd.isAgg67 Tryd.sizeOf67 rfl (I.atH h_7)) ?_
  refine y8 I Tryd.zeroValue67 (cs := [(Value.string ⟨#[]⟩), (vi 0)]) rfl fun g_9 l0 a0b a9m => ?_
  refine o3 a0b Tryd.sizeOf67 (vs := (i5 x_1)) (cs' := (i5 x_1)) rfl rfl (nb rfl) rfl rfl fun a1X a2U b8l => ?_
  refine b7 (ldA Tryd.isAgg67 Tryd.sizeOf67 rfl (a2U.at1 (o := 0) (vs := (i5 x_1)) (nb rfl) rfl)) ?_
  refine d6 (cap := []) (fun args w => Tryd.call96 args w) ?_
  refine i2 (Fi := []) (Fr := [bx g_9 67 (i5 x_1), Fs5l2]) a2U (h) (fun b4o T2 b4p Z4 V1 b4q b1J a4R => ?_) (fun _ _ _ _ _ q => q.elim)
  obtain ⟨B6, rfl, rfl, h⟩ := a4R
  refine a0S (e := 141) (c := g6) (xs := [B6]) V1 (a6y _) rfl rfl y9 B4 (nb rfl) fun b1K a9n C1 a4S a1D b4r => ?_
  obtain ⟨a2V, h⟩ := h
  refine a5F (s := G4) (xs := i4) (a1D.bring 2) U9 (a4S.srcO ((a1D.bring 2).bring 1)) a2V fun a7u a7v C8 a4T a1Z b4s => ?_
  refine a7 (A6 _ _ _ _ _ _) ?_
  exact hn2 _ _ _ (hm2 _ _ h).2 ⟨((i4 ++ [B6]), (IntKind.wrap .i64 (g8 + 1))), T2, a7u, a7v, rfl, rfl, a4T, ((a1Z.bring 1).drop.bring 1).drop, (hm2 _ _ h).1⟩
 ·replace h := h.2 V0
  exact hx1 _ _ (hj1 i4 G4 Fs5l2 H _ U9 I h)
theorem L6 (x0 : Sl) {H : Hp} {K : Sl → Hp → Prop} (h : m2 x0 H K) : r8 x0 H K := by
 intro w I
 refine c4M ?_
 refine K4 x0 I (fun r0 H' w' I' hk => ⟨H', _, I', r0, rfl, rfl, hk⟩) h
def R3 (x0 : b3) (H : Hp) (K : ByteArray → Bool → Hp → Prop) : Prop :=
 (x0.a1x = true →
 K ((((x0.C0)).y7).g9) true H) ∧
 (x0.a1x = false →
 (x0.a1y = true →
 K ((((x0.b9)).b4).g9) ((decide (((((x0.b9)).b4).c7) = 1)) || (decide (((((x0.b9)).b4).c7) = 2))) H) ∧
 (x0.a1y = false →
 (x0.a1w = true →
 K ((((x0.g7)).d4).g9) ((decide (((((x0.g7)).d4).c7) = 2)) || (decide (((((x0.g7)).d4).c7) = 4))) H) ∧
 (x0.a1w = false →
 K ⟨#[]⟩ false H)))
theorem a5t (x0 : b3) {w0 w : World} {ps0 : Nat → Prop} {H0 H : Hp} {K : ByteArray → Bool → Hp → Prop} {R : Value → World → Prop} {E : Pan} (I : Inv w0 ps0 H0 H [] w) (hR : ∀ (r0 : ByteArray) (r1 : Bool) (H' : Hp) (w' : World) (_ : Inv w0 ps0 H0 H' [] w') (_ : K r0 r1 H'), R (Value.tuple #[(Value.string r0), (Value.bool r1)]) w') (h : R3 x0 H K) : b3M (i8 x0) w R E := by
 unfold R3 at h
 unfold b3M
 refine a7 (b0f x0) ?_
 refine a7 (u6 _ _ _ rfl) ?_
 refine a7 (u6 _ _ _ rfl) ?_
 refine o4 (fun b9A => ?_) (fun b9A => ?_)
 ·replace h := h.1 b9A
  refine y8 I Tryd.zeroValue175 (cs := [(Value.string ⟨#[]⟩), (vi 0)]) rfl fun g_2 w_3 I_4 k_5 => ?_
  refine o3 I_4 Tryd.sizeOf175 (vs := [(Value.string ((((x0.C0)).y7).g9)), (vi ((((x0.C0)).y7).N2))]) (cs' := [(Value.string ((((x0.C0)).y7).g9)), (vi ((((x0.C0)).y7).N2))]) rfl rfl (nb rfl) rfl rfl fun w_6 I_7 k_8 => ?_
  refine a7 a0g ?_
  refine a7 a7U ?_
  refine b7 (ld1 Tryd.isAgg9 (I_7.at1 (o := 0) (vs := [(Value.string ((((x0.C0)).y7).g9))]) (nb rfl) rfl)) ?_
  exact hR ((((x0.C0)).y7).g9) true H _ I_7.drop h
 ·replace h := h.2 b9A
  refine a7 (b0g x0) ?_
  refine a7 (u6 _ _ _ rfl) ?_
  refine a7 (u6 _ _ _ rfl) ?_
  refine o4 (fun b9B => ?_) (fun b9B => ?_)
  ·replace h := h.1 b9B
   refine y8 I Tryd.zeroValue177 (cs := [(vi 0), (Value.string ⟨#[]⟩), (Value.slice none 0 0), (Value.slice none 0 0), (Value.slice none 0 0), (Value.slice none 0 0)]) rfl fun d4Q Q0 u0 a9l => ?_
   refine o3 u0 Tryd.sizeOf177 (vs := [(vi ((((x0.b9)).b4).c7)), (Value.string ((((x0.b9)).b4).g9)), (Value.slice ((((x0.b9)).b4).b8).a ((((x0.b9)).b4).b8).n ((((x0.b9)).b4).b8).c), (Value.slice ((((x0.b9)).b4).f7).a ((((x0.b9)).b4).f7).n ((((x0.b9)).b4).f7).c), (Value.slice ((((x0.b9)).b4).t8).a ((((x0.b9)).b4).t8).n ((((x0.b9)).b4).t8).c), (Value.slice ((((x0.b9)).b4).r5).a ((((x0.b9)).b4).r5).n ((((x0.b9)).b4).r5).c)]) (cs' := [(vi ((((x0.b9)).b4).c7)), (Value.string ((((x0.b9)).b4).g9)), (Value.slice ((((x0.b9)).b4).b8).a ((((x0.b9)).b4).b8).n ((((x0.b9)).b4).b8).c), (Value.slice ((((x0.b9)).b4).f7).a ((((x0.b9)).b4).f7).n ((((x0.b9)).b4).f7).c), (Value.slice ((((x0.b9)).b4).t8).a ((((x0.b9)).b4).t8).n ((((x0.b9)).b4).t8).c), (Value.slice ((((x0.b9)).b4).r5).a ((((x0.b9)).b4).r5).n ((((x0.b9)).b4).r5).c)]) rfl rfl (nb rfl) rfl rfl fun o7 a7z b4y => ?_
   refine a7f a7z fun Z4 V1 => ?_
   refine s6 q7 ?_
   refine s6 a0Y ?_
   refine s6 q7 ?_
   refine s6 Y7 ?_
   refine T5 (ld1 Tryd.isAgg9 (V1.at1 (o := 1) (vs := [(Value.string ((((x0.b9)).b4).g9))]) (nb rfl) rfl)) ?_
   refine T5 (ld1 Tryd.isAgg3 (V1.at1 (o := 0) (vs := [(vi ((((x0.b9)).b4).c7))]) (nb rfl) rfl)) ?_
   refine s6 (f4 _ _ _ _ _ _) ?_
   refine s6 (Pu.g fun hb => by have a8 := hb; first | exact q7 | (simp only [c6 a8, b5 a8, b5 hb, a5C a8]; exact q7) | (simp only [c6 a8, b5 a8, b5 hb, F9 a8, m3]; exact q7)) ?_
   refine s6 (Pu.g fun hb => by have a8 := hb; first | exact Y7 | (simp only [b5 a8]; exact Y7) | (simp only [c6 a8, b5 a8, b5 hb, F9 a8, m3]; exact Y7)) ?_
   refine c3l (p := (Value.pointer (some ⟨d4Q, 0, none⟩))) rfl (Ld.g fun hb => by have a8 := hb; first | exact (ld1 Tryd.isAgg3 (V1.at1 (o := 0) (vs := [(vi ((((x0.b9)).b4).c7))]) (nb rfl) rfl)) | (simp only [b5 a8]; exact (ld1 Tryd.isAgg3 (V1.at1 (o := 0) (vs := [(vi ((((x0.b9)).b4).c7))]) (nb rfl) rfl))) | (simp only [c6 a8, b5 a8, b5 hb, F9 a8, m3]; exact (ld1 Tryd.isAgg3 (V1.at1 (o := 0) (vs := [(vi ((((x0.b9)).b4).c7))]) (nb rfl) rfl)))) ?_
   refine s6 (Pu.g fun hb => by have a8 := hb; first | exact (f4 _ _ _ _ _ _) | (simp only [b5 a8]; exact (f4 _ _ _ _ _ _)) | (simp only [c6 a8, b5 a8, b5 hb, F9 a8, m3]; exact (f4 _ _ _ _ _ _))) ?_
   refine s6 (a0Q _ _) ?_
   exact hR ((((x0.b9)).b4).g9) ((decide (((((x0.b9)).b4).c7) = 1)) || (decide (((((x0.b9)).b4).c7) = 2))) H _ V1.drop h
  ·replace h := h.2 b9B
   refine a7 (b0N x0) ?_
   refine a7 (u6 _ _ _ rfl) ?_
   refine a7 (u6 _ _ _ rfl) ?_
   refine o4 (fun b9C => ?_) (fun b9C => ?_)
   ·replace h := h.1 b9C
    refine y8 I Tryd.zeroValue96 (cs := [(vi 0), (vi 0), (Value.string ⟨#[]⟩), (Value.slice none 0 0)]) rfl fun c8o a5J d4R d8I => ?_
    refine o3 d4R Tryd.sizeOf96 (vs := [(vi ((((x0.g7)).d4).c7)), (vi ((((x0.g7)).d4).R5)), (Value.string ((((x0.g7)).d4).g9)), (Value.slice ((((x0.g7)).d4).q8).a ((((x0.g7)).d4).q8).n ((((x0.g7)).d4).q8).c)]) (cs' := [(vi ((((x0.g7)).d4).c7)), (vi ((((x0.g7)).d4).R5)), (Value.string ((((x0.g7)).d4).g9)), (Value.slice ((((x0.g7)).d4).q8).a ((((x0.g7)).d4).q8).n ((((x0.g7)).d4).q8).c)]) rfl rfl (nb rfl) rfl rfl fun u5 a0A c8C => ?_
    refine a7f a0A fun a2H a6h => ?_
    refine s6 w8 ?_
    refine s6 Y5 ?_
    refine s6 w8 ?_
    refine s6 T9 ?_
    refine T5 (ld1 Tryd.isAgg9 (a6h.at1 (o := 2) (vs := [(Value.string ((((x0.g7)).d4).g9))]) (nb rfl) rfl)) ?_
    refine T5 (ld1 Tryd.isAgg3 (a6h.at1 (o := 0) (vs := [(vi ((((x0.g7)).d4).c7))]) (nb rfl) rfl)) ?_
    refine s6 (f4 _ _ _ _ _ _) ?_
    refine s6 (Pu.g fun hb => by have a8 := hb; first | exact w8 | (simp only [c6 a8, b5 a8, b5 hb, a5C a8]; exact w8) | (simp only [c6 a8, b5 a8, b5 hb, F9 a8, m3]; exact w8)) ?_
    refine s6 (Pu.g fun hb => by have a8 := hb; first | exact T9 | (simp only [b5 a8]; exact T9) | (simp only [c6 a8, b5 a8, b5 hb, F9 a8, m3]; exact T9)) ?_
    refine c3l (p := (Value.pointer (some ⟨c8o, 0, none⟩))) rfl (Ld.g fun hb => by have a8 := hb; first | exact (ld1 Tryd.isAgg3 (a6h.at1 (o := 0) (vs := [(vi ((((x0.g7)).d4).c7))]) (nb rfl) rfl)) | (simp only [b5 a8]; exact (ld1 Tryd.isAgg3 (a6h.at1 (o := 0) (vs := [(vi ((((x0.g7)).d4).c7))]) (nb rfl) rfl))) | (simp only [c6 a8, b5 a8, b5 hb, F9 a8, m3]; exact (ld1 Tryd.isAgg3 (a6h.at1 (o := 0) (vs := [(vi ((((x0.g7)).d4).c7))]) (nb rfl) rfl)))) ?_
    refine s6 (Pu.g fun hb => by have a8 := hb; first | exact (f4 _ _ _ _ _ _) | (simp only [b5 a8]; exact (f4 _ _ _ _ _ _)) | (simp only [c6 a8, b5 a8, b5 hb, F9 a8, m3]; exact (f4 _ _ _ _ _ _))) ?_
    refine s6 (a0Q _ _) ?_
    exact hR ((((x0.g7)).d4).g9) ((decide (((((x0.g7)).d4).c7) = 2)) || (decide (((((x0.g7)).d4).c7) = 4))) H _ a6h.drop h
   ·replace h := h.2 b9C
    exact hR ⟨#[]⟩ false H _ I h
theorem a6i (x0 : b3) {H : Hp} {K : ByteArray → Bool → Hp → Prop} (h : R3 x0 H K) : M0 x0 H K := by
 intro w I
 refine c1u ?_
 refine a5t x0 I (fun r0 r1 H' w' I' hk => ⟨H', _, I', r0, r1, rfl, rfl, hk⟩) h
def P6 (x0 : Int) (H : Hp) (K : Bool → Hp → Prop) : Prop :=
 P2 x0 H (fun (A8 : Int) (H_1 : Hp) =>
 K ((decide (A8 = 3)) || (decide (A8 = 4))) H_1)
theorem a5n (x0 : Int) {w0 w : World} {ps0 : Nat → Prop} {H0 H : Hp} {K : Bool → Hp → Prop} {R : Value → World → Prop} {E : Pan} (I : Inv w0 ps0 H0 H [] w) (hR : ∀ (r0 : Bool) (H' : Hp) (w' : World) (_ : Inv w0 ps0 H0 H' [] w') (_ : K r0 H'), R (Value.bool r0) w') (h : P6 x0 H K) : b3R (Value.int .i32 x0) w R E := by
 unfold P6 at h
 unfold b3R
 refine d6 (cap := []) (fun args w => Tryd.call126 args w) ?_
 refine i2 (Fi := []) (Fr := []) I (h) (fun v_5 H_1 F_6 w_2 I_3 l_8 k_4 q_7 => ?_) (fun _ _ _ _ _ q => q.elim)
 obtain ⟨A8, rfl, rfl, h⟩ := q_7
 refine a7 (f4 _ _ _ _ _ _) ?_
 try simp only [M9]
 refine a7 (Pu.g fun hb => by have a8 := hb; first | exact (f4 _ _ _ _ _ _) | (simp only [b5 a8]; exact (f4 _ _ _ _ _ _)) | (simp only [c6 a8, b5 a8, b5 hb, F9 a8, m3]; exact (f4 _ _ _ _ _ _))) ?_
 refine a7 (a0Q _ _) ?_
 exact hR ((decide (A8 = 3)) || (decide (A8 = 4))) H_1 _ I_3 h
theorem a5u (x0 : Int) {H : Hp} {K : Bool → Hp → Prop} (h : P6 x0 H K) : W7 x0 H K := by
 intro w I
 refine c1G ?_
 refine a5n x0 I (fun r0 H' w' I' hk => ⟨H', _, I', r0, rfl, rfl, hk⟩) h
def B2 (H : Hp) (K : Int → Hp → Prop) : Prop :=
 K (-1) H
def B3 (d1y : (List ByteArray)) (b2c : ByteArray) (b2g : Int) (z1 : Int) (H : Hp) (n2 : Int → Hp → Prop) (K : Int → Hp → Prop) : Prop :=
 (z1 < b2g →
 (0 : Int) ≤ z1 ∧ ∃ x_1 : ByteArray, (d1y)[(z1 : Int).toNat]? = some x_1 ∧
 (b2c = x_1 →
 K z1 H) ∧
 (¬ (b2c = x_1) →
 n2 (IntKind.wrap .i64 (z1 + 1)) H)) ∧
 (¬ (z1 < b2g) →
 B2 H K)
def C2 (x0 : (List ByteArray)) (x1 : ByteArray) (H : Hp) (K : Int → Hp → Prop) : Prop :=
 TL (0 : Int) H fun (s : Int) H n2 => B3 x0 x1 (x0.length : Int) s H n2 K
theorem a1u (x0 : (List ByteArray)) (x1 : ByteArray) (sx0 : Sl) (Fx0 : Frag) (hx0 : RowL 9 1 p5 sx0 x0 Fx0) {w0 w : World} {ps0 : Nat → Prop} {H0 H : Hp} {K : Int → Hp → Prop} {R : Value → World → Prop} {E : Pan} (I : Inv w0 ps0 H0 H [Fx0] w) (hR : ∀ (r0 : Int) (H' : Hp) (w' : World) (_ : Inv w0 ps0 H0 H' [Fx0] w') (_ : K r0 H'), R (vi r0) w') (h : C2 x0 x1 H K) : b3U (vs sx0) (Value.string x1) w R E := by
 unfold C2 at h
 unfold b3U
 have hj1 : ∀ (H : Hp) (w : World) (_ : Inv w0 ps0 H0 H [Fx0] w) (_ : B2 H K), a9b w R E := by
  intro H w I h
  unfold a9b
  intro _
  unfold B2 at h
  exact hR (-1) H _ I h
 refine t7 fun j1 hx1 => ?_
 refine a7 (b3B Tryd.underlying47 hx0) ?_
 obtain ⟨b9D, b2h, d4S, d4T⟩ := h
 refine B7 (J := fun n l w => ∃ (s : Int) (H : Hp) , n = b2h s ∧ l = [(vi s)] ∧ Inv w0 ps0 H0 H [Fx0] w ∧ b9D s H) ⟨_, 0, H, rfl, rfl, I, d4S⟩ ?_
 rintro d8J τ_15 w next2 ⟨z1, H, rfl, b8q, I, d4U⟩ hn2
 simp only [List.map_cons, List.map_nil, List.cons.injEq, and_true] at b8q
 have e8 := b8q
 simp only [e8]
 obtain ⟨n2, hm2, h⟩ : ∃ n2 : Int → Hp → Prop, (∀ s' H', n2 s' H' → b9D s' H' ∧ b2h s' < b2h z1) ∧ B3 x0 x1 (x0.length : Int) z1 H n2 K := ⟨_, fun _ _ h => h, d4T z1 H (fun s' H' => b9D s' H' ∧ b2h s' < b2h z1) d4U (fun _ _ a b => ⟨a, b⟩)⟩
 unfold b3k
 unfold B3 at h
 refine a7 (E7 _ _ _ _ _ _) ?_
 refine d8 (fun c_9 => ?_) (fun c_9 => ?_)
 ·replace h := h.1 c_9
  obtain ⟨h_3, x_1, h_4, h⟩ := h
  obtain ⟨g_2, a_6, h_5, h_7⟩ := hx0.addr h_4
  refine a7 (b7U h_5 _ _ _ _ h_3 (hx0.lt h_3 h_4)) ?_
  refine b7 (ld1 (v := (Value.string x_1)) Tryd.isAgg9 (hx0.atW I h_5 h_4)) ?_
  refine a7 (N0 _ _ _ _ _) ?_
  refine d8 (fun c_8 => ?_) (fun c_8 => ?_)
  ·replace h := h.1 c_8
   exact hR z1 H _ I h
  ·replace h := h.2 c_8
   refine a7 (A6 _ _ _ _ _ _) ?_
   exact hn2 _ _ _ (hm2 _ _ h).2 ⟨(IntKind.wrap .i64 (z1 + 1)), H, rfl, rfl, I, (hm2 _ _ h).1⟩
 ·replace h := h.2 c_9
  exact hx1 _ _ (hj1 H _ I h)
theorem a1M (x0 : (List ByteArray)) (x1 : ByteArray) {H : Hp} {K : Int → Hp → Prop} (h : C2 x0 x1 H K) : K6 x0 x1 H K := by
 intro sx0 Fx0 hx0 w I
 refine c1K ?_
 refine a1u x0 x1 sx0 Fx0 hx0 I (fun r0 H' w' I' hk => ⟨H', _, I', r0, rfl, rfl, hk⟩) h
def P7 (x0 : u7) (H : Hp) (K : Int → Hp → Prop) : Prop :=
 Z9 x0 H (fun (N7 : b6) (H_6 : Hp) =>
 K N7.fe H_6)
theorem a5o (x0 : u7) {w0 w : World} {ps0 : Nat → Prop} {H0 H : Hp} {K : Int → Hp → Prop} {R : Value → World → Prop} {E : Pan} (I : Inv w0 ps0 H0 H [] w) (hR : ∀ (r0 : Int) (H' : Hp) (w' : World) (_ : Inv w0 ps0 H0 H' [] w') (_ : K r0 H'), R (vi r0) w') (h : P7 x0 H K) : F27 (Value.agg (p7 x0).toArray) w R E := by
 unfold P7 at h
 unfold F27
 refine M1 I (cs := (p7 x0)) rfl fun g_2 w_3 I_4 k_5 => ?_
 refine b7 (ldA Tryd.isAgg25 Tryd.sizeOf25 rfl (I_4.at1 (o := 0) (vs := (p7 x0)) (nb rfl) rfl)) ?_
 refine d6 (cap := []) (fun args w => Tryd.call66 args w) ?_
 refine i2 (Fi := []) (Fr := [bx g_2 25 (p7 x0)]) I_4 (h) (fun a9w H_6 a9x w_7 I_8 a9y k_9 a1F => ?_) (fun _ _ _ _ _ q => q.elim)
 obtain ⟨N7, d6g, rfl, rfl, h⟩ := a1F
 refine a7 (B9 _) ?_
 refine a7 a0V ?_
 refine b7 (ld1 Tryd.isAgg34 (I_8.at1 (o := 2) (vs := [(vi N7.fe)]) (nb rfl) rfl)) ?_
 exact hR N7.fe H_6 _ I_8.drop.drop h
theorem a5v (x0 : u7) {H : Hp} {K : Int → Hp → Prop} (h : P7 x0 H K) : W8 x0 H K := by
 intro w I
 refine c3s ?_
 refine a5o x0 I (fun r0 H' w' I' hk => ⟨H', _, I', r0, rfl, rfl, hk⟩) h
def w3 (a5c : Bool) (c0y : Int) (a6N : Bool) (cr_6j1 : i7) (_cr_1j1 : w6) (H : Hp) (K : Bool → Hp → Prop) : Prop :=
 (a6N = true →
 K (a5c && (decide (cr_6j1.fexprs = 0 ∧ cr_6j1.fconds = 1))) H) ∧
 (a6N = false →
 (c0y = 7 →
 K (a5c && (decide (cr_6j1.fexprs = 0 ∧ cr_6j1.fconds = 0))) H) ∧
 (¬ (c0y = 7) →
 K false H))
def J6 (x0 : w6) (H : Hp) (K : Bool → Hp → Prop) : Prop :=
 (x0.b4.c7 = 1 →
 K ((!(decide (0 < (IntKind.wrap .i64 ((x0.b4.t8.n : Int) + (x0.b4.r5.n : Int)))))) && (decide ((x0.b4.b8.n : Int) = 1 ∧ (x0.b4.f7.n : Int) = 0))) H) ∧
 (¬ (x0.b4.c7 = 1) →
 (x0.b4.c7 = 2 →
 K ((!(decide (0 < (IntKind.wrap .i64 ((x0.b4.t8.n : Int) + (x0.b4.r5.n : Int)))))) && (decide ((x0.b4.b8.n : Int) = 2 ∧ (x0.b4.f7.n : Int) = 0))) H) ∧
 (¬ (x0.b4.c7 = 2) →
 (x0.b4.c7 = 3 →
 K ((decide (x0.b4.g9 = ⟨#[]⟩)) && (decide ((x0.b4.b8.n : Int) = 0 ∧ (x0.b4.f7.n : Int) = 1))) H) ∧
 (¬ (x0.b4.c7 = 3) →
 (x0.b4.c7 = 4 →
 K (((decide (x0.b4.g9 = ⟨#[]⟩)) && (decide ((x0.b4.r5.n : Int) = 0))) && (decide ((x0.b4.b8.n : Int) = 0 ∧ (x0.b4.f7.n : Int) = 1))) H) ∧
 (¬ (x0.b4.c7 = 4) →
 (x0.b4.c7 = 5 →
 w3 ((decide (x0.b4.g9 = ⟨#[]⟩)) && (!(decide (0 < (IntKind.wrap .i64 ((x0.b4.t8.n : Int) + (x0.b4.r5.n : Int))))))) x0.b4.c7 (decide (x0.b4.c7 = 5)) (i7.mk (x0.b4.b8.n : Int) (x0.b4.f7.n : Int)) x0 H K) ∧
 (¬ (x0.b4.c7 = 5) →
 w3 ((decide (x0.b4.g9 = ⟨#[]⟩)) && (!(decide (0 < (IntKind.wrap .i64 ((x0.b4.t8.n : Int) + (x0.b4.r5.n : Int))))))) x0.b4.c7 (decide (x0.b4.c7 = 6)) (i7.mk (x0.b4.b8.n : Int) (x0.b4.f7.n : Int)) x0 H K)))))
theorem a3i (x0 : w6) {w0 w : World} {ps0 : Nat → Prop} {H0 H : Hp} {K : Bool → Hp → Prop} {R : Value → World → Prop} {E : Pan} (I : Inv w0 ps0 H0 H [] w) (hR : ∀ (r0 : Bool) (H' : Hp) (w' : World) (_ : Inv w0 ps0 H0 H' [] w') (_ : K r0 H'), R (Value.bool r0) w') (h : J6 x0 H K) : b4j (Value.agg (f6 x0.b4).toArray) w R E := by
 unfold J6 at h
 unfold b4j
 refine M1 I (cs := (f6 x0.b4)) rfl fun g_2 w_3 I_4 k_5 => ?_
 refine a7 q7 ?_
 refine a7 a2o ?_
 refine b7 (ld1 Tryd.isAgg23 (I_4.at1 (o := 4) (vs := [(vs x0.b4.t8)]) (nb rfl) rfl)) ?_
 refine a7 (Q9 _ _ _) ?_
 refine a7 q7 ?_
 refine a7 U0 ?_
 refine b7 (ld1 Tryd.isAgg23 (I_4.at1 (o := 5) (vs := [(vs x0.b4.r5)]) (nb rfl) rfl)) ?_
 refine a7 (Q9 _ _ _) ?_
 refine a7 (A6 _ _ _ _ _ _) ?_
 refine a7 (a5B _ _ _ _ _ _) ?_
 refine a7 q7 ?_
 refine a7 a2l ?_
 refine b7 (ld1 Tryd.isAgg28 (I_4.at1 (o := 2) (vs := [(vs x0.b4.b8)]) (nb rfl) rfl)) ?_
 refine a7 (O3 _ _ _) ?_
 refine a7 q7 ?_
 refine a7 a2m ?_
 refine b7 (ld1 Tryd.isAgg31 (I_4.at1 (o := 3) (vs := [(vs x0.b4.f7)]) (nb rfl) rfl)) ?_
 refine a7 (X1 _ _ _) ?_
 refine a7 (p9 _ _) ?_
 refine y8 I_4 Tryd.zeroValue213 (cs := [(vi 0), (vi 0)]) rfl fun g_7 w_8 I_9 c8c => ?_
 refine o3 I_9 Tryd.sizeOf213 (vs := [(vi (x0.b4.b8.n : Int)), (vi (x0.b4.f7.n : Int))]) (cs' := [(vi (x0.b4.b8.n : Int)), (vi (x0.b4.f7.n : Int))]) rfl rfl (nb rfl) rfl rfl fun Q0 u0 a9l => ?_
 refine a7 q7 ?_
 refine a7 a0Y ?_
 refine b7 (ld1 Tryd.isAgg9 ((u0.bring 1).at1 (o := 1) (vs := [(Value.string x0.b4.g9)]) (nb rfl) rfl)) ?_
 refine a7 (N0 _ _ _ _ _) ?_
 try simp only [M9]
 refine a7 (Pu.g fun hb => by have a8 := hb; first | exact (A7 _) | (simp only [b5 a8]; exact (A7 _)) | (simp only [c6 a8, b5 a8, b5 hb, k9 a8, m3]; exact (A7 _))) ?_
 refine a7 (E8 _ _) ?_
 refine a7 q7 ?_
 refine a7 Y7 ?_
 refine b7 (ld1 Tryd.isAgg3 ((u0.bring 1).at1 (o := 0) (vs := [(vi x0.b4.c7)]) (nb rfl) rfl)) ?_
 refine a7 (f4 _ _ _ _ _ _) ?_
 refine d8 (fun a2O => ?_) (fun a2O => ?_)
 ·replace h := h.1 a2O
  refine a7 (A7 _) ?_
  refine b7 (Ld.g fun hb => by have a8 := hb; first | exact (ldA Tryd.isAgg213 Tryd.sizeOf213 rfl (u0.at1 (o := 0) (vs := [(vi (x0.b4.b8.n : Int)), (vi (x0.b4.f7.n : Int))]) (nb rfl) rfl)) | (simp only [c6 a8, b5 a8, b5 hb, B5 a8]; exact (ldA Tryd.isAgg213 Tryd.sizeOf213 rfl (u0.at1 (o := 0) (vs := [(vi (x0.b4.b8.n : Int)), (vi (x0.b4.f7.n : Int))]) (nb rfl) rfl))) | (simp only [c6 a8, b5 a8, b5 hb, k9 a8, m3]; exact (ldA Tryd.isAgg213 Tryd.sizeOf213 rfl (u0.at1 (o := 0) (vs := [(vi (x0.b4.b8.n : Int)), (vi (x0.b4.f7.n : Int))]) (nb rfl) rfl)))) ?_
  refine a7 (Pu.g fun hb => by have a8 := hb; first | exact (p9 _ _) | (simp only [c6 a8, b5 a8, b5 hb, B5 a8]; exact (p9 _ _)) | (simp only [c6 a8, b5 a8, b5 hb, k9 a8, m3]; exact (p9 _ _))) ?_
  refine a7 (Pu.g fun hb => by have a8 := hb; first | exact (y6 _ _ _ _ _ _) | (simp only [b5 a8]; exact (y6 _ _ _ _ _ _)) | (simp only [c6 a8, b5 a8, b5 hb, k9 a8, m3]; exact (y6 _ _ _ _ _ _))) ?_
  refine a7 (E8 _ _) ?_
  exact hR ((!(decide (0 < (IntKind.wrap .i64 ((x0.b4.t8.n : Int) + (x0.b4.r5.n : Int)))))) && (decide ((x0.b4.b8.n : Int) = 1 ∧ (x0.b4.f7.n : Int) = 0))) H _ u0.drop.drop h
 ·replace h := h.2 a2O
  refine a7 (f4 _ _ _ _ _ _) ?_
  refine d8 (fun a2P => ?_) (fun a2P => ?_)
  ·replace h := h.1 a2P
   refine a7 (A7 _) ?_
   refine b7 (Ld.g fun hb => by have a8 := hb; first | exact (ldA Tryd.isAgg213 Tryd.sizeOf213 rfl (u0.at1 (o := 0) (vs := [(vi (x0.b4.b8.n : Int)), (vi (x0.b4.f7.n : Int))]) (nb rfl) rfl)) | (simp only [c6 a8, b5 a8, b5 hb, B5 a8]; exact (ldA Tryd.isAgg213 Tryd.sizeOf213 rfl (u0.at1 (o := 0) (vs := [(vi (x0.b4.b8.n : Int)), (vi (x0.b4.f7.n : Int))]) (nb rfl) rfl))) | (simp only [c6 a8, b5 a8, b5 hb, k9 a8, m3]; exact (ldA Tryd.isAgg213 Tryd.sizeOf213 rfl (u0.at1 (o := 0) (vs := [(vi (x0.b4.b8.n : Int)), (vi (x0.b4.f7.n : Int))]) (nb rfl) rfl)))) ?_
   refine a7 (Pu.g fun hb => by have a8 := hb; first | exact (p9 _ _) | (simp only [c6 a8, b5 a8, b5 hb, B5 a8]; exact (p9 _ _)) | (simp only [c6 a8, b5 a8, b5 hb, k9 a8, m3]; exact (p9 _ _))) ?_
   refine a7 (Pu.g fun hb => by have a8 := hb; first | exact (y6 _ _ _ _ _ _) | (simp only [b5 a8]; exact (y6 _ _ _ _ _ _)) | (simp only [c6 a8, b5 a8, b5 hb, k9 a8, m3]; exact (y6 _ _ _ _ _ _))) ?_
   refine a7 (E8 _ _) ?_
   exact hR ((!(decide (0 < (IntKind.wrap .i64 ((x0.b4.t8.n : Int) + (x0.b4.r5.n : Int)))))) && (decide ((x0.b4.b8.n : Int) = 2 ∧ (x0.b4.f7.n : Int) = 0))) H _ u0.drop.drop h
  ·replace h := h.2 a2P
   refine a7 (f4 _ _ _ _ _ _) ?_
   refine d8 (fun a2S => ?_) (fun a2S => ?_)
   ·replace h := h.1 a2S
    refine a7 q7 ?_
    refine a7 a0Y ?_
    refine b7 (ld1 Tryd.isAgg9 ((u0.bring 1).at1 (o := 1) (vs := [(Value.string x0.b4.g9)]) (nb rfl) rfl)) ?_
    refine a7 (N0 _ _ _ _ _) ?_
    refine b7 (Ld.g fun hb => by have a8 := hb; first | exact (ldA Tryd.isAgg213 Tryd.sizeOf213 rfl (u0.at1 (o := 0) (vs := [(vi (x0.b4.b8.n : Int)), (vi (x0.b4.f7.n : Int))]) (nb rfl) rfl)) | (simp only [c6 a8, b5 a8, b5 hb, B5 a8]; exact (ldA Tryd.isAgg213 Tryd.sizeOf213 rfl (u0.at1 (o := 0) (vs := [(vi (x0.b4.b8.n : Int)), (vi (x0.b4.f7.n : Int))]) (nb rfl) rfl))) | (simp only [c6 a8, b5 a8, b5 hb, k9 a8, m3]; exact (ldA Tryd.isAgg213 Tryd.sizeOf213 rfl (u0.at1 (o := 0) (vs := [(vi (x0.b4.b8.n : Int)), (vi (x0.b4.f7.n : Int))]) (nb rfl) rfl)))) ?_
    refine a7 (Pu.g fun hb => by have a8 := hb; first | exact (p9 _ _) | (simp only [c6 a8, b5 a8, b5 hb, B5 a8]; exact (p9 _ _)) | (simp only [c6 a8, b5 a8, b5 hb, k9 a8, m3]; exact (p9 _ _))) ?_
    refine a7 (Pu.g fun hb => by have a8 := hb; first | exact (y6 _ _ _ _ _ _) | (simp only [b5 a8]; exact (y6 _ _ _ _ _ _)) | (simp only [c6 a8, b5 a8, b5 hb, k9 a8, m3]; exact (y6 _ _ _ _ _ _))) ?_
    refine a7 (E8 _ _) ?_
    exact hR ((decide (x0.b4.g9 = ⟨#[]⟩)) && (decide ((x0.b4.b8.n : Int) = 0 ∧ (x0.b4.f7.n : Int) = 1))) H _ u0.drop.drop h
   ·replace h := h.2 a2S
    refine a7 (f4 _ _ _ _ _ _) ?_
    refine d8 (fun a2Q => ?_) (fun a2Q => ?_)
    ·replace h := h.1 a2Q
     refine a7 q7 ?_
     refine a7 a0Y ?_
     refine b7 (ld1 Tryd.isAgg9 ((u0.bring 1).at1 (o := 1) (vs := [(Value.string x0.b4.g9)]) (nb rfl) rfl)) ?_
     refine a7 (N0 _ _ _ _ _) ?_
     refine a7 (Pu.g fun hb => by have a8 := hb; first | exact q7 | (simp only [c6 a8, b5 a8, b5 hb, B5 a8]; exact q7) | (simp only [c6 a8, b5 a8, b5 hb, k9 a8, m3]; exact q7)) ?_
     refine a7 (Pu.g fun hb => by have a8 := hb; first | exact U0 | (simp only [b5 a8]; exact U0) | (simp only [c6 a8, b5 a8, b5 hb, k9 a8, m3]; exact U0)) ?_
     refine b7 (Ld.g fun hb => by have a8 := hb; first | exact (ld1 Tryd.isAgg23 ((u0.bring 1).at1 (o := 5) (vs := [(vs x0.b4.r5)]) (nb rfl) rfl)) | (simp only [b5 a8]; exact (ld1 Tryd.isAgg23 ((u0.bring 1).at1 (o := 5) (vs := [(vs x0.b4.r5)]) (nb rfl) rfl))) | (simp only [c6 a8, b5 a8, b5 hb, k9 a8, m3]; exact (ld1 Tryd.isAgg23 ((u0.bring 1).at1 (o := 5) (vs := [(vs x0.b4.r5)]) (nb rfl) rfl)))) ?_
     refine a7 (Pu.g fun hb => by have a8 := hb; first | exact (Q9 _ _ _) | (simp only [b5 a8]; exact (Q9 _ _ _)) | (simp only [c6 a8, b5 a8, b5 hb, k9 a8, m3]; exact (Q9 _ _ _))) ?_
     refine a7 (Pu.g fun hb => by have a8 := hb; first | exact (f4 _ _ _ _ _ _) | (simp only [b5 a8]; exact (f4 _ _ _ _ _ _)) | (simp only [c6 a8, b5 a8, b5 hb, k9 a8, m3]; exact (f4 _ _ _ _ _ _))) ?_
     refine a7 (E8 _ _) ?_
     refine b7 (Ld.g fun hb => by have a8 := hb; first | exact (ldA Tryd.isAgg213 Tryd.sizeOf213 rfl (u0.at1 (o := 0) (vs := [(vi (x0.b4.b8.n : Int)), (vi (x0.b4.f7.n : Int))]) (nb rfl) rfl)) | (simp only [c6 a8, b5 a8, b5 hb, B5 a8]; exact (ldA Tryd.isAgg213 Tryd.sizeOf213 rfl (u0.at1 (o := 0) (vs := [(vi (x0.b4.b8.n : Int)), (vi (x0.b4.f7.n : Int))]) (nb rfl) rfl))) | (simp only [c6 a8, b5 a8, b5 hb, k9 a8, m3]; exact (ldA Tryd.isAgg213 Tryd.sizeOf213 rfl (u0.at1 (o := 0) (vs := [(vi (x0.b4.b8.n : Int)), (vi (x0.b4.f7.n : Int))]) (nb rfl) rfl)))) ?_
     refine a7 (Pu.g fun hb => by have a8 := hb; first | exact (p9 _ _) | (simp only [c6 a8, b5 a8, b5 hb, B5 a8]; exact (p9 _ _)) | (simp only [c6 a8, b5 a8, b5 hb, k9 a8, m3]; exact (p9 _ _))) ?_
     refine a7 (Pu.g fun hb => by have a8 := hb; first | exact (y6 _ _ _ _ _ _) | (simp only [b5 a8]; exact (y6 _ _ _ _ _ _)) | (simp only [c6 a8, b5 a8, b5 hb, k9 a8, m3]; exact (y6 _ _ _ _ _ _))) ?_
     refine a7 (E8 _ _) ?_
     exact hR (((decide (x0.b4.g9 = ⟨#[]⟩)) && (decide ((x0.b4.r5.n : Int) = 0))) && (decide ((x0.b4.b8.n : Int) = 0 ∧ (x0.b4.f7.n : Int) = 1))) H _ u0.drop.drop h
    ·replace h := h.2 a2Q
     have hj1 : ∀ (a6N : Bool) (H : Hp) (w : World) (_ : Inv w0 ps0 H0 H [bx g_7 213 [(vi (i7.mk (x0.b4.b8.n : Int) (x0.b4.f7.n : Int)).fexprs), (vi (i7.mk (x0.b4.b8.n : Int) (x0.b4.f7.n : Int)).fconds)], bx g_2 177 (f6 x0.b4)] w) (_ : w3 ((decide (x0.b4.g9 = ⟨#[]⟩)) && (!(decide (0 < (IntKind.wrap .i64 ((x0.b4.t8.n : Int) + (x0.b4.r5.n : Int))))))) x0.b4.c7 a6N (i7.mk (x0.b4.b8.n : Int) (x0.b4.f7.n : Int)) x0 H K), a9k (Value.pointer (some ⟨g_7, 0, none⟩)) (Value.bool ((decide (x0.b4.g9 = ⟨#[]⟩)) && (!(decide (0 < (IntKind.wrap .i64 ((x0.b4.t8.n : Int) + (x0.b4.r5.n : Int)))))))) (vi x0.b4.c7) (Value.bool a6N) w R E := by
      intro a6N H w I h
      unfold a9k
      intro _
      unfold w3 at h
      refine o4 (fun a0r => ?_) (fun a0r => ?_)
      ·replace h := h.1 a0r
       refine b7 (Ld.g fun hb => by have a8 := hb; first | exact (ldA Tryd.isAgg213 Tryd.sizeOf213 rfl (I.at1 (o := 0) (vs := [(vi (i7.mk (x0.b4.b8.n : Int) (x0.b4.f7.n : Int)).fexprs), (vi (i7.mk (x0.b4.b8.n : Int) (x0.b4.f7.n : Int)).fconds)]) (nb rfl) rfl)) | (simp only [c6 a8, b5 a8, b5 hb, B5 a8]; exact (ldA Tryd.isAgg213 Tryd.sizeOf213 rfl (I.at1 (o := 0) (vs := [(vi (i7.mk (x0.b4.b8.n : Int) (x0.b4.f7.n : Int)).fexprs), (vi (i7.mk (x0.b4.b8.n : Int) (x0.b4.f7.n : Int)).fconds)]) (nb rfl) rfl))) | (simp only [c6 a8, b5 a8, b5 hb, k9 a8, m3]; exact (ldA Tryd.isAgg213 Tryd.sizeOf213 rfl (I.at1 (o := 0) (vs := [(vi (i7.mk (x0.b4.b8.n : Int) (x0.b4.f7.n : Int)).fexprs), (vi (i7.mk (x0.b4.b8.n : Int) (x0.b4.f7.n : Int)).fconds)]) (nb rfl) rfl)))) ?_
       refine a7 (Pu.g fun hb => by have a8 := hb; first | exact (p9 _ _) | (simp only [c6 a8, b5 a8, b5 hb, B5 a8]; exact (p9 _ _)) | (simp only [c6 a8, b5 a8, b5 hb, k9 a8, m3]; exact (p9 _ _))) ?_
       refine a7 (Pu.g fun hb => by have a8 := hb; first | exact (y6 _ _ _ _ _ _) | (simp only [b5 a8]; exact (y6 _ _ _ _ _ _)) | (simp only [c6 a8, b5 a8, b5 hb, k9 a8, m3]; exact (y6 _ _ _ _ _ _))) ?_
       refine a7 (E8 _ _) ?_
       exact hR (((decide (x0.b4.g9 = ⟨#[]⟩)) && (!(decide (0 < (IntKind.wrap .i64 ((x0.b4.t8.n : Int) + (x0.b4.r5.n : Int))))))) && (decide ((i7.mk (x0.b4.b8.n : Int) (x0.b4.f7.n : Int)).fexprs = 0 ∧ (i7.mk (x0.b4.b8.n : Int) (x0.b4.f7.n : Int)).fconds = 1))) H _ I.drop.drop h
      ·replace h := h.2 a0r
       refine a7 (f4 _ _ _ _ _ _) ?_
       refine d8 (fun a7o => ?_) (fun a7o => ?_)
       ·replace h := h.1 a7o
        refine b7 (Ld.g fun hb => by have a8 := hb; first | exact (ldA Tryd.isAgg213 Tryd.sizeOf213 rfl (I.at1 (o := 0) (vs := [(vi (i7.mk (x0.b4.b8.n : Int) (x0.b4.f7.n : Int)).fexprs), (vi (i7.mk (x0.b4.b8.n : Int) (x0.b4.f7.n : Int)).fconds)]) (nb rfl) rfl)) | (simp only [c6 a8, b5 a8, b5 hb, B5 a8]; exact (ldA Tryd.isAgg213 Tryd.sizeOf213 rfl (I.at1 (o := 0) (vs := [(vi (i7.mk (x0.b4.b8.n : Int) (x0.b4.f7.n : Int)).fexprs), (vi (i7.mk (x0.b4.b8.n : Int) (x0.b4.f7.n : Int)).fconds)]) (nb rfl) rfl))) | (simp only [c6 a8, b5 a8, b5 hb, k9 a8, m3]; exact (ldA Tryd.isAgg213 Tryd.sizeOf213 rfl (I.at1 (o := 0) (vs := [(vi (i7.mk (x0.b4.b8.n : Int) (x0.b4.f7.n : Int)).fexprs), (vi (i7.mk (x0.b4.b8.n : Int) (x0.b4.f7.n : Int)).fconds)]) (nb rfl) rfl)))) ?_
        refine a7 (Pu.g fun hb => by have a8 := hb; first | exact (a4E ) | (simp only [c6 a8, b5 a8, b5 hb, B5 a8]; exact (a4E )) | (simp only [c6 a8, b5 a8, b5 hb, k9 a8, m3]; exact (a4E ))) ?_
        refine a7 (Pu.g fun hb => by have a8 := hb; first | exact (y6 _ _ _ _ _ _) | (simp only [b5 a8]; exact (y6 _ _ _ _ _ _)) | (simp only [c6 a8, b5 a8, b5 hb, k9 a8, m3]; exact (y6 _ _ _ _ _ _))) ?_
        refine a7 (E8 _ _) ?_
        exact hR (((decide (x0.b4.g9 = ⟨#[]⟩)) && (!(decide (0 < (IntKind.wrap .i64 ((x0.b4.t8.n : Int) + (x0.b4.r5.n : Int))))))) && (decide ((i7.mk (x0.b4.b8.n : Int) (x0.b4.f7.n : Int)).fexprs = 0 ∧ (i7.mk (x0.b4.b8.n : Int) (x0.b4.f7.n : Int)).fconds = 0))) H _ I.drop.drop h
       ·replace h := h.2 a7o
        exact hR false H _ I.drop.drop h
     refine t7 fun j1 hx1 => ?_
     refine a7 (f4 _ _ _ _ _ _) ?_
     refine d8 (fun a2R => ?_) (fun a2R => ?_)
     ·replace h := h.1 a2R
      exact hx1 _ _ (hj1 (decide (x0.b4.c7 = 5)) H _ ((u0.bring 1).bring 1) h)
     ·replace h := h.2 a2R
      refine a7 (f4 _ _ _ _ _ _) ?_
      exact hx1 _ _ (hj1 (decide (x0.b4.c7 = 6)) H _ ((u0.bring 1).bring 1) h)
theorem a3u (x0 : w6) {H : Hp} {K : Bool → Hp → Prop} (h : J6 x0 H K) : Q3 x0 H K := by
 intro w I
 refine c2L ?_
 refine a3i x0 I (fun r0 H' w' I' hk => ⟨H', _, I', r0, rfl, rfl, hk⟩) h
def G9 (x0 : w6) (H : Hp) (K : Sl → Hp → Prop) : Prop :=
 l8 x0.b4.f7 H (fun (a1m : Sl) (H_8 : Hp) =>
 h8 x0.b4.b8 H_8 (fun (a1o : Sl) (a6c : Hp) =>
 h7 x0.b4.t8 a6c (fun (b4M : Sl) (c8E : Hp) =>
 h7 x0.b4.r5 c8E (fun (b4N : Sl) (a4X : Hp) =>
 ∀ (a9H : Sl) (b2i : Hp), Hle a4X b2i → SlH b2i 1 csl a9H [a1m, a1o, b4M, b4N] → a9H.n ≤ a9H.c →
 k8 a9H b2i (fun (b4O : Sl) (b9E : Hp) =>
 K b4O b9E)))))
theorem a2w (x0 : w6) {w0 w : World} {ps0 : Nat → Prop} {H0 H : Hp} {K : Sl → Hp → Prop} {R : Value → World → Prop} {E : Pan} (I : Inv w0 ps0 H0 H [] w) (hR : ∀ (r0 : Sl) (H' : Hp) (w' : World) (_ : Inv w0 ps0 H0 H' [] w') (_ : K r0 H'), R (vs r0) w') (h : G9 x0 H K) : b4n (Value.agg (f6 x0.b4).toArray) w R E := by
 unfold G9 at h
 unfold b4n
 refine M1 I (cs := (f6 x0.b4)) rfl fun g_2 w_3 I_4 k_5 => ?_
 refine a7f I_4 fun w_6 I_7 => ?_
 refine s6 q7 ?_
 refine s6 a2m ?_
 refine s6 q7 ?_
 refine s6 a2l ?_
 refine s6 q7 ?_
 refine s6 a2o ?_
 refine s6 q7 ?_
 refine s6 U0 ?_
 refine T5 (ld1 Tryd.isAgg31 (I_7.at1 (o := 3) (vs := [(vs x0.b4.f7)]) (nb rfl) rfl)) ?_
 refine T5 (ld1 Tryd.isAgg28 (I_7.at1 (o := 2) (vs := [(vs x0.b4.b8)]) (nb rfl) rfl)) ?_
 refine T5 (ld1 Tryd.isAgg23 (I_7.at1 (o := 4) (vs := [(vs x0.b4.t8)]) (nb rfl) rfl)) ?_
 refine T5 (ld1 Tryd.isAgg23 (I_7.at1 (o := 5) (vs := [(vs x0.b4.r5)]) (nb rfl) rfl)) ?_
 refine d6 (cap := []) (fun args w => Tryd.call154 args w) ?_
 refine i2 (Fi := []) (Fr := [bx g_2 177 (f6 x0.b4)]) I_7 (h) (fun c8d H_8 c8e w_9 a4U a9p a7w b1L => ?_) (fun _ _ _ _ _ q => q.elim)
 obtain ⟨a1m, rfl, rfl, h⟩ := b1L
 refine ⟨(a7w _ I_7.lt1 (Inv.a0R (Fi := []) I_7)), (a7w _ I_7.lt1 (Inv.a0R (Fi := []) I_7)), (a7w _ I_7.lt1 (Inv.a0R (Fi := []) I_7)), ?_⟩
 refine d6 (cap := []) (fun args w => Tryd.call150 args w) ?_
 refine i2 (Fi := []) (Fr := [bx g_2 177 (f6 x0.b4)]) a4U (h) (fun c8f a6c b8m s5 a4V c8g b1M b1N => ?_) (fun _ _ _ _ _ q => q.elim)
 obtain ⟨a1o, rfl, rfl, h⟩ := b1N
 refine ⟨(b1M _ a4U.lt1 (Inv.a0R (Fi := []) a4U)), (b1M _ a4U.lt1 (Inv.a0R (Fi := []) a4U)), ?_⟩
 refine d6 (cap := []) (fun args w => Tryd.call97 args w) ?_
 refine i2 (Fi := []) (Fr := [bx g_2 177 (f6 x0.b4)]) a4V (h) (fun d8K c8E d8L a2H a6h d8M d4V d4W => ?_) (fun _ _ _ _ _ q => q.elim)
 obtain ⟨b4M, rfl, rfl, h⟩ := d4W
 refine ⟨(d4V _ a4V.lt1 (Inv.a0R (Fi := []) a4V)), ?_⟩
 refine d6 (cap := []) (fun args w => Tryd.call97 args w) ?_
 refine i2 (Fi := []) (Fr := [bx g_2 177 (f6 x0.b4)]) a6h (h) (fun d8N a4X d8O G1 d4X d8P d8Q d4Y => ?_) (fun _ _ _ _ _ q => q.elim)
 obtain ⟨b4N, rfl, rfl, h⟩ := d4Y
 refine a0S (e := 97) (c := csl) (xs := [a1m, a1o, b4M, b4N]) d4X (b7W _ _ _ _ _ _ _ _ _ _ _ _) rfl rfl b0i b0j (nb rfl) fun a9H d8R a8R d4Z b9z d4O => ?_
 obtain ⟨b2i, d5a, d5b, a3e, d5c⟩ := Inv.freezeC b9z d4Z (by decide)
 replace h := h a9H b2i d5b a3e d5c
 refine d6 (cap := []) (fun args w => Tryd.call94 args w) ?_
 refine i2 (Fi := []) (Fr := [bx g_2 177 (f6 x0.b4)]) d5a (h) (fun d8S b9E d8T b2j b9F d8U d5d d5e => ?_) (fun _ _ _ _ _ q => q.elim)
 obtain ⟨b4O, rfl, rfl, h⟩ := d5e
 exact hR b4O b9E _ b9F.drop h
theorem a3j (x0 : w6) {H : Hp} {K : Sl → Hp → Prop} (h : G9 x0 H K) : Y0 x0 H K := by
 intro w I
 refine c2N ?_
 refine a2w x0 I (fun r0 H' w' I' hk => ⟨H', _, I', r0, rfl, rfl, hk⟩) h
end Go.Proofs.YthldnpmfelniiaaDoor
