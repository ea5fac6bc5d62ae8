/- Typed formulas of the program's functions, and the theorems that the contracts follow from them; printed by lift.py off the code. -/
import Derived.Test.YthldnpmfelniiaaDoorzTV1
namespace Go.Proofs.YthldnpmfelniiaaDoor
open Go.RowKit
set_option maxRecDepth 100000
set_option maxHeartbeats 2000000
def m6 (L4 : (List a8)) (H : Hp) (K : Sl → Hp → Prop) : Prop :=
 ∀ (u9 : Sl) (O0 : Hp), Hle H O0 → SlH O0 1 h7 u9 L4 → u9.n ≤ u9.c →
 K u9 O0
def m7 (Q4 : Sl) (O1 : Int) (j9 : (List a8)) (i5 : Int) (H : Hp) (n2 : ((List a8) × Int) → Hp → Prop) (K : Sl → Hp → Prop) : Prop :=
 (i5 < O1 →
 (0 : Int) ≤ i5 ∧ (i5 : Int) < Q4.n ∧ ∃ x_1 : d6, EltH H Q4 i5 2 (g7 x_1) ∧
 a1K x_1 H (fun (E5 : a8) (W6 : Hp) =>
 (j9.length + ([E5] : List a8).length) * 17 ≤ 140737488355328 ∧
 n2 ((j9 ++ [E5]), (IntKind.wrap .i64 (i5 + 1))) W6)) ∧
 (¬ (i5 < O1) →
 m6 j9 H K)
def o7 (x0 : Sl) (H : Hp) (K : Sl → Hp → Prop) : Prop :=
 TL (([], 0) : (List a8) × Int) H fun (s : (List a8) × Int) H n2 => m7 x0 (x0.n : Int) s.1 s.2 H n2 K
theorem N6 (x0 : Sl) {w0 w : World} {ps0 : Nat → Prop} {H0 H : Hp} {K : Sl → Hp → Prop} {R : Value → World → Prop} {E : Pan} (I : Inv w0 ps0 H0 H [] w) (hR : ∀ (r0 : Sl) (H' : Hp) (w' : World) (_ : Inv w0 ps0 H0 H' [] w') (_ : K r0 H'), R (vs r0) w') (h : o7 x0 H K) : F95 (vs x0) (Value.func (.func 96) #[] #[]) w R E := by
 unfold o7 at h
 unfold F95
 have hj1 : ∀ (L4 : (List a8)) (u9 : Sl) (Fs5j1 : Frag) (H : Hp) (w : World) (_ : RowL 141 1 h7 u9 L4 Fs5j1) (_ : Inv w0 ps0 H0 H [Fs5j1] w) (_ : m6 L4 H K), b2B (vs u9) w R E := by
  intro L4 u9 Fs5j1 H w a5F I h
  unfold b2B
  intro _
  unfold m6 at h
  obtain ⟨O0, a3K, a7b, a3L, a4I⟩ := Inv.freezeC I a5F (by decide)
  replace h := h u9 O0 a7b a3L a4I
  exact hR u9 O0 _ a3K h
 refine v2 fun j1 hx1 => ?_
 refine a6 (a4n _ _ _) ?_
 obtain ⟨a1b, S5, a8z, a8A⟩ := h
 refine G2 (J := fun n l w => ∃ (s : (List a8) × Int) (H : Hp) (L5 : Sl) (Fs5l2 : Frag) , n = S5 s ∧ l = (match s with | (j9, i5) => [(vs L5), (vi i5)]) ∧ (match s with | (j9, i5) => RowL 141 1 h7 L5 j9 Fs5l2) ∧ (match s with | (j9, i5) => Inv w0 ps0 H0 H [Fs5l2] w) ∧ a1b s H) ⟨_, ([], 0), H, (Sl.mk none 0 0), [], rfl, rfl, (RowL.nil C7 E2), I.nil, a8z⟩ ?_
 rintro b9W τ_50 w next2 ⟨⟨j9, i5⟩, H, L5, Fs5l2, rfl, a1d, X9, I, a8B⟩ hn2
 dsimp only at a1d I X9
 simp only [List.map_cons, List.map_nil, List.cons.injEq, and_true] at a1d
 obtain ⟨e5, e10⟩ := a1d
 simp only [e5, e10]
 obtain ⟨n2, hm2, h⟩ : ∃ n2 : ((List a8) × Int) → Hp → Prop, (∀ s' H', n2 s' H' → a1b s' H' ∧ S5 s' < S5 (j9, i5)) ∧ m7 x0 (x0.n : Int) j9 i5 H n2 K := ⟨_, fun _ _ h => h, a8A (j9, i5) H (fun s' H' => a1b s' H' ∧ S5 s' < S5 (j9, i5)) a8B (fun _ _ a b => ⟨a, b⟩)⟩
 unfold b7L
 unfold m7 at h
 refine a6 (K7 _ _ _ _ _ _) ?_
 refine d7 (fun Y0 => ?_) (fun Y0 => ?_)
 ·replace h := h.1 Y0
  obtain ⟨h_4, h_5, x_1, h_7, h⟩ := h
  obtain ⟨g_2, o_3, h_6, h_7⟩ := h_7
  refine a6 (a8o h_6 _ _ _ _ h_4 h_5) ?_
  refine c5 (ldA (vs := (g7 x_1)) Tryd.isAgg67 Tryd.sizeOf67 rfl (I.atH h_7)) ?_
  refine E7 I Tryd.zeroValue67 (cs := [(Value.string ⟨#[]⟩), (vi 0)]) rfl fun g_9 o2 a2b b2W => ?_
  refine s6 a2b Tryd.sizeOf67 (vs := (g7 x_1)) (cs' := (g7 x_1)) rfl rfl (nb rfl) rfl rfl fun a3x a3M b9X => ?_
  refine c5 (ldA Tryd.isAgg67 Tryd.sizeOf67 rfl (a3M.at1 (o := 0) (vs := (g7 x_1)) (nb rfl) rfl)) ?_
  refine f8 (cap := []) (fun args w => Tryd.call96 args w) ?_
  refine j8 (Fi := []) (Fr := [bx g_9 67 (g7 x_1), Fs5l2]) a3M (h) (fun b5K W6 b5L a0F a0o b5M b5N a5G => ?_) (fun _ _ _ _ _ q => q.elim)
  obtain ⟨E5, rfl, rfl, h⟩ := a5G
  refine a1w (e := 141) (c := h7) (xs := [E5]) a0o (a7x _) rfl rfl C7 E2 (nb rfl) fun b2X b0L G4 a5H a0I b2Y => ?_
  obtain ⟨a5I, h⟩ := h
  refine a6H (s := L5) (xs := j9) (a0I.bring 2) X9 (a5H.srcO ((a0I.bring 2).bring 1)) a5I fun a8C a8D J3 a5J a2N b5O => ?_
  refine a6 (F8 _ _ _ _ _ _) ?_
  exact hn2 _ _ _ (hm2 _ _ h).2 ⟨((j9 ++ [E5]), (IntKind.wrap .i64 (i5 + 1))), W6, a8C, a8D, rfl, rfl, a5J, ((a2N.bring 1).drop.bring 1).drop, (hm2 _ _ h).1⟩
 ·replace h := h.2 Y0
  exact hx1 _ _ (hj1 j9 L5 Fs5l2 H _ X9 I h)
theorem P1 (x0 : Sl) {H : Hp} {K : Sl → Hp → Prop} (h : o7 x0 H K) : u2 x0 H K := by
 intro w I
 refine c7k ?_
 refine N6 x0 I (fun r0 H' w' I' hk => ⟨H', _, I', r0, rfl, rfl, hk⟩) h
def U2 (x0 : a8) (H : Hp) (K : ByteArray → Bool → Hp → Prop) : Prop :=
 (x0.a1W = true →
 K ((((x0.G3)).C6).c6) true H) ∧
 (x0.a1W = false →
 (x0.a1X = true →
 K ((((x0.b8)).b3).c6) ((decide (((((x0.b8)).b3).d4) = 1)) || (decide (((((x0.b8)).b3).d4) = 2))) H) ∧
 (x0.a1X = false →
 (x0.a1V = true →
 K ((((x0.h8)).d8).c6) ((decide (((((x0.h8)).d8).d4) = 2)) || (decide (((((x0.h8)).d8).d4) = 4))) H) ∧
 (x0.a1V = false →
 K ⟨#[]⟩ false H)))
theorem a6u (x0 : a8) {w0 w : World} {ps0 : Nat → Prop} {H0 H : Hp} {K : ByteArray → Bool → Hp → Prop} {R : Value → World → Prop} {E : Pan} (I : Inv w0 ps0 H0 H [] w) (hR : ∀ (r0 : ByteArray) (r1 : Bool) (H' : Hp) (w' : World) (_ : Inv w0 ps0 H0 H' [] w') (_ : K r0 r1 H'), R (Value.tuple #[(Value.string r0), (Value.bool r1)]) w') (h : U2 x0 H K) : b5j (l9 x0) w R E := by
 unfold U2 at h
 unfold b5j
 refine a6 (b1H x0) ?_
 refine a6 (p9 _ _ _ rfl) ?_
 refine a6 (p9 _ _ _ rfl) ?_
 refine r8 (fun c1g => ?_) (fun c1g => ?_)
 ·replace h := h.1 c1g
  refine E7 I Tryd.zeroValue175 (cs := [(Value.string ⟨#[]⟩), (vi 0)]) rfl fun g_2 w_3 I_4 k_5 => ?_
  refine s6 I_4 Tryd.sizeOf175 (vs := [(Value.string ((((x0.G3)).C6).c6)), (vi ((((x0.G3)).C6).K0))]) (cs' := [(Value.string ((((x0.G3)).C6).c6)), (vi ((((x0.G3)).C6).K0))]) rfl rfl (nb rfl) rfl rfl fun w_6 I_7 k_8 => ?_
  refine a6 a0N ?_
  refine a6 a0s ?_
  refine c5 (ld1 Tryd.isAgg9 (I_7.at1 (o := 0) (vs := [(Value.string ((((x0.G3)).C6).c6))]) (nb rfl) rfl)) ?_
  exact hR ((((x0.G3)).C6).c6) true H _ I_7.drop h
 ·replace h := h.2 c1g
  refine a6 (b1I x0) ?_
  refine a6 (p9 _ _ _ rfl) ?_
  refine a6 (p9 _ _ _ rfl) ?_
  refine r8 (fun c1h => ?_) (fun c1h => ?_)
  ·replace h := h.1 c1h
   refine E7 I Tryd.zeroValue177 (cs := [(vi 0), (Value.string ⟨#[]⟩), (Value.slice none 0 0), (Value.slice none 0 0), (Value.slice none 0 0), (Value.slice none 0 0)]) rfl fun d8d S3 A0 b0K => ?_
   refine s6 A0 Tryd.sizeOf177 (vs := [(vi ((((x0.b8)).b3).d4)), (Value.string ((((x0.b8)).b3).c6)), (Value.slice ((((x0.b8)).b3).b9).a ((((x0.b8)).b3).b9).n ((((x0.b8)).b3).b9).c), (Value.slice ((((x0.b8)).b3).g9).a ((((x0.b8)).b3).g9).n ((((x0.b8)).b3).g9).c), (Value.slice ((((x0.b8)).b3).B4).a ((((x0.b8)).b3).B4).n ((((x0.b8)).b3).B4).c), (Value.slice ((((x0.b8)).b3).z7).a ((((x0.b8)).b3).z7).n ((((x0.b8)).b3).z7).c)]) (cs' := [(vi ((((x0.b8)).b3).d4)), (Value.string ((((x0.b8)).b3).c6)), (Value.slice ((((x0.b8)).b3).b9).a ((((x0.b8)).b3).b9).n ((((x0.b8)).b3).b9).c), (Value.slice ((((x0.b8)).b3).g9).a ((((x0.b8)).b3).g9).n ((((x0.b8)).b3).g9).c), (Value.slice ((((x0.b8)).b3).B4).a ((((x0.b8)).b3).B4).n ((((x0.b8)).b3).B4).c), (Value.slice ((((x0.b8)).b3).z7).a ((((x0.b8)).b3).z7).n ((((x0.b8)).b3).z7).c)]) rfl rfl (nb rfl) rfl rfl fun r9 a8H b5U => ?_
   refine a1u a8H fun a0F a0o => ?_
   refine i8 t8 ?_
   refine i8 a0v ?_
   refine i8 t8 ?_
   refine i8 a0u ?_
   refine E8 (ld1 Tryd.isAgg9 (a0o.at1 (o := 1) (vs := [(Value.string ((((x0.b8)).b3).c6))]) (nb rfl) rfl)) ?_
   refine E8 (ld1 Tryd.isAgg3 (a0o.at1 (o := 0) (vs := [(vi ((((x0.b8)).b3).d4))]) (nb rfl) rfl)) ?_
   refine i8 (f7 _ _ _ _ _ _) ?_
   refine i8 (Pu.g fun hb => by have a7 := hb; first | exact t8 | (simp only [c7 a7, b5 a7, b5 hb, a6E a7]; exact t8) | (simp only [c7 a7, b5 a7, b5 hb, K8 a7, p1]; exact t8)) ?_
   refine i8 (Pu.g fun hb => by have a7 := hb; first | exact a0u | (simp only [b5 a7]; exact a0u) | (simp only [c7 a7, b5 a7, b5 hb, K8 a7, p1]; exact a0u)) ?_
   refine c5y (p := (Value.pointer (some ⟨d8d, 0, none⟩))) rfl (Ld.g fun hb => by have a7 := hb; first | exact (ld1 Tryd.isAgg3 (a0o.at1 (o := 0) (vs := [(vi ((((x0.b8)).b3).d4))]) (nb rfl) rfl)) | (simp only [b5 a7]; exact (ld1 Tryd.isAgg3 (a0o.at1 (o := 0) (vs := [(vi ((((x0.b8)).b3).d4))]) (nb rfl) rfl))) | (simp only [c7 a7, b5 a7, b5 hb, K8 a7, p1]; exact (ld1 Tryd.isAgg3 (a0o.at1 (o := 0) (vs := [(vi ((((x0.b8)).b3).d4))]) (nb rfl) rfl)))) ?_
   refine i8 (Pu.g fun hb => by have a7 := hb; first | exact (f7 _ _ _ _ _ _) | (simp only [b5 a7]; exact (f7 _ _ _ _ _ _)) | (simp only [c7 a7, b5 a7, b5 hb, K8 a7, p1]; exact (f7 _ _ _ _ _ _))) ?_
   refine i8 (a1t _ _) ?_
   exact hR ((((x0.b8)).b3).c6) ((decide (((((x0.b8)).b3).d4) = 1)) || (decide (((((x0.b8)).b3).d4) = 2))) H _ a0o.drop h
  ·replace h := h.2 c1h
   refine a6 (b2q x0) ?_
   refine a6 (p9 _ _ _ rfl) ?_
   refine a6 (p9 _ _ _ rfl) ?_
   refine r8 (fun c1i => ?_) (fun c1i => ?_)
   ·replace h := h.1 c1i
    refine E7 I Tryd.zeroValue96 (cs := [(vi 0), (vi 0), (Value.string ⟨#[]⟩), (Value.slice none 0 0)]) rfl fun d1a a6K d8e e1L => ?_
    refine s6 d8e Tryd.sizeOf96 (vs := [(vi ((((x0.h8)).d8).d4)), (vi ((((x0.h8)).d8).V8)), (Value.string ((((x0.h8)).d8).c6)), (Value.slice ((((x0.h8)).d8).u5).a ((((x0.h8)).d8).u5).n ((((x0.h8)).d8).u5).c)]) (cs' := [(vi ((((x0.h8)).d8).d4)), (vi ((((x0.h8)).d8).V8)), (Value.string ((((x0.h8)).d8).c6)), (Value.slice ((((x0.h8)).d8).u5).a ((((x0.h8)).d8).u5).n ((((x0.h8)).d8).u5).c)]) rfl rfl (nb rfl) rfl rfl fun A6 a2S d7Z => ?_
    refine a1u a2S fun a3y a7g => ?_
    refine i8 B6 ?_
    refine i8 X2 ?_
    refine i8 B6 ?_
    refine i8 X1 ?_
    refine E8 (ld1 Tryd.isAgg9 (a7g.at1 (o := 2) (vs := [(Value.string ((((x0.h8)).d8).c6))]) (nb rfl) rfl)) ?_
    refine E8 (ld1 Tryd.isAgg3 (a7g.at1 (o := 0) (vs := [(vi ((((x0.h8)).d8).d4))]) (nb rfl) rfl)) ?_
    refine i8 (f7 _ _ _ _ _ _) ?_
    refine i8 (Pu.g fun hb => by have a7 := hb; first | exact B6 | (simp only [c7 a7, b5 a7, b5 hb, a6E a7]; exact B6) | (simp only [c7 a7, b5 a7, b5 hb, K8 a7, p1]; exact B6)) ?_
    refine i8 (Pu.g fun hb => by have a7 := hb; first | exact X1 | (simp only [b5 a7]; exact X1) | (simp only [c7 a7, b5 a7, b5 hb, K8 a7, p1]; exact X1)) ?_
    refine c5y (p := (Value.pointer (some ⟨d1a, 0, none⟩))) rfl (Ld.g fun hb => by have a7 := hb; first | exact (ld1 Tryd.isAgg3 (a7g.at1 (o := 0) (vs := [(vi ((((x0.h8)).d8).d4))]) (nb rfl) rfl)) | (simp only [b5 a7]; exact (ld1 Tryd.isAgg3 (a7g.at1 (o := 0) (vs := [(vi ((((x0.h8)).d8).d4))]) (nb rfl) rfl))) | (simp only [c7 a7, b5 a7, b5 hb, K8 a7, p1]; exact (ld1 Tryd.isAgg3 (a7g.at1 (o := 0) (vs := [(vi ((((x0.h8)).d8).d4))]) (nb rfl) rfl)))) ?_
    refine i8 (Pu.g fun hb => by have a7 := hb; first | exact (f7 _ _ _ _ _ _) | (simp only [b5 a7]; exact (f7 _ _ _ _ _ _)) | (simp only [c7 a7, b5 a7, b5 hb, K8 a7, p1]; exact (f7 _ _ _ _ _ _))) ?_
    refine i8 (a1t _ _) ?_
    exact hR ((((x0.h8)).d8).c6) ((decide (((((x0.h8)).d8).d4) = 2)) || (decide (((((x0.h8)).d8).d4) = 4))) H _ a7g.drop h
   ·replace h := h.2 c1i
    exact hR ⟨#[]⟩ false H _ I h
theorem a7h (x0 : a8) {H : Hp} {K : ByteArray → Bool → Hp → Prop} (h : U2 x0 H K) : Q1 x0 H K := by
 intro w I
 refine c3w ?_
 refine a6u x0 I (fun r0 r1 H' w' I' hk => ⟨H', _, I', r0, r1, rfl, rfl, hk⟩) h
def T0 (x0 : Int) (H : Hp) (K : Bool → Hp → Prop) : Prop :=
 S6 x0 H (fun (G5 : Int) (H_1 : Hp) =>
 K ((decide (G5 = 3)) || (decide (G5 = 4))) H_1)
theorem a6d (x0 : Int) {w0 w : World} {ps0 : Nat → Prop} {H0 H : Hp} {K : Bool → Hp → Prop} {R : Value → World → Prop} {E : Pan} (I : Inv w0 ps0 H0 H [] w) (hR : ∀ (r0 : Bool) (H' : Hp) (w' : World) (_ : Inv w0 ps0 H0 H' [] w') (_ : K r0 H'), R (Value.bool r0) w') (h : T0 x0 H K) : b5q (Value.int .i32 x0) w R E := by
 unfold T0 at h
 unfold b5q
 refine f8 (cap := []) (fun args w => Tryd.call126 args w) ?_
 refine j8 (Fi := []) (Fr := []) I (h) (fun v_5 H_1 F_6 w_2 I_3 l_8 k_4 q_7 => ?_) (fun _ _ _ _ _ q => q.elim)
 obtain ⟨G5, rfl, rfl, h⟩ := q_7
 refine a6 (f7 _ _ _ _ _ _) ?_
 try simp only [Q8]
 refine a6 (Pu.g fun hb => by have a7 := hb; first | exact (f7 _ _ _ _ _ _) | (simp only [b5 a7]; exact (f7 _ _ _ _ _ _)) | (simp only [c7 a7, b5 a7, b5 hb, K8 a7, p1]; exact (f7 _ _ _ _ _ _))) ?_
 refine a6 (a1t _ _) ?_
 exact hR ((decide (G5 = 3)) || (decide (G5 = 4))) H_1 _ I_3 h
theorem a6v (x0 : Int) {H : Hp} {K : Bool → Hp → Prop} (h : T0 x0 H K) : Z9 x0 H K := by
 intro w I
 refine c3I ?_
 refine a6d x0 I (fun r0 H' w' I' hk => ⟨H', _, I', r0, rfl, rfl, hk⟩) h
def E0 (H : Hp) (K : Int → Hp → Prop) : Prop :=
 K (-1) H
def E1 (d4L : (List ByteArray)) (b3s : ByteArray) (a1k : Int) (Q4 : Int) (H : Hp) (n2 : Int → Hp → Prop) (K : Int → Hp → Prop) : Prop :=
 (Q4 < a1k →
 (0 : Int) ≤ Q4 ∧ ∃ x_1 : ByteArray, (d4L)[(Q4 : Int).toNat]? = some x_1 ∧
 (b3s = x_1 →
 K Q4 H) ∧
 (¬ (b3s = x_1) →
 n2 (IntKind.wrap .i64 (Q4 + 1)) H)) ∧
 (¬ (Q4 < a1k) →
 E0 H K)
def G6 (x0 : (List ByteArray)) (x1 : ByteArray) (H : Hp) (K : Int → Hp → Prop) : Prop :=
 TL (0 : Int) H fun (s : Int) H n2 => E1 x0 x1 (x0.length : Int) s H n2 K
theorem a1S (x0 : (List ByteArray)) (x1 : ByteArray) (sx0 : Sl) (Fx0 : Frag) (hx0 : RowL 9 1 s8 sx0 x0 Fx0) {w0 w : World} {ps0 : Nat → Prop} {H0 H : Hp} {K : Int → Hp → Prop} {R : Value → World → Prop} {E : Pan} (I : Inv w0 ps0 H0 H [Fx0] w) (hR : ∀ (r0 : Int) (H' : Hp) (w' : World) (_ : Inv w0 ps0 H0 H' [Fx0] w') (_ : K r0 H'), R (vi r0) w') (h : G6 x0 x1 H K) : b5s (vs sx0) (Value.string x1) w R E := by
 unfold G6 at h
 unfold b5s
 have hj1 : ∀ (H : Hp) (w : World) (_ : Inv w0 ps0 H0 H [Fx0] w) (_ : E0 H K), b0y w R E := by
  intro H w I h
  unfold b0y
  intro _
  unfold E0 at h
  exact hR (-1) H _ I h
 refine v2 fun j1 hx1 => ?_
 refine a6 (a9i Tryd.underlying47 hx0) ?_
 obtain ⟨c1j, b3z, d8f, d8g⟩ := h
 refine G2 (J := fun n l w => ∃ (s : Int) (H : Hp) , n = b3z s ∧ l = [(vi s)] ∧ Inv w0 ps0 H0 H [Fx0] w ∧ c1j s H) ⟨_, 0, H, rfl, rfl, I, d8f⟩ ?_
 rintro e1M τ_15 w next2 ⟨Q4, H, rfl, c0d, I, d8h⟩ hn2
 simp only [List.map_cons, List.map_nil, List.cons.injEq, and_true] at c0d
 have e8 := c0d
 simp only [e8]
 obtain ⟨n2, hm2, h⟩ : ∃ n2 : Int → Hp → Prop, (∀ s' H', n2 s' H' → c1j s' H' ∧ b3z s' < b3z Q4) ∧ E1 x0 x1 (x0.length : Int) Q4 H n2 K := ⟨_, fun _ _ h => h, d8g Q4 H (fun s' H' => c1j s' H' ∧ b3z s' < b3z Q4) d8h (fun _ _ a b => ⟨a, b⟩)⟩
 unfold b4C
 unfold E1 at h
 refine a6 (K7 _ _ _ _ _ _) ?_
 refine d7 (fun c_9 => ?_) (fun c_9 => ?_)
 ·replace h := h.1 c_9
  obtain ⟨h_3, x_1, h_4, h⟩ := h
  obtain ⟨g_2, a_6, h_5, h_7⟩ := hx0.addr h_4
  refine a6 (b9G h_5 _ _ _ _ h_3 (hx0.lt h_3 h_4)) ?_
  refine c5 (ld1 (v := (Value.string x_1)) Tryd.isAgg9 (hx0.atW I h_5 h_4)) ?_
  refine a6 (P9 _ _ _ _ _) ?_
  refine d7 (fun c_8 => ?_) (fun c_8 => ?_)
  ·replace h := h.1 c_8
   exact hR Q4 H _ I h
  ·replace h := h.2 c_8
   refine a6 (F8 _ _ _ _ _ _) ?_
   exact hn2 _ _ _ (hm2 _ _ h).2 ⟨(IntKind.wrap .i64 (Q4 + 1)), H, rfl, rfl, I, (hm2 _ _ h).1⟩
 ·replace h := h.2 c_9
  exact hx1 _ _ (hj1 H _ I h)
theorem a2m (x0 : (List ByteArray)) (x1 : ByteArray) {H : Hp} {K : Int → Hp → Prop} (h : G6 x0 x1 H K) : N9 x0 x1 H K := by
 intro sx0 Fx0 hx0 w I
 refine c3M ?_
 refine a1S x0 x1 sx0 Fx0 hx0 I (fun r0 H' w' I' hk => ⟨H', _, I', r0, rfl, rfl, hk⟩) h
def T1 (x0 : o8) (H : Hp) (K : Int → Hp → Prop) : Prop :=
 a0H x0 H (fun (L8 : b7) (H_6 : Hp) =>
 K L8.fe H_6)
theorem a6e (x0 : o8) {w0 w : World} {ps0 : Nat → Prop} {H0 H : Hp} {K : Int → Hp → Prop} {R : Value → World → Prop} {E : Pan} (I : Inv w0 ps0 H0 H [] w) (hR : ∀ (r0 : Int) (H' : Hp) (w' : World) (_ : Inv w0 ps0 H0 H' [] w') (_ : K r0 H'), R (vi r0) w') (h : T1 x0 H K) : F27 (Value.agg (i6 x0).toArray) w R E := by
 unfold T1 at h
 unfold F27
 refine M6 I (cs := (i6 x0)) rfl fun g_2 w_3 I_4 k_5 => ?_
 refine c5 (ldA Tryd.isAgg25 Tryd.sizeOf25 rfl (I_4.at1 (o := 0) (vs := (i6 x0)) (nb rfl) rfl)) ?_
 refine f8 (cap := []) (fun args w => Tryd.call66 args w) ?_
 refine j8 (Fi := []) (Fr := [bx g_2 25 (i6 x0)]) I_4 (h) (fun b3j H_6 b3k w_7 I_8 b3l k_9 a3S => ?_) (fun _ _ _ _ _ q => q.elim)
 obtain ⟨L8, d9m, rfl, rfl, h⟩ := a3S
 refine a6 (z8 _) ?_
 refine a6 a1x ?_
 refine c5 (ld1 Tryd.isAgg34 (I_8.at1 (o := 2) (vs := [(vi L8.fe)]) (nb rfl) rfl)) ?_
 exact hR L8.fe H_6 _ I_8.drop.drop h
theorem a6w (x0 : o8) {H : Hp} {K : Int → Hp → Prop} (h : T1 x0 H K) : a0b x0 H K := by
 intro w I
 refine c5K ?_
 refine a6e x0 I (fun r0 H' w' I' hk => ⟨H', _, I', r0, rfl, rfl, hk⟩) h
def B2 (a5R : Bool) (c2u : Int) (a7O : Bool) (cr_6j1 : l7) (_cr_1j1 : B5) (H : Hp) (K : Bool → Hp → Prop) : Prop :=
 (a7O = true →
 K (a5R && (decide (cr_6j1.fexprs = 0 ∧ cr_6j1.fconds = 1))) H) ∧
 (a7O = false →
 (c2u = 7 →
 K (a5R && (decide (cr_6j1.fexprs = 0 ∧ cr_6j1.fconds = 0))) H) ∧
 (¬ (c2u = 7) →
 K false H))
def N0 (x0 : B5) (H : Hp) (K : Bool → Hp → Prop) : Prop :=
 (x0.b3.d4 = 1 →
 K ((!(decide (0 < (IntKind.wrap .i64 ((x0.b3.B4.n : Int) + (x0.b3.z7.n : Int)))))) && (decide ((x0.b3.b9.n : Int) = 1 ∧ (x0.b3.g9.n : Int) = 0))) H) ∧
 (¬ (x0.b3.d4 = 1) →
 (x0.b3.d4 = 2 →
 K ((!(decide (0 < (IntKind.wrap .i64 ((x0.b3.B4.n : Int) + (x0.b3.z7.n : Int)))))) && (decide ((x0.b3.b9.n : Int) = 2 ∧ (x0.b3.g9.n : Int) = 0))) H) ∧
 (¬ (x0.b3.d4 = 2) →
 (x0.b3.d4 = 3 →
 K ((decide (x0.b3.c6 = ⟨#[]⟩)) && (decide ((x0.b3.b9.n : Int) = 0 ∧ (x0.b3.g9.n : Int) = 1))) H) ∧
 (¬ (x0.b3.d4 = 3) →
 (x0.b3.d4 = 4 →
 K (((decide (x0.b3.c6 = ⟨#[]⟩)) && (decide ((x0.b3.z7.n : Int) = 0))) && (decide ((x0.b3.b9.n : Int) = 0 ∧ (x0.b3.g9.n : Int) = 1))) H) ∧
 (¬ (x0.b3.d4 = 4) →
 (x0.b3.d4 = 5 →
 B2 ((decide (x0.b3.c6 = ⟨#[]⟩)) && (!(decide (0 < (IntKind.wrap .i64 ((x0.b3.B4.n : Int) + (x0.b3.z7.n : Int))))))) x0.b3.d4 (decide (x0.b3.d4 = 5)) (l7.mk (x0.b3.b9.n : Int) (x0.b3.g9.n : Int)) x0 H K) ∧
 (¬ (x0.b3.d4 = 5) →
 B2 ((decide (x0.b3.c6 = ⟨#[]⟩)) && (!(decide (0 < (IntKind.wrap .i64 ((x0.b3.B4.n : Int) + (x0.b3.z7.n : Int))))))) x0.b3.d4 (decide (x0.b3.d4 = 6)) (l7.mk (x0.b3.b9.n : Int) (x0.b3.g9.n : Int)) x0 H K)))))
theorem a4a (x0 : B5) {w0 w : World} {ps0 : Nat → Prop} {H0 H : Hp} {K : Bool → Hp → Prop} {R : Value → World → Prop} {E : Pan} (I : Inv w0 ps0 H0 H [] w) (hR : ∀ (r0 : Bool) (H' : Hp) (w' : World) (_ : Inv w0 ps0 H0 H' [] w') (_ : K r0 H'), R (Value.bool r0) w') (h : N0 x0 H K) : b5H (Value.agg (f6 x0.b3).toArray) w R E := by
 unfold N0 at h
 unfold b5H
 refine M6 I (cs := (f6 x0.b3)) rfl fun g_2 w_3 I_4 k_5 => ?_
 refine a6 t8 ?_
 refine a6 a5r ?_
 refine c5 (ld1 Tryd.isAgg23 (I_4.at1 (o := 4) (vs := [(vs x0.b3.B4)]) (nb rfl) rfl)) ?_
 refine a6 (a0g _ _ _) ?_
 refine a6 t8 ?_
 refine a6 a0w ?_
 refine c5 (ld1 Tryd.isAgg23 (I_4.at1 (o := 5) (vs := [(vs x0.b3.z7)]) (nb rfl) rfl)) ?_
 refine a6 (a0g _ _ _) ?_
 refine a6 (F8 _ _ _ _ _ _) ?_
 refine a6 (a2B _ _ _ _ _ _) ?_
 refine a6 t8 ?_
 refine a6 a5p ?_
 refine c5 (ld1 Tryd.isAgg28 (I_4.at1 (o := 2) (vs := [(vs x0.b3.b9)]) (nb rfl) rfl)) ?_
 refine a6 (a0h _ _ _) ?_
 refine a6 t8 ?_
 refine a6 a5q ?_
 refine c5 (ld1 Tryd.isAgg31 (I_4.at1 (o := 3) (vs := [(vs x0.b3.g9)]) (nb rfl) rfl)) ?_
 refine a6 (a2D _ _ _) ?_
 refine a6 (t1 _ _) ?_
 refine E7 I_4 Tryd.zeroValue213 (cs := [(vi 0), (vi 0)]) rfl fun g_7 w_8 I_9 d0K => ?_
 refine s6 I_9 Tryd.sizeOf213 (vs := [(vi (x0.b3.b9.n : Int)), (vi (x0.b3.g9.n : Int))]) (cs' := [(vi (x0.b3.b9.n : Int)), (vi (x0.b3.g9.n : Int))]) rfl rfl (nb rfl) rfl rfl fun S3 A0 b0K => ?_
 refine a6 t8 ?_
 refine a6 a0v ?_
 refine c5 (ld1 Tryd.isAgg9 ((A0.bring 1).at1 (o := 1) (vs := [(Value.string x0.b3.c6)]) (nb rfl) rfl)) ?_
 refine a6 (P9 _ _ _ _ _) ?_
 try simp only [Q8]
 refine a6 (Pu.g fun hb => by have a7 := hb; first | exact (D6 _) | (simp only [b5 a7]; exact (D6 _)) | (simp only [c7 a7, b5 a7, b5 hb, m8 a7, p1]; exact (D6 _))) ?_
 refine a6 (J0 _ _) ?_
 refine a6 t8 ?_
 refine a6 a0u ?_
 refine c5 (ld1 Tryd.isAgg3 ((A0.bring 1).at1 (o := 0) (vs := [(vi x0.b3.d4)]) (nb rfl) rfl)) ?_
 refine a6 (f7 _ _ _ _ _ _) ?_
 refine d7 (fun a3F => ?_) (fun a3F => ?_)
 ·replace h := h.1 a3F
  refine a6 (D6 _) ?_
  refine c5 (Ld.g fun hb => by have a7 := hb; first | exact (ldA Tryd.isAgg213 Tryd.sizeOf213 rfl (A0.at1 (o := 0) (vs := [(vi (x0.b3.b9.n : Int)), (vi (x0.b3.g9.n : Int))]) (nb rfl) rfl)) | (simp only [c7 a7, b5 a7, b5 hb, E3 a7]; exact (ldA Tryd.isAgg213 Tryd.sizeOf213 rfl (A0.at1 (o := 0) (vs := [(vi (x0.b3.b9.n : Int)), (vi (x0.b3.g9.n : Int))]) (nb rfl) rfl))) | (simp only [c7 a7, b5 a7, b5 hb, m8 a7, p1]; exact (ldA Tryd.isAgg213 Tryd.sizeOf213 rfl (A0.at1 (o := 0) (vs := [(vi (x0.b3.b9.n : Int)), (vi (x0.b3.g9.n : Int))]) (nb rfl) rfl)))) ?_
  refine a6 (Pu.g fun hb => by have a7 := hb; first | exact (t1 _ _) | (simp only [c7 a7, b5 a7, b5 hb, E3 a7]; exact (t1 _ _)) | (simp only [c7 a7, b5 a7, b5 hb, m8 a7, p1]; exact (t1 _ _))) ?_
  refine a6 (Pu.g fun hb => by have a7 := hb; first | exact (C5 _ _ _ _ _ _) | (simp only [b5 a7]; exact (C5 _ _ _ _ _ _)) | (simp only [c7 a7, b5 a7, b5 hb, m8 a7, p1]; exact (C5 _ _ _ _ _ _))) ?_
  refine a6 (J0 _ _) ?_
  exact hR ((!(decide (0 < (IntKind.wrap .i64 ((x0.b3.B4.n : Int) + (x0.b3.z7.n : Int)))))) && (decide ((x0.b3.b9.n : Int) = 1 ∧ (x0.b3.g9.n : Int) = 0))) H _ A0.drop.drop h
 ·replace h := h.2 a3F
  refine a6 (f7 _ _ _ _ _ _) ?_
  refine d7 (fun a3G => ?_) (fun a3G => ?_)
  ·replace h := h.1 a3G
   refine a6 (D6 _) ?_
   refine c5 (Ld.g fun hb => by have a7 := hb; first | exact (ldA Tryd.isAgg213 Tryd.sizeOf213 rfl (A0.at1 (o := 0) (vs := [(vi (x0.b3.b9.n : Int)), (vi (x0.b3.g9.n : Int))]) (nb rfl) rfl)) | (simp only [c7 a7, b5 a7, b5 hb, E3 a7]; exact (ldA Tryd.isAgg213 Tryd.sizeOf213 rfl (A0.at1 (o := 0) (vs := [(vi (x0.b3.b9.n : Int)), (vi (x0.b3.g9.n : Int))]) (nb rfl) rfl))) | (simp only [c7 a7, b5 a7, b5 hb, m8 a7, p1]; exact (ldA Tryd.isAgg213 Tryd.sizeOf213 rfl (A0.at1 (o := 0) (vs := [(vi (x0.b3.b9.n : Int)), (vi (x0.b3.g9.n : Int))]) (nb rfl) rfl)))) ?_
   refine a6 (Pu.g fun hb => by have a7 := hb; first | exact (t1 _ _) | (simp only [c7 a7, b5 a7, b5 hb, E3 a7]; exact (t1 _ _)) | (simp only [c7 a7, b5 a7, b5 hb, m8 a7, p1]; exact (t1 _ _))) ?_
   refine a6 (Pu.g fun hb => by have a7 := hb; first | exact (C5 _ _ _ _ _ _) | (simp only [b5 a7]; exact (C5 _ _ _ _ _ _)) | (simp only [c7 a7, b5 a7, b5 hb, m8 a7, p1]; exact (C5 _ _ _ _ _ _))) ?_
   refine a6 (J0 _ _) ?_
   exact hR ((!(decide (0 < (IntKind.wrap .i64 ((x0.b3.B4.n : Int) + (x0.b3.z7.n : Int)))))) && (decide ((x0.b3.b9.n : Int) = 2 ∧ (x0.b3.g9.n : Int) = 0))) H _ A0.drop.drop h
  ·replace h := h.2 a3G
   refine a6 (f7 _ _ _ _ _ _) ?_
   refine d7 (fun a3J => ?_) (fun a3J => ?_)
   ·replace h := h.1 a3J
    refine a6 t8 ?_
    refine a6 a0v ?_
    refine c5 (ld1 Tryd.isAgg9 ((A0.bring 1).at1 (o := 1) (vs := [(Value.string x0.b3.c6)]) (nb rfl) rfl)) ?_
    refine a6 (P9 _ _ _ _ _) ?_
    refine c5 (Ld.g fun hb => by have a7 := hb; first | exact (ldA Tryd.isAgg213 Tryd.sizeOf213 rfl (A0.at1 (o := 0) (vs := [(vi (x0.b3.b9.n : Int)), (vi (x0.b3.g9.n : Int))]) (nb rfl) rfl)) | (simp only [c7 a7, b5 a7, b5 hb, E3 a7]; exact (ldA Tryd.isAgg213 Tryd.sizeOf213 rfl (A0.at1 (o := 0) (vs := [(vi (x0.b3.b9.n : Int)), (vi (x0.b3.g9.n : Int))]) (nb rfl) rfl))) | (simp only [c7 a7, b5 a7, b5 hb, m8 a7, p1]; exact (ldA Tryd.isAgg213 Tryd.sizeOf213 rfl (A0.at1 (o := 0) (vs := [(vi (x0.b3.b9.n : Int)), (vi (x0.b3.g9.n : Int))]) (nb rfl) rfl)))) ?_
    refine a6 (Pu.g fun hb => by have a7 := hb; first | exact (t1 _ _) | (simp only [c7 a7, b5 a7, b5 hb, E3 a7]; exact (t1 _ _)) | (simp only [c7 a7, b5 a7, b5 hb, m8 a7, p1]; exact (t1 _ _))) ?_
    refine a6 (Pu.g fun hb => by have a7 := hb; first | exact (C5 _ _ _ _ _ _) | (simp only [b5 a7]; exact (C5 _ _ _ _ _ _)) | (simp only [c7 a7, b5 a7, b5 hb, m8 a7, p1]; exact (C5 _ _ _ _ _ _))) ?_
    refine a6 (J0 _ _) ?_
    exact hR ((decide (x0.b3.c6 = ⟨#[]⟩)) && (decide ((x0.b3.b9.n : Int) = 0 ∧ (x0.b3.g9.n : Int) = 1))) H _ A0.drop.drop h
   ·replace h := h.2 a3J
    refine a6 (f7 _ _ _ _ _ _) ?_
    refine d7 (fun a3H => ?_) (fun a3H => ?_)
    ·replace h := h.1 a3H
     refine a6 t8 ?_
     refine a6 a0v ?_
     refine c5 (ld1 Tryd.isAgg9 ((A0.bring 1).at1 (o := 1) (vs := [(Value.string x0.b3.c6)]) (nb rfl) rfl)) ?_
     refine a6 (P9 _ _ _ _ _) ?_
     refine a6 (Pu.g fun hb => by have a7 := hb; first | exact t8 | (simp only [c7 a7, b5 a7, b5 hb, E3 a7]; exact t8) | (simp only [c7 a7, b5 a7, b5 hb, m8 a7, p1]; exact t8)) ?_
     refine a6 (Pu.g fun hb => by have a7 := hb; first | exact a0w | (simp only [b5 a7]; exact a0w) | (simp only [c7 a7, b5 a7, b5 hb, m8 a7, p1]; exact a0w)) ?_
     refine c5 (Ld.g fun hb => by have a7 := hb; first | exact (ld1 Tryd.isAgg23 ((A0.bring 1).at1 (o := 5) (vs := [(vs x0.b3.z7)]) (nb rfl) rfl)) | (simp only [b5 a7]; exact (ld1 Tryd.isAgg23 ((A0.bring 1).at1 (o := 5) (vs := [(vs x0.b3.z7)]) (nb rfl) rfl))) | (simp only [c7 a7, b5 a7, b5 hb, m8 a7, p1]; exact (ld1 Tryd.isAgg23 ((A0.bring 1).at1 (o := 5) (vs := [(vs x0.b3.z7)]) (nb rfl) rfl)))) ?_
     refine a6 (Pu.g fun hb => by have a7 := hb; first | exact (a0g _ _ _) | (simp only [b5 a7]; exact (a0g _ _ _)) | (simp only [c7 a7, b5 a7, b5 hb, m8 a7, p1]; exact (a0g _ _ _))) ?_
     refine a6 (Pu.g fun hb => by have a7 := hb; first | exact (f7 _ _ _ _ _ _) | (simp only [b5 a7]; exact (f7 _ _ _ _ _ _)) | (simp only [c7 a7, b5 a7, b5 hb, m8 a7, p1]; exact (f7 _ _ _ _ _ _))) ?_
     refine a6 (J0 _ _) ?_
     refine c5 (Ld.g fun hb => by have a7 := hb; first | exact (ldA Tryd.isAgg213 Tryd.sizeOf213 rfl (A0.at1 (o := 0) (vs := [(vi (x0.b3.b9.n : Int)), (vi (x0.b3.g9.n : Int))]) (nb rfl) rfl)) | (simp only [c7 a7, b5 a7, b5 hb, E3 a7]; exact (ldA Tryd.isAgg213 Tryd.sizeOf213 rfl (A0.at1 (o := 0) (vs := [(vi (x0.b3.b9.n : Int)), (vi (x0.b3.g9.n : Int))]) (nb rfl) rfl))) | (simp only [c7 a7, b5 a7, b5 hb, m8 a7, p1]; exact (ldA Tryd.isAgg213 Tryd.sizeOf213 rfl (A0.at1 (o := 0) (vs := [(vi (x0.b3.b9.n : Int)), (vi (x0.b3.g9.n : Int))]) (nb rfl) rfl)))) ?_
     refine a6 (Pu.g fun hb => by have a7 := hb; first | exact (t1 _ _) | (simp only [c7 a7, b5 a7, b5 hb, E3 a7]; exact (t1 _ _)) | (simp only [c7 a7, b5 a7, b5 hb, m8 a7, p1]; exact (t1 _ _))) ?_
     refine a6 (Pu.g fun hb => by have a7 := hb; first | exact (C5 _ _ _ _ _ _) | (simp only [b5 a7]; exact (C5 _ _ _ _ _ _)) | (simp only [c7 a7, b5 a7, b5 hb, m8 a7, p1]; exact (C5 _ _ _ _ _ _))) ?_
     refine a6 (J0 _ _) ?_
     exact hR (((decide (x0.b3.c6 = ⟨#[]⟩)) && (decide ((x0.b3.z7.n : Int) = 0))) && (decide ((x0.b3.b9.n : Int) = 0 ∧ (x0.b3.g9.n : Int) = 1))) H _ A0.drop.drop h
    ·replace h := h.2 a3H
     have hj1 : ∀ (a7O : Bool) (H : Hp) (w : World) (_ : Inv w0 ps0 H0 H [bx g_7 213 [(vi (l7.mk (x0.b3.b9.n : Int) (x0.b3.g9.n : Int)).fexprs), (vi (l7.mk (x0.b3.b9.n : Int) (x0.b3.g9.n : Int)).fconds)], bx g_2 177 (f6 x0.b3)] w) (_ : B2 ((decide (x0.b3.c6 = ⟨#[]⟩)) && (!(decide (0 < (IntKind.wrap .i64 ((x0.b3.B4.n : Int) + (x0.b3.z7.n : Int))))))) x0.b3.d4 a7O (l7.mk (x0.b3.b9.n : Int) (x0.b3.g9.n : Int)) x0 H K), b0I (Value.pointer (some ⟨g_7, 0, none⟩)) (Value.bool ((decide (x0.b3.c6 = ⟨#[]⟩)) && (!(decide (0 < (IntKind.wrap .i64 ((x0.b3.B4.n : Int) + (x0.b3.z7.n : Int)))))))) (vi x0.b3.d4) (Value.bool a7O) w R E := by
      intro a7O H w I h
      unfold b0I
      intro _
      unfold B2 at h
      refine r8 (fun a0Z => ?_) (fun a0Z => ?_)
      ·replace h := h.1 a0Z
       refine c5 (Ld.g fun hb => by have a7 := hb; first | exact (ldA Tryd.isAgg213 Tryd.sizeOf213 rfl (I.at1 (o := 0) (vs := [(vi (l7.mk (x0.b3.b9.n : Int) (x0.b3.g9.n : Int)).fexprs), (vi (l7.mk (x0.b3.b9.n : Int) (x0.b3.g9.n : Int)).fconds)]) (nb rfl) rfl)) | (simp only [c7 a7, b5 a7, b5 hb, E3 a7]; exact (ldA Tryd.isAgg213 Tryd.sizeOf213 rfl (I.at1 (o := 0) (vs := [(vi (l7.mk (x0.b3.b9.n : Int) (x0.b3.g9.n : Int)).fexprs), (vi (l7.mk (x0.b3.b9.n : Int) (x0.b3.g9.n : Int)).fconds)]) (nb rfl) rfl))) | (simp only [c7 a7, b5 a7, b5 hb, m8 a7, p1]; exact (ldA Tryd.isAgg213 Tryd.sizeOf213 rfl (I.at1 (o := 0) (vs := [(vi (l7.mk (x0.b3.b9.n : Int) (x0.b3.g9.n : Int)).fexprs), (vi (l7.mk (x0.b3.b9.n : Int) (x0.b3.g9.n : Int)).fconds)]) (nb rfl) rfl)))) ?_
       refine a6 (Pu.g fun hb => by have a7 := hb; first | exact (t1 _ _) | (simp only [c7 a7, b5 a7, b5 hb, E3 a7]; exact (t1 _ _)) | (simp only [c7 a7, b5 a7, b5 hb, m8 a7, p1]; exact (t1 _ _))) ?_
       refine a6 (Pu.g fun hb => by have a7 := hb; first | exact (C5 _ _ _ _ _ _) | (simp only [b5 a7]; exact (C5 _ _ _ _ _ _)) | (simp only [c7 a7, b5 a7, b5 hb, m8 a7, p1]; exact (C5 _ _ _ _ _ _))) ?_
       refine a6 (J0 _ _) ?_
       exact hR (((decide (x0.b3.c6 = ⟨#[]⟩)) && (!(decide (0 < (IntKind.wrap .i64 ((x0.b3.B4.n : Int) + (x0.b3.z7.n : Int))))))) && (decide ((l7.mk (x0.b3.b9.n : Int) (x0.b3.g9.n : Int)).fexprs = 0 ∧ (l7.mk (x0.b3.b9.n : Int) (x0.b3.g9.n : Int)).fconds = 1))) H _ I.drop.drop h
      ·replace h := h.2 a0Z
       refine a6 (f7 _ _ _ _ _ _) ?_
       refine d7 (fun a8y => ?_) (fun a8y => ?_)
       ·replace h := h.1 a8y
        refine c5 (Ld.g fun hb => by have a7 := hb; first | exact (ldA Tryd.isAgg213 Tryd.sizeOf213 rfl (I.at1 (o := 0) (vs := [(vi (l7.mk (x0.b3.b9.n : Int) (x0.b3.g9.n : Int)).fexprs), (vi (l7.mk (x0.b3.b9.n : Int) (x0.b3.g9.n : Int)).fconds)]) (nb rfl) rfl)) | (simp only [c7 a7, b5 a7, b5 hb, E3 a7]; exact (ldA Tryd.isAgg213 Tryd.sizeOf213 rfl (I.at1 (o := 0) (vs := [(vi (l7.mk (x0.b3.b9.n : Int) (x0.b3.g9.n : Int)).fexprs), (vi (l7.mk (x0.b3.b9.n : Int) (x0.b3.g9.n : Int)).fconds)]) (nb rfl) rfl))) | (simp only [c7 a7, b5 a7, b5 hb, m8 a7, p1]; exact (ldA Tryd.isAgg213 Tryd.sizeOf213 rfl (I.at1 (o := 0) (vs := [(vi (l7.mk (x0.b3.b9.n : Int) (x0.b3.g9.n : Int)).fexprs), (vi (l7.mk (x0.b3.b9.n : Int) (x0.b3.g9.n : Int)).fconds)]) (nb rfl) rfl)))) ?_
        refine a6 (Pu.g fun hb => by have a7 := hb; first | exact (a5x ) | (simp only [c7 a7, b5 a7, b5 hb, E3 a7]; exact (a5x )) | (simp only [c7 a7, b5 a7, b5 hb, m8 a7, p1]; exact (a5x ))) ?_
        refine a6 (Pu.g fun hb => by have a7 := hb; first | exact (C5 _ _ _ _ _ _) | (simp only [b5 a7]; exact (C5 _ _ _ _ _ _)) | (simp only [c7 a7, b5 a7, b5 hb, m8 a7, p1]; exact (C5 _ _ _ _ _ _))) ?_
        refine a6 (J0 _ _) ?_
        exact hR (((decide (x0.b3.c6 = ⟨#[]⟩)) && (!(decide (0 < (IntKind.wrap .i64 ((x0.b3.B4.n : Int) + (x0.b3.z7.n : Int))))))) && (decide ((l7.mk (x0.b3.b9.n : Int) (x0.b3.g9.n : Int)).fexprs = 0 ∧ (l7.mk (x0.b3.b9.n : Int) (x0.b3.g9.n : Int)).fconds = 0))) H _ I.drop.drop h
       ·replace h := h.2 a8y
        exact hR false H _ I.drop.drop h
     refine v2 fun j1 hx1 => ?_
     refine a6 (f7 _ _ _ _ _ _) ?_
     refine d7 (fun a3I => ?_) (fun a3I => ?_)
     ·replace h := h.1 a3I
      exact hx1 _ _ (hj1 (decide (x0.b3.d4 = 5)) H _ ((A0.bring 1).bring 1) h)
     ·replace h := h.2 a3I
      refine a6 (f7 _ _ _ _ _ _) ?_
      exact hx1 _ _ (hj1 (decide (x0.b3.d4 = 6)) H _ ((A0.bring 1).bring 1) h)
theorem a4m (x0 : B5) {H : Hp} {K : Bool → Hp → Prop} (h : N0 x0 H K) : T5 x0 H K := by
 intro w I
 refine c4N ?_
 refine a4a x0 I (fun r0 H' w' I' hk => ⟨H', _, I', r0, rfl, rfl, hk⟩) h
def M2 (x0 : B5) (H : Hp) (K : Sl → Hp → Prop) : Prop :=
 o3 x0.b3.g9 H (fun (a1O : Sl) (H_8 : Hp) =>
 j7 x0.b3.b9 H_8 (fun (a1P : Sl) (a7c : Hp) =>
 j6 x0.b3.B4 a7c (fun (b6l : Sl) (d1q : Hp) =>
 j6 x0.b3.z7 d1q (fun (b6m : Sl) (a5L : Hp) =>
 ∀ (b1b : Sl) (b3A : Hp), Hle a5L b3A → SlH b3A 1 csl b1b [a1O, a1P, b6l, b6m] → b1b.n ≤ b1b.c →
 o0 b1b b3A (fun (b6n : Sl) (c1k : Hp) =>
 K b6n c1k)))))
theorem a3g (x0 : B5) {w0 w : World} {ps0 : Nat → Prop} {H0 H : Hp} {K : Sl → Hp → Prop} {R : Value → World → Prop} {E : Pan} (I : Inv w0 ps0 H0 H [] w) (hR : ∀ (r0 : Sl) (H' : Hp) (w' : World) (_ : Inv w0 ps0 H0 H' [] w') (_ : K r0 H'), R (vs r0) w') (h : M2 x0 H K) : b5J (Value.agg (f6 x0.b3).toArray) w R E := by
 unfold M2 at h
 unfold b5J
 refine M6 I (cs := (f6 x0.b3)) rfl fun g_2 w_3 I_4 k_5 => ?_
 refine a1u I_4 fun w_6 I_7 => ?_
 refine i8 t8 ?_
 refine i8 a5q ?_
 refine i8 t8 ?_
 refine i8 a5p ?_
 refine i8 t8 ?_
 refine i8 a5r ?_
 refine i8 t8 ?_
 refine i8 a0w ?_
 refine E8 (ld1 Tryd.isAgg31 (I_7.at1 (o := 3) (vs := [(vs x0.b3.g9)]) (nb rfl) rfl)) ?_
 refine E8 (ld1 Tryd.isAgg28 (I_7.at1 (o := 2) (vs := [(vs x0.b3.b9)]) (nb rfl) rfl)) ?_
 refine E8 (ld1 Tryd.isAgg23 (I_7.at1 (o := 4) (vs := [(vs x0.b3.B4)]) (nb rfl) rfl)) ?_
 refine E8 (ld1 Tryd.isAgg23 (I_7.at1 (o := 5) (vs := [(vs x0.b3.z7)]) (nb rfl) rfl)) ?_
 refine f8 (cap := []) (fun args w => Tryd.call154 args w) ?_
 refine j8 (Fi := []) (Fr := [bx g_2 177 (f6 x0.b3)]) I_7 (h) (fun d0L H_8 d0M w_9 a5K d0N a8E b2Z => ?_) (fun _ _ _ _ _ q => q.elim)
 obtain ⟨a1O, rfl, rfl, h⟩ := b2Z
 refine ⟨(a8E _ I_7.lt1 (Inv.a1v (Fi := []) I_7)), (a8E _ I_7.lt1 (Inv.a1v (Fi := []) I_7)), (a8E _ I_7.lt1 (Inv.a1v (Fi := []) I_7)), ?_⟩
 refine f8 (cap := []) (fun args w => Tryd.call150 args w) ?_
 refine j8 (Fi := []) (Fr := [bx g_2 177 (f6 x0.b3)]) a5K (h) (fun d0O a7c d0P y9 a3O d0Q b0N b3a => ?_) (fun _ _ _ _ _ q => q.elim)
 obtain ⟨a1P, rfl, rfl, h⟩ := b3a
 refine ⟨(b0N _ a5K.lt1 (Inv.a1v (Fi := []) a5K)), (b0N _ a5K.lt1 (Inv.a1v (Fi := []) a5K)), ?_⟩
 refine f8 (cap := []) (fun args w => Tryd.call97 args w) ?_
 refine j8 (Fi := []) (Fr := [bx g_2 177 (f6 x0.b3)]) a3O (h) (fun e1N d1q e1O a3y a7g c1l d8i d8j => ?_) (fun _ _ _ _ _ q => q.elim)
 obtain ⟨b6l, rfl, rfl, h⟩ := d8j
 refine ⟨(d8i _ a3O.lt1 (Inv.a1v (Fi := []) a3O)), ?_⟩
 refine f8 (cap := []) (fun args w => Tryd.call97 args w) ?_
 refine j8 (Fi := []) (Fr := [bx g_2 177 (f6 x0.b3)]) a7g (h) (fun e1P a5L e1Q N7 d8k e1R e1S d8l => ?_) (fun _ _ _ _ _ q => q.elim)
 obtain ⟨b6m, rfl, rfl, h⟩ := d8l
 refine a1w (e := 97) (c := csl) (xs := [a1O, a1P, b6l, b6m]) d8k (b9I _ _ _ _ _ _ _ _ _ _ _ _) rfl rfl b1M b1N (nb rfl) fun b1b e1T b5l d8m b3y d1o => ?_
 obtain ⟨b3A, a4L, d8n, b3w, d8o⟩ := Inv.freezeC b3y d8m (by decide)
 replace h := h b1b b3A d8n b3w d8o
 refine f8 (cap := []) (fun args w => Tryd.call94 args w) ?_
 refine j8 (Fi := []) (Fr := [bx g_2 177 (f6 x0.b3)]) a4L (h) (fun e1U c1k e1V c1m d8p e1W e1X d8q => ?_) (fun _ _ _ _ _ q => q.elim)
 obtain ⟨b6n, rfl, rfl, h⟩ := d8q
 exact hR b6n c1k _ d8p.drop h
theorem a4b (x0 : B5) {H : Hp} {K : Sl → Hp → Prop} (h : M2 x0 H K) : a0m x0 H K := by
 intro w I
 refine c4P ?_
 refine a3g x0 I (fun r0 H' w' I' hk => ⟨H', _, I', r0, rfl, rfl, hk⟩) h
end Go.Proofs.YthldnpmfelniiaaDoor
