/- Typed formulas of the program's functions, and the theorems that the contracts follow from them; printed by lift.py off the code. -/
import Derived.Test.YthldnpmfelniiaaDoorzDV1
namespace Go.Proofs.YthldnpmfelniiaaDoor
open Go.RowKit
set_option maxRecDepth 100000
set_option maxHeartbeats 2000000
def w8 (Y1 : (List b9)) (H : Hp) (K : Sl → Hp → Prop) : Prop :=
 ∀ (F7 : Sl) (a0s : Hp), Hle H a0s → SlH a0s 1 m6 F7 Y1 → F7.n ≤ F7.c →
 K F7 a0s
def w9 (N2 : Sl) (a6o : Int) (s7 : (List b9)) (p6 : Int) (H : Hp) (n2 : ((List b9) × Int) → Hp → Prop) (K : Sl → Hp → Prop) : Prop :=
 (p6 < a6o →
 (0 : Int) ≤ p6 ∧ (p6 : Int) < N2.n ∧ ∃ x_1 : A4, EltH H N2 p6 2 (k8 x_1) ∧
 a6i x_1 H (fun (R4 : b9) (a2R : Hp) =>
 (s7.length + ([R4] : List b9).length) * 17 ≤ 140737488355328 ∧
 n2 ((s7 ++ [R4]), (IntKind.wrap .i64 (p6 + 1))) a2R)) ∧
 (¬ (p6 < a6o) →
 w8 s7 H K)
def A0 (x0 : Sl) (H : Hp) (K : Sl → Hp → Prop) : Prop :=
 TL (([], 0) : (List b9) × Int) H fun (s : (List b9) × Int) H n2 => w9 x0 (x0.n : Int) s.1 s.2 H n2 K
theorem a0p (x0 : Sl) {w0 w : World} {ps0 : Nat → Prop} {H0 H : Hp} {K : Sl → Hp → Prop} {R : Value → World → Prop} {E : Pan} (I : Inv w0 ps0 H0 H [] w) (hR : ∀ (r0 : Sl) (H' : Hp) (w' : World) (_ : Inv w0 ps0 H0 H' [] w') (_ : K r0 H'), R (vs r0) w') (h : A0 x0 H K) : F95 (vs x0) (Value.func (.func 96) #[] #[]) w R E := by
 unfold A0 at h
 unfold F95
 have hj1 : ∀ (Y1 : (List b9)) (F7 : Sl) (Fs5j1 : Frag) (H : Hp) (w : World) (_ : RowL 141 1 m6 F7 Y1 Fs5j1) (_ : Inv w0 ps0 H0 H [Fs5j1] w) (_ : w8 Y1 H K), c1c (vs F7) w R E := by
  intro Y1 F7 Fs5j1 H w b1W I h
  unfold c1c
  intro _
  unfold w8 at h
  obtain ⟨a0s, a1Z, b4d, b1X, a6W⟩ := Inv.freezeC I b1W (by decide)
  replace h := h F7 a0s b4d b1X a6W
  exact hR F7 a0s _ a1Z h
 refine t7 fun j1 hx1 => ?_
 refine a8 (X0 _ _ _) ?_
 obtain ⟨a5g, a1H, b5J, a2x⟩ := h
 refine y9 (J := fun n l w => ∃ (s : (List b9) × Int) (H : Hp) (Y2 : Sl) (Fs5l2 : Frag) , n = a1H s ∧ l = (match s with | (s7, p6) => [(vs Y2), (vi p6)]) ∧ (match s with | (s7, p6) => RowL 141 1 m6 Y2 s7 Fs5l2) ∧ (match s with | (s7, p6) => Inv w0 ps0 H0 H [Fs5l2] w) ∧ a5g s H) ⟨_, ([], 0), H, (Sl.mk none 0 0), [], rfl, rfl, (RowL.nil N0 R1), I.nil, b5J⟩ ?_
 rintro d1l τ_50 w next2 ⟨⟨s7, p6⟩, H, Y2, Fs5l2, rfl, a5h, a3i, I, b5K⟩ hn2
 dsimp only at a5h I a3i
 simp only [List.map_cons, List.map_nil, List.cons.injEq, and_true] at a5h
 obtain ⟨e5, e10⟩ := a5h
 simp only [e5, e10]
 obtain ⟨n2, hm2, h⟩ : ∃ n2 : ((List b9) × Int) → Hp → Prop, (∀ s' H', n2 s' H' → a5g s' H' ∧ a1H s' < a1H (s7, p6)) ∧ w9 x0 (x0.n : Int) s7 p6 H n2 K := ⟨_, fun _ _ h => h, a2x (s7, p6) H (fun s' H' => a5g s' H' ∧ a1H s' < a1H (s7, p6)) b5K (fun _ _ a b => ⟨a, b⟩)⟩
 unfold c8Y
 unfold w9 at h
 refine a8 (C4 _ _ _ _ _ _) ?_
 refine h9 (fun a3j => ?_) (fun a3j => ?_)
 ·replace h := h.1 a3j
  obtain ⟨h_4, h_5, x_1, h_7, h⟩ := h
  obtain ⟨g_2, o_3, h_6, h_7⟩ := h_7
  refine a8 (a6R h_6 _ _ _ _ h_4 h_5) ?_
  refine b7 (ldA (vs := (k8 x_1)) Tryd.isAgg67 Tryd.sizeOf67 rfl (I.atH h_7)) ?_
  refine C1 I Tryd.zeroValue67 (cs := [(Value.string ⟨#[]⟩), (vi 0)]) rfl fun g_9 k9 a1q b0x => ?_
  refine o8 a1q Tryd.sizeOf67 (vs := (k8 x_1)) (cs' := (k8 x_1)) rfl rfl (nb rfl) rfl rfl fun a2N a1Y b5D => ?_
  refine b7 (ldA Tryd.isAgg67 Tryd.sizeOf67 rfl (a1Y.at1 (o := 0) (vs := (k8 x_1)) (nb rfl) rfl)) ?_
  refine d7 (cap := []) (fun args w => Tryd.call96 args w) ?_
  refine i6 (Fi := []) (Fr := [bx g_9 67 (k8 x_1), Fs5l2]) a1Y (h) (fun c5L a2R c5M a3J a3k c5N c1L b1Y => ?_) (fun _ _ _ _ _ q => q.elim)
  obtain ⟨R4, rfl, rfl, h⟩ := b1Y
  refine a6N (e := 141) (c := m6) (xs := [R4]) a3k (b4G _) rfl rfl N0 R1 (nb rfl) fun b5L b8l u7 b1Z a6X c5O => ?_
  obtain ⟨b2a, h⟩ := h
  refine b3j (s := Y2) (xs := s7) (a6X.bring 2) a3i (b1Z.srcO ((a6X.bring 2).bring 1)) b2a fun b5M b5N v2 b2b a7N c5P => ?_
  refine a8 (s6 _ _ _ _ _ _) ?_
  exact hn2 _ _ _ (hm2 _ _ h).2 ⟨((s7 ++ [R4]), (IntKind.wrap .i64 (p6 + 1))), a2R, b5M, b5N, rfl, rfl, b2b, ((a7N.bring 1).drop.bring 1).drop, (hm2 _ _ h).1⟩
 ·replace h := h.2 a3j
  exact hx1 _ _ (hj1 s7 Y2 Fs5l2 H _ a3i I h)
theorem a0D (x0 : Sl) {H : Hp} {K : Sl → Hp → Prop} (h : A0 x0 H K) : E4 x0 H K := by
 intro w I
 refine e2M ?_
 refine a0p x0 I (fun r0 H' w' I' hk => ⟨H', _, I', r0, rfl, rfl, hk⟩) h
def a2r (x0 : b9) (H : Hp) (K : ByteArray → Bool → Hp → Prop) : Prop :=
 (x0.a6P = true →
 K ((((x0.T1)).M8).d8) true H) ∧
 (x0.a6P = false →
 (x0.a6Q = true →
 K ((((x0.f8)).c9).d8) ((decide (((((x0.f8)).c9).d4) = 1)) || (decide (((((x0.f8)).c9).d4) = 2))) H) ∧
 (x0.a6Q = false →
 (x0.a6O = true →
 K ((((x0.m8)).i7).d8) ((decide (((((x0.m8)).i7).d4) = 2)) || (decide (((((x0.m8)).i7).d4) = 4))) H) ∧
 (x0.a6O = false →
 K ⟨#[]⟩ false H)))
theorem b2X (x0 : b9) {w0 w : World} {ps0 : Nat → Prop} {H0 H : Hp} {K : ByteArray → Bool → Hp → Prop} {R : Value → World → Prop} {E : Pan} (I : Inv w0 ps0 H0 H [] w) (hR : ∀ (r0 : ByteArray) (r1 : Bool) (H' : Hp) (w' : World) (_ : Inv w0 ps0 H0 H' [] w') (_ : K r0 r1 H'), R (Value.tuple #[(Value.string r0), (Value.bool r1)]) w') (h : a2r x0 H K) : c4V (u2 x0) w R E := by
 unfold a2r at h
 unfold c4V
 refine a8 (b9f x0) ?_
 refine a8 (r8 _ _ _ rfl) ?_
 refine a8 (r8 _ _ _ rfl) ?_
 refine m5 (fun d2E => ?_) (fun d2E => ?_)
 ·replace h := h.1 d2E
  refine C1 I Tryd.zeroValue175 (cs := [(Value.string ⟨#[]⟩), (vi 0)]) rfl fun g_2 w_3 I_4 k_5 => ?_
  refine o8 I_4 Tryd.sizeOf175 (vs := [(Value.string ((((x0.T1)).M8).d8)), (vi ((((x0.T1)).M8).R7))]) (cs' := [(Value.string ((((x0.T1)).M8).d8)), (vi ((((x0.T1)).M8).R7))]) rfl rfl (nb rfl) rfl rfl fun w_6 I_7 k_8 => ?_
  refine a8 a4B ?_
  refine a8 b6A ?_
  refine b7 (ld1 Tryd.isAgg9 (I_7.at1 (o := 0) (vs := [(Value.string ((((x0.T1)).M8).d8))]) (nb rfl) rfl)) ?_
  exact hR ((((x0.T1)).M8).d8) true H _ I_7.drop h
 ·replace h := h.2 d2E
  refine a8 (b9g x0) ?_
  refine a8 (r8 _ _ _ rfl) ?_
  refine a8 (r8 _ _ _ rfl) ?_
  refine m5 (fun d2F => ?_) (fun d2F => ?_)
  ·replace h := h.1 d2F
   refine C1 I Tryd.zeroValue177 (cs := [(vi 0), (Value.string ⟨#[]⟩), (Value.slice none 0 0), (Value.slice none 0 0), (Value.slice none 0 0), (Value.slice none 0 0)]) rfl fun f4v a1m C3 b8k => ?_
   refine o8 C3 Tryd.sizeOf177 (vs := [(vi ((((x0.f8)).c9).d4)), (Value.string ((((x0.f8)).c9).d8)), (Value.slice ((((x0.f8)).c9).c7).a ((((x0.f8)).c9).c7).n ((((x0.f8)).c9).c7).c), (Value.slice ((((x0.f8)).c9).f5).a ((((x0.f8)).c9).f5).n ((((x0.f8)).c9).f5).c), (Value.slice ((((x0.f8)).c9).r9).a ((((x0.f8)).c9).r9).n ((((x0.f8)).c9).r9).c), (Value.slice ((((x0.f8)).c9).o6).a ((((x0.f8)).c9).o6).n ((((x0.f8)).c9).o6).c)]) (cs' := [(vi ((((x0.f8)).c9).d4)), (Value.string ((((x0.f8)).c9).d8)), (Value.slice ((((x0.f8)).c9).c7).a ((((x0.f8)).c9).c7).n ((((x0.f8)).c9).c7).c), (Value.slice ((((x0.f8)).c9).f5).a ((((x0.f8)).c9).f5).n ((((x0.f8)).c9).f5).c), (Value.slice ((((x0.f8)).c9).r9).a ((((x0.f8)).c9).r9).n ((((x0.f8)).c9).r9).c), (Value.slice ((((x0.f8)).c9).o6).a ((((x0.f8)).c9).o6).n ((((x0.f8)).c9).o6).c)]) rfl rfl (nb rfl) rfl rfl fun o2 c1W d1v => ?_
   refine a4O c1W fun a3J a3k => ?_
   refine o3 D7 ?_
   refine o3 L4 ?_
   refine o3 D7 ?_
   refine o3 a0E ?_
   refine E8 (ld1 Tryd.isAgg9 (a3k.at1 (o := 1) (vs := [(Value.string ((((x0.f8)).c9).d8))]) (nb rfl) rfl)) ?_
   refine E8 (ld1 Tryd.isAgg3 (a3k.at1 (o := 0) (vs := [(vi ((((x0.f8)).c9).d4))]) (nb rfl) rfl)) ?_
   refine o3 (f7 _ _ _ _ _ _) ?_
   refine o3 (Pu.g fun hb => by have a7 := hb; first | exact D7 | (simp only [b5 a7, b3 a7, b3 hb, J2 a7]; exact D7) | (simp only [b5 a7, b3 a7, b3 hb, i4 a7, d6]; exact D7)) ?_
   refine o3 (Pu.g fun hb => by have a7 := hb; first | exact a0E | (simp only [b3 a7]; exact a0E) | (simp only [b5 a7, b3 a7, b3 hb, i4 a7, d6]; exact a0E)) ?_
   refine d7q (p := (Value.pointer (some ⟨f4v, 0, none⟩))) rfl (Ld.g fun hb => by have a7 := hb; first | exact (ld1 Tryd.isAgg3 (a3k.at1 (o := 0) (vs := [(vi ((((x0.f8)).c9).d4))]) (nb rfl) rfl)) | (simp only [b3 a7]; exact (ld1 Tryd.isAgg3 (a3k.at1 (o := 0) (vs := [(vi ((((x0.f8)).c9).d4))]) (nb rfl) rfl))) | (simp only [b5 a7, b3 a7, b3 hb, i4 a7, d6]; exact (ld1 Tryd.isAgg3 (a3k.at1 (o := 0) (vs := [(vi ((((x0.f8)).c9).d4))]) (nb rfl) rfl)))) ?_
   refine o3 (Pu.g fun hb => by have a7 := hb; first | exact (f7 _ _ _ _ _ _) | (simp only [b3 a7]; exact (f7 _ _ _ _ _ _)) | (simp only [b5 a7, b3 a7, b3 hb, i4 a7, d6]; exact (f7 _ _ _ _ _ _))) ?_
   refine o3 (U3 _ _) ?_
   exact hR ((((x0.f8)).c9).d8) ((decide (((((x0.f8)).c9).d4) = 1)) || (decide (((((x0.f8)).c9).d4) = 2))) H _ a3k.drop h
  ·replace h := h.2 d2F
   refine a8 (b9O x0) ?_
   refine a8 (r8 _ _ _ rfl) ?_
   refine a8 (r8 _ _ _ rfl) ?_
   refine m5 (fun d2G => ?_) (fun d2G => ?_)
   ·replace h := h.1 d2G
    refine C1 I Tryd.zeroValue96 (cs := [(vi 0), (vi 0), (Value.string ⟨#[]⟩), (Value.slice none 0 0)]) rfl fun e5Z N5 E1 a6s => ?_
    refine o8 E1 Tryd.sizeOf96 (vs := [(vi ((((x0.m8)).i7).d4)), (vi ((((x0.m8)).i7).F9)), (Value.string ((((x0.m8)).i7).d8)), (Value.slice ((((x0.m8)).i7).m9).a ((((x0.m8)).i7).m9).n ((((x0.m8)).i7).m9).c)]) (cs' := [(vi ((((x0.m8)).i7).d4)), (vi ((((x0.m8)).i7).F9)), (Value.string ((((x0.m8)).i7).d8)), (Value.slice ((((x0.m8)).i7).m9).a ((((x0.m8)).i7).m9).n ((((x0.m8)).i7).m9).c)]) rfl rfl (nb rfl) rfl rfl fun p8 a5d c5J => ?_
    refine a4O a5d fun a6c b0z => ?_
    refine o3 L5 ?_
    refine o3 K0 ?_
    refine o3 L5 ?_
    refine o3 Y0 ?_
    refine E8 (ld1 Tryd.isAgg9 (b0z.at1 (o := 2) (vs := [(Value.string ((((x0.m8)).i7).d8))]) (nb rfl) rfl)) ?_
    refine E8 (ld1 Tryd.isAgg3 (b0z.at1 (o := 0) (vs := [(vi ((((x0.m8)).i7).d4))]) (nb rfl) rfl)) ?_
    refine o3 (f7 _ _ _ _ _ _) ?_
    refine o3 (Pu.g fun hb => by have a7 := hb; first | exact L5 | (simp only [b5 a7, b3 a7, b3 hb, J2 a7]; exact L5) | (simp only [b5 a7, b3 a7, b3 hb, i4 a7, d6]; exact L5)) ?_
    refine o3 (Pu.g fun hb => by have a7 := hb; first | exact Y0 | (simp only [b3 a7]; exact Y0) | (simp only [b5 a7, b3 a7, b3 hb, i4 a7, d6]; exact Y0)) ?_
    refine d7q (p := (Value.pointer (some ⟨e5Z, 0, none⟩))) rfl (Ld.g fun hb => by have a7 := hb; first | exact (ld1 Tryd.isAgg3 (b0z.at1 (o := 0) (vs := [(vi ((((x0.m8)).i7).d4))]) (nb rfl) rfl)) | (simp only [b3 a7]; exact (ld1 Tryd.isAgg3 (b0z.at1 (o := 0) (vs := [(vi ((((x0.m8)).i7).d4))]) (nb rfl) rfl))) | (simp only [b5 a7, b3 a7, b3 hb, i4 a7, d6]; exact (ld1 Tryd.isAgg3 (b0z.at1 (o := 0) (vs := [(vi ((((x0.m8)).i7).d4))]) (nb rfl) rfl)))) ?_
    refine o3 (Pu.g fun hb => by have a7 := hb; first | exact (f7 _ _ _ _ _ _) | (simp only [b3 a7]; exact (f7 _ _ _ _ _ _)) | (simp only [b5 a7, b3 a7, b3 hb, i4 a7, d6]; exact (f7 _ _ _ _ _ _))) ?_
    refine o3 (U3 _ _) ?_
    exact hR ((((x0.m8)).i7).d8) ((decide (((((x0.m8)).i7).d4) = 2)) || (decide (((((x0.m8)).i7).d4) = 4))) H _ b0z.drop h
   ·replace h := h.2 d2G
    exact hR ⟨#[]⟩ false H _ I h
theorem b4o (x0 : b9) {H : Hp} {K : ByteArray → Bool → Hp → Prop} (h : a2r x0 H K) : a0P x0 H K := by
 intro w I
 refine d5y ?_
 refine b2X x0 I (fun r0 r1 H' w' I' hk => ⟨H', _, I', r0, r1, rfl, rfl, hk⟩) h
def a1P (x0 : Int) (H : Hp) (K : Bool → Hp → Prop) : Prop :=
 a1L x0 H (fun (T4 : Int) (H_1 : Hp) =>
 K ((decide (T4 = 3)) || (decide (T4 = 4))) H_1)
theorem b2J (x0 : Int) {w0 w : World} {ps0 : Nat → Prop} {H0 H : Hp} {K : Bool → Hp → Prop} {R : Value → World → Prop} {E : Pan} (I : Inv w0 ps0 H0 H [] w) (hR : ∀ (r0 : Bool) (H' : Hp) (w' : World) (_ : Inv w0 ps0 H0 H' [] w') (_ : K r0 H'), R (Value.bool r0) w') (h : a1P x0 H K) : c5a (Value.int .i32 x0) w R E := by
 unfold a1P at h
 unfold c5a
 refine d7 (cap := []) (fun args w => Tryd.call126 args w) ?_
 refine i6 (Fi := []) (Fr := []) I (h) (fun v_5 H_1 F_6 w_2 I_3 l_8 k_4 q_7 => ?_) (fun _ _ _ _ _ q => q.elim)
 obtain ⟨T4, rfl, rfl, h⟩ := q_7
 refine a8 (f7 _ _ _ _ _ _) ?_
 try simp only [J1]
 refine a8 (Pu.g fun hb => by have a7 := hb; first | exact (f7 _ _ _ _ _ _) | (simp only [b3 a7]; exact (f7 _ _ _ _ _ _)) | (simp only [b5 a7, b3 a7, b3 hb, i4 a7, d6]; exact (f7 _ _ _ _ _ _))) ?_
 refine a8 (U3 _ _) ?_
 exact hR ((decide (T4 = 3)) || (decide (T4 = 4))) H_1 _ I_3 h
theorem b2Y (x0 : Int) {H : Hp} {K : Bool → Hp → Prop} (h : a1P x0 H K) : a3K x0 H K := by
 intro w I
 refine d5K ?_
 refine b2J x0 I (fun r0 H' w' I' hk => ⟨H', _, I', r0, rfl, rfl, hk⟩) h
def Q5 (H : Hp) (K : Int → Hp → Prop) : Prop :=
 K (-1) H
def Q6 (f0C : (List ByteArray)) (a2w : ByteArray) (a2y : Int) (N2 : Int) (H : Hp) (n2 : Int → Hp → Prop) (K : Int → Hp → Prop) : Prop :=
 (N2 < a2y →
 (0 : Int) ≤ N2 ∧ ∃ x_1 : ByteArray, (f0C)[(N2 : Int).toNat]? = some x_1 ∧
 (a2w = x_1 →
 K N2 H) ∧
 (¬ (a2w = x_1) →
 n2 (IntKind.wrap .i64 (N2 + 1)) H)) ∧
 (¬ (N2 < a2y) →
 Q5 H K)
def T6 (x0 : (List ByteArray)) (x1 : ByteArray) (H : Hp) (K : Int → Hp → Prop) : Prop :=
 TL (0 : Int) H fun (s : Int) H n2 => Q6 x0 x1 (x0.length : Int) s H n2 K
theorem a6J (x0 : (List ByteArray)) (x1 : ByteArray) (sx0 : Sl) (Fx0 : Frag) (hx0 : RowL 9 1 C9 sx0 x0 Fx0) {w0 w : World} {ps0 : Nat → Prop} {H0 H : Hp} {K : Int → Hp → Prop} {R : Value → World → Prop} {E : Pan} (I : Inv w0 ps0 H0 H [Fx0] w) (hR : ∀ (r0 : Int) (H' : Hp) (w' : World) (_ : Inv w0 ps0 H0 H' [Fx0] w') (_ : K r0 H'), R (vi r0) w') (h : T6 x0 x1 H K) : c5c (vs sx0) (Value.string x1) w R E := by
 unfold T6 at h
 unfold c5c
 have hj1 : ∀ (H : Hp) (w : World) (_ : Inv w0 ps0 H0 H [Fx0] w) (_ : Q5 H K), b7X w R E := by
  intro H w I h
  unfold b7X
  intro _
  unfold Q5 at h
  exact hR (-1) H _ I h
 refine t7 fun j1 hx1 => ?_
 refine a8 (c4q Tryd.underlying47 hx0) ?_
 obtain ⟨d2H, c2s, f4w, f4x⟩ := h
 refine y9 (J := fun n l w => ∃ (s : Int) (H : Hp) , n = c2s s ∧ l = [(vi s)] ∧ Inv w0 ps0 H0 H [Fx0] w ∧ d2H s H) ⟨_, 0, H, rfl, rfl, I, f4w⟩ ?_
 rintro f8T τ_15 w next2 ⟨N2, H, rfl, d1o, I, f4y⟩ hn2
 simp only [List.map_cons, List.map_nil, List.cons.injEq, and_true] at d1o
 have e8 := d1o
 simp only [e8]
 obtain ⟨n2, hm2, h⟩ : ∃ n2 : Int → Hp → Prop, (∀ s' H', n2 s' H' → d2H s' H' ∧ c2s s' < c2s N2) ∧ Q6 x0 x1 (x0.length : Int) N2 H n2 K := ⟨_, fun _ _ h => h, f4x N2 H (fun s' H' => d2H s' H' ∧ c2s s' < c2s N2) f4y (fun _ _ a b => ⟨a, b⟩)⟩
 unfold c3X
 unfold Q6 at h
 refine a8 (C4 _ _ _ _ _ _) ?_
 refine h9 (fun c_9 => ?_) (fun c_9 => ?_)
 ·replace h := h.1 c_9
  obtain ⟨h_3, x_1, h_4, h⟩ := h
  obtain ⟨g_2, a_6, h_5, h_7⟩ := hx0.addr h_4
  refine a8 (d0z h_5 _ _ _ _ h_3 (hx0.lt h_3 h_4)) ?_
  refine b7 (ld1 (v := (Value.string x_1)) Tryd.isAgg9 (hx0.atW I h_5 h_4)) ?_
  refine a8 (T0 _ _ _ _ _) ?_
  refine h9 (fun c_8 => ?_) (fun c_8 => ?_)
  ·replace h := h.1 c_8
   exact hR N2 H _ I h
  ·replace h := h.2 c_8
   refine a8 (s6 _ _ _ _ _ _) ?_
   exact hn2 _ _ _ (hm2 _ _ h).2 ⟨(IntKind.wrap .i64 (N2 + 1)), H, rfl, rfl, I, (hm2 _ _ h).1⟩
 ·replace h := h.2 c_9
  exact hx1 _ _ (hj1 H _ I h)
theorem a7j (x0 : (List ByteArray)) (x1 : ByteArray) {H : Hp} {K : Int → Hp → Prop} (h : T6 x0 x1 H K) : a0r x0 x1 H K := by
 intro sx0 Fx0 hx0 w I
 refine d5O ?_
 refine a6J x0 x1 sx0 Fx0 hx0 I (fun r0 H' w' I' hk => ⟨H', _, I', r0, rfl, rfl, hk⟩) h
def a1Q (x0 : f6) (H : Hp) (K : Int → Hp → Prop) : Prop :=
 a4w x0 H (fun (E3 : f4) (H_6 : Hp) =>
 K E3.fe H_6)
theorem b2K (x0 : f6) {w0 w : World} {ps0 : Nat → Prop} {H0 H : Hp} {K : Int → Hp → Prop} {R : Value → World → Prop} {E : Pan} (I : Inv w0 ps0 H0 H [] w) (hR : ∀ (r0 : Int) (H' : Hp) (w' : World) (_ : Inv w0 ps0 H0 H' [] w') (_ : K r0 H'), R (vi r0) w') (h : a1Q x0 H K) : F27 (Value.agg (b6 x0).toArray) w R E := by
 unfold a1Q at h
 unfold F27
 refine D8 I (cs := (b6 x0)) rfl fun g_2 w_3 I_4 k_5 => ?_
 refine b7 (ldA Tryd.isAgg25 Tryd.sizeOf25 rfl (I_4.at1 (o := 0) (vs := (b6 x0)) (nb rfl) rfl)) ?_
 refine d7 (cap := []) (fun args w => Tryd.call66 args w) ?_
 refine i6 (Fi := []) (Fr := [bx g_2 25 (b6 x0)]) I_4 (h) (fun a7K H_6 a7L w_7 I_8 a7M k_9 a1f => ?_) (fun _ _ _ _ _ q => q.elim)
 obtain ⟨E3, f5u, rfl, rfl, h⟩ := a1f
 refine a8 (q6 _) ?_
 refine a8 a5R ?_
 refine b7 (ld1 Tryd.isAgg34 (I_8.at1 (o := 2) (vs := [(vi E3.fe)]) (nb rfl) rfl)) ?_
 exact hR E3.fe H_6 _ I_8.drop.drop h
theorem b2Z (x0 : f6) {H : Hp} {K : Int → Hp → Prop} (h : a1Q x0 H K) : a1M x0 H K := by
 intro w I
 refine d7I ?_
 refine b2K x0 I (fun r0 H' w' I' hk => ⟨H', _, I', r0, rfl, rfl, hk⟩) h
def a0S (x0 : f6) (H : Hp) (K : Bool → Hp → Prop) : Prop :=
 a1M x0 H (fun (E3 : Int) (H_6 : Hp) =>
 K ((!decide (E3 = 32)) && (!decide (E3 = 33))) H_6)
theorem b0H (x0 : f6) {w0 w : World} {ps0 : Nat → Prop} {H0 H : Hp} {K : Bool → Hp → Prop} {R : Value → World → Prop} {E : Pan} (I : Inv w0 ps0 H0 H [] w) (hR : ∀ (r0 : Bool) (H' : Hp) (w' : World) (_ : Inv w0 ps0 H0 H' [] w') (_ : K r0 H'), R (Value.bool r0) w') (h : a0S x0 H K) : F51 (Value.agg (b6 x0).toArray) w R E := by
 unfold a0S at h
 unfold F51
 refine D8 I (cs := (b6 x0)) rfl fun g_2 w_3 I_4 k_5 => ?_
 refine b7 (ldA Tryd.isAgg25 Tryd.sizeOf25 rfl (I_4.at1 (o := 0) (vs := (b6 x0)) (nb rfl) rfl)) ?_
 refine d7 (cap := []) (fun args w => Tryd.call27 args w) ?_
 refine i6 (Fi := []) (Fr := [bx g_2 25 (b6 x0)]) I_4 (h) (fun a7K H_6 a7L w_7 I_8 a7M k_9 a1f => ?_) (fun _ _ _ _ _ q => q.elim)
 obtain ⟨E3, rfl, rfl, h⟩ := a1f
 refine a8 (t1 _ _ _ _ _ _) ?_
 try simp only [J1]
 refine a8 (Pu.g fun hb => by have a7 := hb; first | exact (t1 _ _ _ _ _ _) | (simp only [b3 a7]; exact (t1 _ _ _ _ _ _)) | (simp only [b5 a7, b3 a7, b3 hb, d9 a7, d6]; exact (t1 _ _ _ _ _ _))) ?_
 refine a8 (u5 _ _) ?_
 exact hR ((!decide (E3 = 32)) && (!decide (E3 = 33))) H_6 _ I_8.drop h
theorem b1p (x0 : f6) {H : Hp} {K : Bool → Hp → Prop} (h : a0S x0 H K) : a0R x0 H K := by
 intro w I
 refine d7K ?_
 refine b0H x0 I (fun r0 H' w' I' hk => ⟨H', _, I', r0, rfl, rfl, hk⟩) h
def m0 (H : Hp) (K : Bool → Hp → Prop) : Prop :=
 K true H
def j8 (a2w : Sl) (a9Y : Sl) (a9Z : Int) (D2 : Int) (H : Hp) (n2 : Int → Hp → Prop) (K : Bool → Hp → Prop) : Prop :=
 (D2 < a9Z →
 (0 : Int) ≤ D2 ∧ (D2 : Int) < a9Y.n ∧ ∃ x_1 : g9, EltH H a9Y D2 4 (c6 x_1) ∧
 (0 : Int) ≤ D2 ∧ (D2 : Int) < a2w.n ∧ ∃ a0Q : g9, EltH H a2w D2 4 (c6 a0Q) ∧
 a0G x_1 a0Q H (fun (Q1 : Bool) (Z6 : Hp) =>
 ((!Q1) = true →
 K false Z6) ∧
 ((!Q1) = false →
 n2 (IntKind.wrap .i64 (D2 + 1)) Z6))) ∧
 (¬ (D2 < a9Z) →
 m0 H K)
def k5 (x0 : Sl) (x1 : Sl) (H : Hp) (K : Bool → Hp → Prop) : Prop :=
 (¬ ((x0.n : Int) = (x1.n : Int)) →
 K false H) ∧
 ((x0.n : Int) = (x1.n : Int) →
 TL (0 : Int) H fun (s : Int) H n2 => j8 x1 x0 (x0.n : Int) s H n2 K)
theorem G4 (x0 : Sl) (x1 : Sl) {w0 w : World} {ps0 : Nat → Prop} {H0 H : Hp} {K : Bool → Hp → Prop} {R : Value → World → Prop} {E : Pan} (I : Inv w0 ps0 H0 H [] w) (hR : ∀ (r0 : Bool) (H' : Hp) (w' : World) (_ : Inv w0 ps0 H0 H' [] w') (_ : K r0 H'), R (Value.bool r0) w') (h : k5 x0 x1 H K) : F85 (vs x0) (vs x1) (Value.func (.func 86) #[] #[]) w R E := by
 unfold k5 at h
 unfold F85
 refine a8 (C8 _ _ _) ?_
 refine a8 (C8 _ _ _) ?_
 refine a8 (t1 _ _ _ _ _ _) ?_
 refine a2L (fun a8X => ?_) (fun a8X => ?_)
 ·replace h := h.1 a8X
  exact hR false H _ I h
 ·replace h := h.2 a8X
  have hj1 : ∀ (H : Hp) (w : World) (_ : Inv w0 ps0 H0 H [] w) (_ : m0 H K), c0y w R E := by
   intro H w I h
   unfold c0y
   intro _
   unfold m0 at h
   exact hR true H _ I h
  refine t7 fun j1 hx1 => ?_
  refine a8 (C8 _ _ _) ?_
  obtain ⟨a8Y, a4e, c1z, c1A⟩ := h
  refine y9 (J := fun n l w => ∃ (s : Int) (H : Hp) , n = a4e s ∧ l = [(vi s)] ∧ Inv w0 ps0 H0 H [] w ∧ a8Y s H) ⟨_, 0, H, rfl, rfl, I, c1z⟩ ?_
  rintro e5D τ_47 w next2 ⟨D2, H, rfl, b3Z, I, c1B⟩ hn2
  simp only [List.map_cons, List.map_nil, List.cons.injEq, and_true] at b3Z
  have e17 := b3Z
  simp only [e17]
  obtain ⟨n2, hm2, h⟩ : ∃ n2 : Int → Hp → Prop, (∀ s' H', n2 s' H' → a8Y s' H' ∧ a4e s' < a4e D2) ∧ j8 x1 x0 (x0.n : Int) D2 H n2 K := ⟨_, fun _ _ h => h, c1A D2 H (fun s' H' => a8Y s' H' ∧ a4e s' < a4e D2) c1B (fun _ _ a b => ⟨a, b⟩)⟩
  unfold c8B
  unfold j8 at h
  refine a8 (C4 _ _ _ _ _ _) ?_
  refine h9 (fun a8Z => ?_) (fun a8Z => ?_)
  ·replace h := h.1 a8Z
   obtain ⟨h_4, h_5, x_1, h_7, h⟩ := h
   obtain ⟨g_2, o_3, h_6, h_7⟩ := h_7
   refine a8 (a1E h_6 _ _ _ _ h_4 h_5) ?_
   refine b7 (ldA (vs := (c6 x_1)) Tryd.isAgg33 Tryd.sizeOf33 rfl (I.atH h_7)) ?_
   refine C1 I Tryd.zeroValue33 (cs := [(vi 0), (vi 0), (Value.slice none 0 0), (Value.slice none 0 0)]) rfl fun g_9 k9 a1q b0x => ?_
   refine o8 a1q Tryd.sizeOf33 (vs := (c6 x_1)) (cs' := (c6 x_1)) rfl rfl (nb rfl) rfl rfl fun a2N a1Y b5D => ?_
   obtain ⟨a4Y, c1C, a0Q, a6V, h⟩ := h
   obtain ⟨e5E, e5F, c1D, a6V⟩ := a6V
   refine a8 (a1E c1D _ _ _ _ a4Y c1C) ?_
   refine b7 (ldA (vs := (c6 a0Q)) Tryd.isAgg33 Tryd.sizeOf33 rfl (a1Y.atH a6V)) ?_
   refine C1 a1Y Tryd.zeroValue33 (cs := [(vi 0), (vi 0), (Value.slice none 0 0), (Value.slice none 0 0)]) rfl fun c1E a8Q b5E d0W => ?_
   refine o8 b5E Tryd.sizeOf33 (vs := (c6 a0Q)) (cs' := (c6 a0Q)) rfl rfl (nb rfl) rfl rfl fun u7 a4f c5s => ?_
   refine b7 (ldA Tryd.isAgg33 Tryd.sizeOf33 rfl ((a4f.bring 1).at1 (o := 0) (vs := (c6 x_1)) (nb rfl) rfl)) ?_
   refine b7 (ldA Tryd.isAgg33 Tryd.sizeOf33 rfl (a4f.at1 (o := 0) (vs := (c6 a0Q)) (nb rfl) rfl)) ?_
   refine d7 (cap := []) (fun args w => Tryd.call86 args w) ?_
   refine i6 (Fi := []) (Fr := [bx c1E 33 (c6 a0Q), bx g_9 33 (c6 x_1)]) a4f (h) (fun b8j Z6 d0X y8 a6m c1F c1G b5F => ?_) (fun _ _ _ _ _ q => q.elim)
   obtain ⟨Q1, rfl, rfl, h⟩ := b5F
   refine a8 (p7 _) ?_
   refine m5 (fun a4Z => ?_) (fun a4Z => ?_)
   ·replace h := h.1 a4Z
    exact hR false Z6 _ a6m.drop.drop h
   ·replace h := h.2 a4Z
    refine a8 (s6 _ _ _ _ _ _) ?_
    exact hn2 _ _ _ (hm2 _ _ h).2 ⟨(IntKind.wrap .i64 (D2 + 1)), Z6, rfl, rfl, a6m.drop.drop, (hm2 _ _ h).1⟩
  ·replace h := h.2 a8Z
   exact hx1 _ _ (hj1 H _ I h)
theorem G7 (x0 : Sl) (x1 : Sl) {H : Hp} {K : Bool → Hp → Prop} (h : k5 x0 x1 H K) : f9 x0 x1 H K := by
 intro w I
 refine e0i ?_
 refine G4 x0 x1 I (fun r0 H' w' I' hk => ⟨H', _, I', r0, rfl, rfl, hk⟩) h
def a1R (x0 : f6) (x1 : f6) (H : Hp) (K : Bool → Hp → Prop) : Prop :=
 a0R x0 H (fun (m7 : Bool) (E5 : Hp) =>
 TG (m7 = true) (a0R x1 E5) false E5 (fun (o4 : Bool) (C2 : Hp) =>
 TG ((m7 && o4) = true) (A6 x0.o7 x1.o7 C2) false C2 (fun (u6 : Bool) (C0 : Hp) =>
 TG (((m7 && o4) && u6) = true) (c5 x0.K5 x1.K5 C0) false C0 (fun (J0 : Bool) (O6 : Hp) =>
 K (((m7 && o4) && u6) && J0) O6))))
theorem b2L (x0 : f6) (x1 : f6) {w0 w : World} {ps0 : Nat → Prop} {H0 H : Hp} {K : Bool → Hp → Prop} {R : Value → World → Prop} {E : Pan} (I : Inv w0 ps0 H0 H [] w) (hR : ∀ (r0 : Bool) (H' : Hp) (w' : World) (_ : Inv w0 ps0 H0 H' [] w') (_ : K r0 H'), R (Value.bool r0) w') (h : a1R x0 x1 H K) : F15 (Value.agg (b6 x0).toArray) (Value.agg (b6 x1).toArray) w R E := by
 unfold a1R at h
 unfold F15
 refine D8 I (cs := (b6 x0)) rfl fun g_2 w_3 I_4 k_5 => ?_
 refine D8 I_4 (cs := (b6 x1)) rfl fun g_7 w_8 I_9 a7H => ?_
 refine b7 (ldA Tryd.isAgg25 Tryd.sizeOf25 rfl ((I_9.bring 1).at1 (o := 0) (vs := (b6 x0)) (nb rfl) rfl)) ?_
 refine d7 (cap := []) (fun args w => Tryd.call51 args w) ?_
 refine i6 (Fi := []) (Fr := [bx g_7 25 (b6 x1), bx g_2 25 (b6 x0)]) I_9 (h) (fun a4X E5 b8i k6 L6 a7I a7J a6U => ?_) (fun _ _ _ _ _ q => q.elim)
 obtain ⟨m7, rfl, rfl, h⟩ := a6U
 refine b7 (Ld.g fun hb => by have a7 := hb; first | exact (ldA Tryd.isAgg25 Tryd.sizeOf25 rfl (L6.at1 (o := 0) (vs := (b6 x1)) (nb rfl) rfl)) | (simp only [b5 a7, b3 a7, b3 hb, q8 a7]; exact (ldA Tryd.isAgg25 Tryd.sizeOf25 rfl (L6.at1 (o := 0) (vs := (b6 x1)) (nb rfl) rfl))) | (simp only [b5 a7, b3 a7, b3 hb, d9 a7, d6]; exact (ldA Tryd.isAgg25 Tryd.sizeOf25 rfl (L6.at1 (o := 0) (vs := (b6 x1)) (nb rfl) rfl)))) ?_
 refine R3 (D := fun a4h N5 => ∃ (o4 : Bool) (C2 : Hp) , a4h = (gv m7 true (Value.bool o4)) ∧ (Inv w0 ps0 H0 C2 [bx g_7 25 (b6 x1), bx g_2 25 (b6 x0)] N5) ∧ (∀ i, i < k6.heap.size → ¬ inF [] i → N5.heap[i]? = k6.heap[i]?) ∧ Hle E5 C2 ∧ (TG ((m7 && o4) = true) (A6 x0.o7 x1.o7 C2) false C2 (fun (u6 : Bool) (C0 : Hp) =>
 TG (((m7 && o4) && u6) = true) (c5 x0.K5 x1.K5 C0) false C0 (fun (J0 : Bool) (O6 : Hp) =>
 K (((m7 && o4) && u6) && J0) O6)))) (fun a7h => ?_) (fun a7h => ?_) ?_
 ·replace h := h.1 a7h
  have a7 := a7h
  try simp only [b3 a7]
  refine d7 (cap := []) (fun args w => Tryd.call51 args w) ?_
  refine i6 (Fi := []) (Fr := [bx g_7 25 (b6 x1), bx g_2 25 (b6 x0)]) L6 (h) (fun a4h C2 c2a N5 E1 a3W a6s a9i => ?_) (fun _ _ _ _ _ q => q.elim)
  obtain ⟨o4, rfl, rfl, h⟩ := a9i
  exact ⟨o4, C2, by first | rfl | rw [b3 a7h], E1, a6s, a3W, h⟩
 ·exact ⟨false, E5, by first | rfl | rw [a0X a7h], L6, fun _ _ _ => rfl, Hle.refl _, h.2 a7h⟩
 ·clear h
  rintro a4h N5 ⟨o4, C2, rfl, E1, a6s, a3W, h⟩
  refine a8 (u5 _ _) ?_
  refine a8 (Pu.g fun hb => by have a7 := hb; first | exact J9 | (simp only [b5 a7, b3 a7, b3 hb, q8 a7]; exact J9) | (simp only [b5 a7, b3 a7, b3 hb, d9 a7, d6]; exact J9)) ?_
  refine b7 (Ld.g fun hb => by have a7 := hb; first | exact (ld1 Tryd.isAgg22 ((E1.bring 1).at1 (o := 0) (vs := [(vs x0.o7)]) (nb rfl) rfl)) | (simp only [b3 a7]; exact (ld1 Tryd.isAgg22 ((E1.bring 1).at1 (o := 0) (vs := [(vs x0.o7)]) (nb rfl) rfl))) | (simp only [b5 a7, b3 a7, b3 hb, d9 a7, d6]; exact (ld1 Tryd.isAgg22 ((E1.bring 1).at1 (o := 0) (vs := [(vs x0.o7)]) (nb rfl) rfl)))) ?_
  refine a8 (Pu.g fun hb => by have a7 := hb; first | exact J9 | (simp only [b5 a7, b3 a7, b3 hb, q8 a7]; exact J9) | (simp only [b5 a7, b3 a7, b3 hb, d9 a7, d6]; exact J9)) ?_
  refine b7 (Ld.g fun hb => by have a7 := hb; first | exact (ld1 Tryd.isAgg22 (E1.at1 (o := 0) (vs := [(vs x1.o7)]) (nb rfl) rfl)) | (simp only [b3 a7]; exact (ld1 Tryd.isAgg22 (E1.at1 (o := 0) (vs := [(vs x1.o7)]) (nb rfl) rfl))) | (simp only [b5 a7, b3 a7, b3 hb, d9 a7, d6]; exact (ld1 Tryd.isAgg22 (E1.at1 (o := 0) (vs := [(vs x1.o7)]) (nb rfl) rfl)))) ?_
  refine R3 (D := fun a4y o5 => ∃ (u6 : Bool) (C0 : Hp) , a4y = (gv (m7 && o4) true (Value.bool u6)) ∧ (Inv w0 ps0 H0 C0 [bx g_7 25 (b6 x1), bx g_2 25 (b6 x0)] o5) ∧ (∀ i, i < N5.heap.size → ¬ inF [] i → o5.heap[i]? = N5.heap[i]?) ∧ Hle C2 C0 ∧ (TG (((m7 && o4) && u6) = true) (c5 x0.K5 x1.K5 C0) false C0 (fun (J0 : Bool) (O6 : Hp) =>
 K (((m7 && o4) && u6) && J0) O6))) (fun a2x => ?_) (fun a2x => ?_) ?_
  ·replace h := h.1 a2x
   have a7 := a2x
   try simp only [b3 a7]
   refine d7 (cap := []) (fun args w => Tryd.call52 args w) ?_
   refine i6 (Fi := []) (Fr := [bx g_7 25 (b6 x1), bx g_2 25 (b6 x0)]) E1 (h) (fun a4y C0 c6C o5 L9 a7S a4g b2G => ?_) (fun _ _ _ _ _ q => q.elim)
   obtain ⟨u6, rfl, rfl, h⟩ := b2G
   exact ⟨u6, C0, by first | rfl | rw [b3 a2x], L9, a4g, a7S, h⟩
  ·exact ⟨false, C2, by first | rfl | rw [a0X a2x], E1, fun _ _ _ => rfl, Hle.refl _, h.2 a2x⟩
  ·clear h
   rintro a4y o5 ⟨u6, C0, rfl, L9, a4g, a7S, h⟩
   refine a8 (u5 _ _) ?_
   refine a8 (Pu.g fun hb => by have a7 := hb; first | exact M9 | (simp only [b5 a7, b3 a7, b3 hb, q8 a7]; exact M9) | (simp only [b5 a7, b3 a7, b3 hb, d9 a7, d6]; exact M9)) ?_
   refine b7 (Ld.g fun hb => by have a7 := hb; first | exact (ld1 Tryd.isAgg23 ((L9.bring 1).at1 (o := 1) (vs := [(vs x0.K5)]) (nb rfl) rfl)) | (simp only [b3 a7]; exact (ld1 Tryd.isAgg23 ((L9.bring 1).at1 (o := 1) (vs := [(vs x0.K5)]) (nb rfl) rfl))) | (simp only [b5 a7, b3 a7, b3 hb, d9 a7, d6]; exact (ld1 Tryd.isAgg23 ((L9.bring 1).at1 (o := 1) (vs := [(vs x0.K5)]) (nb rfl) rfl)))) ?_
   refine a8 (Pu.g fun hb => by have a7 := hb; first | exact M9 | (simp only [b5 a7, b3 a7, b3 hb, q8 a7]; exact M9) | (simp only [b5 a7, b3 a7, b3 hb, d9 a7, d6]; exact M9)) ?_
   refine b7 (Ld.g fun hb => by have a7 := hb; first | exact (ld1 Tryd.isAgg23 (L9.at1 (o := 1) (vs := [(vs x1.K5)]) (nb rfl) rfl)) | (simp only [b3 a7]; exact (ld1 Tryd.isAgg23 (L9.at1 (o := 1) (vs := [(vs x1.K5)]) (nb rfl) rfl))) | (simp only [b5 a7, b3 a7, b3 hb, d9 a7, d6]; exact (ld1 Tryd.isAgg23 (L9.at1 (o := 1) (vs := [(vs x1.K5)]) (nb rfl) rfl)))) ?_
   refine R3 (D := fun b0A a6d => ∃ (J0 : Bool) (O6 : Hp) , b0A = (gv ((m7 && o4) && u6) true (Value.bool J0)) ∧ (Inv w0 ps0 H0 O6 [bx g_7 25 (b6 x1), bx g_2 25 (b6 x0)] a6d) ∧ (∀ i, i < o5.heap.size → ¬ inF [] i → a6d.heap[i]? = o5.heap[i]?) ∧ Hle C0 O6 ∧ (K (((m7 && o4) && u6) && J0) O6)) (fun a7i => ?_) (fun a7i => ?_) ?_
   ·replace h := h.1 a7i
    have a7 := a7i
    try simp only [b3 a7]
    refine d7 (cap := []) (fun args w => Tryd.call53 args w) ?_
    refine i6 (Fi := []) (Fr := [bx g_7 25 (b6 x1), bx g_2 25 (b6 x0)]) L9 (h) (fun b0A O6 c5Q a6d a1Z b4f b4g b2e => ?_) (fun _ _ _ _ _ q => q.elim)
    obtain ⟨J0, rfl, rfl, h⟩ := b2e
    exact ⟨J0, O6, by first | rfl | rw [b3 a7i], a1Z, b4g, b4f, h⟩
   ·exact ⟨false, C0, by first | rfl | rw [a0X a7i], L9, fun _ _ _ => rfl, Hle.refl _, h.2 a7i⟩
   ·clear h
    rintro b0A a6d ⟨J0, O6, rfl, a1Z, b4g, b4f, h⟩
    refine a8 (u5 _ _) ?_
    exact hR (((m7 && o4) && u6) && J0) O6 _ a1Z.drop.drop h
theorem b3a (x0 : f6) (x1 : f6) {H : Hp} {K : Bool → Hp → Prop} (h : a1R x0 x1 H K) : a3L x0 x1 H K := by
 intro w I
 refine d7z ?_
 refine b2L x0 x1 I (fun r0 H' w' I' hk => ⟨H', _, I', r0, rfl, rfl, hk⟩) h
def P6 (a6w : Int) (cr_1l2 : g9) (a2y : Int) (a2s : b4) (H : Hp) (n2 : (Int × b4) → Hp → Prop) (K : b4 → Hp → Prop) : Prop :=
 (((decide (a2y < (cr_1l2.j9.n : Int))) && (decide (a2s.fbad = 0))) = true →
 (0 : Int) ≤ a2y ∧ (a2y : Int) < cr_1l2.j9.n ∧ ∃ b2H : g9, EltH H cr_1l2.j9 a2y 4 (c6 b2H) ∧
 R8 a2s b2H (IntKind.wrap .i64 (a6w + 1)) H (fun (b0f : b4) (a9r : Hp) =>
 n2 ((IntKind.wrap .i64 (a2y + 1)), b0f) a9r)) ∧
 (((decide (a2y < (cr_1l2.j9.n : Int))) && (decide (a2s.fbad = 0))) = false →
 K a2s H)
def P7 (b0D : Int) (a4o : b4) (cr_1j1 : g9) (H : Hp) (K : b4 → Hp → Prop) : Prop :=
 TL ((0, a4o) : Int × b4) H fun (s : Int × b4) H n2 => P6 b0D cr_1j1 s.1 s.2 H n2 K
def P8 (c2t : Int) (cr_1l3 : g9) (W9 : Int) (a2t : b4) (H : Hp) (n3 : (Int × b4) → Hp → Prop) (K : b4 → Hp → Prop) : Prop :=
 (((decide (W9 < (cr_1l3.c7.n : Int))) && (decide (a2t.fbad = 0))) = true →
 (0 : Int) ≤ W9 ∧ (W9 : Int) < cr_1l3.c7.n ∧ ∃ c6G : h7, EltH H cr_1l3.c7 W9 4 (c8 c6G) ∧
 M4 a2t c6G (IntKind.wrap .i64 (c2t + 1)) H (fun (c2u : b4) (d2I : Hp) =>
 n3 ((IntKind.wrap .i64 (W9 + 1)), c2u) d2I)) ∧
 (((decide (W9 < (cr_1l3.c7.n : Int))) && (decide (a2t.fbad = 0))) = false →
 P7 c2t a2t cr_1l3 H K)
def S9 (x0 : b4) (x1 : g9) (x2 : Int) (H : Hp) (K : b4 → Hp → Prop) : Prop :=
 I8 x0 x2 H (fun (E3 : Bool) (a1u : b4) (H_6 : Hp) =>
 ((!E3) = true →
 K a1u H_6) ∧
 ((!E3) = false →
 TL ((0, a1u) : Int × b4) H_6 fun (s : Int × b4) H n3 => P8 x2 x1 s.1 s.2 H n3 K))
theorem a6z (x0 : b4) (x1 : g9) (x2 : Int) (g0 : Nat) {w0 w : World} {ps0 : Nat → Prop} {H0 H : Hp} {K : b4 → Hp → Prop} {R : Value → World → Prop} {E : Pan} (I : Inv w0 ps0 H0 H [bx g0 99 (d5 x0)] w) (hR : ∀ (y0 : b4) (H' : Hp) (w' : World) (_ : Inv w0 ps0 H0 H' [bx g0 99 (d5 y0)] w') (_ : K y0 H'), R (Value.tuple #[]) w') (h : S9 x0 x1 x2 H K) : F61 (Value.pointer (some ⟨g0, 0, none⟩)) (Value.agg (c6 x1).toArray) (vi x2) w R E := by
 unfold S9 at h
 unfold F61
 refine D8 I (cs := (c6 x1)) rfl fun g_2 w_3 I_4 k_5 => ?_
 refine d7 (cap := []) (fun args w => Tryd.call91 args w) ?_
 refine i6 (Fi := [bx g0 99 (d5 x0)]) (Fr := [bx g_2 33 (c6 x1)]) (I_4.bring 1) (h g0) (fun a7K H_6 a7L w_7 I_8 a7M k_9 a1f => ?_) (fun _ _ _ _ _ q => q.elim)
 obtain ⟨E3, a1u, rfl, rfl, h⟩ := a1f
 refine a8 (p7 _) ?_
 refine m5 (fun c6H => ?_) (fun c6H => ?_)
 ·replace h := h.1 c6H
  exact hR a1u H_6 _ (I_8.bring 1).drop h
 ·replace h := h.2 c6H
  have hj1 : ∀ (a4o : b4) (H : Hp) (w : World) (_ : Inv w0 ps0 H0 H [bx g0 99 (d5 a4o), bx g_2 33 (c6 x1)] w) (_ : P7 x2 a4o x1 H K), c0s (Value.pointer (some ⟨g0, 0, none⟩)) (vi x2) (Value.pointer (some ⟨g_2, 0, none⟩)) w R E := by
   intro a4o H w I h
   unfold c0s
   intro _
   unfold P7 at h
   obtain ⟨a5t, a1I, b6o, b6p⟩ := h
   refine y9 (J := fun n l w => ∃ (s : Int × b4) (H : Hp) , n = a1I s ∧ l = (match s with | (a2y, a2s) => [(vi a2y)]) ∧ (match s with | (a2y, a2s) => Inv w0 ps0 H0 H [bx g0 99 (d5 a2s), bx g_2 33 (c6 x1)] w) ∧ a5t s H) ⟨_, (0, a4o), H, rfl, rfl, ((I.bring 1).bring 1), b6o⟩ ?_
   rintro d2A τ_78 w next2 ⟨⟨a2y, a2s⟩, H, rfl, a2Z, I, b6q⟩ hn2
   dsimp only at a2Z I
   simp only [List.map_cons, List.map_nil, List.cons.injEq, and_true] at a2Z
   have e7 := a2Z
   simp only [e7]
   obtain ⟨n2, hm2, h⟩ : ∃ n2 : (Int × b4) → Hp → Prop, (∀ s' H', n2 s' H' → a5t s' H' ∧ a1I s' < a1I (a2y, a2s)) ∧ P6 x2 x1 a2y a2s H n2 K := ⟨_, fun _ _ h => h, b6p (a2y, a2s) H (fun s' H' => a5t s' H' ∧ a1I s' < a1I (a2y, a2s)) b6q (fun _ _ a b => ⟨a, b⟩)⟩
   unfold c8w
   unfold P6 at h
   refine a8 F3 ?_
   refine b7 (ld1 Tryd.isAgg31 ((I.bring 1).at1 (o := 3) (vs := [(vs x1.j9)]) (nb rfl) rfl)) ?_
   refine a8 (C8 _ _ _) ?_
   refine a8 (C4 _ _ _ _ _ _) ?_
   try simp only [J1]
   refine a8 (Pu.g fun hb => by have a7 := hb; first | exact (q6 _) | (simp only [b3 a7]; exact (q6 _)) | (simp only [b5 a7, b3 a7, b3 hb, d9 a7, d6]; exact (q6 _))) ?_
   refine a8 (Pu.g fun hb => by have a7 := hb; first | exact u1 | (simp only [b3 a7]; exact u1) | (simp only [b5 a7, b3 a7, b3 hb, d9 a7, d6]; exact u1)) ?_
   refine b7 (Ld.g fun hb => by have a7 := hb; first | exact (ld1 Tryd.isAgg3 (I.at1 (o := 2) (vs := [(vi a2s.fbad)]) (nb rfl) rfl)) | (simp only [b3 a7]; exact (ld1 Tryd.isAgg3 (I.at1 (o := 2) (vs := [(vi a2s.fbad)]) (nb rfl) rfl))) | (simp only [b5 a7, b3 a7, b3 hb, d9 a7, d6]; exact (ld1 Tryd.isAgg3 (I.at1 (o := 2) (vs := [(vi a2s.fbad)]) (nb rfl) rfl)))) ?_
   refine a8 (Pu.g fun hb => by have a7 := hb; first | exact (f7 _ _ _ _ _ _) | (simp only [b3 a7]; exact (f7 _ _ _ _ _ _)) | (simp only [b5 a7, b3 a7, b3 hb, d9 a7, d6]; exact (f7 _ _ _ _ _ _))) ?_
   refine a8 (u5 _ _) ?_
   refine m5 (fun a3r => ?_) (fun a3r => ?_)
   ·replace h := h.1 a3r
    refine a8 F3 ?_
    refine b7 (ld1 Tryd.isAgg31 ((I.bring 1).at1 (o := 3) (vs := [(vs x1.j9)]) (nb rfl) rfl)) ?_
    obtain ⟨b5H, c2q, b2H, b2j, h⟩ := h
    obtain ⟨f4r, f4s, d2B, b2j⟩ := b2j
    refine a8 (a1E d2B _ _ _ _ b5H c2q) ?_
    refine b7 (ldA (vs := (c6 b2H)) Tryd.isAgg33 Tryd.sizeOf33 rfl (I.atH b2j)) ?_
    refine a8 (s6 _ _ _ _ _ _) ?_
    refine d7 (cap := []) (fun args w => Tryd.call61 args w) ?_
    refine i6 (Fi := [bx g0 99 (d5 a2s)]) (Fr := [bx g_2 33 (c6 x1)]) I (h g0) (fun e6s a9r e6t R2 b4n b4l d2C c2r => ?_) (fun _ _ _ _ _ q => q.elim)
    obtain ⟨b0f, rfl, rfl, h⟩ := c2r
    refine a8 (s6 _ _ _ _ _ _) ?_
    exact hn2 _ _ _ (hm2 _ _ h).2 ⟨((IntKind.wrap .i64 (a2y + 1)), b0f), a9r, rfl, rfl, ((b4n.bring 1).bring 1), (hm2 _ _ h).1⟩
   ·replace h := h.2 a3r
    exact hR a2s H _ (I.bring 1).drop h
  refine t7 fun j1 hx1 => ?_
  obtain ⟨c6I, b7n, f0D, f0E⟩ := h
  refine y9 (J := fun n l w => ∃ (s : Int × b4) (H : Hp) , n = b7n s ∧ l = (match s with | (W9, a2t) => [(vi W9)]) ∧ (match s with | (W9, a2t) => Inv w0 ps0 H0 H [bx g0 99 (d5 a2t), bx g_2 33 (c6 x1)] w) ∧ c6I s H) ⟨_, (0, a1u), H_6, rfl, rfl, ((I_8.bring 1).bring 1), f0D⟩ ?_
  rintro f6g τ_112 w next3 ⟨⟨W9, a2t⟩, H, rfl, c6J, I, f0F⟩ hn3
  dsimp only at c6J I
  simp only [List.map_cons, List.map_nil, List.cons.injEq, and_true] at c6J
  have e6 := c6J
  simp only [e6]
  obtain ⟨n3, hm3, h⟩ : ∃ n3 : (Int × b4) → Hp → Prop, (∀ s' H', n3 s' H' → c6I s' H' ∧ b7n s' < b7n (W9, a2t)) ∧ P8 x2 x1 W9 a2t H n3 K := ⟨_, fun _ _ h => h, f0E (W9, a2t) H (fun s' H' => c6I s' H' ∧ b7n s' < b7n (W9, a2t)) f0F (fun _ _ a b => ⟨a, b⟩)⟩
  unfold c8x
  unfold P8 at h
  refine a8 F1 ?_
  refine b7 (ld1 Tryd.isAgg28 ((I.bring 1).at1 (o := 2) (vs := [(vs x1.c7)]) (nb rfl) rfl)) ?_
  refine a8 (q7 _ _ _) ?_
  refine a8 (C4 _ _ _ _ _ _) ?_
  try simp only [J1]
  refine a8 (Pu.g fun hb => by have a7 := hb; first | exact (q6 _) | (simp only [b3 a7]; exact (q6 _)) | (simp only [b5 a7, b3 a7, b3 hb, d9 a7, d6]; exact (q6 _))) ?_
  refine a8 (Pu.g fun hb => by have a7 := hb; first | exact u1 | (simp only [b3 a7]; exact u1) | (simp only [b5 a7, b3 a7, b3 hb, d9 a7, d6]; exact u1)) ?_
  refine b7 (Ld.g fun hb => by have a7 := hb; first | exact (ld1 Tryd.isAgg3 (I.at1 (o := 2) (vs := [(vi a2t.fbad)]) (nb rfl) rfl)) | (simp only [b3 a7]; exact (ld1 Tryd.isAgg3 (I.at1 (o := 2) (vs := [(vi a2t.fbad)]) (nb rfl) rfl))) | (simp only [b5 a7, b3 a7, b3 hb, d9 a7, d6]; exact (ld1 Tryd.isAgg3 (I.at1 (o := 2) (vs := [(vi a2t.fbad)]) (nb rfl) rfl)))) ?_
  refine a8 (Pu.g fun hb => by have a7 := hb; first | exact (f7 _ _ _ _ _ _) | (simp only [b3 a7]; exact (f7 _ _ _ _ _ _)) | (simp only [b5 a7, b3 a7, b3 hb, d9 a7, d6]; exact (f7 _ _ _ _ _ _))) ?_
  refine a8 (u5 _ _) ?_
  refine m5 (fun c6K => ?_) (fun c6K => ?_)
  ·replace h := h.1 c6K
   refine a8 F1 ?_
   refine b7 (ld1 Tryd.isAgg28 ((I.bring 1).at1 (o := 2) (vs := [(vs x1.c7)]) (nb rfl) rfl)) ?_
   obtain ⟨d1H, c2i, c6G, c2v, h⟩ := h
   obtain ⟨f8U, f8V, d2J, c2v⟩ := c2v
   refine a8 (W4 d2J _ _ _ _ d1H c2i) ?_
   refine b7 (ldA (vs := (c8 c6G)) Tryd.isAgg30 Tryd.sizeOf30 rfl (I.atH c2v)) ?_
   refine a8 (s6 _ _ _ _ _ _) ?_
   refine d7 (cap := []) (fun args w => Tryd.call58 args w) ?_
   refine i6 (Fi := [bx g0 99 (d5 a2t)]) (Fr := [bx g_2 33 (c6 x1)]) I (h g0) (fun f6h d2I f6i a4U f4z f6j f6k f0G => ?_) (fun _ _ _ _ _ q => q.elim)
   obtain ⟨c2u, rfl, rfl, h⟩ := f0G
   refine a8 (s6 _ _ _ _ _ _) ?_
   exact hn3 _ _ _ (hm3 _ _ h).2 ⟨((IntKind.wrap .i64 (W9 + 1)), c2u), d2I, rfl, rfl, ((f4z.bring 1).bring 1), (hm3 _ _ h).1⟩
  ·replace h := h.2 c6K
   exact hx1 _ _ (hj1 a2t H _ ((I.bring 1).bring 1) h)
theorem a6K (x0 : b4) (x1 : g9) (x2 : Int) {H : Hp} {K : b4 → Hp → Prop} (h : S9 x0 x1 x2 H K) : R8 x0 x1 x2 H K := by
 intro g0 w I
 refine d9B ?_
 refine a6z x0 x1 x2 g0 I (fun y0 H' w' I' hk => ⟨H', _, I', y0, rfl, rfl, hk⟩) h
def Q7 (_cr_6j2 : g9) (_cr_1j2 : g9) (H : Hp) (K : Bool → Hp → Prop) : Prop :=
 K true H
def Q8 (cr_6l3 : g9) (cr_1l3 : g9) (W9 : Int) (H : Hp) (n3 : Int → Hp → Prop) (K : Bool → Hp → Prop) : Prop :=
 (W9 < (cr_1l3.j9.n : Int) →
 (0 : Int) ≤ W9 ∧ (W9 : Int) < cr_1l3.j9.n ∧ ∃ c6L : g9, EltH H cr_1l3.j9 W9 4 (c6 c6L) ∧
 (0 : Int) ≤ W9 ∧ (W9 : Int) < cr_6l3.j9.n ∧ ∃ c6M : g9, EltH H cr_6l3.j9 W9 4 (c6 c6M) ∧
 T3 c6L c6M H (fun (c6N : Bool) (c2w : Hp) =>
 ((!c6N) = true →
 K false c2w) ∧
 ((!c6N) = false →
 n3 (IntKind.wrap .i64 (W9 + 1)) c2w))) ∧
 (¬ (W9 < (cr_1l3.j9.n : Int)) →
 Q7 cr_6l3 cr_1l3 H K)
def Q9 (cr_6j1 : g9) (cr_1j1 : g9) (H : Hp) (K : Bool → Hp → Prop) : Prop :=
 TL (0 : Int) H fun (s : Int) H n3 => Q8 cr_6j1 cr_1j1 s H n3 K
def R0 (cr_6l4 : g9) (cr_1l4 : g9) (a5u : Int) (H : Hp) (n4 : Int → Hp → Prop) (K : Bool → Hp → Prop) : Prop :=
 (a5u < (cr_1l4.c7.n : Int) →
 (0 : Int) ≤ a5u ∧ (a5u : Int) < cr_1l4.c7.n ∧ ∃ b2q : h7, EltH H cr_1l4.c7 a5u 4 (c8 b2q) ∧
 (0 : Int) ≤ a5u ∧ (a5u : Int) < cr_6l4.c7.n ∧ ∃ b2r : h7, EltH H cr_6l4.c7 a5u 4 (c8 b2r) ∧
 N1 b2q b2r H (fun (b2s : Bool) (a9j : Hp) =>
 ((!b2s) = true →
 K false a9j) ∧
 ((!b2s) = false →
 n4 (IntKind.wrap .i64 (a5u + 1)) a9j))) ∧
 (¬ (a5u < (cr_1l4.c7.n : Int)) →
 Q9 cr_6l4 cr_1l4 H K)
def T7 (x0 : g9) (x1 : g9) (H : Hp) (K : Bool → Hp → Prop) : Prop :=
 (((((!decide (x0.d4 = x1.d4)) || (!decide (x0.fOp = x1.fOp))) || (!decide ((x0.c7.n : Int) = (x1.c7.n : Int)))) || (!decide ((x0.j9.n : Int) = (x1.j9.n : Int)))) = true →
 K false H) ∧
 (((((!decide (x0.d4 = x1.d4)) || (!decide (x0.fOp = x1.fOp))) || (!decide ((x0.c7.n : Int) = (x1.c7.n : Int)))) || (!decide ((x0.j9.n : Int) = (x1.j9.n : Int)))) = false →
 TL (0 : Int) H fun (s : Int) H n4 => R0 x1 x0 s H n4 K)
theorem a6L (x0 : g9) (x1 : g9) {w0 w : World} {ps0 : Nat → Prop} {H0 H : Hp} {K : Bool → Hp → Prop} {R : Value → World → Prop} {E : Pan} (I : Inv w0 ps0 H0 H [] w) (hR : ∀ (r0 : Bool) (H' : Hp) (w' : World) (_ : Inv w0 ps0 H0 H' [] w') (_ : K r0 H'), R (Value.bool r0) w') (h : T7 x0 x1 H K) : F87 (Value.agg (c6 x0).toArray) (Value.agg (c6 x1).toArray) w R E := by
 unfold T7 at h
 unfold F87
 refine D8 I (cs := (c6 x0)) rfl fun g_2 w_3 I_4 k_5 => ?_
 refine D8 I_4 (cs := (c6 x1)) rfl fun g_7 w_8 I_9 a7H => ?_
 refine a8 a2V ?_
 refine b7 (ld1 Tryd.isAgg3 ((I_9.bring 1).at1 (o := 0) (vs := [(vi x0.d4)]) (nb rfl) rfl)) ?_
 refine a8 a2V ?_
 refine b7 (ld1 Tryd.isAgg3 (I_9.at1 (o := 0) (vs := [(vi x1.d4)]) (nb rfl) rfl)) ?_
 refine a8 (t1 _ _ _ _ _ _) ?_
 refine a8 (Pu.g fun hb => by have a7 := hb; first | exact K1 | (simp only [b5 a7, b3 a7, b3 hb, J2 a7]; exact K1) | (simp only [b5 a7, b3 a7, b3 hb, i4 a7, d6]; exact K1)) ?_
 refine b7 (Ld.g fun hb => by have a7 := hb; first | exact (ld1 Tryd.isAgg3 ((I_9.bring 1).at1 (o := 1) (vs := [(vi x0.fOp)]) (nb rfl) rfl)) | (simp only [b3 a7]; exact (ld1 Tryd.isAgg3 ((I_9.bring 1).at1 (o := 1) (vs := [(vi x0.fOp)]) (nb rfl) rfl))) | (simp only [b5 a7, b3 a7, b3 hb, i4 a7, d6]; exact (ld1 Tryd.isAgg3 ((I_9.bring 1).at1 (o := 1) (vs := [(vi x0.fOp)]) (nb rfl) rfl)))) ?_
 refine a8 (Pu.g fun hb => by have a7 := hb; first | exact K1 | (simp only [b5 a7, b3 a7, b3 hb, J2 a7]; exact K1) | (simp only [b5 a7, b3 a7, b3 hb, i4 a7, d6]; exact K1)) ?_
 refine b7 (Ld.g fun hb => by have a7 := hb; first | exact (ld1 Tryd.isAgg3 (I_9.at1 (o := 1) (vs := [(vi x1.fOp)]) (nb rfl) rfl)) | (simp only [b3 a7]; exact (ld1 Tryd.isAgg3 (I_9.at1 (o := 1) (vs := [(vi x1.fOp)]) (nb rfl) rfl))) | (simp only [b5 a7, b3 a7, b3 hb, i4 a7, d6]; exact (ld1 Tryd.isAgg3 (I_9.at1 (o := 1) (vs := [(vi x1.fOp)]) (nb rfl) rfl)))) ?_
 refine a8 (Pu.g fun hb => by have a7 := hb; first | exact (t1 _ _ _ _ _ _) | (simp only [b3 a7]; exact (t1 _ _ _ _ _ _)) | (simp only [b5 a7, b3 a7, b3 hb, i4 a7, d6]; exact (t1 _ _ _ _ _ _))) ?_
 refine a8 (U3 _ _) ?_
 refine a8 (Pu.g fun hb => by have a7 := hb; first | exact F1 | (simp only [b5 a7, b3 a7, b3 hb, J2 a7]; exact F1) | (simp only [b5 a7, b3 a7, b3 hb, i4 a7, d6]; exact F1)) ?_
 refine b7 (Ld.g fun hb => by have a7 := hb; first | exact (ld1 Tryd.isAgg28 ((I_9.bring 1).at1 (o := 2) (vs := [(vs x0.c7)]) (nb rfl) rfl)) | (simp only [b3 a7]; exact (ld1 Tryd.isAgg28 ((I_9.bring 1).at1 (o := 2) (vs := [(vs x0.c7)]) (nb rfl) rfl))) | (simp only [b5 a7, b3 a7, b3 hb, i4 a7, d6]; exact (ld1 Tryd.isAgg28 ((I_9.bring 1).at1 (o := 2) (vs := [(vs x0.c7)]) (nb rfl) rfl)))) ?_
 refine a8 (Pu.g fun hb => by have a7 := hb; first | exact (q7 _ _ _) | (simp only [b3 a7]; exact (q7 _ _ _)) | (simp only [b5 a7, b3 a7, b3 hb, i4 a7, d6]; exact (q7 _ _ _))) ?_
 refine a8 (Pu.g fun hb => by have a7 := hb; first | exact F1 | (simp only [b5 a7, b3 a7, b3 hb, J2 a7]; exact F1) | (simp only [b5 a7, b3 a7, b3 hb, i4 a7, d6]; exact F1)) ?_
 refine b7 (Ld.g fun hb => by have a7 := hb; first | exact (ld1 Tryd.isAgg28 (I_9.at1 (o := 2) (vs := [(vs x1.c7)]) (nb rfl) rfl)) | (simp only [b3 a7]; exact (ld1 Tryd.isAgg28 (I_9.at1 (o := 2) (vs := [(vs x1.c7)]) (nb rfl) rfl))) | (simp only [b5 a7, b3 a7, b3 hb, i4 a7, d6]; exact (ld1 Tryd.isAgg28 (I_9.at1 (o := 2) (vs := [(vs x1.c7)]) (nb rfl) rfl)))) ?_
 refine a8 (Pu.g fun hb => by have a7 := hb; first | exact (q7 _ _ _) | (simp only [b3 a7]; exact (q7 _ _ _)) | (simp only [b5 a7, b3 a7, b3 hb, i4 a7, d6]; exact (q7 _ _ _))) ?_
 refine a8 (Pu.g fun hb => by have a7 := hb; first | exact (t1 _ _ _ _ _ _) | (simp only [b3 a7]; exact (t1 _ _ _ _ _ _)) | (simp only [b5 a7, b3 a7, b3 hb, i4 a7, d6]; exact (t1 _ _ _ _ _ _))) ?_
 refine a8 (U3 _ _) ?_
 refine a8 (Pu.g fun hb => by have a7 := hb; first | exact F3 | (simp only [b5 a7, b3 a7, b3 hb, J2 a7]; exact F3) | (simp only [b5 a7, b3 a7, b3 hb, i4 a7, d6]; exact F3)) ?_
 refine b7 (Ld.g fun hb => by have a7 := hb; first | exact (ld1 Tryd.isAgg31 ((I_9.bring 1).at1 (o := 3) (vs := [(vs x0.j9)]) (nb rfl) rfl)) | (simp only [b3 a7]; exact (ld1 Tryd.isAgg31 ((I_9.bring 1).at1 (o := 3) (vs := [(vs x0.j9)]) (nb rfl) rfl))) | (simp only [b5 a7, b3 a7, b3 hb, i4 a7, d6]; exact (ld1 Tryd.isAgg31 ((I_9.bring 1).at1 (o := 3) (vs := [(vs x0.j9)]) (nb rfl) rfl)))) ?_
 refine a8 (Pu.g fun hb => by have a7 := hb; first | exact (C8 _ _ _) | (simp only [b3 a7]; exact (C8 _ _ _)) | (simp only [b5 a7, b3 a7, b3 hb, i4 a7, d6]; exact (C8 _ _ _))) ?_
 refine a8 (Pu.g fun hb => by have a7 := hb; first | exact F3 | (simp only [b5 a7, b3 a7, b3 hb, J2 a7]; exact F3) | (simp only [b5 a7, b3 a7, b3 hb, i4 a7, d6]; exact F3)) ?_
 refine b7 (Ld.g fun hb => by have a7 := hb; first | exact (ld1 Tryd.isAgg31 (I_9.at1 (o := 3) (vs := [(vs x1.j9)]) (nb rfl) rfl)) | (simp only [b3 a7]; exact (ld1 Tryd.isAgg31 (I_9.at1 (o := 3) (vs := [(vs x1.j9)]) (nb rfl) rfl))) | (simp only [b5 a7, b3 a7, b3 hb, i4 a7, d6]; exact (ld1 Tryd.isAgg31 (I_9.at1 (o := 3) (vs := [(vs x1.j9)]) (nb rfl) rfl)))) ?_
 refine a8 (Pu.g fun hb => by have a7 := hb; first | exact (C8 _ _ _) | (simp only [b3 a7]; exact (C8 _ _ _)) | (simp only [b5 a7, b3 a7, b3 hb, i4 a7, d6]; exact (C8 _ _ _))) ?_
 refine a8 (Pu.g fun hb => by have a7 := hb; first | exact (t1 _ _ _ _ _ _) | (simp only [b3 a7]; exact (t1 _ _ _ _ _ _)) | (simp only [b5 a7, b3 a7, b3 hb, i4 a7, d6]; exact (t1 _ _ _ _ _ _))) ?_
 refine a8 (U3 _ _) ?_
 refine m5 (fun a9n => ?_) (fun a9n => ?_)
 ·replace h := h.1 a9n
  exact hR false H _ I_9.drop.drop h
 ·replace h := h.2 a9n
  have hj1 : ∀ (H : Hp) (w : World) (_ : Inv w0 ps0 H0 H [bx g_7 33 (c6 x1), bx g_2 33 (c6 x0)] w) (_ : Q9 x1 x0 H K), c0A (Value.pointer (some ⟨g_2, 0, none⟩)) (Value.pointer (some ⟨g_7, 0, none⟩)) w R E := by
   intro H w I h
   unfold c0A
   intro _
   unfold Q9 at h
   have hj2 : ∀ (H : Hp) (w : World) (_ : Inv w0 ps0 H0 H [bx g_7 33 (c6 x1), bx g_2 33 (c6 x0)] w) (_ : Q7 x1 x0 H K), c0z w R E := by
    intro H w I h
    unfold c0z
    intro _
    unfold Q7 at h
    exact hR true H _ I.drop.drop h
   refine t7 fun j2 hx2 => ?_
   obtain ⟨d2K, c2x, f4A, f4B⟩ := h
   refine y9 (J := fun n l w => ∃ (s : Int) (H : Hp) , n = c2x s ∧ l = [(vi s)] ∧ Inv w0 ps0 H0 H [bx g_7 33 (c6 x1), bx g_2 33 (c6 x0)] w ∧ d2K s H) ⟨_, 0, H, rfl, rfl, ((I.bring 1).bring 1), f4A⟩ ?_
   rintro f8W τ_69 w next3 ⟨W9, H, rfl, b4l, I, f4C⟩ hn3
   simp only [List.map_cons, List.map_nil, List.cons.injEq, and_true] at b4l
   have e6 := b4l
   simp only [e6]
   obtain ⟨n3, hm3, h⟩ : ∃ n3 : Int → Hp → Prop, (∀ s' H', n3 s' H' → d2K s' H' ∧ c2x s' < c2x W9) ∧ Q8 x1 x0 W9 H n3 K := ⟨_, fun _ _ h => h, f4B W9 H (fun s' H' => d2K s' H' ∧ c2x s' < c2x W9) f4C (fun _ _ a b => ⟨a, b⟩)⟩
   unfold c8C
   unfold Q8 at h
   refine a8 F3 ?_
   refine b7 (ld1 Tryd.isAgg31 ((I.bring 1).at1 (o := 3) (vs := [(vs x0.j9)]) (nb rfl) rfl)) ?_
   refine a8 (C8 _ _ _) ?_
   refine a8 (C4 _ _ _ _ _ _) ?_
   refine h9 (fun b6c => ?_) (fun b6c => ?_)
   ·replace h := h.1 b6c
    refine a4O I fun d0M b6n => ?_
    refine o3 F3 ?_
    refine o3 F3 ?_
    refine E8 (ld1 Tryd.isAgg31 ((b6n.bring 1).at1 (o := 3) (vs := [(vs x0.j9)]) (nb rfl) rfl)) ?_
    obtain ⟨b1X, a6W, c6L, b5V, h⟩ := h
    obtain ⟨f8X, f8Y, c2d, b5V⟩ := b5V
    refine o3 (a1E c2d _ _ _ _ b1X a6W) ?_
    refine E8 (ldA (vs := (c6 c6L)) Tryd.isAgg33 Tryd.sizeOf33 rfl (b6n.atH b5V)) ?_
    refine E8 (ld1 Tryd.isAgg31 (b6n.at1 (o := 3) (vs := [(vs x1.j9)]) (nb rfl) rfl)) ?_
    obtain ⟨d2L, d2M, c6M, b2z, h⟩ := h
    obtain ⟨f8Z, f9a, b6j, b2z⟩ := b2z
    refine o3 (a1E b6j _ _ _ _ d2L d2M) ?_
    refine E8 (ldA (vs := (c6 c6M)) Tryd.isAgg33 Tryd.sizeOf33 rfl (b6n.atH b2z)) ?_
    refine d7 (cap := []) (fun args w => Tryd.call87 args w) ?_
    refine i6 (Fi := []) (Fr := [bx g_7 33 (c6 x1), bx g_2 33 (c6 x0)]) b6n (h) (fun f9b c2w e6u N9 c2y f9c f4D f4E => ?_) (fun _ _ _ _ _ q => q.elim)
    obtain ⟨c6N, rfl, rfl, h⟩ := f4E
    refine o3 (p7 _) ?_
    refine m5 (fun b6d => ?_) (fun b6d => ?_)
    ·replace h := h.1 b6d
     exact hR false c2w _ c2y.drop.drop h
    ·replace h := h.2 b6d
     refine a8 (s6 _ _ _ _ _ _) ?_
     exact hn3 _ _ _ (hm3 _ _ h).2 ⟨(IntKind.wrap .i64 (W9 + 1)), c2w, rfl, rfl, ((c2y.bring 1).bring 1), (hm3 _ _ h).1⟩
   ·replace h := h.2 b6c
    exact hx2 _ _ (hj2 H _ ((I.bring 1).bring 1) h)
  refine t7 fun j1 hx1 => ?_
  obtain ⟨a5t, a1I, b6o, b6p⟩ := h
  refine y9 (J := fun n l w => ∃ (s : Int) (H : Hp) , n = a1I s ∧ l = [(vi s)] ∧ Inv w0 ps0 H0 H [bx g_7 33 (c6 x1), bx g_2 33 (c6 x0)] w ∧ a5t s H) ⟨_, 0, H, rfl, rfl, ((I_9.bring 1).bring 1), b6o⟩ ?_
  rintro d2A τ_78 w next4 ⟨a5u, H, rfl, a2Z, I, b6q⟩ hn4
  simp only [List.map_cons, List.map_nil, List.cons.injEq, and_true] at a2Z
  have e5 := a2Z
  simp only [e5]
  obtain ⟨n4, hm4, h⟩ : ∃ n4 : Int → Hp → Prop, (∀ s' H', n4 s' H' → a5t s' H' ∧ a1I s' < a1I a5u) ∧ R0 x1 x0 a5u H n4 K := ⟨_, fun _ _ h => h, b6p a5u H (fun s' H' => a5t s' H' ∧ a1I s' < a1I a5u) b6q (fun _ _ a b => ⟨a, b⟩)⟩
  unfold c8H
  unfold R0 at h
  refine a8 F1 ?_
  refine b7 (ld1 Tryd.isAgg28 ((I.bring 1).at1 (o := 2) (vs := [(vs x0.c7)]) (nb rfl) rfl)) ?_
  refine a8 (q7 _ _ _) ?_
  refine a8 (C4 _ _ _ _ _ _) ?_
  refine h9 (fun a3r => ?_) (fun a3r => ?_)
  ·replace h := h.1 a3r
   refine a4O I fun a1m C3 => ?_
   refine o3 F1 ?_
   refine o3 F1 ?_
   refine E8 (ld1 Tryd.isAgg28 ((C3.bring 1).at1 (o := 2) (vs := [(vs x0.c7)]) (nb rfl) rfl)) ?_
   obtain ⟨a3g, d1L, b2q, a4Y, h⟩ := h
   obtain ⟨f3N, f3O, d1M, a4Y⟩ := a4Y
   refine o3 (W4 d1M _ _ _ _ a3g d1L) ?_
   refine E8 (ldA (vs := (c8 b2q)) Tryd.isAgg30 Tryd.sizeOf30 rfl (C3.atH a4Y)) ?_
   refine E8 (ld1 Tryd.isAgg28 (C3.at1 (o := 2) (vs := [(vs x1.c7)]) (nb rfl) rfl)) ?_
   obtain ⟨c1S, c1T, b2r, b5W, h⟩ := h
   obtain ⟨a0u, f3P, b5P, b5W⟩ := b5W
   refine o3 (W4 b5P _ _ _ _ c1S c1T) ?_
   refine E8 (ldA (vs := (c8 b2r)) Tryd.isAgg30 Tryd.sizeOf30 rfl (C3.atH b5W)) ?_
   refine d7 (cap := []) (fun args w => Tryd.call88 args w) ?_
   refine i6 (Fi := []) (Fr := [bx g_7 33 (c6 x1), bx g_2 33 (c6 x0)]) C3 (h) (fun f3Q a9j f3R u7 a4f d1N c5s d1O => ?_) (fun _ _ _ _ _ q => q.elim)
   obtain ⟨b2s, rfl, rfl, h⟩ := d1O
   refine o3 (p7 _) ?_
   refine m5 (fun b5X => ?_) (fun b5X => ?_)
   ·replace h := h.1 b5X
    exact hR false a9j _ a4f.drop.drop h
   ·replace h := h.2 b5X
    refine a8 (s6 _ _ _ _ _ _) ?_
    exact hn4 _ _ _ (hm4 _ _ h).2 ⟨(IntKind.wrap .i64 (a5u + 1)), a9j, rfl, rfl, ((a4f.bring 1).bring 1), (hm4 _ _ h).1⟩
  ·replace h := h.2 a3r
   exact hx1 _ _ (hj1 H _ ((I.bring 1).bring 1) h)
theorem a7k (x0 : g9) (x1 : g9) {H : Hp} {K : Bool → Hp → Prop} (h : T7 x0 x1 H K) : T3 x0 x1 H K := by
 intro w I
 refine e0J ?_
 refine a6L x0 x1 I (fun r0 H' w' I' hk => ⟨H', _, I', r0, rfl, rfl, hk⟩) h
def T8 (_cr_6j1 : f6) (_cr_1j1 : f6) (H : Hp) (K : Bool → Hp → Prop) : Prop :=
 K true H
def E7 (cr_6l2 : f6) (cr_1l2 : f6) (D5 : Int) (H : Hp) (n2 : Int → Hp → Prop) (K : Bool → Hp → Prop) : Prop :=
 (D5 < (cr_1l2.o7.n : Int) →
 (0 : Int) ≤ D5 ∧ (D5 : Int) < cr_1l2.o7.n ∧ ∃ a7P : A4, EltH H cr_1l2.o7 D5 2 (k8 a7P) ∧
 (0 : Int) ≤ D5 ∧ (D5 : Int) < cr_6l2.o7.n ∧ ∃ b6r : A4, EltH H cr_6l2.o7 D5 2 (k8 b6r) ∧
 (¬ (a7P.d8 = b6r.d8 ∧ a7P.R7 = b6r.R7) →
 K false H) ∧
 (a7P.d8 = b6r.d8 ∧ a7P.R7 = b6r.R7 →
 n2 (IntKind.wrap .i64 (D5 + 1)) H)) ∧
 (¬ (D5 < (cr_1l2.o7.n : Int)) →
 T8 cr_6l2 cr_1l2 H K)
def X5 (x0 : f6) (x1 : f6) (H : Hp) (K : Bool → Hp → Prop) : Prop :=
 Z8 x0 H (fun (m7 : Bool) (E5 : Hp) =>
 TG ((!m7) = false) (Z8 x1 E5) false E5 (fun (o4 : Bool) (C2 : Hp) =>
 TG ((((!m7) || (!o4)) || (!decide ((x0.o7.n : Int) = (x1.o7.n : Int)))) = false) (B1 x0.K5 x1.K5 C2) false C2 (fun (u6 : Bool) (C0 : Hp) =>
 (((((!m7) || (!o4)) || (!decide ((x0.o7.n : Int) = (x1.o7.n : Int)))) || (!u6)) = true →
 K false C0) ∧
 (((((!m7) || (!o4)) || (!decide ((x0.o7.n : Int) = (x1.o7.n : Int)))) || (!u6)) = false →
 TL (0 : Int) C0 fun (s : Int) H n2 => E7 x1 x0 s H n2 K))))
theorem a7V (x0 : f6) (x1 : f6) {w0 w : World} {ps0 : Nat → Prop} {H0 H : Hp} {K : Bool → Hp → Prop} {R : Value → World → Prop} {E : Pan} (I : Inv w0 ps0 H0 H [] w) (hR : ∀ (r0 : Bool) (H' : Hp) (w' : World) (_ : Inv w0 ps0 H0 H' [] w') (_ : K r0 H'), R (Value.bool r0) w') (h : X5 x0 x1 H K) : F16 (Value.agg (b6 x0).toArray) (Value.agg (b6 x1).toArray) w R E := by
 unfold X5 at h
 unfold F16
 refine D8 I (cs := (b6 x0)) rfl fun g_2 w_3 I_4 k_5 => ?_
 refine D8 I_4 (cs := (b6 x1)) rfl fun g_7 w_8 I_9 a7H => ?_
 refine b7 (ldA Tryd.isAgg25 Tryd.sizeOf25 rfl ((I_9.bring 1).at1 (o := 0) (vs := (b6 x0)) (nb rfl) rfl)) ?_
 refine d7 (cap := []) (fun args w => Tryd.call55 args w) ?_
 refine i6 (Fi := []) (Fr := [bx g_7 25 (b6 x1), bx g_2 25 (b6 x0)]) I_9 (h) (fun a4X E5 b8i k6 L6 a7I a7J a6U => ?_) (fun _ _ _ _ _ q => q.elim)
 obtain ⟨m7, rfl, rfl, h⟩ := a6U
 refine a8 (p7 _) ?_
 refine b7 (Ld.g fun hb => by have a7 := hb; first | exact (ldA Tryd.isAgg25 Tryd.sizeOf25 rfl (L6.at1 (o := 0) (vs := (b6 x1)) (nb rfl) rfl)) | (simp only [b5 a7, b3 a7, b3 hb, J2 a7]; exact (ldA Tryd.isAgg25 Tryd.sizeOf25 rfl (L6.at1 (o := 0) (vs := (b6 x1)) (nb rfl) rfl))) | (simp only [b5 a7, b3 a7, b3 hb, i4 a7, d6]; exact (ldA Tryd.isAgg25 Tryd.sizeOf25 rfl (L6.at1 (o := 0) (vs := (b6 x1)) (nb rfl) rfl)))) ?_
 refine R3 (D := fun a4h N5 => ∃ (o4 : Bool) (C2 : Hp) , a4h = (gv (!m7) false (Value.bool o4)) ∧ (Inv w0 ps0 H0 C2 [bx g_7 25 (b6 x1), bx g_2 25 (b6 x0)] N5) ∧ (∀ i, i < k6.heap.size → ¬ inF [] i → N5.heap[i]? = k6.heap[i]?) ∧ Hle E5 C2 ∧ (TG ((((!m7) || (!o4)) || (!decide ((x0.o7.n : Int) = (x1.o7.n : Int)))) = false) (B1 x0.K5 x1.K5 C2) false C2 (fun (u6 : Bool) (C0 : Hp) =>
 (((((!m7) || (!o4)) || (!decide ((x0.o7.n : Int) = (x1.o7.n : Int)))) || (!u6)) = true →
 K false C0) ∧
 (((((!m7) || (!o4)) || (!decide ((x0.o7.n : Int) = (x1.o7.n : Int)))) || (!u6)) = false →
 TL (0 : Int) C0 fun (s : Int) H n2 => E7 x1 x0 s H n2 K)))) (fun b8A => ?_) (fun b8A => ?_) ?_
 ·replace h := h.1 b8A
  have a7 := b8A
  try simp only [b3 a7]
  refine d7 (cap := []) (fun args w => Tryd.call55 args w) ?_
  refine i6 (Fi := []) (Fr := [bx g_7 25 (b6 x1), bx g_2 25 (b6 x0)]) L6 (h) (fun a4h C2 c2a N5 E1 a3W a6s a9i => ?_) (fun _ _ _ _ _ q => q.elim)
  obtain ⟨o4, rfl, rfl, h⟩ := a9i
  exact ⟨o4, C2, by first | rfl | rw [b3 b8A], E1, a6s, a3W, h⟩
 ·exact ⟨false, E5, by first | rfl | rw [a0X b8A], L6, fun _ _ _ => rfl, Hle.refl _, h.2 b8A⟩
 ·clear h
  rintro a4h N5 ⟨o4, C2, rfl, E1, a6s, a3W, h⟩
  refine a8 (Pu.g fun hb => by have a7 := hb; first | exact (p7 _) | (simp only [b3 a7]; exact (p7 _)) | (simp only [b5 a7, b3 a7, b3 hb, i4 a7, d6]; exact (p7 _))) ?_
  refine a8 (U3 _ _) ?_
  refine a8 (Pu.g fun hb => by have a7 := hb; first | exact J9 | (simp only [b5 a7, b3 a7, b3 hb, J2 a7]; exact J9) | (simp only [b5 a7, b3 a7, b3 hb, i4 a7, d6]; exact J9)) ?_
  refine b7 (Ld.g fun hb => by have a7 := hb; first | exact (ld1 Tryd.isAgg22 ((E1.bring 1).at1 (o := 0) (vs := [(vs x0.o7)]) (nb rfl) rfl)) | (simp only [b3 a7]; exact (ld1 Tryd.isAgg22 ((E1.bring 1).at1 (o := 0) (vs := [(vs x0.o7)]) (nb rfl) rfl))) | (simp only [b5 a7, b3 a7, b3 hb, i4 a7, d6]; exact (ld1 Tryd.isAgg22 ((E1.bring 1).at1 (o := 0) (vs := [(vs x0.o7)]) (nb rfl) rfl)))) ?_
  refine a8 (Pu.g fun hb => by have a7 := hb; first | exact (X0 _ _ _) | (simp only [b3 a7]; exact (X0 _ _ _)) | (simp only [b5 a7, b3 a7, b3 hb, i4 a7, d6]; exact (X0 _ _ _))) ?_
  refine a8 (Pu.g fun hb => by have a7 := hb; first | exact J9 | (simp only [b5 a7, b3 a7, b3 hb, J2 a7]; exact J9) | (simp only [b5 a7, b3 a7, b3 hb, i4 a7, d6]; exact J9)) ?_
  refine b7 (Ld.g fun hb => by have a7 := hb; first | exact (ld1 Tryd.isAgg22 (E1.at1 (o := 0) (vs := [(vs x1.o7)]) (nb rfl) rfl)) | (simp only [b3 a7]; exact (ld1 Tryd.isAgg22 (E1.at1 (o := 0) (vs := [(vs x1.o7)]) (nb rfl) rfl))) | (simp only [b5 a7, b3 a7, b3 hb, i4 a7, d6]; exact (ld1 Tryd.isAgg22 (E1.at1 (o := 0) (vs := [(vs x1.o7)]) (nb rfl) rfl)))) ?_
  refine a8 (Pu.g fun hb => by have a7 := hb; first | exact (X0 _ _ _) | (simp only [b3 a7]; exact (X0 _ _ _)) | (simp only [b5 a7, b3 a7, b3 hb, i4 a7, d6]; exact (X0 _ _ _))) ?_
  refine a8 (Pu.g fun hb => by have a7 := hb; first | exact (t1 _ _ _ _ _ _) | (simp only [b3 a7]; exact (t1 _ _ _ _ _ _)) | (simp only [b5 a7, b3 a7, b3 hb, i4 a7, d6]; exact (t1 _ _ _ _ _ _))) ?_
  refine a8 (U3 _ _) ?_
  refine a8 (Pu.g fun hb => by have a7 := hb; first | exact M9 | (simp only [b5 a7, b3 a7, b3 hb, J2 a7]; exact M9) | (simp only [b5 a7, b3 a7, b3 hb, i4 a7, d6]; exact M9)) ?_
  refine b7 (Ld.g fun hb => by have a7 := hb; first | exact (ld1 Tryd.isAgg23 ((E1.bring 1).at1 (o := 1) (vs := [(vs x0.K5)]) (nb rfl) rfl)) | (simp only [b3 a7]; exact (ld1 Tryd.isAgg23 ((E1.bring 1).at1 (o := 1) (vs := [(vs x0.K5)]) (nb rfl) rfl))) | (simp only [b5 a7, b3 a7, b3 hb, i4 a7, d6]; exact (ld1 Tryd.isAgg23 ((E1.bring 1).at1 (o := 1) (vs := [(vs x0.K5)]) (nb rfl) rfl)))) ?_
  refine a8 (Pu.g fun hb => by have a7 := hb; first | exact M9 | (simp only [b5 a7, b3 a7, b3 hb, J2 a7]; exact M9) | (simp only [b5 a7, b3 a7, b3 hb, i4 a7, d6]; exact M9)) ?_
  refine b7 (Ld.g fun hb => by have a7 := hb; first | exact (ld1 Tryd.isAgg23 (E1.at1 (o := 1) (vs := [(vs x1.K5)]) (nb rfl) rfl)) | (simp only [b3 a7]; exact (ld1 Tryd.isAgg23 (E1.at1 (o := 1) (vs := [(vs x1.K5)]) (nb rfl) rfl))) | (simp only [b5 a7, b3 a7, b3 hb, i4 a7, d6]; exact (ld1 Tryd.isAgg23 (E1.at1 (o := 1) (vs := [(vs x1.K5)]) (nb rfl) rfl)))) ?_
  refine R3 (D := fun a4y o5 => ∃ (u6 : Bool) (C0 : Hp) , a4y = (gv (((!m7) || (!o4)) || (!decide ((x0.o7.n : Int) = (x1.o7.n : Int)))) false (Value.bool u6)) ∧ (Inv w0 ps0 H0 C0 [bx g_7 25 (b6 x1), bx g_2 25 (b6 x0)] o5) ∧ (∀ i, i < N5.heap.size → ¬ inF [] i → o5.heap[i]? = N5.heap[i]?) ∧ Hle C2 C0 ∧ ((((((!m7) || (!o4)) || (!decide ((x0.o7.n : Int) = (x1.o7.n : Int)))) || (!u6)) = true →
 K false C0) ∧
 (((((!m7) || (!o4)) || (!decide ((x0.o7.n : Int) = (x1.o7.n : Int)))) || (!u6)) = false →
 TL (0 : Int) C0 fun (s : Int) H n2 => E7 x1 x0 s H n2 K))) (fun b8B => ?_) (fun b8B => ?_) ?_
  ·replace h := h.1 b8B
   have a7 := b8B
   try simp only [b3 a7]
   refine d7 (cap := []) (fun args w => Tryd.call56 args w) ?_
   refine i6 (Fi := []) (Fr := [bx g_7 25 (b6 x1), bx g_2 25 (b6 x0)]) E1 (h) (fun a4y C0 c6C o5 L9 a7S a4g b2G => ?_) (fun _ _ _ _ _ q => q.elim)
   obtain ⟨u6, rfl, rfl, h⟩ := b2G
   exact ⟨u6, C0, by first | rfl | rw [b3 b8B], L9, a4g, a7S, h⟩
  ·exact ⟨false, C2, by first | rfl | rw [a0X b8B], E1, fun _ _ _ => rfl, Hle.refl _, h.2 b8B⟩
  ·clear h
   rintro a4y o5 ⟨u6, C0, rfl, L9, a4g, a7S, h⟩
   refine a8 (Pu.g fun hb => by have a7 := hb; first | exact (p7 _) | (simp only [b3 a7]; exact (p7 _)) | (simp only [b5 a7, b3 a7, b3 hb, i4 a7, d6]; exact (p7 _))) ?_
   refine a8 (U3 _ _) ?_
   refine m5 (fun b6b => ?_) (fun b6b => ?_)
   ·replace h := h.1 b6b
    exact hR false C0 _ L9.drop.drop h
   ·replace h := h.2 b6b
    have hj1 : ∀ (H : Hp) (w : World) (_ : Inv w0 ps0 H0 H [bx g_7 25 (b6 x1), bx g_2 25 (b6 x0)] w) (_ : T8 x1 x0 H K), b9P w R E := by
     intro H w I h
     unfold b9P
     intro _
     unfold T8 at h
     exact hR true H _ I.drop.drop h
    refine t7 fun j1 hx1 => ?_
    obtain ⟨d2N, c2z, f4F, f4G⟩ := h
    refine y9 (J := fun n l w => ∃ (s : Int) (H : Hp) , n = c2z s ∧ l = [(vi s)] ∧ Inv w0 ps0 H0 H [bx g_7 25 (b6 x1), bx g_2 25 (b6 x0)] w ∧ d2N s H) ⟨_, 0, C0, rfl, rfl, ((L9.bring 1).bring 1), f4F⟩ ?_
    rintro f9d τ_61 w next2 ⟨D5, H, rfl, e6v, I, f4H⟩ hn2
    simp only [List.map_cons, List.map_nil, List.cons.injEq, and_true] at e6v
    have e5 := e6v
    simp only [e5]
    obtain ⟨n2, hm2, h⟩ : ∃ n2 : Int → Hp → Prop, (∀ s' H', n2 s' H' → d2N s' H' ∧ c2z s' < c2z D5) ∧ E7 x1 x0 D5 H n2 K := ⟨_, fun _ _ h => h, f4G D5 H (fun s' H' => d2N s' H' ∧ c2z s' < c2z D5) f4H (fun _ _ a b => ⟨a, b⟩)⟩
    unfold c8f
    unfold E7 at h
    refine a8 J9 ?_
    refine b7 (ld1 Tryd.isAgg22 ((I.bring 1).at1 (o := 0) (vs := [(vs x0.o7)]) (nb rfl) rfl)) ?_
    refine a8 (X0 _ _ _) ?_
    refine a8 (C4 _ _ _ _ _ _) ?_
    refine h9 (fun d2O => ?_) (fun d2O => ?_)
    ·replace h := h.1 d2O
     refine a4O I fun A9 b4p => ?_
     refine o3 J9 ?_
     refine o3 J9 ?_
     refine E8 (ld1 Tryd.isAgg22 ((b4p.bring 1).at1 (o := 0) (vs := [(vs x0.o7)]) (nb rfl) rfl)) ?_
     obtain ⟨a6W, c2d, a7P, b2k, h⟩ := h
     obtain ⟨f3F, f3G, b5V, b2k⟩ := b2k
     refine o3 (a6R b5V _ _ _ _ a6W c2d) ?_
     refine E8 (ldA (vs := (k8 a7P)) Tryd.isAgg67 Tryd.sizeOf67 rfl (b4p.atH b2k)) ?_
     refine E8 (ld1 Tryd.isAgg22 (b4p.at1 (o := 0) (vs := [(vs x1.o7)]) (nb rfl) rfl)) ?_
     obtain ⟨d2M, b6j, b6r, b6k, h⟩ := h
     obtain ⟨f9e, f9f, b2z, b6k⟩ := b6k
     refine o3 (a6R b2z _ _ _ _ d2M b6j) ?_
     refine E8 (ldA (vs := (k8 b6r)) Tryd.isAgg67 Tryd.sizeOf67 rfl (b4p.atH b6k)) ?_
     refine o3 (b9I _ _ _ _ _ _) ?_
     refine a2L (fun d2P => ?_) (fun d2P => ?_)
     ·replace h := h.1 d2P
      exact hR false H _ b4p.drop.drop h
     ·replace h := h.2 d2P
      refine a8 (s6 _ _ _ _ _ _) ?_
      exact hn2 _ _ _ (hm2 _ _ h).2 ⟨(IntKind.wrap .i64 (D5 + 1)), H, rfl, rfl, ((b4p.bring 1).bring 1), (hm2 _ _ h).1⟩
    ·replace h := h.2 d2O
     exact hx1 _ _ (hj1 H _ ((I.bring 1).bring 1) h)
theorem a8k (x0 : f6) (x1 : f6) {H : Hp} {K : Bool → Hp → Prop} (h : X5 x0 x1 H K) : a1o x0 x1 H K := by
 intro w I
 refine d7G ?_
 refine a7V x0 x1 I (fun r0 H' w' I' hk => ⟨H', _, I', r0, rfl, rfl, hk⟩) h
def L0 (b2v : Bool) (d3L : Int) (b5a : Bool) (cr_6j1 : t8) (_cr_1j1 : L2) (H : Hp) (K : Bool → Hp → Prop) : Prop :=
 (b5a = true →
 K (b2v && (decide (cr_6j1.fexprs = 0 ∧ cr_6j1.fconds = 1))) H) ∧
 (b5a = false →
 (d3L = 7 →
 K (b2v && (decide (cr_6j1.fexprs = 0 ∧ cr_6j1.fconds = 0))) H) ∧
 (¬ (d3L = 7) →
 K false H))
def a0g (x0 : L2) (H : Hp) (K : Bool → Hp → Prop) : Prop :=
 (x0.c9.d4 = 1 →
 K ((!(decide (0 < (IntKind.wrap .i64 ((x0.c9.r9.n : Int) + (x0.c9.o6.n : Int)))))) && (decide ((x0.c9.c7.n : Int) = 1 ∧ (x0.c9.f5.n : Int) = 0))) H) ∧
 (¬ (x0.c9.d4 = 1) →
 (x0.c9.d4 = 2 →
 K ((!(decide (0 < (IntKind.wrap .i64 ((x0.c9.r9.n : Int) + (x0.c9.o6.n : Int)))))) && (decide ((x0.c9.c7.n : Int) = 2 ∧ (x0.c9.f5.n : Int) = 0))) H) ∧
 (¬ (x0.c9.d4 = 2) →
 (x0.c9.d4 = 3 →
 K ((decide (x0.c9.d8 = ⟨#[]⟩)) && (decide ((x0.c9.c7.n : Int) = 0 ∧ (x0.c9.f5.n : Int) = 1))) H) ∧
 (¬ (x0.c9.d4 = 3) →
 (x0.c9.d4 = 4 →
 K (((decide (x0.c9.d8 = ⟨#[]⟩)) && (decide ((x0.c9.o6.n : Int) = 0))) && (decide ((x0.c9.c7.n : Int) = 0 ∧ (x0.c9.f5.n : Int) = 1))) H) ∧
 (¬ (x0.c9.d4 = 4) →
 (x0.c9.d4 = 5 →
 L0 ((decide (x0.c9.d8 = ⟨#[]⟩)) && (!(decide (0 < (IntKind.wrap .i64 ((x0.c9.r9.n : Int) + (x0.c9.o6.n : Int))))))) x0.c9.d4 (decide (x0.c9.d4 = 5)) (t8.mk (x0.c9.c7.n : Int) (x0.c9.f5.n : Int)) x0 H K) ∧
 (¬ (x0.c9.d4 = 5) →
 L0 ((decide (x0.c9.d8 = ⟨#[]⟩)) && (!(decide (0 < (IntKind.wrap .i64 ((x0.c9.r9.n : Int) + (x0.c9.o6.n : Int))))))) x0.c9.d4 (decide (x0.c9.d4 = 6)) (t8.mk (x0.c9.c7.n : Int) (x0.c9.f5.n : Int)) x0 H K)))))
theorem a9t (x0 : L2) {w0 w : World} {ps0 : Nat → Prop} {H0 H : Hp} {K : Bool → Hp → Prop} {R : Value → World → Prop} {E : Pan} (I : Inv w0 ps0 H0 H [] w) (hR : ∀ (r0 : Bool) (H' : Hp) (w' : World) (_ : Inv w0 ps0 H0 H' [] w') (_ : K r0 H'), R (Value.bool r0) w') (h : a0g x0 H K) : c5q (Value.agg (b8 x0.c9).toArray) w R E := by
 unfold a0g at h
 unfold c5q
 refine D8 I (cs := (b8 x0.c9)) rfl fun g_2 w_3 I_4 k_5 => ?_
 refine a8 D7 ?_
 refine a8 K2 ?_
 refine b7 (ld1 Tryd.isAgg23 (I_4.at1 (o := 4) (vs := [(vs x0.c9.r9)]) (nb rfl) rfl)) ?_
 refine a8 (M6 _ _ _) ?_
 refine a8 D7 ?_
 refine a8 F6 ?_
 refine b7 (ld1 Tryd.isAgg23 (I_4.at1 (o := 5) (vs := [(vs x0.c9.o6)]) (nb rfl) rfl)) ?_
 refine a8 (M6 _ _ _) ?_
 refine a8 (s6 _ _ _ _ _ _) ?_
 refine a8 (b0P _ _ _ _ _ _) ?_
 refine a8 D7 ?_
 refine a8 F4 ?_
 refine b7 (ld1 Tryd.isAgg28 (I_4.at1 (o := 2) (vs := [(vs x0.c9.c7)]) (nb rfl) rfl)) ?_
 refine a8 (q7 _ _ _) ?_
 refine a8 D7 ?_
 refine a8 F5 ?_
 refine b7 (ld1 Tryd.isAgg31 (I_4.at1 (o := 3) (vs := [(vs x0.c9.f5)]) (nb rfl) rfl)) ?_
 refine a8 (C8 _ _ _) ?_
 refine a8 (D3 _ _) ?_
 refine C1 I_4 Tryd.zeroValue213 (cs := [(vi 0), (vi 0)]) rfl fun g_7 w_8 I_9 a7H => ?_
 refine o8 I_9 Tryd.sizeOf213 (vs := [(vi (x0.c9.c7.n : Int)), (vi (x0.c9.f5.n : Int))]) (cs' := [(vi (x0.c9.c7.n : Int)), (vi (x0.c9.f5.n : Int))]) rfl rfl (nb rfl) rfl rfl fun a1m C3 b8k => ?_
 refine a8 D7 ?_
 refine a8 L4 ?_
 refine b7 (ld1 Tryd.isAgg9 ((C3.bring 1).at1 (o := 1) (vs := [(Value.string x0.c9.d8)]) (nb rfl) rfl)) ?_
 refine a8 (T0 _ _ _ _ _) ?_
 try simp only [J1]
 refine a8 (Pu.g fun hb => by have a7 := hb; first | exact (p7 _) | (simp only [b3 a7]; exact (p7 _)) | (simp only [b5 a7, b3 a7, b3 hb, d9 a7, d6]; exact (p7 _))) ?_
 refine a8 (u5 _ _) ?_
 refine a8 D7 ?_
 refine a8 a0E ?_
 refine b7 (ld1 Tryd.isAgg3 ((C3.bring 1).at1 (o := 0) (vs := [(vi x0.c9.d4)]) (nb rfl) rfl)) ?_
 refine a8 (f7 _ _ _ _ _ _) ?_
 refine h9 (fun a9c => ?_) (fun a9c => ?_)
 ·replace h := h.1 a9c
  refine a8 (p7 _) ?_
  refine b7 (Ld.g fun hb => by have a7 := hb; first | exact (ldA Tryd.isAgg213 Tryd.sizeOf213 rfl (C3.at1 (o := 0) (vs := [(vi (x0.c9.c7.n : Int)), (vi (x0.c9.f5.n : Int))]) (nb rfl) rfl)) | (simp only [b5 a7, b3 a7, b3 hb, q8 a7]; exact (ldA Tryd.isAgg213 Tryd.sizeOf213 rfl (C3.at1 (o := 0) (vs := [(vi (x0.c9.c7.n : Int)), (vi (x0.c9.f5.n : Int))]) (nb rfl) rfl))) | (simp only [b5 a7, b3 a7, b3 hb, d9 a7, d6]; exact (ldA Tryd.isAgg213 Tryd.sizeOf213 rfl (C3.at1 (o := 0) (vs := [(vi (x0.c9.c7.n : Int)), (vi (x0.c9.f5.n : Int))]) (nb rfl) rfl)))) ?_
  refine a8 (Pu.g fun hb => by have a7 := hb; first | exact (D3 _ _) | (simp only [b5 a7, b3 a7, b3 hb, q8 a7]; exact (D3 _ _)) | (simp only [b5 a7, b3 a7, b3 hb, d9 a7, d6]; exact (D3 _ _))) ?_
  refine a8 (Pu.g fun hb => by have a7 := hb; first | exact (M7 _ _ _ _ _ _) | (simp only [b3 a7]; exact (M7 _ _ _ _ _ _)) | (simp only [b5 a7, b3 a7, b3 hb, d9 a7, d6]; exact (M7 _ _ _ _ _ _))) ?_
  refine a8 (u5 _ _) ?_
  exact hR ((!(decide (0 < (IntKind.wrap .i64 ((x0.c9.r9.n : Int) + (x0.c9.o6.n : Int)))))) && (decide ((x0.c9.c7.n : Int) = 1 ∧ (x0.c9.f5.n : Int) = 0))) H _ C3.drop.drop h
 ·replace h := h.2 a9c
  refine a8 (f7 _ _ _ _ _ _) ?_
  refine h9 (fun a9d => ?_) (fun a9d => ?_)
  ·replace h := h.1 a9d
   refine a8 (p7 _) ?_
   refine b7 (Ld.g fun hb => by have a7 := hb; first | exact (ldA Tryd.isAgg213 Tryd.sizeOf213 rfl (C3.at1 (o := 0) (vs := [(vi (x0.c9.c7.n : Int)), (vi (x0.c9.f5.n : Int))]) (nb rfl) rfl)) | (simp only [b5 a7, b3 a7, b3 hb, q8 a7]; exact (ldA Tryd.isAgg213 Tryd.sizeOf213 rfl (C3.at1 (o := 0) (vs := [(vi (x0.c9.c7.n : Int)), (vi (x0.c9.f5.n : Int))]) (nb rfl) rfl))) | (simp only [b5 a7, b3 a7, b3 hb, d9 a7, d6]; exact (ldA Tryd.isAgg213 Tryd.sizeOf213 rfl (C3.at1 (o := 0) (vs := [(vi (x0.c9.c7.n : Int)), (vi (x0.c9.f5.n : Int))]) (nb rfl) rfl)))) ?_
   refine a8 (Pu.g fun hb => by have a7 := hb; first | exact (D3 _ _) | (simp only [b5 a7, b3 a7, b3 hb, q8 a7]; exact (D3 _ _)) | (simp only [b5 a7, b3 a7, b3 hb, d9 a7, d6]; exact (D3 _ _))) ?_
   refine a8 (Pu.g fun hb => by have a7 := hb; first | exact (M7 _ _ _ _ _ _) | (simp only [b3 a7]; exact (M7 _ _ _ _ _ _)) | (simp only [b5 a7, b3 a7, b3 hb, d9 a7, d6]; exact (M7 _ _ _ _ _ _))) ?_
   refine a8 (u5 _ _) ?_
   exact hR ((!(decide (0 < (IntKind.wrap .i64 ((x0.c9.r9.n : Int) + (x0.c9.o6.n : Int)))))) && (decide ((x0.c9.c7.n : Int) = 2 ∧ (x0.c9.f5.n : Int) = 0))) H _ C3.drop.drop h
  ·replace h := h.2 a9d
   refine a8 (f7 _ _ _ _ _ _) ?_
   refine h9 (fun a5f => ?_) (fun a5f => ?_)
   ·replace h := h.1 a5f
    refine a8 D7 ?_
    refine a8 L4 ?_
    refine b7 (ld1 Tryd.isAgg9 ((C3.bring 1).at1 (o := 1) (vs := [(Value.string x0.c9.d8)]) (nb rfl) rfl)) ?_
    refine a8 (T0 _ _ _ _ _) ?_
    refine b7 (Ld.g fun hb => by have a7 := hb; first | exact (ldA Tryd.isAgg213 Tryd.sizeOf213 rfl (C3.at1 (o := 0) (vs := [(vi (x0.c9.c7.n : Int)), (vi (x0.c9.f5.n : Int))]) (nb rfl) rfl)) | (simp only [b5 a7, b3 a7, b3 hb, q8 a7]; exact (ldA Tryd.isAgg213 Tryd.sizeOf213 rfl (C3.at1 (o := 0) (vs := [(vi (x0.c9.c7.n : Int)), (vi (x0.c9.f5.n : Int))]) (nb rfl) rfl))) | (simp only [b5 a7, b3 a7, b3 hb, d9 a7, d6]; exact (ldA Tryd.isAgg213 Tryd.sizeOf213 rfl (C3.at1 (o := 0) (vs := [(vi (x0.c9.c7.n : Int)), (vi (x0.c9.f5.n : Int))]) (nb rfl) rfl)))) ?_
    refine a8 (Pu.g fun hb => by have a7 := hb; first | exact (D3 _ _) | (simp only [b5 a7, b3 a7, b3 hb, q8 a7]; exact (D3 _ _)) | (simp only [b5 a7, b3 a7, b3 hb, d9 a7, d6]; exact (D3 _ _))) ?_
    refine a8 (Pu.g fun hb => by have a7 := hb; first | exact (M7 _ _ _ _ _ _) | (simp only [b3 a7]; exact (M7 _ _ _ _ _ _)) | (simp only [b5 a7, b3 a7, b3 hb, d9 a7, d6]; exact (M7 _ _ _ _ _ _))) ?_
    refine a8 (u5 _ _) ?_
    exact hR ((decide (x0.c9.d8 = ⟨#[]⟩)) && (decide ((x0.c9.c7.n : Int) = 0 ∧ (x0.c9.f5.n : Int) = 1))) H _ C3.drop.drop h
   ·replace h := h.2 a5f
    refine a8 (f7 _ _ _ _ _ _) ?_
    refine h9 (fun a5e => ?_) (fun a5e => ?_)
    ·replace h := h.1 a5e
     refine a8 D7 ?_
     refine a8 L4 ?_
     refine b7 (ld1 Tryd.isAgg9 ((C3.bring 1).at1 (o := 1) (vs := [(Value.string x0.c9.d8)]) (nb rfl) rfl)) ?_
     refine a8 (T0 _ _ _ _ _) ?_
     refine a8 (Pu.g fun hb => by have a7 := hb; first | exact D7 | (simp only [b5 a7, b3 a7, b3 hb, q8 a7]; exact D7) | (simp only [b5 a7, b3 a7, b3 hb, d9 a7, d6]; exact D7)) ?_
     refine a8 (Pu.g fun hb => by have a7 := hb; first | exact F6 | (simp only [b3 a7]; exact F6) | (simp only [b5 a7, b3 a7, b3 hb, d9 a7, d6]; exact F6)) ?_
     refine b7 (Ld.g fun hb => by have a7 := hb; first | exact (ld1 Tryd.isAgg23 ((C3.bring 1).at1 (o := 5) (vs := [(vs x0.c9.o6)]) (nb rfl) rfl)) | (simp only [b3 a7]; exact (ld1 Tryd.isAgg23 ((C3.bring 1).at1 (o := 5) (vs := [(vs x0.c9.o6)]) (nb rfl) rfl))) | (simp only [b5 a7, b3 a7, b3 hb, d9 a7, d6]; exact (ld1 Tryd.isAgg23 ((C3.bring 1).at1 (o := 5) (vs := [(vs x0.c9.o6)]) (nb rfl) rfl)))) ?_
     refine a8 (Pu.g fun hb => by have a7 := hb; first | exact (M6 _ _ _) | (simp only [b3 a7]; exact (M6 _ _ _)) | (simp only [b5 a7, b3 a7, b3 hb, d9 a7, d6]; exact (M6 _ _ _))) ?_
     refine a8 (Pu.g fun hb => by have a7 := hb; first | exact (f7 _ _ _ _ _ _) | (simp only [b3 a7]; exact (f7 _ _ _ _ _ _)) | (simp only [b5 a7, b3 a7, b3 hb, d9 a7, d6]; exact (f7 _ _ _ _ _ _))) ?_
     refine a8 (u5 _ _) ?_
     refine b7 (Ld.g fun hb => by have a7 := hb; first | exact (ldA Tryd.isAgg213 Tryd.sizeOf213 rfl (C3.at1 (o := 0) (vs := [(vi (x0.c9.c7.n : Int)), (vi (x0.c9.f5.n : Int))]) (nb rfl) rfl)) | (simp only [b5 a7, b3 a7, b3 hb, q8 a7]; exact (ldA Tryd.isAgg213 Tryd.sizeOf213 rfl (C3.at1 (o := 0) (vs := [(vi (x0.c9.c7.n : Int)), (vi (x0.c9.f5.n : Int))]) (nb rfl) rfl))) | (simp only [b5 a7, b3 a7, b3 hb, d9 a7, d6]; exact (ldA Tryd.isAgg213 Tryd.sizeOf213 rfl (C3.at1 (o := 0) (vs := [(vi (x0.c9.c7.n : Int)), (vi (x0.c9.f5.n : Int))]) (nb rfl) rfl)))) ?_
     refine a8 (Pu.g fun hb => by have a7 := hb; first | exact (D3 _ _) | (simp only [b5 a7, b3 a7, b3 hb, q8 a7]; exact (D3 _ _)) | (simp only [b5 a7, b3 a7, b3 hb, d9 a7, d6]; exact (D3 _ _))) ?_
     refine a8 (Pu.g fun hb => by have a7 := hb; first | exact (M7 _ _ _ _ _ _) | (simp only [b3 a7]; exact (M7 _ _ _ _ _ _)) | (simp only [b5 a7, b3 a7, b3 hb, d9 a7, d6]; exact (M7 _ _ _ _ _ _))) ?_
     refine a8 (u5 _ _) ?_
     exact hR (((decide (x0.c9.d8 = ⟨#[]⟩)) && (decide ((x0.c9.o6.n : Int) = 0))) && (decide ((x0.c9.c7.n : Int) = 0 ∧ (x0.c9.f5.n : Int) = 1))) H _ C3.drop.drop h
    ·replace h := h.2 a5e
     have hj1 : ∀ (b5a : Bool) (H : Hp) (w : World) (_ : Inv w0 ps0 H0 H [bx g_7 213 [(vi (t8.mk (x0.c9.c7.n : Int) (x0.c9.f5.n : Int)).fexprs), (vi (t8.mk (x0.c9.c7.n : Int) (x0.c9.f5.n : Int)).fconds)], bx g_2 177 (b8 x0.c9)] w) (_ : L0 ((decide (x0.c9.d8 = ⟨#[]⟩)) && (!(decide (0 < (IntKind.wrap .i64 ((x0.c9.r9.n : Int) + (x0.c9.o6.n : Int))))))) x0.c9.d4 b5a (t8.mk (x0.c9.c7.n : Int) (x0.c9.f5.n : Int)) x0 H K), b8g (Value.pointer (some ⟨g_7, 0, none⟩)) (Value.bool ((decide (x0.c9.d8 = ⟨#[]⟩)) && (!(decide (0 < (IntKind.wrap .i64 ((x0.c9.r9.n : Int) + (x0.c9.o6.n : Int)))))))) (vi x0.c9.d4) (Value.bool b5a) w R E := by
      intro b5a H w I h
      unfold b8g
      intro _
      unfold L0 at h
      refine m5 (fun a3h => ?_) (fun a3h => ?_)
      ·replace h := h.1 a3h
       refine b7 (Ld.g fun hb => by have a7 := hb; first | exact (ldA Tryd.isAgg213 Tryd.sizeOf213 rfl (I.at1 (o := 0) (vs := [(vi (t8.mk (x0.c9.c7.n : Int) (x0.c9.f5.n : Int)).fexprs), (vi (t8.mk (x0.c9.c7.n : Int) (x0.c9.f5.n : Int)).fconds)]) (nb rfl) rfl)) | (simp only [b5 a7, b3 a7, b3 hb, q8 a7]; exact (ldA Tryd.isAgg213 Tryd.sizeOf213 rfl (I.at1 (o := 0) (vs := [(vi (t8.mk (x0.c9.c7.n : Int) (x0.c9.f5.n : Int)).fexprs), (vi (t8.mk (x0.c9.c7.n : Int) (x0.c9.f5.n : Int)).fconds)]) (nb rfl) rfl))) | (simp only [b5 a7, b3 a7, b3 hb, d9 a7, d6]; exact (ldA Tryd.isAgg213 Tryd.sizeOf213 rfl (I.at1 (o := 0) (vs := [(vi (t8.mk (x0.c9.c7.n : Int) (x0.c9.f5.n : Int)).fexprs), (vi (t8.mk (x0.c9.c7.n : Int) (x0.c9.f5.n : Int)).fconds)]) (nb rfl) rfl)))) ?_
       refine a8 (Pu.g fun hb => by have a7 := hb; first | exact (D3 _ _) | (simp only [b5 a7, b3 a7, b3 hb, q8 a7]; exact (D3 _ _)) | (simp only [b5 a7, b3 a7, b3 hb, d9 a7, d6]; exact (D3 _ _))) ?_
       refine a8 (Pu.g fun hb => by have a7 := hb; first | exact (M7 _ _ _ _ _ _) | (simp only [b3 a7]; exact (M7 _ _ _ _ _ _)) | (simp only [b5 a7, b3 a7, b3 hb, d9 a7, d6]; exact (M7 _ _ _ _ _ _))) ?_
       refine a8 (u5 _ _) ?_
       exact hR (((decide (x0.c9.d8 = ⟨#[]⟩)) && (!(decide (0 < (IntKind.wrap .i64 ((x0.c9.r9.n : Int) + (x0.c9.o6.n : Int))))))) && (decide ((t8.mk (x0.c9.c7.n : Int) (x0.c9.f5.n : Int)).fexprs = 0 ∧ (t8.mk (x0.c9.c7.n : Int) (x0.c9.f5.n : Int)).fconds = 1))) H _ I.drop.drop h
      ·replace h := h.2 a3h
       refine a8 (f7 _ _ _ _ _ _) ?_
       refine h9 (fun a9f => ?_) (fun a9f => ?_)
       ·replace h := h.1 a9f
        refine b7 (Ld.g fun hb => by have a7 := hb; first | exact (ldA Tryd.isAgg213 Tryd.sizeOf213 rfl (I.at1 (o := 0) (vs := [(vi (t8.mk (x0.c9.c7.n : Int) (x0.c9.f5.n : Int)).fexprs), (vi (t8.mk (x0.c9.c7.n : Int) (x0.c9.f5.n : Int)).fconds)]) (nb rfl) rfl)) | (simp only [b5 a7, b3 a7, b3 hb, q8 a7]; exact (ldA Tryd.isAgg213 Tryd.sizeOf213 rfl (I.at1 (o := 0) (vs := [(vi (t8.mk (x0.c9.c7.n : Int) (x0.c9.f5.n : Int)).fexprs), (vi (t8.mk (x0.c9.c7.n : Int) (x0.c9.f5.n : Int)).fconds)]) (nb rfl) rfl))) | (simp only [b5 a7, b3 a7, b3 hb, d9 a7, d6]; exact (ldA Tryd.isAgg213 Tryd.sizeOf213 rfl (I.at1 (o := 0) (vs := [(vi (t8.mk (x0.c9.c7.n : Int) (x0.c9.f5.n : Int)).fexprs), (vi (t8.mk (x0.c9.c7.n : Int) (x0.c9.f5.n : Int)).fconds)]) (nb rfl) rfl)))) ?_
        refine a8 (Pu.g fun hb => by have a7 := hb; first | exact (b1I ) | (simp only [b5 a7, b3 a7, b3 hb, q8 a7]; exact (b1I )) | (simp only [b5 a7, b3 a7, b3 hb, d9 a7, d6]; exact (b1I ))) ?_
        refine a8 (Pu.g fun hb => by have a7 := hb; first | exact (M7 _ _ _ _ _ _) | (simp only [b3 a7]; exact (M7 _ _ _ _ _ _)) | (simp only [b5 a7, b3 a7, b3 hb, d9 a7, d6]; exact (M7 _ _ _ _ _ _))) ?_
        refine a8 (u5 _ _) ?_
        exact hR (((decide (x0.c9.d8 = ⟨#[]⟩)) && (!(decide (0 < (IntKind.wrap .i64 ((x0.c9.r9.n : Int) + (x0.c9.o6.n : Int))))))) && (decide ((t8.mk (x0.c9.c7.n : Int) (x0.c9.f5.n : Int)).fexprs = 0 ∧ (t8.mk (x0.c9.c7.n : Int) (x0.c9.f5.n : Int)).fconds = 0))) H _ I.drop.drop h
       ·replace h := h.2 a9f
        exact hR false H _ I.drop.drop h
     refine t7 fun j1 hx1 => ?_
     refine a8 (f7 _ _ _ _ _ _) ?_
     refine h9 (fun a9e => ?_) (fun a9e => ?_)
     ·replace h := h.1 a9e
      exact hx1 _ _ (hj1 (decide (x0.c9.d4 = 5)) H _ ((C3.bring 1).bring 1) h)
     ·replace h := h.2 a9e
      refine a8 (f7 _ _ _ _ _ _) ?_
      exact hx1 _ _ (hj1 (decide (x0.c9.d4 = 6)) H _ ((C3.bring 1).bring 1) h)
theorem a9L (x0 : L2) {H : Hp} {K : Bool → Hp → Prop} (h : a0g x0 H K) : a1X x0 H K := by
 intro w I
 refine d6O ?_
 refine a9t x0 I (fun r0 H' w' I' hk => ⟨H', _, I', r0, rfl, rfl, hk⟩) h
def Y7 (x0 : L2) (H : Hp) (K : Sl → Hp → Prop) : Prop :=
 z2 x0.c9.f5 H (fun (a6p : Sl) (H_8 : Hp) =>
 r5 x0.c9.c7 H_8 (fun (a6q : Sl) (b4e : Hp) =>
 q9 x0.c9.r9 b4e (fun (c6O : Sl) (e6w : Hp) =>
 q9 x0.c9.o6 e6w (fun (c6P : Sl) (b2f : Hp) =>
 ∀ (b4i : Sl) (c2A : Hp), Hle b2f c2A → SlH c2A 1 csl b4i [a6p, a6q, c6O, c6P] → b4i.n ≤ b4i.c →
 y7 b4i c2A (fun (a3R : Sl) (b0I : Hp) =>
 K a3R b0I)))))
theorem a8l (x0 : L2) {w0 w : World} {ps0 : Nat → Prop} {H0 H : Hp} {K : Sl → Hp → Prop} {R : Value → World → Prop} {E : Pan} (I : Inv w0 ps0 H0 H [] w) (hR : ∀ (r0 : Sl) (H' : Hp) (w' : World) (_ : Inv w0 ps0 H0 H' [] w') (_ : K r0 H'), R (vs r0) w') (h : Y7 x0 H K) : c5r (Value.agg (b8 x0.c9).toArray) w R E := by
 unfold Y7 at h
 unfold c5r
 refine D8 I (cs := (b8 x0.c9)) rfl fun g_2 w_3 I_4 k_5 => ?_
 refine a4O I_4 fun w_6 I_7 => ?_
 refine o3 D7 ?_
 refine o3 F5 ?_
 refine o3 D7 ?_
 refine o3 F4 ?_
 refine o3 D7 ?_
 refine o3 K2 ?_
 refine o3 D7 ?_
 refine o3 F6 ?_
 refine E8 (ld1 Tryd.isAgg31 (I_7.at1 (o := 3) (vs := [(vs x0.c9.f5)]) (nb rfl) rfl)) ?_
 refine E8 (ld1 Tryd.isAgg28 (I_7.at1 (o := 2) (vs := [(vs x0.c9.c7)]) (nb rfl) rfl)) ?_
 refine E8 (ld1 Tryd.isAgg23 (I_7.at1 (o := 4) (vs := [(vs x0.c9.r9)]) (nb rfl) rfl)) ?_
 refine E8 (ld1 Tryd.isAgg23 (I_7.at1 (o := 5) (vs := [(vs x0.c9.o6)]) (nb rfl) rfl)) ?_
 refine d7 (cap := []) (fun args w => Tryd.call154 args w) ?_
 refine i6 (Fi := []) (Fr := [bx g_2 177 (b8 x0.c9)]) I_7 (h) (fun e5N H_8 e5O w_9 b2c b8m b5O c1M => ?_) (fun _ _ _ _ _ q => q.elim)
 obtain ⟨a6p, rfl, rfl, h⟩ := c1M
 refine ⟨(b5O _ I_7.lt1 (Inv.a5M (Fi := []) I_7)), (b5O _ I_7.lt1 (Inv.a5M (Fi := []) I_7)), (b5O _ I_7.lt1 (Inv.a5M (Fi := []) I_7)), ?_⟩
 refine d7 (cap := []) (fun args w => Tryd.call150 args w) ?_
 refine i6 (Fi := []) (Fr := [bx g_2 177 (b8 x0.c9)]) b2c (h) (fun e5P b4e e5Q p9 b2d e5R c1N c1O => ?_) (fun _ _ _ _ _ q => q.elim)
 obtain ⟨a6q, rfl, rfl, h⟩ := c1O
 refine ⟨(c1N _ b2c.lt1 (Inv.a5M (Fi := []) b2c)), (c1N _ b2c.lt1 (Inv.a5M (Fi := []) b2c)), ?_⟩
 refine d7 (cap := []) (fun args w => Tryd.call97 args w) ?_
 refine i6 (Fi := []) (Fr := [bx g_2 177 (b8 x0.c9)]) b2d (h) (fun f9g e6w f9h a6c b0z f9i d1k f4I => ?_) (fun _ _ _ _ _ q => q.elim)
 obtain ⟨c6O, rfl, rfl, h⟩ := f4I
 refine ⟨(d1k _ b2d.lt1 (Inv.a5M (Fi := []) b2d)), ?_⟩
 refine d7 (cap := []) (fun args w => Tryd.call97 args w) ?_
 refine i6 (Fi := []) (Fr := [bx g_2 177 (b8 x0.c9)]) b0z (h) (fun f9j b2f f9k A7 f4J f9l f9m f4K => ?_) (fun _ _ _ _ _ q => q.elim)
 obtain ⟨c6P, rfl, rfl, h⟩ := f4K
 refine a6N (e := 97) (c := csl) (xs := [a6p, a6q, c6O, c6P]) f4J (d0B _ _ _ _ _ _ _ _ _ _ _ _) rfl rfl b9i b9j (nb rfl) fun b4i f9n b3F f4L b2l d1F => ?_
 obtain ⟨c2A, b5G, f4M, a9o, f4N⟩ := Inv.freezeC b2l f4L (by decide)
 replace h := h b4i c2A f4M a9o f4N
 refine d7 (cap := []) (fun args w => Tryd.call94 args w) ?_
 refine i6 (Fi := []) (Fr := [bx g_2 177 (b8 x0.c9)]) b5G (h) (fun f4O b0I f4P b0r b2M c2c e6x d2Q => ?_) (fun _ _ _ _ _ q => q.elim)
 obtain ⟨a3R, rfl, rfl, h⟩ := d2Q
 exact hR a3R b0I _ b2M.drop h
theorem a9u (x0 : L2) {H : Hp} {K : Sl → Hp → Prop} (h : Y7 x0 H K) : a4d x0 H K := by
 intro w I
 refine d6Q ?_
 refine a8l x0 I (fun r0 H' w' I' hk => ⟨H', _, I', r0, rfl, rfl, hk⟩) h
end Go.Proofs.YthldnpmfelniiaaDoor
