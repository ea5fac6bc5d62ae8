/- Typed formulas of the program's functions, and the theorems that the contracts follow from them; printed by lift.py off the code. -/
import Derived.Test.YthldnpmfelniiaaDoorzVV1
namespace Go.Proofs.YthldnpmfelniiaaDoor
open Go.RowKit
set_option maxRecDepth 100000
set_option maxHeartbeats 2000000
def o3 (N0 : (List a8)) (H : Hp) (K : Sl → Hp → Prop) : Prop :=
 ∀ (z2 : Sl) (P0 : Hp), Hle H P0 → SlH P0 1 h8 z2 N0 → z2.n ≤ z2.c →
 K z2 P0
def o4 (R7 : Sl) (P1 : Int) (m0 : (List a8)) (j7 : Int) (H : Hp) (n2 : ((List a8) × Int) → Hp → Prop) (K : Sl → Hp → Prop) : Prop :=
 (j7 < P1 →
 (0 : Int) ≤ j7 ∧ (j7 : Int) < R7.n ∧ ∃ x_1 : f7, EltH H R7 j7 2 (c7 x_1) ∧
 a2i x_1 H (fun (G6 : a8) (X8 : Hp) =>
 (m0.length + ([G6] : List a8).length) * 17 ≤ 140737488355328 ∧
 n2 ((m0 ++ [G6]), (IntKind.wrap .i64 (j7 + 1))) X8)) ∧
 (¬ (j7 < P1) →
 o3 m0 H K)
def q6 (x0 : Sl) (H : Hp) (K : Sl → Hp → Prop) : Prop :=
 TL (([], 0) : (List a8) × Int) H fun (s : (List a8) × Int) H n2 => o4 x0 (x0.n : Int) s.1 s.2 H n2 K
theorem O7 (x0 : Sl) {w0 w : World} {ps0 : Nat → Prop} {H0 H : Hp} {K : Sl → Hp → Prop} {R : Value → World → Prop} {E : Pan} (I : Inv w0 ps0 H0 H [] w) (hR : ∀ (r0 : Sl) (H' : Hp) (w' : World) (_ : Inv w0 ps0 H0 H' [] w') (_ : K r0 H'), R (vs r0) w') (h : q6 x0 H K) : F95 (vs x0) (Value.func (.func 96) #[] #[]) w R E := by
 unfold q6 at h
 unfold F95
 have hj1 : ∀ (N0 : (List a8)) (z2 : Sl) (Fs5j1 : Frag) (H : Hp) (w : World) (_ : RowL 141 1 h8 z2 N0 Fs5j1) (_ : Inv w0 ps0 H0 H [Fs5j1] w) (_ : o3 N0 H K), b3D (vs z2) w R E := by
  intro N0 z2 Fs5j1 H w a6q I h
  unfold b3D
  intro _
  unfold o3 at h
  obtain ⟨P0, a4p, a7G, a4q, a3u⟩ := Inv.freezeC I a6q (by decide)
  replace h := h z2 P0 a7G a4q a3u
  exact hR z2 P0 _ a4p h
 refine u4 fun j1 hx1 => ?_
 refine a6 (a3h _ _ _) ?_
 obtain ⟨a1H, T9, a9e, a9f⟩ := h
 refine F7 (J := fun n l w => ∃ (s : (List a8) × Int) (H : Hp) (N1 : Sl) (Fs5l2 : Frag) , n = T9 s ∧ l = (match s with | (m0, j7) => [(vs N1), (vi j7)]) ∧ (match s with | (m0, j7) => RowL 141 1 h8 N1 m0 Fs5l2) ∧ (match s with | (m0, j7) => Inv w0 ps0 H0 H [Fs5l2] w) ∧ a1H s H) ⟨_, ([], 0), H, (Sl.mk none 0 0), [], rfl, rfl, (RowL.nil D5 F8), I.nil, a9e⟩ ?_
 rintro c1s τ_50 w next2 ⟨⟨m0, j7⟩, H, N1, Fs5l2, rfl, a1I, Z3, I, a9g⟩ hn2
 dsimp only at a1I I Z3
 simp only [List.map_cons, List.map_nil, List.cons.injEq, and_true] at a1I
 obtain ⟨e5, e10⟩ := a1I
 simp only [e5, e10]
 obtain ⟨n2, hm2, h⟩ : ∃ n2 : ((List a8) × Int) → Hp → Prop, (∀ s' H', n2 s' H' → a1H s' H' ∧ T9 s' < T9 (m0, j7)) ∧ o4 x0 (x0.n : Int) m0 j7 H n2 K := ⟨_, fun _ _ h => h, a9f (m0, j7) H (fun s' H' => a1H s' H' ∧ T9 s' < T9 (m0, j7)) a9g (fun _ _ a b => ⟨a, b⟩)⟩
 unfold b9a
 unfold o4 at h
 refine a6 (D1 _ _ _ _ _ _) ?_
 refine d8 (fun Z4 => ?_) (fun Z4 => ?_)
 ·replace h := h.1 Z4
  obtain ⟨h_4, h_5, x_1, h_7, h⟩ := h
  obtain ⟨g_2, o_3, h_6, h_7⟩ := h_7
  refine a6 (a2z h_6 _ _ _ _ h_4 h_5) ?_
  refine b9 (ldA (vs := (c7 x_1)) Tryd.isAgg67 Tryd.sizeOf67 rfl (I.atH h_7)) ?_
  refine F6 I Tryd.zeroValue67 (cs := [(Value.string ⟨#[]⟩), (vi 0)]) rfl fun g_9 l9 a2D b4h => ?_
  refine t6 a2D Tryd.sizeOf67 (vs := (c7 x_1)) (cs' := (c7 x_1)) rfl rfl (nb rfl) rfl rfl fun a0z a4r c1t => ?_
  refine b9 (ldA Tryd.isAgg67 Tryd.sizeOf67 rfl (a4r.at1 (o := 0) (vs := (c7 x_1)) (nb rfl) rfl)) ?_
  refine d6 (cap := []) (fun args w => Tryd.call96 args w) ?_
  refine i7 (Fi := []) (Fr := [bx g_9 67 (c7 x_1), Fs5l2]) a4r (h) (fun b7b X8 b7c a1h a0N b7d b7e a6r => ?_) (fun _ _ _ _ _ q => q.elim)
  obtain ⟨G6, rfl, rfl, h⟩ := a6r
  refine a1A (e := 141) (c := h8) (xs := [G6]) a0N (a8f _) rfl rfl D5 F8 (nb rfl) fun b4i b1D D8 a6s a2E b7f => ?_
  obtain ⟨a6t, h⟩ := h
  refine a7p (s := N1) (xs := m0) (a2E.bring 2) Z3 (a6s.srcO ((a2E.bring 2).bring 1)) a6t fun a9h a9i D9 a6u a3v b7g => ?_
  refine a6 (B2 _ _ _ _ _ _) ?_
  exact hn2 _ _ _ (hm2 _ _ h).2 ⟨((m0 ++ [G6]), (IntKind.wrap .i64 (j7 + 1))), X8, a9h, a9i, rfl, rfl, a6u, ((a3v.bring 1).drop.bring 1).drop, (hm2 _ _ h).1⟩
 ·replace h := h.2 Z4
  exact hx1 _ _ (hj1 m0 N1 Fs5l2 H _ Z3 I h)
theorem Q1 (x0 : Sl) {H : Hp} {K : Sl → Hp → Prop} (h : q6 x0 H K) : y6 x0 H K := by
 intro w I
 refine c8V ?_
 refine O7 x0 I (fun r0 H' w' I' hk => ⟨H', _, I', r0, rfl, rfl, hk⟩) h
def V5 (x0 : a8) (H : Hp) (K : ByteArray → Bool → Hp → Prop) : Prop :=
 (x0.a2x = true →
 K ((((x0.J3)).D3).c6) true H) ∧
 (x0.a2x = false →
 (x0.a2y = true →
 K ((((x0.b8)).b3).c6) ((decide (((((x0.b8)).b3).d5) = 1)) || (decide (((((x0.b8)).b3).d5) = 2))) H) ∧
 (x0.a2y = false →
 (x0.a2w = true →
 K ((((x0.i4)).f5).c6) ((decide (((((x0.i4)).f5).d5) = 2)) || (decide (((((x0.i4)).f5).d5) = 4))) H) ∧
 (x0.a2w = false →
 K ⟨#[]⟩ false H)))
theorem a7e (x0 : a8) {w0 w : World} {ps0 : Nat → Prop} {H0 H : Hp} {K : ByteArray → Bool → Hp → Prop} {R : Value → World → Prop} {E : Pan} (I : Inv w0 ps0 H0 H [] w) (hR : ∀ (r0 : ByteArray) (r1 : Bool) (H' : Hp) (w' : World) (_ : Inv w0 ps0 H0 H' [] w') (_ : K r0 r1 H'), R (Value.tuple #[(Value.string r0), (Value.bool r1)]) w') (h : V5 x0 H K) : b6y (m3 x0) w R E := by
 unfold V5 at h
 unfold b6y
 refine a6 (b2B x0) ?_
 refine a6 (i8 _ _ _ rfl) ?_
 refine a6 (i8 _ _ _ rfl) ?_
 refine p5 (fun c2E => ?_) (fun c2E => ?_)
 ·replace h := h.1 c2E
  refine F6 I Tryd.zeroValue175 (cs := [(Value.string ⟨#[]⟩), (vi 0)]) rfl fun g_2 w_3 I_4 k_5 => ?_
  refine t6 I_4 Tryd.sizeOf175 (vs := [(Value.string ((((x0.J3)).D3).c6)), (vi ((((x0.J3)).D3).L9))]) (cs' := [(Value.string ((((x0.J3)).D3).c6)), (vi ((((x0.J3)).D3).L9))]) rfl rfl (nb rfl) rfl rfl fun w_6 I_7 k_8 => ?_
  refine a6 a1q ?_
  refine a6 Y1 ?_
  refine b9 (ld1 Tryd.isAgg9 (I_7.at1 (o := 0) (vs := [(Value.string ((((x0.J3)).D3).c6))]) (nb rfl) rfl)) ?_
  exact hR ((((x0.J3)).D3).c6) true H _ I_7.drop h
 ·replace h := h.2 c2E
  refine a6 (b2C x0) ?_
  refine a6 (i8 _ _ _ rfl) ?_
  refine a6 (i8 _ _ _ rfl) ?_
  refine p5 (fun c2F => ?_) (fun c2F => ?_)
  ·replace h := h.1 c2F
   refine F6 I Tryd.zeroValue177 (cs := [(vi 0), (Value.string ⟨#[]⟩), (Value.slice none 0 0), (Value.slice none 0 0), (Value.slice none 0 0), (Value.slice none 0 0)]) rfl fun e0I O8 A5 a9c => ?_
   refine t6 A5 Tryd.sizeOf177 (vs := [(vi ((((x0.b8)).b3).d5)), (Value.string ((((x0.b8)).b3).c6)), (Value.slice ((((x0.b8)).b3).c5).a ((((x0.b8)).b3).c5).n ((((x0.b8)).b3).c5).c), (Value.slice ((((x0.b8)).b3).h7).a ((((x0.b8)).b3).h7).n ((((x0.b8)).b3).h7).c), (Value.slice ((((x0.b8)).b3).C0).a ((((x0.b8)).b3).C0).n ((((x0.b8)).b3).C0).c), (Value.slice ((((x0.b8)).b3).A8).a ((((x0.b8)).b3).A8).n ((((x0.b8)).b3).A8).c)]) (cs' := [(vi ((((x0.b8)).b3).d5)), (Value.string ((((x0.b8)).b3).c6)), (Value.slice ((((x0.b8)).b3).c5).a ((((x0.b8)).b3).c5).n ((((x0.b8)).b3).c5).c), (Value.slice ((((x0.b8)).b3).h7).a ((((x0.b8)).b3).h7).n ((((x0.b8)).b3).h7).c), (Value.slice ((((x0.b8)).b3).C0).a ((((x0.b8)).b3).C0).n ((((x0.b8)).b3).C0).c), (Value.slice ((((x0.b8)).b3).A8).a ((((x0.b8)).b3).A8).n ((((x0.b8)).b3).A8).c)]) rfl rfl (nb rfl) rfl rfl fun o7 a9p b7m => ?_
   refine a1z a9p fun a1h a0N => ?_
   refine j6 u7 ?_
   refine j6 a0U ?_
   refine j6 u7 ?_
   refine j6 a0T ?_
   refine G1 (ld1 Tryd.isAgg9 (a0N.at1 (o := 1) (vs := [(Value.string ((((x0.b8)).b3).c6))]) (nb rfl) rfl)) ?_
   refine G1 (ld1 Tryd.isAgg3 (a0N.at1 (o := 0) (vs := [(vi ((((x0.b8)).b3).d5))]) (nb rfl) rfl)) ?_
   refine j6 (g7 _ _ _ _ _ _) ?_
   refine j6 (Pu.g fun hb => by have a7 := hb; first | exact u7 | (simp only [c8 a7, b5 a7, b5 hb, a5B a7]; exact u7) | (simp only [c8 a7, b5 a7, b5 hb, E6 a7, m4]; exact u7)) ?_
   refine j6 (Pu.g fun hb => by have a7 := hb; first | exact a0T | (simp only [b5 a7]; exact a0T) | (simp only [c8 a7, b5 a7, b5 hb, E6 a7, m4]; exact a0T)) ?_
   refine c7p (p := (Value.pointer (some ⟨e0I, 0, none⟩))) rfl (Ld.g fun hb => by have a7 := hb; first | exact (ld1 Tryd.isAgg3 (a0N.at1 (o := 0) (vs := [(vi ((((x0.b8)).b3).d5))]) (nb rfl) rfl)) | (simp only [b5 a7]; exact (ld1 Tryd.isAgg3 (a0N.at1 (o := 0) (vs := [(vi ((((x0.b8)).b3).d5))]) (nb rfl) rfl))) | (simp only [c8 a7, b5 a7, b5 hb, E6 a7, m4]; exact (ld1 Tryd.isAgg3 (a0N.at1 (o := 0) (vs := [(vi ((((x0.b8)).b3).d5))]) (nb rfl) rfl)))) ?_
   refine j6 (Pu.g fun hb => by have a7 := hb; first | exact (g7 _ _ _ _ _ _) | (simp only [b5 a7]; exact (g7 _ _ _ _ _ _)) | (simp only [c8 a7, b5 a7, b5 hb, E6 a7, m4]; exact (g7 _ _ _ _ _ _))) ?_
   refine j6 (a0s _ _) ?_
   exact hR ((((x0.b8)).b3).c6) ((decide (((((x0.b8)).b3).d5) = 1)) || (decide (((((x0.b8)).b3).d5) = 2))) H _ a0N.drop h
  ·replace h := h.2 c2F
   refine a6 (b3q x0) ?_
   refine a6 (i8 _ _ _ rfl) ?_
   refine a6 (i8 _ _ _ rfl) ?_
   refine p5 (fun c2G => ?_) (fun c2G => ?_)
   ·replace h := h.1 c2G
    refine F6 I Tryd.zeroValue96 (cs := [(vi 0), (vi 0), (Value.string ⟨#[]⟩), (Value.slice none 0 0)]) rfl fun d2H a4c e0J e4k => ?_
    refine t6 e0J Tryd.sizeOf96 (vs := [(vi ((((x0.i4)).f5).d5)), (vi ((((x0.i4)).f5).X3)), (Value.string ((((x0.i4)).f5).c6)), (Value.slice ((((x0.i4)).f5).y8).a ((((x0.i4)).f5).y8).n ((((x0.i4)).f5).y8).c)]) (cs' := [(vi ((((x0.i4)).f5).d5)), (vi ((((x0.i4)).f5).X3)), (Value.string ((((x0.i4)).f5).c6)), (Value.slice ((((x0.i4)).f5).y8).a ((((x0.i4)).f5).y8).n ((((x0.i4)).f5).y8).c)]) rfl rfl (nb rfl) rfl rfl fun v7 a2r d2V => ?_
    refine a1z a2r fun a3r a4G => ?_
    refine j6 C2 ?_
    refine j6 Y3 ?_
    refine j6 C2 ?_
    refine j6 Y2 ?_
    refine G1 (ld1 Tryd.isAgg9 (a4G.at1 (o := 2) (vs := [(Value.string ((((x0.i4)).f5).c6))]) (nb rfl) rfl)) ?_
    refine G1 (ld1 Tryd.isAgg3 (a4G.at1 (o := 0) (vs := [(vi ((((x0.i4)).f5).d5))]) (nb rfl) rfl)) ?_
    refine j6 (g7 _ _ _ _ _ _) ?_
    refine j6 (Pu.g fun hb => by have a7 := hb; first | exact C2 | (simp only [c8 a7, b5 a7, b5 hb, a5B a7]; exact C2) | (simp only [c8 a7, b5 a7, b5 hb, E6 a7, m4]; exact C2)) ?_
    refine j6 (Pu.g fun hb => by have a7 := hb; first | exact Y2 | (simp only [b5 a7]; exact Y2) | (simp only [c8 a7, b5 a7, b5 hb, E6 a7, m4]; exact Y2)) ?_
    refine c7p (p := (Value.pointer (some ⟨d2H, 0, none⟩))) rfl (Ld.g fun hb => by have a7 := hb; first | exact (ld1 Tryd.isAgg3 (a4G.at1 (o := 0) (vs := [(vi ((((x0.i4)).f5).d5))]) (nb rfl) rfl)) | (simp only [b5 a7]; exact (ld1 Tryd.isAgg3 (a4G.at1 (o := 0) (vs := [(vi ((((x0.i4)).f5).d5))]) (nb rfl) rfl))) | (simp only [c8 a7, b5 a7, b5 hb, E6 a7, m4]; exact (ld1 Tryd.isAgg3 (a4G.at1 (o := 0) (vs := [(vi ((((x0.i4)).f5).d5))]) (nb rfl) rfl)))) ?_
    refine j6 (Pu.g fun hb => by have a7 := hb; first | exact (g7 _ _ _ _ _ _) | (simp only [b5 a7]; exact (g7 _ _ _ _ _ _)) | (simp only [c8 a7, b5 a7, b5 hb, E6 a7, m4]; exact (g7 _ _ _ _ _ _))) ?_
    refine j6 (a0s _ _) ?_
    exact hR ((((x0.i4)).f5).c6) ((decide (((((x0.i4)).f5).d5) = 2)) || (decide (((((x0.i4)).f5).d5) = 4))) H _ a4G.drop h
   ·replace h := h.2 c2G
    exact hR ⟨#[]⟩ false H _ I h
theorem a7N (x0 : a8) {H : Hp} {K : ByteArray → Bool → Hp → Prop} (h : V5 x0 H K) : R2 x0 H K := by
 intro w I
 refine c5f ?_
 refine a7e x0 I (fun r0 r1 H' w' I' hk => ⟨H', _, I', r0, r1, rfl, rfl, hk⟩) h
def U4 (x0 : Int) (H : Hp) (K : Bool → Hp → Prop) : Prop :=
 U0 x0 H (fun (J5 : Int) (H_1 : Hp) =>
 K ((decide (J5 = 3)) || (decide (J5 = 4))) H_1)
theorem a6M (x0 : Int) {w0 w : World} {ps0 : Nat → Prop} {H0 H : Hp} {K : Bool → Hp → Prop} {R : Value → World → Prop} {E : Pan} (I : Inv w0 ps0 H0 H [] w) (hR : ∀ (r0 : Bool) (H' : Hp) (w' : World) (_ : Inv w0 ps0 H0 H' [] w') (_ : K r0 H'), R (Value.bool r0) w') (h : U4 x0 H K) : b6F (Value.int .i32 x0) w R E := by
 unfold U4 at h
 unfold b6F
 refine d6 (cap := []) (fun args w => Tryd.call126 args w) ?_
 refine i7 (Fi := []) (Fr := []) I (h) (fun v_5 H_1 F_6 w_2 I_3 l_8 k_4 q_7 => ?_) (fun _ _ _ _ _ q => q.elim)
 obtain ⟨J5, rfl, rfl, h⟩ := q_7
 refine a6 (g7 _ _ _ _ _ _) ?_
 try simp only [K6]
 refine a6 (Pu.g fun hb => by have a7 := hb; first | exact (g7 _ _ _ _ _ _) | (simp only [b5 a7]; exact (g7 _ _ _ _ _ _)) | (simp only [c8 a7, b5 a7, b5 hb, E6 a7, m4]; exact (g7 _ _ _ _ _ _))) ?_
 refine a6 (a0s _ _) ?_
 exact hR ((decide (J5 = 3)) || (decide (J5 = 4))) H_1 _ I_3 h
theorem a7f (x0 : Int) {H : Hp} {K : Bool → Hp → Prop} (h : U4 x0 H K) : a0p x0 H K := by
 intro w I
 refine c5r ?_
 refine a6M x0 I (fun r0 H' w' I' hk => ⟨H', _, I', r0, rfl, rfl, hk⟩) h
def F1 (H : Hp) (K : Int → Hp → Prop) : Prop :=
 K (-1) H
def F3 (d7v : (List ByteArray)) (b4x : ByteArray) (a1R : Int) (R7 : Int) (H : Hp) (n2 : Int → Hp → Prop) (K : Int → Hp → Prop) : Prop :=
 (R7 < a1R →
 (0 : Int) ≤ R7 ∧ ∃ x_1 : ByteArray, (d7v)[(R7 : Int).toNat]? = some x_1 ∧
 (b4x = x_1 →
 K R7 H) ∧
 (¬ (b4x = x_1) →
 n2 (IntKind.wrap .i64 (R7 + 1)) H)) ∧
 (¬ (R7 < a1R) →
 F1 H K)
def J6 (x0 : (List ByteArray)) (x1 : ByteArray) (H : Hp) (K : Int → Hp → Prop) : Prop :=
 TL (0 : Int) H fun (s : Int) H n2 => F3 x0 x1 (x0.length : Int) s H n2 K
theorem a2t (x0 : (List ByteArray)) (x1 : ByteArray) (sx0 : Sl) (Fx0 : Frag) (hx0 : RowL 9 1 o8 sx0 x0 Fx0) {w0 w : World} {ps0 : Nat → Prop} {H0 H : Hp} {K : Int → Hp → Prop} {R : Value → World → Prop} {E : Pan} (I : Inv w0 ps0 H0 H [Fx0] w) (hR : ∀ (r0 : Int) (H' : Hp) (w' : World) (_ : Inv w0 ps0 H0 H' [Fx0] w') (_ : K r0 H'), R (vi r0) w') (h : J6 x0 x1 H K) : b6J (vs sx0) (Value.string x1) w R E := by
 unfold J6 at h
 unfold b6J
 have hj1 : ∀ (H : Hp) (w : World) (_ : Inv w0 ps0 H0 H [Fx0] w) (_ : F1 H K), b1r w R E := by
  intro H w I h
  unfold b1r
  intro _
  unfold F1 at h
  exact hR (-1) H _ I h
 refine u4 fun j1 hx1 => ?_
 refine a6 (a3E Tryd.underlying47 hx0) ?_
 obtain ⟨c2H, b4D, e0K, e0L⟩ := h
 refine F7 (J := fun n l w => ∃ (s : Int) (H : Hp) , n = b4D s ∧ l = [(vi s)] ∧ Inv w0 ps0 H0 H [Fx0] w ∧ c2H s H) ⟨_, 0, H, rfl, rfl, I, e0K⟩ ?_
 rintro e4l τ_15 w next2 ⟨R7, H, rfl, c1z, I, e0M⟩ hn2
 simp only [List.map_cons, List.map_nil, List.cons.injEq, and_true] at c1z
 have e8 := c1z
 simp only [e8]
 obtain ⟨n2, hm2, h⟩ : ∃ n2 : Int → Hp → Prop, (∀ s' H', n2 s' H' → c2H s' H' ∧ b4D s' < b4D R7) ∧ F3 x0 x1 (x0.length : Int) R7 H n2 K := ⟨_, fun _ _ h => h, e0L R7 H (fun s' H' => c2H s' H' ∧ b4D s' < b4D R7) e0M (fun _ _ a b => ⟨a, b⟩)⟩
 unfold b5O
 unfold F3 at h
 refine a6 (D1 _ _ _ _ _ _) ?_
 refine d8 (fun c_9 => ?_) (fun c_9 => ?_)
 ·replace h := h.1 c_9
  obtain ⟨h_3, x_1, h_4, h⟩ := h
  obtain ⟨g_2, a_6, h_5, h_7⟩ := hx0.addr h_4
  refine a6 (c1f h_5 _ _ _ _ h_3 (hx0.lt h_3 h_4)) ?_
  refine b9 (ld1 (v := (Value.string x_1)) Tryd.isAgg9 (hx0.atW I h_5 h_4)) ?_
  refine a6 (Q9 _ _ _ _ _) ?_
  refine d8 (fun c_8 => ?_) (fun c_8 => ?_)
  ·replace h := h.1 c_8
   exact hR R7 H _ I h
  ·replace h := h.2 c_8
   refine a6 (B2 _ _ _ _ _ _) ?_
   exact hn2 _ _ _ (hm2 _ _ h).2 ⟨(IntKind.wrap .i64 (R7 + 1)), H, rfl, rfl, I, (hm2 _ _ h).1⟩
 ·replace h := h.2 c_9
  exact hx1 _ _ (hj1 H _ I h)
theorem a2N (x0 : (List ByteArray)) (x1 : ByteArray) {H : Hp} {K : Int → Hp → Prop} (h : J6 x0 x1 H K) : O9 x0 x1 H K := by
 intro sx0 Fx0 hx0 w I
 refine c5v ?_
 refine a2t x0 x1 sx0 Fx0 hx0 I (fun r0 H' w' I' hk => ⟨H', _, I', r0, rfl, rfl, hk⟩) h
def U5 (x0 : i6) (H : Hp) (K : Int → Hp → Prop) : Prop :=
 a1j x0 H (fun (D4 : b7) (H_6 : Hp) =>
 K D4.fe H_6)
theorem a6N (x0 : i6) {w0 w : World} {ps0 : Nat → Prop} {H0 H : Hp} {K : Int → Hp → Prop} {R : Value → World → Prop} {E : Pan} (I : Inv w0 ps0 H0 H [] w) (hR : ∀ (r0 : Int) (H' : Hp) (w' : World) (_ : Inv w0 ps0 H0 H' [] w') (_ : K r0 H'), R (vi r0) w') (h : U5 x0 H K) : F27 (Value.agg (d9 x0).toArray) w R E := by
 unfold U5 at h
 unfold F27
 refine J2 I (cs := (d9 x0)) rfl fun g_2 w_3 I_4 k_5 => ?_
 refine b9 (ldA Tryd.isAgg25 Tryd.sizeOf25 rfl (I_4.at1 (o := 0) (vs := (d9 x0)) (nb rfl) rfl)) ?_
 refine d6 (cap := []) (fun args w => Tryd.call66 args w) ?_
 refine i7 (Fi := []) (Fr := [bx g_2 25 (d9 x0)]) I_4 (h) (fun a9s H_6 a9t w_7 I_8 a9u k_9 a1K => ?_) (fun _ _ _ _ _ q => q.elim)
 obtain ⟨D4, e1Q, rfl, rfl, h⟩ := a1K
 refine a6 (A9 _) ?_
 refine a6 a2b ?_
 refine b9 (ld1 Tryd.isAgg34 (I_8.at1 (o := 2) (vs := [(vi D4.fe)]) (nb rfl) rfl)) ?_
 exact hR D4.fe H_6 _ I_8.drop.drop h
theorem a7g (x0 : i6) {H : Hp} {K : Int → Hp → Prop} (h : U5 x0 H K) : a0q x0 H K := by
 intro w I
 refine c7z ?_
 refine a6N x0 I (fun r0 H' w' I' hk => ⟨H', _, I', r0, rfl, rfl, hk⟩) h
def B8 (a4z : Bool) (c3Y : Int) (a8x : Bool) (cr_6j1 : m2) (_cr_1j1 : C1) (H : Hp) (K : Bool → Hp → Prop) : Prop :=
 (a8x = true →
 K (a4z && (decide (cr_6j1.fexprs = 0 ∧ cr_6j1.fconds = 1))) H) ∧
 (a8x = false →
 (c3Y = 7 →
 K (a4z && (decide (cr_6j1.fexprs = 0 ∧ cr_6j1.fconds = 0))) H) ∧
 (¬ (c3Y = 7) →
 K false H))
def O2 (x0 : C1) (H : Hp) (K : Bool → Hp → Prop) : Prop :=
 (x0.b3.d5 = 1 →
 K ((!(decide (0 < (IntKind.wrap .i64 ((x0.b3.C0.n : Int) + (x0.b3.A8.n : Int)))))) && (decide ((x0.b3.c5.n : Int) = 1 ∧ (x0.b3.h7.n : Int) = 0))) H) ∧
 (¬ (x0.b3.d5 = 1) →
 (x0.b3.d5 = 2 →
 K ((!(decide (0 < (IntKind.wrap .i64 ((x0.b3.C0.n : Int) + (x0.b3.A8.n : Int)))))) && (decide ((x0.b3.c5.n : Int) = 2 ∧ (x0.b3.h7.n : Int) = 0))) H) ∧
 (¬ (x0.b3.d5 = 2) →
 (x0.b3.d5 = 3 →
 K ((decide (x0.b3.c6 = ⟨#[]⟩)) && (decide ((x0.b3.c5.n : Int) = 0 ∧ (x0.b3.h7.n : Int) = 1))) H) ∧
 (¬ (x0.b3.d5 = 3) →
 (x0.b3.d5 = 4 →
 K (((decide (x0.b3.c6 = ⟨#[]⟩)) && (decide ((x0.b3.A8.n : Int) = 0))) && (decide ((x0.b3.c5.n : Int) = 0 ∧ (x0.b3.h7.n : Int) = 1))) H) ∧
 (¬ (x0.b3.d5 = 4) →
 (x0.b3.d5 = 5 →
 B8 ((decide (x0.b3.c6 = ⟨#[]⟩)) && (!(decide (0 < (IntKind.wrap .i64 ((x0.b3.C0.n : Int) + (x0.b3.A8.n : Int))))))) x0.b3.d5 (decide (x0.b3.d5 = 5)) (m2.mk (x0.b3.c5.n : Int) (x0.b3.h7.n : Int)) x0 H K) ∧
 (¬ (x0.b3.d5 = 5) →
 B8 ((decide (x0.b3.c6 = ⟨#[]⟩)) && (!(decide (0 < (IntKind.wrap .i64 ((x0.b3.C0.n : Int) + (x0.b3.A8.n : Int))))))) x0.b3.d5 (decide (x0.b3.d5 = 6)) (m2.mk (x0.b3.c5.n : Int) (x0.b3.h7.n : Int)) x0 H K)))))
theorem a4H (x0 : C1) {w0 w : World} {ps0 : Nat → Prop} {H0 H : Hp} {K : Bool → Hp → Prop} {R : Value → World → Prop} {E : Pan} (I : Inv w0 ps0 H0 H [] w) (hR : ∀ (r0 : Bool) (H' : Hp) (w' : World) (_ : Inv w0 ps0 H0 H' [] w') (_ : K r0 H'), R (Value.bool r0) w') (h : O2 x0 H K) : b6Y (Value.agg (g8 x0.b3).toArray) w R E := by
 unfold O2 at h
 unfold b6Y
 refine J2 I (cs := (g8 x0.b3)) rfl fun g_2 w_3 I_4 k_5 => ?_
 refine a6 u7 ?_
 refine a6 a6e ?_
 refine b9 (ld1 Tryd.isAgg23 (I_4.at1 (o := 4) (vs := [(vs x0.b3.C0)]) (nb rfl) rfl)) ?_
 refine a6 (T2 _ _ _) ?_
 refine a6 u7 ?_
 refine a6 a0V ?_
 refine b9 (ld1 Tryd.isAgg23 (I_4.at1 (o := 5) (vs := [(vs x0.b3.A8)]) (nb rfl) rfl)) ?_
 refine a6 (T2 _ _ _) ?_
 refine a6 (B2 _ _ _ _ _ _) ?_
 refine a6 (a1p _ _ _ _ _ _) ?_
 refine a6 u7 ?_
 refine a6 a6c ?_
 refine b9 (ld1 Tryd.isAgg28 (I_4.at1 (o := 2) (vs := [(vs x0.b3.c5)]) (nb rfl) rfl)) ?_
 refine a6 (a0y _ _ _) ?_
 refine a6 u7 ?_
 refine a6 a6d ?_
 refine b9 (ld1 Tryd.isAgg31 (I_4.at1 (o := 3) (vs := [(vs x0.b3.h7)]) (nb rfl) rfl)) ?_
 refine a6 (a3i _ _ _) ?_
 refine a6 (u2 _ _) ?_
 refine F6 I_4 Tryd.zeroValue213 (cs := [(vi 0), (vi 0)]) rfl fun g_7 w_8 I_9 d2r => ?_
 refine t6 I_9 Tryd.sizeOf213 (vs := [(vi (x0.b3.c5.n : Int)), (vi (x0.b3.h7.n : Int))]) (cs' := [(vi (x0.b3.c5.n : Int)), (vi (x0.b3.h7.n : Int))]) rfl rfl (nb rfl) rfl rfl fun O8 A5 a9c => ?_
 refine a6 u7 ?_
 refine a6 a0U ?_
 refine b9 (ld1 Tryd.isAgg9 ((A5.bring 1).at1 (o := 1) (vs := [(Value.string x0.b3.c6)]) (nb rfl) rfl)) ?_
 refine a6 (Q9 _ _ _ _ _) ?_
 try simp only [K6]
 refine a6 (Pu.g fun hb => by have a7 := hb; first | exact (E0 _) | (simp only [b5 a7]; exact (E0 _)) | (simp only [c8 a7, b5 a7, b5 hb, m5 a7, m4]; exact (E0 _))) ?_
 refine a6 (K1 _ _) ?_
 refine a6 u7 ?_
 refine a6 a0T ?_
 refine b9 (ld1 Tryd.isAgg3 ((A5.bring 1).at1 (o := 0) (vs := [(vi x0.b3.d5)]) (nb rfl) rfl)) ?_
 refine a6 (g7 _ _ _ _ _ _) ?_
 refine d8 (fun a4k => ?_) (fun a4k => ?_)
 ·replace h := h.1 a4k
  refine a6 (E0 _) ?_
  refine b9 (Ld.g fun hb => by have a7 := hb; first | exact (ldA Tryd.isAgg213 Tryd.sizeOf213 rfl (A5.at1 (o := 0) (vs := [(vi (x0.b3.c5.n : Int)), (vi (x0.b3.h7.n : Int))]) (nb rfl) rfl)) | (simp only [c8 a7, b5 a7, b5 hb, G2 a7]; exact (ldA Tryd.isAgg213 Tryd.sizeOf213 rfl (A5.at1 (o := 0) (vs := [(vi (x0.b3.c5.n : Int)), (vi (x0.b3.h7.n : Int))]) (nb rfl) rfl))) | (simp only [c8 a7, b5 a7, b5 hb, m5 a7, m4]; exact (ldA Tryd.isAgg213 Tryd.sizeOf213 rfl (A5.at1 (o := 0) (vs := [(vi (x0.b3.c5.n : Int)), (vi (x0.b3.h7.n : Int))]) (nb rfl) rfl)))) ?_
  refine a6 (Pu.g fun hb => by have a7 := hb; first | exact (u2 _ _) | (simp only [c8 a7, b5 a7, b5 hb, G2 a7]; exact (u2 _ _)) | (simp only [c8 a7, b5 a7, b5 hb, m5 a7, m4]; exact (u2 _ _))) ?_
  refine a6 (Pu.g fun hb => by have a7 := hb; first | exact (D2 _ _ _ _ _ _) | (simp only [b5 a7]; exact (D2 _ _ _ _ _ _)) | (simp only [c8 a7, b5 a7, b5 hb, m5 a7, m4]; exact (D2 _ _ _ _ _ _))) ?_
  refine a6 (K1 _ _) ?_
  exact hR ((!(decide (0 < (IntKind.wrap .i64 ((x0.b3.C0.n : Int) + (x0.b3.A8.n : Int)))))) && (decide ((x0.b3.c5.n : Int) = 1 ∧ (x0.b3.h7.n : Int) = 0))) H _ A5.drop.drop h
 ·replace h := h.2 a4k
  refine a6 (g7 _ _ _ _ _ _) ?_
  refine d8 (fun a4l => ?_) (fun a4l => ?_)
  ·replace h := h.1 a4l
   refine a6 (E0 _) ?_
   refine b9 (Ld.g fun hb => by have a7 := hb; first | exact (ldA Tryd.isAgg213 Tryd.sizeOf213 rfl (A5.at1 (o := 0) (vs := [(vi (x0.b3.c5.n : Int)), (vi (x0.b3.h7.n : Int))]) (nb rfl) rfl)) | (simp only [c8 a7, b5 a7, b5 hb, G2 a7]; exact (ldA Tryd.isAgg213 Tryd.sizeOf213 rfl (A5.at1 (o := 0) (vs := [(vi (x0.b3.c5.n : Int)), (vi (x0.b3.h7.n : Int))]) (nb rfl) rfl))) | (simp only [c8 a7, b5 a7, b5 hb, m5 a7, m4]; exact (ldA Tryd.isAgg213 Tryd.sizeOf213 rfl (A5.at1 (o := 0) (vs := [(vi (x0.b3.c5.n : Int)), (vi (x0.b3.h7.n : Int))]) (nb rfl) rfl)))) ?_
   refine a6 (Pu.g fun hb => by have a7 := hb; first | exact (u2 _ _) | (simp only [c8 a7, b5 a7, b5 hb, G2 a7]; exact (u2 _ _)) | (simp only [c8 a7, b5 a7, b5 hb, m5 a7, m4]; exact (u2 _ _))) ?_
   refine a6 (Pu.g fun hb => by have a7 := hb; first | exact (D2 _ _ _ _ _ _) | (simp only [b5 a7]; exact (D2 _ _ _ _ _ _)) | (simp only [c8 a7, b5 a7, b5 hb, m5 a7, m4]; exact (D2 _ _ _ _ _ _))) ?_
   refine a6 (K1 _ _) ?_
   exact hR ((!(decide (0 < (IntKind.wrap .i64 ((x0.b3.C0.n : Int) + (x0.b3.A8.n : Int)))))) && (decide ((x0.b3.c5.n : Int) = 2 ∧ (x0.b3.h7.n : Int) = 0))) H _ A5.drop.drop h
  ·replace h := h.2 a4l
   refine a6 (g7 _ _ _ _ _ _) ?_
   refine d8 (fun a4o => ?_) (fun a4o => ?_)
   ·replace h := h.1 a4o
    refine a6 u7 ?_
    refine a6 a0U ?_
    refine b9 (ld1 Tryd.isAgg9 ((A5.bring 1).at1 (o := 1) (vs := [(Value.string x0.b3.c6)]) (nb rfl) rfl)) ?_
    refine a6 (Q9 _ _ _ _ _) ?_
    refine b9 (Ld.g fun hb => by have a7 := hb; first | exact (ldA Tryd.isAgg213 Tryd.sizeOf213 rfl (A5.at1 (o := 0) (vs := [(vi (x0.b3.c5.n : Int)), (vi (x0.b3.h7.n : Int))]) (nb rfl) rfl)) | (simp only [c8 a7, b5 a7, b5 hb, G2 a7]; exact (ldA Tryd.isAgg213 Tryd.sizeOf213 rfl (A5.at1 (o := 0) (vs := [(vi (x0.b3.c5.n : Int)), (vi (x0.b3.h7.n : Int))]) (nb rfl) rfl))) | (simp only [c8 a7, b5 a7, b5 hb, m5 a7, m4]; exact (ldA Tryd.isAgg213 Tryd.sizeOf213 rfl (A5.at1 (o := 0) (vs := [(vi (x0.b3.c5.n : Int)), (vi (x0.b3.h7.n : Int))]) (nb rfl) rfl)))) ?_
    refine a6 (Pu.g fun hb => by have a7 := hb; first | exact (u2 _ _) | (simp only [c8 a7, b5 a7, b5 hb, G2 a7]; exact (u2 _ _)) | (simp only [c8 a7, b5 a7, b5 hb, m5 a7, m4]; exact (u2 _ _))) ?_
    refine a6 (Pu.g fun hb => by have a7 := hb; first | exact (D2 _ _ _ _ _ _) | (simp only [b5 a7]; exact (D2 _ _ _ _ _ _)) | (simp only [c8 a7, b5 a7, b5 hb, m5 a7, m4]; exact (D2 _ _ _ _ _ _))) ?_
    refine a6 (K1 _ _) ?_
    exact hR ((decide (x0.b3.c6 = ⟨#[]⟩)) && (decide ((x0.b3.c5.n : Int) = 0 ∧ (x0.b3.h7.n : Int) = 1))) H _ A5.drop.drop h
   ·replace h := h.2 a4o
    refine a6 (g7 _ _ _ _ _ _) ?_
    refine d8 (fun a4m => ?_) (fun a4m => ?_)
    ·replace h := h.1 a4m
     refine a6 u7 ?_
     refine a6 a0U ?_
     refine b9 (ld1 Tryd.isAgg9 ((A5.bring 1).at1 (o := 1) (vs := [(Value.string x0.b3.c6)]) (nb rfl) rfl)) ?_
     refine a6 (Q9 _ _ _ _ _) ?_
     refine a6 (Pu.g fun hb => by have a7 := hb; first | exact u7 | (simp only [c8 a7, b5 a7, b5 hb, G2 a7]; exact u7) | (simp only [c8 a7, b5 a7, b5 hb, m5 a7, m4]; exact u7)) ?_
     refine a6 (Pu.g fun hb => by have a7 := hb; first | exact a0V | (simp only [b5 a7]; exact a0V) | (simp only [c8 a7, b5 a7, b5 hb, m5 a7, m4]; exact a0V)) ?_
     refine b9 (Ld.g fun hb => by have a7 := hb; first | exact (ld1 Tryd.isAgg23 ((A5.bring 1).at1 (o := 5) (vs := [(vs x0.b3.A8)]) (nb rfl) rfl)) | (simp only [b5 a7]; exact (ld1 Tryd.isAgg23 ((A5.bring 1).at1 (o := 5) (vs := [(vs x0.b3.A8)]) (nb rfl) rfl))) | (simp only [c8 a7, b5 a7, b5 hb, m5 a7, m4]; exact (ld1 Tryd.isAgg23 ((A5.bring 1).at1 (o := 5) (vs := [(vs x0.b3.A8)]) (nb rfl) rfl)))) ?_
     refine a6 (Pu.g fun hb => by have a7 := hb; first | exact (T2 _ _ _) | (simp only [b5 a7]; exact (T2 _ _ _)) | (simp only [c8 a7, b5 a7, b5 hb, m5 a7, m4]; exact (T2 _ _ _))) ?_
     refine a6 (Pu.g fun hb => by have a7 := hb; first | exact (g7 _ _ _ _ _ _) | (simp only [b5 a7]; exact (g7 _ _ _ _ _ _)) | (simp only [c8 a7, b5 a7, b5 hb, m5 a7, m4]; exact (g7 _ _ _ _ _ _))) ?_
     refine a6 (K1 _ _) ?_
     refine b9 (Ld.g fun hb => by have a7 := hb; first | exact (ldA Tryd.isAgg213 Tryd.sizeOf213 rfl (A5.at1 (o := 0) (vs := [(vi (x0.b3.c5.n : Int)), (vi (x0.b3.h7.n : Int))]) (nb rfl) rfl)) | (simp only [c8 a7, b5 a7, b5 hb, G2 a7]; exact (ldA Tryd.isAgg213 Tryd.sizeOf213 rfl (A5.at1 (o := 0) (vs := [(vi (x0.b3.c5.n : Int)), (vi (x0.b3.h7.n : Int))]) (nb rfl) rfl))) | (simp only [c8 a7, b5 a7, b5 hb, m5 a7, m4]; exact (ldA Tryd.isAgg213 Tryd.sizeOf213 rfl (A5.at1 (o := 0) (vs := [(vi (x0.b3.c5.n : Int)), (vi (x0.b3.h7.n : Int))]) (nb rfl) rfl)))) ?_
     refine a6 (Pu.g fun hb => by have a7 := hb; first | exact (u2 _ _) | (simp only [c8 a7, b5 a7, b5 hb, G2 a7]; exact (u2 _ _)) | (simp only [c8 a7, b5 a7, b5 hb, m5 a7, m4]; exact (u2 _ _))) ?_
     refine a6 (Pu.g fun hb => by have a7 := hb; first | exact (D2 _ _ _ _ _ _) | (simp only [b5 a7]; exact (D2 _ _ _ _ _ _)) | (simp only [c8 a7, b5 a7, b5 hb, m5 a7, m4]; exact (D2 _ _ _ _ _ _))) ?_
     refine a6 (K1 _ _) ?_
     exact hR (((decide (x0.b3.c6 = ⟨#[]⟩)) && (decide ((x0.b3.A8.n : Int) = 0))) && (decide ((x0.b3.c5.n : Int) = 0 ∧ (x0.b3.h7.n : Int) = 1))) H _ A5.drop.drop h
    ·replace h := h.2 a4m
     have hj1 : ∀ (a8x : Bool) (H : Hp) (w : World) (_ : Inv w0 ps0 H0 H [bx g_7 213 [(vi (m2.mk (x0.b3.c5.n : Int) (x0.b3.h7.n : Int)).fexprs), (vi (m2.mk (x0.b3.c5.n : Int) (x0.b3.h7.n : Int)).fconds)], bx g_2 177 (g8 x0.b3)] w) (_ : B8 ((decide (x0.b3.c6 = ⟨#[]⟩)) && (!(decide (0 < (IntKind.wrap .i64 ((x0.b3.C0.n : Int) + (x0.b3.A8.n : Int))))))) x0.b3.d5 a8x (m2.mk (x0.b3.c5.n : Int) (x0.b3.h7.n : Int)) x0 H K), b1B (Value.pointer (some ⟨g_7, 0, none⟩)) (Value.bool ((decide (x0.b3.c6 = ⟨#[]⟩)) && (!(decide (0 < (IntKind.wrap .i64 ((x0.b3.C0.n : Int) + (x0.b3.A8.n : Int)))))))) (vi x0.b3.d5) (Value.bool a8x) w R E := by
      intro a8x H w I h
      unfold b1B
      intro _
      unfold B8 at h
      refine p5 (fun a1G => ?_) (fun a1G => ?_)
      ·replace h := h.1 a1G
       refine b9 (Ld.g fun hb => by have a7 := hb; first | exact (ldA Tryd.isAgg213 Tryd.sizeOf213 rfl (I.at1 (o := 0) (vs := [(vi (m2.mk (x0.b3.c5.n : Int) (x0.b3.h7.n : Int)).fexprs), (vi (m2.mk (x0.b3.c5.n : Int) (x0.b3.h7.n : Int)).fconds)]) (nb rfl) rfl)) | (simp only [c8 a7, b5 a7, b5 hb, G2 a7]; exact (ldA Tryd.isAgg213 Tryd.sizeOf213 rfl (I.at1 (o := 0) (vs := [(vi (m2.mk (x0.b3.c5.n : Int) (x0.b3.h7.n : Int)).fexprs), (vi (m2.mk (x0.b3.c5.n : Int) (x0.b3.h7.n : Int)).fconds)]) (nb rfl) rfl))) | (simp only [c8 a7, b5 a7, b5 hb, m5 a7, m4]; exact (ldA Tryd.isAgg213 Tryd.sizeOf213 rfl (I.at1 (o := 0) (vs := [(vi (m2.mk (x0.b3.c5.n : Int) (x0.b3.h7.n : Int)).fexprs), (vi (m2.mk (x0.b3.c5.n : Int) (x0.b3.h7.n : Int)).fconds)]) (nb rfl) rfl)))) ?_
       refine a6 (Pu.g fun hb => by have a7 := hb; first | exact (u2 _ _) | (simp only [c8 a7, b5 a7, b5 hb, G2 a7]; exact (u2 _ _)) | (simp only [c8 a7, b5 a7, b5 hb, m5 a7, m4]; exact (u2 _ _))) ?_
       refine a6 (Pu.g fun hb => by have a7 := hb; first | exact (D2 _ _ _ _ _ _) | (simp only [b5 a7]; exact (D2 _ _ _ _ _ _)) | (simp only [c8 a7, b5 a7, b5 hb, m5 a7, m4]; exact (D2 _ _ _ _ _ _))) ?_
       refine a6 (K1 _ _) ?_
       exact hR (((decide (x0.b3.c6 = ⟨#[]⟩)) && (!(decide (0 < (IntKind.wrap .i64 ((x0.b3.C0.n : Int) + (x0.b3.A8.n : Int))))))) && (decide ((m2.mk (x0.b3.c5.n : Int) (x0.b3.h7.n : Int)).fexprs = 0 ∧ (m2.mk (x0.b3.c5.n : Int) (x0.b3.h7.n : Int)).fconds = 1))) H _ I.drop.drop h
      ·replace h := h.2 a1G
       refine a6 (g7 _ _ _ _ _ _) ?_
       refine d8 (fun a9d => ?_) (fun a9d => ?_)
       ·replace h := h.1 a9d
        refine b9 (Ld.g fun hb => by have a7 := hb; first | exact (ldA Tryd.isAgg213 Tryd.sizeOf213 rfl (I.at1 (o := 0) (vs := [(vi (m2.mk (x0.b3.c5.n : Int) (x0.b3.h7.n : Int)).fexprs), (vi (m2.mk (x0.b3.c5.n : Int) (x0.b3.h7.n : Int)).fconds)]) (nb rfl) rfl)) | (simp only [c8 a7, b5 a7, b5 hb, G2 a7]; exact (ldA Tryd.isAgg213 Tryd.sizeOf213 rfl (I.at1 (o := 0) (vs := [(vi (m2.mk (x0.b3.c5.n : Int) (x0.b3.h7.n : Int)).fexprs), (vi (m2.mk (x0.b3.c5.n : Int) (x0.b3.h7.n : Int)).fconds)]) (nb rfl) rfl))) | (simp only [c8 a7, b5 a7, b5 hb, m5 a7, m4]; exact (ldA Tryd.isAgg213 Tryd.sizeOf213 rfl (I.at1 (o := 0) (vs := [(vi (m2.mk (x0.b3.c5.n : Int) (x0.b3.h7.n : Int)).fexprs), (vi (m2.mk (x0.b3.c5.n : Int) (x0.b3.h7.n : Int)).fconds)]) (nb rfl) rfl)))) ?_
        refine a6 (Pu.g fun hb => by have a7 := hb; first | exact (a6k ) | (simp only [c8 a7, b5 a7, b5 hb, G2 a7]; exact (a6k )) | (simp only [c8 a7, b5 a7, b5 hb, m5 a7, m4]; exact (a6k ))) ?_
        refine a6 (Pu.g fun hb => by have a7 := hb; first | exact (D2 _ _ _ _ _ _) | (simp only [b5 a7]; exact (D2 _ _ _ _ _ _)) | (simp only [c8 a7, b5 a7, b5 hb, m5 a7, m4]; exact (D2 _ _ _ _ _ _))) ?_
        refine a6 (K1 _ _) ?_
        exact hR (((decide (x0.b3.c6 = ⟨#[]⟩)) && (!(decide (0 < (IntKind.wrap .i64 ((x0.b3.C0.n : Int) + (x0.b3.A8.n : Int))))))) && (decide ((m2.mk (x0.b3.c5.n : Int) (x0.b3.h7.n : Int)).fexprs = 0 ∧ (m2.mk (x0.b3.c5.n : Int) (x0.b3.h7.n : Int)).fconds = 0))) H _ I.drop.drop h
       ·replace h := h.2 a9d
        exact hR false H _ I.drop.drop h
     refine u4 fun j1 hx1 => ?_
     refine a6 (g7 _ _ _ _ _ _) ?_
     refine d8 (fun a4n => ?_) (fun a4n => ?_)
     ·replace h := h.1 a4n
      exact hx1 _ _ (hj1 (decide (x0.b3.d5 = 5)) H _ ((A5.bring 1).bring 1) h)
     ·replace h := h.2 a4n
      refine a6 (g7 _ _ _ _ _ _) ?_
      exact hx1 _ _ (hj1 (decide (x0.b3.d5 = 6)) H _ ((A5.bring 1).bring 1) h)
theorem a4V (x0 : C1) {H : Hp} {K : Bool → Hp → Prop} (h : O2 x0 H K) : U9 x0 H K := by
 intro w I
 refine c6w ?_
 refine a4H x0 I (fun r0 H' w' I' hk => ⟨H', _, I', r0, rfl, rfl, hk⟩) h
def N6 (x0 : C1) (H : Hp) (K : Sl → Hp → Prop) : Prop :=
 p6 x0.b3.h7 H (fun (a2m : Sl) (H_8 : Hp) =>
 j9 x0.b3.c5 H_8 (fun (a2o : Sl) (a7H : Hp) =>
 j8 x0.b3.C0 a7H (fun (b7A : Sl) (d2X : Hp) =>
 j8 x0.b3.A8 d2X (fun (b7B : Sl) (a6w : Hp) =>
 ∀ (b1U : Sl) (b4E : Hp), Hle a6w b4E → SlH b4E 1 csl b1U [a2m, a2o, b7A, b7B] → b1U.n ≤ b1U.c →
 o6 b1U b4E (fun (b7C : Sl) (c2I : Hp) =>
 K b7C c2I)))))
theorem a3M (x0 : C1) {w0 w : World} {ps0 : Nat → Prop} {H0 H : Hp} {K : Sl → Hp → Prop} {R : Value → World → Prop} {E : Pan} (I : Inv w0 ps0 H0 H [] w) (hR : ∀ (r0 : Sl) (H' : Hp) (w' : World) (_ : Inv w0 ps0 H0 H' [] w') (_ : K r0 H'), R (vs r0) w') (h : N6 x0 H K) : b7a (Value.agg (g8 x0.b3).toArray) w R E := by
 unfold N6 at h
 unfold b7a
 refine J2 I (cs := (g8 x0.b3)) rfl fun g_2 w_3 I_4 k_5 => ?_
 refine a1z I_4 fun w_6 I_7 => ?_
 refine j6 u7 ?_
 refine j6 a6d ?_
 refine j6 u7 ?_
 refine j6 a6c ?_
 refine j6 u7 ?_
 refine j6 a6e ?_
 refine j6 u7 ?_
 refine j6 a0V ?_
 refine G1 (ld1 Tryd.isAgg31 (I_7.at1 (o := 3) (vs := [(vs x0.b3.h7)]) (nb rfl) rfl)) ?_
 refine G1 (ld1 Tryd.isAgg28 (I_7.at1 (o := 2) (vs := [(vs x0.b3.c5)]) (nb rfl) rfl)) ?_
 refine G1 (ld1 Tryd.isAgg23 (I_7.at1 (o := 4) (vs := [(vs x0.b3.C0)]) (nb rfl) rfl)) ?_
 refine G1 (ld1 Tryd.isAgg23 (I_7.at1 (o := 5) (vs := [(vs x0.b3.A8)]) (nb rfl) rfl)) ?_
 refine d6 (cap := []) (fun args w => Tryd.call154 args w) ?_
 refine i7 (Fi := []) (Fr := [bx g_2 177 (g8 x0.b3)]) I_7 (h) (fun d2s H_8 d2t w_9 a6v d2u a9j b4j => ?_) (fun _ _ _ _ _ q => q.elim)
 obtain ⟨a2m, rfl, rfl, h⟩ := b4j
 refine ⟨(a9j _ I_7.lt1 (Inv.a1Y (Fi := []) I_7)), (a9j _ I_7.lt1 (Inv.a1Y (Fi := []) I_7)), (a9j _ I_7.lt1 (Inv.a1Y (Fi := []) I_7)), ?_⟩
 refine d6 (cap := []) (fun args w => Tryd.call150 args w) ?_
 refine i7 (Fi := []) (Fr := [bx g_2 177 (g8 x0.b3)]) a6v (h) (fun d2v a7H d2w t8 a4s d2x b1F b4k => ?_) (fun _ _ _ _ _ q => q.elim)
 obtain ⟨a2o, rfl, rfl, h⟩ := b4k
 refine ⟨(b1F _ a6v.lt1 (Inv.a1Y (Fi := []) a6v)), (b1F _ a6v.lt1 (Inv.a1Y (Fi := []) a6v)), ?_⟩
 refine d6 (cap := []) (fun args w => Tryd.call97 args w) ?_
 refine i7 (Fi := []) (Fr := [bx g_2 177 (g8 x0.b3)]) a4s (h) (fun e4m d2X e4n a3r a4G c2J d2Y e0N => ?_) (fun _ _ _ _ _ q => q.elim)
 obtain ⟨b7A, rfl, rfl, h⟩ := e0N
 refine ⟨(d2Y _ a4s.lt1 (Inv.a1Y (Fi := []) a4s)), ?_⟩
 refine d6 (cap := []) (fun args w => Tryd.call97 args w) ?_
 refine i7 (Fi := []) (Fr := [bx g_2 177 (g8 x0.b3)]) a4G (h) (fun e4o a6w e4p J4 e0O e4q e4r e0P => ?_) (fun _ _ _ _ _ q => q.elim)
 obtain ⟨b7B, rfl, rfl, h⟩ := e0P
 refine a1A (e := 97) (c := csl) (xs := [a2m, a2o, b7A, b7B]) e0O (c1h _ _ _ _ _ _ _ _ _ _ _ _) rfl rfl b2E b2F (nb rfl) fun b1U e4s b6A c2K a7M c2C => ?_
 obtain ⟨b4E, a5v, e0Q, b4B, e0R⟩ := Inv.freezeC a7M c2K (by decide)
 replace h := h b1U b4E e0Q b4B e0R
 refine d6 (cap := []) (fun args w => Tryd.call94 args w) ?_
 refine i7 (Fi := []) (Fr := [bx g_2 177 (g8 x0.b3)]) a5v (h) (fun e4t c2I e4u c2L e0S e4v e4w e0T => ?_) (fun _ _ _ _ _ q => q.elim)
 obtain ⟨b7C, rfl, rfl, h⟩ := e0T
 exact hR b7C c2I _ e0S.drop h
theorem a4I (x0 : C1) {H : Hp} {K : Sl → Hp → Prop} (h : N6 x0 H K) : a0M x0 H K := by
 intro w I
 refine c6y ?_
 refine a3M x0 I (fun r0 H' w' I' hk => ⟨H', _, I', r0, rfl, rfl, hk⟩) h
end Go.Proofs.YthldnpmfelniiaaDoor
