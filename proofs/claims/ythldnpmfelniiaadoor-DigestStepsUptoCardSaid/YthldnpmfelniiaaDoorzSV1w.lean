/- Typed formulas of the program's functions that few laws need; printed by lift.py off the code. -/
import Derived.Test.YthldnpmfelniiaaDoorzSV1
import Derived.Test.YthldnpmfelniiaaDoorzSG1w
namespace Go.Proofs.YthldnpmfelniiaaDoor
open Go.RowKit
set_option maxRecDepth 100000
set_option maxHeartbeats 2000000
def M2 (T4 : Int) (H : Hp) (K : Int → Hp → Prop) : Prop :=
 K T4 H
def M3 (d0A : Sl) (b2g : Int) (a2g : Int) (z1 : Int) (H : Hp) (n2 : (Int × Int) → Hp → Prop) (K : Int → Hp → Prop) : Prop :=
 (z1 < b2g →
 (0 : Int) ≤ z1 ∧ (z1 : Int) < d0A.n ∧ ∃ x_1 : Int, EltH H d0A z1 1 [(Value.int .u8 x_1)] ∧
 n2 ((IntKind.wrap .u64 ((bxorI .u64 a2g (IntKind.wrap .u64 x_1)) * 1099511628211)), (IntKind.wrap .i64 (z1 + 1))) H) ∧
 (¬ (z1 < b2g) →
 M2 a2g H K)
def R4 (x0 : Sl) (H : Hp) (K : Int → Hp → Prop) : Prop :=
 TL ((14695981039346656037, 0) : Int × Int) H fun (s : Int × Int) H n2 => M3 x0 (x0.n : Int) s.1 s.2 H n2 K
theorem a5w (x0 : Sl) {w0 w : World} {ps0 : Nat → Prop} {H0 H : Hp} {K : Int → Hp → Prop} {R : Value → World → Prop} {E : Pan} (I : Inv w0 ps0 H0 H [] w) (hR : ∀ (r0 : Int) (H' : Hp) (w' : World) (_ : Inv w0 ps0 H0 H' [] w') (_ : K r0 H'), R (Value.int .u64 r0) w') (h : R4 x0 H K) : F22 (vs x0) w R E := by
 unfold R4 at h
 unfold F22
 have hj1 : ∀ (T4 : Int) (H : Hp) (w : World) (_ : Inv w0 ps0 H0 H [] w) (_ : M2 T4 H K), b2x (Value.int .u64 T4) w R E := by
  intro T4 H w I h
  unfold b2x
  intro _
  unfold M2 at h
  exact hR T4 H _ I h
 refine t7 fun j1 hx1 => ?_
 refine a7 (a9S _ _ _) ?_
 obtain ⟨J_9, b2H, d5j, d5k⟩ := h
 refine B7 (J := fun n l w => ∃ (s : Int × Int) (H : Hp) , n = b2H s ∧ l = (match s with | (a2g, z1) => [(Value.int .u64 a2g), (vi z1)]) ∧ (match s with | (a2g, z1) => Inv w0 ps0 H0 H [] w) ∧ J_9 s H) ⟨_, (14695981039346656037, 0), H, rfl, rfl, I, d5j⟩ ?_
 rintro d8V τ_14 w next2 ⟨⟨a2g, z1⟩, H, rfl, a9p, I, d5l⟩ hn2
 dsimp only at a9p I
 simp only [List.map_cons, List.map_nil, List.cons.injEq, and_true] at a9p
 obtain ⟨e3, e8⟩ := a9p
 simp only [e3, e8]
 obtain ⟨n2, hm2, h⟩ : ∃ n2 : (Int × Int) → Hp → Prop, (∀ s' H', n2 s' H' → J_9 s' H' ∧ b2H s' < b2H (a2g, z1)) ∧ M3 x0 (x0.n : Int) a2g z1 H n2 K := ⟨_, fun _ _ h => h, d5k (a2g, z1) H (fun s' H' => J_9 s' H' ∧ b2H s' < b2H (a2g, z1)) d5l (fun _ _ a b => ⟨a, b⟩)⟩
 unfold b7p
 unfold M3 at h
 refine a7 (E7 _ _ _ _ _ _) ?_
 refine d8 (fun c_8 => ?_) (fun c_8 => ?_)
 ·replace h := h.1 c_8
  obtain ⟨h_4, h_5, x_1, h_7, h⟩ := h
  obtain ⟨g_2, o_3, h_6, h_7⟩ := h_7
  refine a7 (b0I h_6 _ _ _ _ h_4 h_5) ?_
  refine b7 (ld1 (v := (Value.int .u8 x_1)) Tryd.isAgg5 (I.atH h_7)) ?_
  refine a7 (a7S _ _) ?_
  refine a7 (b3d _ _ _ _ _ _) ?_
  refine a7 (b0y _ _ _ _ _ _) ?_
  refine a7 (A6 _ _ _ _ _ _) ?_
  exact hn2 _ _ _ (hm2 _ _ h).2 ⟨((IntKind.wrap .u64 ((bxorI .u64 a2g (IntKind.wrap .u64 x_1)) * 1099511628211)), (IntKind.wrap .i64 (z1 + 1))), H, rfl, rfl, I, (hm2 _ _ h).1⟩
 ·replace h := h.2 c_8
  exact hx1 _ _ (hj1 a2g H _ I h)
theorem a6n (x0 : Sl) {H : Hp} {K : Int → Hp → Prop} (h : R4 x0 H K) : R1 x0 H K := by
 intro w I
 refine c8R ?_
 refine a5w x0 I (fun r0 H' w' I' hk => ⟨H', _, I', r0, rfl, rfl, hk⟩) h
def A5 (x0 : Sl) (x1 : Int) (H : Hp) (K : Bool → Hp → Prop) : Prop :=
 W0 H (fun (A8 : Bool) (H_1 : Hp) =>
 ((!A8) = true →
 K false H_1) ∧
 ((!A8) = false →
 ∃ a6P : List Int, SlH H_1 1 f9 x0 a6P ∧ (([] : List Int).length + a6P.length) * 2 ≤ 140737488355328 ∧
 (a6P.length + ([x1] : List Int).length) * 2 ≤ 140737488355328 ∧
 ∀ (T3 : Sl) (a3X : Hp), Hle H_1 a3X → SlH a3X 1 f9 T3 (a6P ++ [x1]) → T3.n ≤ T3.c →
 R1 T3 a3X (fun (b4W : Int) (F7 : Hp) =>
 R1 x0 F7 (fun (b4X : Int) (b9X : Hp) =>
 K (decide (b4W = (IntKind.wrap .u64 ((bxorI .u64 b4X (IntKind.wrap .u64 x1)) * 1099511628211)))) b9X))))
theorem a0j (x0 : Sl) (x1 : Int) {w0 w : World} {ps0 : Nat → Prop} {H0 H : Hp} {K : Bool → Hp → Prop} {R : Value → World → Prop} {E : Pan} (I : Inv w0 ps0 H0 H [] w) (hR : ∀ (r0 : Bool) (H' : Hp) (w' : World) (_ : Inv w0 ps0 H0 H' [] w') (_ : K r0 H'), R (Value.bool r0) w') (h : A5 x0 x1 H K) : F5 (vs x0) (Value.int .u8 x1) w R E := by
 unfold A5 at h
 unfold F5
 refine d6 (cap := []) (fun args w => Tryd.call21 args w) ?_
 refine i2 (Fi := []) (Fr := []) I (h) (fun v_5 H_1 F_6 w_2 I_3 l_8 k_4 q_7 => ?_) (fun _ _ _ _ _ q => q.elim)
 obtain ⟨A8, rfl, rfl, h⟩ := q_7
 refine a7 (A7 _) ?_
 refine o4 (fun b9Y => ?_) (fun b9Y => ?_)
 ·replace h := h.1 b9Y
  exact hR false H_1 _ I_3 h
 ·replace h := h.2 b9Y
  obtain ⟨a6P, b9Z, h⟩ := h
  obtain ⟨d5m, h⟩ := h
  refine a4f (s := ⟨none, 0, 0⟩) (xs := []) I_3.nil (RowL.nil Q8 T8) (SlH.src I_3.nil b9Z Q8) d5m fun d5n d8W a1X d0B a7z b4y => ?_
  simp only [List.nil_append] at d0B
  refine a0S (e := 5) (c := f9) (xs := [x1]) a7z (a4g _) rfl rfl Q8 T8 (nb rfl) fun d8X b8m a7n b8v a0A c8C => ?_
  obtain ⟨d5o, h⟩ := h
  refine a4f (s := d5n) (xs := a6P) (a0A.bring 1) d0B (b8v.srcO ((a0A.bring 1).bring 1)) d5o fun T3 b8n c8h b1O a4W b4t => ?_
  obtain ⟨a3X, d5p, d5q, b1R, a2V⟩ := Inv.freezeC (a4W.bring 1).drop b1O (by decide)
  replace h := h T3 a3X d5q b1R a2V
  refine d6 (cap := []) (fun args w => Tryd.call22 args w) ?_
  refine i2 (Fi := []) (Fr := []) d5p (h) (fun d8Y F7 d5r G2 a9t d8Z c8r d5s => ?_) (fun _ _ _ _ _ q => q.elim)
  obtain ⟨b4W, rfl, rfl, h⟩ := d5s
  refine d6 (cap := []) (fun args w => Tryd.call22 args w) ?_
  refine i2 (Fi := []) (Fr := []) a9t (h) (fun d9a b9X d9b b8b b4Y d9c d5t d5u => ?_) (fun _ _ _ _ _ q => q.elim)
  obtain ⟨b4X, rfl, rfl, h⟩ := d5u
  refine a7 (a7S _ _) ?_
  refine a7 (b3d _ _ _ _ _ _) ?_
  refine a7 (b0y _ _ _ _ _ _) ?_
  refine a7 (f4 _ _ _ _ _ _) ?_
  exact hR (decide (b4W = (IntKind.wrap .u64 ((bxorI .u64 b4X (IntKind.wrap .u64 x1)) * 1099511628211)))) b9X _ b4Y h
theorem a0B (x0 : Sl) (x1 : Int) {H : Hp} {K : Bool → Hp → Prop} (h : A5 x0 x1 H K) : E6 x0 x1 H K := by
 intro w I
 refine d1E ?_
 refine a0j x0 x1 I (fun r0 H' w' I' hk => ⟨H', _, I', r0, rfl, rfl, hk⟩) h
def D2 (a3I : Q4) (_cr_1l2 : Q4) (O2 : Int) (P0 : (List Int)) (H : Hp) (n2 : (Int × (List Int)) → Hp → Prop) (K : Sl → (List Int) → Hp → Prop) : Prop :=
 (O2 < 4 →
 (0 : Int) ≤ O2 ∧ (O2 : Int) < 4 ∧
 (P0.length + ([IntKind.wrap .u8 (([a3I.f0, a3I.f1, a3I.f2, a3I.f3] : List Int).getD (O2 : Int).toNat 0)] : List Int).length) * 2 ≤ 140737488355328 ∧
 n2 ((IntKind.wrap .i64 (O2 + 1)), (P0 ++ [IntKind.wrap .u8 (([a3I.f0, a3I.f1, a3I.f2, a3I.f3] : List Int).getD (O2 : Int).toNat 0)])) H) ∧
 (¬ (O2 < 4) →
 K (Sl.mk none 0 0) P0 H)
def D3 (T4 : ByteArray) (a0k : (List Int)) (cr_1j1 : Q4) (H : Hp) (K : Sl → (List Int) → Hp → Prop) : Prop :=
 ((a0k : List Int).length + T4.size) * 2 ≤ 140737488355328 ∧
 ((a0k ++ (sbytes T4)).length + ([0] : List Int).length) * 2 ≤ 140737488355328 ∧
 TL ((0, ((a0k ++ (sbytes T4)) ++ [0])) : Int × (List Int)) H fun (s : Int × (List Int)) H n2 => D2 cr_1j1 cr_1j1 s.1 s.2 H n2 K
def D4 (d0C : Int) (d5v : ByteArray) (cr_1l3 : Q4) (P8 : Int) (P1 : (List Int)) (H : Hp) (n3 : (Int × (List Int)) → Hp → Prop) (K : Sl → (List Int) → Hp → Prop) : Prop :=
 (P8 < 8 →
 (0 : Int) ≤ IntKind.wrap .i64 (56 - (IntKind.wrap .i64 (8 * P8))) ∧
 (P1.length + ([IntKind.wrap .u8 (shrI .u64 (IntKind.wrap .u64 d0C) (IntKind.wrap .i64 (56 - (IntKind.wrap .i64 (8 * P8)))))] : List Int).length) * 2 ≤ 140737488355328 ∧
 n3 ((IntKind.wrap .i64 (P8 + 1)), (P1 ++ [IntKind.wrap .u8 (shrI .u64 (IntKind.wrap .u64 d0C) (IntKind.wrap .i64 (56 - (IntKind.wrap .i64 (8 * P8)))))])) H) ∧
 (¬ (P8 < 8) →
 D3 d5v P1 cr_1l3 H K)
def J7 (x0 : Int) (x1 : Int) (x2 : Int) (x3 : ByteArray) (x4 : Q4) (_x5 : Sl) (x5_ : (List Int)) (H : Hp) (K : Sl → (List Int) → Hp → Prop) : Prop :=
 (x5_.length + ([x0, IntKind.wrap .u8 x1] : List Int).length) * 2 ≤ 140737488355328 ∧
 TL ((0, (x5_ ++ [x0, IntKind.wrap .u8 x1])) : Int × (List Int)) H fun (s : Int × (List Int)) H n3 => D4 x2 x3 x4 s.1 s.2 H n3 K
theorem a3l (x0 : Int) (x1 : Int) (x2 : Int) (x3 : ByteArray) (x4 : Q4) (x5 : Sl) (x5_ : (List Int)) (g5 : Nat) (sx5_ : Sl) (Fx5_ : Frag) (hx5_ : RowL 5 1 f9 sx5_ x5_ Fx5_) {w0 w : World} {ps0 : Nat → Prop} {H0 H : Hp} {K : Sl → (List Int) → Hp → Prop} {R : Value → World → Prop} {E : Pan} (I : Inv w0 ps0 H0 H [bx g5 40 [(vs sx5_)], Fx5_] w) (hR : ∀ (y0 : Sl) (y0_ : (List Int)) (sy0_ : Sl) (Fy0_ : Frag) (H' : Hp) (w' : World) (_ : RowL 5 1 f9 sy0_ y0_ Fy0_) (_ : Inv w0 ps0 H0 H' [bx g5 40 [(vs sy0_)], Fy0_] w') (_ : K y0 y0_ H'), R (Value.tuple #[]) w') (h : J7 x0 x1 x2 x3 x4 x5 x5_ H K) : F68 (Value.int .u8 x0) (vi x1) (vi x2) (Value.string x3) (Value.agg #[(vi x4.f0), (vi x4.f1), (vi x4.f2), (vi x4.f3)]) (Value.pointer (some ⟨g5, 0, none⟩)) w R E := by
 unfold J7 at h
 unfold F68
 refine M1 I (cs := [(vi x4.f0), (vi x4.f1), (vi x4.f2), (vi x4.f3)]) rfl fun g_2 w_3 I_4 k_5 => ?_
 refine b7 (ld1 Tryd.isAgg40 ((I_4.bring 1).at1 (o := 0) (vs := [(vs sx5_)]) (nb rfl) rfl)) ?_
 refine a7 (a9T _ _) ?_
 refine a0S (e := 5) (c := f9) (xs := [x0, IntKind.wrap .u8 x1]) I_4 (c1g _ _) rfl rfl Q8 T8 (nb rfl) fun s_7 F_8 w_9 d5w a0b a9m => ?_
 obtain ⟨b9Z, h⟩ := h
 refine a4f (s := sx5_) (xs := x5_) (a0b.bring 3) hx5_ (d5w.srcO ((a0b.bring 3).bring 1)) b9Z fun c0a c8k a5H d5x b9v d4J => ?_
 refine o3 ((b9v.bring 1).drop.bring 2) Tryd.sizeOf40 (vs := [(vs c0a)]) (cs' := [(vs c0a)]) rfl rfl (nb rfl) rfl rfl fun r7 a9C b9k => ?_
 have hj1 : ∀ (a0k : (List Int)) (a6o : Sl) (Fcp5j1 : Frag) (H : Hp) (w : World) (_ : RowL 5 1 f9 a6o a0k Fcp5j1) (_ : Inv w0 ps0 H0 H [bx g5 40 [(vs a6o)], bx g_2 114 [(vi x4.f0), (vi x4.f1), (vi x4.f2), (vi x4.f3)], Fcp5j1] w) (_ : D3 x3 a0k x4 H K), b2B (Value.string x3) (Value.pointer (some ⟨g5, 0, none⟩)) (Value.pointer (some ⟨g_2, 0, none⟩)) w R E := by
  intro a0k a6o Fcp5j1 H w d0D I h
  unfold b2B
  intro _
  unfold D3 at h
  refine b7 (ld1 Tryd.isAgg40 (I.at1 (o := 0) (vs := [(vs a6o)]) (nb rfl) rfl)) ?_
  obtain ⟨d5y, h⟩ := h
  refine b6k (s := a6o) (xs := a0k) (b := x3) (I.bring 2) d0D d5y fun d5z d5r b8a d5A c0b d5B => ?_
  refine a0S (e := 5) (c := f9) (xs := [0]) c0b (a4g _) rfl rfl Q8 T8 (nb rfl) fun d9d d4N d4n a3e d0E d9e => ?_
  obtain ⟨d5C, h⟩ := h
  refine a4f (s := d5z) (xs := a0k ++ (sbytes x3)) (d0E.bring 1) d5A (a3e.srcO ((d0E.bring 1).bring 1)) d5C fun b1U d5D b9W d5E b2I d5F => ?_
  refine o3 ((b2I.bring 1).drop.bring 1) Tryd.sizeOf40 (vs := [(vs b1U)]) (cs' := [(vs b1U)]) rfl rfl (nb rfl) rfl rfl fun S9 b4Z d5G => ?_
  refine b7 (ldA Tryd.isAgg114 Tryd.sizeOf114 rfl ((b4Z.bring 2).at1 (o := 0) (vs := [(vi x4.f0), (vi x4.f1), (vi x4.f2), (vi x4.f3)]) (nb rfl) rfl)) ?_
  obtain ⟨b5a, a8D, d1P, d1Q⟩ := h
  refine B7 (J := fun n l w => ∃ (s : Int × (List Int)) (H : Hp) (a4p : Sl) (Fcp5l2 : Frag) , n = a8D s ∧ l = (match s with | (O2, P0) => [(vi O2)]) ∧ (match s with | (O2, P0) => RowL 5 1 f9 a4p P0 Fcp5l2) ∧ (match s with | (O2, P0) => Inv w0 ps0 H0 H [bx g5 40 [(vs a4p)], bx g_2 114 [(vi x4.f0), (vi x4.f1), (vi x4.f2), (vi x4.f3)], Fcp5l2] w) ∧ b5a s H) ⟨_, (0, ((a0k ++ (sbytes x3)) ++ [0])), H, b1U, d5D, rfl, rfl, d5E, (((b4Z.bring 1).bring 2).bring 2), d1P⟩ ?_
  rintro d6p τ_120 w next2 ⟨⟨O2, P0⟩, H, a4p, Fcp5l2, rfl, b0r, b2J, I, d1R⟩ hn2
  dsimp only at b0r I b2J
  simp only [List.map_cons, List.map_nil, List.cons.injEq, and_true] at b0r
  have e40 := b0r
  simp only [e40]
  obtain ⟨n2, hm2, h⟩ : ∃ n2 : (Int × (List Int)) → Hp → Prop, (∀ s' H', n2 s' H' → b5a s' H' ∧ a8D s' < a8D (O2, P0)) ∧ D2 x4 x4 O2 P0 H n2 K := ⟨_, fun _ _ h => h, d1Q (O2, P0) H (fun s' H' => b5a s' H' ∧ a8D s' < a8D (O2, P0)) d1R (fun _ _ a b => ⟨a, b⟩)⟩
  unfold b7s
  unfold D2 at h
  refine a7 (E7 _ _ _ _ _ _) ?_
  refine d8 (fun b5b => ?_) (fun b5b => ?_)
  ·replace h := h.1 b5b
   obtain ⟨d5H, d5I, h⟩ := h
   refine a7 (b3J _ _ _ _ _ _ d5H d5I) ?_
   refine b7 (ld1 Tryd.isAgg40 (I.at1 (o := 0) (vs := [(vs a4p)]) (nb rfl) rfl)) ?_
   refine a7 (a9T _ _) ?_
   refine a0S (e := 5) (c := f9) (xs := [IntKind.wrap .u8 (([x4.f0, x4.f1, x4.f2, x4.f3] : List Int).getD (O2 : Int).toNat 0)]) I (a4g _) rfl rfl Q8 T8 (nb rfl) fun d9f d9g a1b d1S c0F d6q => ?_
   obtain ⟨d1T, h⟩ := h
   refine a4f (s := a4p) (xs := P0) (c0F.bring 3) b2J (d1S.srcO ((c0F.bring 3).bring 1)) d1T fun a8E d1U a4L d1V d1W d6r => ?_
   refine o3 ((d1W.bring 1).drop.bring 1) Tryd.sizeOf40 (vs := [(vs a8E)]) (cs' := [(vs a8E)]) rfl rfl (nb rfl) rfl rfl fun d1X a6Q d1Y => ?_
   refine a7 (A6 _ _ _ _ _ _) ?_
   exact hn2 _ _ _ (hm2 _ _ h).2 ⟨((IntKind.wrap .i64 (O2 + 1)), (P0 ++ [IntKind.wrap .u8 (([x4.f0, x4.f1, x4.f2, x4.f3] : List Int).getD (O2 : Int).toNat 0)])), H, a8E, d1U, rfl, rfl, d1V, (((a6Q.bring 1).bring 2).bring 2), (hm2 _ _ h).1⟩
  ·replace h := h.2 b5b
   exact hR (Sl.mk none 0 0) P0 a4p Fcp5l2 H _ b2J (((I.bring 1).drop.bring 1).bring 1) h
 refine t7 fun j1 hx1 => ?_
 obtain ⟨b5c, a8F, d1Z, d2a⟩ := h
 refine B7 (J := fun n l w => ∃ (s : Int × (List Int)) (H : Hp) (a4q : Sl) (Fcp5l3 : Frag) , n = a8F s ∧ l = (match s with | (P8, P1) => [(vi P8)]) ∧ (match s with | (P8, P1) => RowL 5 1 f9 a4q P1 Fcp5l3) ∧ (match s with | (P8, P1) => Inv w0 ps0 H0 H [bx g5 40 [(vs a4q)], bx g_2 114 [(vi x4.f0), (vi x4.f1), (vi x4.f2), (vi x4.f3)], Fcp5l3] w) ∧ b5c s H) ⟨_, (0, (x5_ ++ [x0, IntKind.wrap .u8 x1])), H, c0a, c8k, rfl, rfl, d5x, (((a9C.bring 1).bring 2).bring 2), d1Z⟩ ?_
 rintro d6s τ_158 w next3 ⟨⟨P8, P1⟩, H, a4q, Fcp5l3, rfl, b5d, b2K, I, d2b⟩ hn3
 dsimp only at b5d I b2K
 simp only [List.map_cons, List.map_nil, List.cons.injEq, and_true] at b5d
 have e20 := b5d
 simp only [e20]
 obtain ⟨n3, hm3, h⟩ : ∃ n3 : (Int × (List Int)) → Hp → Prop, (∀ s' H', n3 s' H' → b5c s' H' ∧ a8F s' < a8F (P8, P1)) ∧ D4 x2 x3 x4 P8 P1 H n3 K := ⟨_, fun _ _ h => h, d2a (P8, P1) H (fun s' H' => b5c s' H' ∧ a8F s' < a8F (P8, P1)) d2b (fun _ _ a b => ⟨a, b⟩)⟩
 unfold b7t
 unfold D4 at h
 refine a7 (E7 _ _ _ _ _ _) ?_
 refine d8 (fun b5e => ?_) (fun b5e => ?_)
 ·replace h := h.1 b5e
  refine a7f I fun c0v b5f => ?_
  refine s6 (b3H _ _) ?_
  refine s6 (b0y _ _ _ _ _ _) ?_
  refine s6 (b0x _ _ _ _ _ _) ?_
  obtain ⟨d2c, h⟩ := h
  refine s6 (c1d _ _ _ _ _ _ _ d2c) ?_
  refine s6 (b3I _ _) ?_
  refine T5 (ld1 Tryd.isAgg40 (b5f.at1 (o := 0) (vs := [(vs a4q)]) (nb rfl) rfl)) ?_
  refine a0S (e := 5) (c := f9) (xs := [IntKind.wrap .u8 (shrI .u64 (IntKind.wrap .u64 x2) (IntKind.wrap .i64 (56 - (IntKind.wrap .i64 (8 * P8)))))]) b5f (a4g _) rfl rfl Q8 T8 (nb rfl) fun d6t d6u c0t d2d c0G d2e => ?_
  refine ⟨(d2e _ b5f.lt1), ?_⟩
  obtain ⟨d2f, h⟩ := h
  refine a4f (s := a4q) (xs := P1) (c0G.bring 3) b2K (d2d.srcO ((c0G.bring 3).bring 1)) d2f fun b5g d2g b4i d2h d2i d6v => ?_
  refine o3 ((d2i.bring 1).drop.bring 1) Tryd.sizeOf40 (vs := [(vs b5g)]) (cs' := [(vs b5g)]) rfl rfl (nb rfl) rfl rfl fun d6w d2j d6x => ?_
  refine a7 (A6 _ _ _ _ _ _) ?_
  exact hn3 _ _ _ (hm3 _ _ h).2 ⟨((IntKind.wrap .i64 (P8 + 1)), (P1 ++ [IntKind.wrap .u8 (shrI .u64 (IntKind.wrap .u64 x2) (IntKind.wrap .i64 (56 - (IntKind.wrap .i64 (8 * P8)))))])), H, b5g, d2g, rfl, rfl, d2h, (((d2j.bring 1).bring 2).bring 2), (hm3 _ _ h).1⟩
 ·replace h := h.2 b5e
  exact hx1 _ _ (hj1 P1 a4q Fcp5l3 H _ b2K (((I.bring 2).bring 2).bring 2) h)
theorem a3v (x0 : Int) (x1 : Int) (x2 : Int) (x3 : ByteArray) (x4 : Q4) (x5 : Sl) (x5_ : (List Int)) {H : Hp} {K : Sl → (List Int) → Hp → Prop} (h : J7 x0 x1 x2 x3 x4 x5 x5_ H K) : z8 x0 x1 x2 x3 x4 x5 x5_ H K := by
 intro g5 sx5_ Fx5_ hx5_ w I
 refine c9G ?_
 refine a3l x0 x1 x2 x3 x4 x5 x5_ g5 sx5_ Fx5_ hx5_ I (fun y0 y0_ sy0_ Fy0_ H' w' khy0_ I' hk => ⟨H', _, I', y0, y0_, sy0_, Fy0_, rfl, rfl, khy0_, hk⟩) h
def D5 (c0H : Sl) (c0I : Int) (_cr_1l1 : o5) (S4 : Int) (q5 : (List Int)) (H : Hp) (n1 : (Int × (List Int)) → Hp → Prop) (K : Sl → (List Int) → Hp → Prop) : Prop :=
 (S4 < c0I →
 (0 : Int) ≤ S4 ∧ (S4 : Int) < c0H.n ∧ ∃ a1q : o5, EltH H c0H S4 4 (c9 a1q) ∧
 C3 a1q (Sl.mk none 0 0) q5 H (fun (_y0_71 : Sl) (y0__71 : (List Int)) (c0c : Hp) =>
 n1 ((IntKind.wrap .i64 (S4 + 1)), y0__71) c0c)) ∧
 (¬ (S4 < c0I) →
 K (Sl.mk none 0 0) q5 H)
def J8 (x0 : o5) (_x1000 : Sl) (x1000_ : (List Int)) (H : Hp) (K : Sl → (List Int) → Hp → Prop) : Prop :=
 z8 69 x0.c7 x0.R5 x0.g9 (Q4.mk 0 (x0.q8.n : Int) 0 0) (Sl.mk none 0 0) x1000_ H (fun (_y0_14 : Sl) (y0__14 : (List Int)) (H_6 : Hp) =>
 TL ((0, y0__14) : Int × (List Int)) H_6 fun (s : Int × (List Int)) H n1 => D5 x0.q8 (x0.q8.n : Int) x0 s.1 s.2 H n1 K)
theorem a3m (x0 : o5) (x1000 : Sl) (x1000_ : (List Int)) (g1 g2 g1000 : Nat) (sx1000_ : Sl) (Fx1000_ : Frag) (hx1000_ : RowL 5 1 f9 sx1000_ x1000_ Fx1000_) {w0 w : World} {ps0 : Nat → Prop} {H0 H : Hp} {K : Sl → (List Int) → Hp → Prop} {R : Value → World → Prop} {E : Pan} (I : Inv w0 ps0 H0 H [bx g1 115 [(Value.func (.func 68) #[] #[(Value.pointer (some ⟨g1000, 0, none⟩))])], bx g2 103 [(Value.func (.func 69) #[] #[(Value.pointer (some ⟨g1, 0, none⟩)), (Value.pointer (some ⟨g2, 0, none⟩))])], bx g1000 40 [(vs sx1000_)], Fx1000_] w) (hR : ∀ (y0 : Sl) (y0_ : (List Int)) (sy0_ : Sl) (Fy0_ : Frag) (H' : Hp) (w' : World) (_ : RowL 5 1 f9 sy0_ y0_ Fy0_) (_ : Inv w0 ps0 H0 H' [bx g1 115 [(Value.func (.func 68) #[] #[(Value.pointer (some ⟨g1000, 0, none⟩))])], bx g2 103 [(Value.func (.func 69) #[] #[(Value.pointer (some ⟨g1, 0, none⟩)), (Value.pointer (some ⟨g2, 0, none⟩))])], bx g1000 40 [(vs sy0_)], Fy0_] w') (_ : K y0 y0_ H'), R (Value.tuple #[]) w') (h : J8 x0 x1000 x1000_ H K) : F69 (Value.agg (c9 x0).toArray) (Value.pointer (some ⟨g1, 0, none⟩)) (Value.pointer (some ⟨g2, 0, none⟩)) w R E := by
 unfold J8 at h
 unfold F69
 refine M1 I (cs := (c9 x0)) rfl fun g_2 w_3 I_4 k_5 => ?_
 refine b7 (ld1 Tryd.isAgg115 ((I_4.bring 1).at1 (o := 0) (vs := [(Value.func (.func 68) #[] #[(Value.pointer (some ⟨g1000, 0, none⟩))])]) (nb rfl) rfl)) ?_
 refine a7 T9 ?_
 refine b7 (ld1 Tryd.isAgg3 (I_4.at1 (o := 0) (vs := [(vi x0.c7)]) (nb rfl) rfl)) ?_
 refine a7 a0W ?_
 refine b7 (ld1 Tryd.isAgg2 (I_4.at1 (o := 1) (vs := [(vi x0.R5)]) (nb rfl) rfl)) ?_
 refine a7 Y5 ?_
 refine b7 (ld1 Tryd.isAgg9 (I_4.at1 (o := 2) (vs := [(Value.string x0.g9)]) (nb rfl) rfl)) ?_
 refine a7 a2i ?_
 refine b7 (ld1 Tryd.isAgg28 (I_4.at1 (o := 3) (vs := [(vs x0.q8)]) (nb rfl) rfl)) ?_
 refine a7 (O3 _ _ _) ?_
 refine a7 (a4h _ _) ?_
 refine d6 (cap := [(Value.pointer (some ⟨g1000, 0, none⟩))]) (fun args w => Tryd.call68 args w) ?_
 refine i2 (Fi := [bx g1000 40 [(vs sx1000_)], Fx1000_]) (Fr := [bx g_2 30 (c9 x0), bx g1 115 [(Value.func (.func 68) #[] #[(Value.pointer (some ⟨g1000, 0, none⟩))])], bx g2 103 [(Value.func (.func 69) #[] #[(Value.pointer (some ⟨g1, 0, none⟩)), (Value.pointer (some ⟨g2, 0, none⟩))])]]) ((I_4.bring 4).bring 4) (h g1000 sx1000_ Fx1000_ hx1000_) (fun a9w H_6 a9x w_7 I_8 a9y k_9 a1F => ?_) (fun _ _ _ _ _ q => q.elim)
 obtain ⟨d2k, y0__14, sy0__14, Fy0__14, rfl, rfl, hy0__14, h⟩ := a1F
 refine a7 a2i ?_
 refine b7 (ld1 Tryd.isAgg28 ((I_8.bring 2).at1 (o := 3) (vs := [(vs x0.q8)]) (nb rfl) rfl)) ?_
 refine a7 (O3 _ _ _) ?_
 obtain ⟨c0d, b2L, d5J, d5K⟩ := h
 refine B7 (J := fun n l w => ∃ (s : Int × (List Int)) (H : Hp) (F0 : Sl) (Fcp1000l1 : Frag) , n = b2L s ∧ l = (match s with | (S4, q5) => [(vi S4)]) ∧ (match s with | (S4, q5) => RowL 5 1 f9 F0 q5 Fcp1000l1) ∧ (match s with | (S4, q5) => Inv w0 ps0 H0 H [bx g1000 40 [(vs F0)], bx g_2 30 (c9 x0), bx g1 115 [(Value.func (.func 68) #[] #[(Value.pointer (some ⟨g1000, 0, none⟩))])], bx g2 103 [(Value.func (.func 69) #[] #[(Value.pointer (some ⟨g1, 0, none⟩)), (Value.pointer (some ⟨g2, 0, none⟩))])], Fcp1000l1] w) ∧ c0d s H) ⟨_, (0, y0__14), H_6, sy0__14, Fy0__14, rfl, rfl, hy0__14, (((((I_8.bring 1).bring 4).bring 4).bring 4).bring 4), d5J⟩ ?_
 rintro d9h τ_78 w next1 ⟨⟨S4, q5⟩, H, F0, Fcp1000l1, rfl, a5R, Y2, I, d5L⟩ hn1
 dsimp only at a5R I Y2
 simp only [List.map_cons, List.map_nil, List.cons.injEq, and_true] at a5R
 have e21 := a5R
 simp only [e21]
 obtain ⟨n1, hm1, h⟩ : ∃ n1 : (Int × (List Int)) → Hp → Prop, (∀ s' H', n1 s' H' → c0d s' H' ∧ b2L s' < b2L (S4, q5)) ∧ D5 x0.q8 (x0.q8.n : Int) x0 S4 q5 H n1 K := ⟨_, fun _ _ h => h, d5K (S4, q5) H (fun s' H' => c0d s' H' ∧ b2L s' < b2L (S4, q5)) d5L (fun _ _ a b => ⟨a, b⟩)⟩
 unfold b7u
 unfold D5 at h
 refine a7 (E7 _ _ _ _ _ _) ?_
 refine d8 (fun a7I => ?_) (fun a7I => ?_)
 ·replace h := h.1 a7I
  obtain ⟨b9p, b9q, a1q, a3e, h⟩ := h
  obtain ⟨d4F, d4G, b9r, a3e⟩ := a3e
  refine a7 (a4y b9r _ _ _ _ b9p b9q) ?_
  refine b7 (ldA (vs := (c9 a1q)) Tryd.isAgg30 Tryd.sizeOf30 rfl (I.atH a3e)) ?_
  refine y8 I Tryd.zeroValue30 (cs := [(vi 0), (vi 0), (Value.string ⟨#[]⟩), (Value.slice none 0 0)]) rfl fun d5M b2j b9F d5d => ?_
  refine o3 b9F Tryd.sizeOf30 (vs := (c9 a1q)) (cs' := (c9 a1q)) rfl rfl (nb rfl) rfl rfl fun W4 b2I d5F => ?_
  refine b7 (ld1 Tryd.isAgg103 ((b2I.bring 4).at1 (o := 0) (vs := [(Value.func (.func 69) #[] #[(Value.pointer (some ⟨g1, 0, none⟩)), (Value.pointer (some ⟨g2, 0, none⟩))])]) (nb rfl) rfl)) ?_
  refine b7 (ldA Tryd.isAgg30 Tryd.sizeOf30 rfl (b2I.at1 (o := 0) (vs := (c9 a1q)) (nb rfl) rfl)) ?_
  refine d6 (cap := [(Value.pointer (some ⟨g1, 0, none⟩)), (Value.pointer (some ⟨g2, 0, none⟩))]) (fun args w => Tryd.call69 args w) ?_
  refine i2 (Fi := [bx g1 115 [(Value.func (.func 68) #[] #[(Value.pointer (some ⟨g1000, 0, none⟩))])], bx g2 103 [(Value.func (.func 69) #[] #[(Value.pointer (some ⟨g1, 0, none⟩)), (Value.pointer (some ⟨g2, 0, none⟩))])], bx g1000 40 [(vs F0)], Fcp1000l1]) (Fr := [bx d5M 30 (c9 a1q), bx g_2 30 (c9 x0)]) ((((b2I.bring 5).bring 2).bring 5).bring 5) (h g1 g2 g1000 F0 Fcp1000l1 Y2) (fun d9i c0c d9j S9 b4Z b9s d5G d5N => ?_) (fun _ _ _ _ _ q => q.elim)
  obtain ⟨d6y, y0__71, sy0__71, Fy0__71, rfl, rfl, hy0__71, h⟩ := d5N
  refine a7 (A6 _ _ _ _ _ _) ?_
  exact hn1 _ _ _ (hm1 _ _ h).2 ⟨((IntKind.wrap .i64 (S4 + 1)), y0__71), c0c, sy0__71, Fy0__71, rfl, rfl, hy0__71, ((((((b4Z.bring 4).drop.bring 3).bring 2).bring 2).bring 4).bring 4), (hm1 _ _ h).1⟩
 ·replace h := h.2 a7I
  exact hR (Sl.mk none 0 0) q5 F0 Fcp1000l1 H _ Y2 (((((I.bring 1).drop.bring 3).bring 1).bring 3).bring 3) h
theorem a3w (x0 : o5) (x1000 : Sl) (x1000_ : (List Int)) {H : Hp} {K : Sl → (List Int) → Hp → Prop} (h : J8 x0 x1000 x1000_ H K) : C3 x0 x1000 x1000_ H K := by
 intro g1 g2 g1000 sx1000_ Fx1000_ hx1000_ w I
 refine c9K ?_
 refine a3m x0 x1000 x1000_ g1 g2 g1000 sx1000_ Fx1000_ hx1000_ I (fun y0 y0_ sy0_ Fy0_ H' w' khy0_ I' hk => ⟨H', _, I', y0, y0_, sy0_, Fy0_, rfl, rfl, khy0_, hk⟩) h
def D6 (c0J : Sl) (c0K : Int) (_cr_1l2 : o9) (S5 : Int) (I1 : (List Int)) (H : Hp) (n2 : (Int × (List Int)) → Hp → Prop) (K : Sl → (List Int) → Hp → Prop) : Prop :=
 (S5 < c0K →
 (0 : Int) ≤ S5 ∧ (S5 : Int) < c0J.n ∧ ∃ a6p : o9, EltH H c0J S5 4 (d7 a6p) ∧
 J2 a6p (Sl.mk none 0 0) I1 H (fun (_y0_95 : Sl) (y0__95 : (List Int)) (c0e : Hp) =>
 n2 ((IntKind.wrap .i64 (S5 + 1)), y0__95) c0e)) ∧
 (¬ (S5 < c0K) →
 K (Sl.mk none 0 0) I1 H)
def D7 (a0I : (List Int)) (cr_1j1 : o9) (H : Hp) (K : Sl → (List Int) → Hp → Prop) : Prop :=
 TL ((0, a0I) : Int × (List Int)) H fun (s : Int × (List Int)) H n2 => D6 cr_1j1.j6 (cr_1j1.j6.n : Int) cr_1j1 s.1 s.2 H n2 K
def D8 (c0L : Sl) (c0M : Int) (cr_1l3 : o9) (N5 : Int) (I8 : (List Int)) (H : Hp) (n3 : (Int × (List Int)) → Hp → Prop) (K : Sl → (List Int) → Hp → Prop) : Prop :=
 (N5 < c0M →
 (0 : Int) ≤ N5 ∧ (N5 : Int) < c0L.n ∧ ∃ a3J : o5, EltH H c0L N5 4 (c9 a3J) ∧
 C3 a3J (Sl.mk none 0 0) I8 H (fun (_y0_137 : Sl) (y0__137 : (List Int)) (b5h : Hp) =>
 n3 ((IntKind.wrap .i64 (N5 + 1)), y0__137) b5h)) ∧
 (¬ (N5 < c0M) →
 D7 I8 cr_1l3 H K)
def J9 (x0 : o9) (_x1000 : Sl) (x1000_ : (List Int)) (H : Hp) (K : Sl → (List Int) → Hp → Prop) : Prop :=
 z8 67 x0.c7 x0.fOp ⟨#[]⟩ (Q4.mk (x0.j6.n : Int) (x0.b8.n : Int) 0 0) (Sl.mk none 0 0) x1000_ H (fun (_y0_14 : Sl) (y0__14 : (List Int)) (H_6 : Hp) =>
 TL ((0, y0__14) : Int × (List Int)) H_6 fun (s : Int × (List Int)) H n3 => D8 x0.b8 (x0.b8.n : Int) x0 s.1 s.2 H n3 K)
theorem a3o (x0 : o9) (x1000 : Sl) (x1000_ : (List Int)) (g1 g2 g3 g1000 : Nat) (sx1000_ : Sl) (Fx1000_ : Frag) (hx1000_ : RowL 5 1 f9 sx1000_ x1000_ Fx1000_) {w0 w : World} {ps0 : Nat → Prop} {H0 H : Hp} {K : Sl → (List Int) → Hp → Prop} {R : Value → World → Prop} {E : Pan} (I : Inv w0 ps0 H0 H [bx g1 115 [(Value.func (.func 68) #[] #[(Value.pointer (some ⟨g1000, 0, none⟩))])], bx g2 103 [(Value.func (.func 69) #[] #[(Value.pointer (some ⟨g1, 0, none⟩)), (Value.pointer (some ⟨g2, 0, none⟩))])], bx g3 108 [(Value.func (.func 70) #[] #[(Value.pointer (some ⟨g1, 0, none⟩)), (Value.pointer (some ⟨g2, 0, none⟩)), (Value.pointer (some ⟨g3, 0, none⟩))])], bx g1000 40 [(vs sx1000_)], Fx1000_] w) (hR : ∀ (y0 : Sl) (y0_ : (List Int)) (sy0_ : Sl) (Fy0_ : Frag) (H' : Hp) (w' : World) (_ : RowL 5 1 f9 sy0_ y0_ Fy0_) (_ : Inv w0 ps0 H0 H' [bx g1 115 [(Value.func (.func 68) #[] #[(Value.pointer (some ⟨g1000, 0, none⟩))])], bx g2 103 [(Value.func (.func 69) #[] #[(Value.pointer (some ⟨g1, 0, none⟩)), (Value.pointer (some ⟨g2, 0, none⟩))])], bx g3 108 [(Value.func (.func 70) #[] #[(Value.pointer (some ⟨g1, 0, none⟩)), (Value.pointer (some ⟨g2, 0, none⟩)), (Value.pointer (some ⟨g3, 0, none⟩))])], bx g1000 40 [(vs sy0_)], Fy0_] w') (_ : K y0 y0_ H'), R (Value.tuple #[]) w') (h : J9 x0 x1000 x1000_ H K) : F70 (Value.agg (d7 x0).toArray) (Value.pointer (some ⟨g1, 0, none⟩)) (Value.pointer (some ⟨g2, 0, none⟩)) (Value.pointer (some ⟨g3, 0, none⟩)) w R E := by
 unfold J9 at h
 unfold F70
 refine M1 I (cs := (d7 x0)) rfl fun g_2 w_3 I_4 k_5 => ?_
 refine b7 (ld1 Tryd.isAgg115 ((I_4.bring 1).at1 (o := 0) (vs := [(Value.func (.func 68) #[] #[(Value.pointer (some ⟨g1000, 0, none⟩))])]) (nb rfl) rfl)) ?_
 refine a7 a4z ?_
 refine b7 (ld1 Tryd.isAgg3 (I_4.at1 (o := 0) (vs := [(vi x0.c7)]) (nb rfl) rfl)) ?_
 refine a7 Y6 ?_
 refine b7 (ld1 Tryd.isAgg3 (I_4.at1 (o := 1) (vs := [(vi x0.fOp)]) (nb rfl) rfl)) ?_
 refine a7 a2k ?_
 refine b7 (ld1 Tryd.isAgg31 (I_4.at1 (o := 3) (vs := [(vs x0.j6)]) (nb rfl) rfl)) ?_
 refine a7 (X1 _ _ _) ?_
 refine a7 a2j ?_
 refine b7 (ld1 Tryd.isAgg28 (I_4.at1 (o := 2) (vs := [(vs x0.b8)]) (nb rfl) rfl)) ?_
 refine a7 (O3 _ _ _) ?_
 refine a7 (a4h _ _) ?_
 refine d6 (cap := [(Value.pointer (some ⟨g1000, 0, none⟩))]) (fun args w => Tryd.call68 args w) ?_
 refine i2 (Fi := [bx g1000 40 [(vs sx1000_)], Fx1000_]) (Fr := [bx g_2 33 (d7 x0), bx g1 115 [(Value.func (.func 68) #[] #[(Value.pointer (some ⟨g1000, 0, none⟩))])], bx g2 103 [(Value.func (.func 69) #[] #[(Value.pointer (some ⟨g1, 0, none⟩)), (Value.pointer (some ⟨g2, 0, none⟩))])], bx g3 108 [(Value.func (.func 70) #[] #[(Value.pointer (some ⟨g1, 0, none⟩)), (Value.pointer (some ⟨g2, 0, none⟩)), (Value.pointer (some ⟨g3, 0, none⟩))])]]) ((I_4.bring 5).bring 5) (h g1000 sx1000_ Fx1000_ hx1000_) (fun a9w H_6 a9x w_7 I_8 a9y k_9 a1F => ?_) (fun _ _ _ _ _ q => q.elim)
 obtain ⟨d2k, y0__14, sy0__14, Fy0__14, rfl, rfl, hy0__14, h⟩ := a1F
 have hj1 : ∀ (a0I : (List Int)) (a3K : Sl) (Fcp1000j1 : Frag) (H : Hp) (w : World) (_ : RowL 5 1 f9 a3K a0I Fcp1000j1) (_ : Inv w0 ps0 H0 H [bx g1000 40 [(vs a3K)], bx g_2 33 (d7 x0), bx g1 115 [(Value.func (.func 68) #[] #[(Value.pointer (some ⟨g1000, 0, none⟩))])], bx g2 103 [(Value.func (.func 69) #[] #[(Value.pointer (some ⟨g1, 0, none⟩)), (Value.pointer (some ⟨g2, 0, none⟩))])], bx g3 108 [(Value.func (.func 70) #[] #[(Value.pointer (some ⟨g1, 0, none⟩)), (Value.pointer (some ⟨g2, 0, none⟩)), (Value.pointer (some ⟨g3, 0, none⟩))])], Fcp1000j1] w) (_ : D7 a0I x0 H K), b2D (Value.pointer (some ⟨g3, 0, none⟩)) (Value.pointer (some ⟨g_2, 0, none⟩)) w R E := by
  intro a0I a3K Fcp1000j1 H w b7E I h
  unfold b2D
  intro _
  unfold D7 at h
  refine a7 a2k ?_
  refine b7 (ld1 Tryd.isAgg31 ((I.bring 1).at1 (o := 3) (vs := [(vs x0.j6)]) (nb rfl) rfl)) ?_
  refine a7 (X1 _ _ _) ?_
  obtain ⟨c0f, b2M, d5O, a3F⟩ := h
  refine B7 (J := fun n l w => ∃ (s : Int × (List Int)) (H : Hp) (a0J : Sl) (Fcp1000l2 : Frag) , n = b2M s ∧ l = (match s with | (S5, I1) => [(vi S5)]) ∧ (match s with | (S5, I1) => RowL 5 1 f9 a0J I1 Fcp1000l2) ∧ (match s with | (S5, I1) => Inv w0 ps0 H0 H [bx g1000 40 [(vs a0J)], bx g_2 33 (d7 x0), bx g1 115 [(Value.func (.func 68) #[] #[(Value.pointer (some ⟨g1000, 0, none⟩))])], bx g2 103 [(Value.func (.func 69) #[] #[(Value.pointer (some ⟨g1, 0, none⟩)), (Value.pointer (some ⟨g2, 0, none⟩))])], bx g3 108 [(Value.func (.func 70) #[] #[(Value.pointer (some ⟨g1, 0, none⟩)), (Value.pointer (some ⟨g2, 0, none⟩)), (Value.pointer (some ⟨g3, 0, none⟩))])], Fcp1000l2] w) ∧ c0f s H) ⟨_, (0, a0I), H, a3K, Fcp1000j1, rfl, rfl, b7E, ((((((I.bring 5).bring 5).bring 5).bring 5).bring 5).bring 5), d5O⟩ ?_
  rintro d6z τ_102 w next2 ⟨⟨S5, I1⟩, H, a0J, Fcp1000l2, rfl, b5i, a6q, I, a8E⟩ hn2
  dsimp only at b5i I a6q
  simp only [List.map_cons, List.map_nil, List.cons.injEq, and_true] at b5i
  have e36 := b5i
  simp only [e36]
  obtain ⟨n2, hm2, h⟩ : ∃ n2 : (Int × (List Int)) → Hp → Prop, (∀ s' H', n2 s' H' → c0f s' H' ∧ b2M s' < b2M (S5, I1)) ∧ D6 x0.j6 (x0.j6.n : Int) x0 S5 I1 H n2 K := ⟨_, fun _ _ h => h, a3F (S5, I1) H (fun s' H' => c0f s' H' ∧ b2M s' < b2M (S5, I1)) a8E (fun _ _ a b => ⟨a, b⟩)⟩
  unfold b7v
  unfold D6 at h
  refine a7 (E7 _ _ _ _ _ _) ?_
  refine d8 (fun c0g => ?_) (fun c0g => ?_)
  ·replace h := h.1 c0g
   obtain ⟨d5P, d5Q, a6p, c0h, h⟩ := h
   obtain ⟨d9k, d9l, d5R, c0h⟩ := c0h
   refine a7 (a7i d5R _ _ _ _ d5P d5Q) ?_
   refine b7 (ldA (vs := (d7 a6p)) Tryd.isAgg33 Tryd.sizeOf33 rfl (I.atH c0h)) ?_
   refine y8 I Tryd.zeroValue33 (cs := [(vi 0), (vi 0), (Value.slice none 0 0), (Value.slice none 0 0)]) rfl fun d5S d9m d5T d9n => ?_
   refine o3 d5T Tryd.sizeOf33 (vs := (d7 a6p)) (cs' := (d7 a6p)) rfl rfl (nb rfl) rfl rfl fun a2J c0i d9o => ?_
   refine b7 (ld1 Tryd.isAgg108 ((c0i.bring 5).at1 (o := 0) (vs := [(Value.func (.func 70) #[] #[(Value.pointer (some ⟨g1, 0, none⟩)), (Value.pointer (some ⟨g2, 0, none⟩)), (Value.pointer (some ⟨g3, 0, none⟩))])]) (nb rfl) rfl)) ?_
   refine b7 (ldA Tryd.isAgg33 Tryd.sizeOf33 rfl (c0i.at1 (o := 0) (vs := (d7 a6p)) (nb rfl) rfl)) ?_
   refine d6 (cap := [(Value.pointer (some ⟨g1, 0, none⟩)), (Value.pointer (some ⟨g2, 0, none⟩)), (Value.pointer (some ⟨g3, 0, none⟩))]) (fun args w => Tryd.call70 args w) ?_
   refine i2 (Fi := [bx g1 115 [(Value.func (.func 68) #[] #[(Value.pointer (some ⟨g1000, 0, none⟩))])], bx g2 103 [(Value.func (.func 69) #[] #[(Value.pointer (some ⟨g1, 0, none⟩)), (Value.pointer (some ⟨g2, 0, none⟩))])], bx g3 108 [(Value.func (.func 70) #[] #[(Value.pointer (some ⟨g1, 0, none⟩)), (Value.pointer (some ⟨g2, 0, none⟩)), (Value.pointer (some ⟨g3, 0, none⟩))])], bx g1000 40 [(vs a0J)], Fcp1000l2]) (Fr := [bx d5S 33 (d7 a6p), bx g_2 33 (d7 x0)]) (((((c0i.bring 6).bring 2).bring 6).bring 6).bring 6) (h g1 g2 g3 g1000 a0J Fcp1000l2 a6q) (fun d9p c0e d9q a1Y d5U d9r d9s d5V => ?_) (fun _ _ _ _ _ q => q.elim)
   obtain ⟨d6A, y0__95, sy0__95, Fy0__95, rfl, rfl, hy0__95, h⟩ := d5V
   refine a7 (A6 _ _ _ _ _ _) ?_
   exact hn2 _ _ _ (hm2 _ _ h).2 ⟨((IntKind.wrap .i64 (S5 + 1)), y0__95), c0e, sy0__95, Fy0__95, rfl, rfl, hy0__95, (((((((d5U.bring 5).drop.bring 4).bring 3).bring 3).bring 3).bring 5).bring 5), (hm2 _ _ h).1⟩
  ·replace h := h.2 c0g
   exact hR (Sl.mk none 0 0) I1 a0J Fcp1000l2 H _ a6q ((((((I.bring 1).drop.bring 4).bring 1).bring 4).bring 4).bring 4) h
 refine t7 fun j1 hx1 => ?_
 refine a7 a2j ?_
 refine b7 (ld1 Tryd.isAgg28 ((I_8.bring 2).at1 (o := 2) (vs := [(vs x0.b8)]) (nb rfl) rfl)) ?_
 refine a7 (O3 _ _ _) ?_
 obtain ⟨b5j, a8G, d2l, d2m⟩ := h
 refine B7 (J := fun n l w => ∃ (s : Int × (List Int)) (H : Hp) (a0K : Sl) (Fcp1000l3 : Frag) , n = a8G s ∧ l = (match s with | (N5, I8) => [(vi N5)]) ∧ (match s with | (N5, I8) => RowL 5 1 f9 a0K I8 Fcp1000l3) ∧ (match s with | (N5, I8) => Inv w0 ps0 H0 H [bx g1000 40 [(vs a0K)], bx g_2 33 (d7 x0), bx g1 115 [(Value.func (.func 68) #[] #[(Value.pointer (some ⟨g1000, 0, none⟩))])], bx g2 103 [(Value.func (.func 69) #[] #[(Value.pointer (some ⟨g1, 0, none⟩)), (Value.pointer (some ⟨g2, 0, none⟩))])], bx g3 108 [(Value.func (.func 70) #[] #[(Value.pointer (some ⟨g1, 0, none⟩)), (Value.pointer (some ⟨g2, 0, none⟩)), (Value.pointer (some ⟨g3, 0, none⟩))])], Fcp1000l3] w) ∧ b5j s H) ⟨_, (0, y0__14), H_6, sy0__14, Fy0__14, rfl, rfl, hy0__14, ((((((I_8.bring 1).bring 5).bring 5).bring 5).bring 5).bring 5), d2l⟩ ?_
 rintro d6B τ_144 w next3 ⟨⟨N5, I8⟩, H, a0K, Fcp1000l3, rfl, b5k, a6r, I, d2n⟩ hn3
 dsimp only at b5k I a6r
 simp only [List.map_cons, List.map_nil, List.cons.injEq, and_true] at b5k
 have e25 := b5k
 simp only [e25]
 obtain ⟨n3, hm3, h⟩ : ∃ n3 : (Int × (List Int)) → Hp → Prop, (∀ s' H', n3 s' H' → b5j s' H' ∧ a8G s' < a8G (N5, I8)) ∧ D8 x0.b8 (x0.b8.n : Int) x0 N5 I8 H n3 K := ⟨_, fun _ _ h => h, d2m (N5, I8) H (fun s' H' => b5j s' H' ∧ a8G s' < a8G (N5, I8)) d2n (fun _ _ a b => ⟨a, b⟩)⟩
 unfold b7x
 unfold D8 at h
 refine a7 (E7 _ _ _ _ _ _) ?_
 refine d8 (fun b5l => ?_) (fun b5l => ?_)
 ·replace h := h.1 b5l
  obtain ⟨d2o, d2p, a3J, b5m, h⟩ := h
  obtain ⟨d6C, d6D, d2q, b5m⟩ := b5m
  refine a7 (a4y d2q _ _ _ _ d2o d2p) ?_
  refine b7 (ldA (vs := (c9 a3J)) Tryd.isAgg30 Tryd.sizeOf30 rfl (I.atH b5m)) ?_
  refine y8 I Tryd.zeroValue30 (cs := [(vi 0), (vi 0), (Value.string ⟨#[]⟩), (Value.slice none 0 0)]) rfl fun d2r d6E d2s d6F => ?_
  refine o3 d2s Tryd.sizeOf30 (vs := (c9 a3J)) (cs' := (c9 a3J)) rfl rfl (nb rfl) rfl rfl fun b0o b5n d6G => ?_
  refine b7 (ld1 Tryd.isAgg103 ((b5n.bring 4).at1 (o := 0) (vs := [(Value.func (.func 69) #[] #[(Value.pointer (some ⟨g1, 0, none⟩)), (Value.pointer (some ⟨g2, 0, none⟩))])]) (nb rfl) rfl)) ?_
  refine b7 (ldA Tryd.isAgg30 Tryd.sizeOf30 rfl (b5n.at1 (o := 0) (vs := (c9 a3J)) (nb rfl) rfl)) ?_
  refine d6 (cap := [(Value.pointer (some ⟨g1, 0, none⟩)), (Value.pointer (some ⟨g2, 0, none⟩))]) (fun args w => Tryd.call69 args w) ?_
  refine i2 (Fi := [bx g1 115 [(Value.func (.func 68) #[] #[(Value.pointer (some ⟨g1000, 0, none⟩))])], bx g2 103 [(Value.func (.func 69) #[] #[(Value.pointer (some ⟨g1, 0, none⟩)), (Value.pointer (some ⟨g2, 0, none⟩))])], bx g1000 40 [(vs a0K)], Fcp1000l3]) (Fr := [bx d2r 30 (c9 a3J), bx g_2 33 (d7 x0), bx g3 108 [(Value.func (.func 70) #[] #[(Value.pointer (some ⟨g1, 0, none⟩)), (Value.pointer (some ⟨g2, 0, none⟩)), (Value.pointer (some ⟨g3, 0, none⟩))])]]) ((((b5n.bring 6).bring 2).bring 5).bring 5) (h g1 g2 g1000 a0K Fcp1000l3 a6r) (fun d6H b5h d6I c0u d2t d6J d6K d2u => ?_) (fun _ _ _ _ _ q => q.elim)
  obtain ⟨d6h, y0__137, sy0__137, Fy0__137, rfl, rfl, hy0__137, h⟩ := d2u
  refine a7 (A6 _ _ _ _ _ _) ?_
  exact hn3 _ _ _ (hm3 _ _ h).2 ⟨((IntKind.wrap .i64 (N5 + 1)), y0__137), b5h, sy0__137, Fy0__137, rfl, rfl, hy0__137, (((((((d2t.bring 4).drop.bring 3).bring 5).bring 3).bring 3).bring 5).bring 5), (hm3 _ _ h).1⟩
 ·replace h := h.2 b5l
  exact hx1 _ _ (hj1 I8 a0K Fcp1000l3 H _ a6r ((((((I.bring 5).bring 5).bring 5).bring 5).bring 5).bring 5) h)
theorem a3x (x0 : o9) (x1000 : Sl) (x1000_ : (List Int)) {H : Hp} {K : Sl → (List Int) → Hp → Prop} (h : J9 x0 x1000 x1000_ H K) : J2 x0 x1000 x1000_ H K := by
 intro g1 g2 g3 g1000 sx1000_ Fx1000_ hx1000_ w I
 refine d0h ?_
 refine a3o x0 x1000 x1000_ g1 g2 g3 g1000 sx1000_ Fx1000_ hx1000_ I (fun y0 y0_ sy0_ Fy0_ H' w' khy0_ I' hk => ⟨H', _, I', y0, y0_, sy0_, Fy0_, rfl, rfl, khy0_, hk⟩) h
def D9 (_s12j2 : Sl) (_s13j2 : Int) (d2v : Int) (a0L : (List Int)) (H : Hp) (n1 : (Int × (List Int)) → Hp → Prop) (_K : Sl → (List Int) → Hp → Prop) : Prop :=
 n1 ((IntKind.wrap .i64 (d2v + 1)), a0L) H
def E0 (d2w : Sl) (d2x : Int) (d2y : Int) (a1V : (List Int)) (cr_191j4 : o6) (H : Hp) (n1 : (Int × (List Int)) → Hp → Prop) (K : Sl → (List Int) → Hp → Prop) : Prop :=
 C4 cr_191j4.t8 (Sl.mk none 0 0) a1V H (fun (_y0_264 : Sl) (y0__264 : (List Int)) (c0N : Hp) =>
 C4 cr_191j4.r5 (Sl.mk none 0 0) y0__264 c0N (fun (_y0_273 : Sl) (y0__273 : (List Int)) (b5o : Hp) =>
 D9 d2w d2x d2y y0__273 b5o n1 K))
def E1 (d2z : Sl) (d2A : Int) (d2B : Int) (c0O : Sl) (c0P : Int) (cr_191l5 : o6) (S6 : Int) (I9 : (List Int)) (H : Hp) (n1 : (Int × (List Int)) → Hp → Prop) (n5 : (Int × (List Int)) → Hp → Prop) (K : Sl → (List Int) → Hp → Prop) : Prop :=
 (S6 < c0P →
 (0 : Int) ≤ S6 ∧ (S6 : Int) < c0O.n ∧ ∃ a3L : o5, EltH H c0O S6 4 (c9 a3L) ∧
 C3 a3L (Sl.mk none 0 0) I9 H (fun (_y0_306 : Sl) (y0__306 : (List Int)) (b5p : Hp) =>
 n5 ((IntKind.wrap .i64 (S6 + 1)), y0__306) b5p)) ∧
 (¬ (S6 < c0P) →
 E0 d2z d2A d2B I9 cr_191l5 H n1 K)
def E2 (d2C : Sl) (d2D : Int) (d2E : Int) (a0M : (List Int)) (cr_191j3 : o6) (H : Hp) (n1 : (Int × (List Int)) → Hp → Prop) (K : Sl → (List Int) → Hp → Prop) : Prop :=
 TL ((0, a0M) : Int × (List Int)) H fun (s : Int × (List Int)) H n5 => E1 d2C d2D d2E cr_191j3.b8 (cr_191j3.b8.n : Int) cr_191j3 s.1 s.2 H n1 n5 K
def A9 (d2F : Sl) (d2G : Int) (d2H : Int) (c0Q : Sl) (c0R : Int) (cr_191l6 : o6) (S7 : Int) (J0 : (List Int)) (H : Hp) (n1 : (Int × (List Int)) → Hp → Prop) (n6 : (Int × (List Int)) → Hp → Prop) (K : Sl → (List Int) → Hp → Prop) : Prop :=
 (S7 < c0R →
 (0 : Int) ≤ S7 ∧ (S7 : Int) < c0Q.n ∧ ∃ a3M : o9, EltH H c0Q S7 4 (d7 a3M) ∧
 J2 a3M (Sl.mk none 0 0) J0 H (fun (_y0_348 : Sl) (y0__348 : (List Int)) (b5q : Hp) =>
 n6 ((IntKind.wrap .i64 (S7 + 1)), y0__348) b5q)) ∧
 (¬ (S7 < c0R) →
 E2 d2F d2G d2H J0 cr_191l6 H n1 K)
def E3 (b5r : Sl) (b5s : Int) (F4 : Int) (q5 : (List Int)) (H : Hp) (n1 : (Int × (List Int)) → Hp → Prop) (K : Sl → (List Int) → Hp → Prop) : Prop :=
 (F4 < b5s →
 (0 : Int) ≤ F4 ∧ (F4 : Int) < b5r.n ∧ ∃ s9 : o6, EltH H b5r F4 6 (f6 s9) ∧
 z8 83 s9.c7 0 s9.g9 (Q4.mk (s9.f7.n : Int) (s9.b8.n : Int) (s9.t8.n : Int) (s9.r5.n : Int)) (Sl.mk none 0 0) q5 H (fun (_y0_207 : Sl) (y0__207 : (List Int)) (b5t : Hp) =>
 TL ((0, y0__207) : Int × (List Int)) b5t fun (s : Int × (List Int)) H n6 => A9 b5r b5s F4 s9.f7 (s9.f7.n : Int) s9 s.1 s.2 H n1 n6 K)) ∧
 (¬ (F4 < b5s) →
 K (Sl.mk none 0 0) q5 H)
def K0 (x0 : Sl) (_x1000 : Sl) (x1000_ : (List Int)) (H : Hp) (K : Sl → (List Int) → Hp → Prop) : Prop :=
 TL ((0, x1000_) : Int × (List Int)) H fun (s : Int × (List Int)) H n1 => E3 x0 (x0.n : Int) s.1 s.2 H n1 K
theorem a3p (x0 : Sl) (x1000 : Sl) (x1000_ : (List Int)) (g1 g2 g3 g4 g1000 : Nat) (sx1000_ : Sl) (Fx1000_ : Frag) (hx1000_ : RowL 5 1 f9 sx1000_ x1000_ Fx1000_) {w0 w : World} {ps0 : Nat → Prop} {H0 H : Hp} {K : Sl → (List Int) → Hp → Prop} {R : Value → World → Prop} {E : Pan} (I : Inv w0 ps0 H0 H [bx g1 115 [(Value.func (.func 68) #[] #[(Value.pointer (some ⟨g1000, 0, none⟩))])], bx g2 108 [(Value.func (.func 70) #[] #[(Value.pointer (some ⟨g1, 0, none⟩)), (Value.pointer (some ⟨g3, 0, none⟩)), (Value.pointer (some ⟨g2, 0, none⟩))])], bx g3 103 [(Value.func (.func 69) #[] #[(Value.pointer (some ⟨g1, 0, none⟩)), (Value.pointer (some ⟨g3, 0, none⟩))])], bx g4 116 [(Value.func (.func 71) #[] #[(Value.pointer (some ⟨g1, 0, none⟩)), (Value.pointer (some ⟨g2, 0, none⟩)), (Value.pointer (some ⟨g3, 0, none⟩)), (Value.pointer (some ⟨g4, 0, none⟩))])], bx g1000 40 [(vs sx1000_)], Fx1000_] w) (hR : ∀ (y0 : Sl) (y0_ : (List Int)) (sy0_ : Sl) (Fy0_ : Frag) (H' : Hp) (w' : World) (_ : RowL 5 1 f9 sy0_ y0_ Fy0_) (_ : Inv w0 ps0 H0 H' [bx g1 115 [(Value.func (.func 68) #[] #[(Value.pointer (some ⟨g1000, 0, none⟩))])], bx g2 108 [(Value.func (.func 70) #[] #[(Value.pointer (some ⟨g1, 0, none⟩)), (Value.pointer (some ⟨g3, 0, none⟩)), (Value.pointer (some ⟨g2, 0, none⟩))])], bx g3 103 [(Value.func (.func 69) #[] #[(Value.pointer (some ⟨g1, 0, none⟩)), (Value.pointer (some ⟨g3, 0, none⟩))])], bx g4 116 [(Value.func (.func 71) #[] #[(Value.pointer (some ⟨g1, 0, none⟩)), (Value.pointer (some ⟨g2, 0, none⟩)), (Value.pointer (some ⟨g3, 0, none⟩)), (Value.pointer (some ⟨g4, 0, none⟩))])], bx g1000 40 [(vs sy0_)], Fy0_] w') (_ : K y0 y0_ H'), R (Value.tuple #[]) w') (h : K0 x0 x1000 x1000_ H K) : F71 (vs x0) (Value.pointer (some ⟨g1, 0, none⟩)) (Value.pointer (some ⟨g2, 0, none⟩)) (Value.pointer (some ⟨g3, 0, none⟩)) (Value.pointer (some ⟨g4, 0, none⟩)) w R E := by
 unfold K0 at h
 unfold F71
 refine a7 (Q9 _ _ _) ?_
 obtain ⟨b5u, a8H, d2I, d2J⟩ := h
 refine B7 (J := fun n l w => ∃ (s : Int × (List Int)) (H : Hp) (F0 : Sl) (Fcp1000l1 : Frag) , n = a8H s ∧ l = (match s with | (F4, q5) => [(vi F4)]) ∧ (match s with | (F4, q5) => RowL 5 1 f9 F0 q5 Fcp1000l1) ∧ (match s with | (F4, q5) => Inv w0 ps0 H0 H [bx g1 115 [(Value.func (.func 68) #[] #[(Value.pointer (some ⟨g1000, 0, none⟩))])], bx g2 108 [(Value.func (.func 70) #[] #[(Value.pointer (some ⟨g1, 0, none⟩)), (Value.pointer (some ⟨g3, 0, none⟩)), (Value.pointer (some ⟨g2, 0, none⟩))])], bx g3 103 [(Value.func (.func 69) #[] #[(Value.pointer (some ⟨g1, 0, none⟩)), (Value.pointer (some ⟨g3, 0, none⟩))])], bx g4 116 [(Value.func (.func 71) #[] #[(Value.pointer (some ⟨g1, 0, none⟩)), (Value.pointer (some ⟨g2, 0, none⟩)), (Value.pointer (some ⟨g3, 0, none⟩)), (Value.pointer (some ⟨g4, 0, none⟩))])], bx g1000 40 [(vs F0)], Fcp1000l1] w) ∧ b5u s H) ⟨_, (0, x1000_), H, sx1000_, Fx1000_, rfl, rfl, hx1000_, ((((((I.bring 5).bring 5).bring 5).bring 5).bring 5).bring 5), d2I⟩ ?_
 rintro d6L τ_364 w next1 ⟨⟨F4, q5⟩, H, F0, Fcp1000l1, rfl, b5v, Y2, I, d2K⟩ hn1
 dsimp only at b5v I Y2
 simp only [List.map_cons, List.map_nil, List.cons.injEq, and_true] at b5v
 have e14 := b5v
 simp only [e14]
 obtain ⟨n1, hm1, h⟩ : ∃ n1 : (Int × (List Int)) → Hp → Prop, (∀ s' H', n1 s' H' → b5u s' H' ∧ a8H s' < a8H (F4, q5)) ∧ E3 x0 (x0.n : Int) F4 q5 H n1 K := ⟨_, fun _ _ h => h, d2J (F4, q5) H (fun s' H' => b5u s' H' ∧ a8H s' < a8H (F4, q5)) d2K (fun _ _ a b => ⟨a, b⟩)⟩
 unfold b7D
 unfold E3 at h
 refine a7 (E7 _ _ _ _ _ _) ?_
 refine d8 (fun b5w => ?_) (fun b5w => ?_)
 ·replace h := h.1 b5w
  have hj2 : ∀ (a0L : (List Int)) (a3N : Sl) (Fcp1000j2 : Frag) (H : Hp) (w : World) (_ : RowL 5 1 f9 a3N a0L Fcp1000j2) (_ : Inv w0 ps0 H0 H [bx g1 115 [(Value.func (.func 68) #[] #[(Value.pointer (some ⟨g1000, 0, none⟩))])], bx g2 108 [(Value.func (.func 70) #[] #[(Value.pointer (some ⟨g1, 0, none⟩)), (Value.pointer (some ⟨g3, 0, none⟩)), (Value.pointer (some ⟨g2, 0, none⟩))])], bx g3 103 [(Value.func (.func 69) #[] #[(Value.pointer (some ⟨g1, 0, none⟩)), (Value.pointer (some ⟨g3, 0, none⟩))])], bx g4 116 [(Value.func (.func 71) #[] #[(Value.pointer (some ⟨g1, 0, none⟩)), (Value.pointer (some ⟨g2, 0, none⟩)), (Value.pointer (some ⟨g3, 0, none⟩)), (Value.pointer (some ⟨g4, 0, none⟩))])], bx g1000 40 [(vs a3N)], Fcp1000j2] w) (_ : D9 x0 (x0.n : Int) F4 a0L H n1 K), b2E (Value.pointer (some ⟨g1, 0, none⟩)) (Value.pointer (some ⟨g2, 0, none⟩)) (Value.pointer (some ⟨g3, 0, none⟩)) (Value.pointer (some ⟨g4, 0, none⟩)) (vs x0) (vi (x0.n : Int)) (vi F4) w next1 R E := by
   intro a0L a3N Fcp1000j2 H w b7F I h
   unfold b2E
   intro _
   unfold D9 at h
   refine a7 (A6 _ _ _ _ _ _) ?_
   exact hn1 _ _ _ (hm1 _ _ h).2 ⟨((IntKind.wrap .i64 (F4 + 1)), a0L), H, a3N, Fcp1000j2, rfl, rfl, b7F, ((((((I.bring 5).bring 5).bring 5).bring 5).bring 5).bring 5), (hm1 _ _ h).1⟩
  refine t7 fun j2 hx2 => ?_
  obtain ⟨d2L, d2M, s9, b5x, h⟩ := h
  obtain ⟨d6M, d6N, d2N, b5x⟩ := b5x
  refine a7 (b0J d2N _ _ _ _ d2L d2M) ?_
  refine b7 (ldA (vs := (f6 s9)) Tryd.isAgg88 Tryd.sizeOf88 rfl (I.atH b5x)) ?_
  refine y8 I Tryd.zeroValue88 (cs := [(vi 0), (Value.string ⟨#[]⟩), (Value.slice none 0 0), (Value.slice none 0 0), (Value.slice none 0 0), (Value.slice none 0 0)]) rfl fun a1r d6O d2O d6P => ?_
  refine o3 d2O Tryd.sizeOf88 (vs := (f6 s9)) (cs' := (f6 s9)) rfl rfl (nb rfl) rfl rfl fun d6Q a3O d6R => ?_
  refine b7 (ld1 Tryd.isAgg115 ((a3O.bring 1).at1 (o := 0) (vs := [(Value.func (.func 68) #[] #[(Value.pointer (some ⟨g1000, 0, none⟩))])]) (nb rfl) rfl)) ?_
  refine a7 Y7 ?_
  refine b7 (ld1 Tryd.isAgg3 (a3O.at1 (o := 0) (vs := [(vi s9.c7)]) (nb rfl) rfl)) ?_
  refine a7 a0Y ?_
  refine b7 (ld1 Tryd.isAgg9 (a3O.at1 (o := 1) (vs := [(Value.string s9.g9)]) (nb rfl) rfl)) ?_
  refine a7 a2m ?_
  refine b7 (ld1 Tryd.isAgg31 (a3O.at1 (o := 3) (vs := [(vs s9.f7)]) (nb rfl) rfl)) ?_
  refine a7 (X1 _ _ _) ?_
  refine a7 a2l ?_
  refine b7 (ld1 Tryd.isAgg28 (a3O.at1 (o := 2) (vs := [(vs s9.b8)]) (nb rfl) rfl)) ?_
  refine a7 (O3 _ _ _) ?_
  refine a7 a2o ?_
  refine b7 (ld1 Tryd.isAgg23 (a3O.at1 (o := 4) (vs := [(vs s9.t8)]) (nb rfl) rfl)) ?_
  refine a7 (Q9 _ _ _) ?_
  refine a7 U0 ?_
  refine b7 (ld1 Tryd.isAgg23 (a3O.at1 (o := 5) (vs := [(vs s9.r5)]) (nb rfl) rfl)) ?_
  refine a7 (Q9 _ _ _) ?_
  refine a7 (a5E _ _ _ _) ?_
  refine d6 (cap := [(Value.pointer (some ⟨g1000, 0, none⟩))]) (fun args w => Tryd.call68 args w) ?_
  refine i2 (Fi := [bx g1000 40 [(vs F0)], Fcp1000l1]) (Fr := [bx a1r 88 (f6 s9), bx g1 115 [(Value.func (.func 68) #[] #[(Value.pointer (some ⟨g1000, 0, none⟩))])], bx g2 108 [(Value.func (.func 70) #[] #[(Value.pointer (some ⟨g1, 0, none⟩)), (Value.pointer (some ⟨g3, 0, none⟩)), (Value.pointer (some ⟨g2, 0, none⟩))])], bx g3 103 [(Value.func (.func 69) #[] #[(Value.pointer (some ⟨g1, 0, none⟩)), (Value.pointer (some ⟨g3, 0, none⟩))])], bx g4 116 [(Value.func (.func 71) #[] #[(Value.pointer (some ⟨g1, 0, none⟩)), (Value.pointer (some ⟨g2, 0, none⟩)), (Value.pointer (some ⟨g3, 0, none⟩)), (Value.pointer (some ⟨g4, 0, none⟩))])]]) ((a3O.bring 6).bring 6) (h g1000 F0 Fcp1000l1 Y2) (fun d6S b5t d6T d6U c0S d6V d6W d2P => ?_) (fun _ _ _ _ _ q => q.elim)
  obtain ⟨d6i, y0__207, sy0__207, Fy0__207, rfl, rfl, hy0__207, h⟩ := d2P
  have hj3 : ∀ (a0M : (List Int)) (a3P : Sl) (Fcp1000j3 : Frag) (H : Hp) (w : World) (_ : RowL 5 1 f9 a3P a0M Fcp1000j3) (_ : Inv w0 ps0 H0 H [bx g1000 40 [(vs a3P)], bx a1r 88 (f6 s9), bx g1 115 [(Value.func (.func 68) #[] #[(Value.pointer (some ⟨g1000, 0, none⟩))])], bx g2 108 [(Value.func (.func 70) #[] #[(Value.pointer (some ⟨g1, 0, none⟩)), (Value.pointer (some ⟨g3, 0, none⟩)), (Value.pointer (some ⟨g2, 0, none⟩))])], bx g3 103 [(Value.func (.func 69) #[] #[(Value.pointer (some ⟨g1, 0, none⟩)), (Value.pointer (some ⟨g3, 0, none⟩))])], bx g4 116 [(Value.func (.func 71) #[] #[(Value.pointer (some ⟨g1, 0, none⟩)), (Value.pointer (some ⟨g2, 0, none⟩)), (Value.pointer (some ⟨g3, 0, none⟩)), (Value.pointer (some ⟨g4, 0, none⟩))])], Fcp1000j3] w) (_ : E2 x0 (x0.n : Int) F4 a0M s9 H n1 K), b2G (Value.pointer (some ⟨g1, 0, none⟩)) (Value.pointer (some ⟨g2, 0, none⟩)) (Value.pointer (some ⟨g3, 0, none⟩)) (Value.pointer (some ⟨g4, 0, none⟩)) (Value.pointer (some ⟨a1r, 0, none⟩)) (vs x0) (vi (x0.n : Int)) (vi F4) w j2 R E := by
   intro a0M a3P Fcp1000j3 H w b7G I h
   unfold b2G
   intro _
   unfold E2 at h
   have hj4 : ∀ (a1V : (List Int)) (a1W : Sl) (Fcp1000j4 : Frag) (H : Hp) (w : World) (_ : RowL 5 1 f9 a1W a1V Fcp1000j4) (_ : Inv w0 ps0 H0 H [bx g1000 40 [(vs a1W)], bx a1r 88 (f6 s9), bx g1 115 [(Value.func (.func 68) #[] #[(Value.pointer (some ⟨g1000, 0, none⟩))])], bx g2 108 [(Value.func (.func 70) #[] #[(Value.pointer (some ⟨g1, 0, none⟩)), (Value.pointer (some ⟨g3, 0, none⟩)), (Value.pointer (some ⟨g2, 0, none⟩))])], bx g3 103 [(Value.func (.func 69) #[] #[(Value.pointer (some ⟨g1, 0, none⟩)), (Value.pointer (some ⟨g3, 0, none⟩))])], bx g4 116 [(Value.func (.func 71) #[] #[(Value.pointer (some ⟨g1, 0, none⟩)), (Value.pointer (some ⟨g2, 0, none⟩)), (Value.pointer (some ⟨g3, 0, none⟩)), (Value.pointer (some ⟨g4, 0, none⟩))])], Fcp1000j4] w) (_ : E0 x0 (x0.n : Int) F4 a1V s9 H n1 K), b2F (Value.pointer (some ⟨g1, 0, none⟩)) (Value.pointer (some ⟨g2, 0, none⟩)) (Value.pointer (some ⟨g3, 0, none⟩)) (Value.pointer (some ⟨g4, 0, none⟩)) (Value.pointer (some ⟨a1r, 0, none⟩)) (vs x0) (vi (x0.n : Int)) (vi F4) w j2 R E := by
    intro a1V a1W Fcp1000j4 H w b7H I h
    unfold b2F
    intro _
    unfold E0 at h
    refine b7 (ld1 Tryd.isAgg116 ((I.bring 5).at1 (o := 0) (vs := [(Value.func (.func 71) #[] #[(Value.pointer (some ⟨g1, 0, none⟩)), (Value.pointer (some ⟨g2, 0, none⟩)), (Value.pointer (some ⟨g3, 0, none⟩)), (Value.pointer (some ⟨g4, 0, none⟩))])]) (nb rfl) rfl)) ?_
    refine a7 a2o ?_
    refine b7 (ld1 Tryd.isAgg23 ((I.bring 1).at1 (o := 4) (vs := [(vs s9.t8)]) (nb rfl) rfl)) ?_
    refine d6 (cap := [(Value.pointer (some ⟨g1, 0, none⟩)), (Value.pointer (some ⟨g2, 0, none⟩)), (Value.pointer (some ⟨g3, 0, none⟩)), (Value.pointer (some ⟨g4, 0, none⟩))]) (fun args w => Tryd.call71 args w) ?_
    refine i2 (Fi := [bx g1 115 [(Value.func (.func 68) #[] #[(Value.pointer (some ⟨g1000, 0, none⟩))])], bx g2 108 [(Value.func (.func 70) #[] #[(Value.pointer (some ⟨g1, 0, none⟩)), (Value.pointer (some ⟨g3, 0, none⟩)), (Value.pointer (some ⟨g2, 0, none⟩))])], bx g3 103 [(Value.func (.func 69) #[] #[(Value.pointer (some ⟨g1, 0, none⟩)), (Value.pointer (some ⟨g3, 0, none⟩))])], bx g4 116 [(Value.func (.func 71) #[] #[(Value.pointer (some ⟨g1, 0, none⟩)), (Value.pointer (some ⟨g2, 0, none⟩)), (Value.pointer (some ⟨g3, 0, none⟩)), (Value.pointer (some ⟨g4, 0, none⟩))])], bx g1000 40 [(vs a1W)], Fcp1000j4]) (Fr := [bx a1r 88 (f6 s9)]) ((((((I.bring 6).bring 1).bring 6).bring 6).bring 6).bring 6) (h g1 g2 g3 g4 g1000 a1W Fcp1000j4 b7H) (fun d6X c0N d6Y d6Z b5y d7a d7b d2Q => ?_) (fun _ _ _ _ _ q => q.elim)
    obtain ⟨d6j, y0__264, sy0__264, Fy0__264, rfl, rfl, hy0__264, h⟩ := d2Q
    refine b7 (ld1 Tryd.isAgg116 ((b5y.bring 3).at1 (o := 0) (vs := [(Value.func (.func 71) #[] #[(Value.pointer (some ⟨g1, 0, none⟩)), (Value.pointer (some ⟨g2, 0, none⟩)), (Value.pointer (some ⟨g3, 0, none⟩)), (Value.pointer (some ⟨g4, 0, none⟩))])]) (nb rfl) rfl)) ?_
    refine a7 U0 ?_
    refine b7 (ld1 Tryd.isAgg23 ((b5y.bring 6).at1 (o := 5) (vs := [(vs s9.r5)]) (nb rfl) rfl)) ?_
    refine d6 (cap := [(Value.pointer (some ⟨g1, 0, none⟩)), (Value.pointer (some ⟨g2, 0, none⟩)), (Value.pointer (some ⟨g3, 0, none⟩)), (Value.pointer (some ⟨g4, 0, none⟩))]) (fun args w => Tryd.call71 args w) ?_
    refine i2 (Fi := [bx g1 115 [(Value.func (.func 68) #[] #[(Value.pointer (some ⟨g1000, 0, none⟩))])], bx g2 108 [(Value.func (.func 70) #[] #[(Value.pointer (some ⟨g1, 0, none⟩)), (Value.pointer (some ⟨g3, 0, none⟩)), (Value.pointer (some ⟨g2, 0, none⟩))])], bx g3 103 [(Value.func (.func 69) #[] #[(Value.pointer (some ⟨g1, 0, none⟩)), (Value.pointer (some ⟨g3, 0, none⟩))])], bx g4 116 [(Value.func (.func 71) #[] #[(Value.pointer (some ⟨g1, 0, none⟩)), (Value.pointer (some ⟨g2, 0, none⟩)), (Value.pointer (some ⟨g3, 0, none⟩)), (Value.pointer (some ⟨g4, 0, none⟩))])], bx g1000 40 [(vs sy0__264)], Fy0__264]) (Fr := [bx a1r 88 (f6 s9)]) ((((((b5y.bring 5).bring 5).bring 5).bring 5).bring 5).bring 5) (h g1 g2 g3 g4 g1000 sy0__264 Fy0__264 hy0__264) (fun d7c b5o d7d d7e d2R d7f d7g d2S => ?_) (fun _ _ _ _ _ q => q.elim)
    obtain ⟨d6k, y0__273, sy0__273, Fy0__273, rfl, rfl, hy0__273, h⟩ := d2S
    exact hx2 _ _ (hj2 y0__273 sy0__273 Fy0__273 b5o _ hy0__273 (((((((d2R.bring 6).drop.bring 5).bring 5).bring 5).bring 5).bring 5).bring 5) h)
   refine t7 fun j4 hx4 => ?_
   refine a7 a2l ?_
   refine b7 (ld1 Tryd.isAgg28 ((I.bring 1).at1 (o := 2) (vs := [(vs s9.b8)]) (nb rfl) rfl)) ?_
   refine a7 (O3 _ _ _) ?_
   obtain ⟨b5z, a8I, d2T, d2U⟩ := h
   refine B7 (J := fun n l w => ∃ (s : Int × (List Int)) (H : Hp) (a0N : Sl) (Fcp1000l5 : Frag) , n = a8I s ∧ l = (match s with | (S6, I9) => [(vi S6)]) ∧ (match s with | (S6, I9) => RowL 5 1 f9 a0N I9 Fcp1000l5) ∧ (match s with | (S6, I9) => Inv w0 ps0 H0 H [bx g1000 40 [(vs a0N)], bx a1r 88 (f6 s9), bx g1 115 [(Value.func (.func 68) #[] #[(Value.pointer (some ⟨g1000, 0, none⟩))])], bx g2 108 [(Value.func (.func 70) #[] #[(Value.pointer (some ⟨g1, 0, none⟩)), (Value.pointer (some ⟨g3, 0, none⟩)), (Value.pointer (some ⟨g2, 0, none⟩))])], bx g3 103 [(Value.func (.func 69) #[] #[(Value.pointer (some ⟨g1, 0, none⟩)), (Value.pointer (some ⟨g3, 0, none⟩))])], bx g4 116 [(Value.func (.func 71) #[] #[(Value.pointer (some ⟨g1, 0, none⟩)), (Value.pointer (some ⟨g2, 0, none⟩)), (Value.pointer (some ⟨g3, 0, none⟩)), (Value.pointer (some ⟨g4, 0, none⟩))])], Fcp1000l5] w) ∧ b5z s H) ⟨_, (0, a0M), H, a3P, Fcp1000j3, rfl, rfl, b7G, (((((((I.bring 6).bring 6).bring 6).bring 6).bring 6).bring 6).bring 6), d2T⟩ ?_
   rintro d7h τ_313 w next5 ⟨⟨S6, I9⟩, H, a0N, Fcp1000l5, rfl, b5A, a6s, I, d2V⟩ hn5
   dsimp only at b5A I a6s
   simp only [List.map_cons, List.map_nil, List.cons.injEq, and_true] at b5A
   have e51 := b5A
   simp only [e51]
   obtain ⟨n5, hm5, h⟩ : ∃ n5 : (Int × (List Int)) → Hp → Prop, (∀ s' H', n5 s' H' → b5z s' H' ∧ a8I s' < a8I (S6, I9)) ∧ E1 x0 (x0.n : Int) F4 s9.b8 (s9.b8.n : Int) s9 S6 I9 H n1 n5 K := ⟨_, fun _ _ h => h, d2U (S6, I9) H (fun s' H' => b5z s' H' ∧ a8I s' < a8I (S6, I9)) d2V (fun _ _ a b => ⟨a, b⟩)⟩
   unfold b7y
   unfold E1 at h
   refine a7 (E7 _ _ _ _ _ _) ?_
   refine d8 (fun b5B => ?_) (fun b5B => ?_)
   ·replace h := h.1 b5B
    obtain ⟨d2W, d2X, a3L, b5C, h⟩ := h
    obtain ⟨d7i, d7j, d2Y, b5C⟩ := b5C
    refine a7 (a4y d2Y _ _ _ _ d2W d2X) ?_
    refine b7 (ldA (vs := (c9 a3L)) Tryd.isAgg30 Tryd.sizeOf30 rfl (I.atH b5C)) ?_
    refine y8 I Tryd.zeroValue30 (cs := [(vi 0), (vi 0), (Value.string ⟨#[]⟩), (Value.slice none 0 0)]) rfl fun d2Z d7k d3a d7l => ?_
    refine o3 d3a Tryd.sizeOf30 (vs := (c9 a3L)) (cs' := (c9 a3L)) rfl rfl (nb rfl) rfl rfl fun d7m b5D d7n => ?_
    refine b7 (ld1 Tryd.isAgg103 ((b5D.bring 5).at1 (o := 0) (vs := [(Value.func (.func 69) #[] #[(Value.pointer (some ⟨g1, 0, none⟩)), (Value.pointer (some ⟨g3, 0, none⟩))])]) (nb rfl) rfl)) ?_
    refine b7 (ldA Tryd.isAgg30 Tryd.sizeOf30 rfl (b5D.at1 (o := 0) (vs := (c9 a3L)) (nb rfl) rfl)) ?_
    refine d6 (cap := [(Value.pointer (some ⟨g1, 0, none⟩)), (Value.pointer (some ⟨g3, 0, none⟩))]) (fun args w => Tryd.call69 args w) ?_
    refine i2 (Fi := [bx g1 115 [(Value.func (.func 68) #[] #[(Value.pointer (some ⟨g1000, 0, none⟩))])], bx g3 103 [(Value.func (.func 69) #[] #[(Value.pointer (some ⟨g1, 0, none⟩)), (Value.pointer (some ⟨g3, 0, none⟩))])], bx g1000 40 [(vs a0N)], Fcp1000l5]) (Fr := [bx d2Z 30 (c9 a3L), bx a1r 88 (f6 s9), bx g2 108 [(Value.func (.func 70) #[] #[(Value.pointer (some ⟨g1, 0, none⟩)), (Value.pointer (some ⟨g3, 0, none⟩)), (Value.pointer (some ⟨g2, 0, none⟩))])], bx g4 116 [(Value.func (.func 71) #[] #[(Value.pointer (some ⟨g1, 0, none⟩)), (Value.pointer (some ⟨g2, 0, none⟩)), (Value.pointer (some ⟨g3, 0, none⟩)), (Value.pointer (some ⟨g4, 0, none⟩))])]]) ((((b5D.bring 7).bring 2).bring 6).bring 5) (h g1 g3 g1000 a0N Fcp1000l5 a6s) (fun d7o b5p d7p d7q d3b d7r d7s d3c => ?_) (fun _ _ _ _ _ q => q.elim)
    obtain ⟨d6l, y0__306, sy0__306, Fy0__306, rfl, rfl, hy0__306, h⟩ := d3c
    refine a7 (A6 _ _ _ _ _ _) ?_
    exact hn5 _ _ _ (hm5 _ _ h).2 ⟨((IntKind.wrap .i64 (S6 + 1)), y0__306), b5p, sy0__306, Fy0__306, rfl, rfl, hy0__306, ((((((((d3b.bring 4).drop.bring 3).bring 6).bring 3).bring 6).bring 4).bring 6).bring 6), (hm5 _ _ h).1⟩
   ·replace h := h.2 b5B
    exact hx4 _ _ (hj4 I9 a0N Fcp1000l5 H _ a6s (((((((I.bring 6).bring 6).bring 6).bring 6).bring 6).bring 6).bring 6) h)
  refine t7 fun j3 hx3 => ?_
  refine a7 a2m ?_
  refine b7 (ld1 Tryd.isAgg31 ((c0S.bring 2).at1 (o := 3) (vs := [(vs s9.f7)]) (nb rfl) rfl)) ?_
  refine a7 (X1 _ _ _) ?_
  obtain ⟨b5E, a8J, d3d, d3e⟩ := h
  refine B7 (J := fun n l w => ∃ (s : Int × (List Int)) (H : Hp) (a0O : Sl) (Fcp1000l6 : Frag) , n = a8J s ∧ l = (match s with | (S7, J0) => [(vi S7)]) ∧ (match s with | (S7, J0) => RowL 5 1 f9 a0O J0 Fcp1000l6) ∧ (match s with | (S7, J0) => Inv w0 ps0 H0 H [bx g1000 40 [(vs a0O)], bx a1r 88 (f6 s9), bx g1 115 [(Value.func (.func 68) #[] #[(Value.pointer (some ⟨g1000, 0, none⟩))])], bx g2 108 [(Value.func (.func 70) #[] #[(Value.pointer (some ⟨g1, 0, none⟩)), (Value.pointer (some ⟨g3, 0, none⟩)), (Value.pointer (some ⟨g2, 0, none⟩))])], bx g3 103 [(Value.func (.func 69) #[] #[(Value.pointer (some ⟨g1, 0, none⟩)), (Value.pointer (some ⟨g3, 0, none⟩))])], bx g4 116 [(Value.func (.func 71) #[] #[(Value.pointer (some ⟨g1, 0, none⟩)), (Value.pointer (some ⟨g2, 0, none⟩)), (Value.pointer (some ⟨g3, 0, none⟩)), (Value.pointer (some ⟨g4, 0, none⟩))])], Fcp1000l6] w) ∧ b5E s H) ⟨_, (0, y0__207), b5t, sy0__207, Fy0__207, rfl, rfl, hy0__207, (((((((c0S.bring 1).bring 6).bring 6).bring 6).bring 6).bring 6).bring 6), d3d⟩ ?_
  rintro d7t τ_355 w next6 ⟨⟨S7, J0⟩, H, a0O, Fcp1000l6, rfl, b5F, a6t, I, d3f⟩ hn6
  dsimp only at b5F I a6t
  simp only [List.map_cons, List.map_nil, List.cons.injEq, and_true] at b5F
  have e40 := b5F
  simp only [e40]
  obtain ⟨n6, hm6, h⟩ : ∃ n6 : (Int × (List Int)) → Hp → Prop, (∀ s' H', n6 s' H' → b5E s' H' ∧ a8J s' < a8J (S7, J0)) ∧ A9 x0 (x0.n : Int) F4 s9.f7 (s9.f7.n : Int) s9 S7 J0 H n1 n6 K := ⟨_, fun _ _ h => h, d3e (S7, J0) H (fun s' H' => b5E s' H' ∧ a8J s' < a8J (S7, J0)) d3f (fun _ _ a b => ⟨a, b⟩)⟩
  unfold b7B
  unfold A9 at h
  refine a7 (E7 _ _ _ _ _ _) ?_
  refine d8 (fun b5G => ?_) (fun b5G => ?_)
  ·replace h := h.1 b5G
   obtain ⟨d3g, d3h, a3M, b5H, h⟩ := h
   obtain ⟨d7u, d7v, d3i, b5H⟩ := b5H
   refine a7 (a7i d3i _ _ _ _ d3g d3h) ?_
   refine b7 (ldA (vs := (d7 a3M)) Tryd.isAgg33 Tryd.sizeOf33 rfl (I.atH b5H)) ?_
   refine y8 I Tryd.zeroValue33 (cs := [(vi 0), (vi 0), (Value.slice none 0 0), (Value.slice none 0 0)]) rfl fun d3j d7w d3k d7x => ?_
   refine o3 d3k Tryd.sizeOf33 (vs := (d7 a3M)) (cs' := (d7 a3M)) rfl rfl (nb rfl) rfl rfl fun d7y b5I d7z => ?_
   refine b7 (ld1 Tryd.isAgg108 ((b5I.bring 4).at1 (o := 0) (vs := [(Value.func (.func 70) #[] #[(Value.pointer (some ⟨g1, 0, none⟩)), (Value.pointer (some ⟨g3, 0, none⟩)), (Value.pointer (some ⟨g2, 0, none⟩))])]) (nb rfl) rfl)) ?_
   refine b7 (ldA Tryd.isAgg33 Tryd.sizeOf33 rfl (b5I.at1 (o := 0) (vs := (d7 a3M)) (nb rfl) rfl)) ?_
   refine d6 (cap := [(Value.pointer (some ⟨g1, 0, none⟩)), (Value.pointer (some ⟨g3, 0, none⟩)), (Value.pointer (some ⟨g2, 0, none⟩))]) (fun args w => Tryd.call70 args w) ?_
   refine i2 (Fi := [bx g1 115 [(Value.func (.func 68) #[] #[(Value.pointer (some ⟨g1000, 0, none⟩))])], bx g3 103 [(Value.func (.func 69) #[] #[(Value.pointer (some ⟨g1, 0, none⟩)), (Value.pointer (some ⟨g3, 0, none⟩))])], bx g2 108 [(Value.func (.func 70) #[] #[(Value.pointer (some ⟨g1, 0, none⟩)), (Value.pointer (some ⟨g3, 0, none⟩)), (Value.pointer (some ⟨g2, 0, none⟩))])], bx g1000 40 [(vs a0O)], Fcp1000l6]) (Fr := [bx d3j 33 (d7 a3M), bx a1r 88 (f6 s9), bx g4 116 [(Value.func (.func 71) #[] #[(Value.pointer (some ⟨g1, 0, none⟩)), (Value.pointer (some ⟨g2, 0, none⟩)), (Value.pointer (some ⟨g3, 0, none⟩)), (Value.pointer (some ⟨g4, 0, none⟩))])]]) (((((b5I.bring 7).bring 2).bring 5).bring 6).bring 6) (h g1 g3 g2 g1000 a0O Fcp1000l6 a6t) (fun d7A b5q d7B d7C d3l d7D d7E d3m => ?_) (fun _ _ _ _ _ q => q.elim)
   obtain ⟨d6m, y0__348, sy0__348, Fy0__348, rfl, rfl, hy0__348, h⟩ := d3m
   refine a7 (A6 _ _ _ _ _ _) ?_
   exact hn6 _ _ _ (hm6 _ _ h).2 ⟨((IntKind.wrap .i64 (S7 + 1)), y0__348), b5q, sy0__348, Fy0__348, rfl, rfl, hy0__348, ((((((((d3l.bring 5).drop.bring 4).bring 6).bring 3).bring 4).bring 4).bring 6).bring 6), (hm6 _ _ h).1⟩
  ·replace h := h.2 b5G
   exact hx3 _ _ (hj3 J0 a0O Fcp1000l6 H _ a6t (((((((I.bring 6).bring 6).bring 6).bring 6).bring 6).bring 6).bring 6) h)
 ·replace h := h.2 b5w
  exact hR (Sl.mk none 0 0) q5 F0 Fcp1000l1 H _ Y2 ((((((I.bring 5).bring 5).bring 5).bring 5).bring 5).bring 5) h
theorem a3y (x0 : Sl) (x1000 : Sl) (x1000_ : (List Int)) {H : Hp} {K : Sl → (List Int) → Hp → Prop} (h : K0 x0 x1000 x1000_ H K) : C4 x0 x1000 x1000_ H K := by
 intro g1 g2 g3 g4 g1000 sx1000_ Fx1000_ hx1000_ w I
 refine d0z ?_
 refine a3p x0 x1000 x1000_ g1 g2 g3 g4 g1000 sx1000_ Fx1000_ hx1000_ I (fun y0 y0_ sy0_ Fy0_ H' w' khy0_ I' hk => ⟨H', _, I', y0, y0_, sy0_, Fy0_, rfl, rfl, khy0_, hk⟩) h
def H8 (ccr_15j1 : (List Int)) (cr_1j1 : u7) (H : Hp) (K : Sl → Int → Hp → Prop) : Prop :=
 C4 cr_1j1.a3z (Sl.mk none 0 0) ccr_15j1 H (fun (_y0_84 : Sl) (y0__84 : (List Int)) (d0F : Hp) =>
 ∀ (sy0__84 : Sl) (a9J : Hp), Hle d0F a9J → SlH a9J 1 f9 sy0__84 y0__84 → sy0__84.n ≤ sy0__84.c →
 K sy0__84 0 a9J)
def H9 (c0T : Sl) (c0U : Int) (cr_1l2 : u7) (S8 : Int) (ccr_15l2 : (List Int)) (H : Hp) (n2 : (Int × (List Int)) → Hp → Prop) (K : Sl → Int → Hp → Prop) : Prop :=
 (S8 < c0U →
 (0 : Int) ≤ S8 ∧ (S8 : Int) < c0T.n ∧ ∃ a4c : z6, EltH H c0T S8 2 (i5 a4c) ∧
 z8 68 0 a4c.N2 a4c.g9 (Q4.mk 0 0 0 0) (Sl.mk none 0 0) ccr_15l2 H (fun (_y0_122 : Sl) (y0__122 : (List Int)) (b5J : Hp) =>
 n2 ((IntKind.wrap .i64 (S8 + 1)), y0__122) b5J)) ∧
 (¬ (S8 < c0U) →
 H8 ccr_15l2 cr_1l2 H K)
def M4 (x0 : u7) (H : Hp) (K : Sl → Int → Hp → Prop) : Prop :=
 W8 x0 H (fun (N7 : Int) (H_6 : Hp) =>
 (¬ (N7 = 0) →
 K (Sl.mk none 0 0) N7 H_6) ∧
 (N7 = 0 →
 TL ((0, []) : Int × (List Int)) H_6 fun (s : Int × (List Int)) H n2 => H9 x0.X0 (x0.X0.n : Int) x0 s.1 s.2 H n2 K))
theorem a4d (x0 : u7) {w0 w : World} {ps0 : Nat → Prop} {H0 H : Hp} {K : Sl → Int → Hp → Prop} {R : Value → World → Prop} {E : Pan} (I : Inv w0 ps0 H0 H [] w) (hR : ∀ (r0 : Sl) (r1 : Int) (H' : Hp) (w' : World) (_ : Inv w0 ps0 H0 H' [] w') (_ : K r0 r1 H'), R (Value.tuple #[(vs r0), (vi r1)]) w') (h : M4 x0 H K) : F31 (Value.agg (p7 x0).toArray) w R E := by
 unfold M4 at h
 unfold F31
 refine M1 I (cs := (p7 x0)) rfl fun g_2 w_3 I_4 k_5 => ?_
 refine b7 (ldA Tryd.isAgg25 Tryd.sizeOf25 rfl (I_4.at1 (o := 0) (vs := (p7 x0)) (nb rfl) rfl)) ?_
 refine d6 (cap := []) (fun args w => Tryd.call27 args w) ?_
 refine i2 (Fi := []) (Fr := [bx g_2 25 (p7 x0)]) I_4 (h) (fun a9w H_6 a9x w_7 I_8 a9y k_9 a1F => ?_) (fun _ _ _ _ _ q => q.elim)
 obtain ⟨N7, rfl, rfl, h⟩ := a1F
 refine a7 (a0f _ _ _ _ _ _) ?_
 refine b3c (fun b5K => ?_) (fun b5K => ?_)
 ·replace h := h.1 b5K
  exact hR (Sl.mk none 0 0) N7 H_6 _ I_8.drop h
 ·replace h := h.2 b5K
  refine y8 I_8 Tryd.zeroValue40 (cs := [(Value.slice none 0 0)]) rfl fun a0C Z4 V1 b1J => ?_
  refine a7 (W1 _ _ _) ?_
  refine y8 V1 Tryd.zeroValue115 (cs := [Value.nilFunc]) rfl fun M8 u2 d5W d9t => ?_
  refine o3 d5W Tryd.sizeOf115 (vs := [(Value.func (.func 68) #[] #[(Value.pointer (some ⟨a0C, 0, none⟩))])]) (cs' := [(Value.func (.func 68) #[] #[(Value.pointer (some ⟨a0C, 0, none⟩))])]) rfl rfl (nb rfl) rfl rfl fun a8Q d5X d9u => ?_
  refine y8 d5X Tryd.zeroValue103 (cs := [Value.nilFunc]) rfl fun F8 C5 a4W b4t => ?_
  refine a7 (W1 _ _ _) ?_
  refine o3 a4W Tryd.sizeOf103 (vs := [(Value.func (.func 69) #[] #[(Value.pointer (some ⟨M8, 0, none⟩)), (Value.pointer (some ⟨F8, 0, none⟩))])]) (cs' := [(Value.func (.func 69) #[] #[(Value.pointer (some ⟨M8, 0, none⟩)), (Value.pointer (some ⟨F8, 0, none⟩))])]) rfl rfl (nb rfl) rfl rfl fun d9v b1P d9w => ?_
  refine y8 b1P Tryd.zeroValue108 (cs := [Value.nilFunc]) rfl fun V8 F6 d5Y d9x => ?_
  refine a7 (W1 _ _ _) ?_
  refine o3 d5Y Tryd.sizeOf108 (vs := [(Value.func (.func 70) #[] #[(Value.pointer (some ⟨M8, 0, none⟩)), (Value.pointer (some ⟨F8, 0, none⟩)), (Value.pointer (some ⟨V8, 0, none⟩))])]) (cs' := [(Value.func (.func 70) #[] #[(Value.pointer (some ⟨M8, 0, none⟩)), (Value.pointer (some ⟨F8, 0, none⟩)), (Value.pointer (some ⟨V8, 0, none⟩))])]) rfl rfl (nb rfl) rfl rfl fun c5b d5Z d9y => ?_
  refine y8 d5Z Tryd.zeroValue116 (cs := [Value.nilFunc]) rfl fun a1s N3 c0b d5B => ?_
  refine a7 (W1 _ _ _) ?_
  refine o3 c0b Tryd.sizeOf116 (vs := [(Value.func (.func 71) #[] #[(Value.pointer (some ⟨M8, 0, none⟩)), (Value.pointer (some ⟨V8, 0, none⟩)), (Value.pointer (some ⟨F8, 0, none⟩)), (Value.pointer (some ⟨a1s, 0, none⟩))])]) (cs' := [(Value.func (.func 71) #[] #[(Value.pointer (some ⟨M8, 0, none⟩)), (Value.pointer (some ⟨V8, 0, none⟩)), (Value.pointer (some ⟨F8, 0, none⟩)), (Value.pointer (some ⟨a1s, 0, none⟩))])]) rfl rfl (nb rfl) rfl rfl fun b8b b4Y d5t => ?_
  have hj1 : ∀ (ccr_15j1 : (List Int)) (scr_15j1 : Sl) (Fcr_15j1 : Frag) (H : Hp) (w : World) (_ : RowL 5 1 f9 scr_15j1 ccr_15j1 Fcr_15j1) (_ : Inv w0 ps0 H0 H [bx a1s 116 [(Value.func (.func 71) #[] #[(Value.pointer (some ⟨M8, 0, none⟩)), (Value.pointer (some ⟨V8, 0, none⟩)), (Value.pointer (some ⟨F8, 0, none⟩)), (Value.pointer (some ⟨a1s, 0, none⟩))])], bx V8 108 [(Value.func (.func 70) #[] #[(Value.pointer (some ⟨M8, 0, none⟩)), (Value.pointer (some ⟨F8, 0, none⟩)), (Value.pointer (some ⟨V8, 0, none⟩))])], bx F8 103 [(Value.func (.func 69) #[] #[(Value.pointer (some ⟨M8, 0, none⟩)), (Value.pointer (some ⟨F8, 0, none⟩))])], bx M8 115 [(Value.func (.func 68) #[] #[(Value.pointer (some ⟨a0C, 0, none⟩))])], bx a0C 40 [(vs scr_15j1)], bx g_2 25 (p7 x0), Fcr_15j1] w) (_ : H8 ccr_15j1 x0 H K), b2y (Value.pointer (some ⟨g_2, 0, none⟩)) (Value.pointer (some ⟨a0C, 0, none⟩)) (Value.pointer (some ⟨a1s, 0, none⟩)) w R E := by
   intro ccr_15j1 scr_15j1 Fcr_15j1 H w hcr_15j1 I h
   unfold b2y
   intro _
   unfold H8 at h
   refine b7 (ld1 Tryd.isAgg116 (I.at1 (o := 0) (vs := [(Value.func (.func 71) #[] #[(Value.pointer (some ⟨M8, 0, none⟩)), (Value.pointer (some ⟨V8, 0, none⟩)), (Value.pointer (some ⟨F8, 0, none⟩)), (Value.pointer (some ⟨a1s, 0, none⟩))])]) (nb rfl) rfl)) ?_
   refine a7 a7V ?_
   refine b7 (ld1 Tryd.isAgg23 ((I.bring 5).at1 (o := 1) (vs := [(vs x0.a3z)]) (nb rfl) rfl)) ?_
   refine d6 (cap := [(Value.pointer (some ⟨M8, 0, none⟩)), (Value.pointer (some ⟨V8, 0, none⟩)), (Value.pointer (some ⟨F8, 0, none⟩)), (Value.pointer (some ⟨a1s, 0, none⟩))]) (fun args w => Tryd.call71 args w) ?_
   refine i2 (Fi := [bx M8 115 [(Value.func (.func 68) #[] #[(Value.pointer (some ⟨a0C, 0, none⟩))])], bx V8 108 [(Value.func (.func 70) #[] #[(Value.pointer (some ⟨M8, 0, none⟩)), (Value.pointer (some ⟨F8, 0, none⟩)), (Value.pointer (some ⟨V8, 0, none⟩))])], bx F8 103 [(Value.func (.func 69) #[] #[(Value.pointer (some ⟨M8, 0, none⟩)), (Value.pointer (some ⟨F8, 0, none⟩))])], bx a1s 116 [(Value.func (.func 71) #[] #[(Value.pointer (some ⟨M8, 0, none⟩)), (Value.pointer (some ⟨V8, 0, none⟩)), (Value.pointer (some ⟨F8, 0, none⟩)), (Value.pointer (some ⟨a1s, 0, none⟩))])], bx a0C 40 [(vs scr_15j1)], Fcr_15j1]) (Fr := [bx g_2 25 (p7 x0)]) ((((((I.bring 6).bring 5).bring 2).bring 4).bring 4).bring 5) (h M8 V8 F8 a1s a0C scr_15j1 Fcr_15j1 hcr_15j1) (fun d9z d0F d9A d9B d0G d9C d9D d6a => ?_) (fun _ _ _ _ _ q => q.elim)
   obtain ⟨d7F, y0__84, sy0__84, Fy0__84, rfl, rfl, hy0__84, h⟩ := d6a
   refine b7 (ld1 Tryd.isAgg40 ((d0G.bring 4).at1 (o := 0) (vs := [(vs sy0__84)]) (nb rfl) rfl)) ?_
   obtain ⟨a9J, d6b, d6c, d6d, d6e⟩ := Inv.freezeC (d0G.bring 5) hy0__84 (by decide)
   replace h := h sy0__84 a9J d6c d6d d6e
   exact hR sy0__84 0 a9J _ d6b.drop.drop.drop.drop.drop.drop h
  refine t7 fun j1 hx1 => ?_
  refine a7 a7T ?_
  refine b7 (ld1 Tryd.isAgg22 ((b4Y.bring 5).at1 (o := 0) (vs := [(vs x0.X0)]) (nb rfl) rfl)) ?_
  refine a7 (a9R _ _ _) ?_
  obtain ⟨b5L, a8K, d3n, d3o⟩ := h
  refine B7 (J := fun n l w => ∃ (s : Int × (List Int)) (H : Hp) (scr_15l2 : Sl) (Fcr_15l2 : Frag) , n = a8K s ∧ l = (match s with | (S8, ccr_15l2) => [(vi S8)]) ∧ (match s with | (S8, ccr_15l2) => RowL 5 1 f9 scr_15l2 ccr_15l2 Fcr_15l2) ∧ (match s with | (S8, ccr_15l2) => Inv w0 ps0 H0 H [bx a1s 116 [(Value.func (.func 71) #[] #[(Value.pointer (some ⟨M8, 0, none⟩)), (Value.pointer (some ⟨V8, 0, none⟩)), (Value.pointer (some ⟨F8, 0, none⟩)), (Value.pointer (some ⟨a1s, 0, none⟩))])], bx V8 108 [(Value.func (.func 70) #[] #[(Value.pointer (some ⟨M8, 0, none⟩)), (Value.pointer (some ⟨F8, 0, none⟩)), (Value.pointer (some ⟨V8, 0, none⟩))])], bx F8 103 [(Value.func (.func 69) #[] #[(Value.pointer (some ⟨M8, 0, none⟩)), (Value.pointer (some ⟨F8, 0, none⟩))])], bx M8 115 [(Value.func (.func 68) #[] #[(Value.pointer (some ⟨a0C, 0, none⟩))])], bx a0C 40 [(vs scr_15l2)], bx g_2 25 (p7 x0), Fcr_15l2] w) ∧ b5L s H) ⟨_, (0, []), H_6, (Sl.mk none 0 0), [], rfl, rfl, (RowL.nil Q8 T8), ((((((b4Y.nil.bring 6).bring 6).bring 6).bring 6).bring 6).bring 6), d3n⟩ ?_
  rintro d7G τ_129 w next2 ⟨⟨S8, ccr_15l2⟩, H, scr_15l2, Fcr_15l2, rfl, b5M, hcr_15l2, I, d3p⟩ hn2
  dsimp only at b5M I hcr_15l2
  simp only [List.map_cons, List.map_nil, List.cons.injEq, and_true] at b5M
  have e24 := b5M
  simp only [e24]
  obtain ⟨n2, hm2, h⟩ : ∃ n2 : (Int × (List Int)) → Hp → Prop, (∀ s' H', n2 s' H' → b5L s' H' ∧ a8K s' < a8K (S8, ccr_15l2)) ∧ H9 x0.X0 (x0.X0.n : Int) x0 S8 ccr_15l2 H n2 K := ⟨_, fun _ _ h => h, d3o (S8, ccr_15l2) H (fun s' H' => b5L s' H' ∧ a8K s' < a8K (S8, ccr_15l2)) d3p (fun _ _ a b => ⟨a, b⟩)⟩
  unfold b7q
  unfold H9 at h
  refine a7 (E7 _ _ _ _ _ _) ?_
  refine d8 (fun b5N => ?_) (fun b5N => ?_)
  ·replace h := h.1 b5N
   obtain ⟨d3q, d3r, a4c, b5O, h⟩ := h
   obtain ⟨d7H, d7I, d3s, b5O⟩ := b5O
   refine a7 (b0G d3s _ _ _ _ d3q d3r) ?_
   refine b7 (ldA (vs := (i5 a4c)) Tryd.isAgg67 Tryd.sizeOf67 rfl (I.atH b5O)) ?_
   refine y8 I Tryd.zeroValue67 (cs := [(Value.string ⟨#[]⟩), (vi 0)]) rfl fun d3t a4M d3u d7J => ?_
   refine o3 d3u Tryd.sizeOf67 (vs := (i5 a4c)) (cs' := (i5 a4c)) rfl rfl (nb rfl) rfl rfl fun d1X a6Q d1Y => ?_
   refine b7 (ld1 Tryd.isAgg115 ((a6Q.bring 4).at1 (o := 0) (vs := [(Value.func (.func 68) #[] #[(Value.pointer (some ⟨a0C, 0, none⟩))])]) (nb rfl) rfl)) ?_
   refine a7 a0X ?_
   refine b7 (ld1 Tryd.isAgg3 (a6Q.at1 (o := 1) (vs := [(vi a4c.N2)]) (nb rfl) rfl)) ?_
   refine a7 a7U ?_
   refine b7 (ld1 Tryd.isAgg9 (a6Q.at1 (o := 0) (vs := [(Value.string a4c.g9)]) (nb rfl) rfl)) ?_
   refine a7 (b3G) ?_
   refine d6 (cap := [(Value.pointer (some ⟨a0C, 0, none⟩))]) (fun args w => Tryd.call68 args w) ?_
   refine i2 (Fi := [bx a0C 40 [(vs scr_15l2)], Fcr_15l2]) (Fr := [bx d3t 67 (i5 a4c), bx a1s 116 [(Value.func (.func 71) #[] #[(Value.pointer (some ⟨M8, 0, none⟩)), (Value.pointer (some ⟨V8, 0, none⟩)), (Value.pointer (some ⟨F8, 0, none⟩)), (Value.pointer (some ⟨a1s, 0, none⟩))])], bx V8 108 [(Value.func (.func 70) #[] #[(Value.pointer (some ⟨M8, 0, none⟩)), (Value.pointer (some ⟨F8, 0, none⟩)), (Value.pointer (some ⟨V8, 0, none⟩))])], bx F8 103 [(Value.func (.func 69) #[] #[(Value.pointer (some ⟨M8, 0, none⟩)), (Value.pointer (some ⟨F8, 0, none⟩))])], bx M8 115 [(Value.func (.func 68) #[] #[(Value.pointer (some ⟨a0C, 0, none⟩))])], bx g_2 25 (p7 x0)]) ((a6Q.bring 7).bring 6) (h a0C scr_15l2 Fcr_15l2 hcr_15l2) (fun d7K b5J d7L d7M d3v b0r d7N d3w => ?_) (fun _ _ _ _ _ q => q.elim)
   obtain ⟨d6n, y0__122, sy0__122, Fy0__122, rfl, rfl, hy0__122, h⟩ := d3w
   refine a7 (A6 _ _ _ _ _ _) ?_
   exact hn2 _ _ _ (hm2 _ _ h).2 ⟨((IntKind.wrap .i64 (S8 + 1)), y0__122), b5J, sy0__122, Fy0__122, rfl, rfl, hy0__122, ((((((((d3v.bring 2).drop.bring 1).bring 6).bring 2).bring 6).bring 6).bring 6).bring 6), (hm2 _ _ h).1⟩
  ·replace h := h.2 b5N
   exact hx1 _ _ (hj1 ccr_15l2 scr_15l2 Fcr_15l2 H _ hcr_15l2 (((((((I.bring 6).bring 6).bring 6).bring 6).bring 6).bring 6).bring 6) h)
theorem a4r (x0 : u7) {H : Hp} {K : Sl → Int → Hp → Prop} (h : M4 x0 H K) : a0E x0 H K := by
 intro w I
 refine c9k ?_
 refine a4d x0 I (fun r0 r1 H' w' I' hk => ⟨H', _, I', r0, r1, rfl, rfl, hk⟩) h
end Go.Proofs.YthldnpmfelniiaaDoor
