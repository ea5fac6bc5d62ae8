/- Typed formulas of the program's functions, and the theorems that the contracts follow from them; printed by lift.py off the code. -/
import Derived.Test.YthldnpmfelniiaaDoorzTV1
namespace Go.Proofs.YthldnpmfelniiaaDoor
open Go.RowKit
set_option maxRecDepth 100000
set_option maxHeartbeats 2000000
def R4 (x0 : p5) (H : Hp) (K : a8 → Hp → Prop) : Prop :=
 K (a8.t7 (B5.mk x0)) H
theorem a4W (x0 : p5) {w0 w : World} {ps0 : Nat → Prop} {H0 H : Hp} {K : a8 → Hp → Prop} {R : Value → World → Prop} {E : Pan} (I : Inv w0 ps0 H0 H [] w) (hR : ∀ (r0 : a8) (H' : Hp) (w' : World) (_ : Inv w0 ps0 H0 H' [] w') (_ : K r0 H'), R (l9 r0) w') (h : R4 x0 H K) : F98 (Value.agg (f6 x0).toArray) w R E := by
 unfold R4 at h
 unfold F98
 refine M6 I (cs := (f6 x0)) rfl fun g_2 w_3 I_4 k_5 => ?_
 refine c5 (ldA Tryd.isAgg88 Tryd.sizeOf88 rfl (I_4.at1 (o := 0) (vs := (f6 x0)) (nb rfl) rfl)) ?_
 refine a6 (b2p _ _ _ _ _ _ _ _ _ _ _ _ _ _) ?_
 refine a6 (b0l (B5.mk x0)) ?_
 exact hR (a8.t7 (B5.mk x0)) H _ I_4.drop h
theorem a5Q (x0 : p5) {H : Hp} {K : a8 → Hp → Prop} (h : R4 x0 H K) : a1L x0 H K := by
 intro w I
 refine c7q ?_
 refine a4W x0 I (fun r0 H' w' I' hk => ⟨H', _, I', r0, rfl, rfl, hk⟩) h
def m4 (L4 : (List a8)) (H : Hp) (K : Sl → Hp → Prop) : Prop :=
 ∀ (u9 : Sl) (O0 : Hp), Hle H O0 → SlH O0 1 h7 u9 L4 → u9.n ≤ u9.c →
 K u9 O0
def m5 (Q4 : Sl) (O1 : Int) (j9 : (List a8)) (i5 : Int) (H : Hp) (n2 : ((List a8) × Int) → Hp → Prop) (K : Sl → Hp → Prop) : Prop :=
 (i5 < O1 →
 (0 : Int) ≤ i5 ∧ (i5 : Int) < Q4.n ∧ ∃ x_1 : p5, EltH H Q4 i5 6 (f6 x_1) ∧
 a1L x_1 H (fun (E5 : a8) (W6 : Hp) =>
 (j9.length + ([E5] : List a8).length) * 17 ≤ 140737488355328 ∧
 n2 ((j9 ++ [E5]), (IntKind.wrap .i64 (i5 + 1))) W6)) ∧
 (¬ (i5 < O1) →
 m4 j9 H K)
def o6 (x0 : Sl) (H : Hp) (K : Sl → Hp → Prop) : Prop :=
 TL (([], 0) : (List a8) × Int) H fun (s : (List a8) × Int) H n2 => m5 x0 (x0.n : Int) s.1 s.2 H n2 K
theorem N5 (x0 : Sl) {w0 w : World} {ps0 : Nat → Prop} {H0 H : Hp} {K : Sl → Hp → Prop} {R : Value → World → Prop} {E : Pan} (I : Inv w0 ps0 H0 H [] w) (hR : ∀ (r0 : Sl) (H' : Hp) (w' : World) (_ : Inv w0 ps0 H0 H' [] w') (_ : K r0 H'), R (vs r0) w') (h : o6 x0 H K) : F97 (vs x0) (Value.func (.func 98) #[] #[]) w R E := by
 unfold o6 at h
 unfold F97
 have hj1 : ∀ (L4 : (List a8)) (u9 : Sl) (Fs5j1 : Frag) (H : Hp) (w : World) (_ : RowL 141 1 h7 u9 L4 Fs5j1) (_ : Inv w0 ps0 H0 H [Fs5j1] w) (_ : m4 L4 H K), b2C (vs u9) w R E := by
  intro L4 u9 Fs5j1 H w a5F I h
  unfold b2C
  intro _
  unfold m4 at h
  obtain ⟨O0, a3K, a7b, a3L, a4I⟩ := Inv.freezeC I a5F (by decide)
  replace h := h u9 O0 a7b a3L a4I
  exact hR u9 O0 _ a3K h
 refine v2 fun j1 hx1 => ?_
 refine a6 (a0g _ _ _) ?_
 obtain ⟨a1b, S5, a8z, a8A⟩ := h
 refine G2 (J := fun n l w => ∃ (s : (List a8) × Int) (H : Hp) (L5 : Sl) (Fs5l2 : Frag) , n = S5 s ∧ l = (match s with | (j9, i5) => [(vs L5), (vi i5)]) ∧ (match s with | (j9, i5) => RowL 141 1 h7 L5 j9 Fs5l2) ∧ (match s with | (j9, i5) => Inv w0 ps0 H0 H [Fs5l2] w) ∧ a1b s H) ⟨_, ([], 0), H, (Sl.mk none 0 0), [], rfl, rfl, (RowL.nil C7 E2), I.nil, a8z⟩ ?_
 rintro b9W τ_50 w next2 ⟨⟨j9, i5⟩, H, L5, Fs5l2, rfl, a1d, X9, I, a8B⟩ hn2
 dsimp only at a1d I X9
 simp only [List.map_cons, List.map_nil, List.cons.injEq, and_true] at a1d
 obtain ⟨e5, e10⟩ := a1d
 simp only [e5, e10]
 obtain ⟨n2, hm2, h⟩ : ∃ n2 : ((List a8) × Int) → Hp → Prop, (∀ s' H', n2 s' H' → a1b s' H' ∧ S5 s' < S5 (j9, i5)) ∧ m5 x0 (x0.n : Int) j9 i5 H n2 K := ⟨_, fun _ _ h => h, a8A (j9, i5) H (fun s' H' => a1b s' H' ∧ S5 s' < S5 (j9, i5)) a8B (fun _ _ a b => ⟨a, b⟩)⟩
 unfold b7M
 unfold m5 at h
 refine a6 (K7 _ _ _ _ _ _) ?_
 refine d7 (fun Y0 => ?_) (fun Y0 => ?_)
 ·replace h := h.1 Y0
  obtain ⟨h_4, h_5, x_1, h_7, h⟩ := h
  obtain ⟨g_2, o_3, h_6, h_7⟩ := h_7
  refine a6 (b2m h_6 _ _ _ _ h_4 h_5) ?_
  refine c5 (ldA (vs := (f6 x_1)) Tryd.isAgg88 Tryd.sizeOf88 rfl (I.atH h_7)) ?_
  refine E7 I Tryd.zeroValue88 (cs := [(vi 0), (Value.string ⟨#[]⟩), (Value.slice none 0 0), (Value.slice none 0 0), (Value.slice none 0 0), (Value.slice none 0 0)]) rfl fun g_9 o2 a2b b2W => ?_
  refine s6 a2b Tryd.sizeOf88 (vs := (f6 x_1)) (cs' := (f6 x_1)) rfl rfl (nb rfl) rfl rfl fun a3x a3M b9X => ?_
  refine c5 (ldA Tryd.isAgg88 Tryd.sizeOf88 rfl (a3M.at1 (o := 0) (vs := (f6 x_1)) (nb rfl) rfl)) ?_
  refine f8 (cap := []) (fun args w => Tryd.call98 args w) ?_
  refine j8 (Fi := []) (Fr := [bx g_9 88 (f6 x_1), Fs5l2]) a3M (h) (fun b5K W6 b5L a0F a0o b5M b5N a5G => ?_) (fun _ _ _ _ _ q => q.elim)
  obtain ⟨E5, rfl, rfl, h⟩ := a5G
  refine a1w (e := 141) (c := h7) (xs := [E5]) a0o (a7x _) rfl rfl C7 E2 (nb rfl) fun b2X b0L G4 a5H a0I b2Y => ?_
  obtain ⟨a5I, h⟩ := h
  refine a6H (s := L5) (xs := j9) (a0I.bring 2) X9 (a5H.srcO ((a0I.bring 2).bring 1)) a5I fun a8C a8D J3 a5J a2N b5O => ?_
  refine a6 (F8 _ _ _ _ _ _) ?_
  exact hn2 _ _ _ (hm2 _ _ h).2 ⟨((j9 ++ [E5]), (IntKind.wrap .i64 (i5 + 1))), W6, a8C, a8D, rfl, rfl, a5J, ((a2N.bring 1).drop.bring 1).drop, (hm2 _ _ h).1⟩
 ·replace h := h.2 Y0
  exact hx1 _ _ (hj1 j9 L5 Fs5l2 H _ X9 I h)
theorem O5 (x0 : Sl) {H : Hp} {K : Sl → Hp → Prop} (h : o6 x0 H K) : j6 x0 H K := by
 intro w I
 refine c7o ?_
 refine N5 x0 I (fun r0 H' w' I' hk => ⟨H', _, I', r0, rfl, rfl, hk⟩) h
def p7 (a7K : Bool) (_cr_1j4 : Int) (H : Hp) (K : Int → Hp → Prop) : Prop :=
 (a7K = true →
 K 3 H) ∧
 (a7K = false →
 K 6 H)
def C0 (a7L : Bool) (cr_1j3 : Int) (H : Hp) (K : Int → Hp → Prop) : Prop :=
 (a7L = true →
 K 6 H) ∧
 (a7L = false →
 y6 48 57 cr_1j3 H (fun (L8 : Bool) (H_6 : Hp) =>
 (L8 = true →
 K 4 H_6) ∧
 (L8 = false →
 (cr_1j3 = 95 →
 p7 (decide (cr_1j3 = 95)) cr_1j3 H_6 K) ∧
 (¬ (cr_1j3 = 95) →
 y6 97 122 cr_1j3 H_6 (fun (E5 : Bool) (W6 : Hp) =>
 (E5 = true →
 p7 E5 cr_1j3 W6 K) ∧
 (E5 = false →
 y6 65 90 cr_1j3 W6 (fun (a9L : Bool) (b5Z : Hp) =>
 (a9L = true →
 p7 a9L cr_1j3 b5Z K) ∧
 (a9L = false →
 y6 192 591 cr_1j3 b5Z (fun (a9M : Bool) (b6a : Hp) =>
 (a9M = true →
 p7 a9M cr_1j3 b6a K) ∧
 (a9M = false →
 y6 913 969 cr_1j3 b6a (fun (Y3 : Bool) (a0J : Hp) =>
 (Y3 = true →
 p7 Y3 cr_1j3 a0J K) ∧
 (Y3 = false →
 y6 1040 1103 cr_1j3 a0J (fun (b6b : Bool) (c0u : Hp) =>
 p7 b6b cr_1j3 c0u K)))))))))))))
def f5 (a8L : Int) (a7M : Bool) (cr_1j2 : Int) (H : Hp) (K : Int → Hp → Prop) : Prop :=
 (a7M = true →
 K 5 H) ∧
 (a7M = false →
 (a8L = 215 →
 C0 (decide (a8L = 215)) cr_1j2 H K) ∧
 (¬ (a8L = 215) →
 (a8L = 247 →
 C0 (decide (a8L = 247)) cr_1j2 H K) ∧
 (¬ (a8L = 247) →
 C0 (decide (a8L = 930)) cr_1j2 H K)))
def C1 (i7 : Int) (a5R : Bool) (cr_1j1 : Int) (H : Hp) (K : Int → Hp → Prop) : Prop :=
 (a5R = true →
 K 1 H) ∧
 (a5R = false →
 (i7 = 10 →
 K 2 H) ∧
 (¬ (i7 = 10) →
 (i7 = 59 →
 f5 i7 (decide (i7 = 59)) cr_1j1 H K) ∧
 (¬ (i7 = 59) →
 (i7 = 44 →
 f5 i7 (decide (i7 = 44)) cr_1j1 H K) ∧
 (¬ (i7 = 44) →
 (i7 = 123 →
 f5 i7 (decide (i7 = 123)) cr_1j1 H K) ∧
 (¬ (i7 = 123) →
 (i7 = 125 →
 f5 i7 (decide (i7 = 125)) cr_1j1 H K) ∧
 (¬ (i7 = 125) →
 (i7 = 40 →
 f5 i7 (decide (i7 = 40)) cr_1j1 H K) ∧
 (¬ (i7 = 40) →
 (i7 = 41 →
 f5 i7 (decide (i7 = 41)) cr_1j1 H K) ∧
 (¬ (i7 = 41) →
 (i7 = 91 →
 f5 i7 (decide (i7 = 91)) cr_1j1 H K) ∧
 (¬ (i7 = 91) →
 (i7 = 93 →
 f5 i7 (decide (i7 = 93)) cr_1j1 H K) ∧
 (¬ (i7 = 93) →
 (i7 = 61 →
 f5 i7 (decide (i7 = 61)) cr_1j1 H K) ∧
 (¬ (i7 = 61) →
 (i7 = 33 →
 f5 i7 (decide (i7 = 33)) cr_1j1 H K) ∧
 (¬ (i7 = 33) →
 (i7 = 60 →
 f5 i7 (decide (i7 = 60)) cr_1j1 H K) ∧
 (¬ (i7 = 60) →
 (i7 = 62 →
 f5 i7 (decide (i7 = 62)) cr_1j1 H K) ∧
 (¬ (i7 = 62) →
 (i7 = 43 →
 f5 i7 (decide (i7 = 43)) cr_1j1 H K) ∧
 (¬ (i7 = 43) →
 (i7 = 45 →
 f5 i7 (decide (i7 = 45)) cr_1j1 H K) ∧
 (¬ (i7 = 45) →
 (i7 = 42 →
 f5 i7 (decide (i7 = 42)) cr_1j1 H K) ∧
 (¬ (i7 = 42) →
 (i7 = 47 →
 f5 i7 (decide (i7 = 47)) cr_1j1 H K) ∧
 (¬ (i7 = 47) →
 (i7 = 37 →
 f5 i7 (decide (i7 = 37)) cr_1j1 H K) ∧
 (¬ (i7 = 37) →
 (i7 = 38 →
 f5 i7 (decide (i7 = 38)) cr_1j1 H K) ∧
 (¬ (i7 = 38) →
 f5 i7 (decide (i7 = 124)) cr_1j1 H K))))))))))))))))))))
def S8 (x0 : Int) (H : Hp) (K : Int → Hp → Prop) : Prop :=
 (x0 = 32 →
 C1 x0 (decide (x0 = 32)) x0 H K) ∧
 (¬ (x0 = 32) →
 (x0 = 9 →
 C1 x0 (decide (x0 = 9)) x0 H K) ∧
 (¬ (x0 = 9) →
 C1 x0 (decide (x0 = 13)) x0 H K))
theorem a5S (x0 : Int) {w0 w : World} {ps0 : Nat → Prop} {H0 H : Hp} {K : Int → Hp → Prop} {R : Value → World → Prop} {E : Pan} (I : Inv w0 ps0 H0 H [] w) (hR : ∀ (r0 : Int) (H' : Hp) (w' : World) (_ : Inv w0 ps0 H0 H' [] w') (_ : K r0 H'), R (vi r0) w') (h : S8 x0 H K) : b5r (Value.int .i32 x0) w R E := by
 unfold S8 at h
 unfold b5r
 refine M6 I (cs := [(Value.int .i32 x0)]) rfl fun g_2 w_3 I_4 k_5 => ?_
 refine c5 (ld1 Tryd.isAgg21 (I_4.at1 (o := 0) (vs := [(Value.int .i32 x0)]) (nb rfl) rfl)) ?_
 have hj1 : ∀ (a5R : Bool) (H : Hp) (w : World) (_ : Inv w0 ps0 H0 H [bx g_2 21 [(Value.int .i32 x0)]] w) (_ : C1 x0 a5R x0 H K), b0x (Value.pointer (some ⟨g_2, 0, none⟩)) (Value.int .i32 x0) (Value.bool a5R) w R E := by
  intro a5R H w I h
  unfold b0x
  intro _
  unfold C1 at h
  refine r8 (fun c0v => ?_) (fun c0v => ?_)
  ·replace h := h.1 c0v
   exact hR 1 H _ I.drop h
  ·replace h := h.2 c0v
   refine a6 (f7 _ _ _ _ _ _) ?_
   refine d7 (fun c0w => ?_) (fun c0w => ?_)
   ·replace h := h.1 c0w
    exact hR 2 H _ I.drop h
   ·replace h := h.2 c0w
    have hj2 : ∀ (a7M : Bool) (H : Hp) (w : World) (_ : Inv w0 ps0 H0 H [bx g_2 21 [(Value.int .i32 x0)]] w) (_ : f5 x0 a7M x0 H K), b0w (Value.pointer (some ⟨g_2, 0, none⟩)) (Value.int .i32 x0) (Value.bool a7M) w R E := by
     intro a7M H w I h
     unfold b0w
     intro _
     unfold f5 at h
     refine r8 (fun c0x => ?_) (fun c0x => ?_)
     ·replace h := h.1 c0x
      exact hR 5 H _ I.drop h
     ·replace h := h.2 c0x
      have hj3 : ∀ (a7L : Bool) (H : Hp) (w : World) (_ : Inv w0 ps0 H0 H [bx g_2 21 [(Value.int .i32 x0)]] w) (_ : C0 a7L x0 H K), b0v (Value.pointer (some ⟨g_2, 0, none⟩)) (Value.bool a7L) w R E := by
       intro a7L H w I h
       unfold b0v
       intro _
       unfold C0 at h
       refine r8 (fun a8M => ?_) (fun a8M => ?_)
       ·replace h := h.1 a8M
        exact hR 6 H _ I.drop h
       ·replace h := h.2 a8M
        refine a6 (a8a _ _ _) ?_
        refine f8 (cap := [(Value.pointer (some ⟨g_2, 0, none⟩))]) (fun args w => Tryd.call131 args w) ?_
        refine j8 (Fi := [bx g_2 21 [(Value.int .i32 x0)]]) (Fr := []) I (h g_2) (fun b3j H_6 b3k w_7 I_8 b3l k_9 a3S => ?_) (fun _ _ _ _ _ q => q.elim)
        obtain ⟨L8, rfl, rfl, h⟩ := a3S
        refine r8 (fun c0y => ?_) (fun c0y => ?_)
        ·replace h := h.1 c0y
         exact hR 4 H_6 _ I_8.drop h
        ·replace h := h.2 c0y
         have hj4 : ∀ (a7K : Bool) (H : Hp) (w : World) (_ : Inv w0 ps0 H0 H [bx g_2 21 [(Value.int .i32 x0)]] w) (_ : p7 a7K x0 H K), b0u (Value.bool a7K) w R E := by
          intro a7K H w I h
          unfold b0u
          intro _
          unfold p7 at h
          refine r8 (fun a0Z => ?_) (fun a0Z => ?_)
          ·replace h := h.1 a0Z
           exact hR 3 H _ I.drop h
          ·replace h := h.2 a0Z
           exact hR 6 H _ I.drop h
         refine v2 fun j4 hx4 => ?_
         refine c5 (ld1 Tryd.isAgg21 (I_8.at1 (o := 0) (vs := [(Value.int .i32 x0)]) (nb rfl) rfl)) ?_
         refine a6 (f7 _ _ _ _ _ _) ?_
         refine d7 (fun c0z => ?_) (fun c0z => ?_)
         ·replace h := h.1 c0z
          exact hx4 _ _ (hj4 (decide (x0 = 95)) H_6 _ I_8 h)
         ·replace h := h.2 c0z
          refine f8 (cap := [(Value.pointer (some ⟨g_2, 0, none⟩))]) (fun args w => Tryd.call131 args w) ?_
          refine j8 (Fi := [bx g_2 21 [(Value.int .i32 x0)]]) (Fr := []) I_8 (h g_2) (fun b5K W6 b5L a0F a0o b5M b5N a5G => ?_) (fun _ _ _ _ _ q => q.elim)
          obtain ⟨E5, rfl, rfl, h⟩ := a5G
          refine r8 (fun c0A => ?_) (fun c0A => ?_)
          ·replace h := h.1 c0A
           exact hx4 _ _ (hj4 E5 W6 _ a0o h)
          ·replace h := h.2 c0A
           refine f8 (cap := [(Value.pointer (some ⟨g_2, 0, none⟩))]) (fun args w => Tryd.call131 args w) ?_
           refine j8 (Fi := [bx g_2 21 [(Value.int .i32 x0)]]) (Fr := []) a0o (h g_2) (fun e1f b5Z e1g B8 a8N e1h d1f d7A => ?_) (fun _ _ _ _ _ q => q.elim)
           obtain ⟨a9L, rfl, rfl, h⟩ := d7A
           refine r8 (fun c0B => ?_) (fun c0B => ?_)
           ·replace h := h.1 c0B
            exact hx4 _ _ (hj4 a9L b5Z _ a8N h)
           ·replace h := h.2 c0B
            refine f8 (cap := [(Value.pointer (some ⟨g_2, 0, none⟩))]) (fun args w => Tryd.call131 args w) ?_
            refine j8 (Fi := [bx g_2 21 [(Value.int .i32 x0)]]) (Fr := []) a8N (h g_2) (fun e1i b6a e1j b3m a2N a7b b5O d7B => ?_) (fun _ _ _ _ _ q => q.elim)
            obtain ⟨a9M, rfl, rfl, h⟩ := d7B
            refine r8 (fun c0C => ?_) (fun c0C => ?_)
            ·replace h := h.1 c0C
             exact hx4 _ _ (hj4 a9M b6a _ a2N h)
            ·replace h := h.2 c0C
             refine f8 (cap := [(Value.pointer (some ⟨g_2, 0, none⟩))]) (fun args w => Tryd.call131 args w) ?_
             refine j8 (Fi := [bx g_2 21 [(Value.int .i32 x0)]]) (Fr := []) a2N (h g_2) (fun d7p a0J d7q N8 b0R d7r d7s c0o => ?_) (fun _ _ _ _ _ q => q.elim)
             obtain ⟨Y3, rfl, rfl, h⟩ := c0o
             refine r8 (fun c0D => ?_) (fun c0D => ?_)
             ·replace h := h.1 c0D
              exact hx4 _ _ (hj4 Y3 a0J _ b0R h)
             ·replace h := h.2 c0D
              refine f8 (cap := [(Value.pointer (some ⟨g_2, 0, none⟩))]) (fun args w => Tryd.call131 args w) ?_
              refine j8 (Fi := [bx g_2 21 [(Value.int .i32 x0)]]) (Fr := []) b0R (h g_2) (fun e1k c0u e1l e1m d7C e1n e1o d7D => ?_) (fun _ _ _ _ _ q => q.elim)
              obtain ⟨b6b, rfl, rfl, h⟩ := d7D
              exact hx4 _ _ (hj4 b6b c0u _ d7C h)
      refine v2 fun j3 hx3 => ?_
      refine a6 (f7 _ _ _ _ _ _) ?_
      refine d7 (fun a8J => ?_) (fun a8J => ?_)
      ·replace h := h.1 a8J
       exact hx3 _ _ (hj3 (decide (x0 = 215)) H _ I h)
      ·replace h := h.2 a8J
       refine a6 (f7 _ _ _ _ _ _) ?_
       refine d7 (fun a3V => ?_) (fun a3V => ?_)
       ·replace h := h.1 a3V
        exact hx3 _ _ (hj3 (decide (x0 = 247)) H _ I h)
       ·replace h := h.2 a3V
        refine a6 (f7 _ _ _ _ _ _) ?_
        exact hx3 _ _ (hj3 (decide (x0 = 930)) H _ I h)
    refine v2 fun j2 hx2 => ?_
    refine a6 (f7 _ _ _ _ _ _) ?_
    refine d7 (fun c0E => ?_) (fun c0E => ?_)
    ·replace h := h.1 c0E
     exact hx2 _ _ (hj2 (decide (x0 = 59)) H _ I h)
    ·replace h := h.2 c0E
     refine a6 (f7 _ _ _ _ _ _) ?_
     refine d7 (fun a3W => ?_) (fun a3W => ?_)
     ·replace h := h.1 a3W
      exact hx2 _ _ (hj2 (decide (x0 = 44)) H _ I h)
     ·replace h := h.2 a3W
      refine a6 (f7 _ _ _ _ _ _) ?_
      refine d7 (fun a8O => ?_) (fun a8O => ?_)
      ·replace h := h.1 a8O
       exact hx2 _ _ (hj2 (decide (x0 = 123)) H _ I h)
      ·replace h := h.2 a8O
       refine a6 (f7 _ _ _ _ _ _) ?_
       refine d7 (fun c0F => ?_) (fun c0F => ?_)
       ·replace h := h.1 c0F
        exact hx2 _ _ (hj2 (decide (x0 = 125)) H _ I h)
       ·replace h := h.2 c0F
        refine a6 (f7 _ _ _ _ _ _) ?_
        refine d7 (fun c0G => ?_) (fun c0G => ?_)
        ·replace h := h.1 c0G
         exact hx2 _ _ (hj2 (decide (x0 = 40)) H _ I h)
        ·replace h := h.2 c0G
         refine a6 (f7 _ _ _ _ _ _) ?_
         refine d7 (fun c0H => ?_) (fun c0H => ?_)
         ·replace h := h.1 c0H
          exact hx2 _ _ (hj2 (decide (x0 = 41)) H _ I h)
         ·replace h := h.2 c0H
          refine a6 (f7 _ _ _ _ _ _) ?_
          refine d7 (fun a8P => ?_) (fun a8P => ?_)
          ·replace h := h.1 a8P
           exact hx2 _ _ (hj2 (decide (x0 = 91)) H _ I h)
          ·replace h := h.2 a8P
           refine a6 (f7 _ _ _ _ _ _) ?_
           refine d7 (fun a8Q => ?_) (fun a8Q => ?_)
           ·replace h := h.1 a8Q
            exact hx2 _ _ (hj2 (decide (x0 = 93)) H _ I h)
           ·replace h := h.2 a8Q
            refine a6 (f7 _ _ _ _ _ _) ?_
            refine d7 (fun c0I => ?_) (fun c0I => ?_)
            ·replace h := h.1 c0I
             exact hx2 _ _ (hj2 (decide (x0 = 61)) H _ I h)
            ·replace h := h.2 c0I
             refine a6 (f7 _ _ _ _ _ _) ?_
             refine d7 (fun c0J => ?_) (fun c0J => ?_)
             ·replace h := h.1 c0J
              exact hx2 _ _ (hj2 (decide (x0 = 33)) H _ I h)
             ·replace h := h.2 c0J
              refine a6 (f7 _ _ _ _ _ _) ?_
              refine d7 (fun c0K => ?_) (fun c0K => ?_)
              ·replace h := h.1 c0K
               exact hx2 _ _ (hj2 (decide (x0 = 60)) H _ I h)
              ·replace h := h.2 c0K
               refine a6 (f7 _ _ _ _ _ _) ?_
               refine d7 (fun c0L => ?_) (fun c0L => ?_)
               ·replace h := h.1 c0L
                exact hx2 _ _ (hj2 (decide (x0 = 62)) H _ I h)
               ·replace h := h.2 c0L
                refine a6 (f7 _ _ _ _ _ _) ?_
                refine d7 (fun c0M => ?_) (fun c0M => ?_)
                ·replace h := h.1 c0M
                 exact hx2 _ _ (hj2 (decide (x0 = 43)) H _ I h)
                ·replace h := h.2 c0M
                 refine a6 (f7 _ _ _ _ _ _) ?_
                 refine d7 (fun a8F => ?_) (fun a8F => ?_)
                 ·replace h := h.1 a8F
                  exact hx2 _ _ (hj2 (decide (x0 = 45)) H _ I h)
                 ·replace h := h.2 a8F
                  refine a6 (f7 _ _ _ _ _ _) ?_
                  refine d7 (fun a8G => ?_) (fun a8G => ?_)
                  ·replace h := h.1 a8G
                   exact hx2 _ _ (hj2 (decide (x0 = 42)) H _ I h)
                  ·replace h := h.2 a8G
                   refine a6 (f7 _ _ _ _ _ _) ?_
                   refine d7 (fun c0N => ?_) (fun c0N => ?_)
                   ·replace h := h.1 c0N
                    exact hx2 _ _ (hj2 (decide (x0 = 47)) H _ I h)
                   ·replace h := h.2 c0N
                    refine a6 (f7 _ _ _ _ _ _) ?_
                    refine d7 (fun c0O => ?_) (fun c0O => ?_)
                    ·replace h := h.1 c0O
                     exact hx2 _ _ (hj2 (decide (x0 = 37)) H _ I h)
                    ·replace h := h.2 c0O
                     refine a6 (f7 _ _ _ _ _ _) ?_
                     refine d7 (fun a8I => ?_) (fun a8I => ?_)
                     ·replace h := h.1 a8I
                      exact hx2 _ _ (hj2 (decide (x0 = 38)) H _ I h)
                     ·replace h := h.2 a8I
                      refine a6 (f7 _ _ _ _ _ _) ?_
                      exact hx2 _ _ (hj2 (decide (x0 = 124)) H _ I h)
 refine v2 fun j1 hx1 => ?_
 refine a6 (f7 _ _ _ _ _ _) ?_
 refine d7 (fun c0P => ?_) (fun c0P => ?_)
 ·replace h := h.1 c0P
  exact hx1 _ _ (hj1 (decide (x0 = 32)) H _ I_4 h)
 ·replace h := h.2 c0P
  refine a6 (f7 _ _ _ _ _ _) ?_
  refine d7 (fun c0Q => ?_) (fun c0Q => ?_)
  ·replace h := h.1 c0Q
   exact hx1 _ _ (hj1 (decide (x0 = 9)) H _ I_4 h)
  ·replace h := h.2 c0Q
   refine a6 (f7 _ _ _ _ _ _) ?_
   exact hx1 _ _ (hj1 (decide (x0 = 13)) H _ I_4 h)
theorem a6t (x0 : Int) {H : Hp} {K : Int → Hp → Prop} (h : S8 x0 H K) : S6 x0 H K := by
 intro w I
 refine c3K ?_
 refine a5S x0 I (fun r0 H' w' I' hk => ⟨H', _, I', r0, rfl, rfl, hk⟩) h
def C3 (b0T : Int) (H : Hp) (K : Int → Hp → Prop) : Prop :=
 K b0T H
def C4 (jr_1l2 : ByteArray) (a2Q : Int) (ir_1l2 : Nat) (H : Hp) (n2 : (Int × Nat) → Hp → Prop) (K : Int → Hp → Prop) : Prop :=
 (ir_1l2 < jr_1l2.size →
 n2 ((IntKind.wrap .i64 (a2Q + 1)), (ir_1l2 + (Utf8.decode jr_1l2 ir_1l2).2)) H) ∧
 (¬ (ir_1l2 < jr_1l2.size) →
 C3 a2Q H K)
def D4 (x0 : ByteArray) (H : Hp) (K : Int → Hp → Prop) : Prop :=
 TL ((0, 0) : Int × Nat) H fun (s : Int × Nat) H n2 => C4 x0 s.1 s.2 H n2 K
theorem a0Q (x0 : ByteArray) {w0 w : World} {ps0 : Nat → Prop} {H0 H : Hp} {K : Int → Hp → Prop} {R : Value → World → Prop} {E : Pan} (I : Inv w0 ps0 H0 H [] w) (hR : ∀ (r0 : Int) (H' : Hp) (w' : World) (_ : Inv w0 ps0 H0 H' [] w') (_ : K r0 H'), R (vi r0) w') (h : D4 x0 H K) : b5t (Value.string x0) w R E := by
 unfold D4 at h
 unfold b5t
 have hj1 : ∀ (b0T : Int) (H : Hp) (w : World) (_ : Inv w0 ps0 H0 H [] w) (_ : C3 b0T H K), b0z (vi b0T) w R E := by
  intro b0T H w I h
  unfold b0z
  intro _
  unfold C3 at h
  exact hR b0T H _ I h
 refine v2 fun j1 hx1 => ?_
 refine b4x Tryd.underlying9 x0 I fun g_2 w_3 I_4 k_5 => ?_
 obtain ⟨c0R, b3n, d7E, d7F⟩ := h
 refine G2 (J := fun n l w => ∃ (s : Int × Nat) (H : Hp) , n = b3n s ∧ l = (match s with | (a2Q, ir_1l2) => [(vi a2Q)]) ∧ (match s with | (a2Q, ir_1l2) => Inv w0 ps0 H0 H [itf g_2 x0 ir_1l2] w) ∧ c0R s H) ⟨_, (0, 0), H, rfl, rfl, I_4, d7E⟩ ?_
 rintro e1p τ_27 w next2 ⟨⟨a2Q, ir_1l2⟩, H, rfl, c0S, I, d7G⟩ hn2
 dsimp only at c0S I
 simp only [List.map_cons, List.map_nil, List.cons.injEq, and_true] at c0S
 have e2 := c0S
 simp only [e2]
 obtain ⟨n2, hm2, h⟩ : ∃ n2 : (Int × Nat) → Hp → Prop, (∀ s' H', n2 s' H' → c0R s' H' ∧ b3n s' < b3n (a2Q, ir_1l2)) ∧ C4 x0 a2Q ir_1l2 H n2 K := ⟨_, fun _ _ h => h, d7F (a2Q, ir_1l2) H (fun s' H' => c0R s' H' ∧ b3n s' < b3n (a2Q, ir_1l2)) d7G (fun _ _ a b => ⟨a, b⟩)⟩
 unfold b4D
 unfold C4 at h
 refine b7D I (fun a8K y9 a3O b0N => ?_) (fun a8K => ?_)
 ·replace h := h.1 a8K
  refine a6 (p9 _ _ _ rfl) ?_
  refine r8 (fun e => ?_) (fun e => by cases e)
  refine a6 (F8 _ _ _ _ _ _) ?_
  exact hn2 _ _ _ (hm2 _ _ h).2 ⟨((IntKind.wrap .i64 (a2Q + 1)), (ir_1l2 + (Utf8.decode x0 ir_1l2).2)), H, rfl, rfl, a3O, (hm2 _ _ h).1⟩
 ·replace h := h.2 a8K
  refine a6 (p9 _ _ _ rfl) ?_
  refine r8 (fun e => by cases e) (fun e => ?_)
  exact hx1 _ _ (hj1 a2Q H _ I.drop h)
theorem a1f (x0 : ByteArray) {H : Hp} {K : Int → Hp → Prop} (h : D4 x0 H K) : J8 x0 H K := by
 intro w I
 refine c3O ?_
 refine a0Q x0 I (fun r0 H' w' I' hk => ⟨H', _, I', r0, rfl, rfl, hk⟩) h
def Y4 (H : Hp) (K : Bool → Hp → Prop) : Prop :=
 K true H
def B7 (jr_28l2 : ByteArray) (ir_28l2 : Nat) (H : Hp) (n2 : Nat → Hp → Prop) (K : Bool → Hp → Prop) : Prop :=
 (ir_28l2 < jr_28l2.size →
 Z9 ((Utf8.decode jr_28l2 ir_28l2).1 : Int) H (fun (a5T : Bool) (b3o : Hp) =>
 TG ((!(!a5T) && (decide (((ir_28l2 : Nat) : Int) = 0))) = true) (S6 ((Utf8.decode jr_28l2 ir_28l2).1 : Int) b3o) 0 b3o (fun (a3e : Int) (a0K : Hp) =>
 (((!a5T) || ((decide (((ir_28l2 : Nat) : Int) = 0)) && (!decide (a3e = 3)))) = true →
 K false a0K) ∧
 (((!a5T) || ((decide (((ir_28l2 : Nat) : Int) = 0)) && (!decide (a3e = 3)))) = false →
 n2 (ir_28l2 + (Utf8.decode jr_28l2 ir_28l2).2) a0K)))) ∧
 (¬ (ir_28l2 < jr_28l2.size) →
 Y4 H K)
def V2 (x0 : ByteArray) (H : Hp) (K : Bool → Hp → Prop) : Prop :=
 TG ((decide (x0 = ⟨#[]⟩)) = false) (Z3 x0 H) false H (fun (G5 : Bool) (H_1 : Hp) =>
 TG (((decide (x0 = ⟨#[]⟩)) || (!G5)) = false) (U7 x0 H_1) false H_1 (fun (v1 : Bool) (a1g : Hp) =>
 TG ((((decide (x0 = ⟨#[]⟩)) || (!G5)) || v1) = false) (Q9 x0 a1g) false a1g (fun (Y5 : Bool) (a0d : Hp) =>
 (((((decide (x0 = ⟨#[]⟩)) || (!G5)) || v1) || Y5) = true →
 K false a0d) ∧
 (((((decide (x0 = ⟨#[]⟩)) || (!G5)) || v1) || Y5) = false →
 TL (0 : Nat) a0d fun (s : Nat) H n2 => B7 x0 s H n2 K))))
theorem a7d (x0 : ByteArray) {w0 w : World} {ps0 : Nat → Prop} {H0 H : Hp} {K : Bool → Hp → Prop} {R : Value → World → Prop} {E : Pan} (I : Inv w0 ps0 H0 H [] w) (hR : ∀ (r0 : Bool) (H' : Hp) (w' : World) (_ : Inv w0 ps0 H0 H' [] w') (_ : K r0 H'), R (Value.bool r0) w') (h : V2 x0 H K) : b5m (Value.string x0) w R E := by
 unfold V2 at h
 unfold b5m
 refine a6 (P9 _ _ _ _ _) ?_
 try simp only [Q8]
 refine a2C (D := fun v_5 w_2 => ∃ (G5 : Bool) (H_1 : Hp) , v_5 = (gv (decide (x0 = ⟨#[]⟩)) false (Value.bool G5)) ∧ (Inv w0 ps0 H0 H_1 [] w_2) ∧ (∀ i, i < w.heap.size → ¬ inF [] i → w_2.heap[i]? = w.heap[i]?) ∧ Hle H H_1 ∧ (TG (((decide (x0 = ⟨#[]⟩)) || (!G5)) = false) (U7 x0 H_1) false H_1 (fun (v1 : Bool) (a1g : Hp) =>
 TG ((((decide (x0 = ⟨#[]⟩)) || (!G5)) || v1) = false) (Q9 x0 a1g) false a1g (fun (Y5 : Bool) (a0d : Hp) =>
 (((((decide (x0 = ⟨#[]⟩)) || (!G5)) || v1) || Y5) = true →
 K false a0d) ∧
 (((((decide (x0 = ⟨#[]⟩)) || (!G5)) || v1) || Y5) = false →
 TL (0 : Nat) a0d fun (s : Nat) H n2 => B7 x0 s H n2 K))))) (fun a7N => ?_) (fun a7N => ?_) ?_
 ·replace h := h.1 a7N
  have a7 := a7N
  try simp only [b5 a7]
  refine f8 (cap := []) (fun args w => Tryd.call122 args w) ?_
  refine j8 (Fi := []) (Fr := []) I (h) (fun v_5 H_1 F_6 w_2 I_3 l_8 k_4 q_7 => ?_) (fun _ _ _ _ _ q => q.elim)
  obtain ⟨G5, rfl, rfl, h⟩ := q_7
  exact ⟨G5, H_1, by first | rfl | rw [b5 a7N], I_3, k_4, l_8, h⟩
 ·exact ⟨false, H, by first | rfl | rw [a5g a7N], I, fun _ _ _ => rfl, Hle.refl _, h.2 a7N⟩
 ·clear h
  rintro v_5 w_2 ⟨G5, H_1, rfl, I_3, k_4, l_8, h⟩
  refine a6 (Pu.g fun hb => by have a7 := hb; first | exact (D6 _) | (simp only [b5 a7]; exact (D6 _)) | (simp only [c7 a7, b5 a7, b5 hb, K8 a7, p1]; exact (D6 _))) ?_
  refine a6 (a1t _ _) ?_
  try simp only [Q8]
  refine a2C (D := fun c0T S3 => ∃ (v1 : Bool) (a1g : Hp) , c0T = (gv ((decide (x0 = ⟨#[]⟩)) || (!G5)) false (Value.bool v1)) ∧ (Inv w0 ps0 H0 a1g [] S3) ∧ (∀ i, i < w_2.heap.size → ¬ inF [] i → S3.heap[i]? = w_2.heap[i]?) ∧ Hle H_1 a1g ∧ (TG ((((decide (x0 = ⟨#[]⟩)) || (!G5)) || v1) = false) (Q9 x0 a1g) false a1g (fun (Y5 : Bool) (a0d : Hp) =>
 (((((decide (x0 = ⟨#[]⟩)) || (!G5)) || v1) || Y5) = true →
 K false a0d) ∧
 (((((decide (x0 = ⟨#[]⟩)) || (!G5)) || v1) || Y5) = false →
 TL (0 : Nat) a0d fun (s : Nat) H n2 => B7 x0 s H n2 K)))) (fun b0U => ?_) (fun b0U => ?_) ?_
  ·replace h := h.1 b0U
   have a7 := b0U
   try simp only [b5 a7]
   refine f8 (cap := []) (fun args w => Tryd.call123 args w) ?_
   refine j8 (Fi := []) (Fr := []) I_3 (h) (fun c0T a1g e1q S3 A0 b3f b0K d7H => ?_) (fun _ _ _ _ _ q => q.elim)
   obtain ⟨v1, rfl, rfl, h⟩ := d7H
   exact ⟨v1, a1g, by first | rfl | rw [b5 b0U], A0, b0K, b3f, h⟩
  ·exact ⟨false, H_1, by first | rfl | rw [a5g b0U], I_3, fun _ _ _ => rfl, Hle.refl _, h.2 b0U⟩
  ·clear h
   rintro c0T S3 ⟨v1, a1g, rfl, A0, b0K, b3f, h⟩
   refine a6 (a1t _ _) ?_
   try simp only [Q8]
   refine a2C (D := fun c0U v8 => ∃ (Y5 : Bool) (a0d : Hp) , c0U = (gv (((decide (x0 = ⟨#[]⟩)) || (!G5)) || v1) false (Value.bool Y5)) ∧ (Inv w0 ps0 H0 a0d [] v8) ∧ (∀ i, i < S3.heap.size → ¬ inF [] i → v8.heap[i]? = S3.heap[i]?) ∧ Hle a1g a0d ∧ ((((((decide (x0 = ⟨#[]⟩)) || (!G5)) || v1) || Y5) = true →
 K false a0d) ∧
 (((((decide (x0 = ⟨#[]⟩)) || (!G5)) || v1) || Y5) = false →
 TL (0 : Nat) a0d fun (s : Nat) H n2 => B7 x0 s H n2 K))) (fun b0V => ?_) (fun b0V => ?_) ?_
   ·replace h := h.1 b0V
    have a7 := b0V
    try simp only [b5 a7]
    refine f8 (cap := []) (fun args w => Tryd.call124 args w) ?_
    refine j8 (Fi := []) (Fr := []) A0 (h) (fun c0U a0d e1r v8 b6c d1g d1h d7I => ?_) (fun _ _ _ _ _ q => q.elim)
    obtain ⟨Y5, rfl, rfl, h⟩ := d7I
    exact ⟨Y5, a0d, by first | rfl | rw [b5 b0V], b6c, d1h, d1g, h⟩
   ·exact ⟨false, a1g, by first | rfl | rw [a5g b0V], A0, fun _ _ _ => rfl, Hle.refl _, h.2 b0V⟩
   ·clear h
    rintro c0U v8 ⟨Y5, a0d, rfl, b6c, d1h, d1g, h⟩
    refine a6 (a1t _ _) ?_
    refine r8 (fun c0V => ?_) (fun c0V => ?_)
    ·replace h := h.1 c0V
     exact hR false a0d _ b6c h
    ·replace h := h.2 c0V
     have hj1 : ∀ (H : Hp) (w : World) (_ : Inv w0 ps0 H0 H [] w) (_ : Y4 H K), b0p w R E := by
      intro H w I h
      unfold b0p
      intro _
      unfold Y4 at h
      exact hR true H _ I h
     refine v2 fun j1 hx1 => ?_
     refine b4x Tryd.underlying9 x0 b6c fun b6d J2 b3b d0T => ?_
     obtain ⟨c0W, b3p, d7J, d7K⟩ := h
     refine G2 (J := fun n l w => ∃ (s : Nat) (H : Hp) , n = b3p s ∧ l = [] ∧ Inv w0 ps0 H0 H [itf b6d x0 s] w ∧ c0W s H) ⟨_, 0, a0d, rfl, rfl, b3b, d7J⟩ ?_
     rintro e1s τ_94 w next2 ⟨ir_28l2, H, rfl, d7L, I, d7M⟩ hn2
     clear d7L
     obtain ⟨n2, hm2, h⟩ : ∃ n2 : Nat → Hp → Prop, (∀ s' H', n2 s' H' → c0W s' H' ∧ b3p s' < b3p ir_28l2) ∧ B7 x0 ir_28l2 H n2 K := ⟨_, fun _ _ h => h, d7K ir_28l2 H (fun s' H' => c0W s' H' ∧ b3p s' < b3p ir_28l2) d7M (fun _ _ a b => ⟨a, b⟩)⟩
     unfold b4A
     unfold B7 at h
     refine b7D I (fun a3V d1i d7N e1t => ?_) (fun a3V => ?_)
     ·replace h := h.1 a3V
      refine a6 (p9 _ _ _ rfl) ?_
      refine r8 (fun e => ?_) (fun e => by cases e)
      refine a6 (p9 _ _ _ rfl) ?_
      refine a6 (p9 _ _ _ rfl) ?_
      refine f8 (cap := []) (fun args w => Tryd.call125 args w) ?_
      refine j8 (Fi := []) (Fr := [itf b6d x0 (ir_28l2 + (Utf8.decode x0 ir_28l2).2)]) d7N (h) (fun c0l b3o e1u Z7 b3q e1v d7O d7P => ?_) (fun _ _ _ _ _ q => q.elim)
      obtain ⟨a5T, rfl, rfl, h⟩ := d7P
      refine a6 (D6 _) ?_
      try simp only [Q8]
      refine a6 (Pu.g fun hb => by have a7 := hb; first | exact (f7 _ _ _ _ _ _) | (simp only [b5 a7]; exact (f7 _ _ _ _ _ _)) | (simp only [c7 a7, b5 a7, b5 hb, K8 a7, p1]; exact (f7 _ _ _ _ _ _))) ?_
      try simp only [b1K, b2e]
      try simp only [Q8, b1K, b7w, b7y, b2e, b7B, b7x, b7z, b7A, b7C]
      refine d3Y (a3l _ _ _) ?_
      refine a2C (D := fun b6e b3r => ∃ (a3e : Int) (a0K : Hp) , b6e = (gv (!(!a5T) && (decide (((ir_28l2 : Nat) : Int) = 0))) true (vi a3e)) ∧ (Inv w0 ps0 H0 a0K [itf b6d x0 (ir_28l2 + (Utf8.decode x0 ir_28l2).2)] b3r) ∧ (∀ i, i < Z7.heap.size → ¬ inF [] i → b3r.heap[i]? = Z7.heap[i]?) ∧ Hle b3o a0K ∧ ((((!a5T) || ((decide (((ir_28l2 : Nat) : Int) = 0)) && (!decide (a3e = 3)))) = true →
 K false a0K) ∧
 (((!a5T) || ((decide (((ir_28l2 : Nat) : Int) = 0)) && (!decide (a3e = 3)))) = false →
 n2 (ir_28l2 + (Utf8.decode x0 ir_28l2).2) a0K))) (fun a8R => ?_) (fun a8R => ?_) ?_
      ·replace h := h.1 a8R
       obtain ⟨a7, O3⟩ := a7t a8R
       try simp only [b5 a8R]
       refine f8 (cap := []) (fun args w => Tryd.call126 args w) ?_
       refine j8 (Fi := []) (Fr := [itf b6d x0 (ir_28l2 + (Utf8.decode x0 ir_28l2).2)]) b3q (h) (fun b6e a0K d7Q b3r b0W c0X c0Y c0Z => ?_) (fun _ _ _ _ _ q => q.elim)
       obtain ⟨a3e, rfl, rfl, h⟩ := c0Z
       exact ⟨a3e, a0K, by first | rfl | rw [b5 a8R], b0W, c0Y, c0X, h⟩
      ·exact ⟨0, b3o, by first | rfl | rw [a5g a8R], b3q, fun _ _ _ => rfl, Hle.refl _, h.2 a8R⟩
      ·clear h
       rintro b6e b3r ⟨a3e, a0K, rfl, b0W, c0Y, c0X, h⟩
       refine a6 (Pu.e (a3l _ _ _) (Pu.g fun hb => by obtain ⟨a7, O3⟩ := a7t hb; first | exact (Z0 _ _ _ _ _ _) | (simp only [b5 hb]; exact (Z0 _ _ _ _ _ _)) | (simp only [c7 a7, b5 a7, c7 O3, b5 O3, b5 hb, E3 hb]; exact (Z0 _ _ _ _ _ _)) | (simp only [c7 a7, b5 a7, c7 O3, b5 O3, b5 hb, m8 hb, p1]; exact (Z0 _ _ _ _ _ _)))) ?_
       refine a6 (Pu.g fun hb => by have a7 := hb; first | exact (J0 _ _) | (simp only [b5 a7, a6E a7]; exact (J0 _ _)) | (simp only [c7 a7, b5 a7, b5 hb, K8 a7, p1]; exact (J0 _ _))) ?_
       refine a6 (a1t _ _) ?_
       refine r8 (fun a3W => ?_) (fun a3W => ?_)
       ·replace h := h.1 a3W
        exact hR false a0K _ b0W.drop h
       ·replace h := h.2 a3W
        exact hn2 _ _ _ (hm2 _ _ h).2 ⟨(ir_28l2 + (Utf8.decode x0 ir_28l2).2), a0K, rfl, rfl, b0W, (hm2 _ _ h).1⟩
     ·replace h := h.2 a3V
      refine a6 (p9 _ _ _ rfl) ?_
      refine r8 (fun e => by cases e) (fun e => ?_)
      exact hx1 _ _ (hj1 H _ I.drop h)
theorem a7W (x0 : ByteArray) {H : Hp} {K : Bool → Hp → Prop} (h : V2 x0 H K) : U8 x0 H K := by
 intro w I
 refine c3y ?_
 refine a7d x0 I (fun r0 H' w' I' hk => ⟨H', _, I', r0, rfl, rfl, hk⟩) h
def K2 (a2f : Int) (a2g : Int) (a2h : Int) (a2i : Bool) (a2j : Bool) (a1o : (List ByteArray)) (H : Hp) (K : Bool → b7 → (List ByteArray) → Hp → Prop) : Prop :=
 K true (b7.mk a2f a2g a2h a2i a2j (Sl.mk none 0 0)) a1o H
def K3 (b3s : Int) (O1 : Sl) (i5 : Int) (S9 : Int) (O6 : Int) (O7 : Int) (O8 : Int) (O9 : Bool) (P0 : Bool) (M3 : (List ByteArray)) (H : Hp) (n2 : (Int × Int × Int × Int × Bool × Bool × (List ByteArray)) → Hp → Prop) (K : Bool → b7 → (List ByteArray) → Hp → Prop) : Prop :=
 (S9 < i5 →
 (0 : Int) ≤ S9 ∧ (S9 : Int) < O1.n ∧ ∃ b3t : a8, EltH H O1 S9 1 [(l9 b3t)] ∧
 Q3 (b7.mk O6 O7 O8 O9 P0 (Sl.mk none 0 0)) M3 b3t b3s H (fun (a0T : Bool) (y7 : b7) (a3t : (List ByteArray)) (b3u : Hp) =>
 TG ((!a0T) = false) (W4 b3t b3u) (Sl.mk none 0 0) b3u (fun (a4u : Sl) (a2R : Hp) =>
 TG ((!a0T) = false) (fun k_ => J4 a4u (IntKind.wrap .i64 (b3s + 1)) (b7.mk ((y7).fnodes) ((y7).fdepth) ((y7).fe) ((y7).fform) ((y7).fnamed) (Sl.mk none 0 0)) a3t a2R fun a2y C8 T7 H_ => k_ (a2y, C8, T7) H_) (false, (b7.mk ((y7).fnodes) ((y7).fdepth) ((y7).fe) ((y7).fform) ((y7).fnamed) (Sl.mk none 0 0)), a3t) a2R (fun (M0 : Bool × b7 × (List ByteArray)) (a1h : Hp) =>
 (((!a0T) || (!M0.1)) = true →
 K false (b7.mk ((M0.2.1).fnodes) ((M0.2.1).fdepth) ((M0.2.1).fe) ((M0.2.1).fform) ((M0.2.1).fnamed) (Sl.mk none 0 0)) M0.2.2 a1h) ∧
 (((!a0T) || (!M0.1)) = false →
 n2 ((IntKind.wrap .i64 (S9 + 1)), ((M0.2.1).fnodes), ((M0.2.1).fdepth), ((M0.2.1).fe), ((M0.2.1).fform), ((M0.2.1).fnamed), M0.2.2) a1h))))) ∧
 (¬ (S9 < i5) →
 K2 O6 O7 O8 O9 P0 M3 H K)
def P7 (x0 : Sl) (x1 : Int) (x2 : b7) (a3D : (List ByteArray)) (H : Hp) (K : Bool → b7 → (List ByteArray) → Hp → Prop) : Prop :=
 TL ((0, x2.fnodes, x2.fdepth, x2.fe, x2.fform, x2.fnamed, a3D) : Int × Int × Int × Int × Bool × Bool × (List ByteArray)) H fun (s : Int × Int × Int × Int × Bool × Bool × (List ByteArray)) H n2 => K3 x1 x0 (x0.n : Int) s.1 s.2.1 s.2.2.1 s.2.2.2.1 s.2.2.2.2.1 s.2.2.2.2.2.1 s.2.2.2.2.2.2 H n2 K
theorem a4l (x0 : Sl) (x1 : Int) (x2 : b7) (a3D : (List ByteArray)) (g2 g2b g3 : Nat) (a4r : Sl) (a4s : Frag) (b6f : RowL 9 1 s8 a4r a3D a4s) {w0 w : World} {ps0 : Nat → Prop} {H0 H : Hp} {K : Bool → b7 → (List ByteArray) → Hp → Prop} {R : Value → World → Prop} {E : Pan} (I : Inv w0 ps0 H0 H [bx g2 93 [(Value.pointer (some ⟨g2b, 0, none⟩))], bx g2b 92 [(vi x2.fnodes), (vi x2.fdepth), (vi x2.fe), (Value.bool x2.fform), (Value.bool x2.fnamed), (vs a4r)], a4s, bx g3 139 [(Value.func (.func 89) #[] #[(Value.pointer (some ⟨g2, 0, none⟩)), (Value.pointer (some ⟨g3, 0, none⟩))])]] w) (hR : ∀ (r0 : Bool) (y0 : b7) (a0Y : (List ByteArray)) (X5 : Sl) (X6 : Frag) (H' : Hp) (w' : World) (_ : RowL 9 1 s8 X5 a0Y X6) (_ : Inv w0 ps0 H0 H' [bx g2 93 [(Value.pointer (some ⟨g2b, 0, none⟩))], bx g2b 92 [(vi y0.fnodes), (vi y0.fdepth), (vi y0.fe), (Value.bool y0.fform), (Value.bool y0.fnamed), (vs X5)], X6, bx g3 139 [(Value.func (.func 89) #[] #[(Value.pointer (some ⟨g2, 0, none⟩)), (Value.pointer (some ⟨g3, 0, none⟩))])]] w') (_ : K r0 y0 a0Y H'), R (Value.bool r0) w') (h : P7 x0 x1 x2 a3D H K) : F89 (vs x0) (vi x1) (Value.pointer (some ⟨g2, 0, none⟩)) (Value.pointer (some ⟨g3, 0, none⟩)) w R E := by
 unfold P7 at h
 unfold F89
 have hj1 : ∀ (a2f : Int) (a2g : Int) (a2h : Int) (a2i : Bool) (a2j : Bool) (a1o : (List ByteArray)) (a4v : Sl) (a4w : Frag) (H : Hp) (w : World) (_ : RowL 9 1 s8 a4v a1o a4w) (_ : Inv w0 ps0 H0 H [bx g2 93 [(Value.pointer (some ⟨g2b, 0, none⟩))], bx g2b 92 [(vi a2f), (vi a2g), (vi a2h), (Value.bool a2i), (Value.bool a2j), (vs a4v)], bx g3 139 [(Value.func (.func 89) #[] #[(Value.pointer (some ⟨g2, 0, none⟩)), (Value.pointer (some ⟨g3, 0, none⟩))])], a4w] w) (_ : K2 a2f a2g a2h a2i a2j a1o H K), b2s w R E := by
  intro a2f a2g a2h a2i a2j a1o a4v a4w H w b8B I h
  unfold b2s
  intro _
  unfold K2 at h
  exact hR true (b7.mk a2f a2g a2h a2i a2j (Sl.mk none 0 0)) a1o a4v a4w H _ b8B ((((I.bring 2).bring 3).bring 3).bring 3) h
 refine v2 fun j1 hx1 => ?_
 refine a6 (a4o _ _ _) ?_
 obtain ⟨c1a, b3v, d7R, d7S⟩ := h
 refine G2 (J := fun n l w => ∃ (s : Int × Int × Int × Int × Bool × Bool × (List ByteArray)) (H : Hp) (a1p : Sl) (a1q : Frag) , n = b3v s ∧ l = (match s with | (S9, O6, O7, O8, O9, P0, M3) => [(vi S9)]) ∧ (match s with | (S9, O6, O7, O8, O9, P0, M3) => RowL 9 1 s8 a1p M3 a1q) ∧ (match s with | (S9, O6, O7, O8, O9, P0, M3) => Inv w0 ps0 H0 H [bx g2 93 [(Value.pointer (some ⟨g2b, 0, none⟩))], bx g2b 92 [(vi O6), (vi O7), (vi O8), (Value.bool O9), (Value.bool P0), (vs a1p)], bx g3 139 [(Value.func (.func 89) #[] #[(Value.pointer (some ⟨g2, 0, none⟩)), (Value.pointer (some ⟨g3, 0, none⟩))])], a1q] w) ∧ c1a s H) ⟨_, (0, x2.fnodes, x2.fdepth, x2.fe, x2.fform, x2.fnamed, a3D), H, a4r, a4s, rfl, rfl, b6f, ((((I.bring 2).bring 3).bring 3).bring 3), d7R⟩ ?_
 rintro e1w τ_92 w next2 ⟨⟨S9, O6, O7, O8, O9, P0, M3⟩, H, a1p, a1q, rfl, b2P, a7e, I, d1j⟩ hn2
 dsimp only at b2P I a7e
 simp only [List.map_cons, List.map_nil, List.cons.injEq, and_true] at b2P
 have e11 := b2P
 simp only [e11]
 obtain ⟨n2, hm2, h⟩ : ∃ n2 : (Int × Int × Int × Int × Bool × Bool × (List ByteArray)) → Hp → Prop, (∀ s' H', n2 s' H' → c1a s' H' ∧ b3v s' < b3v (S9, O6, O7, O8, O9, P0, M3)) ∧ K3 x1 x0 (x0.n : Int) S9 O6 O7 O8 O9 P0 M3 H n2 K := ⟨_, fun _ _ h => h, d7S (S9, O6, O7, O8, O9, P0, M3) H (fun s' H' => c1a s' H' ∧ b3v s' < b3v (S9, O6, O7, O8, O9, P0, M3)) d1j (fun _ _ a b => ⟨a, b⟩)⟩
 unfold b7H
 unfold K3 at h
 refine a6 (K7 _ _ _ _ _ _) ?_
 refine d7 (fun a8O => ?_) (fun a8O => ?_)
 ·replace h := h.1 a8O
  obtain ⟨d7T, d7U, b3t, b3w, h⟩ := h
  obtain ⟨e1x, e1y, d7V, b3w⟩ := b3w
  refine a6 (b9H d7V _ _ _ _ d7T d7U) ?_
  refine c5 (ld1 (v := (l9 b3t)) Tryd.isAgg141 (I.atH b3w)) ?_
  refine a1u I fun d7t d1k => ?_
  refine E8 (ld1 Tryd.isAgg93 (d1k.at1 (o := 0) (vs := [(Value.pointer (some ⟨g2b, 0, none⟩))]) (nb rfl) rfl)) ?_
  refine f8 (cap := []) (fun args w => Tryd.call90 args w) ?_
  refine j8 (Fi := [bx g2b 92 [(vi O6), (vi O7), (vi O8), (Value.bool O9), (Value.bool P0), (vs a1p)], a1q]) (Fr := [bx g2 93 [(Value.pointer (some ⟨g2b, 0, none⟩))], bx g3 139 [(Value.func (.func 89) #[] #[(Value.pointer (some ⟨g2, 0, none⟩)), (Value.pointer (some ⟨g3, 0, none⟩))])]]) ((d1k.bring 3).bring 2) (h g2b a1p a1q a7e) (fun e1z b3u e1A W3 a5U e1B e1C d7W => ?_) (fun _ _ _ _ _ q => q.elim)
  obtain ⟨a0T, y7, a3t, a3X, a3Y, rfl, rfl, b3x, h⟩ := d7W
  refine i8 (D6 _) ?_
  try simp only [Q8]
  try simp only [Q8, b1K, b7w, b7y, b2e, b7B, b7x, b7z, b7A, b7C]
  refine i8 (Pu.g fun hb => by have a7 := hb; first | exact (F8 _ _ _ _ _ _) | (simp only [b5 a7]; exact (F8 _ _ _ _ _ _)) | (simp only [c7 a7, b5 a7, b5 hb, K8 a7, p1]; exact (F8 _ _ _ _ _ _))) ?_
  refine E8 (Ld.g fun hb => by have a7 := hb; first | exact (ld1 Tryd.isAgg139 ((a5U.bring 3).at1 (o := 0) (vs := [(Value.func (.func 89) #[] #[(Value.pointer (some ⟨g2, 0, none⟩)), (Value.pointer (some ⟨g3, 0, none⟩))])]) (nb rfl) rfl)) | (simp only [c7 a7, b5 a7, b5 hb, a6E a7]; exact (ld1 Tryd.isAgg139 ((a5U.bring 3).at1 (o := 0) (vs := [(Value.func (.func 89) #[] #[(Value.pointer (some ⟨g2, 0, none⟩)), (Value.pointer (some ⟨g3, 0, none⟩))])]) (nb rfl) rfl))) | (simp only [c7 a7, b5 a7, b5 hb, K8 a7, p1]; exact (ld1 Tryd.isAgg139 ((a5U.bring 3).at1 (o := 0) (vs := [(Value.func (.func 89) #[] #[(Value.pointer (some ⟨g2, 0, none⟩)), (Value.pointer (some ⟨g3, 0, none⟩))])]) (nb rfl) rfl)))) ?_
  refine a2C (D := fun d1l a2k => ∃ (a4u : Sl) (a2R : Hp), d1l = (gv (!a0T) false (vs a4u)) ∧ (Inv w0 ps0 H0 a2R [bx g2b 92 [(vi ((y7).fnodes)), (vi ((y7).fdepth)), (vi ((y7).fe)), (Value.bool ((y7).fform)), (Value.bool ((y7).fnamed)), (vs a3X)], a3Y, bx g2 93 [(Value.pointer (some ⟨g2b, 0, none⟩))], bx g3 139 [(Value.func (.func 89) #[] #[(Value.pointer (some ⟨g2, 0, none⟩)), (Value.pointer (some ⟨g3, 0, none⟩))])]] a2k) ∧ (∀ i, i < W3.heap.size → ¬ inF [] i → a2k.heap[i]? = W3.heap[i]?) ∧ Hle b3u a2R ∧ (TG ((!a0T) = false) (fun k_ => J4 a4u (IntKind.wrap .i64 (x1 + 1)) (b7.mk ((y7).fnodes) ((y7).fdepth) ((y7).fe) ((y7).fform) ((y7).fnamed) (Sl.mk none 0 0)) a3t a2R fun a2y C8 T7 H_ => k_ (a2y, C8, T7) H_) (false, (b7.mk ((y7).fnodes) ((y7).fdepth) ((y7).fe) ((y7).fform) ((y7).fnamed) (Sl.mk none 0 0)), a3t) a2R (fun (M0 : Bool × b7 × (List ByteArray)) (a1h : Hp) =>
 (((!a0T) || (!M0.1)) = true →
 K false (b7.mk ((M0.2.1).fnodes) ((M0.2.1).fdepth) ((M0.2.1).fe) ((M0.2.1).fform) ((M0.2.1).fnamed) (Sl.mk none 0 0)) M0.2.2 a1h) ∧
 (((!a0T) || (!M0.1)) = false →
 n2 ((IntKind.wrap .i64 (S9 + 1)), ((M0.2.1).fnodes), ((M0.2.1).fdepth), ((M0.2.1).fe), ((M0.2.1).fform), ((M0.2.1).fnamed), M0.2.2) a1h)))) (fun b0X => ?_) (fun b0X => ?_) ?_
  ·replace h := h.1 b0X
   have a7 := b0X
   try simp only [b5 a7]
   refine a4G a5U h (fun a4u a2R a2k b0Y c1b b6g h => ?_)
   exact ⟨a4u, a2R, by first | rfl | rw [b5 b0X], b0Y, b6g, c1b, h⟩
  ·exact ⟨(Sl.mk none 0 0), b3u, by first | rfl | rw [a5g b0X], a5U, fun _ _ _ => rfl, Hle.refl _, h.2 b0X⟩
  ·clear h
   rintro d1l a2k ⟨a4u, a2R, rfl, b0Y, b6g, c1b, h⟩
   refine ⟨(b6g _ (a5U.bring 3).lt1 (Inv.a1v (Fi := []) (a5U.bring 3))), ?_⟩
   refine a2C (D := fun c1c b6h => ∃ (a2y : Bool) (C8 : b7) (T7 : (List ByteArray)) (a1h : Hp) (a1i : Sl) (a1j : Frag) , c1c = (gv (!a0T) false (Value.bool a2y)) ∧ (RowL 9 1 s8 a1i T7 a1j) ∧ (Inv w0 ps0 H0 a1h [bx g2 93 [(Value.pointer (some ⟨g2b, 0, none⟩))], bx g2b 92 [(vi ((C8).fnodes)), (vi ((C8).fdepth)), (vi ((C8).fe)), (Value.bool ((C8).fform)), (Value.bool ((C8).fnamed)), (vs a1i)], a1j, bx g3 139 [(Value.func (.func 89) #[] #[(Value.pointer (some ⟨g2, 0, none⟩)), (Value.pointer (some ⟨g3, 0, none⟩))])]] b6h) ∧ (∀ i, i < a2k.heap.size → ¬ inF [bx g2 93 [(Value.pointer (some ⟨g2b, 0, none⟩))], bx g2b 92 [(vi ((y7).fnodes)), (vi ((y7).fdepth)), (vi ((y7).fe)), (Value.bool ((y7).fform)), (Value.bool ((y7).fnamed)), (vs a3X)], a3Y, bx g3 139 [(Value.func (.func 89) #[] #[(Value.pointer (some ⟨g2, 0, none⟩)), (Value.pointer (some ⟨g3, 0, none⟩))])]] i → b6h.heap[i]? = a2k.heap[i]?) ∧ Hle a2R a1h ∧ ((((!a0T) || (!a2y)) = true →
 K false (b7.mk ((C8).fnodes) ((C8).fdepth) ((C8).fe) ((C8).fform) ((C8).fnamed) (Sl.mk none 0 0)) T7 a1h) ∧
 (((!a0T) || (!a2y)) = false →
 n2 ((IntKind.wrap .i64 (S9 + 1)), ((C8).fnodes), ((C8).fdepth), ((C8).fe), ((C8).fform), ((C8).fnamed), T7) a1h))) (fun b0Z => ?_) (fun b0Z => ?_) ?_
   ·replace h := h.1 b0Z
    have a7 := b0Z
    try simp only [b5 a7]
    refine f8 (cap := [(Value.pointer (some ⟨g2, 0, none⟩)), (Value.pointer (some ⟨g3, 0, none⟩))]) (fun args w => Tryd.call89 args w) ?_
    refine j8 (Fi := [bx g2 93 [(Value.pointer (some ⟨g2b, 0, none⟩))], bx g2b 92 [(vi ((y7).fnodes)), (vi ((y7).fdepth)), (vi ((y7).fe)), (Value.bool ((y7).fform)), (Value.bool ((y7).fnamed)), (vs a3X)], a3Y, bx g3 139 [(Value.func (.func 89) #[] #[(Value.pointer (some ⟨g2, 0, none⟩)), (Value.pointer (some ⟨g3, 0, none⟩))])]]) (Fr := []) ((((b0Y.bring 3).bring 2).bring 2).bring 3) (h g2 g2b g3 a3X a3Y b3x) (fun c1c a1h e1D b6h b6i b5v d1m d7X => ?_) (fun _ _ _ _ _ q => q.elim)
    obtain ⟨a2y, C8, T7, a1i, a1j, rfl, rfl, a5V, h⟩ := d7X
    exact ⟨a2y, C8, T7, a1h, a1i, a1j, by first | rfl | rw [b5 b0Z], a5V, b6i, d1m, b5v, h⟩
   ·exact ⟨false, (b7.mk ((y7).fnodes) ((y7).fdepth) ((y7).fe) ((y7).fform) ((y7).fnamed) (Sl.mk none 0 0)), a3t, a2R, a3X, a3Y, by first | rfl | rw [a5g b0Z], b3x, ((((b0Y.bring 3).bring 2).bring 2).bring 3), fun _ _ _ => rfl, Hle.refl _, h.2 b0Z⟩
   ·clear h
    rintro c1c b6h ⟨a2y, C8, T7, a1h, a1i, a1j, rfl, a5V, b6i, d1m, b5v, h⟩
    refine i8 (Pu.g fun hb => by have a7 := hb; first | exact (D6 _) | (simp only [b5 a7]; exact (D6 _)) | (simp only [c7 a7, b5 a7, b5 hb, K8 a7, p1]; exact (D6 _))) ?_
    refine i8 (a1t _ _) ?_
    refine r8 (fun a8Q => ?_) (fun a8Q => ?_)
    ·replace h := h.1 a8Q
     exact hR false (b7.mk ((C8).fnodes) ((C8).fdepth) ((C8).fe) ((C8).fform) ((C8).fnamed) (Sl.mk none 0 0)) T7 a1i a1j a1h _ a5V ((((b6i.bring 3).bring 3).bring 3).bring 3) h
    ·replace h := h.2 a8Q
     refine a6 (F8 _ _ _ _ _ _) ?_
     exact hn2 _ _ _ (hm2 _ _ h).2 ⟨((IntKind.wrap .i64 (S9 + 1)), ((C8).fnodes), ((C8).fdepth), ((C8).fe), ((C8).fform), ((C8).fnamed), T7), a1h, a1i, a1j, rfl, rfl, a5V, ((((b6i.bring 2).bring 3).bring 3).bring 3), (hm2 _ _ h).1⟩
 ·replace h := h.2 a8O
  exact hx1 _ _ (hj1 O6 O7 O8 O9 P0 M3 a1p a1q H _ a7e ((((I.bring 3).bring 3).bring 3).bring 3) h)
theorem a4K (x0 : Sl) (x1 : Int) (x2 : b7) (a3D : (List ByteArray)) {H : Hp} {K : Bool → b7 → (List ByteArray) → Hp → Prop} (h : P7 x0 x1 x2 a3D H K) : J4 x0 x1 x2 a3D H K := by
 intro g2 g2b g3 a4r a4s b6f w I
 refine c6p ?_
 refine a4l x0 x1 x2 a3D g2 g2b g3 a4r a4s b6f I (fun r0 y0 a0Y X5 X6 H' w' b3i I' hk => ⟨H', _, I', r0, y0, a0Y, X5, X6, rfl, rfl, b3i, hk⟩) h
def z6 (cr_1j1_0 : Int) (cr_1j1_1 : Int) (cr_1j1_2 : Int) (cr_1j1_3 : Bool) (cr_1j1_4 : Bool) (ccr_1j1_5 : (List ByteArray)) (H : Hp) (K : b7 → Hp → Prop) : Prop :=
 ∀ (scr_1j1_5 : Sl) (b1a : Hp), Hle H b1a → SlH b1a 1 s8 scr_1j1_5 ccr_1j1_5 → scr_1j1_5.n ≤ scr_1j1_5.c →
 K (b7.mk cr_1j1_0 cr_1j1_1 cr_1j1_2 cr_1j1_3 cr_1j1_4 scr_1j1_5) b1a
def R5 (x0 : Sl) (H : Hp) (K : b7 → Hp → Prop) : Prop :=
 J4 x0 1 (b7.mk 0 0 0 false false (Sl.mk none 0 0)) [] H (fun (b6j : Bool) (r7 : b7) (a0C : (List ByteArray)) (a5W : Hp) =>
 ((!b6j) = true →
 z6 ((r7).fnodes) ((r7).fdepth) ((r7).fe) ((r7).fform) ((r7).fnamed) a0C a5W K) ∧
 ((!b6j) = false →
 (((r7).fform) = true →
 z6 ((r7).fnodes) ((r7).fdepth) 30 ((r7).fform) ((r7).fnamed) a0C a5W K) ∧
 (((r7).fform) = false →
 (((r7).fnamed) = true →
 z6 ((r7).fnodes) ((r7).fdepth) 31 ((r7).fform) ((r7).fnamed) a0C a5W K) ∧
 (((r7).fnamed) = false →
 z6 ((r7).fnodes) ((r7).fdepth) ((r7).fe) ((r7).fform) ((r7).fnamed) a0C a5W K))))
theorem a4X (x0 : Sl) {w0 w : World} {ps0 : Nat → Prop} {H0 H : Hp} {K : b7 → Hp → Prop} {R : Value → World → Prop} {E : Pan} (I : Inv w0 ps0 H0 H [] w) (hR : ∀ (r0 : b7) (gr0 : Nat) (H' : Hp) (w' : World) (_ : Inv w0 ps0 H0 H' [bx gr0 92 (a0y r0)] w') (_ : K r0 H'), R (Value.pointer (some ⟨gr0, 0, none⟩)) w') (h : R5 x0 H K) : F57 (vs x0) w R E := by
 unfold R5 at h
 unfold F57
 refine a6 (b7F ) ?_
 refine M6 I (cs := [(vi 0), (vi 0), (vi 0), (Value.bool false), (Value.bool false), (Value.slice none 0 0)]) rfl fun g_2 w_3 I_4 k_5 => ?_
 refine E7 I_4 Tryd.zeroValue93 (cs := [(Value.pointer none)]) rfl fun g_7 w_8 I_9 d0K => ?_
 refine s6 I_9 Tryd.sizeOf93 (vs := [(Value.pointer (some ⟨g_2, 0, none⟩))]) (cs' := [(Value.pointer (some ⟨g_2, 0, none⟩))]) rfl rfl (nb rfl) rfl rfl fun S3 A0 b0K => ?_
 refine E7 A0 Tryd.zeroValue139 (cs := [Value.nilFunc]) rfl fun a5X v6 a5Y d1n => ?_
 refine a6 (a8a _ _ _) ?_
 refine s6 a5Y Tryd.sizeOf139 (vs := [(Value.func (.func 89) #[] #[(Value.pointer (some ⟨g_7, 0, none⟩)), (Value.pointer (some ⟨a5X, 0, none⟩))])]) (cs' := [(Value.func (.func 89) #[] #[(Value.pointer (some ⟨g_7, 0, none⟩)), (Value.pointer (some ⟨a5X, 0, none⟩))])]) rfl rfl (nb rfl) rfl rfl fun a5z b5V d7l => ?_
 have hj1 : ∀ (cr_1j1_0 : Int) (cr_1j1_1 : Int) (cr_1j1_2 : Int) (cr_1j1_3 : Bool) (cr_1j1_4 : Bool) (ccr_1j1_5 : (List ByteArray)) (scr_1j1_5 : Sl) (Fcr_1j1_5 : Frag) (H : Hp) (w : World) (_ : RowL 9 1 s8 scr_1j1_5 ccr_1j1_5 Fcr_1j1_5) (_ : Inv w0 ps0 H0 H [bx g_7 93 [(Value.pointer (some ⟨g_2, 0, none⟩))], bx g_2 92 [(vi cr_1j1_0), (vi cr_1j1_1), (vi cr_1j1_2), (Value.bool cr_1j1_3), (Value.bool cr_1j1_4), (vs scr_1j1_5)], bx a5X 139 [(Value.func (.func 89) #[] #[(Value.pointer (some ⟨g_7, 0, none⟩)), (Value.pointer (some ⟨a5X, 0, none⟩))])], Fcr_1j1_5] w) (_ : z6 cr_1j1_0 cr_1j1_1 cr_1j1_2 cr_1j1_3 cr_1j1_4 ccr_1j1_5 H K), b2r (Value.pointer (some ⟨g_7, 0, none⟩)) w R E := by
  intro cr_1j1_0 cr_1j1_1 cr_1j1_2 cr_1j1_3 cr_1j1_4 ccr_1j1_5 scr_1j1_5 Fcr_1j1_5 H w hcr_1j1_5 I h
  unfold b2r
  intro _
  unfold z6 at h
  refine c5 (ld1 Tryd.isAgg93 (I.at1 (o := 0) (vs := [(Value.pointer (some ⟨g_2, 0, none⟩))]) (nb rfl) rfl)) ?_
  obtain ⟨b1a, b3g, d7Y, a5J, b3c⟩ := Inv.freezeC (I.bring 3) hcr_1j1_5 (by decide)
  replace h := h scr_1j1_5 b1a d7Y a5J b3c
  exact hR (b7.mk cr_1j1_0 cr_1j1_1 cr_1j1_2 cr_1j1_3 cr_1j1_4 scr_1j1_5) g_2 b1a _ (b3g.drop.bring 1).drop h
 refine v2 fun j1 hx1 => ?_
 refine c5 (ld1 Tryd.isAgg139 (b5V.at1 (o := 0) (vs := [(Value.func (.func 89) #[] #[(Value.pointer (some ⟨g_7, 0, none⟩)), (Value.pointer (some ⟨a5X, 0, none⟩))])]) (nb rfl) rfl)) ?_
 refine f8 (cap := [(Value.pointer (some ⟨g_7, 0, none⟩)), (Value.pointer (some ⟨a5X, 0, none⟩))]) (fun args w => Tryd.call89 args w) ?_
 refine j8 (Fi := [bx g_7 93 [(Value.pointer (some ⟨g_2, 0, none⟩))], bx g_2 92 [(vi 0), (vi 0), (vi 0), (Value.bool false), (Value.bool false), (Value.slice (Sl.mk none 0 0).a (Sl.mk none 0 0).n (Sl.mk none 0 0).c)], [], bx a5X 139 [(Value.func (.func 89) #[] #[(Value.pointer (some ⟨g_7, 0, none⟩)), (Value.pointer (some ⟨a5X, 0, none⟩))])]]) (Fr := []) ((((b5V.nil.bring 1).bring 1).bring 3).bring 3) (h g_7 g_2 a5X (Sl.mk none 0 0) ([]) (RowL.nil (e := 9) a8c a8d)) (fun e1E a5W d0R A6 a2S e1F d7Z d8a => ?_) (fun _ _ _ _ _ q => q.elim)
 obtain ⟨b6j, r7, a0C, a2l, a5Z, rfl, rfl, a6a, h⟩ := d8a
 refine a6 (D6 _) ?_
 refine r8 (fun c1d => ?_) (fun c1d => ?_)
 ·replace h := h.1 c1d
  exact hx1 _ _ (hj1 ((r7).fnodes) ((r7).fdepth) ((r7).fe) ((r7).fform) ((r7).fnamed) a0C a2l a5Z a5W _ a6a ((((a2S.bring 2).bring 3).bring 3).bring 3) h)
 ·replace h := h.2 c1d
  refine c5 (ld1 Tryd.isAgg93 (a2S.at1 (o := 0) (vs := [(Value.pointer (some ⟨g_2, 0, none⟩))]) (nb rfl) rfl)) ?_
  refine a6 (z8 _) ?_
  refine a6 a5v ?_
  refine c5 (ld1 Tryd.isAgg4 ((a2S.bring 1).at1 (o := 3) (vs := [(Value.bool ((r7).fform))]) (nb rfl) rfl)) ?_
  refine r8 (fun Y0 => ?_) (fun Y0 => ?_)
  ·replace h := h.1 Y0
   refine c5 (ld1 Tryd.isAgg93 (a2S.at1 (o := 0) (vs := [(Value.pointer (some ⟨g_2, 0, none⟩))]) (nb rfl) rfl)) ?_
   refine a6 (z8 _) ?_
   refine a6 a1x ?_
   refine s6 (a2S.bring 1) Tryd.sizeOf34 (vs := [(vi 30)]) (cs' := [(vi ((r7).fnodes)), (vi ((r7).fdepth)), (vi 30), (Value.bool ((r7).fform)), (Value.bool ((r7).fnamed)), (vs a2l)]) rfl rfl (nb rfl) rfl rfl fun e1G d8b e1H => ?_
   exact hx1 _ _ (hj1 ((r7).fnodes) ((r7).fdepth) 30 ((r7).fform) ((r7).fnamed) a0C a2l a5Z a5W _ a6a ((((d8b.bring 2).bring 3).bring 2).bring 3) h)
  ·replace h := h.2 Y0
   refine c5 (ld1 Tryd.isAgg93 (a2S.at1 (o := 0) (vs := [(Value.pointer (some ⟨g_2, 0, none⟩))]) (nb rfl) rfl)) ?_
   refine a6 (z8 _) ?_
   refine a6 a5w ?_
   refine c5 (ld1 Tryd.isAgg4 ((a2S.bring 1).at1 (o := 4) (vs := [(Value.bool ((r7).fnamed))]) (nb rfl) rfl)) ?_
   refine r8 (fun c1e => ?_) (fun c1e => ?_)
   ·replace h := h.1 c1e
    refine c5 (ld1 Tryd.isAgg93 (a2S.at1 (o := 0) (vs := [(Value.pointer (some ⟨g_2, 0, none⟩))]) (nb rfl) rfl)) ?_
    refine a6 (z8 _) ?_
    refine a6 a1x ?_
    refine s6 (a2S.bring 1) Tryd.sizeOf34 (vs := [(vi 31)]) (cs' := [(vi ((r7).fnodes)), (vi ((r7).fdepth)), (vi 31), (Value.bool ((r7).fform)), (Value.bool ((r7).fnamed)), (vs a2l)]) rfl rfl (nb rfl) rfl rfl fun L0 b5X d7o => ?_
    exact hx1 _ _ (hj1 ((r7).fnodes) ((r7).fdepth) 31 ((r7).fform) ((r7).fnamed) a0C a2l a5Z a5W _ a6a ((((b5X.bring 2).bring 3).bring 2).bring 3) h)
   ·replace h := h.2 c1e
    exact hx1 _ _ (hj1 ((r7).fnodes) ((r7).fdepth) ((r7).fe) ((r7).fform) ((r7).fnamed) a0C a2l a5Z a5W _ a6a ((((a2S.bring 2).bring 3).bring 3).bring 3) h)
theorem a6b (x0 : Sl) {H : Hp} {K : b7 → Hp → Prop} (h : R5 x0 H K) : X7 x0 H K := by
 intro w I
 refine c6c ?_
 refine a4X x0 I (fun r0 gr0 H' w' I' hk => ⟨H', _, I', r0, gr0, rfl, rfl, hk⟩) h
def V3 (x0 : o8) (H : Hp) (K : b7 → Hp → Prop) : Prop :=
 u2 x0.K9 H (fun (a1O : Sl) (H_8 : Hp) =>
 j6 x0.W9 H_8 (fun (a1P : Sl) (a7c : Hp) =>
 ∀ (a2d : Sl) (a3N : Hp), Hle a7c a3N → SlH a3N 1 csl a2d [a1O, a1P] → a2d.n ≤ a2d.c →
 o0 a2d a3N (fun (a7F : Sl) (b0M : Hp) =>
 X7 a7F b0M (fun (b6k : b7) (c1f : Hp) =>
 K b6k c1f))))
theorem a7f (x0 : o8) {w0 w : World} {ps0 : Nat → Prop} {H0 H : Hp} {K : b7 → Hp → Prop} {R : Value → World → Prop} {E : Pan} (I : Inv w0 ps0 H0 H [] w) (hR : ∀ (r0 : b7) (gr0 : Nat) (H' : Hp) (w' : World) (_ : Inv w0 ps0 H0 H' [bx gr0 92 (a0y r0)] w') (_ : K r0 H'), R (Value.pointer (some ⟨gr0, 0, none⟩)) w') (h : V3 x0 H K) : F66 (Value.agg (i6 x0).toArray) w R E := by
 unfold V3 at h
 unfold F66
 refine M6 I (cs := (i6 x0)) rfl fun g_2 w_3 I_4 k_5 => ?_
 refine a1u I_4 fun w_6 I_7 => ?_
 refine i8 X0 ?_
 refine i8 a5k ?_
 refine E8 (ld1 Tryd.isAgg22 (I_7.at1 (o := 0) (vs := [(vs x0.K9)]) (nb rfl) rfl)) ?_
 refine E8 (ld1 Tryd.isAgg23 (I_7.at1 (o := 1) (vs := [(vs x0.W9)]) (nb rfl) rfl)) ?_
 refine f8 (cap := []) (fun args w => Tryd.call95 args w) ?_
 refine j8 (Fi := []) (Fr := [bx g_2 25 (i6 x0)]) I_7 (h) (fun d0L H_8 d0M w_9 a5K d0N a8E b2Z => ?_) (fun _ _ _ _ _ q => q.elim)
 obtain ⟨a1O, rfl, rfl, h⟩ := b2Z
 refine ⟨(a8E _ I_7.lt1 (Inv.a1v (Fi := []) I_7)), ?_⟩
 refine f8 (cap := []) (fun args w => Tryd.call97 args w) ?_
 refine j8 (Fi := []) (Fr := [bx g_2 25 (i6 x0)]) a5K (h) (fun d0O a7c d0P y9 a3O d0Q b0N b3a => ?_) (fun _ _ _ _ _ q => q.elim)
 obtain ⟨a1P, rfl, rfl, h⟩ := b3a
 refine a1w (e := 97) (c := csl) (xs := [a1O, a1P]) a3O (b2n _ _ _ _ _ _) rfl rfl b1M b1N (nb rfl) fun a2d d0R d0S b9Y b3b d0T => ?_
 obtain ⟨a3N, b9Z, b2M, b3c, c0a⟩ := Inv.freezeC b3b b9Y (by decide)
 replace h := h a2d a3N b2M b3c c0a
 refine f8 (cap := []) (fun args w => Tryd.call94 args w) ?_
 refine j8 (Fi := []) (Fr := [bx g_2 25 (i6 x0)]) b9Z (h) (fun d6T b0M d6U d6V a3K d6W d6X c0b => ?_) (fun _ _ _ _ _ q => q.elim)
 obtain ⟨a7F, rfl, rfl, h⟩ := c0b
 refine f8 (cap := []) (fun args w => Tryd.call57 args w) ?_
 refine j8 (Fi := []) (Fr := [bx g_2 25 (i6 x0)]) a3K (h) (fun e1I c1f e1J S2 b3y e1K d1o d8c => ?_) (fun _ _ _ _ _ q => q.elim)
 obtain ⟨b6k, d1p, rfl, rfl, h⟩ := d8c
 exact hR b6k d1p c1f _ (b3y.bring 1).drop h
theorem a7X (x0 : o8) {H : Hp} {K : b7 → Hp → Prop} (h : V3 x0 H K) : a0H x0 H K := by
 intro w I
 refine c6g ?_
 refine a7f x0 I (fun r0 gr0 H' w' I' hk => ⟨H', _, I', r0, gr0, rfl, rfl, hk⟩) h
def R6 (x0 : o9) (H : Hp) (K : a8 → Hp → Prop) : Prop :=
 K (a8.s9 (u6.mk x0)) H
theorem a4Y (x0 : o9) {w0 w : World} {ps0 : Nat → Prop} {H0 H : Hp} {K : a8 → Hp → Prop} {R : Value → World → Prop} {E : Pan} (I : Inv w0 ps0 H0 H [] w) (hR : ∀ (r0 : a8) (H' : Hp) (w' : World) (_ : Inv w0 ps0 H0 H' [] w') (_ : K r0 H'), R (l9 r0) w') (h : R6 x0 H K) : b5z (Value.agg (c8 x0).toArray) w R E := by
 unfold R6 at h
 unfold b5z
 refine M6 I (cs := (c8 x0)) rfl fun g_2 w_3 I_4 k_5 => ?_
 refine c5 (ldA Tryd.isAgg30 Tryd.sizeOf30 rfl (I_4.at1 (o := 0) (vs := (c8 x0)) (nb rfl) rfl)) ?_
 refine a6 (b4j _ _ _ _ _ _) ?_
 refine a6 (a6s (u6.mk x0)) ?_
 exact hR (a8.s9 (u6.mk x0)) H _ I_4.drop h
theorem a6c (x0 : o9) {H : Hp} {K : a8 → Hp → Prop} (h : R6 x0 H K) : a1M x0 H K := by
 intro w I
 refine c3Z ?_
 refine a4Y x0 I (fun r0 H' w' I' hk => ⟨H', _, I', r0, rfl, rfl, hk⟩) h
def M1 (x0 : u6) (H : Hp) (K : Sl → Hp → Prop) : Prop :=
 j7 x0.d8.u5 H (fun (L8 : Sl) (H_6 : Hp) =>
 K L8 H_6)
theorem a3f (x0 : u6) {w0 w : World} {ps0 : Nat → Prop} {H0 H : Hp} {K : Sl → Hp → Prop} {R : Value → World → Prop} {E : Pan} (I : Inv w0 ps0 H0 H [] w) (hR : ∀ (r0 : Sl) (H' : Hp) (w' : World) (_ : Inv w0 ps0 H0 H' [] w') (_ : K r0 H'), R (vs r0) w') (h : M1 x0 H K) : b5x (Value.agg (c8 x0.d8).toArray) w R E := by
 unfold M1 at h
 unfold b5x
 refine M6 I (cs := (c8 x0.d8)) rfl fun g_2 w_3 I_4 k_5 => ?_
 refine a6 B6 ?_
 refine a6 a5l ?_
 refine c5 (ld1 Tryd.isAgg28 (I_4.at1 (o := 3) (vs := [(vs x0.d8.u5)]) (nb rfl) rfl)) ?_
 refine f8 (cap := []) (fun args w => Tryd.call150 args w) ?_
 refine j8 (Fi := []) (Fr := [bx g_2 96 (c8 x0.d8)]) I_4 (h) (fun b3j H_6 b3k w_7 I_8 b3l k_9 a3S => ?_) (fun _ _ _ _ _ q => q.elim)
 obtain ⟨L8, rfl, rfl, h⟩ := a3S
 exact hR L8 H_6 _ I_8.drop h
theorem a3Z (x0 : u6) {H : Hp} {K : Sl → Hp → Prop} (h : M1 x0 H K) : a0j x0 H K := by
 intro w I
 refine c3V ?_
 refine a3f x0 I (fun r0 H' w' I' hk => ⟨H', _, I', r0, rfl, rfl, hk⟩) h
end Go.Proofs.YthldnpmfelniiaaDoor
