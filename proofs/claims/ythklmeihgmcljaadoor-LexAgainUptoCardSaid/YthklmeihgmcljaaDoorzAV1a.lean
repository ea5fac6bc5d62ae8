/- Typed formulas of the program's functions, and the theorems that the contracts follow from them; printed by lift.py off the code. -/
import Derived.Test.YthklmeihgmcljaaDoorzAV1
namespace Go.Proofs.YthklmeihgmcljaaDoor
open Go.RowKit
set_option maxRecDepth 100000
set_option maxHeartbeats 2000000
def o5 (a7P : Bool) (a7Q : Sl) (a0q : ByteArray) (a7i : Int) (a : b7) (H : Hp) (n4 : (ByteArray × Int) → Hp → Prop) (K : Bool → Hp → Prop) : Prop :=
 n4 (a0q, (IntKind.wrap .i64 (a7i + 1))) H
def y1 (a : b7) (b : b7) (H : Hp) (K : Bool → Hp → Prop) : Prop :=
 K true H
def s8 (a2A : Sl) (a4C : Sl) (c : b7) (d : b7) (C3 : Int) (H : Hp) (n3 : Int → Hp → Prop) (K : Bool → Hp → Prop) : Prop :=
 (C3 < (a2A.n : Int) →
 (0 : Int) ≤ C3 ∧ (C3 : Int) < a4C.n ∧ ∃ a : a6, EltH H a4C C3 5 (b9 a) ∧
 (0 : Int) ≤ C3 ∧ (C3 : Int) < a2A.n ∧ ∃ b : a6, EltH H a2A C3 5 (b9 b) ∧
 ((((!decide (a.L0 = b.L0)) || (!decide (a.t7 = b.t7))) || (!decide (a.K2 = b.K2))) = true →
 K false H) ∧
 ((((!decide (a.L0 = b.L0)) || (!decide (a.t7 = b.t7))) || (!decide (a.K2 = b.K2))) = false →
 n3 (IntKind.wrap .i64 (C3 + 1)) H)) ∧
 (¬ (C3 < (a2A.n : Int)) →
 y1 c d H K)
def s9 (B4 : Sl) (Y3 : ByteArray) (d : b7) (H : Hp) (K : Bool → Hp → Prop) : Prop :=
 (65536 < (Y3.size : Int) →
 K true H) ∧
 (¬ (65536 < (Y3.size : Int)) →
 y5 Y3 H (fun a e b c =>
 (((!decide (b = 0)) || (!decide ((a.n : Int) = (B4.n : Int)))) = true →
 K false c) ∧
 (((!decide (b = 0)) || (!decide ((a.n : Int) = (B4.n : Int)))) = false →
 TL (0 : Int) c fun (s : Int) H n3 => s8 B4 a e d s H n3 K)))
def t1 (a2B : Bool) (Y4 : Sl) (b : b7) (F6 : ByteArray) (H7 : Int) (H : Hp) (n4 : (ByteArray × Int) → Hp → Prop) (K : Bool → Hp → Prop) : Prop :=
 (H7 < (Y4.n : Int) →
 (0 : Int) ≤ H7 ∧ (H7 : Int) < Y4.n ∧ ∃ a : a6, EltH H Y4 H7 5 (b9 a) ∧
 F6.size + a.t7.size ≤ 9223372036854775807 ∧
 (F6 ++ a.t7).size + (⟨#[32]⟩ : ByteArray).size ≤ 9223372036854775807 ∧
 (a2B = true →
 ((F6 ++ a.t7) ++ (⟨#[32]⟩ : ByteArray)).size + (⟨#[35, 32, 61, 32, 10, 9]⟩ : ByteArray).size ≤ 9223372036854775807 ∧
 o5 a2B Y4 (((F6 ++ a.t7) ++ (⟨#[32]⟩ : ByteArray)) ++ (⟨#[35, 32, 61, 32, 10, 9]⟩ : ByteArray)) H7 b H n4 K) ∧
 (a2B = false →
 o5 a2B Y4 ((F6 ++ a.t7) ++ (⟨#[32]⟩ : ByteArray)) H7 b H n4 K)) ∧
 (¬ (H7 < (Y4.n : Int)) →
 s9 Y4 F6 b H K)
def z7 (x0 : ByteArray) (x1 : Bool) (H : Hp) (K : Bool → Hp → Prop) : Prop :=
 C2 H (fun a b =>
 ((!a) = true →
 K false b) ∧
 ((!a) = false →
 y5 x0 b (fun e f c d =>
 (((!decide (c = 0)) || (decide (8000 < (x0.size : Int)))) = true →
 K true d) ∧
 (((!decide (c = 0)) || (decide (8000 < (x0.size : Int)))) = false →
 TL ((⟨#[]⟩, 0) : ByteArray × Int) d fun (s : ByteArray × Int) H n4 => t1 x1 e f s.1 s.2 H n4 K))))
theorem N0 (x0 : ByteArray) (x1 : Bool) {H : Hp} {K : Bool → Hp → Prop} (h : z7 x0 x1 H K) : y8 x0 x1 H K := by
 refine Ct.of fun w0 w ps0 H0 R E I hR => a6U ?_
 unfold z7 at h
 unfold F4
 refine i7 Tryd.call8 h I ?_
 rintro _ aw _ bq aj _ _ ⟨br, rfl, rfl, h⟩
 refine a7 (a5i _) ?_
 refine o7 h (fun _ h => ?_) (fun _ h => ?_)
 ·exact hR _ aw _ _ aj ⟨false, rfl, rfl, h⟩
 ·refine i7 Tryd.call9 h aj ?_
  rintro _ ak _ bs ax _ _ ⟨z, q, ay, rfl, rfl, h⟩
  refine a7 (f6 _ _ _ rfl) ?_
  refine a7 (f6 _ _ _ rfl) ?_
  refine a7 (f6 _ _ (vi ay) rfl) ?_
  refine B5 ax Tryd.zeroValue25 (cs := [(vi 0), (vi 0)]) rfl fun ac bt az bu => ?_
  refine o9 az Tryd.sizeOf25 (vs := (m6 q)) (cs' := (m6 q)) rfl rfl (nb rfl) rfl rfl fun bv al bw => ?_
  refine a7 (K9 _ _ _ _ _ _) ?_
  simp only [v8]
  refine a7 (Pu.g fun hb => by have c := hb; simp only [m7 c]; with_reducible exact (J4 _)) ?_
  refine a7 (Pu.g fun hb => by have c := hb; simp only [m7 c]; with_reducible exact (V1 _ _ _ _ _ _)) ?_
  refine a7 (P8 _ _) ?_
  refine o7 h (fun _ h => ?_) (fun _ h => ?_)
  ·exact hR _ ak _ _ al.drop ⟨true, rfl, rfl, h⟩
  ·have hj1 : ∀ (Y3 : ByteArray) (H : Hp) (w : World) (_ : Inv w0 ps0 H0 H [bx ac 25 (m6 q)] w) (_ : s9 z Y3 q H K), a2y (vs z) (Value.string Y3) w R E := by
    intro Y3 H w I h
    unfold a2y
    intro _
    unfold s9 at h
    refine a7 (J4 _) ?_
    refine a7 (V1 _ _ _ _ _ _) ?_
    refine j9 h (fun _ h => ?_) (fun _ h => ?_)
    ·exact hR _ H _ _ I.drop ⟨true, rfl, rfl, h⟩
    ·refine i7 Tryd.call9 h I ?_
     rintro _ am _ bz ba _ _ ⟨bb, aa, bc, rfl, rfl, h⟩
     refine a7 (f6 _ _ _ rfl) ?_
     refine a7 (f6 _ _ _ rfl) ?_
     refine a7 (f6 _ _ (vi bc) rfl) ?_
     refine B5 ba Tryd.zeroValue25 (cs := [(vi 0), (vi 0)]) rfl fun an ca bd cb => ?_
     refine o9 bd Tryd.sizeOf25 (vs := (m6 aa)) (cs' := (m6 aa)) rfl rfl (nb rfl) rfl rfl fun cc ao cd => ?_
     refine a7 (K9 _ _ _ _ _ _) ?_
     simp only [v8]
     refine a7 (Pu.g fun hb => by have c := hb; simp only [m7 c]; exact (O8 _ _ _)) ?_
     refine a7 (Pu.g fun hb => by have c := hb; simp only [m7 c]; with_reducible exact (O8 _ _ _)) ?_
     refine a7 (Pu.g fun hb => by have c := hb; simp only [m7 c]; with_reducible exact (K9 _ _ _ _ _ _)) ?_
     refine a7 (P8 _ _) ?_
     refine o7 h (fun _ h => ?_) (fun _ h => ?_)
     ·exact hR _ am _ _ ao.drop.drop ⟨false, rfl, rfl, h⟩
     ·have hj2 : ∀ (H : Hp) (w : World) (_ : Inv w0 ps0 H0 H [bx an 25 (m6 aa), bx ac 25 (m6 q)] w) (_ : y1 aa q H K), a2x w R E := by
       intro H w I h
       unfold a2x
       intro _
       unfold y1 at h
       exact hR _ H _ _ I.drop.drop ⟨true, rfl, rfl, h⟩
      refine y4 fun j2 hx2 => ?_
      obtain ⟨af, ad, be, bf⟩ := h
      refine E1 (J := fun n l w => ∃ (s : Int) (H : Hp) , n = ad s ∧ l = [(vi s)] ∧ Inv w0 ps0 H0 H [bx an 25 (m6 aa), bx ac 25 (m6 q)] w ∧ af s H) ⟨_, 0, am, rfl, rfl, ((ao.bring 1).bring 1), be⟩ ?_
      rintro ce cf w next3 ⟨C3, H, rfl, ap, I, bg⟩ hn3
      simp only [List.map_cons, List.map_nil, List.cons.injEq, and_true] at ap
      have e13 := ap
      simp only [e13]
      obtain ⟨n3, hm3, h⟩ : ∃ n3 : Int → Hp → Prop, (∀ s' H', n3 s' H' → af s' H' ∧ ad s' < ad C3) ∧ s8 z bb aa q C3 H n3 K := ⟨_, fun _ _ h => h, bf C3 H (fun s' H' => af s' H' ∧ ad s' < ad C3) bg (fun _ _ a b => ⟨a, b⟩)⟩
      unfold a4y
      unfold s8 at h
      refine a7 (O8 _ _ _) ?_
      refine a7 (Z6 _ _ _ _ _ _) ?_
      refine j9 h (fun _ h => ?_) (fun _ h => ?_)
      ·refine S5 I fun cg d => ?_
       obtain ⟨e, f, u, r, h⟩ := h
       obtain ⟨aq, ar, i, r⟩ := r
       refine m4 (E6 i _ _ _ _ e f) ?_
       refine m4 T5 ?_
       obtain ⟨j, m, y, t, h⟩ := h
       obtain ⟨au, av, o, t⟩ := t
       refine m4 (E6 o _ _ _ _ j m) ?_
       refine m4 T5 ?_
       refine D7 (ld1 (v := (vi u.L0)) Tryd.isAgg3 ((d.atH r).sub (k := 0) (n := 1) (nb rfl))) ?_
       refine D7 (ld1 (v := (vi y.L0)) Tryd.isAgg3 ((d.atH t).sub (k := 0) (n := 1) (nb rfl))) ?_
       refine m4 (K9 _ _ _ _ _ _) ?_
       simp only [v8]
       refine m4 (Pu.g fun hb => by have c := hb; simp only [m7 c]; exact (E6 i _ _ _ _ e f)) ?_
       refine m4 (Pu.g fun hb => by have c := hb; simp only [m7 c]; with_reducible exact C1) ?_
       refine m4 (Pu.g fun hb => by have c := hb; simp only [m7 c]; with_reducible exact (E6 o _ _ _ _ j m)) ?_
       refine m4 (Pu.g fun hb => by have c := hb; simp only [m7 c]; with_reducible exact C1) ?_
       refine a2m (p := (Value.pointer (some ⟨aq, ar + (C3 : Int).toNat * 5 + 1, none⟩))) rfl (Ld.g fun hb => by have c := hb; simp only [m7 c]; exact (ld1 (v := (Value.string u.t7)) Tryd.isAgg9 ((d.atH r).sub (k := 1) (n := 1) (nb rfl)))) ?_
       refine a2m (p := (Value.pointer (some ⟨au, av + (C3 : Int).toNat * 5 + 1, none⟩))) rfl (Ld.g fun hb => by have c := hb; simp only [m7 c]; exact (ld1 (v := (Value.string y.t7)) Tryd.isAgg9 ((d.atH t).sub (k := 1) (n := 1) (nb rfl)))) ?_
       refine m4 (Pu.g fun hb => by have c := hb; simp only [m7 c]; with_reducible exact (a5j _ _ _ _ _)) ?_
       refine m4 (P8 _ _) ?_
       simp only [v8]
       refine m4 (Pu.g fun hb => by have c := hb; simp only [m7 c]; exact (E6 i _ _ _ _ e f)) ?_
       refine m4 (Pu.g fun hb => by have c := hb; simp only [m7 c]; with_reducible exact P9) ?_
       refine m4 (Pu.g fun hb => by have c := hb; simp only [m7 c]; with_reducible exact (E6 o _ _ _ _ j m)) ?_
       refine m4 (Pu.g fun hb => by have c := hb; simp only [m7 c]; with_reducible exact P9) ?_
       refine a2m (p := (Value.pointer (some ⟨aq, ar + (C3 : Int).toNat * 5 + 2, none⟩))) rfl (Ld.g fun hb => by have c := hb; simp only [m7 c]; exact (ld1 (v := (vi u.K2)) Tryd.isAgg2 ((d.atH r).sub (k := 2) (n := 1) (nb rfl)))) ?_
       refine a2m (p := (Value.pointer (some ⟨au, av + (C3 : Int).toNat * 5 + 2, none⟩))) rfl (Ld.g fun hb => by have c := hb; simp only [m7 c]; exact (ld1 (v := (vi y.K2)) Tryd.isAgg2 ((d.atH t).sub (k := 2) (n := 1) (nb rfl)))) ?_
       refine m4 (Pu.g fun hb => by have c := hb; simp only [m7 c]; with_reducible exact (K9 _ _ _ _ _ _)) ?_
       refine m4 (P8 _ _) ?_
       refine o7 h (fun _ h => ?_) (fun _ h => ?_)
       ·exact hR _ H _ _ d.drop.drop ⟨false, rfl, rfl, h⟩
       ·refine a7 (Q9 _ _ _ _ _ _) ?_
        exact hn3 _ _ _ (hm3 _ _ h).2 ⟨(IntKind.wrap .i64 (C3 + 1)), H, rfl, rfl, ((d.bring 1).bring 1), (hm3 _ _ h).1⟩
      ·exact hx2 _ _ (hj2 H _ ((I.bring 1).bring 1) h)
   refine y4 fun j1 hx1 => ?_
   obtain ⟨ag, ae, bh, bi⟩ := h
   refine E1 (J := fun n l w => ∃ (s : ByteArray × Int) (H : Hp) , n = ae s ∧ l = (match s with | (F6, H7) => [(Value.string F6), (vi H7)]) ∧ (match s with | (F6, H7) => Inv w0 ps0 H0 H [bx ac 25 (m6 q)] w) ∧ ag s H) ⟨_, (⟨#[]⟩, 0), ak, rfl, rfl, al, bh⟩ ?_
   rintro ch ci w next4 ⟨⟨F6, H7⟩, H, rfl, ah, I, bj⟩ hn4
   dsimp only at ah I
   simp only [List.map_cons, List.map_nil, List.cons.injEq, and_true] at ah
   obtain ⟨e8, e9⟩ := ah
   simp only [e8, e9]
   obtain ⟨n4, hm4, h⟩ : ∃ n4 : (ByteArray × Int) → Hp → Prop, (∀ s' H', n4 s' H' → ag s' H' ∧ ae s' < ae (F6, H7)) ∧ t1 x1 z q F6 H7 H n4 K := ⟨_, fun _ _ h => h, bi (F6, H7) H (fun s' H' => ag s' H' ∧ ae s' < ae (F6, H7)) bj (fun _ _ a b => ⟨a, b⟩)⟩
   unfold a4z
   unfold t1 at h
   refine a7 (O8 _ _ _) ?_
   refine a7 (Z6 _ _ _ _ _ _) ?_
   refine j9 h (fun _ h => ?_) (fun _ h => ?_)
   ·have hj5 : ∀ (a0q : ByteArray) (H : Hp) (w : World) (_ : Inv w0 ps0 H0 H [bx ac 25 (m6 q)] w) (_ : o5 x1 z a0q H7 q H n4 K), a2z (Value.bool x1) (vs z) (Value.string a0q) (vi H7) w next4 R E := by
     intro a0q H w I h
     unfold a2z
     intro _
     unfold o5 at h
     refine a7 (Q9 _ _ _ _ _ _) ?_
     exact hn4 _ _ _ (hm4 _ _ h).2 ⟨(a0q, (IntKind.wrap .i64 (H7 + 1))), H, rfl, rfl, I, (hm4 _ _ h).1⟩
    refine y4 fun j5 hx5 => ?_
    obtain ⟨bk, bl, ab, ai, h⟩ := h
    obtain ⟨cj, ck, bm, ai⟩ := ai
    refine a7 (E6 bm _ _ _ _ bk bl) ?_
    refine a7 C1 ?_
    refine q6 (ld1 (v := (Value.string ab.t7)) Tryd.isAgg9 ((I.atH ai).sub (k := 1) (n := 1) (nb rfl))) ?_
    obtain ⟨bn, h⟩ := h
    refine a7 (a0X _ _ _ F6 ab.t7 bn) ?_
    obtain ⟨bo, h⟩ := h
    refine a7 (a0X _ _ _ (F6 ++ ab.t7) ⟨#[32]⟩ bo) ?_
    refine o7 h (fun _ h => ?_) (fun _ h => ?_)
    ·obtain ⟨bp, h⟩ := h
     refine a7 (a0X _ _ _ ((F6 ++ ab.t7) ++ (⟨#[32]⟩ : ByteArray)) ⟨#[35, 32, 61, 32, 10, 9]⟩ bp) ?_
     exact hx5 _ _ (hj5 (((F6 ++ ab.t7) ++ (⟨#[32]⟩ : ByteArray)) ++ (⟨#[35, 32, 61, 32, 10, 9]⟩ : ByteArray)) H _ I h)
    ·exact hx5 _ _ (hj5 ((F6 ++ ab.t7) ++ (⟨#[32]⟩ : ByteArray)) H _ I h)
   ·exact hx1 _ _ (hj1 F6 H _ I h)
def K5 (x0 : ByteArray) (H : Hp) (K : Bool → Hp → Prop) : Prop :=
 u9 x0 H (fun a b =>
 K (decide (32 < a)) b)
theorem X6 (x0 : ByteArray) {H : Hp} {K : Bool → Hp → Prop} (h : K5 x0 H K) : K4 x0 H K := by
 refine Ct.of fun w0 w ps0 H0 R E I hR => a5B ?_
 unfold K5 at h
 unfold F28
 refine i7 Tryd.call50 h I ?_
 rintro _ a _ d b _ _ ⟨c, rfl, rfl, h⟩
 refine a7 (V1 _ _ _ _ _ _) ?_
 exact hR _ a _ _ b ⟨(decide (32 < c)), rfl, rfl, h⟩
def D2 (x0 : a8) (a : (List a6)) (H : Hp) (K : ByteArray → Hp → Prop) : Prop :=
 (0 : Int) ≤ x0.fn ∧ (x0.fn : Int) ≤ x0.fs.size ∧
 K (x0.fs.extract (x0.fn : Int).toNat x0.fs.size) H
theorem R3 (x0 : a8) (b : (List a6)) {H : Hp} {K : ByteArray → Hp → Prop} (h : D2 x0 b H K) : s4 x0 b H K := by
 intro g0 e f g
 refine Ct.of fun w0 w ps0 H0 R E I hR => a5G ?_
 unfold D2 at h
 unfold F39
 refine S5 I fun i a => ?_
 refine m4 (p8 _) ?_
 refine m4 M3 ?_
 refine m4 (p8 _) ?_
 refine m4 u6 ?_
 refine D7 (l1 Tryd.isAgg9 a rfl) ?_
 refine D7 (l1 Tryd.isAgg3 a rfl) ?_
 obtain ⟨c, d, h⟩ := h
 refine m4 (a1Q x0.fs Tryd.underlying9 c d) ?_
 exact hR _ H _ _ ((a.bring 1).bring 1) ⟨(x0.fs.extract (x0.fn : Int).toNat x0.fs.size), rfl, rfl, h⟩
def v6 (x0 : ByteArray) (x1 : ByteArray) (H : Hp) (K : Bool → Hp → Prop) : Prop :=
 ((decide ((x1.size : Int) ≤ (x0.size : Int))) = true → (0 : Int) ≤ (x1.size : Int) ∧ ((x1.size : Int) : Int) ≤ x0.size) ∧
 K ((decide ((x1.size : Int) ≤ (x0.size : Int))) && (decide ((x0.extract 0 ((x1.size : Int) : Int).toNat) = x1))) H
theorem L4 (x0 : ByteArray) (x1 : ByteArray) {H : Hp} {K : Bool → Hp → Prop} (h : v6 x0 x1 H K) : D1 x0 x1 H K := by
 refine Ct.of fun w0 w ps0 H0 R E I hR => a5P ?_
 unfold v6 at h
 unfold F57
 refine a7 (J4 _) ?_
 refine a7 (J4 _) ?_
 refine a7 (a5h _ _ _ _ _ _) ?_
 simp only [v8]
 refine a7 (Pu.g fun hb => by have a := hb; simp only [m7 a]; with_reducible exact (J4 _)) ?_
 obtain ⟨b, h⟩ := h
 refine a7 (Pu.g fun hb => by have a := hb; simp only [m7 a]; with_reducible exact (a1R x0 Tryd.underlying9 (b hb).1 (b hb).2)) ?_
 refine a7 (Pu.g fun hb => by have a := hb; simp only [m7 a]; with_reducible exact (C9 _ _ _ _ _)) ?_
 refine a7 (E3 _ _) ?_
 exact hR _ H _ _ I ⟨((decide ((x1.size : Int) ≤ (x0.size : Int))) && (decide ((x0.extract 0 ((x1.size : Int) : Int).toNat) = x1))), rfl, rfl, h⟩
def D3 (x0 : a8) (a : (List a6)) (H : Hp) (K : a8 → (List a6) → Hp → Prop) : Prop :=
 s4 (f8 x0) a H (fun e f =>
 u5 e f (fun b c d =>
 (b = 10 →
 K (a8.mk x0.fs (IntKind.wrap .i64 (x0.fn + c)) (b7.mk (IntKind.wrap .i64 (x0.fat.s5 + 1)) 1) (Sl.mk none 0 0)) a d) ∧
 (¬ (b = 10) →
 K (a8.mk x0.fs (IntKind.wrap .i64 (x0.fn + c)) (b7.mk x0.fat.s5 (IntKind.wrap .i64 (x0.fat.y2 + 1))) (Sl.mk none 0 0)) a d)))
theorem R4 (x0 : a8) (c : (List a6)) {H : Hp} {K : a8 → (List a6) → Hp → Prop} (h : D3 x0 c H K) : k6 x0 c H K := by
 intro g0 b d e
 refine Ct.of fun w0 w ps0 H0 R E I hR => a5O ?_
 unfold D3 at h
 unfold F56
 refine i7 Tryd.call39 (h g0 b d e) ((I.bring 1).bring 1) ?_
 rintro _ n _ o k _ _ ⟨p, rfl, rfl, h⟩
 refine i7 Tryd.call33 h k ?_
 rintro _ g _ q i _ _ ⟨l, a, rfl, rfl, h⟩
 refine a7 (f6 _ _ (Value.int .i32 l) rfl) ?_
 refine a7 (f6 _ _ (vi a) rfl) ?_
 refine a7 (p8 _) ?_
 refine a7 u6 ?_
 refine q6 (l1 Tryd.isAgg3 i rfl) ?_
 refine a7 (Q9 _ _ _ _ _ _) ?_
 refine a7 (p8 _) ?_
 refine a7 u6 ?_
 refine o9 i Tryd.sizeOf3 (vs := [(vi (IntKind.wrap .i64 (x0.fn + a)))]) (cs' := [(Value.string x0.fs), (vi (IntKind.wrap .i64 (x0.fn + a))), (vi x0.fat.s5), (vi x0.fat.y2), (vs b)]) rfl rfl (nb rfl) rfl rfl fun r j s => ?_
 refine a7 (p8 _) ?_
 refine a7 K0 ?_
 refine a7 a0a ?_
 refine q6 (l1 Tryd.isAgg3 j rfl) ?_
 refine a7 (Q9 _ _ _ _ _ _) ?_
 refine a7 (p8 _) ?_
 refine a7 K0 ?_
 refine a7 a0a ?_
 refine o9 j Tryd.sizeOf3 (vs := [(vi (IntKind.wrap .i64 (x0.fat.y2 + 1)))]) (cs' := [(Value.string x0.fs), (vi (IntKind.wrap .i64 (x0.fn + a))), (vi x0.fat.s5), (vi (IntKind.wrap .i64 (x0.fat.y2 + 1))), (vs b)]) rfl rfl (nb rfl) rfl rfl fun t f u => ?_
 refine a7 (m0 _ _ _ _ _ _) ?_
 refine j9 h (fun _ h => ?_) (fun _ h => ?_)
 ·refine a7 (p8 _) ?_
  refine a7 K0 ?_
  refine a7 a2w ?_
  refine q6 (l1 Tryd.isAgg3 f rfl) ?_
  refine a7 (Q9 _ _ _ _ _ _) ?_
  refine a7 (P2 _ _) ?_
  refine a7 (p8 _) ?_
  refine a7 K0 ?_
  refine o9 f Tryd.sizeOf25 (vs := [(vi (IntKind.wrap .i64 (x0.fat.s5 + 1))), (vi 1)]) (cs' := [(Value.string x0.fs), (vi (IntKind.wrap .i64 (x0.fn + a))), (vi (IntKind.wrap .i64 (x0.fat.s5 + 1))), (vi 1), (vs b)]) rfl rfl (nb rfl) rfl rfl fun v m y => ?_
  exact hR _ g _ _ ((m.bring 1).bring 1) ⟨(a8.mk x0.fs (IntKind.wrap .i64 (x0.fn + a)) (b7.mk (IntKind.wrap .i64 (x0.fat.s5 + 1)) 1) (Sl.mk none 0 0)), c, b, d, rfl, rfl, e, h⟩
 ·exact hR _ g _ _ ((f.bring 1).bring 1) ⟨(a8.mk x0.fs (IntKind.wrap .i64 (x0.fn + a)) (b7.mk x0.fat.s5 (IntKind.wrap .i64 (x0.fat.y2 + 1))) (Sl.mk none 0 0)), c, b, d, rfl, rfl, e, h⟩
def z8 (x0 : Int) (H : Hp) (K : Bool → Hp → Prop) : Prop :=
 t6 x0 H (fun a b =>
 K ((decide (a = 1)) || (decide (a = 2))) b)
theorem N1 (x0 : Int) {H : Hp} {K : Bool → Hp → Prop} (h : z8 x0 H K) : z1 x0 H K := by
 refine Ct.of fun w0 w ps0 H0 R E I hR => a5E ?_
 unfold z8 at h
 unfold F36
 refine i7 Tryd.call30 h I ?_
 rintro _ c _ e d _ _ ⟨b, rfl, rfl, h⟩
 refine a7 (m0 _ _ _ _ _ _) ?_
 simp only [v8]
 refine a7 (Pu.g fun hb => by have a := hb; simp only [m7 a]; with_reducible exact (m0 _ _ _ _ _ _)) ?_
 refine a7 (P8 _ _) ?_
 exact hR _ c _ _ d ⟨((decide (b = 1)) || (decide (b = 2))), rfl, rfl, h⟩
def g5 (B4 : Int) (g6 : ByteArray) (g7 : Int) (k7 : b7) (l0 : (List a6)) (H : Hp) (K : ByteArray → a8 → (List a6) → Hp → Prop) : Prop :=
 (0 : Int) ≤ B4 ∧ (B4 : Int) ≤ g7 ∧ (g7 : Int) ≤ g6.size ∧
 K (g6.extract (B4 : Int).toNat (g7 : Int).toNat) (a8.mk g6 g7 k7 (Sl.mk none 0 0)) l0 H
def i8 (Y5 : Int) (q8 : Int) (k9 : Bool) (d7 : ByteArray) (d8 : Int) (c8 : b7) (d6 : (List a6)) (H : Hp) (n2 : (Int × Bool × ByteArray × Int × b7 × (List a6)) → Hp → Prop) (K : ByteArray → a8 → (List a6) → Hp → Prop) : Prop :=
 TG (k9 = true) (z1 q8 H) false H (fun (b : Bool) (c : Hp) =>
 ((k9 && b) = true →
 k6 (a8.mk d7 d8 c8 (Sl.mk none 0 0)) d6 c (fun a d e =>
 i6 (f8 a) d e (fun f g i =>
 n2 (f, g, a.fs, a.fn, a.fat, d) i))) ∧
 ((k9 && b) = false →
 g5 Y5 d7 d8 c8 d6 c K))
def o2 (x0 : a8) (a : (List a6)) (H : Hp) (K : ByteArray → a8 → (List a6) → Hp → Prop) : Prop :=
 i6 (f8 x0) a H (fun b c d =>
 TL ((b, c, x0.fs, x0.fn, x0.fat, a) : Int × Bool × ByteArray × Int × b7 × (List a6)) d fun (s : Int × Bool × ByteArray × Int × b7 × (List a6)) H n2 => i8 x0.fn s.1 s.2.1 s.2.2.1 s.2.2.2.1 s.2.2.2.2.1 s.2.2.2.2.2 H n2 K)
theorem A7 (x0 : a8) (q : (List a6)) {H : Hp} {K : ByteArray → a8 → (List a6) → Hp → Prop} (h : o2 x0 q H K) : l9 x0 q H K := by
 intro g0 y z aa
 refine Ct.of fun w0 w ps0 H0 R E I hR => a0b ?_
 unfold o2 at h
 unfold F37
 refine a7 (p8 _) ?_
 refine a7 u6 ?_
 refine q6 (l1 Tryd.isAgg3 I rfl) ?_
 have hj1 : ∀ (g6 : ByteArray) (g7 : Int) (k7 : b7) (l0 : (List a6)) (s6 : Sl) (o8 : Frag) (H : Hp) (w : World) (_ : RowL 33 5 b9 s6 l0 o8) (_ : Inv w0 ps0 H0 H [bx g0 44 [(Value.string g6), (vi g7), (vi k7.s5), (vi k7.y2), (vs s6)], o8] w) (_ : g5 x0.fn g6 g7 k7 l0 H K), M4 (Value.pointer (some ⟨g0, 0, none⟩)) (vi x0.fn) w R E := by
  intro g6 g7 k7 l0 s6 o8 H w E7 I h
  unfold M4
  intro _
  unfold g5 at h
  refine S5 I fun ax r => ?_
  refine m4 (p8 _) ?_
  refine m4 M3 ?_
  refine m4 (p8 _) ?_
  refine m4 u6 ?_
  refine D7 (l1 Tryd.isAgg9 r rfl) ?_
  refine D7 (l1 Tryd.isAgg3 r rfl) ?_
  obtain ⟨ak, al, am, h⟩ := h
  refine m4 (T4 g6 Tryd.underlying9 ak al am) ?_
  exact hR _ H _ _ ((r.bring 1).bring 1) ⟨(g6.extract (x0.fn : Int).toNat (g7 : Int).toNat), (a8.mk g6 g7 k7 (Sl.mk none 0 0)), l0, s6, o8, rfl, rfl, E7, h⟩
 refine y4 fun j1 hx1 => ?_
 refine i7 Tryd.call20 (h g0 y z aa) ((I.bring 1).bring 1) ?_
 rintro _ an _ ay ao _ _ ⟨ab, ac, rfl, rfl, h⟩
 refine a7 (f6 _ _ (Value.int .i32 ab) rfl) ?_
 refine a7 (f6 _ _ (Value.bool ac) rfl) ?_
 obtain ⟨t, g, ap, aq⟩ := h
 refine E1 (J := fun n l w => ∃ (s : Int × Bool × ByteArray × Int × b7 × (List a6)) (H : Hp) (m8 : Sl) (l8 : Frag) , n = g s ∧ l = (match s with | (q8, k9, d7, d8, c8, d6) => [(Value.int .i32 q8), (Value.bool k9)]) ∧ (match s with | (q8, k9, d7, d8, c8, d6) => RowL 33 5 b9 m8 d6 l8) ∧ (match s with | (q8, k9, d7, d8, c8, d6) => Inv w0 ps0 H0 H [bx g0 44 [(Value.string d7), (vi d8), (vi c8.s5), (vi c8.y2), (vs m8)], l8] w) ∧ t s H) ⟨_, (ab, ac, x0.fs, x0.fn, x0.fat, q), an, y, z, rfl, rfl, aa, ((ao.bring 1).bring 1), ap⟩ ?_
 rintro az ba w next2 ⟨⟨q8, k9, d7, d8, c8, d6⟩, H, m8, l8, rfl, u, q9, I, ar⟩ hn2
 dsimp only at u I q9
 simp only [List.map_cons, List.map_nil, List.cons.injEq, and_true] at u
 obtain ⟨e6, e7⟩ := u
 simp only [e6, e7]
 obtain ⟨n2, hm2, h⟩ : ∃ n2 : (Int × Bool × ByteArray × Int × b7 × (List a6)) → Hp → Prop, (∀ s' H', n2 s' H' → t s' H' ∧ g s' < g (q8, k9, d7, d8, c8, d6)) ∧ i8 x0.fn q8 k9 d7 d8 c8 d6 H n2 K := ⟨_, fun _ _ h => h, aq (q8, k9, d7, d8, c8, d6) H (fun s' H' => t s' H' ∧ g s' < g (q8, k9, d7, d8, c8, d6)) ar (fun _ _ a b => ⟨a, b⟩)⟩
 unfold V4
 unfold i8 at h
 simp only [v8]
 refine V3 (D := fun ad j => ∃ (f : Bool) (c : Hp) , ad = (gv k9 true (Value.bool f)) ∧ (Inv w0 ps0 H0 c [bx g0 44 [(Value.string d7), (vi d8), (vi c8.s5), (vi c8.y2), (vs m8)], l8] j) ∧ (∀ i, i < w.heap.size → ¬ inF [] i → j.heap[i]? = w.heap[i]?) ∧ Hle H c ∧ (((k9 && f) = true →
 k6 (a8.mk d7 d8 c8 (Sl.mk none 0 0)) d6 c (fun (d : a8) (k : (List a6)) (au : Hp) =>
 i6 (f8 d) k au (fun (m : Int) (o : Bool) (v : Hp) =>
 n2 (m, o, d.fs, d.fn, d.fat, k) v))) ∧
 ((k9 && f) = false →
 g5 x0.fn d7 d8 c8 d6 c K))) (fun e => ?_) (fun e => ?_) ?_
 ·replace h := h.1 e
  have ae := e
  simp only [m7 ae]
  refine i7 Tryd.call36 h I ?_
  rintro _ c _ j p af ag ⟨f, rfl, rfl, h⟩
  exact ⟨f, c, by rfl, p, ag, af, h⟩
 ·exact ⟨false, H, by rw [a0o e], I, fun _ _ _ => rfl, Hle.refl _, h.2 e⟩
 ·clear h
  rintro ad j ⟨f, c, rfl, p, ag, af, h⟩
  refine a7 (E3 _ _) ?_
  refine o7 h (fun _ h => ?_) (fun _ h => ?_)
  ·refine i7 Tryd.call56 (h g0 m8 l8 q9) ((p.bring 1).bring 1) ?_
   rintro _ _ _ bb av _ _ ⟨d, k, ah, ai, rfl, rfl, aj, h⟩
   refine i7 Tryd.call20 (h g0 ah ai aj) ((av.bring 1).bring 1) ?_
   rintro _ v _ bc aw _ _ ⟨m, o, rfl, rfl, h⟩
   refine a7 (f6 _ _ (Value.int .i32 m) rfl) ?_
   refine a7 (f6 _ _ (Value.bool o) rfl) ?_
   exact hn2 _ _ _ (hm2 _ _ h).2 ⟨(m, o, d.fs, d.fn, d.fat, k), v, ah, ai, rfl, rfl, aj, ((aw.bring 1).bring 1), (hm2 _ _ h).1⟩
  ·exact hx1 _ _ (hj1 d7 d8 c8 d6 m8 l8 c _ q9 ((p.bring 1).bring 1) h)
def u1 (a : a6) (g6 : ByteArray) (g7 : Int) (k7 : b7) (l0 : (List a6)) (b : a6) (H : Hp) (K : a6 → Int → a8 → (List a6) → Hp → Prop) : Prop :=
 K a 0 (a8.mk g6 g7 k7 (Sl.mk none 0 0)) l0 H
def D4 (x0 : a8) (i : (List a6)) (H : Hp) (K : a6 → Int → a8 → (List a6) → Hp → Prop) : Prop :=
 p9 (f8 x0) i H (fun b a c j =>
 K3 b j (fun d e =>
 (d = true →
 u1 (a6.mk 3 b 0 (b7.mk 0 0)) a.fs a.fn a.fat c (a6.mk 0 ⟨#[]⟩ 0 (b7.mk 0 0)) e K) ∧
 (d = false →
 K4 b e (fun f g =>
 (f = true →
 K (a6.mk 1 b 0 (b7.mk 0 0)) 22 (f8 a) c g) ∧
 (f = false →
 u1 (a6.mk 1 b 0 (b7.mk 0 0)) a.fs a.fn a.fat c (a6.mk 0 ⟨#[]⟩ 0 (b7.mk 0 0)) g K)))))
theorem R5 (x0 : a8) (j : (List a6)) {H : Hp} {K : a6 → Int → a8 → (List a6) → Hp → Prop} (h : D4 x0 j H K) : J5 x0 j H K := by
 intro g0 s t u
 refine Ct.of fun w0 w ps0 H0 R E I hR => a5I ?_
 unfold D4 at h
 unfold F41
 refine B5 I Tryd.zeroValue33 (cs := [(vi 0), (Value.string ⟨#[]⟩), (vi 0), (vi 0), (vi 0)]) rfl fun k ac v ad => ?_
 refine i7 Tryd.call37 (h g0 s t u) ((v.bring 2).bring 2) ?_
 rintro _ _ _ ae y _ _ ⟨a, b, d, e, f, rfl, rfl, l, h⟩
 refine a7 (L1 _ _) ?_
 refine B5 y Tryd.zeroValue33 (cs := [(vi 0), (Value.string ⟨#[]⟩), (vi 0), (vi 0), (vi 0)]) rfl fun m af z ag => ?_
 refine o9 z Tryd.sizeOf33 (vs := [(vi 1), (Value.string a), (vi 0), (vi 0), (vi 0)]) (cs' := [(vi 1), (Value.string a), (vi 0), (vi 0), (vi 0)]) rfl rfl (nb rfl) rfl rfl fun ah n ai => ?_
 have hj1 : ∀ (c : a6) (g6 : ByteArray) (g7 : Int) (k7 : b7) (H : Hp) (w : World) (_ : Inv w0 ps0 H0 H [bx m 33 (b9 c), bx g0 44 [(Value.string g6), (vi g7), (vi k7.s5), (vi k7.y2), (vs e)], bx k 33 [(vi (a6.mk 0 ⟨#[]⟩ 0 (b7.mk 0 0)).L0), (Value.string (a6.mk 0 ⟨#[]⟩ 0 (b7.mk 0 0)).t7), (vi (a6.mk 0 ⟨#[]⟩ 0 (b7.mk 0 0)).K2), (vi (a6.mk 0 ⟨#[]⟩ 0 (b7.mk 0 0)).fAt.s5), (vi (a6.mk 0 ⟨#[]⟩ 0 (b7.mk 0 0)).fAt.y2)], f] w) (_ : u1 c g6 g7 k7 d (a6.mk 0 ⟨#[]⟩ 0 (b7.mk 0 0)) H K), a1h (Value.pointer (some ⟨k, 0, none⟩)) (Value.pointer (some ⟨m, 0, none⟩)) w R E := by
  intro c g6 g7 k7 H w I h
  unfold a1h
  intro _
  unfold u1 at h
  refine q6 (lW Tryd.isAgg33 Tryd.sizeOf33 rfl I) ?_
  refine o9 (I.bring 2) Tryd.sizeOf33 (vs := (b9 c)) (cs' := (b9 c)) rfl rfl (nb rfl) rfl rfl fun aj p ak => ?_
  refine E0 Tryd.isAgg33 Tryd.sizeOf33 rfl (p.at1 (o := 0) (vs := (b9 c)) (nb rfl) rfl) ?_
  exact hR _ H _ _ ((p.drop.drop.bring 1).bring 1) ⟨c, 0, (a8.mk g6 g7 k7 (Sl.mk none 0 0)), d, e, f, rfl, rfl, l, h⟩
 refine y4 fun j1 hx1 => ?_
 refine a7 C1 ?_
 refine q6 (l1 Tryd.isAgg9 n rfl) ?_
 refine i7 Tryd.call13 h n ?_
 rintro _ aa _ al g _ _ ⟨am, rfl, rfl, h⟩
 refine o7 h (fun _ h => ?_) (fun _ h => ?_)
 ·refine a7 T5 ?_
  refine o9 g Tryd.sizeOf3 (vs := [(vi 3)]) (cs' := [(vi 3), (Value.string a), (vi 0), (vi 0), (vi 0)]) rfl rfl (nb rfl) rfl rfl fun an ab ao => ?_
  exact hx1 _ _ (hj1 (a6.mk 3 a 0 (b7.mk 0 0)) b.fs b.fn b.fat aa _ ((((ab.bring 2).bring 3).bring 3).bring 3) h)
 ·refine a7 C1 ?_
  refine q6 (l1 Tryd.isAgg9 g rfl) ?_
  refine i7 Tryd.call28 h g ?_
  rintro _ q _ ap i _ _ ⟨aq, rfl, rfl, h⟩
  refine o7 h (fun _ h => ?_) (fun _ h => ?_)
  ·refine q6 (ldA Tryd.isAgg33 Tryd.sizeOf33 rfl (i.at1 (o := 0) (vs := [(vi 1), (Value.string a), (vi 0), (vi 0), (vi 0)]) (nb rfl) rfl)) ?_
   refine o9 (i.bring 3) Tryd.sizeOf33 (vs := [(vi 1), (Value.string a), (vi 0), (vi 0), (vi 0)]) (cs' := [(vi 1), (Value.string a), (vi 0), (vi 0), (vi 0)]) rfl rfl (nb rfl) rfl rfl fun ar r au => ?_
   refine E0 Tryd.isAgg33 Tryd.sizeOf33 rfl (r.at1 (o := 0) (vs := [(vi 1), (Value.string a), (vi 0), (vi 0), (vi 0)]) (nb rfl) rfl) ?_
   exact hR _ q _ _ ((r.drop.drop.bring 1).bring 1) ⟨(a6.mk 1 a 0 (b7.mk 0 0)), 22, (f8 b), d, e, f, rfl, rfl, l, h⟩
  ·exact hx1 _ _ (hj1 (a6.mk 1 a 0 (b7.mk 0 0)) b.fs b.fn b.fat q _ ((((i.bring 2).bring 3).bring 3).bring 3) h)
end Go.Proofs.YthklmeihgmcljaaDoor
