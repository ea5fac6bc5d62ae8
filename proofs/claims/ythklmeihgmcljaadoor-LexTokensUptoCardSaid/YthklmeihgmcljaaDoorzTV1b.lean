/- Typed formulas of the program's functions, and the theorems that the contracts follow from them; printed by lift.py off the code. -/
import Derived.Test.YthklmeihgmcljaaDoorzTV1
namespace Go.Proofs.YthklmeihgmcljaaDoor
open Go.RowKit
set_option maxRecDepth 100000
set_option maxHeartbeats 2000000
def t7 (a2g : Int) (H : Hp) (K : Int → Hp → Prop) : Prop :=
 K a2g H
def t8 (b : ByteArray) (V9 : Int) (a : Nat) (H : Hp) (n2 : (Int × Nat) → Hp → Prop) (K : Int → Hp → Prop) : Prop :=
 (a < b.size →
 n2 ((IntKind.wrap .i64 (V9 + 1)), (a + (Utf8.decode b a).2)) H) ∧
 (¬ (a < b.size) →
 t7 V9 H K)
def B6 (x0 : ByteArray) (H : Hp) (K : Int → Hp → Prop) : Prop :=
 TL ((0, 0) : Int × Nat) H fun (s : Int × Nat) H n2 => t8 x0 s.1 s.2 H n2 K
theorem S1 (x0 : ByteArray) {H : Hp} {K : Int → Hp → Prop} (h : B6 x0 H K) : B4 x0 H K := by
 refine Ct.of fun w0 w ps0 H0 R E I hR => a8u ?_
 unfold B6 at h
 unfold F50
 have hj1 : ∀ (a2g : Int) (H : Hp) (w : World) (_ : Inv w0 ps0 H0 H [] w) (_ : t7 a2g H K), a3z (vi a2g) w R E := by
  intro a2g H w I h
  unfold a3z
  intro _
  unfold t7 at h
  exact hR _ H _ _ I ⟨a2g, rfl, rfl, h⟩
 refine r5 fun j1 hx1 => ?_
 refine a2e Tryd.underlying9 x0 I fun j r k t => ?_
 obtain ⟨f, d, m, o⟩ := h
 refine u6 (J := fun n l w => ∃ (s : Int × Nat) (H : Hp) , n = d s ∧ l = (match s with | (V9, c) => [(vi V9)]) ∧ (match s with | (V9, c) => Inv w0 ps0 H0 H [itf j x0 c] w) ∧ f s H) ⟨_, (0, 0), H, rfl, rfl, k, m⟩ ?_
 rintro u v w next2 ⟨⟨V9, c⟩, H, rfl, g, I, p⟩ hn2
 dsimp only at g I
 simp only [List.map_cons, List.map_nil, List.cons.injEq, and_true] at g
 have e2 := g
 simp only [e2]
 obtain ⟨n2, hm2, h⟩ : ∃ n2 : (Int × Nat) → Hp → Prop, (∀ s' H', n2 s' H' → f s' H' ∧ d s' < d (V9, c)) ∧ t8 x0 V9 c H n2 K := ⟨_, fun _ _ h => h, o (V9, c) H (fun s' H' => f s' H' ∧ d s' < d (V9, c)) p (fun _ _ a b => ⟨a, b⟩)⟩
 unfold a5F
 unfold t8 at h
 refine a2Z I (fun i y q z => ?_) (fun i => ?_)
 ·replace h := h.1 i
  refine a7 (b8 _ _ (Value.bool true) rfl) ?_
  refine O5 (fun e => ?_) (fun e => by cases e)
  refine a7 (q6 _ _ _ _ _ _) ?_
  exact hn2 _ _ _ (hm2 _ _ h).2 ⟨((IntKind.wrap .i64 (V9 + 1)), (c + (Utf8.decode x0 c).2)), H, rfl, rfl, q, (hm2 _ _ h).1⟩
 ·replace h := h.2 i
  refine a7 (b8 _ _ (Value.bool false) rfl) ?_
  refine O5 (fun e => by cases e) (fun e => ?_)
  exact hx1 _ _ (hj1 V9 H _ I.drop h)
def N6 (x0 : Int) (x1 : Int) (x2 : Int) (H : Hp) (K : Bool → Hp → Prop) : Prop :=
 K ((decide (x1 ≤ x0)) && (decide (x0 ≤ x2))) H
theorem V5 (x0 : Int) (x1 : Int) (x2 : Int) {H : Hp} {K : Bool → Hp → Prop} (h : N6 x0 x1 x2 H K) : j8 x0 x1 x2 H K := by
 refine Ct.of fun w0 w ps0 H0 R E I hR => a8w ?_
 unfold N6 at h
 unfold F52
 refine a7 (P9 _ _ _ _ _ _) ?_
 simp only [o3]
 refine a7 (Pu.g fun hb => by have a := hb; simp only [m1 a]; with_reducible exact (a1L _ _ _ _ _ _)) ?_
 refine a7 (s4 _ _) ?_
 exact hR _ H _ _ I ⟨((decide (x1 ≤ x0)) && (decide (x0 ≤ x2))), rfl, rfl, h⟩
def B3 (a0T : ByteArray) (T7 : Int) (W0 : Int) (H : Hp) (n1 : (Int × Int) → Hp → Prop) (K : Int → Int → Hp → Prop) : Prop :=
 t1 a0T T7 H (fun a c b =>
 (((!decide (a = 3)) && (!decide (a = 4))) = true →
 K T7 W0 b) ∧
 (((!decide (a = 3)) && (!decide (a = 4))) = false →
 n1 ((IntKind.wrap .i64 (T7 + c)), (IntKind.wrap .i64 (W0 + 1))) b))
def L6 (x0 : ByteArray) (x1 : Int) (H : Hp) (K : Int → Int → Hp → Prop) : Prop :=
 TL ((x1, 0) : Int × Int) H fun (s : Int × Int) H n1 => B3 x0 s.1 s.2 H n1 K
theorem Z5 (x0 : ByteArray) (x1 : Int) {H : Hp} {K : Int → Int → Hp → Prop} (h : L6 x0 x1 H K) : L3 x0 x1 H K := by
 refine Ct.of fun w0 w ps0 H0 R E I hR => a8r ?_
 unfold L6 at h
 unfold F46
 obtain ⟨e, d, m, o⟩ := h
 refine u6 (J := fun n l w => ∃ (s : Int × Int) (H : Hp) , n = d s ∧ l = (match s with | (T7, W0) => [(vi T7), (vi W0)]) ∧ (match s with | (T7, W0) => Inv w0 ps0 H0 H [] w) ∧ e s H) ⟨_, (x1, 0), H, rfl, rfl, I, m⟩ ?_
 rintro r t w next1 ⟨⟨T7, W0⟩, H, rfl, f, I, p⟩ hn1
 dsimp only at f I
 simp only [List.map_cons, List.map_nil, List.cons.injEq, and_true] at f
 obtain ⟨e1, e6⟩ := f
 simp only [e1, e6]
 obtain ⟨n1, hm1, h⟩ : ∃ n1 : (Int × Int) → Hp → Prop, (∀ s' H', n1 s' H' → e s' H' ∧ d s' < d (T7, W0)) ∧ B3 x0 T7 W0 H n1 K := ⟨_, fun _ _ h => h, o (T7, W0) H (fun s' H' => e s' H' ∧ d s' < d (T7, W0)) p (fun _ _ a b => ⟨a, b⟩)⟩
 unfold a5D
 unfold B3 at h
 refine f8 Tryd.call45 h I ?_
 rintro _ i _ u j _ _ ⟨q, k, rfl, rfl, h⟩
 refine a7 (b8 _ _ (vi q) rfl) ?_
 refine a7 (b8 _ _ (vi k) rfl) ?_
 refine a7 (E5 _ _ _ _ _ _) ?_
 simp only [o3]
 refine a7 (Pu.g fun hb => by have c := hb; simp only [m1 c]; with_reducible exact (E5 _ _ _ _ _ _)) ?_
 refine a7 (s4 _ _) ?_
 refine m0 h (fun _ h => ?_) (fun _ h => ?_)
 ·exact hR _ i _ _ j ⟨T7, W0, rfl, rfl, h⟩
 ·refine a7 (q6 _ _ _ _ _ _) ?_
  refine a7 (q6 _ _ _ _ _ _) ?_
  exact hn1 _ _ _ (hm1 _ _ h).2 ⟨((IntKind.wrap .i64 (T7 + k)), (IntKind.wrap .i64 (W0 + 1))), i, rfl, rfl, j, (hm1 _ _ h).1⟩
def y1 (O9 : ByteArray) (y6 : Int) (R1 : Int) (O1 : Int) (c : a6) (H : Hp) (K : a6 → Int → Int → Hp → Prop) : Prop :=
 t1 O9 R1 H (fun a d b =>
 (0 : Int) ≤ y6 ∧ y6 < (O9.size : Int) ∧
 ((((decide (((O9.get! (y6 : Int).toNat).toNat : Int) = 48)) && (decide (1 < (IntKind.wrap .i64 (R1 - y6))))) || (decide (a = 3))) = true →
 K (a6.mk 0 ⟨#[]⟩ 0 (a8.mk 0 0)) 0 21 b) ∧
 ((((decide (((O9.get! (y6 : Int).toNat).toNat : Int) = 48)) && (decide (1 < (IntKind.wrap .i64 (R1 - y6))))) || (decide (a = 3))) = false →
 (0 : Int) ≤ y6 ∧ (y6 : Int) ≤ R1 ∧ (R1 : Int) ≤ O9.size ∧
 K (a6.mk 2 (O9.extract (y6 : Int).toNat (R1 : Int).toNat) (IntKind.wrap .i64 O1) (a8.mk 0 0)) R1 0 b))
def y2 (p9 : ByteArray) (C4 : Int) (g7 : Int) (v8 : Int) (a : a6) (H : Hp) (n2 : (Int × Int × a6) → Hp → Prop) (K : a6 → Int → Int → Hp → Prop) : Prop :=
 ((decide (g7 < (p9.size : Int))) = true → (0 : Int) ≤ g7 ∧ g7 < (p9.size : Int)) ∧
 (((decide (g7 < (p9.size : Int))) && (decide (48 ≤ ((p9.get! (g7 : Int).toNat).toNat : Int)))) = true → (0 : Int) ≤ g7 ∧ g7 < (p9.size : Int)) ∧
 ((((decide (g7 < (p9.size : Int))) && (decide (48 ≤ ((p9.get! (g7 : Int).toNat).toNat : Int)))) && (decide (((p9.get! (g7 : Int).toNat).toNat : Int) ≤ 57))) = true →
 (0 : Int) ≤ g7 ∧ g7 < (p9.size : Int) ∧
 (10 : Int) ≠ 0 ∧
 ((IntKind.wrap .u64 (Int.tdiv (IntKind.wrap .u64 (9223372036854775807 - (IntKind.wrap .u64 (IntKind.wrap .u8 (((p9.get! (g7 : Int).toNat).toNat : Int) - 48))))) 10)) < v8 →
 K (a6.mk 0 ⟨#[]⟩ 0 (a8.mk 0 0)) 0 21 H) ∧
 (¬ ((IntKind.wrap .u64 (Int.tdiv (IntKind.wrap .u64 (9223372036854775807 - (IntKind.wrap .u64 (IntKind.wrap .u8 (((p9.get! (g7 : Int).toNat).toNat : Int) - 48))))) 10)) < v8) →
 n2 ((IntKind.wrap .i64 (g7 + 1)), (IntKind.wrap .u64 ((IntKind.wrap .u64 (10 * v8)) + (IntKind.wrap .u64 (IntKind.wrap .u8 (((p9.get! (g7 : Int).toNat).toNat : Int) - 48))))), a) H)) ∧
 ((((decide (g7 < (p9.size : Int))) && (decide (48 ≤ ((p9.get! (g7 : Int).toNat).toNat : Int)))) && (decide (((p9.get! (g7 : Int).toNat).toNat : Int) ≤ 57))) = false →
 y1 p9 C4 g7 v8 a H K)
def F7 (x0 : ByteArray) (x1 : Int) (H : Hp) (K : a6 → Int → Int → Hp → Prop) : Prop :=
 TL ((x1, 0, (a6.mk 0 ⟨#[]⟩ 0 (a8.mk 0 0))) : Int × Int × a6) H fun (s : Int × Int × a6) H n2 => y2 x0 x1 s.1 s.2.1 s.2.2 H n2 K
theorem W1 (x0 : ByteArray) (x1 : Int) {H : Hp} {K : a6 → Int → Int → Hp → Prop} (h : F7 x0 x1 H K) : F1 x0 x1 H K := by
 refine Ct.of fun w0 w ps0 H0 R E I hR => a8s ?_
 unfold F7 at h
 unfold F47
 refine s8 I Tryd.zeroValue33 (cs := [(vi 0), (Value.string ⟨#[]⟩), (vi 0), (vi 0), (vi 0)]) rfl fun j am y an => ?_
 have hj1 : ∀ (R1 : Int) (O1 : Int) (k : a6) (H : Hp) (w : World) (_ : Inv w0 ps0 H0 H [bx j 33 (b6 k)] w) (_ : y1 x0 x1 R1 O1 k H K), a3w (Value.string x0) (vi x1) (Value.pointer (some ⟨j, 0, none⟩)) (vi R1) (Value.int .u64 O1) w R E := by
  intro R1 O1 k H w I h
  unfold a3w
  intro _
  unfold y1 at h
  refine f8 Tryd.call45 h I ?_
  rintro _ q _ ao r _ _ ⟨z, aa, rfl, rfl, h⟩
  refine a7 (b8 _ _ (vi z) rfl) ?_
  refine a7 (b8 _ _ (vi aa) rfl) ?_
  obtain ⟨ab, ac, h⟩ := h
  refine a7 (E9 _ _ _ ab ac) ?_
  refine a7 (k6 _ _ _ _ _ _) ?_
  simp only [o3]
  refine a7 (Pu.g fun hb => by have c := hb; simp only [m1 c]; with_reducible exact (X9 _ _ _ _ _ _)) ?_
  refine a7 (Pu.g fun hb => by have c := hb; simp only [m1 c]; with_reducible exact (V1 _ _ _ _ _ _)) ?_
  refine a7 (s4 _ _) ?_
  simp only [o3]
  refine a7 (Pu.g fun hb => by have c := hb; simp only [m1 c]; with_reducible exact (k6 _ _ _ _ _ _)) ?_
  refine a7 (K9 _ _) ?_
  refine m0 h (fun _ h => ?_) (fun _ h => ?_)
  ·refine a7 (N5 ) ?_
   refine g8 r Tryd.sizeOf33 (vs := [(vi 0), (Value.string ⟨#[]⟩), (vi 0), (vi 0), (vi 0)]) (cs' := [(vi 0), (Value.string ⟨#[]⟩), (vi 0), (vi 0), (vi 0)]) rfl rfl (nb rfl) rfl rfl fun ap t aq => ?_
   refine o5 Tryd.isAgg33 Tryd.sizeOf33 rfl (t.at1 (o := 0) (vs := [(vi 0), (Value.string ⟨#[]⟩), (vi 0), (vi 0), (vi 0)]) (nb rfl) rfl) ?_
   exact hR _ q _ _ t.drop ⟨(a6.mk 0 ⟨#[]⟩ 0 (a8.mk 0 0)), 0, 21, rfl, rfl, h⟩
  ·obtain ⟨ad, ae, af, h⟩ := h
   refine a7 (O0 x0 Tryd.underlying9 ad ae af) ?_
   refine a7 (a4N _ _) ?_
   refine a7 (a1Q _ _ _) ?_
   refine g8 r Tryd.sizeOf33 (vs := [(vi 2), (Value.string (x0.extract (x1 : Int).toNat (R1 : Int).toNat)), (vi (IntKind.wrap .i64 O1)), (vi 0), (vi 0)]) (cs' := [(vi 2), (Value.string (x0.extract (x1 : Int).toNat (R1 : Int).toNat)), (vi (IntKind.wrap .i64 O1)), (vi 0), (vi 0)]) rfl rfl (nb rfl) rfl rfl fun ar u au => ?_
   refine o5 Tryd.isAgg33 Tryd.sizeOf33 rfl (u.at1 (o := 0) (vs := [(vi 2), (Value.string (x0.extract (x1 : Int).toNat (R1 : Int).toNat)), (vi (IntKind.wrap .i64 O1)), (vi 0), (vi 0)]) (nb rfl) rfl) ?_
   exact hR _ q _ _ u.drop ⟨(a6.mk 2 (x0.extract (x1 : Int).toNat (R1 : Int).toNat) (IntKind.wrap .i64 O1) (a8.mk 0 0)), R1, 0, rfl, rfl, h⟩
 refine r5 fun j1 hx1 => ?_
 obtain ⟨m, i, ag, ah⟩ := h
 refine u6 (J := fun n l w => ∃ (s : Int × Int × a6) (H : Hp) , n = i s ∧ l = (match s with | (g7, v8, f) => [(vi g7), (Value.int .u64 v8)]) ∧ (match s with | (g7, v8, f) => Inv w0 ps0 H0 H [bx j 33 (b6 f)] w) ∧ m s H) ⟨_, (x1, 0, (a6.mk 0 ⟨#[]⟩ 0 (a8.mk 0 0))), H, rfl, rfl, y, ag⟩ ?_
 rintro av aw w next2 ⟨⟨g7, v8, f⟩, H, rfl, p, I, ai⟩ hn2
 dsimp only at p I
 simp only [List.map_cons, List.map_nil, List.cons.injEq, and_true] at p
 obtain ⟨e7, e8⟩ := p
 simp only [e7, e8]
 obtain ⟨n2, hm2, h⟩ : ∃ n2 : (Int × Int × a6) → Hp → Prop, (∀ s' H', n2 s' H' → m s' H' ∧ i s' < i (g7, v8, f)) ∧ y2 x0 x1 g7 v8 f H n2 K := ⟨_, fun _ _ h => h, ah (g7, v8, f) H (fun s' H' => m s' H' ∧ i s' < i (g7, v8, f)) ai (fun _ _ a b => ⟨a, b⟩)⟩
 unfold a5E
 unfold y2 at h
 refine a7 (y5 _) ?_
 refine a7 (A9 _ _ _ _ _ _) ?_
 simp only [o3]
 obtain ⟨d, h⟩ := h
 refine a7 (Pu.g fun hb => by have c := hb; simp only [m1 c]; with_reducible exact (E9 _ _ _ (d hb).1 (d hb).2)) ?_
 refine a7 (Pu.g fun hb => by have c := hb; simp only [m1 c]; with_reducible exact (P9 _ _ _ _ _ _)) ?_
 refine a7 (s4 _ _) ?_
 simp only [o3]
 obtain ⟨e, h⟩ := h
 refine a7 (Pu.g fun hb => by have c := hb; simp only [m1 c]; with_reducible exact (E9 _ _ _ (e hb).1 (e hb).2)) ?_
 refine a7 (Pu.g fun hb => by have c := hb; simp only [m1 c]; with_reducible exact (a1L _ _ _ _ _ _)) ?_
 refine a7 (s4 _ _) ?_
 refine m0 h (fun _ h => ?_) (fun _ h => ?_)
 ·obtain ⟨aj, ak, h⟩ := h
  refine a7 (E9 _ _ _ aj ak) ?_
  refine a7 (X9 _ _ _ _ _ _) ?_
  refine a7 (a4M _ _) ?_
  refine a7 (X9 _ _ _ _ _ _) ?_
  obtain ⟨al, h⟩ := h
  refine a7 (a7F _ _ _ _ _ _ al) ?_
  refine a7 (V1 _ _ _ _ _ _) ?_
  refine d7 h (fun _ h => ?_) (fun _ h => ?_)
  ·refine a7 (N5 ) ?_
   refine g8 I Tryd.sizeOf33 (vs := [(vi 0), (Value.string ⟨#[]⟩), (vi 0), (vi 0), (vi 0)]) (cs' := [(vi 0), (Value.string ⟨#[]⟩), (vi 0), (vi 0), (vi 0)]) rfl rfl (nb rfl) rfl rfl fun ax v ay => ?_
   refine o5 Tryd.isAgg33 Tryd.sizeOf33 rfl (v.at1 (o := 0) (vs := [(vi 0), (Value.string ⟨#[]⟩), (vi 0), (vi 0), (vi 0)]) (nb rfl) rfl) ?_
   exact hR _ H _ _ v.drop ⟨(a6.mk 0 ⟨#[]⟩ 0 (a8.mk 0 0)), 0, 21, rfl, rfl, h⟩
  ·refine a7 (a5i _ _ _ _ _ _) ?_
   refine a7 (q6 _ _ _ _ _ _) ?_
   refine a7 (q6 _ _ _ _ _ _) ?_
   exact hn2 _ _ _ (hm2 _ _ h).2 ⟨((IntKind.wrap .i64 (g7 + 1)), (IntKind.wrap .u64 ((IntKind.wrap .u64 (10 * v8)) + (IntKind.wrap .u64 (IntKind.wrap .u8 (((x0.get! (g7 : Int).toNat).toNat : Int) - 48))))), f), H, rfl, rfl, I, (hm2 _ _ h).1⟩
 ·exact hx1 _ _ (hj1 g7 v8 f H _ I h)
def y3 (H9 : ByteArray) (I0 : Int) (F0 : a8) (D5 : (List a6)) (H : Hp) (n1 : (ByteArray × Int × a8 × (List a6)) → Hp → Prop) (K : b5 → (List a6) → Hp → Prop) : Prop :=
 u4 (b5.mk H9 I0 F0 (Sl.mk none 0 0)) D5 H (fun d e =>
 L1 d ⟨#[35]⟩ e (fun b c =>
 (b = true →
 o7 (b5.mk H9 I0 F0 (Sl.mk none 0 0)) D5 c (fun l f g i =>
 m8 (g5 f) g i (fun m a j k =>
 n1 (a.fs, a.fn, a.fat, j) k))) ∧
 (b = false →
 K (b5.mk H9 I0 F0 (Sl.mk none 0 0)) D5 c)))
def G0 (x0 : b5) (b : (List a6)) (H : Hp) (K : b5 → (List a6) → Hp → Prop) : Prop :=
 m8 (g5 x0) b H (fun e a c d =>
 TL ((a.fs, a.fn, a.fat, c) : ByteArray × Int × a8 × (List a6)) d fun (s : ByteArray × Int × a8 × (List a6)) H n1 => y3 s.1 s.2.1 s.2.2.1 s.2.2.2 H n1 K)
theorem W2 (x0 : b5) (g : (List a6)) {H : Hp} {K : b5 → (List a6) → Hp → Prop} (h : G0 x0 g H K) : B2 x0 g H K := by
 intro g0 k m o
 refine Ct.of fun w0 w ps0 H0 R E I hR => a7V ?_
 unfold G0 at h
 unfold F19
 refine f8 Tryd.call37 (h g0 k m o) ((I.bring 1).bring 1) ?_
 rintro _ p _ an q _ _ ⟨ao, d, r, t, u, rfl, rfl, v, h⟩
 obtain ⟨e, c, y, z⟩ := h
 refine u6 (J := fun n l w => ∃ (s : ByteArray × Int × a8 × (List a6)) (H : Hp) (T8 : Sl) (T9 : Frag) , n = c s ∧ l = (match s with | (H9, I0, F0, D5) => []) ∧ (match s with | (H9, I0, F0, D5) => RowL 33 5 b6 T8 D5 T9) ∧ (match s with | (H9, I0, F0, D5) => Inv w0 ps0 H0 H [bx g0 44 [(Value.string H9), (vi I0), (vi F0.m6), (vi F0.r6), (vs T8)], T9] w) ∧ e s H) ⟨_, (d.fs, d.fn, d.fat, r), p, t, u, rfl, rfl, v, ((q.bring 1).bring 1), y⟩ ?_
 rintro ap aq w next1 ⟨⟨H9, I0, F0, D5⟩, H, T8, T9, rfl, i, a0w, I, aa⟩ hn1
 dsimp only at i I a0w
 clear i
 obtain ⟨n1, hm1, h⟩ : ∃ n1 : (ByteArray × Int × a8 × (List a6)) → Hp → Prop, (∀ s' H', n1 s' H' → e s' H' ∧ c s' < c (H9, I0, F0, D5)) ∧ y3 H9 I0 F0 D5 H n1 K := ⟨_, fun _ _ h => h, z (H9, I0, F0, D5) H (fun s' H' => e s' H' ∧ c s' < c (H9, I0, F0, D5)) aa (fun _ _ a b => ⟨a, b⟩)⟩
 unfold a5q
 unfold y3 at h
 refine f8 Tryd.call39 (h g0 T8 T9 a0w) ((I.bring 1).bring 1) ?_
 rintro _ _ _ ar ab _ _ ⟨au, rfl, rfl, h⟩
 refine f8 Tryd.call38 h ab ?_
 rintro _ ac _ av j _ _ ⟨aw, rfl, rfl, h⟩
 refine m0 h (fun _ h => ?_) (fun _ h => ?_)
 ·refine f8 Tryd.call37 (h g0 T8 T9 a0w) ((j.bring 1).bring 1) ?_
  rintro _ _ _ ax ad _ _ ⟨ay, az, ba, ae, af, rfl, rfl, ag, h⟩
  refine f8 Tryd.call37 (h g0 ae af ag) ((ad.bring 1).bring 1) ?_
  rintro _ ah _ bb ai _ _ ⟨bc, f, aj, ak, al, rfl, rfl, am, h⟩
  exact hn1 _ _ _ (hm1 _ _ h).2 ⟨(f.fs, f.fn, f.fat, aj), ah, ak, al, rfl, rfl, am, ((ai.bring 1).bring 1), (hm1 _ _ h).1⟩
 ·exact hR _ ac _ _ ((j.bring 1).bring 1) ⟨(b5.mk H9 I0 F0 (Sl.mk none 0 0)), D5, T8, T9, rfl, rfl, a0w, h⟩
def l7 (L5 : Int) (i7 : ByteArray) (i8 : Int) (l9 : a8) (m3 : (List a6)) (H : Hp) (K : ByteArray → b5 → (List a6) → Hp → Prop) : Prop :=
 (0 : Int) ≤ L5 ∧ (L5 : Int) ≤ i8 ∧ (i8 : Int) ≤ i7.size ∧
 K (i7.extract (L5 : Int).toNat (i8 : Int).toNat) (b5.mk i7 i8 l9 (Sl.mk none 0 0)) m3 H
def m4 (K1 : Int) (o2 : Int) (g7 : Bool) (d9 : ByteArray) (f6 : Int) (d6 : a8) (d8 : (List a6)) (H : Hp) (n2 : (Int × Bool × ByteArray × Int × a8 × (List a6)) → Hp → Prop) (K : ByteArray → b5 → (List a6) → Hp → Prop) : Prop :=
 TG (g7 = true) (O8 o2 H) false H (fun (b : Bool) (c : Hp) =>
 ((g7 && b) = true →
 l8 (b5.mk d9 f6 d6 (Sl.mk none 0 0)) d8 c (fun a d e =>
 j9 (g5 a) d e (fun f g i =>
 n2 (f, g, a.fs, a.fn, a.fat, d) i))) ∧
 ((g7 && b) = false →
 l7 K1 d9 f6 d6 d8 c K))
def s1 (x0 : b5) (a : (List a6)) (H : Hp) (K : ByteArray → b5 → (List a6) → Hp → Prop) : Prop :=
 j9 (g5 x0) a H (fun b c d =>
 TL ((b, c, x0.fs, x0.fn, x0.fat, a) : Int × Bool × ByteArray × Int × a8 × (List a6)) d fun (s : Int × Bool × ByteArray × Int × a8 × (List a6)) H n2 => m4 x0.fn s.1 s.2.1 s.2.2.1 s.2.2.2.1 s.2.2.2.2.1 s.2.2.2.2.2 H n2 K)
theorem L8 (x0 : b5) (q : (List a6)) {H : Hp} {K : ByteArray → b5 → (List a6) → Hp → Prop} (h : s1 x0 q H K) : r9 x0 q H K := by
 intro g0 y z aa
 refine Ct.of fun w0 w ps0 H0 R E I hR => a1R ?_
 unfold s1 at h
 unfold F37
 refine a7 (q9 _) ?_
 refine a7 B1 ?_
 refine o0 (l1 Tryd.isAgg3 I rfl) ?_
 have hj1 : ∀ (i7 : ByteArray) (i8 : Int) (l9 : a8) (m3 : (List a6)) (u7 : Sl) (q5 : Frag) (H : Hp) (w : World) (_ : RowL 33 5 b6 u7 m3 q5) (_ : Inv w0 ps0 H0 H [bx g0 44 [(Value.string i7), (vi i8), (vi l9.m6), (vi l9.r6), (vs u7)], q5] w) (_ : l7 x0.fn i7 i8 l9 m3 H K), S9 (Value.pointer (some ⟨g0, 0, none⟩)) (vi x0.fn) w R E := by
  intro i7 i8 l9 m3 u7 q5 H w M8 I h
  unfold S9
  intro _
  unfold l7 at h
  refine V7 I fun ax r => ?_
  refine r4 (q9 _) ?_
  refine r4 S7 ?_
  refine r4 (q9 _) ?_
  refine r4 B1 ?_
  refine E8 (l1 Tryd.isAgg9 r rfl) ?_
  refine E8 (l1 Tryd.isAgg3 r rfl) ?_
  obtain ⟨ak, al, am, h⟩ := h
  refine r4 (O0 i7 Tryd.underlying9 ak al am) ?_
  exact hR _ H _ _ ((r.bring 1).bring 1) ⟨(i7.extract (x0.fn : Int).toNat (i8 : Int).toNat), (b5.mk i7 i8 l9 (Sl.mk none 0 0)), m3, u7, q5, rfl, rfl, M8, h⟩
 refine r5 fun j1 hx1 => ?_
 refine f8 Tryd.call20 (h g0 y z aa) ((I.bring 1).bring 1) ?_
 rintro _ an _ ay ao _ _ ⟨ab, ac, rfl, rfl, h⟩
 refine a7 (b8 _ _ (Value.int .i32 ab) rfl) ?_
 refine a7 (b8 _ _ (Value.bool ac) rfl) ?_
 obtain ⟨t, g, ap, aq⟩ := h
 refine u6 (J := fun n l w => ∃ (s : Int × Bool × ByteArray × Int × a8 × (List a6)) (H : Hp) (o6 : Sl) (m5 : Frag) , n = g s ∧ l = (match s with | (o2, g7, d9, f6, d6, d8) => [(Value.int .i32 o2), (Value.bool g7)]) ∧ (match s with | (o2, g7, d9, f6, d6, d8) => RowL 33 5 b6 o6 d8 m5) ∧ (match s with | (o2, g7, d9, f6, d6, d8) => Inv w0 ps0 H0 H [bx g0 44 [(Value.string d9), (vi f6), (vi d6.m6), (vi d6.r6), (vs o6)], m5] w) ∧ t s H) ⟨_, (ab, ac, x0.fs, x0.fn, x0.fat, q), an, y, z, rfl, rfl, aa, ((ao.bring 1).bring 1), ap⟩ ?_
 rintro az ba w next2 ⟨⟨o2, g7, d9, f6, d6, d8⟩, H, o6, m5, rfl, u, s5, I, ar⟩ hn2
 dsimp only at u I s5
 simp only [List.map_cons, List.map_nil, List.cons.injEq, and_true] at u
 obtain ⟨e6, e7⟩ := u
 simp only [e6, e7]
 obtain ⟨n2, hm2, h⟩ : ∃ n2 : (Int × Bool × ByteArray × Int × a8 × (List a6)) → Hp → Prop, (∀ s' H', n2 s' H' → t s' H' ∧ g s' < g (o2, g7, d9, f6, d6, d8)) ∧ m4 x0.fn o2 g7 d9 f6 d6 d8 H n2 K := ⟨_, fun _ _ h => h, aq (o2, g7, d9, f6, d6, d8) H (fun s' H' => t s' H' ∧ g s' < g (o2, g7, d9, f6, d6, d8)) ar (fun _ _ a b => ⟨a, b⟩)⟩
 unfold a0R
 unfold m4 at h
 simp only [o3]
 refine S6 (D := fun ad j => ∃ (f : Bool) (c : Hp) , ad = (gv g7 true (Value.bool f)) ∧ (Inv w0 ps0 H0 c [bx g0 44 [(Value.string d9), (vi f6), (vi d6.m6), (vi d6.r6), (vs o6)], m5] j) ∧ (∀ i, i < w.heap.size → ¬ inF [] i → j.heap[i]? = w.heap[i]?) ∧ Hle H c ∧ (((g7 && f) = true →
 l8 (b5.mk d9 f6 d6 (Sl.mk none 0 0)) d8 c (fun (d : b5) (k : (List a6)) (au : Hp) =>
 j9 (g5 d) k au (fun (m : Int) (o : Bool) (v : Hp) =>
 n2 (m, o, d.fs, d.fn, d.fat, k) v))) ∧
 ((g7 && f) = false →
 l7 x0.fn d9 f6 d6 d8 c K))) (fun e => ?_) (fun e => ?_) ?_
 ·replace h := h.1 e
  have ae := e
  simp only [m1 ae]
  refine f8 Tryd.call29 h I ?_
  rintro _ c _ j p af ag ⟨f, rfl, rfl, h⟩
  exact ⟨f, c, by rfl, p, ag, af, h⟩
 ·exact ⟨false, H, by rw [a0r e], I, fun _ _ _ => rfl, Hle.refl _, h.2 e⟩
 ·clear h
  rintro ad j ⟨f, c, rfl, p, ag, af, h⟩
  refine a7 (s4 _ _) ?_
  refine m0 h (fun _ h => ?_) (fun _ h => ?_)
  ·refine f8 Tryd.call56 (h g0 o6 m5 s5) ((p.bring 1).bring 1) ?_
   rintro _ _ _ bb av _ _ ⟨d, k, ah, ai, rfl, rfl, aj, h⟩
   refine f8 Tryd.call20 (h g0 ah ai aj) ((av.bring 1).bring 1) ?_
   rintro _ v _ bc aw _ _ ⟨m, o, rfl, rfl, h⟩
   refine a7 (b8 _ _ (Value.int .i32 m) rfl) ?_
   refine a7 (b8 _ _ (Value.bool o) rfl) ?_
   exact hn2 _ _ _ (hm2 _ _ h).2 ⟨(m, o, d.fs, d.fn, d.fat, k), v, ah, ai, rfl, rfl, aj, ((aw.bring 1).bring 1), (hm2 _ _ h).1⟩
  ·exact hx1 _ _ (hj1 d9 f6 d6 d8 o6 m5 c _ s5 ((p.bring 1).bring 1) h)
def z8 (f : a6) (i7 : ByteArray) (i8 : Int) (l9 : a8) (m3 : (List a6)) (H : Hp) (K : a6 → Int → b5 → (List a6) → Hp → Prop) : Prop :=
 u4 (b5.mk i7 i8 l9 (Sl.mk none 0 0)) m3 H (fun a e =>
 (0 : Int) ≤ 1 ∧ (1 : Int) ≤ a.size ∧
 l8 (b5.mk i7 i8 l9 (Sl.mk none 0 0)) m3 e (fun b c d =>
 (((decide ((a.extract 0 (1 : Int).toNat) = ⟨#[38]⟩)) || (decide ((a.extract 0 (1 : Int).toNat) = ⟨#[124]⟩))) = true →
 K (a6.mk 0 ⟨#[]⟩ 0 (a8.mk 0 0)) 20 (g5 b) c d) ∧
 (((decide ((a.extract 0 (1 : Int).toNat) = ⟨#[38]⟩)) || (decide ((a.extract 0 (1 : Int).toNat) = ⟨#[124]⟩))) = false →
 K (a6.mk 4 (a.extract 0 (1 : Int).toNat) 0 (a8.mk 0 0)) 0 (g5 b) c d)))
def A0 (g7 : u0) (v8 : Int) (a : a6) (d9 : ByteArray) (f6 : Int) (d6 : a8) (d8 : (List a6)) (H : Hp) (n2 : (Int × a6 × ByteArray × Int × a8 × (List a6)) → Hp → Prop) (K : a6 → Int → b5 → (List a6) → Hp → Prop) : Prop :=
 (v8 < 6 →
 (0 : Int) ≤ v8 ∧ (v8 : Int) < 6 ∧
 u4 (b5.mk d9 f6 d6 (Sl.mk none 0 0)) d8 H (fun d e =>
 L1 d (([g7.f0, g7.f1, g7.f2, g7.f3, g7.f4, g7.f5] : List ByteArray).getD (v8 : Int).toNat ⟨#[]⟩) e (fun b c =>
 (b = true →
 l8 (b5.mk d9 f6 d6 (Sl.mk none 0 0)) d8 c (fun f g i =>
 l8 (g5 f) g i (fun j k l =>
 K (a6.mk 4 (([g7.f0, g7.f1, g7.f2, g7.f3, g7.f4, g7.f5] : List ByteArray).getD (v8 : Int).toNat ⟨#[]⟩) 0 (a8.mk 0 0)) 0 (g5 j) k l))) ∧
 (b = false →
 n2 ((IntKind.wrap .i64 (v8 + 1)), a, d9, f6, d6, d8) c)))) ∧
 (¬ (v8 < 6) →
 z8 a d9 f6 d6 d8 H K)
def K3 (x0 : b5) (a : (List a6)) (H : Hp) (K : a6 → Int → b5 → (List a6) → Hp → Prop) : Prop :=
 TL ((0, (a6.mk 0 ⟨#[]⟩ 0 (a8.mk 0 0)), x0.fs, x0.fn, x0.fat, a) : Int × a6 × ByteArray × Int × a8 × (List a6)) H fun (s : Int × a6 × ByteArray × Int × a8 × (List a6)) H n2 => A0 (u0.mk ⟨#[61, 61]⟩ ⟨#[33, 61]⟩ ⟨#[60, 61]⟩ ⟨#[62, 61]⟩ ⟨#[38, 38]⟩ ⟨#[124, 124]⟩) s.1 s.2.1 s.2.2.1 s.2.2.2.1 s.2.2.2.2.1 s.2.2.2.2.2 H n2 K
theorem Y8 (x0 : b5) (j : (List a6)) {H : Hp} {K : a6 → Int → b5 → (List a6) → Hp → Prop} (h : K3 x0 j H K) : Q1 x0 j H K := by
 intro g0 e af ag
 refine Ct.of fun w0 w ps0 H0 R E I hR => a8o ?_
 unfold K3 at h
 unfold F43
 refine s8 I Tryd.zeroValue33 (cs := [(vi 0), (Value.string ⟨#[]⟩), (vi 0), (vi 0), (vi 0)]) rfl fun k bf ah bg => ?_
 have hj1 : ∀ (m : a6) (i7 : ByteArray) (i8 : Int) (l9 : a8) (m3 : (List a6)) (q5 : Frag) (H : Hp) (w : World) (_ : RowL 33 5 b6 e m3 q5) (_ : Inv w0 ps0 H0 H [bx k 33 (b6 m), bx g0 44 [(Value.string i7), (vi i8), (vi l9.m6), (vi l9.r6), (vs e)], q5] w) (_ : z8 m i7 i8 l9 m3 H K), a3v (Value.pointer (some ⟨g0, 0, none⟩)) (Value.pointer (some ⟨k, 0, none⟩)) w R E := by
  intro m i7 i8 l9 m3 q5 H w M8 I h
  unfold a3v
  intro _
  unfold z8 at h
  refine f8 Tryd.call39 (h g0 e q5 M8) ((I.bring 2).bring 2) ?_
  rintro _ _ _ bh ai _ _ ⟨f, rfl, rfl, h⟩
  obtain ⟨aj, ak, h⟩ := h
  refine a7 (a4i f Tryd.underlying9 aj ak) ?_
  refine f8 Tryd.call56 (h g0 e q5 M8) ((ai.bring 1).bring 1) ?_
  rintro _ r _ bi t _ _ ⟨u, v, y, z, rfl, rfl, aa, h⟩
  refine a7 (q7 _ _ _ _ _) ?_
  simp only [o3]
  refine a7 (Pu.g fun hb => by have c := hb; simp only [m1 c]; with_reducible exact (q7 _ _ _ _ _)) ?_
  refine a7 (K9 _ _) ?_
  refine m0 h (fun _ h => ?_) (fun _ h => ?_)
  ·refine a7 (N5 ) ?_
   refine g8 (t.bring 2) Tryd.sizeOf33 (vs := [(vi 0), (Value.string ⟨#[]⟩), (vi 0), (vi 0), (vi 0)]) (cs' := [(vi 0), (Value.string ⟨#[]⟩), (vi 0), (vi 0), (vi 0)]) rfl rfl (nb rfl) rfl rfl fun bj ab bk => ?_
   refine o5 Tryd.isAgg33 Tryd.sizeOf33 rfl (ab.at1 (o := 0) (vs := [(vi 0), (Value.string ⟨#[]⟩), (vi 0), (vi 0), (vi 0)]) (nb rfl) rfl) ?_
   exact hR _ r _ _ ((ab.drop.bring 1).bring 1) ⟨(a6.mk 0 ⟨#[]⟩ 0 (a8.mk 0 0)), 20, (g5 u), v, y, z, rfl, rfl, aa, h⟩
  ·refine a7 (C3 _ _) ?_
   refine g8 (t.bring 2) Tryd.sizeOf33 (vs := [(vi 4), (Value.string (f.extract 0 (1 : Int).toNat)), (vi 0), (vi 0), (vi 0)]) (cs' := [(vi 4), (Value.string (f.extract 0 (1 : Int).toNat)), (vi 0), (vi 0), (vi 0)]) rfl rfl (nb rfl) rfl rfl fun bl ac bm => ?_
   refine o5 Tryd.isAgg33 Tryd.sizeOf33 rfl (ac.at1 (o := 0) (vs := [(vi 4), (Value.string (f.extract 0 (1 : Int).toNat)), (vi 0), (vi 0), (vi 0)]) (nb rfl) rfl) ?_
   exact hR _ r _ _ ((ac.drop.bring 1).bring 1) ⟨(a6.mk 4 (f.extract 0 (1 : Int).toNat) 0 (a8.mk 0 0)), 0, (g5 u), v, y, z, rfl, rfl, aa, h⟩
 refine r5 fun j1 hx1 => ?_
 refine a7 (a0g _ _ _ _ _ _) ?_
 obtain ⟨p, i, al, am⟩ := h
 refine u6 (J := fun n l w => ∃ (s : Int × a6 × ByteArray × Int × a8 × (List a6)) (H : Hp) (m5 : Frag) , n = i s ∧ l = (match s with | (v8, d, d9, f6, d6, d8) => [(vi v8)]) ∧ (match s with | (v8, d, d9, f6, d6, d8) => RowL 33 5 b6 e d8 m5) ∧ (match s with | (v8, d, d9, f6, d6, d8) => Inv w0 ps0 H0 H [bx k 33 (b6 d), bx g0 44 [(Value.string d9), (vi f6), (vi d6.m6), (vi d6.r6), (vs e)], m5] w) ∧ p s H) ⟨_, (0, (a6.mk 0 ⟨#[]⟩ 0 (a8.mk 0 0)), x0.fs, x0.fn, x0.fat, j), H, af, rfl, rfl, ag, (((ah.bring 2).bring 2).bring 2), al⟩ ?_
 rintro bn bo w next2 ⟨⟨v8, d, d9, f6, d6, d8⟩, H, m5, rfl, q, s5, I, an⟩ hn2
 dsimp only at q I s5
 simp only [List.map_cons, List.map_nil, List.cons.injEq, and_true] at q
 have e8 := q
 simp only [e8]
 obtain ⟨n2, hm2, h⟩ : ∃ n2 : (Int × a6 × ByteArray × Int × a8 × (List a6)) → Hp → Prop, (∀ s' H', n2 s' H' → p s' H' ∧ i s' < i (v8, d, d9, f6, d6, d8)) ∧ A0 (u0.mk ⟨#[61, 61]⟩ ⟨#[33, 61]⟩ ⟨#[60, 61]⟩ ⟨#[62, 61]⟩ ⟨#[38, 38]⟩ ⟨#[124, 124]⟩) v8 d d9 f6 d6 d8 H n2 K := ⟨_, fun _ _ h => h, am (v8, d, d9, f6, d6, d8) H (fun s' H' => p s' H' ∧ i s' < i (v8, d, d9, f6, d6, d8)) an (fun _ _ a b => ⟨a, b⟩)⟩
 unfold a5C
 unfold A0 at h
 refine a7 (A9 _ _ _ _ _ _) ?_
 refine d7 h (fun _ h => ?_) (fun _ h => ?_)
 ·obtain ⟨ao, ap, h⟩ := h
  refine a7 (a5m _ _ _ _ _ _ _ _ ao ap) ?_
  refine f8 Tryd.call39 (h g0 e m5 s5) ((I.bring 2).bring 2) ?_
  rintro _ _ _ bp aq _ _ ⟨bq, rfl, rfl, h⟩
  refine f8 Tryd.call38 h aq ?_
  rintro _ ar _ br ad _ _ ⟨bs, rfl, rfl, h⟩
  refine m0 h (fun _ h => ?_) (fun _ h => ?_)
  ·refine f8 Tryd.call56 (h g0 e m5 s5) ((ad.bring 1).bring 1) ?_
   rintro _ _ _ bt au _ _ ⟨bu, bv, av, aw, rfl, rfl, ax, h⟩
   refine f8 Tryd.call56 (h g0 av aw ax) ((au.bring 1).bring 1) ?_
   rintro _ ay _ bw az _ _ ⟨ba, bb, bc, bd, rfl, rfl, be, h⟩
   refine a7 (C3 _ _) ?_
   refine g8 (az.bring 2) Tryd.sizeOf33 (vs := [(vi 4), (Value.string (([(u0.mk ⟨#[61, 61]⟩ ⟨#[33, 61]⟩ ⟨#[60, 61]⟩ ⟨#[62, 61]⟩ ⟨#[38, 38]⟩ ⟨#[124, 124]⟩).f0, (u0.mk ⟨#[61, 61]⟩ ⟨#[33, 61]⟩ ⟨#[60, 61]⟩ ⟨#[62, 61]⟩ ⟨#[38, 38]⟩ ⟨#[124, 124]⟩).f1, (u0.mk ⟨#[61, 61]⟩ ⟨#[33, 61]⟩ ⟨#[60, 61]⟩ ⟨#[62, 61]⟩ ⟨#[38, 38]⟩ ⟨#[124, 124]⟩).f2, (u0.mk ⟨#[61, 61]⟩ ⟨#[33, 61]⟩ ⟨#[60, 61]⟩ ⟨#[62, 61]⟩ ⟨#[38, 38]⟩ ⟨#[124, 124]⟩).f3, (u0.mk ⟨#[61, 61]⟩ ⟨#[33, 61]⟩ ⟨#[60, 61]⟩ ⟨#[62, 61]⟩ ⟨#[38, 38]⟩ ⟨#[124, 124]⟩).f4, (u0.mk ⟨#[61, 61]⟩ ⟨#[33, 61]⟩ ⟨#[60, 61]⟩ ⟨#[62, 61]⟩ ⟨#[38, 38]⟩ ⟨#[124, 124]⟩).f5] : List ByteArray).getD (v8 : Int).toNat ⟨#[]⟩)), (vi 0), (vi 0), (vi 0)]) (cs' := [(vi 4), (Value.string (([(u0.mk ⟨#[61, 61]⟩ ⟨#[33, 61]⟩ ⟨#[60, 61]⟩ ⟨#[62, 61]⟩ ⟨#[38, 38]⟩ ⟨#[124, 124]⟩).f0, (u0.mk ⟨#[61, 61]⟩ ⟨#[33, 61]⟩ ⟨#[60, 61]⟩ ⟨#[62, 61]⟩ ⟨#[38, 38]⟩ ⟨#[124, 124]⟩).f1, (u0.mk ⟨#[61, 61]⟩ ⟨#[33, 61]⟩ ⟨#[60, 61]⟩ ⟨#[62, 61]⟩ ⟨#[38, 38]⟩ ⟨#[124, 124]⟩).f2, (u0.mk ⟨#[61, 61]⟩ ⟨#[33, 61]⟩ ⟨#[60, 61]⟩ ⟨#[62, 61]⟩ ⟨#[38, 38]⟩ ⟨#[124, 124]⟩).f3, (u0.mk ⟨#[61, 61]⟩ ⟨#[33, 61]⟩ ⟨#[60, 61]⟩ ⟨#[62, 61]⟩ ⟨#[38, 38]⟩ ⟨#[124, 124]⟩).f4, (u0.mk ⟨#[61, 61]⟩ ⟨#[33, 61]⟩ ⟨#[60, 61]⟩ ⟨#[62, 61]⟩ ⟨#[38, 38]⟩ ⟨#[124, 124]⟩).f5] : List ByteArray).getD (v8 : Int).toNat ⟨#[]⟩)), (vi 0), (vi 0), (vi 0)]) rfl rfl (nb rfl) rfl rfl fun bz ae ca => ?_
   refine o5 Tryd.isAgg33 Tryd.sizeOf33 rfl (ae.at1 (o := 0) (vs := [(vi 4), (Value.string (([(u0.mk ⟨#[61, 61]⟩ ⟨#[33, 61]⟩ ⟨#[60, 61]⟩ ⟨#[62, 61]⟩ ⟨#[38, 38]⟩ ⟨#[124, 124]⟩).f0, (u0.mk ⟨#[61, 61]⟩ ⟨#[33, 61]⟩ ⟨#[60, 61]⟩ ⟨#[62, 61]⟩ ⟨#[38, 38]⟩ ⟨#[124, 124]⟩).f1, (u0.mk ⟨#[61, 61]⟩ ⟨#[33, 61]⟩ ⟨#[60, 61]⟩ ⟨#[62, 61]⟩ ⟨#[38, 38]⟩ ⟨#[124, 124]⟩).f2, (u0.mk ⟨#[61, 61]⟩ ⟨#[33, 61]⟩ ⟨#[60, 61]⟩ ⟨#[62, 61]⟩ ⟨#[38, 38]⟩ ⟨#[124, 124]⟩).f3, (u0.mk ⟨#[61, 61]⟩ ⟨#[33, 61]⟩ ⟨#[60, 61]⟩ ⟨#[62, 61]⟩ ⟨#[38, 38]⟩ ⟨#[124, 124]⟩).f4, (u0.mk ⟨#[61, 61]⟩ ⟨#[33, 61]⟩ ⟨#[60, 61]⟩ ⟨#[62, 61]⟩ ⟨#[38, 38]⟩ ⟨#[124, 124]⟩).f5] : List ByteArray).getD (v8 : Int).toNat ⟨#[]⟩)), (vi 0), (vi 0), (vi 0)]) (nb rfl) rfl) ?_
   exact hR _ ay _ _ ((ae.drop.bring 1).bring 1) ⟨(a6.mk 4 (([(u0.mk ⟨#[61, 61]⟩ ⟨#[33, 61]⟩ ⟨#[60, 61]⟩ ⟨#[62, 61]⟩ ⟨#[38, 38]⟩ ⟨#[124, 124]⟩).f0, (u0.mk ⟨#[61, 61]⟩ ⟨#[33, 61]⟩ ⟨#[60, 61]⟩ ⟨#[62, 61]⟩ ⟨#[38, 38]⟩ ⟨#[124, 124]⟩).f1, (u0.mk ⟨#[61, 61]⟩ ⟨#[33, 61]⟩ ⟨#[60, 61]⟩ ⟨#[62, 61]⟩ ⟨#[38, 38]⟩ ⟨#[124, 124]⟩).f2, (u0.mk ⟨#[61, 61]⟩ ⟨#[33, 61]⟩ ⟨#[60, 61]⟩ ⟨#[62, 61]⟩ ⟨#[38, 38]⟩ ⟨#[124, 124]⟩).f3, (u0.mk ⟨#[61, 61]⟩ ⟨#[33, 61]⟩ ⟨#[60, 61]⟩ ⟨#[62, 61]⟩ ⟨#[38, 38]⟩ ⟨#[124, 124]⟩).f4, (u0.mk ⟨#[61, 61]⟩ ⟨#[33, 61]⟩ ⟨#[60, 61]⟩ ⟨#[62, 61]⟩ ⟨#[38, 38]⟩ ⟨#[124, 124]⟩).f5] : List ByteArray).getD (v8 : Int).toNat ⟨#[]⟩) 0 (a8.mk 0 0)), 0, (g5 ba), bb, bc, bd, rfl, rfl, be, h⟩
  ·refine a7 (q6 _ _ _ _ _ _) ?_
   exact hn2 _ _ _ (hm2 _ _ h).2 ⟨((IntKind.wrap .i64 (v8 + 1)), d, d9, f6, d6, d8), ar, m5, rfl, rfl, s5, (((ad.bring 1).bring 1).bring 2), (hm2 _ _ h).1⟩
 ·exact hx1 _ _ (hj1 d d9 f6 d6 d8 m5 H _ s5 (((I.bring 2).bring 2).bring 2) h)
end Go.Proofs.YthklmeihgmcljaaDoor
