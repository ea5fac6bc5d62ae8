/- Typed formulas of the program's functions, and the theorems that the contracts follow from them; printed by lift.py off the code. -/
import Derived.Test.YtnhkdkcgdcgmdaaGreatDoorzXV1
namespace Go.Proofs.YtnhkdkcgdcgmdaaGreatDoor
open Go.RowKit
set_option maxRecDepth 100000
set_option maxHeartbeats 2000000
def a8u (x0 : Int) (x1 : Int) (x2 : Int) (H : Hp) (K : Bool → Hp → Prop) : Prop :=
 K ((decide (x0 ≤ x2)) && (decide (x2 ≤ x1))) H
theorem b2N (x0 x1 x2) {H K} (h : a8u x0 x1 x2 H K) : O4 x0 x1 x2 H K := by
 intro g2
 refine Ct.of fun w0 w ps0 H0 R E I hR => c8A ?_
 unfold a8u at h
 unfold d1B
 refine b6 (l1 Tryz.isAgg21 I rfl) (a8 pLe ?_)
 refine b6 (Ld.g fun a => by exact (l1 Tryz.isAgg21 I rfl)) ?_
 simp only [t8]
 refine a8 (Pu.g fun a => by simp only [g7 a]; exact pLe) ?_
 refine a8 (v7 _ _) ?_
 exact hR _ H _ _ I ⟨((decide (x0 ≤ x2)) && (decide (x2 ≤ x1))), rfl, rfl, h⟩
def Y6 (H : Hp) (K : Int → Hp → Prop) : Prop :=
 K (-1) H
def Y7 (a4d : (List ByteArray)) (a5y : ByteArray) (a1W : Int) (a3I : Int) (H : Hp) (n2 : Int → Hp → Prop) (K : Int → Hp → Prop) : Prop :=
 (a3I < a1W →
 (0 : Int) ≤ a3I ∧ ∃ a : ByteArray, (a4d)[(a3I : Int).toNat]? = some a ∧
 (a5y = a →
 K a3I H) ∧
 (¬ (a5y = a) →
 n2 (IntKind.wrap .i64 (a3I + 1)) H)) ∧
 (¬ (a3I < a1W) →
 Y6 H K)
def a3g (x0 : (List ByteArray)) (x1 : ByteArray) (H : Hp) (K : Int → Hp → Prop) : Prop :=
 TL (0 : Int) H fun (s : Int) H n2 => Y7 x0 x1 (x0.length : Int) s H n2 K
theorem a9r (x0 x1) {H K} (h : a3g x0 x1 H K) : a3b x0 x1 H K := by
 intro sx0 Fx0 hx0
 refine Ct.of fun w0 w ps0 H0 R E I hR => c8y ?_
 unfold a3g at h
 unfold d1z
 have hj1 : ∀ H w (_ : Inv w0 ps0 H0 H [Fx0] w) (_ : Y6 H K), b7s w R E := by
  intro H w I h
  unfold b7s
  intro _
  unfold Y6 at h
  exact hR _ H _ _ I ⟨(-1), rfl, rfl, h⟩
 refine r5 fun j1 hx1 => ?_
 refine a8 (a6Y Tryz.underlying88 hx0) ?_
 obtain ⟨d, c, j, k⟩ := h
 refine y7 (J := fun n l w => ∃ (s : Int) (H : Hp) , n = c s ∧ l = [(vi s)] ∧ Inv w0 ps0 H0 H [Fx0] w ∧ d s H) ⟨_, 0, H, rfl, rfl, I, j⟩ ?_
 rintro p q w next2 ⟨a3I, H, rfl, f, I, m⟩ hn2
 simp only [List.map_cons, List.map_nil, List.cons.injEq, and_true] at f
 have e8 := f
 simp only [e8]
 obtain ⟨n2, hm2, h⟩ : ∃ n2 : Int → Hp → Prop, (∀ s' H', n2 s' H' → d s' H' ∧ c s' < c a3I) ∧ Y7 x0 x1 (x0.length : Int) a3I H n2 K := ⟨_, fun _ _ h => h, k a3I H (fun s' H' => d s' H' ∧ c s' < c a3I) m (fun _ _ a b => ⟨a, b⟩)⟩
 unfold c2p
 unfold Y7 at h
 refine a8 pLs ?_
 refine f6 h (fun _ h => ?_) (fun _ h => ?_)
 ·obtain ⟨g, o, e, h⟩ := h
  obtain ⟨r, t, i, u⟩ := hx0.addr e
  refine a8 (b9Q i _ _ _ _ g (hx0.lt g e)) (b6 (ld1 (v := (Value.string o)) Tryz.isAgg9 (hx0.atW I i e)) (a8 (Q3 _ _ _ _ _) ?_))
  refine f6 h (fun _ h => ?_) (fun _ h => ?_)
  ·exact hR _ H _ _ I ⟨a3I, rfl, rfl, h⟩
  ·refine a8 pAd ?_
   exact hn2 _ _ _ (hm2 _ _ h).2 ⟨(IntKind.wrap .i64 (a3I + 1)), H, rfl, rfl, I, (hm2 _ _ h).1⟩
 ·exact hx1 _ _ (hj1 H _ I h)
def a2m (x0 : (List ByteArray)) (x1 : ByteArray) (H : Hp) (K : Bool → Hp → Prop) : Prop :=
 a3b x0 x1 H (fun a b =>
 K (decide (0 ≤ a)) b)
theorem a8F (x0 x1) {H K} (h : a2m x0 x1 H K) : Q9 x0 x1 H K := by
 intro sx0 Fx0 hx0
 refine Ct.of fun w0 w ps0 H0 R E I hR => c8t ?_
 unfold a2m at h
 unfold d1u
 refine i6 Tryz.call167 (h sx0 Fx0 hx0) I ?_
 rintro _ a _ d b _ _ ⟨c, rfl, rfl, h⟩
 refine a8 pGe ?_
 exact hR _ a _ _ b ⟨(decide (0 ≤ c)), rfl, rfl, h⟩
def B8 (T0 : Int) (T1 : Int) (T2 : Int) (T3 : Bool) (b0H : Bool) (a9s : (List ByteArray)) (H : Hp) (K : Bool → p8 → (List ByteArray) → Hp → Prop) : Prop :=
 K true (p8.mk T0 T1 T2 T3 b0H (Sl.mk none 0 0)) a9s H
def a3K (x0 : p8) (a : (List ByteArray)) (x1 : f7) (x2 : Int) (H : Hp) (K : Bool → p8 → (List ByteArray) → Hp → Prop) : Prop :=
 (4096 < (IntKind.wrap .i64 (x0.fnodes + 1)) →
 K false (p8.mk (IntKind.wrap .i64 (x0.fnodes + 1)) x0.fdepth 33 x0.fform x0.fnamed (Sl.mk none 0 0)) a H) ∧
 (¬ (4096 < (IntKind.wrap .i64 (x0.fnodes + 1))) →
 (64 < x2 →
 K false (p8.mk (IntKind.wrap .i64 (x0.fnodes + 1)) x0.fdepth 32 x0.fform x0.fnamed (Sl.mk none 0 0)) a H) ∧
 (¬ (64 < x2) →
 TG (x0.fform = false) (a6b x1 H) false H (fun (c : Bool) (j : Hp) =>
 a3x x1 j (fun b e d =>
 (e = true →
 TG (x0.fnamed = false) (a5F b d) false d (fun (f : Bool) (k : Hp) =>
 Q9 a b k (fun g i =>
 ((!g) = true →
 (a.length + ([b] : List ByteArray).length) * 17 ≤ 140737488355328 ∧
 B8 (IntKind.wrap .i64 (x0.fnodes + 1)) (if x2 > x0.fdepth then x2 else x0.fdepth) x0.fe (x0.fform || (!c)) (x0.fnamed || (!f)) (a ++ [b]) i K) ∧
 ((!g) = false →
 B8 (IntKind.wrap .i64 (x0.fnodes + 1)) (if x2 > x0.fdepth then x2 else x0.fdepth) x0.fe (x0.fform || (!c)) (x0.fnamed || (!f)) a i K)))) ∧
 (e = false →
 B8 (IntKind.wrap .i64 (x0.fnodes + 1)) (if x2 > x0.fdepth then x2 else x0.fdepth) x0.fe (x0.fform || (!c)) x0.fnamed a d K)))))
theorem b0a (x0 b x1 x2) {H K} (h : a3K x0 b x1 x2 H K) : a3F x0 b x1 x2 H K := by
 intro g0 f n q
 refine Ct.of fun w0 w ps0 H0 R E I hR => c8n ?_
 unfold a3K at h
 unfold d1o
 refine a8 (m3 _) (a8 b2p (b6 (l1 Tryz.isAgg3 I rfl) (a8 pAd (a8 (m3 _) ?_))))
 refine a8 b2p ?_
 refine o4 I Tryz.sizeOf3 (vs := [(vi (IntKind.wrap .i64 (x0.fnodes + 1)))]) (cs' := [(vi (IntKind.wrap .i64 (x0.fnodes + 1))), (vi x0.fdepth), (vi x0.fe), (vB x0.fform), (vB x0.fnamed), (vs f)]) rfl rfl (nb rfl) rfl rfl fun bd v be => ?_
 refine a8 (m3 _) (a8 b2p (b6 (l1 Tryz.isAgg3 v rfl) (a8 pGt ?_)))
 refine f6 h (fun _ h => ?_) (fun _ h => ?_)
 ·refine a8 (m3 _) (a8 a7P ?_)
  refine o4 v Tryz.sizeOf27 (vs := [(vi 33)]) (cs' := [(vi (IntKind.wrap .i64 (x0.fnodes + 1))), (vi x0.fdepth), (vi 33), (vB x0.fform), (vB x0.fnamed), (vs f)]) rfl rfl (nb rfl) rfl rfl fun bf au bg => ?_
  exact hR _ H _ _ ((au.bring 1).bring 1) ⟨false, (p8.mk (IntKind.wrap .i64 (x0.fnodes + 1)) x0.fdepth 33 x0.fform x0.fnamed (Sl.mk none 0 0)), b, f, n, rfl, rfl, q, h⟩
 ·refine a8 pGt ?_
  refine f6 h (fun _ h => ?_) (fun _ h => ?_)
  ·refine a8 (m3 _) (a8 a7P ?_)
   refine o4 v Tryz.sizeOf27 (vs := [(vi 32)]) (cs' := [(vi (IntKind.wrap .i64 (x0.fnodes + 1))), (vi x0.fdepth), (vi 32), (vB x0.fform), (vB x0.fnamed), (vs f)]) rfl rfl (nb rfl) rfl rfl fun bh av bi => ?_
   exact hR _ H _ _ ((av.bring 1).bring 1) ⟨false, (p8.mk (IntKind.wrap .i64 (x0.fnodes + 1)) x0.fdepth 32 x0.fform x0.fnamed (Sl.mk none 0 0)), b, f, n, rfl, rfl, q, h⟩
  ·refine a8 (m3 _) (a8 b5t (b6 (l1 Tryz.isAgg3 v rfl) (a8 (c4t _ _ _ _ _) (a8 (m3 _) ?_))))
   refine a8 b5t ?_
   refine o4 v Tryz.sizeOf3 (vs := [(vi (if x2 > x0.fdepth then x2 else x0.fdepth))]) (cs' := [(vi (IntKind.wrap .i64 (x0.fnodes + 1))), (vi (if x2 > x0.fdepth then x2 else x0.fdepth)), (vi x0.fe), (vB x0.fform), (vB x0.fnamed), (vs f)]) rfl rfl (nb rfl) rfl rfl fun ai ac bj => ?_
   refine a8 (m3 _) (a8 b2q (b6 (l1 Tryz.isAgg4 ac rfl) ?_))
   simp only [t8]
   refine a0i (D := fun aj y => ∃ (d : Bool) (r : Hp), aj = (gv x0.fform false (vB d)) ∧ (Inv w0 ps0 H0 r [bx g0 101 [(vi (IntKind.wrap .i64 (x0.fnodes + 1))), (vi (if x2 > x0.fdepth then x2 else x0.fdepth)), (vi x0.fe), (vB x0.fform), (vB x0.fnamed), (vs f)], n] y) ∧ (∀ i, i < ai.heap.size → ¬ inF [] i → y.heap[i]? = ai.heap[i]?) ∧ Hle H r ∧ (a3x x1 r (fun (k : ByteArray) (z : Bool) (o : Hp) =>
 (z = true →
 TG (x0.fnamed = false) (a5F k o) false o (fun (j : Bool) (l : Hp) =>
 Q9 b k l (fun (t : Bool) (m : Hp) =>
 ((!t) = true →
 (b.length + ([k] : List ByteArray).length) * 17 ≤ 140737488355328 ∧
 B8 (IntKind.wrap .i64 (x0.fnodes + 1)) (if x2 > x0.fdepth then x2 else x0.fdepth) x0.fe (x0.fform || (!d)) (x0.fnamed || (!j)) (b ++ [k]) m K) ∧
 ((!t) = false →
 B8 (IntKind.wrap .i64 (x0.fnodes + 1)) (if x2 > x0.fdepth then x2 else x0.fdepth) x0.fe (x0.fform || (!d)) (x0.fnamed || (!j)) b m K)))) ∧
 (z = false →
 B8 (IntKind.wrap .i64 (x0.fnodes + 1)) (if x2 > x0.fdepth then x2 else x0.fdepth) x0.fe (x0.fform || (!d)) x0.fnamed b o K)))) (fun u => ?_) (fun u => ?_) ?_
   ·replace h := h.1 u
    have a := u
    simp only [g7 a]
    refine b2M ac h (fun d r y ad ak al h => ?_)
    exact ⟨d, r, by rfl, ad, al, ak, h⟩
   ·exact ⟨false, H, by rw [a3E u], ac, fun _ _ _ => rfl, Hle.refl _, h.2 u⟩
   ·clear h
    rintro aj y ⟨d, r, rfl, ad, al, ak, h⟩
    refine a8 (Pu.g fun a => by simp only [g7 a]; exact (G3 _)) ?_
    refine a8 (E8 _ _) (a8 (m3 _) (a8 b2q ?_))
    refine o4 ad Tryz.sizeOf4 (vs := [(vB (x0.fform || (!d)))]) (cs' := [(vi (IntKind.wrap .i64 (x0.fnodes + 1))), (vi (if x2 > x0.fdepth then x2 else x0.fdepth)), (vi x0.fe), (vB (x0.fform || (!d))), (vB x0.fnamed), (vs f)]) rfl rfl (nb rfl) rfl rfl fun bk aw bl => ?_
    have hj1 : ∀ (T0 : Int) (T1 : Int) (T2 : Int) (T3 : Bool) (b0H : Bool) (a9s : (List ByteArray)) (b3w : Sl) (b3x : Frag) H w (_ : RowL 9 1 C5 b3w a9s b3x) (_ : Inv w0 ps0 H0 H [bx g0 101 [(vi T0), (vi T1), (vi T2), (vB T3), (vB b0H), (vs b3w)], b3x] w) (_ : B8 T0 T1 T2 T3 b0H a9s H K), b7j w R E := by
     intro T0 T1 T2 T3 b0H a9s b3w b3x H w c6t I h
     unfold b7j
     intro _
     unfold B8 at h
     exact hR _ H _ _ ((I.bring 1).bring 1) ⟨true, (p8.mk T0 T1 T2 T3 b0H (Sl.mk none 0 0)), a9s, b3w, b3x, rfl, rfl, c6t, h⟩
    refine r5 fun j1 hx1 => ?_
    refine i6 Tryz.call143 h aw ?_
    rintro _ o _ am aa _ _ ⟨k, z, rfl, rfl, h⟩
    refine a8 (m8 _ _ (Value.string k) rfl) (a8 (m8 _ _ (vB z) rfl) ?_)
    refine V3 (fun ae => ?_) (fun ae => ?_)
    ·replace h := h.1 ae
     refine a8 (m3 _) (a8 b2r (b6 (l1 Tryz.isAgg4 aa rfl) ?_))
     simp only [t8]
     refine a0i (D := fun an ab => ∃ (j : Bool) (l : Hp) , an = (gv x0.fnamed false (vB j)) ∧ (Inv w0 ps0 H0 l [bx g0 101 [(vi (IntKind.wrap .i64 (x0.fnodes + 1))), (vi (if x2 > x0.fdepth then x2 else x0.fdepth)), (vi x0.fe), (vB (x0.fform || (!d))), (vB x0.fnamed), (vs f)], n] ab) ∧ (∀ i, i < am.heap.size → ¬ inF [] i → ab.heap[i]? = am.heap[i]?) ∧ Hle o l ∧ (Q9 b k l (fun (t : Bool) (m : Hp) =>
 ((!t) = true →
 (b.length + ([k] : List ByteArray).length) * 17 ≤ 140737488355328 ∧
 B8 (IntKind.wrap .i64 (x0.fnodes + 1)) (if x2 > x0.fdepth then x2 else x0.fdepth) x0.fe (x0.fform || (!d)) (x0.fnamed || (!j)) (b ++ [k]) m K) ∧
 ((!t) = false →
 B8 (IntKind.wrap .i64 (x0.fnodes + 1)) (if x2 > x0.fdepth then x2 else x0.fdepth) x0.fe (x0.fform || (!d)) (x0.fnamed || (!j)) b m K)))) (fun p => ?_) (fun p => ?_) ?_
     ·replace h := h.1 p
      have a := p
      simp only [g7 a]
      refine i6 Tryz.call144 h aa ?_
      rintro _ l _ ab af ao ap ⟨j, rfl, rfl, h⟩
      exact ⟨j, l, by rfl, af, ap, ao, h⟩
     ·exact ⟨false, o, by rw [a3E p], aa, fun _ _ _ => rfl, Hle.refl _, h.2 p⟩
     ·clear h
      rintro an ab ⟨j, l, rfl, af, ap, ao, h⟩
      refine a8 (Pu.g fun a => by simp only [g7 a]; exact (G3 _)) ?_
      refine a8 (E8 _ _) (a8 (m3 _) (a8 b2r ?_))
      refine o4 af Tryz.sizeOf4 (vs := [(vB (x0.fnamed || (!j)))]) (cs' := [(vi (IntKind.wrap .i64 (x0.fnodes + 1))), (vi (if x2 > x0.fdepth then x2 else x0.fdepth)), (vi x0.fe), (vB (x0.fform || (!d))), (vB (x0.fnamed || (!j))), (vs f)]) rfl rfl (nb rfl) rfl rfl fun bm aq bn => ?_
      refine a8 (m3 _) (a8 b2s (b6 (l1 Tryz.isAgg88 aq rfl) ?_))
      refine i6 Tryz.call145 (h f n q) (aq.bring 1) ?_
      rintro _ m _ bo ag _ _ ⟨t, rfl, rfl, h⟩
      refine a8 (G3 _) ?_
      refine m5 h (fun _ h => ?_) (fun _ h => ?_)
      ·refine a8 (m3 _) (a8 b2s (b6 (l1 Tryz.isAgg88 (ag.bring 1) rfl) ?_))
       refine a2l (e := 9) (c := C5) (xs := [k]) ag (b7d _) rfl rfl a6z a6A (nb rfl) fun bp bq br ax ar bs => ?_
       obtain ⟨ay, h⟩ := h
       refine b9I (s := f) (xs := b) (ar.bring 1) q (ax.srcO ((ar.bring 1).bring 1)) ay fun ah az bt ba bb bu => ?_
       refine a8 (m3 _) (a8 b2s ?_)
       refine o4 ((bb.bring 1).drop.bring 1) Tryz.sizeOf88 (vs := [(vs ah)]) (cs' := [(vi (IntKind.wrap .i64 (x0.fnodes + 1))), (vi (if x2 > x0.fdepth then x2 else x0.fdepth)), (vi x0.fe), (vB (x0.fform || (!d))), (vB (x0.fnamed || (!j))), (vs ah)]) rfl rfl (nb rfl) rfl rfl fun bv bc bw => ?_
       exact hx1 _ _ (hj1 (IntKind.wrap .i64 (x0.fnodes + 1)) (if x2 > x0.fdepth then x2 else x0.fdepth) x0.fe (x0.fform || (!d)) (x0.fnamed || (!j)) (b ++ [k]) ah az m _ ba ((bc.bring 1).bring 1) h)
      ·exact hx1 _ _ (hj1 (IntKind.wrap .i64 (x0.fnodes + 1)) (if x2 > x0.fdepth then x2 else x0.fdepth) x0.fe (x0.fform || (!d)) (x0.fnamed || (!j)) b f n m _ q (ag.bring 1) h)
    ·replace h := h.2 ae
     exact hx1 _ _ (hj1 (IntKind.wrap .i64 (x0.fnodes + 1)) (if x2 > x0.fdepth then x2 else x0.fdepth) x0.fe (x0.fform || (!d)) x0.fnamed b f n o _ q ((aa.bring 1).bring 1) h)
def a2j (a9t : Int) (a9u : Int) (a9v : Int) (a9w : Bool) (a9x : Bool) (a8v : (List ByteArray)) (H : Hp) (K : Bool → p8 → (List ByteArray) → Hp → Prop) : Prop :=
 K true (p8.mk a9t a9u a9v a9w a9x (Sl.mk none 0 0)) a8v H
def a2k (a5y : Int) (a3d : Sl) (A9 : Int) (a4N : Int) (a3L : Int) (a3M : Int) (a3N : Int) (a3O : Bool) (a3P : Bool) (a2B : (List ByteArray)) (H : Hp) (n2 : (Int × Int × Int × Int × Bool × Bool × (List ByteArray)) → Hp → Prop) (K : Bool → p8 → (List ByteArray) → Hp → Prop) : Prop :=
 (a4N < A9 →
 (0 : Int) ≤ a4N ∧ (a4N : Int) < a3d.n ∧ ∃ c : f7, EltH H a3d a4N 1 [(L2 c)] ∧
 a3F (p8.mk a3L a3M a3N a3O a3P (Sl.mk none 0 0)) a2B c a5y H (fun b d e f =>
 TG ((!b) = false) (a5P c f) (Sl.mk none 0 0) f (fun (j : Sl) (g : Hp) =>
 TG ((!b) = false) (fun k_ => a1L j (IntKind.wrap .i64 (a5y + 1)) (a2r d) e g fun k l m H_ => k_ (k, l, m) H_) (false, (a2r d), e) g (fun (a : Bool × p8 × (List ByteArray)) (i : Hp) =>
 (((!b) || (!a.1)) = true →
 K false (p8.mk (a.2.1.fnodes) (a.2.1.fdepth) (a.2.1.fe) (a.2.1.fform) (a.2.1.fnamed) (Sl.mk none 0 0)) a.2.2 i) ∧
 (((!b) || (!a.1)) = false →
 n2 ((IntKind.wrap .i64 (a4N + 1)), (a.2.1.fnodes), (a.2.1.fdepth), (a.2.1.fe), (a.2.1.fform), (a.2.1.fnamed), a.2.2) i))))) ∧
 (¬ (a4N < A9) →
 a2j a3L a3M a3N a3O a3P a2B H K)
def a5z (x0 : Sl) (x1 : Int) (x2 : p8) (a : (List ByteArray)) (H : Hp) (K : Bool → p8 → (List ByteArray) → Hp → Prop) : Prop :=
 TL ((0, x2.fnodes, x2.fdepth, x2.fe, x2.fform, x2.fnamed, a) : Int × Int × Int × Int × Bool × Bool × (List ByteArray)) H fun (s : Int × Int × Int × Int × Bool × Bool × (List ByteArray)) H n2 => a2k x1 x0 (x0.n : Int) s.1 s.2.1 s.2.2.1 s.2.2.2.1 s.2.2.2.2.1 s.2.2.2.2.2.1 s.2.2.2.2.2.2 H n2 K
theorem b2w (x0 x1 x2 ai) {H K} (h : a5z x0 x1 x2 ai H K) : a1L x0 x1 x2 ai H K := by
 intro g2 g2b g3 az ba bb
 refine Ct.of fun w0 w ps0 H0 R E I hR => c8m ?_
 unfold a5z at h
 unfold d1n
 have hj1 : ∀ (a9t : Int) (a9u : Int) (a9v : Int) (a9w : Bool) (a9x : Bool) (a8v : (List ByteArray)) (b2c : Sl) (b2d : Frag) H w (_ : RowL 9 1 C5 b2c a8v b2d) (_ : Inv w0 ps0 H0 H [bx g2 102 [(Value.pointer (some ⟨g2b, 0, none⟩))], bx g2b 101 [(vi a9t), (vi a9u), (vi a9v), (vB a9w), (vB a9x), (vs b2c)], bx g3 170 [(Value.func (.func 110) #[] #[(Value.pointer (some ⟨g2, 0, none⟩)), (Value.pointer (some ⟨g3, 0, none⟩))])], b2d] w) (_ : a2j a9t a9u a9v a9w a9x a8v H K), b7i w R E := by
  intro a9t a9u a9v a9w a9x a8v b2c b2d H w c4M I h
  unfold b7i
  intro _
  unfold a2j at h
  exact hR _ H _ _ ((((I.bring 2).bring 3).bring 3).bring 3) ⟨true, (p8.mk a9t a9u a9v a9w a9x (Sl.mk none 0 0)), a8v, b2c, b2d, rfl, rfl, c4M, h⟩
 refine r5 fun j1 hx1 => ?_
 refine a8 (b0l _ _ _) ?_
 obtain ⟨aj, z, bc, bd⟩ := h
 refine y7 (J := fun n l w => ∃ (s : Int × Int × Int × Int × Bool × Bool × (List ByteArray)) (H : Hp) (a9N : Sl) (a9O : Frag) , n = z s ∧ l = (match s with | (a4N, a3L, a3M, a3N, a3O, a3P, a2B) => [(vi a4N)]) ∧ (match s with | (a4N, a3L, a3M, a3N, a3O, a3P, a2B) => RowL 9 1 C5 a9N a2B a9O) ∧ (match s with | (a4N, a3L, a3M, a3N, a3O, a3P, a2B) => Inv w0 ps0 H0 H [bx g2 102 [(Value.pointer (some ⟨g2b, 0, none⟩))], bx g2b 101 [(vi a3L), (vi a3M), (vi a3N), (vB a3O), (vB a3P), (vs a9N)], bx g3 170 [(Value.func (.func 110) #[] #[(Value.pointer (some ⟨g2, 0, none⟩)), (Value.pointer (some ⟨g3, 0, none⟩))])], a9O] w) ∧ aj s H) ⟨_, (0, x2.fnodes, x2.fdepth, x2.fe, x2.fform, x2.fnamed, ai), H, az, ba, rfl, rfl, bb, ((((I.bring 2).bring 3).bring 3).bring 3), bc⟩ ?_
 rintro bj bk w next2 ⟨⟨a4N, a3L, a3M, a3N, a3O, a3P, a2B⟩, H, a9N, a9O, rfl, ak, b4p, I, be⟩ hn2
 dsimp only at ak I b4p
 simp only [List.map_cons, List.map_nil, List.cons.injEq, and_true] at ak
 have e11 := ak
 simp only [e11]
 obtain ⟨n2, hm2, h⟩ : ∃ n2 : (Int × Int × Int × Int × Bool × Bool × (List ByteArray)) → Hp → Prop, (∀ s' H', n2 s' H' → aj s' H' ∧ z s' < z (a4N, a3L, a3M, a3N, a3O, a3P, a2B)) ∧ a2k x1 x0 (x0.n : Int) a4N a3L a3M a3N a3O a3P a2B H n2 K := ⟨_, fun _ _ h => h, bd (a4N, a3L, a3M, a3N, a3O, a3P, a2B) H (fun s' H' => aj s' H' ∧ z s' < z (a4N, a3L, a3M, a3N, a3O, a3P, a2B)) be (fun _ _ a b => ⟨a, b⟩)⟩
 unfold c2j
 unfold a2k at h
 refine a8 pLs ?_
 refine f6 h (fun _ h => ?_) (fun _ h => ?_)
 ·obtain ⟨bf, bg, bh, al, h⟩ := h
  obtain ⟨bl, bm, bi, al⟩ := al
  refine a8 (c4A bi _ _ _ _ bf bg) (b6 (ld1 (v := (L2 bh)) Tryz.isAgg150 (I.atH al)) ?_)
  refine U6 I fun bn ao => ?_
  refine u7 (l1 Tryz.isAgg102 ao rfl) ?_
  refine i6 Tryz.call111 (h g2b a9N a9O b4p) ((ao.bring 3).bring 2) ?_
  rintro _ ap _ aq o _ _ ⟨p, aa, am, ac, ad, rfl, rfl, ar, h⟩
  refine j8 (G3 _) ?_
  simp only [t8]
  refine j8 (Pu.g fun c => by simp only [g7 c]; exact pAd) ?_
  refine u7 (Ld.g fun c => by exact (l1 Tryz.isAgg170 (o.bring 3) rfl)) ?_
  refine a0i (D := fun au u => ∃ (ab : Sl) (k : Hp), au = (gv (!p) false (vs ab)) ∧ (Inv w0 ps0 H0 k [bx g2b 101 (a2X aa ac), ad, bx g2 102 [(Value.pointer (some ⟨g2b, 0, none⟩))], bx g3 170 [(Value.func (.func 110) #[] #[(Value.pointer (some ⟨g2, 0, none⟩)), (Value.pointer (some ⟨g3, 0, none⟩))])]] u) ∧ (∀ i, i < aq.heap.size → ¬ inF [] i → u.heap[i]? = aq.heap[i]?) ∧ Hle ap k ∧ (TG ((!p) = false) (fun k_ => a1L ab (IntKind.wrap .i64 (x1 + 1)) (a2r aa) am k fun m d j H_ => k_ (m, d, j) H_) (false, (a2r aa), am) k (fun (e : Bool × p8 × (List ByteArray)) (f : Hp) =>
 (((!p) || (!e.1)) = true →
 K false (p8.mk (e.2.1.fnodes) (e.2.1.fdepth) (e.2.1.fe) (e.2.1.fform) (e.2.1.fnamed) (Sl.mk none 0 0)) e.2.2 f) ∧
 (((!p) || (!e.1)) = false →
 n2 ((IntKind.wrap .i64 (a4N + 1)), (e.2.1.fnodes), (e.2.1.fdepth), (e.2.1.fe), (e.2.1.fform), (e.2.1.fnamed), e.2.2) f)))) (fun y => ?_) (fun y => ?_) ?_
  ·replace h := h.1 y
   have c := y
   simp only [g7 c]
   refine b2u o h (fun ab k u ae av an h => ?_)
   exact ⟨ab, k, by rfl, ae, an, av, h⟩
  ·exact ⟨(Sl.mk none 0 0), ap, by rw [a3E y], o, fun _ _ _ => rfl, Hle.refl _, h.2 y⟩
  ·clear h
   rintro au u ⟨ab, k, rfl, ae, an, av, h⟩
   refine ⟨(an _ (o.bring 3).lt1 (Inv.a5M (Fi := []) (o.bring 3))), ?_⟩
   refine a0i (D := fun aw af => ∃ (m : Bool) (d : p8) (j : (List ByteArray)) (f : Hp) (q : Sl) (r : Frag) , aw = (gv (!p) false (vB m)) ∧ (RowL 9 1 C5 q j r) ∧ (Inv w0 ps0 H0 f [bx g2 102 [(Value.pointer (some ⟨g2b, 0, none⟩))], bx g2b 101 (a2X d q), r, bx g3 170 [(Value.func (.func 110) #[] #[(Value.pointer (some ⟨g2, 0, none⟩)), (Value.pointer (some ⟨g3, 0, none⟩))])]] af) ∧ (∀ i, i < u.heap.size → ¬ inF [bx g2 102 [(Value.pointer (some ⟨g2b, 0, none⟩))], bx g2b 101 (a2X aa ac), ad, bx g3 170 [(Value.func (.func 110) #[] #[(Value.pointer (some ⟨g2, 0, none⟩)), (Value.pointer (some ⟨g3, 0, none⟩))])]] i → af.heap[i]? = u.heap[i]?) ∧ Hle k f ∧ ((((!p) || (!m)) = true →
 K false (a2r d) j f) ∧
 (((!p) || (!m)) = false →
 n2 ((IntKind.wrap .i64 (a4N + 1)), d.fnodes, d.fdepth, d.fe, d.fform, d.fnamed, j) f))) (fun t => ?_) (fun t => ?_) ?_
   ·replace h := h.1 t
    have c := t
    simp only [g7 c]
    refine a8H (cap := [(Value.pointer (some ⟨g2, 0, none⟩)), (Value.pointer (some ⟨g3, 0, none⟩))]) Tryz.call110 (h g2 g2b g3 ac ad ar) ((((ae.bring 3).bring 2).bring 2).bring 3) ?_
    rintro _ f _ af ag ax ay ⟨m, d, j, q, r, rfl, rfl, ah, h⟩
    exact ⟨m, d, j, f, q, r, by rfl, ah, ag, ay, ax, h⟩
   ·exact ⟨false, (a2r aa), am, k, ac, ad, by rw [a3E t], ar, ((((ae.bring 3).bring 2).bring 2).bring 3), fun _ _ _ => rfl, Hle.refl _, h.2 t⟩
   ·clear h
    rintro aw af ⟨m, d, j, f, q, r, rfl, ah, ag, ay, ax, h⟩
    refine j8 (Pu.g fun c => by simp only [g7 c]; exact (G3 _)) ?_
    refine j8 (E8 _ _) ?_
    refine m5 h (fun _ h => ?_) (fun _ h => ?_)
    ·exact hR _ f _ _ ((((ag.bring 3).bring 3).bring 3).bring 3) ⟨false, (a2r d), j, q, r, rfl, rfl, ah, h⟩
    ·refine a8 pAd ?_
     exact hn2 _ _ _ (hm2 _ _ h).2 ⟨((IntKind.wrap .i64 (a4N + 1)), d.fnodes, d.fdepth, d.fe, d.fform, d.fnamed, j), f, q, r, rfl, rfl, ah, ((((ag.bring 2).bring 3).bring 3).bring 3), (hm2 _ _ h).1⟩
 ·exact hx1 _ _ (hj1 a3L a3M a3N a3O a3P a2B a9N a9O H _ b4p ((((I.bring 3).bring 3).bring 3).bring 3) h)
def O8 (d : Int) (e : Int) (f : Int) (g : Bool) (i : Bool) (j : (List ByteArray)) (H : Hp) (K : p8 → Hp → Prop) : Prop :=
 ∀ (a : Sl) (b : Hp), Hle H b → SlH b 1 C5 a j → a.n ≤ a.c →
 K (p8.mk d e f g i a) b
def a6h (x0 : Sl) (H : Hp) (K : p8 → Hp → Prop) : Prop :=
 a1L x0 1 (p8.mk 0 0 0 false false (Sl.mk none 0 0)) [] H (fun d a b c =>
 ((!d) = true →
 O8 a.fnodes a.fdepth a.fe a.fform a.fnamed b c K) ∧
 ((!d) = false →
 (a.fform = true →
 O8 a.fnodes a.fdepth 30 a.fform a.fnamed b c K) ∧
 (a.fform = false →
 (a.fnamed = true →
 O8 a.fnodes a.fdepth 31 a.fform a.fnamed b c K) ∧
 (a.fnamed = false →
 O8 a.fnodes a.fdepth a.fe a.fform a.fnamed b c K))))
theorem b3y (x0) {H K} (h : a6h x0 H K) : a6a x0 H K := by
 refine Ct.of fun w0 w ps0 H0 R E I hR => d1f ?_
 unfold a6h at h
 unfold F65
 refine a8 (c3q ) ?_
 refine F0 I (cs := [(vi 0), (vi 0), (vi 0), (vB false), (vB false), (nS)]) rfl fun d aj y ak => ?_
 refine B9 y Tryz.zeroValue102 (cs := [(Value.pointer none)]) rfl fun c al z am => ?_
 refine o4 z Tryz.sizeOf102 (vs := [(Value.pointer (some ⟨d, 0, none⟩))]) (cs' := [(Value.pointer (some ⟨d, 0, none⟩))]) rfl rfl (nb rfl) rfl rfl fun an aa ao => ?_
 refine B9 aa Tryz.zeroValue170 (cs := [Value.nilFunc]) rfl fun f ap ab aq => ?_
 refine a8 (b2k _ _ _) ?_
 refine o4 ab Tryz.sizeOf170 (vs := [(Value.func (.func 110) #[] #[(Value.pointer (some ⟨c, 0, none⟩)), (Value.pointer (some ⟨f, 0, none⟩))])]) (cs' := [(Value.func (.func 110) #[] #[(Value.pointer (some ⟨c, 0, none⟩)), (Value.pointer (some ⟨f, 0, none⟩))])]) rfl rfl (nb rfl) rfl rfl fun ar u au => ?_
 have hj1 : ∀ (j : Int) (k : Int) (l : Int) (m : Bool) (n : Bool) (s : (List ByteArray)) (i : Sl) (t : Frag) H w (_ : RowL 9 1 C5 i s t) (_ : Inv w0 ps0 H0 H [bx c 102 [(Value.pointer (some ⟨d, 0, none⟩))], bx d 101 [(vi j), (vi k), (vi l), (vB m), (vB n), (vs i)], bx f 170 [(Value.func (.func 110) #[] #[(Value.pointer (some ⟨c, 0, none⟩)), (Value.pointer (some ⟨f, 0, none⟩))])], t] w) (_ : O8 j k l m n s H K), b9T (Value.pointer (some ⟨c, 0, none⟩)) w R E := by
  intro j k l m n s i t H w ac I h
  unfold b9T
  intro _
  unfold O8 at h
  refine b6 (l1 Tryz.isAgg102 I rfl) ?_
  obtain ⟨v, ad, ae, af, ag⟩ := Inv.freezeC (I.bring 3) ac (by decide)
  replace h := h i v ae af ag
  exact hR _ v _ _ (ad.drop.bring 1).drop ⟨(p8.mk j k l m n i), d, rfl, rfl, h⟩
 refine r5 fun j1 hx1 => ?_
 refine b6 (l1 Tryz.isAgg170 u rfl) ?_
 refine a8H (cap := [(Value.pointer (some ⟨c, 0, none⟩)), (Value.pointer (some ⟨f, 0, none⟩))]) Tryz.call110 (h c d f (Sl.mk none 0 0) ([]) (RowL.nil (e := 9) a6z a6A)) ((((u.nil.bring 1).bring 1).bring 3).bring 3) ?_
 rintro _ o _ av b _ _ ⟨aw, a, p, g, q, rfl, rfl, r, h⟩
 refine a8 (G3 _) ?_
 refine m5 h (fun _ h => ?_) (fun _ h => ?_)
 ·exact hx1 _ _ (hj1 a.fnodes a.fdepth a.fe a.fform a.fnamed p g q o _ r ((((b.bring 2).bring 3).bring 3).bring 3) h)
 ·refine b6 (l1 Tryz.isAgg102 b rfl) (a8 (m3 _) (a8 b2q (b6 (l1 Tryz.isAgg4 (b.bring 1) rfl) ?_)))
  refine m5 h (fun _ h => ?_) (fun _ h => ?_)
  ·refine b6 (l1 Tryz.isAgg102 b rfl) (a8 (m3 _) (a8 a7P ?_))
   refine o4 (b.bring 1) Tryz.sizeOf27 (vs := [(vi 30)]) (cs' := [(vi a.fnodes), (vi a.fdepth), (vi 30), (vB a.fform), (vB a.fnamed), (vs g)]) rfl rfl (nb rfl) rfl rfl fun ax ah ay => ?_
   exact hx1 _ _ (hj1 a.fnodes a.fdepth 30 a.fform a.fnamed p g q o _ r ((((ah.bring 2).bring 3).bring 2).bring 3) h)
  ·refine b6 (l1 Tryz.isAgg102 b rfl) (a8 (m3 _) (a8 b2r (b6 (l1 Tryz.isAgg4 (b.bring 1) rfl) ?_)))
   refine m5 h (fun _ h => ?_) (fun _ h => ?_)
   ·refine b6 (l1 Tryz.isAgg102 b rfl) (a8 (m3 _) (a8 a7P ?_))
    refine o4 (b.bring 1) Tryz.sizeOf27 (vs := [(vi 31)]) (cs' := [(vi a.fnodes), (vi a.fdepth), (vi 31), (vB a.fform), (vB a.fnamed), (vs g)]) rfl rfl (nb rfl) rfl rfl fun az ai ba => ?_
    exact hx1 _ _ (hj1 a.fnodes a.fdepth 31 a.fform a.fnamed p g q o _ r ((((ai.bring 2).bring 3).bring 2).bring 3) h)
   ·exact hx1 _ _ (hj1 a.fnodes a.fdepth a.fe a.fform a.fnamed p g q o _ r ((((b.bring 2).bring 3).bring 3).bring 3) h)
def a6i (x0 : m7) (H : Hp) (K : f7 → Hp → Prop) : Prop :=
 K (f7.L5 (V5.mk x0)) H
theorem b3z (x0) {H K} (h : a6i x0 H K) : a8N x0 H K := by
 refine Ct.of fun w0 w ps0 H0 R E I hR => d1k ?_
 unfold a6i at h
 unfold F79
 refine F0 I (cs := (f8 x0)) rfl fun b c a d => ?_
 refine b6 (lW Tryz.isAgg73 Tryz.sizeOf73 rfl a) (a8 (b9O _ _ _ _ _ _ _ _ _ _ _ _ _ _) (a8 (b7h (V5.mk x0)) ?_))
 exact hR _ H _ _ a.drop ⟨(f7.L5 (V5.mk x0)), rfl, rfl, h⟩
def a2I (x0 : d6) (x1 : Int) (H : Hp) (K : Bool → d6 → Hp → Prop) : Prop :=
 (¬ (x0.fbad = 0) →
 K false x0 H) ∧
 (x0.fbad = 0 →
 (x0.fn = 4096 →
 K false (d6.mk x0.fn x0.fdepth 33) H) ∧
 (¬ (x0.fn = 4096) →
 (64 < x1 →
 K false (d6.mk x0.fn x0.fdepth 32) H) ∧
 (¬ (64 < x1) →
 K true (d6.mk (IntKind.wrap .i64 (x0.fn + 1)) (if x1 > x0.fdepth then x1 else x0.fdepth) x0.fbad) H)))
theorem a9c (x0 x1) {H K} (h : a2I x0 x1 H K) : P0 x0 x1 H K := by
 intro g0
 refine Ct.of fun w0 w ps0 H0 R E I hR => d1l ?_
 unfold a2I at h
 unfold F84
 refine a8 (m3 _) (a8 U5 (b6 (l1 Tryz.isAgg3 I rfl) (a8 pNe ?_)))
 refine a1v h (fun _ h => ?_) (fun _ h => ?_)
 ·exact hR _ H _ _ I ⟨false, x0, rfl, rfl, h⟩
 ·refine a8 (m3 _) (a8 b2o (b6 (l1 Tryz.isAgg3 I rfl) (a8 pEq ?_)))
  refine f6 h (fun _ h => ?_) (fun _ h => ?_)
  ·refine a8 (m3 _) (a8 U5 ?_)
   refine o4 I Tryz.sizeOf3 (vs := [(vi 33)]) (cs' := [(vi x0.fn), (vi x0.fdepth), (vi 33)]) rfl rfl (nb rfl) rfl rfl fun e b f => ?_
   exact hR _ H _ _ b ⟨false, (d6.mk x0.fn x0.fdepth 33), rfl, rfl, h⟩
  ·refine a8 pGt ?_
   refine f6 h (fun _ h => ?_) (fun _ h => ?_)
   ·refine a8 (m3 _) (a8 U5 ?_)
    refine o4 I Tryz.sizeOf3 (vs := [(vi 32)]) (cs' := [(vi x0.fn), (vi x0.fdepth), (vi 32)]) rfl rfl (nb rfl) rfl rfl fun g c i => ?_
    exact hR _ H _ _ c ⟨false, (d6.mk x0.fn x0.fdepth 32), rfl, rfl, h⟩
   ·refine a8 (m3 _) (a8 b2o (b6 (l1 Tryz.isAgg3 I rfl) (a8 pAd (a8 (m3 _) ?_))))
    refine a8 b2o ?_
    refine o4 I Tryz.sizeOf3 (vs := [(vi (IntKind.wrap .i64 (x0.fn + 1)))]) (cs' := [(vi (IntKind.wrap .i64 (x0.fn + 1))), (vi x0.fdepth), (vi x0.fbad)]) rfl rfl (nb rfl) rfl rfl fun j a k => ?_
    refine a8 (m3 _) (a8 b5s (b6 (l1 Tryz.isAgg3 a rfl) (a8 (c4t _ _ _ _ _) (a8 (m3 _) ?_))))
    refine a8 b5s ?_
    refine o4 a Tryz.sizeOf3 (vs := [(vi (if x1 > x0.fdepth then x1 else x0.fdepth))]) (cs' := [(vi (IntKind.wrap .i64 (x0.fn + 1))), (vi (if x1 > x0.fdepth then x1 else x0.fdepth)), (vi x0.fbad)]) rfl rfl (nb rfl) rfl rfl fun l d m => ?_
    exact hR _ H _ _ d ⟨true, (d6.mk (IntKind.wrap .i64 (x0.fn + 1)) (if x1 > x0.fdepth then x1 else x0.fdepth) x0.fbad), rfl, rfl, h⟩
def D5 (a2w : (List f7)) (H : Hp) (K : Sl → Hp → Prop) : Prop :=
 ∀ (N6 : Sl) (a : Hp), Hle H a → SlH a 1 z7 N6 a2w → N6.n ≤ N6.c →
 K N6 a
def D6 (a3I : Sl) (a3d : Int) (B3 : (List f7)) (A9 : Int) (H : Hp) (n2 : ((List f7) × Int) → Hp → Prop) (K : Sl → Hp → Prop) : Prop :=
 (A9 < a3d →
 (0 : Int) ≤ A9 ∧ (A9 : Int) < a3I.n ∧ ∃ a : m2, EltH H a3I A9 4 (f4 a) ∧
 a8O a H (fun b c =>
 (B3.length + ([b] : List f7).length) * 17 ≤ 140737488355328 ∧
 n2 ((B3 ++ [b]), (IntKind.wrap .i64 (A9 + 1))) c)) ∧
 (¬ (A9 < a3d) →
 D5 B3 H K)
def M8 (x0 : Sl) (H : Hp) (K : Sl → Hp → Prop) : Prop :=
 TL (([], 0) : (List f7) × Int) H fun (s : (List f7) × Int) H n2 => D6 x0 (x0.n : Int) s.1 s.2 H n2 K
theorem a3h (x0) {H K} (h : M8 x0 H K) : B2 x0 H K := by
 refine Ct.of fun w0 w ps0 H0 R E I hR => c8D ?_
 unfold M8 at h
 unfold d1E
 have hj1 : ∀ (a2w : (List f7)) (N6 : Sl) (Fs5j1 : Frag) H w (_ : RowL 150 1 z7 N6 a2w Fs5j1) (_ : Inv w0 ps0 H0 H [Fs5j1] w) (_ : D5 a2w H K), b7x (vs N6) w R E := by
  intro a2w N6 Fs5j1 H w b3t I h
  unfold b7x
  intro _
  unfold D5 at h
  obtain ⟨k, q, r, t, u⟩ := Inv.freezeC I b3t (by decide)
  replace h := h N6 k r t u
  exact hR _ k _ _ q ⟨N6, rfl, rfl, h⟩
 refine r5 fun j1 hx1 => ?_
 refine a8 (P9 _ _ _) ?_
 obtain ⟨f, d, v, y⟩ := h
 refine y7 (J := fun n l w => ∃ (s : (List f7) × Int) (H : Hp) (a2x : Sl) (Fs5l2 : Frag) , n = d s ∧ l = (match s with | (B3, A9) => [(vs a2x), (vi A9)]) ∧ (match s with | (B3, A9) => RowL 150 1 z7 a2x B3 Fs5l2) ∧ (match s with | (B3, A9) => Inv w0 ps0 H0 H [Fs5l2] w) ∧ f s H) ⟨_, ([], 0), H, (Sl.mk none 0 0), [], rfl, rfl, (RowL.nil U1 a0g), I.nil, v⟩ ?_
 rintro am an w next2 ⟨⟨B3, A9⟩, H, a2x, Fs5l2, rfl, g, a6d, I, z⟩ hn2
 dsimp only at g I a6d
 simp only [List.map_cons, List.map_nil, List.cons.injEq, and_true] at g
 obtain ⟨e5, e10⟩ := g
 simp only [e5, e10]
 obtain ⟨n2, hm2, h⟩ : ∃ n2 : ((List f7) × Int) → Hp → Prop, (∀ s' H', n2 s' H' → f s' H' ∧ d s' < d (B3, A9)) ∧ D6 x0 (x0.n : Int) B3 A9 H n2 K := ⟨_, fun _ _ h => h, y (B3, A9) H (fun s' H' => f s' H' ∧ d s' < d (B3, A9)) z (fun _ _ a b => ⟨a, b⟩)⟩
 unfold c2r
 unfold D6 at h
 refine a8 pLs ?_
 refine f6 h (fun _ h => ?_) (fun _ h => ?_)
 ·obtain ⟨aa, ab, i, j, h⟩ := h
  obtain ⟨ao, ap, ac, j⟩ := j
  refine a8 (K9 ac _ _ _ _ aa ab) (b6 (ldA (vs := (f4 i)) Tryz.isAgg53 Tryz.sizeOf53 rfl (I.atH j)) ?_)
  refine B9 I Tryz.zeroValue53 (cs := [(vi 0), (vi 0), (eS), (nS)]) rfl fun aq ar ad au => ?_
  refine o4 ad Tryz.sizeOf53 (vs := (f4 i)) (cs' := (f4 i)) rfl rfl (nb rfl) rfl rfl fun av m aw => ?_
  refine b6 (lW Tryz.isAgg53 Tryz.sizeOf53 rfl m) ?_
  refine i6 Tryz.call190 h m ?_
  rintro _ ae _ ax af _ _ ⟨o, rfl, rfl, h⟩
  refine a2l (e := 150) (c := z7) (xs := [o]) af (b3o _) rfl rfl U1 a0g (nb rfl) fun ay az ba ag p bb => ?_
  obtain ⟨ah, h⟩ := h
  refine b2I (s := a2x) (xs := B3) (p.bring 2) a6d (ag.srcO ((p.bring 2).bring 1)) ah fun ai aj bc ak al bd => ?_
  refine a8 pAd ?_
  exact hn2 _ _ _ (hm2 _ _ h).2 ⟨((B3 ++ [o]), (IntKind.wrap .i64 (A9 + 1))), ae, ai, aj, rfl, rfl, ak, ((al.bring 1).drop.bring 1).drop, (hm2 _ _ h).1⟩
 ·exact hx1 _ _ (hj1 B3 a2x Fs5l2 H _ a6d I h)
def R1 (U7 : Bool) (c7z : Int) (b4I : Bool) (a : S4) (b : V5) (H : Hp) (K : Bool → Hp → Prop) : Prop :=
 (b4I = true →
 K (U7 && (decide (a.fexprs = 0 ∧ a.fconds = 1))) H) ∧
 (b4I = false →
 (c7z = 7 →
 K (U7 && (decide (a.fexprs = 0 ∧ a.fconds = 0))) H) ∧
 (¬ (c7z = 7) →
 K false H))
def a4Z (x0 : V5) (H : Hp) (K : Bool → Hp → Prop) : Prop :=
 (x0.m4.b7 = 1 →
 K ((!(decide (0 < (IntKind.wrap .i64 ((x0.m4.K7.n : Int) + (x0.m4.L0.n : Int)))))) && (decide ((x0.m4.m6.n : Int) = 1 ∧ (x0.m4.y6.n : Int) = 0))) H) ∧
 (¬ (x0.m4.b7 = 1) →
 (x0.m4.b7 = 2 →
 K ((!(decide (0 < (IntKind.wrap .i64 ((x0.m4.K7.n : Int) + (x0.m4.L0.n : Int)))))) && (decide ((x0.m4.m6.n : Int) = 2 ∧ (x0.m4.y6.n : Int) = 0))) H) ∧
 (¬ (x0.m4.b7 = 2) →
 (x0.m4.b7 = 3 →
 K ((decide (x0.m4.d9 = ⟨#[]⟩)) && (decide ((x0.m4.m6.n : Int) = 0 ∧ (x0.m4.y6.n : Int) = 1))) H) ∧
 (¬ (x0.m4.b7 = 3) →
 (x0.m4.b7 = 4 →
 K (((decide (x0.m4.d9 = ⟨#[]⟩)) && (decide ((x0.m4.L0.n : Int) = 0))) && (decide ((x0.m4.m6.n : Int) = 0 ∧ (x0.m4.y6.n : Int) = 1))) H) ∧
 (¬ (x0.m4.b7 = 4) →
 (x0.m4.b7 = 5 →
 R1 ((decide (x0.m4.d9 = ⟨#[]⟩)) && (!(decide (0 < (IntKind.wrap .i64 ((x0.m4.K7.n : Int) + (x0.m4.L0.n : Int))))))) x0.m4.b7 (decide (x0.m4.b7 = 5)) (S4.mk (x0.m4.m6.n : Int) (x0.m4.y6.n : Int)) x0 H K) ∧
 (¬ (x0.m4.b7 = 5) →
 R1 ((decide (x0.m4.d9 = ⟨#[]⟩)) && (!(decide (0 < (IntKind.wrap .i64 ((x0.m4.K7.n : Int) + (x0.m4.L0.n : Int))))))) x0.m4.b7 (decide (x0.m4.b7 = 6)) (S4.mk (x0.m4.m6.n : Int) (x0.m4.y6.n : Int)) x0 H K)))))
theorem b1G (x0) {H K} (h : a4Z x0 H K) : a4Y x0 H K := by
 refine Ct.of fun w0 w ps0 H0 R E I hR => c8L ?_
 unfold a4Z at h
 unfold d1M
 refine F0 I (cs := (f8 x0.m4)) rfl fun e i c j => ?_
 refine a8 Q8 (a8 a0O (b6 (l1 Tryz.isAgg23 c rfl) (a8 (a0h _ _ _) (a8 Q8 ?_))))
 refine a8 a1Q (b6 (l1 Tryz.isAgg23 c rfl) (a8 (a0h _ _ _) (a8 pAd (a8 pGt ?_))))
 refine a8 Q8 (a8 V8 (b6 (l1 Tryz.isAgg51 c rfl) (a8 (P9 _ _ _) (a8 Q8 ?_))))
 refine a8 V7 (b6 (l1 Tryz.isAgg57 c rfl) (a8 (a1Z _ _ _) (a8 (a4o _ _) ?_)))
 refine B9 c Tryz.zeroValue240 (cs := [(vi 0), (vi 0)]) rfl fun d k f l => ?_
 refine o4 f Tryz.sizeOf240 (vs := [(vi (x0.m4.m6.n : Int)), (vi (x0.m4.y6.n : Int))]) (cs' := [(vi (x0.m4.m6.n : Int)), (vi (x0.m4.y6.n : Int))]) rfl rfl (nb rfl) rfl rfl fun m b p => ?_
 refine a8 Q8 (a8 a1P (b6 (l1 Tryz.isAgg9 (b.bring 1) rfl) (a8 (Q3 _ _ _ _ _) ?_)))
 simp only [t8]
 refine a8 (Pu.g fun a => by simp only [g7 a]; exact (G3 _)) ?_
 refine a8 (v7 _ _) (a8 Q8 (a8 V6 (b6 (l1 Tryz.isAgg3 (b.bring 1) rfl) (a8 pEq ?_))))
 refine f6 h (fun _ h => ?_) (fun _ h => ?_)
 ·refine a8 (G3 _) ?_
  refine b6 (Ld.g fun a => by exact (ldA Tryz.isAgg240 Tryz.sizeOf240 rfl (b.at1 (o := 0) (vs := [(vi (x0.m4.m6.n : Int)), (vi (x0.m4.y6.n : Int))]) (nb rfl) rfl))) ?_
  refine a8 (Pu.g fun a => by exact (a4o _ _)) ?_
  refine a8 (Pu.g fun a => by simp only [g7 a]; exact (a8s _ _ _ _ _ _)) ?_
  refine a8 (v7 _ _) ?_
  exact hR _ H _ _ b.drop.drop ⟨((!(decide (0 < (IntKind.wrap .i64 ((x0.m4.K7.n : Int) + (x0.m4.L0.n : Int)))))) && (decide ((x0.m4.m6.n : Int) = 1 ∧ (x0.m4.y6.n : Int) = 0))), rfl, rfl, h⟩
 ·refine a8 pEq ?_
  refine f6 h (fun _ h => ?_) (fun _ h => ?_)
  ·refine a8 (G3 _) ?_
   refine b6 (Ld.g fun a => by exact (ldA Tryz.isAgg240 Tryz.sizeOf240 rfl (b.at1 (o := 0) (vs := [(vi (x0.m4.m6.n : Int)), (vi (x0.m4.y6.n : Int))]) (nb rfl) rfl))) ?_
   refine a8 (Pu.g fun a => by exact (a4o _ _)) ?_
   refine a8 (Pu.g fun a => by simp only [g7 a]; exact (a8s _ _ _ _ _ _)) ?_
   refine a8 (v7 _ _) ?_
   exact hR _ H _ _ b.drop.drop ⟨((!(decide (0 < (IntKind.wrap .i64 ((x0.m4.K7.n : Int) + (x0.m4.L0.n : Int)))))) && (decide ((x0.m4.m6.n : Int) = 2 ∧ (x0.m4.y6.n : Int) = 0))), rfl, rfl, h⟩
  ·refine a8 pEq ?_
   refine f6 h (fun _ h => ?_) (fun _ h => ?_)
   ·refine a8 Q8 (a8 a1P (b6 (l1 Tryz.isAgg9 (b.bring 1) rfl) (a8 (Q3 _ _ _ _ _) ?_)))
    refine b6 (Ld.g fun a => by exact (ldA Tryz.isAgg240 Tryz.sizeOf240 rfl (b.at1 (o := 0) (vs := [(vi (x0.m4.m6.n : Int)), (vi (x0.m4.y6.n : Int))]) (nb rfl) rfl))) ?_
    refine a8 (Pu.g fun a => by exact (a4o _ _)) ?_
    refine a8 (Pu.g fun a => by simp only [g7 a]; exact (a8s _ _ _ _ _ _)) ?_
    refine a8 (v7 _ _) ?_
    exact hR _ H _ _ b.drop.drop ⟨((decide (x0.m4.d9 = ⟨#[]⟩)) && (decide ((x0.m4.m6.n : Int) = 0 ∧ (x0.m4.y6.n : Int) = 1))), rfl, rfl, h⟩
   ·refine a8 pEq ?_
    refine f6 h (fun _ h => ?_) (fun _ h => ?_)
    ·refine a8 Q8 (a8 a1P (b6 (l1 Tryz.isAgg9 (b.bring 1) rfl) (a8 (Q3 _ _ _ _ _) ?_)))
     refine a8 (Pu.g fun a => by exact Q8) ?_
     refine a8 (Pu.g fun a => by simp only [g7 a]; exact a1Q) ?_
     refine b6 (Ld.g fun a => by simp only [g7 a]; exact (l1 Tryz.isAgg23 (b.bring 1) rfl)) ?_
     refine a8 (Pu.g fun a => by simp only [g7 a]; exact (a0h _ _ _)) ?_
     refine a8 (Pu.g fun a => by simp only [g7 a]; exact pEq) ?_
     refine a8 (v7 _ _) ?_
     refine b6 (Ld.g fun a => by exact (ldA Tryz.isAgg240 Tryz.sizeOf240 rfl (b.at1 (o := 0) (vs := [(vi (x0.m4.m6.n : Int)), (vi (x0.m4.y6.n : Int))]) (nb rfl) rfl))) ?_
     refine a8 (Pu.g fun a => by exact (a4o _ _)) ?_
     refine a8 (Pu.g fun a => by simp only [g7 a]; exact (a8s _ _ _ _ _ _)) ?_
     refine a8 (v7 _ _) ?_
     exact hR _ H _ _ b.drop.drop ⟨(((decide (x0.m4.d9 = ⟨#[]⟩)) && (decide ((x0.m4.L0.n : Int) = 0))) && (decide ((x0.m4.m6.n : Int) = 0 ∧ (x0.m4.y6.n : Int) = 1))), rfl, rfl, h⟩
    ·have hj1 : ∀ (b4I : Bool) H w (_ : Inv w0 ps0 H0 H [bx d 240 [(vi (S4.mk (x0.m4.m6.n : Int) (x0.m4.y6.n : Int)).fexprs), (vi (S4.mk (x0.m4.m6.n : Int) (x0.m4.y6.n : Int)).fconds)], bx e 184 (f8 x0.m4)] w) (_ : R1 ((decide (x0.m4.d9 = ⟨#[]⟩)) && (!(decide (0 < (IntKind.wrap .i64 ((x0.m4.K7.n : Int) + (x0.m4.L0.n : Int))))))) x0.m4.b7 b4I (S4.mk (x0.m4.m6.n : Int) (x0.m4.y6.n : Int)) x0 H K), b7B (Value.pointer (some ⟨d, 0, none⟩)) (vB ((decide (x0.m4.d9 = ⟨#[]⟩)) && (!(decide (0 < (IntKind.wrap .i64 ((x0.m4.K7.n : Int) + (x0.m4.L0.n : Int)))))))) (vi x0.m4.b7) (vB b4I) w R E := by
      intro b4I H w I h
      unfold b7B
      intro _
      unfold R1 at h
      refine m5 h (fun _ h => ?_) (fun _ h => ?_)
      ·refine b6 (Ld.g fun a => by exact (ldA Tryz.isAgg240 Tryz.sizeOf240 rfl (I.at1 (o := 0) (vs := [(vi (S4.mk (x0.m4.m6.n : Int) (x0.m4.y6.n : Int)).fexprs), (vi (S4.mk (x0.m4.m6.n : Int) (x0.m4.y6.n : Int)).fconds)]) (nb rfl) rfl))) ?_
       refine a8 (Pu.g fun a => by exact (a4o _ _)) ?_
       refine a8 (Pu.g fun a => by simp only [g7 a]; exact (a8s _ _ _ _ _ _)) ?_
       refine a8 (v7 _ _) ?_
       exact hR _ H _ _ I.drop.drop ⟨(((decide (x0.m4.d9 = ⟨#[]⟩)) && (!(decide (0 < (IntKind.wrap .i64 ((x0.m4.K7.n : Int) + (x0.m4.L0.n : Int))))))) && (decide ((S4.mk (x0.m4.m6.n : Int) (x0.m4.y6.n : Int)).fexprs = 0 ∧ (S4.mk (x0.m4.m6.n : Int) (x0.m4.y6.n : Int)).fconds = 1))), rfl, rfl, h⟩
      ·refine a8 pEq ?_
       refine f6 h (fun _ h => ?_) (fun _ h => ?_)
       ·refine b6 (Ld.g fun a => by exact (ldA Tryz.isAgg240 Tryz.sizeOf240 rfl (I.at1 (o := 0) (vs := [(vi (S4.mk (x0.m4.m6.n : Int) (x0.m4.y6.n : Int)).fexprs), (vi (S4.mk (x0.m4.m6.n : Int) (x0.m4.y6.n : Int)).fconds)]) (nb rfl) rfl))) ?_
        refine a8 (Pu.g fun a => by exact (c3s )) ?_
        refine a8 (Pu.g fun a => by simp only [g7 a]; exact (a8s _ _ _ _ _ _)) ?_
        refine a8 (v7 _ _) ?_
        exact hR _ H _ _ I.drop.drop ⟨(((decide (x0.m4.d9 = ⟨#[]⟩)) && (!(decide (0 < (IntKind.wrap .i64 ((x0.m4.K7.n : Int) + (x0.m4.L0.n : Int))))))) && (decide ((S4.mk (x0.m4.m6.n : Int) (x0.m4.y6.n : Int)).fexprs = 0 ∧ (S4.mk (x0.m4.m6.n : Int) (x0.m4.y6.n : Int)).fconds = 0))), rfl, rfl, h⟩
       ·exact hR _ H _ _ I.drop.drop ⟨false, rfl, rfl, h⟩
     refine r5 fun j1 hx1 => ?_
     refine a8 pEq ?_
     refine f6 h (fun _ h => ?_) (fun _ h => ?_)
     ·exact hx1 _ _ (hj1 (decide (x0.m4.b7 = 5)) H _ ((b.bring 1).bring 1) h)
     ·refine a8 pEq ?_
      exact hx1 _ _ (hj1 (decide (x0.m4.b7 = 6)) H _ ((b.bring 1).bring 1) h)
end Go.Proofs.YtnhkdkcgdcgmdaaGreatDoor
