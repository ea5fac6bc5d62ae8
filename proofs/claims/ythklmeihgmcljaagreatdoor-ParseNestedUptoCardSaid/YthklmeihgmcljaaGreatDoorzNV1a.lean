/- Typed formulas of the program's functions, and the theorems that the contracts follow from them; printed by lift.py off the code. -/
import Derived.Test.YthklmeihgmcljaaGreatDoorzNV1
namespace Go.Proofs.YthklmeihgmcljaaGreatDoor
open Go.RowKit
set_option maxRecDepth 100000
set_option maxHeartbeats 2000000
def a1p (x0 : b8) (H : Hp) (K : Int → Hp → Prop) : Prop :=
 u1 x0 ⟨#[42]⟩ H (fun a b =>
 (a = true →
 K 8 b) ∧
 (a = false →
 u1 x0 ⟨#[47]⟩ b (fun c d =>
 (c = true →
 K 9 d) ∧
 (c = false →
 u1 x0 ⟨#[37]⟩ d (fun e f =>
 (e = true →
 K 10 f) ∧
 (e = false →
 K 0 f))))))
theorem a1q (x0) {H K} (h : a1p x0 H K) : L6 x0 H K := by
 intro g0
 refine Ct.of fun w0 w ps0 H0 R E I hR => c0A ?_
 unfold a1p at h
 unfold c3l
 refine g8 Tryz.call23 (h g0) I ?_
 rintro _ e _ g a _ _ ⟨i, rfl, rfl, h⟩
 refine p5 h (fun _ h => ?_) (fun _ h => ?_)
 ·exact hR _ e _ _ a ⟨8, rfl, rfl, h⟩
 ·refine g8 Tryz.call23 (h g0) a ?_
  rintro _ f _ j b _ _ ⟨k, rfl, rfl, h⟩
  refine p5 h (fun _ h => ?_) (fun _ h => ?_)
  ·exact hR _ f _ _ b ⟨9, rfl, rfl, h⟩
  ·refine g8 Tryz.call23 (h g0) b ?_
   rintro _ c _ l d _ _ ⟨m, rfl, rfl, h⟩
   refine p5 h (fun _ h => ?_) (fun _ h => ?_)
   ·exact hR _ c _ _ d ⟨10, rfl, rfl, h⟩
   ·exact hR _ c _ _ d ⟨0, rfl, rfl, h⟩
def U8 (t8 : b8) (a : f7) (b : f7) (H : Hp) (K : f7 → b8 → Hp → Prop) : Prop :=
 K a t8 H
def P1 (a3I : Int) (d : f7) (m9 : b8) (e : f7) (H : Hp) (n2 : (f7 × b8 × f7) → Hp → Prop) (K : f7 → b8 → Hp → Prop) : Prop :=
 N7 m9 ⟨#[38, 38]⟩ H (fun f g i =>
 (f = true →
 Y4 g a3I i (fun j k l =>
 ∀ (a : Sl) (b : Hp), Hle l b → SlH b 4 i6 a [d, j] → a.n ≤ a.c →
 n2 ((f7.mk 5 0 (Sl.mk none 0 0) a), k, e) b)) ∧
 (f = false →
 U8 g d e i K))
def X3 (x0 : b8) (x1 : Int) (H : Hp) (K : f7 → b8 → Hp → Prop) : Prop :=
 Y4 x0 x1 H (fun a b c =>
 TL ((a, b, (f7.mk 0 0 (Sl.mk none 0 0) (Sl.mk none 0 0))) : f7 × b8 × f7) c fun (s : f7 × b8 × f7) H n2 => P1 x1 s.1 s.2.1 s.2.2 H n2 K)
theorem a4K (x0 x1) {H K} (h : X3 x0 x1 H K) : S2 x0 x1 H K := by
 intro g0
 refine Ct.of fun w0 w ps0 H0 R E I hR => c2V ?_
 unfold X3 at h
 unfold F90
 refine p8 I Tryz.zeroValue49 (cs := [(vi 0), (vi 0), (nS), (nS)]) rfl fun m ay ab az => ?_
 refine g8 Tryz.call127 (h g0) (ab.bring 1) ?_
 rintro _ ac _ ba ad _ _ ⟨p, ae, rfl, rfl, h⟩
 refine p8 ad Tryz.zeroValue49 (cs := [(vi 0), (vi 0), (nS), (nS)]) rfl fun q bb af bc => ?_
 refine g7 af Tryz.sizeOf49 (vs := (i6 p)) (cs' := (i6 p)) rfl rfl (nb rfl) rfl rfl fun bd ag be => ?_
 have hj1 : ∀ (t8 : b8) (g : f7) (r : f7) H w (_ : Inv w0 ps0 H0 H [bx g0 66 (l0 t8), bx q 49 (i6 g), bx m 49 (i6 r)] w) (_ : U8 t8 g r H K), b3Q (Value.pointer (some ⟨m, 0, none⟩)) (Value.pointer (some ⟨q, 0, none⟩)) w R E := by
  intro t8 g r H w I h
  unfold b3Q
  intro _
  unfold U8 at h
  refine g9 (lW Tryz.isAgg49 Tryz.sizeOf49 rfl (I.bring 1)) ?_
  refine g7 (I.bring 2) Tryz.sizeOf49 (vs := (i6 g)) (cs' := (i6 g)) rfl rfl (nb rfl) rfl rfl fun bf u bg => ?_
  refine y2 Tryz.isAgg49 Tryz.sizeOf49 rfl (u.at1 (o := 0) (vs := (i6 g)) (nb rfl) rfl) ?_
  exact hR _ H _ _ (u.drop.bring 1).drop ⟨g, t8, rfl, rfl, h⟩
 refine v8 fun j1 hx1 => ?_
 obtain ⟨t, i, ah, ai⟩ := h
 refine E9 (J := fun n l w => ∃ (s : f7 × b8 × f7) (H : Hp) , n = i s ∧ l = (match s with | (d, m9, f) => []) ∧ (match s with | (d, m9, f) => Inv w0 ps0 H0 H [bx q 49 (i6 d), bx g0 66 (l0 m9), bx m 49 (i6 f)] w) ∧ t s H) ⟨_, (p, ae, (f7.mk 0 0 (Sl.mk none 0 0) (Sl.mk none 0 0))), ac, rfl, rfl, (((ag.bring 2).bring 2).bring 2), ah⟩ ?_
 rintro bh bi w next2 ⟨⟨d, m9, f⟩, H, rfl, v, I, aj⟩ hn2
 dsimp only at v I
 clear v
 obtain ⟨n2, hm2, h⟩ : ∃ n2 : (f7 × b8 × f7) → Hp → Prop, (∀ s' H', n2 s' H' → t s' H' ∧ i s' < i (d, m9, f)) ∧ P1 x1 d m9 f H n2 K := ⟨_, fun _ _ h => h, ai (d, m9, f) H (fun s' H' => t s' H' ∧ i s' < i (d, m9, f)) aj (fun _ _ a b => ⟨a, b⟩)⟩
 unfold b7G
 unfold P1 at h
 refine g8 Tryz.call67 (h g0) (I.bring 1) ?_
 rintro _ ak _ bj y _ _ ⟨bk, z, rfl, rfl, h⟩
 refine p5 h (fun _ h => ?_) (fun _ h => ?_)
 ·refine V7 y fun bl j => ?_
  refine C7 (lW Tryz.isAgg49 Tryz.sizeOf49 rfl (j.bring 1)) ?_
  refine g8 Tryz.call127 (h g0) j ?_
  rintro _ _ _ bm al _ am ⟨an, ao, rfl, rfl, h⟩
  refine ⟨(am _ (j.bring 1).lt1 (Inv.Y1 (Fi := [bx g0 66 (l0 z)]) ((j.bring 1).bring 1))), ?_⟩
  refine U7 (e := 49) (c := i6) (xs := [d, an]) al (b1h _ _ _ _ _ _ _ _ _ _ _ _ _ _ _ _) rfl rfl R7 R8 (nb rfl) fun k bn bo ap aq bp => ?_
  refine p7 (a4s _ _ _ _) ?_
  refine g7 (aq.bring 2) Tryz.sizeOf49 (vs := [(vi 5), (vi 0), (nS), (vs k)]) (cs' := [(vi 5), (vi 0), (nS), (vs k)]) rfl rfl (nb rfl) rfl rfl fun bq ar br => ?_
  obtain ⟨aa, au, av, aw, ax⟩ := Inv.freezeC (ar.bring 1) ap (by decide)
  replace h := h k aa av aw ax
  exact hn2 _ _ _ (hm2 _ _ h).2 ⟨((f7.mk 5 0 (Sl.mk none 0 0) k), ao, f), aa, rfl, rfl, (((au.bring 2).bring 2).bring 2), (hm2 _ _ h).1⟩
 ·exact hx1 _ _ (hj1 z d f ak _ (((y.bring 2).bring 2).bring 2) h)
def W7 (a5q : Int) (a5r : Int) (a5s : Int) (a5t : Bool) (a5u : Bool) (a4G : (List ByteArray)) (H : Hp) (K : Bool → l7 → (List ByteArray) → Hp → Prop) : Prop :=
 K true (l7.mk a5q a5r a5s a5t a5u (Sl.mk none 0 0)) a4G H
def W8 (a3I : Int) (a3J : Sl) (s8 : Int) (a1J : Int) (a0O : Int) (a0P : Int) (a0Q : Int) (a0R : Bool) (a0S : Bool) (Z0 : (List ByteArray)) (H : Hp) (n2 : (Int × Int × Int × Int × Bool × Bool × (List ByteArray)) → Hp → Prop) (K : Bool → l7 → (List ByteArray) → Hp → Prop) : Prop :=
 (a1J < s8 →
 (0 : Int) ≤ a1J ∧ (a1J : Int) < a3J.n ∧ ∃ c : d8, EltH H a3J a1J 1 [(E5 c)] ∧
 a0K (l7.mk a0O a0P a0Q a0R a0S (Sl.mk none 0 0)) Z0 c a3I H (fun b d e f =>
 TG ((!b) = false) (a2C c f) (Sl.mk none 0 0) f (fun (j : Sl) (g : Hp) =>
 TG ((!b) = false) (fun k_ => V8 j (IntKind.wrap .i64 (a3I + 1)) (Y2 d) e g fun k l m H_ => k_ (k, l, m) H_) (false, (Y2 d), e) g (fun (a : Bool × l7 × (List ByteArray)) (i : Hp) =>
 (((!b) || (!a.1)) = true →
 K false (l7.mk (a.2.1.fnodes) (a.2.1.fdepth) (a.2.1.fe) (a.2.1.fform) (a.2.1.fnamed) (Sl.mk none 0 0)) a.2.2 i) ∧
 (((!b) || (!a.1)) = false →
 n2 ((IntKind.wrap .i64 (a1J + 1)), (a.2.1.fnodes), (a.2.1.fdepth), (a.2.1.fe), (a.2.1.fform), (a.2.1.fnamed), a.2.2) i))))) ∧
 (¬ (a1J < s8) →
 W7 a0O a0P a0Q a0R a0S Z0 H K)
def a2q (x0 : Sl) (x1 : Int) (x2 : l7) (a : (List ByteArray)) (H : Hp) (K : Bool → l7 → (List ByteArray) → Hp → Prop) : Prop :=
 TL ((0, x2.fnodes, x2.fdepth, x2.fe, x2.fform, x2.fnamed, a) : Int × Int × Int × Int × Bool × Bool × (List ByteArray)) H fun (s : Int × Int × Int × Int × Bool × Bool × (List ByteArray)) H n2 => W8 x1 x0 (x0.n : Int) s.1 s.2.1 s.2.2.1 s.2.2.2.1 s.2.2.2.2.1 s.2.2.2.2.2.1 s.2.2.2.2.2.2 H n2 K
theorem a7u (x0 x1 x2 ai) {H K} (h : a2q x0 x1 x2 ai H K) : V8 x0 x1 x2 ai H K := by
 intro g2 g2b g3 az ba bb
 refine Ct.of fun w0 w ps0 H0 R E I hR => c0v ?_
 unfold a2q at h
 unfold c3g
 have hj1 : ∀ (a5q : Int) (a5r : Int) (a5s : Int) (a5t : Bool) (a5u : Bool) (a4G : (List ByteArray)) (a7h : Sl) (a7i : Frag) H w (_ : RowL 9 1 G0 a7h a4G a7i) (_ : Inv w0 ps0 H0 H [bx g2 80 [(Value.pointer (some ⟨g2b, 0, none⟩))], bx g2b 79 [(vi a5q), (vi a5r), (vi a5s), (vB a5t), (vB a5u), (vs a7h)], bx g3 169 [(Value.func (.func 118) #[] #[(Value.pointer (some ⟨g2, 0, none⟩)), (Value.pointer (some ⟨g3, 0, none⟩))])], a7i] w) (_ : W7 a5q a5r a5s a5t a5u a4G H K), b1q w R E := by
  intro a5q a5r a5s a5t a5u a4G a7h a7i H w b7J I h
  unfold b1q
  intro _
  unfold W7 at h
  exact hR _ H _ _ ((((I.bring 2).bring 3).bring 3).bring 3) ⟨true, (l7.mk a5q a5r a5s a5t a5u (Sl.mk none 0 0)), a4G, a7h, a7i, rfl, rfl, b7J, h⟩
 refine v8 fun j1 hx1 => ?_
 refine b5 (a6v _ _ _) ?_
 obtain ⟨aj, z, bc, bd⟩ := h
 refine E9 (J := fun n l w => ∃ (s : Int × Int × Int × Int × Bool × Bool × (List ByteArray)) (H : Hp) (a5V : Sl) (a5W : Frag) , n = z s ∧ l = (match s with | (a1J, a0O, a0P, a0Q, a0R, a0S, Z0) => [(vi a1J)]) ∧ (match s with | (a1J, a0O, a0P, a0Q, a0R, a0S, Z0) => RowL 9 1 G0 a5V Z0 a5W) ∧ (match s with | (a1J, a0O, a0P, a0Q, a0R, a0S, Z0) => Inv w0 ps0 H0 H [bx g2 80 [(Value.pointer (some ⟨g2b, 0, none⟩))], bx g2b 79 [(vi a0O), (vi a0P), (vi a0Q), (vB a0R), (vB a0S), (vs a5V)], bx g3 169 [(Value.func (.func 118) #[] #[(Value.pointer (some ⟨g2, 0, none⟩)), (Value.pointer (some ⟨g3, 0, none⟩))])], a5W] w) ∧ aj s H) ⟨_, (0, x2.fnodes, x2.fdepth, x2.fe, x2.fform, x2.fnamed, ai), H, az, ba, rfl, rfl, bb, ((((I.bring 2).bring 3).bring 3).bring 3), bc⟩ ?_
 rintro bj bk w next2 ⟨⟨a1J, a0O, a0P, a0Q, a0R, a0S, Z0⟩, H, a5V, a5W, rfl, ak, a8K, I, be⟩ hn2
 dsimp only at ak I a8K
 simp only [List.map_cons, List.map_nil, List.cons.injEq, and_true] at ak
 have e11 := ak
 simp only [e11]
 obtain ⟨n2, hm2, h⟩ : ∃ n2 : (Int × Int × Int × Int × Bool × Bool × (List ByteArray)) → Hp → Prop, (∀ s' H', n2 s' H' → aj s' H' ∧ z s' < z (a1J, a0O, a0P, a0Q, a0R, a0S, Z0)) ∧ W8 x1 x0 (x0.n : Int) a1J a0O a0P a0Q a0R a0S Z0 H n2 K := ⟨_, fun _ _ h => h, bd (a1J, a0O, a0P, a0Q, a0R, a0S, Z0) H (fun s' H' => aj s' H' ∧ z s' < z (a1J, a0O, a0P, a0Q, a0R, a0S, Z0)) be (fun _ _ a b => ⟨a, b⟩)⟩
 unfold b5o
 unfold W8 at h
 refine b5 pLs ?_
 refine k7 h (fun _ h => ?_) (fun _ h => ?_)
 ·obtain ⟨bf, bg, bh, al, h⟩ := h
  obtain ⟨bl, bm, bi, al⟩ := al
  refine b5 (b7p bi _ _ _ _ bf bg) (g9 (ld1 (v := (E5 bh)) Tryz.isAgg131 (I.atH al)) ?_)
  refine V7 I fun bn ao => ?_
  refine C7 (l1 Tryz.isAgg80 ao rfl) ?_
  refine g8 Tryz.call119 (h g2b a5V a5W a8K) ((ao.bring 3).bring 2) ?_
  rintro _ ap _ aq o _ _ ⟨p, aa, am, ac, ad, rfl, rfl, ar, h⟩
  refine p7 (U5 _) ?_
  simp only [D2]
  refine p7 (Pu.g fun c => by simp only [o9 c]; with_reducible exact pAd) ?_
  refine C7 (Ld.g fun c => by exact (l1 Tryz.isAgg169 (o.bring 3) rfl)) ?_
  refine N6 (D := fun au u => ∃ (ab : Sl) (k : Hp), au = (gv (!p) false (vs ab)) ∧ (Inv w0 ps0 H0 k [bx g2b 79 (Z7 aa ac), ad, bx g2 80 [(Value.pointer (some ⟨g2b, 0, none⟩))], bx g3 169 [(Value.func (.func 118) #[] #[(Value.pointer (some ⟨g2, 0, none⟩)), (Value.pointer (some ⟨g3, 0, none⟩))])]] u) ∧ (∀ i, i < aq.heap.size → ¬ inF [] i → u.heap[i]? = aq.heap[i]?) ∧ Hle ap k ∧ (TG ((!p) = false) (fun k_ => V8 ab (IntKind.wrap .i64 (x1 + 1)) (Y2 aa) am k fun m d j H_ => k_ (m, d, j) H_) (false, (Y2 aa), am) k (fun (e : Bool × l7 × (List ByteArray)) (f : Hp) =>
 (((!p) || (!e.1)) = true →
 K false (l7.mk (e.2.1.fnodes) (e.2.1.fdepth) (e.2.1.fe) (e.2.1.fform) (e.2.1.fnamed) (Sl.mk none 0 0)) e.2.2 f) ∧
 (((!p) || (!e.1)) = false →
 n2 ((IntKind.wrap .i64 (a1J + 1)), (e.2.1.fnodes), (e.2.1.fdepth), (e.2.1.fe), (e.2.1.fform), (e.2.1.fnamed), e.2.2) f)))) (fun y => ?_) (fun y => ?_) ?_
  ·replace h := h.1 y
   have c := y
   simp only [o9 c]
   refine a7t o h (fun ab k u ae av an h => ?_)
   exact ⟨ab, k, by rfl, ae, an, av, h⟩
  ·exact ⟨(Sl.mk none 0 0), ap, by rw [W9 y], o, fun _ _ _ => rfl, Hle.refl _, h.2 y⟩
  ·clear h
   rintro au u ⟨ab, k, rfl, ae, an, av, h⟩
   refine ⟨(an _ (o.bring 3).lt1 (Inv.Y1 (Fi := []) (o.bring 3))), ?_⟩
   refine N6 (D := fun aw af => ∃ (m : Bool) (d : l7) (j : (List ByteArray)) (f : Hp) (q : Sl) (r : Frag) , aw = (gv (!p) false (vB m)) ∧ (RowL 9 1 G0 q j r) ∧ (Inv w0 ps0 H0 f [bx g2 80 [(Value.pointer (some ⟨g2b, 0, none⟩))], bx g2b 79 (Z7 d q), r, bx g3 169 [(Value.func (.func 118) #[] #[(Value.pointer (some ⟨g2, 0, none⟩)), (Value.pointer (some ⟨g3, 0, none⟩))])]] af) ∧ (∀ i, i < u.heap.size → ¬ inF [bx g2 80 [(Value.pointer (some ⟨g2b, 0, none⟩))], bx g2b 79 (Z7 aa ac), ad, bx g3 169 [(Value.func (.func 118) #[] #[(Value.pointer (some ⟨g2, 0, none⟩)), (Value.pointer (some ⟨g3, 0, none⟩))])]] i → af.heap[i]? = u.heap[i]?) ∧ Hle k f ∧ ((((!p) || (!m)) = true →
 K false (Y2 d) j f) ∧
 (((!p) || (!m)) = false →
 n2 ((IntKind.wrap .i64 (a1J + 1)), d.fnodes, d.fdepth, d.fe, d.fform, d.fnamed, j) f))) (fun t => ?_) (fun t => ?_) ?_
   ·replace h := h.1 t
    have c := t
    simp only [o9 c]
    refine a4T (cap := [(Value.pointer (some ⟨g2, 0, none⟩)), (Value.pointer (some ⟨g3, 0, none⟩))]) Tryz.call118 (h g2 g2b g3 ac ad ar) ((((ae.bring 3).bring 2).bring 2).bring 3) ?_
    rintro _ f _ af ag ax ay ⟨m, d, j, q, r, rfl, rfl, ah, h⟩
    exact ⟨m, d, j, f, q, r, by rfl, ah, ag, ay, ax, h⟩
   ·exact ⟨false, (Y2 aa), am, k, ac, ad, by rw [W9 t], ar, ((((ae.bring 3).bring 2).bring 2).bring 3), fun _ _ _ => rfl, Hle.refl _, h.2 t⟩
   ·clear h
    rintro aw af ⟨m, d, j, f, q, r, rfl, ah, ag, ay, ax, h⟩
    refine p7 (Pu.g fun c => by simp only [o9 c]; with_reducible exact (U5 _)) ?_
    refine p7 (N5 _ _) ?_
    refine p5 h (fun _ h => ?_) (fun _ h => ?_)
    ·exact hR _ f _ _ ((((ag.bring 3).bring 3).bring 3).bring 3) ⟨false, (Y2 d), j, q, r, rfl, rfl, ah, h⟩
    ·refine b5 pAd ?_
     exact hn2 _ _ _ (hm2 _ _ h).2 ⟨((IntKind.wrap .i64 (a1J + 1)), d.fnodes, d.fdepth, d.fe, d.fform, d.fnamed, j), f, q, r, rfl, rfl, ah, ((((ag.bring 2).bring 3).bring 3).bring 3), (hm2 _ _ h).1⟩
 ·exact hx1 _ _ (hj1 a0O a0P a0Q a0R a0S Z0 a5V a5W H _ a8K ((((I.bring 3).bring 3).bring 3).bring 3) h)
def P2 (c3W : Int) (c6U : ByteArray) (a7v : ByteArray) (c3X : ByteArray) (a7Y : ByteArray) (H : Hp) (K : Bool → Hp → Prop) : Prop :=
 a7Y.size + c3X.size ≤ 9223372036854775807 ∧
 Y3 (a7Y ++ c3X) H (fun d a b c =>
 (c3W ≤ 39 →
 TG (((decide (b = 0)) && (decide (a.A6 = 0 ∧ a.E7 = 0))) = true) (a1H d c) 0 c (fun (e : Int) (f : Hp) =>
 K (((decide (b = 0)) && (decide (a.A6 = 0 ∧ a.E7 = 0))) && (decide (e = 0))) f)) ∧
 (¬ (c3W ≤ 39) →
 K (((decide (b = 41)) && (decide ((d.a2f.n : Int) = 0))) && (decide (a.A6 = 1 ∧ a.E7 = (IntKind.wrap .i64 ((IntKind.wrap .i64 ((c6U.size : Int) + (IntKind.wrap .i64 (40 * (a7v.size : Int))))) + 1))))) c))
def P3 (b1O : Int) (c6V : ByteArray) (c6W : ByteArray) (c3Y : ByteArray) (b3V : ByteArray) (a1K : ByteArray) (a4w : Int) (H : Hp) (n4 : (ByteArray × Int) → Hp → Prop) (K : Bool → Hp → Prop) : Prop :=
 (a4w < b1O →
 a1K.size + c3Y.size ≤ 9223372036854775807 ∧
 n4 ((a1K ++ c3Y), (IntKind.wrap .i64 (a4w + 1))) H) ∧
 (¬ (a4w < b1O) →
 P2 b1O c6V c6W b3V a1K H K)
def P4 (c6X : Int) (c6Y : ByteArray) (c6Z : ByteArray) (c3Z : ByteArray) (c7a : ByteArray) (c7b : ByteArray) (a7j : ByteArray) (H : Hp) (K : Bool → Hp → Prop) : Prop :=
 a7j.size + c3Z.size ≤ 9223372036854775807 ∧
 TL (((a7j ++ c3Z), 0) : ByteArray × Int) H fun (s : ByteArray × Int) H n4 => P3 c6X c6Y c6Z c7a c7b s.1 s.2 H n4 K
def P5 (b8E : Int) (c7c : ByteArray) (b8F : ByteArray) (c7d : ByteArray) (c7e : ByteArray) (c7f : ByteArray) (a3u : ByteArray) (a4x : Int) (H : Hp) (n5 : (ByteArray × Int) → Hp → Prop) (K : Bool → Hp → Prop) : Prop :=
 (a4x < b8E →
 a3u.size + b8F.size ≤ 9223372036854775807 ∧
 n5 ((a3u ++ b8F), (IntKind.wrap .i64 (a4x + 1))) H) ∧
 (¬ (a4x < b8E) →
 P4 b8E c7c b8F c7d c7e c7f a3u H K)
def y7 (b6B : Int) (Q7 : ByteArray) (a5e : ByteArray) (a7w : ByteArray) (a6M : ByteArray) (a6d : ByteArray) (H : Hp) (K : Bool → Hp → Prop) : Prop :=
 TL ((Q7, 0) : ByteArray × Int) H fun (s : ByteArray × Int) H n5 => P5 b6B Q7 a5e a7w a6M a6d s.1 s.2 H n5 K
def a1N (x0 : Int) (x1 : Int) (H : Hp) (K : Bool → Hp → Prop) : Prop :=
 a1f H (fun b a =>
 ((!b) = true →
 K false a) ∧
 ((!b) = false →
 (((decide (x0 < 0)) || (decide (200 < x0))) = true →
 K true a) ∧
 (((decide (x0 < 0)) || (decide (200 < x0))) = false →
 (x1 = 1 →
 y7 x0 ⟨#[120, 32, 61, 32]⟩ ⟨#[45]⟩ ⟨#[49]⟩ ⟨#[]⟩ ⟨#[59]⟩ a K) ∧
 (¬ (x1 = 1) →
 (x1 = 2 →
 y7 x0 ⟨#[97, 115, 115, 101, 114, 116, 32]⟩ ⟨#[33]⟩ ⟨#[116, 114, 117, 101]⟩ ⟨#[]⟩ ⟨#[59]⟩ a K) ∧
 (¬ (x1 = 2) →
 (x1 = 3 →
 y7 x0 ⟨#[97, 115, 115, 101, 114, 116, 32]⟩ ⟨#[91]⟩ ⟨#[120, 32, 60, 32, 49]⟩ ⟨#[93]⟩ ⟨#[59]⟩ a K) ∧
 (¬ (x1 = 3) →
 (x1 = 4 →
 y7 x0 ⟨#[]⟩ ⟨#[105, 102, 32, 116, 114, 117, 101, 32, 123]⟩ ⟨#[115, 107, 105, 112, 59]⟩ ⟨#[125]⟩ ⟨#[]⟩ a K) ∧
 (¬ (x1 = 4) →
 y7 x0 ⟨#[120, 32, 61, 32]⟩ ⟨#[40]⟩ ⟨#[49]⟩ ⟨#[41]⟩ ⟨#[59]⟩ a K)))))))
theorem a4L (x0 x1) {H K} (h : a1N x0 x1 H K) : X2 x0 x1 H K := by
 refine Ct.of fun w0 w ps0 H0 R E I hR => c5p ?_
 unfold a1N at h
 unfold F4
 refine g8 Tryz.call8 h I ?_
 rintro _ f _ az j _ _ ⟨ba, rfl, rfl, h⟩
 refine b5 (U5 _) ?_
 refine p5 h (fun _ h => ?_) (fun _ h => ?_)
 ·exact hR _ f _ _ j ⟨false, rfl, rfl, h⟩
 ·refine b5 pLs ?_
  simp only [D2]
  refine b5 (Pu.g fun c => by simp only [o9 c]; with_reducible exact pGt) ?_
  refine b5 (N5 _ _) ?_
  refine p5 h (fun _ h => ?_) (fun _ h => ?_)
  ·exact hR _ f _ _ j ⟨true, rfl, rfl, h⟩
  ·have hj1 : ∀ (Q7 : ByteArray) (a5e : ByteArray) (a7w : ByteArray) (a6M : ByteArray) (a6d : ByteArray) H w (_ : Inv w0 ps0 H0 H [] w) (_ : y7 x0 Q7 a5e a7w a6M a6d H K), b6y (vi x0) (Value.string Q7) (Value.string a5e) (Value.string a7w) (Value.string a6M) (Value.string a6d) w R E := by
    intro Q7 a5e a7w a6M a6d H w I h
    unfold b6y
    intro _
    unfold y7 at h
    have hj2 : ∀ (a7j : ByteArray) H w (_ : Inv w0 ps0 H0 H [] w) (_ : P4 x0 Q7 a5e a7w a6M a6d a7j H K), b6x (vi x0) (Value.string Q7) (Value.string a5e) (Value.string a7w) (Value.string a6M) (Value.string a6d) (Value.string a7j) w R E := by
     intro a7j H w I h
     unfold b6x
     intro _
     unfold P4 at h
     obtain ⟨ah, h⟩ := h
     refine b5 (b0q _ _ _ a7j a7w ah) ?_
     have hj3 : ∀ (a7Y : ByteArray) H w (_ : Inv w0 ps0 H0 H [] w) (_ : P2 x0 Q7 a5e a6d a7Y H K), b6w (vi x0) (Value.string Q7) (Value.string a5e) (Value.string a6d) (Value.string a7Y) w R E := by
      intro a7Y H w I h
      unfold b6w
      intro _
      unfold P2 at h
      obtain ⟨ai, h⟩ := h
      refine b5 (b0q _ _ _ a7Y a6d ai) ?_
      refine g8 Tryz.call9 h I ?_
      rintro _ v _ bb aj _ _ ⟨t, e, p, rfl, rfl, h⟩
      refine b5 (j8 _ _ _ rfl) (b5 (j8 _ _ _ rfl) (b5 (j8 _ _ (vi p) rfl) ?_))
      refine p8 aj Tryz.zeroValue26 (cs := [(nS), (nS)]) rfl fun ak bc al bd => ?_
      refine p8 al Tryz.zeroValue28 (cs := [(vi 0), (vi 0)]) rfl fun am be an bf => ?_
      refine g7 (an.bring 1) Tryz.sizeOf26 (vs := (p9 t)) (cs' := (p9 t)) rfl rfl (nb rfl) rfl rfl fun bg ao bh => ?_
      refine g7 (ao.bring 1) Tryz.sizeOf28 (vs := (j9 e)) (cs' := (j9 e)) rfl rfl (nb rfl) rfl rfl fun ad d bi => ?_
      refine b5 pLe ?_
      refine k7 h (fun _ h => ?_) (fun _ h => ?_)
      ·refine b5 pEq ?_
       refine g9 (Ld.g fun c => by exact (lW Tryz.isAgg28 Tryz.sizeOf28 rfl d)) ?_
       refine b5 (Pu.g fun c => by with_reducible exact (b2l )) ?_
       refine b5 (Pu.g fun c => by simp only [o9 c]; with_reducible exact (a9V _ _ _ _ _ _)) ?_
       refine b5 (F6 _ _) ?_
       refine g9 (Ld.g fun c => by exact (lW Tryz.isAgg26 Tryz.sizeOf26 rfl (d.bring 1))) ?_
       refine N6 (D := fun ae u => ∃ (o : Int) (k : Hp) , ae = (gv ((decide (p = 0)) && (decide (e.A6 = 0 ∧ e.E7 = 0))) true (vi o)) ∧ (Inv w0 ps0 H0 k [bx am 28 (j9 e), bx ak 26 (p9 t)] u) ∧ (∀ i, i < ad.heap.size → ¬ inF [] i → u.heap[i]? = ad.heap[i]?) ∧ Hle v k ∧ (K (((decide (p = 0)) && (decide (e.A6 = 0 ∧ e.E7 = 0))) && (decide (o = 0))) k)) (fun m => ?_) (fun m => ?_) ?_
       ·replace h := h.1 m
        have c := m
        simp only [o9 c]
        refine g8 Tryz.call12 h d ?_
        rintro _ k _ u y af ag ⟨o, rfl, rfl, h⟩
        exact ⟨o, k, by rfl, y, ag, af, h⟩
       ·exact ⟨0, v, by rw [W9 m], d, fun _ _ _ => rfl, Hle.refl _, h.2 m⟩
       ·clear h
        rintro ae u ⟨o, k, rfl, y, ag, af, h⟩
        refine b5 (Pu.g fun c => by simp only [o9 c]; with_reducible exact pEq) ?_
        refine b5 (F6 _ _) ?_
        exact hR _ k _ _ y.drop.drop ⟨(((decide (p = 0)) && (decide (e.A6 = 0 ∧ e.E7 = 0))) && (decide (o = 0))), rfl, rfl, h⟩
      ·refine b5 pEq ?_
       refine b5 (Pu.g fun c => by with_reducible exact a2L) ?_
       refine g9 (Ld.g fun c => by simp only [o9 c]; exact (l1 Tryz.isAgg24 (d.bring 1) rfl)) ?_
       refine b5 (Pu.g fun c => by simp only [o9 c]; with_reducible exact (a4E _ _ _)) ?_
       refine b5 (Pu.g fun c => by simp only [o9 c]; with_reducible exact pEq) ?_
       refine b5 (F6 _ _) ?_
       refine g9 (Ld.g fun c => by exact (lW Tryz.isAgg28 Tryz.sizeOf28 rfl d)) ?_
       simp only [D2]
       refine b5 (Pu.g fun c => by simp only [o9 c]; with_reducible exact (a3B _)) ?_
       refine b5 (Pu.g fun c => by simp only [o9 c]; with_reducible exact (a3B _)) ?_
       refine b5 (Pu.g fun c => by simp only [o9 c]; with_reducible exact pMu) ?_
       refine b5 (Pu.g fun c => by simp only [o9 c]; with_reducible exact pAd) ?_
       refine b5 (Pu.g fun c => by simp only [o9 c]; with_reducible exact pAd) ?_
       refine b5 (Pu.g fun c => by simp only [o9 c]; with_reducible exact (a6c _ _)) ?_
       refine b5 (Pu.g fun c => by simp only [o9 c]; with_reducible exact (a9V _ _ _ _ _ _)) ?_
       refine b5 (F6 _ _) ?_
       exact hR _ v _ _ d.drop.drop ⟨(((decide (p = 41)) && (decide ((t.a2f.n : Int) = 0))) && (decide (e.A6 = 1 ∧ e.E7 = (IntKind.wrap .i64 ((IntKind.wrap .i64 ((Q7.size : Int) + (IntKind.wrap .i64 (40 * (a5e.size : Int))))) + 1))))), rfl, rfl, h⟩
     refine v8 fun j3 hx3 => ?_
     obtain ⟨z, q, ap, aq⟩ := h
     refine E9 (J := fun n l w => ∃ (s : ByteArray × Int) (H : Hp) , n = q s ∧ l = (match s with | (a1K, a4w) => [(Value.string a1K), (vi a4w)]) ∧ (match s with | (a1K, a4w) => Inv w0 ps0 H0 H [] w) ∧ z s H) ⟨_, ((a7j ++ a7w), 0), H, rfl, rfl, I, ap⟩ ?_
     rintro bj bk w next4 ⟨⟨a1K, a4w⟩, H, rfl, aa, I, ar⟩ hn4
     dsimp only at aa I
     simp only [List.map_cons, List.map_nil, List.cons.injEq, and_true] at aa
     obtain ⟨e10, e12⟩ := aa
     simp only [e10, e12]
     obtain ⟨n4, hm4, h⟩ : ∃ n4 : (ByteArray × Int) → Hp → Prop, (∀ s' H', n4 s' H' → z s' H' ∧ q s' < q (a1K, a4w)) ∧ P3 x0 Q7 a5e a6M a6d a1K a4w H n4 K := ⟨_, fun _ _ h => h, aq (a1K, a4w) H (fun s' H' => z s' H' ∧ q s' < q (a1K, a4w)) ar (fun _ _ a b => ⟨a, b⟩)⟩
     unfold b9N
     unfold P3 at h
     refine b5 pLs ?_
     refine k7 h (fun _ h => ?_) (fun _ h => ?_)
     ·obtain ⟨au, h⟩ := h
      refine b5 (b0q _ _ _ a1K a6M au) (b5 pAd ?_)
      exact hn4 _ _ _ (hm4 _ _ h).2 ⟨((a1K ++ a6M), (IntKind.wrap .i64 (a4w + 1))), H, rfl, rfl, I, (hm4 _ _ h).1⟩
     ·exact hx3 _ _ (hj3 a1K H _ I h)
    refine v8 fun j2 hx2 => ?_
    obtain ⟨ab, r, av, aw⟩ := h
    refine E9 (J := fun n l w => ∃ (s : ByteArray × Int) (H : Hp) , n = r s ∧ l = (match s with | (a3u, a4x) => [(Value.string a3u), (vi a4x)]) ∧ (match s with | (a3u, a4x) => Inv w0 ps0 H0 H [] w) ∧ ab s H) ⟨_, (Q7, 0), H, rfl, rfl, I, av⟩ ?_
    rintro bl bm w next5 ⟨⟨a3u, a4x⟩, H, rfl, ac, I, ax⟩ hn5
    dsimp only at ac I
    simp only [List.map_cons, List.map_nil, List.cons.injEq, and_true] at ac
    obtain ⟨e10, e11⟩ := ac
    simp only [e10, e11]
    obtain ⟨n5, hm5, h⟩ : ∃ n5 : (ByteArray × Int) → Hp → Prop, (∀ s' H', n5 s' H' → ab s' H' ∧ r s' < r (a3u, a4x)) ∧ P5 x0 Q7 a5e a7w a6M a6d a3u a4x H n5 K := ⟨_, fun _ _ h => h, aw (a3u, a4x) H (fun s' H' => ab s' H' ∧ r s' < r (a3u, a4x)) ax (fun _ _ a b => ⟨a, b⟩)⟩
    unfold b9O
    unfold P5 at h
    refine b5 pLs ?_
    refine k7 h (fun _ h => ?_) (fun _ h => ?_)
    ·obtain ⟨ay, h⟩ := h
     refine b5 (b0q _ _ _ a3u a5e ay) (b5 pAd ?_)
     exact hn5 _ _ _ (hm5 _ _ h).2 ⟨((a3u ++ a5e), (IntKind.wrap .i64 (a4x + 1))), H, rfl, rfl, I, (hm5 _ _ h).1⟩
    ·exact hx2 _ _ (hj2 a3u H _ I h)
   refine v8 fun j1 hx1 => ?_
   refine b5 pEq ?_
   refine k7 h (fun _ h => ?_) (fun _ h => ?_)
   ·exact hx1 _ _ (hj1 ⟨#[120, 32, 61, 32]⟩ ⟨#[45]⟩ ⟨#[49]⟩ ⟨#[]⟩ ⟨#[59]⟩ f _ j h)
   ·refine b5 pEq ?_
    refine k7 h (fun _ h => ?_) (fun _ h => ?_)
    ·exact hx1 _ _ (hj1 ⟨#[97, 115, 115, 101, 114, 116, 32]⟩ ⟨#[33]⟩ ⟨#[116, 114, 117, 101]⟩ ⟨#[]⟩ ⟨#[59]⟩ f _ j h)
    ·refine b5 pEq ?_
     refine k7 h (fun _ h => ?_) (fun _ h => ?_)
     ·exact hx1 _ _ (hj1 ⟨#[97, 115, 115, 101, 114, 116, 32]⟩ ⟨#[91]⟩ ⟨#[120, 32, 60, 32, 49]⟩ ⟨#[93]⟩ ⟨#[59]⟩ f _ j h)
     ·refine b5 pEq ?_
      refine k7 h (fun _ h => ?_) (fun _ h => ?_)
      ·exact hx1 _ _ (hj1 ⟨#[]⟩ ⟨#[105, 102, 32, 116, 114, 117, 101, 32, 123]⟩ ⟨#[115, 107, 105, 112, 59]⟩ ⟨#[125]⟩ ⟨#[]⟩ f _ j h)
      ·exact hx1 _ _ (hj1 ⟨#[120, 32, 61, 32]⟩ ⟨#[40]⟩ ⟨#[49]⟩ ⟨#[41]⟩ ⟨#[59]⟩ f _ j h)
def a3f [PanQ] (x0 : b6) (x1 : ByteArray) (H : Hp) (K : b6 → Hp → Prop) : Prop :=
 s7 x0 x1 H (fun b a c =>
 ((!b) = true →
 C6 a c (fun d =>
 K a d)) ∧
 ((!b) = false →
 K a c))
theorem a6e [PanQ] (x0 : b6) (x1 : ByteArray) {H : Hp} {K : b6 → Hp → Prop} (h : a3f x0 x1 H K) : A7 x0 x1 H K := by
 intro g0
 refine Ct.ofE fun w0 w ps0 H0 R E I hR hE => c0q ?_
 unfold a3f at h
 unfold c3b
 refine g8 Tryz.call105 (h g0) I ?_
 rintro _ c _ f a _ _ ⟨g, b, rfl, rfl, h⟩
 refine b5 (U5 _) ?_
 refine p5 h (fun _ h => ?_) (fun _ h => ?_)
 ·refine v7 hE Tryz.call52 (h g0) a ?_
  rintro _ d _ i e _ _ ⟨rfl, rfl, h⟩
  exact hR _ d _ _ e ⟨b, rfl, rfl, h⟩
 ·exact hR _ c _ _ a ⟨b, rfl, rfl, h⟩
def T5 [PanQ] (t8 : b6) (a : b7) (b : b7) (H : Hp) (K : b7 → b6 → Hp → Prop) : Prop :=
 K a (b6.mk t8.fl (IntKind.wrap .i64 (t8.fn + 1))) H
def a3g [PanQ] (x0 : b6) (H : Hp) (K : b7 → b6 → Hp → Prop) : Prop :=
 y8 x0 H (fun a b =>
 (a.g6 = 5 →
 C6 x0 b (fun c =>
 T5 x0 a (b7.mk 0 ⟨#[]⟩ 0 (c8.mk 0 0)) c K)) ∧
 (¬ (a.g6 = 5) →
 T5 x0 a (b7.mk 0 ⟨#[]⟩ 0 (c8.mk 0 0)) b K))
theorem a6f [PanQ] (x0 : b6) {H : Hp} {K : b7 → b6 → Hp → Prop} (h : a3g x0 H K) : M8 x0 H K := by
 intro g0
 refine Ct.ofE fun w0 w ps0 H0 R E I hR hE => c0r ?_
 unfold a3g at h
 unfold c3c
 refine p8 I Tryz.zeroValue103 (cs := [(vi 0), (eS), (vi 0), (vi 0), (vi 0)]) rfl fun c n g p => ?_
 refine g8 Tryz.call51 (h g0) (g.bring 1) ?_
 rintro _ i _ q j _ _ ⟨a, rfl, rfl, h⟩
 refine p8 j Tryz.zeroValue103 (cs := [(vi 0), (eS), (vi 0), (vi 0), (vi 0)]) rfl fun d r k s => ?_
 refine g7 k Tryz.sizeOf103 (vs := (d9 a)) (cs' := (d9 a)) rfl rfl (nb rfl) rfl rfl fun t b u => ?_
 have hj1 : ∀ H w (_ : Inv w0 ps0 H0 H [bx g0 101 (b9 x0), bx d 103 (d9 a), bx c 103 [(vi (b7.mk 0 ⟨#[]⟩ 0 (c8.mk 0 0)).g6), (Value.string (b7.mk 0 ⟨#[]⟩ 0 (c8.mk 0 0)).B3), (vi (b7.mk 0 ⟨#[]⟩ 0 (c8.mk 0 0)).T4), (vi (b7.mk 0 ⟨#[]⟩ 0 (c8.mk 0 0)).fAt.A6), (vi (b7.mk 0 ⟨#[]⟩ 0 (c8.mk 0 0)).fAt.E7)]] w) (_ : T5 x0 a (b7.mk 0 ⟨#[]⟩ 0 (c8.mk 0 0)) H K), b1o (Value.pointer (some ⟨g0, 0, none⟩)) (Value.pointer (some ⟨c, 0, none⟩)) (Value.pointer (some ⟨d, 0, none⟩)) w R E := by
  intro H w I h
  unfold b1o
  intro _
  unfold T5 at h
  refine b5 (s9 _) (b5 a2p (g9 (l1 Tryz.isAgg3 I rfl) (b5 pAd (b5 (s9 _) ?_))))
  refine b5 a2p ?_
  refine g7 I Tryz.sizeOf3 (vs := [(vi (IntKind.wrap .i64 (x0.fn + 1)))]) (cs' := [(vs x0.fl), (vi (IntKind.wrap .i64 (x0.fn + 1)))]) rfl rfl (nb rfl) rfl rfl fun v e y => ?_
  refine g9 (lW Tryz.isAgg103 Tryz.sizeOf103 rfl (e.bring 1)) ?_
  refine g7 (e.bring 2) Tryz.sizeOf103 (vs := (d9 a)) (cs' := (d9 a)) rfl rfl (nb rfl) rfl rfl fun z f aa => ?_
  refine y2 Tryz.isAgg103 Tryz.sizeOf103 rfl (f.at1 (o := 0) (vs := (d9 a)) (nb rfl) rfl) ?_
  exact hR _ H _ _ (f.drop.bring 1).drop ⟨a, (b6.mk x0.fl (IntKind.wrap .i64 (x0.fn + 1))), rfl, rfl, h⟩
 refine v8 fun j1 hx1 => ?_
 refine b5 a0q (g9 (l1 Tryz.isAgg3 b rfl) (b5 pEq ?_))
 refine k7 h (fun _ h => ?_) (fun _ h => ?_)
 ·refine v7 hE Tryz.call52 (h g0) (b.bring 1) ?_
  rintro _ l _ ab m _ _ ⟨rfl, rfl, h⟩
  exact hx1 _ _ (hj1 l _ (((m.bring 2).bring 2).bring 2) h)
 ·exact hx1 _ _ (hj1 i _ (((b.bring 2).bring 1).bring 2) h)
def O5 [PanQ] (t8 : b6) (d : b7) (H : Hp) (K : b7 → b6 → Hp → Prop) : Prop :=
 M8 t8 H (fun a b c =>
 K a b c)
def a3h [PanQ] (x0 : b6) (x1 : Int) (H : Hp) (K : b7 → b6 → Hp → Prop) : Prop :=
 y8 x0 H (fun a b =>
 (¬ (a.g6 = x1) →
 C6 x0 b (fun c =>
 O5 x0 (b7.mk 0 ⟨#[]⟩ 0 (c8.mk 0 0)) c K)) ∧
 (a.g6 = x1 →
 O5 x0 (b7.mk 0 ⟨#[]⟩ 0 (c8.mk 0 0)) b K))
theorem a6g [PanQ] (x0 : b6) (x1 : Int) {H : Hp} {K : b7 → b6 → Hp → Prop} (h : a3h x0 x1 H K) : a0L x0 x1 H K := by
 intro g0
 refine Ct.ofE fun w0 w ps0 H0 R E I hR hE => c0p ?_
 unfold a3h at h
 unfold c3a
 refine p8 I Tryz.zeroValue103 (cs := [(vi 0), (eS), (vi 0), (vi 0), (vi 0)]) rfl fun b m e n => ?_
 have hj1 : ∀ H w (_ : Inv w0 ps0 H0 H [bx g0 101 (b9 x0), bx b 103 [(vi (b7.mk 0 ⟨#[]⟩ 0 (c8.mk 0 0)).g6), (Value.string (b7.mk 0 ⟨#[]⟩ 0 (c8.mk 0 0)).B3), (vi (b7.mk 0 ⟨#[]⟩ 0 (c8.mk 0 0)).T4), (vi (b7.mk 0 ⟨#[]⟩ 0 (c8.mk 0 0)).fAt.A6), (vi (b7.mk 0 ⟨#[]⟩ 0 (c8.mk 0 0)).fAt.E7)]] w) (_ : O5 x0 (b7.mk 0 ⟨#[]⟩ 0 (c8.mk 0 0)) H K), b1n (Value.pointer (some ⟨g0, 0, none⟩)) (Value.pointer (some ⟨b, 0, none⟩)) w R E := by
  intro H w I h
  unfold b1n
  intro _
  unfold O5 at h
  refine v7 hE Tryz.call104 (h g0) I ?_
  rintro _ f _ p g _ _ ⟨a, i, rfl, rfl, h⟩
  refine g7 (g.bring 1) Tryz.sizeOf103 (vs := (d9 a)) (cs' := (d9 a)) rfl rfl (nb rfl) rfl rfl fun q c r => ?_
  refine y2 Tryz.isAgg103 Tryz.sizeOf103 rfl (c.at1 (o := 0) (vs := (d9 a)) (nb rfl) rfl) ?_
  exact hR _ f _ _ c.drop ⟨a, i, rfl, rfl, h⟩
 refine v8 fun j1 hx1 => ?_
 refine g8 Tryz.call51 (h g0) (e.bring 1) ?_
 rintro _ j _ s d _ _ ⟨t, rfl, rfl, h⟩
 refine b5 a4X (b5 pNe ?_)
 refine a6H h (fun _ h => ?_) (fun _ h => ?_)
 ·refine v7 hE Tryz.call52 (h g0) d ?_
  rintro _ k _ u l _ _ ⟨rfl, rfl, h⟩
  exact hx1 _ _ (hj1 k _ ((l.bring 1).bring 1) h)
 ·exact hx1 _ _ (hj1 j _ ((d.bring 1).bring 1) h)
def a1O (x0 : b6) (H : Hp) (K : Bool → Hp → Prop) : Prop :=
 E1 x0 H (fun a d =>
 TG (a = false) (i7 x0 ⟨#[116, 114, 117, 101]⟩ d) false d (fun (b : Bool) (e : Hp) =>
 TG ((a || b) = false) (i7 x0 ⟨#[102, 97, 108, 115, 101]⟩ e) false e (fun (c : Bool) (f : Hp) =>
 TG (((a || b) || c) = false) (i7 x0 ⟨#[33]⟩ f) false f (fun (g : Bool) (i : Hp) =>
 TG ((((a || b) || c) || g) = false) (i7 x0 ⟨#[91]⟩ i) false i (fun (j : Bool) (k : Hp) =>
 K ((((a || b) || c) || g) || j) k)))))
theorem a4M (x0) {H K} (h : a1O x0 H K) : M1 x0 H K := by
 intro g0
 refine Ct.of fun w0 w ps0 H0 R E I hR => c0B ?_
 unfold a1O at h
 unfold c3m
 refine g8 Tryz.call141 (h g0) I ?_
 rintro _ aa _ ab ac _ _ ⟨c, rfl, rfl, h⟩
 simp only [D2]
 refine N6 (D := fun ad q => ∃ (a : Bool) (l : Hp) , ad = (gv c false (vB a)) ∧ (Inv w0 ps0 H0 l [bx g0 101 (b9 x0)] q) ∧ (∀ i, i < ab.heap.size → ¬ inF [bx g0 101 (b9 x0)] i → q.heap[i]? = ab.heap[i]?) ∧ Hle aa l ∧ (TG ((c || a) = false) (i7 x0 ⟨#[102, 97, 108, 115, 101]⟩ l) false l (fun (b : Bool) (g : Hp) =>
 TG (((c || a) || b) = false) (i7 x0 ⟨#[33]⟩ g) false g (fun (d : Bool) (e : Hp) =>
 TG ((((c || a) || b) || d) = false) (i7 x0 ⟨#[91]⟩ e) false e (fun (j : Bool) (f : Hp) =>
 K ((((c || a) || b) || d) || j) f))))) (fun m => ?_) (fun m => ?_) ?_
 ·replace h := h.1 m
  have k := m
  simp only [o9 k]
  refine g8 Tryz.call53 (h g0) ac ?_
  rintro _ l _ q t ae af ⟨a, rfl, rfl, h⟩
  exact ⟨a, l, by rfl, t, af, ae, h⟩
 ·exact ⟨false, aa, by rw [W9 m], ac, fun _ _ _ => rfl, Hle.refl _, h.2 m⟩
 ·clear h
  rintro ad q ⟨a, l, rfl, t, af, ae, h⟩
  refine b5 (N5 _ _) ?_
  simp only [D2]
  refine N6 (D := fun ag r => ∃ (b : Bool) (g : Hp) , ag = (gv (c || a) false (vB b)) ∧ (Inv w0 ps0 H0 g [bx g0 101 (b9 x0)] r) ∧ (∀ i, i < q.heap.size → ¬ inF [bx g0 101 (b9 x0)] i → r.heap[i]? = q.heap[i]?) ∧ Hle l g ∧ (TG (((c || a) || b) = false) (i7 x0 ⟨#[33]⟩ g) false g (fun (d : Bool) (e : Hp) =>
 TG ((((c || a) || b) || d) = false) (i7 x0 ⟨#[91]⟩ e) false e (fun (j : Bool) (f : Hp) =>
 K ((((c || a) || b) || d) || j) f)))) (fun n => ?_) (fun n => ?_) ?_
  ·replace h := h.1 n
   have k := n
   simp only [o9 k]
   refine g8 Tryz.call53 (h g0) t ?_
   rintro _ g _ r u ah ai ⟨b, rfl, rfl, h⟩
   exact ⟨b, g, by rfl, u, ai, ah, h⟩
  ·exact ⟨false, l, by rw [W9 n], t, fun _ _ _ => rfl, Hle.refl _, h.2 n⟩
  ·clear h
   rintro ag r ⟨b, g, rfl, u, ai, ah, h⟩
   refine b5 (N5 _ _) ?_
   simp only [D2]
   refine N6 (D := fun aj s => ∃ (d : Bool) (e : Hp) , aj = (gv ((c || a) || b) false (vB d)) ∧ (Inv w0 ps0 H0 e [bx g0 101 (b9 x0)] s) ∧ (∀ i, i < r.heap.size → ¬ inF [bx g0 101 (b9 x0)] i → s.heap[i]? = r.heap[i]?) ∧ Hle g e ∧ (TG ((((c || a) || b) || d) = false) (i7 x0 ⟨#[91]⟩ e) false e (fun (j : Bool) (f : Hp) =>
 K ((((c || a) || b) || d) || j) f))) (fun o => ?_) (fun o => ?_) ?_
   ·replace h := h.1 o
    have k := o
    simp only [o9 k]
    refine g8 Tryz.call53 (h g0) u ?_
    rintro _ e _ s v ak al ⟨d, rfl, rfl, h⟩
    exact ⟨d, e, by rfl, v, al, ak, h⟩
   ·exact ⟨false, g, by rw [W9 o], u, fun _ _ _ => rfl, Hle.refl _, h.2 o⟩
   ·clear h
    rintro aj s ⟨d, e, rfl, v, al, ak, h⟩
    refine b5 (N5 _ _) ?_
    simp only [D2]
    refine N6 (D := fun am y => ∃ (j : Bool) (f : Hp) , am = (gv (((c || a) || b) || d) false (vB j)) ∧ (Inv w0 ps0 H0 f [bx g0 101 (b9 x0)] y) ∧ (∀ i, i < s.heap.size → ¬ inF [bx g0 101 (b9 x0)] i → y.heap[i]? = s.heap[i]?) ∧ Hle e f ∧ (K ((((c || a) || b) || d) || j) f)) (fun p => ?_) (fun p => ?_) ?_
    ·replace h := h.1 p
     have k := p
     simp only [o9 k]
     refine g8 Tryz.call53 (h g0) v ?_
     rintro _ f _ y z an ao ⟨j, rfl, rfl, h⟩
     exact ⟨j, f, by rfl, z, ao, an, h⟩
    ·exact ⟨false, e, by rw [W9 p], v, fun _ _ _ => rfl, Hle.refl _, h.2 p⟩
    ·clear h
     rintro am y ⟨j, f, rfl, z, ao, an, h⟩
     refine b5 (N5 _ _) ?_
     exact hR _ f _ _ z ⟨((((c || a) || b) || d) || j), rfl, rfl, h⟩
def Q2 [PanQ] (a9X : Int) (t8 : b6) (o : f7) (H : Hp) (K : f7 → b6 → Hp → Prop) : Prop :=
 M7 t8 a9X H (fun d e f =>
 Y5 e f (fun g i j =>
 M7 i a9X j (fun k l m =>
 ∀ (a : Sl) (b : Hp), Hle m b → SlH b 4 f9 a [d, k] → a.n ≤ a.c →
 K (f7.mk 3 g a (Sl.mk none 0 0)) l b)))
def a1g [PanQ] (x0 : b6) (x1 : Int) (H : Hp) (K : f7 → b6 → Hp → Prop) : Prop :=
 M1 x0 H (fun f g =>
 ((!f) = true →
 C6 x0 g (fun t =>
 Q2 x1 x0 (f7.mk 0 0 (Sl.mk none 0 0) (Sl.mk none 0 0)) t K)) ∧
 ((!f) = false →
 s7 x0 ⟨#[116, 114, 117, 101]⟩ g (fun i j k =>
 (i = true →
 K (f7.mk 1 0 (Sl.mk none 0 0) (Sl.mk none 0 0)) j k) ∧
 (i = false →
 s7 j ⟨#[102, 97, 108, 115, 101]⟩ k (fun l m o =>
 (l = true →
 K (f7.mk 2 0 (Sl.mk none 0 0) (Sl.mk none 0 0)) m o) ∧
 (l = false →
 s7 m ⟨#[33]⟩ o (fun p a q =>
 (p = true →
 M1 a q (fun u v =>
 B1 a (IntKind.wrap .i64 (x1 + 1)) u v (fun y =>
 S7 a (IntKind.wrap .i64 (x1 + 1)) y (fun z aa ab =>
 ∀ (b : Sl) (e : Hp), Hle ab e → SlH e 4 i6 b [z] → b.n ≤ b.c →
 K (f7.mk 4 0 (Sl.mk none 0 0) b) aa e)))) ∧
 (p = false →
 s7 a ⟨#[91]⟩ q (fun r d s =>
 (r = true →
 M1 d s (fun ac ad =>
 B1 d (IntKind.wrap .i64 (x1 + 1)) ac ad (fun ae =>
 K2 d (IntKind.wrap .i64 (x1 + 1)) ae (fun af ag ah =>
 A7 ag ⟨#[93]⟩ ah (fun ai aj =>
 K af ai aj))))) ∧
 (r = false →
 Q2 x1 d (f7.mk 0 0 (Sl.mk none 0 0) (Sl.mk none 0 0)) s K))))))))))
theorem a6w [PanQ] (x0 : b6) (x1 : Int) {H : Hp} {K : f7 → b6 → Hp → Prop} (h : a1g x0 x1 H K) : S7 x0 x1 H K := by
 intro g0
 refine Ct.ofE fun w0 w ps0 H0 R E I hR hE => c2U ?_
 unfold a1g at h
 unfold F89
 refine p8 I Tryz.zeroValue49 (cs := [(vi 0), (vi 0), (nS), (nS)]) rfl fun k bu ac bv => ?_
 have hj1 : ∀ (t8 : b6) H w (_ : Inv w0 ps0 H0 H [bx g0 101 (b9 t8), bx k 49 [(vi (f7.mk 0 0 (Sl.mk none 0 0) (Sl.mk none 0 0)).g6), (vi (f7.mk 0 0 (Sl.mk none 0 0) (Sl.mk none 0 0)).fOp), (Value.slice (f7.mk 0 0 (Sl.mk none 0 0) (Sl.mk none 0 0)).m5.a (f7.mk 0 0 (Sl.mk none 0 0) (Sl.mk none 0 0)).m5.n (f7.mk 0 0 (Sl.mk none 0 0) (Sl.mk none 0 0)).m5.c), (Value.slice (f7.mk 0 0 (Sl.mk none 0 0) (Sl.mk none 0 0)).E3.a (f7.mk 0 0 (Sl.mk none 0 0) (Sl.mk none 0 0)).E3.n (f7.mk 0 0 (Sl.mk none 0 0) (Sl.mk none 0 0)).E3.c)]] w) (_ : Q2 x1 t8 (f7.mk 0 0 (Sl.mk none 0 0) (Sl.mk none 0 0)) H K), b3P (Value.pointer (some ⟨g0, 0, none⟩)) (vi x1) (Value.pointer (some ⟨k, 0, none⟩)) w R E := by
  intro t8 H w I h
  unfold b3P
  intro _
  unfold Q2 at h
  refine v7 hE Tryz.call35 (h g0) I ?_
  rintro _ _ _ bw ad _ _ ⟨j, bz, rfl, rfl, h⟩
  refine p8 ad Tryz.zeroValue40 (cs := [(vi 0), (vi 0), (eS), (nS)]) rfl fun ca cb ae cc => ?_
  refine g7 ae Tryz.sizeOf40 (vs := (f9 j)) (cs' := (f9 j)) rfl rfl (nb rfl) rfl rfl fun cd af ce => ?_
  refine v7 hE Tryz.call126 (h g0) (af.bring 1) ?_
  rintro _ _ _ cf ag _ _ ⟨g, ah, rfl, rfl, h⟩
  refine V7 ag fun cg i => ?_
  refine C7 (lW Tryz.isAgg40 Tryz.sizeOf40 rfl (i.bring 1)) ?_
  refine v7 hE Tryz.call35 (h g0) i ?_
  rintro _ _ _ ch ai _ aj ⟨ak, al, rfl, rfl, h⟩
  refine ⟨(aj _ (i.bring 1).lt1 (Inv.Y1 (Fi := [bx g0 101 (b9 ah)]) ((i.bring 1).bring 1))), ?_⟩
  refine U7 (e := 40) (c := f9) (xs := [j, ak]) ai (a9g _ _ _ _ _ _ _ _ _ _ _ _) rfl rfl M5 M6 (nb rfl) fun d ci cj am an ck => ?_
  refine p7 (b0z _ _ _ _ _) ?_
  refine g7 (an.bring 3) Tryz.sizeOf49 (vs := [(vi 3), (vi g), (vs d), (nS)]) (cs' := [(vi 3), (vi g), (vs d), (nS)]) rfl rfl (nb rfl) rfl rfl fun cl l cm => ?_
  refine y2 Tryz.isAgg49 Tryz.sizeOf49 rfl (l.at1 (o := 0) (vs := [(vi 3), (vi g), (vs d), (nS)]) (nb rfl) rfl) ?_
  obtain ⟨m, ao, ap, aq, ar⟩ := Inv.freezeC (l.bring 1) am (by decide)
  replace h := h d m ap aq ar
  exact hR _ m _ _ (ao.drop.bring 1).drop ⟨(f7.mk 3 g d (Sl.mk none 0 0)), al, rfl, rfl, h⟩
 refine v8 fun j1 hx1 => ?_
 refine g8 Tryz.call125 (h g0) (ac.bring 1) ?_
 rintro _ _ _ cn p _ _ ⟨co, rfl, rfl, h⟩
 refine b5 (U5 _) ?_
 refine p5 h (fun _ h => ?_) (fun _ h => ?_)
 ·refine v7 hE Tryz.call52 (h g0) p ?_
  rintro _ au _ cp av _ _ ⟨rfl, rfl, h⟩
  exact hx1 _ _ (hj1 x0 au _ ((av.bring 1).bring 1) h)
 ·refine g8 Tryz.call105 (h g0) p ?_
  rintro _ aw _ cq q _ _ ⟨cr, ax, rfl, rfl, h⟩
  refine p5 h (fun _ h => ?_) (fun _ h => ?_)
  ·refine b5 (a9J _) ?_
   refine g7 (q.bring 1) Tryz.sizeOf49 (vs := [(vi 1), (vi 0), (nS), (nS)]) (cs' := [(vi 1), (vi 0), (nS), (nS)]) rfl rfl (nb rfl) rfl rfl fun ct r cu => ?_
   refine y2 Tryz.isAgg49 Tryz.sizeOf49 rfl (r.at1 (o := 0) (vs := [(vi 1), (vi 0), (nS), (nS)]) (nb rfl) rfl) ?_
   exact hR _ aw _ _ r.drop ⟨(f7.mk 1 0 (Sl.mk none 0 0) (Sl.mk none 0 0)), ax, rfl, rfl, h⟩
  ·refine g8 Tryz.call105 (h g0) q ?_
   rintro _ ay _ cv s _ _ ⟨cw, az, rfl, rfl, h⟩
   refine p5 h (fun _ h => ?_) (fun _ h => ?_)
   ·refine b5 (a9J _) ?_
    refine g7 (s.bring 1) Tryz.sizeOf49 (vs := [(vi 2), (vi 0), (nS), (nS)]) (cs' := [(vi 2), (vi 0), (nS), (nS)]) rfl rfl (nb rfl) rfl rfl fun cx t cy => ?_
    refine y2 Tryz.isAgg49 Tryz.sizeOf49 rfl (t.at1 (o := 0) (vs := [(vi 2), (vi 0), (nS), (nS)]) (nb rfl) rfl) ?_
    exact hR _ ay _ _ t.drop ⟨(f7.mk 2 0 (Sl.mk none 0 0) (Sl.mk none 0 0)), az, rfl, rfl, h⟩
   ·refine g8 Tryz.call105 (h g0) s ?_
    rintro _ _ _ cz u _ _ ⟨da, db, rfl, rfl, h⟩
    refine p5 h (fun _ h => ?_) (fun _ h => ?_)
    ·refine b5 pAd ?_
     refine g8 Tryz.call125 (h g0) u ?_
     rintro _ _ _ dc ba _ _ ⟨dd, rfl, rfl, h⟩
     refine v7 hE Tryz.call55 (h g0) ba ?_
     rintro _ _ _ de bb _ _ ⟨rfl, rfl, h⟩
     refine b5 pAd ?_
     refine v7 hE Tryz.call89 (h g0) bb ?_
     rintro _ _ _ df bc _ _ ⟨bd, be, rfl, rfl, h⟩
     refine U7 (e := 49) (c := i6) (xs := [bd]) bc (a7B _ _ _ _ _ _ _ _) rfl rfl R7 R8 (nb rfl) fun f dg dh bf bg di => ?_
     refine b5 (a4s _ _ _ _) ?_
     refine g7 (bg.bring 2) Tryz.sizeOf49 (vs := [(vi 4), (vi 0), (nS), (vs f)]) (cs' := [(vi 4), (vi 0), (nS), (vs f)]) rfl rfl (nb rfl) rfl rfl fun dj v dk => ?_
     refine y2 Tryz.isAgg49 Tryz.sizeOf49 rfl (v.at1 (o := 0) (vs := [(vi 4), (vi 0), (nS), (vs f)]) (nb rfl) rfl) ?_
     obtain ⟨y, bh, bi, bj, bk⟩ := Inv.freezeC (v.bring 1) bf (by decide)
     replace h := h f y bi bj bk
     exact hR _ y _ _ bh.drop ⟨(f7.mk 4 0 (Sl.mk none 0 0) f), be, rfl, rfl, h⟩
    ·refine g8 Tryz.call105 (h g0) u ?_
     rintro _ bl _ dl z _ _ ⟨dm, bm, rfl, rfl, h⟩
     refine p5 h (fun _ h => ?_) (fun _ h => ?_)
     ·refine b5 pAd ?_
      refine g8 Tryz.call125 (h g0) z ?_
      rintro _ _ _ dn bn _ _ ⟨dp, rfl, rfl, h⟩
      refine v7 hE Tryz.call55 (h g0) bn ?_
      rintro _ _ _ dq bo _ _ ⟨rfl, rfl, h⟩
      refine b5 pAd ?_
      refine v7 hE Tryz.call41 (h g0) bo ?_
      rintro _ _ _ dr bp _ _ ⟨b, ds, rfl, rfl, h⟩
      refine p8 bp Tryz.zeroValue49 (cs := [(vi 0), (vi 0), (nS), (nS)]) rfl fun dt du bq dv => ?_
      refine g7 bq Tryz.sizeOf49 (vs := (i6 b)) (cs' := (i6 b)) rfl rfl (nb rfl) rfl rfl fun dw br dx => ?_
      refine v7 hE Tryz.call103 (h g0) (br.bring 1) ?_
      rintro _ bs _ dy aa _ _ ⟨bt, rfl, rfl, h⟩
      refine g9 (lW Tryz.isAgg49 Tryz.sizeOf49 rfl (aa.bring 1)) ?_
      refine g7 (aa.bring 2) Tryz.sizeOf49 (vs := (i6 b)) (cs' := (i6 b)) rfl rfl (nb rfl) rfl rfl fun dz ab ea => ?_
      refine y2 Tryz.isAgg49 Tryz.sizeOf49 rfl (ab.at1 (o := 0) (vs := (i6 b)) (nb rfl) rfl) ?_
      exact hR _ bs _ _ (ab.drop.bring 1).drop ⟨b, bt, rfl, rfl, h⟩
     ·exact hx1 _ _ (hj1 bm bl _ ((z.bring 1).bring 1) h)
def a1r (x0 : d6) (a : (List b7)) (H : Hp) (K : ByteArray → Hp → Prop) : Prop :=
 (0 : Int) ≤ x0.fn ∧ (x0.fn : Int) ≤ x0.fs.size ∧
 K (x0.fs.extract (x0.fn : Int).toNat x0.fs.size) H
theorem a6N (x0 b) {H K} (h : a1r x0 b H K) : Q1 x0 b H K := by
 intro g0 e f g
 refine Ct.of fun w0 w ps0 H0 R E I hR => c0G ?_
 unfold a1r at h
 unfold c3r
 refine V7 I fun i a => ?_
 refine p7 (s9 _) ?_
 refine p7 a4p ?_
 refine p7 (s9 _) ?_
 refine p7 U2 ?_
 refine C7 (l1 Tryz.isAgg9 a rfl) ?_
 refine C7 (l1 Tryz.isAgg3 a rfl) ?_
 obtain ⟨c, d, h⟩ := h
 refine p7 (b5g x0.fs Tryz.underlying9 c d) ?_
 exact hR _ H _ _ ((a.bring 1).bring 1) ⟨(x0.fs.extract (x0.fn : Int).toNat x0.fs.size), rfl, rfl, h⟩
def W4 (x0 : ByteArray) (x1 : ByteArray) (H : Hp) (K : Bool → Hp → Prop) : Prop :=
 ((decide ((x1.size : Int) ≤ (x0.size : Int))) = true → (0 : Int) ≤ (x1.size : Int) ∧ ((x1.size : Int) : Int) ≤ x0.size) ∧
 K ((decide ((x1.size : Int) ≤ (x0.size : Int))) && (decide ((x0.extract 0 ((x1.size : Int) : Int).toNat) = x1))) H
theorem a4z (x0 x1) {H K} (h : W4 x0 x1 H K) : a1o x0 x1 H K := by
 refine Ct.of fun w0 w ps0 H0 R E I hR => c0S ?_
 unfold W4 at h
 unfold c3D
 refine b5 (a3B _) (b5 (a3B _) (b5 pGe ?_))
 simp only [D2]
 refine b5 (Pu.g fun a => by simp only [o9 a]; with_reducible exact (a3B _)) ?_
 obtain ⟨b, h⟩ := h
 refine b5 (Pu.g fun hb => by have a := hb; simp only [o9 a]; with_reducible exact (b5h x0 Tryz.underlying9 (b hb).1 (b hb).2)) ?_
 refine b5 (Pu.g fun a => by simp only [o9 a]; with_reducible exact (R6 _ _ _ _ _)) ?_
 refine b5 (F6 _ _) ?_
 exact hR _ H _ _ I ⟨((decide ((x1.size : Int) ≤ (x0.size : Int))) && (decide ((x0.extract 0 ((x1.size : Int) : Int).toNat) = x1))), rfl, rfl, h⟩
def a3o (x0 : ByteArray) (x1 : ByteArray) (H : Hp) (K : Bool → Hp → Prop) : Prop :=
 a1o x0 x1 H (fun a b =>
 K a b)
theorem a8u (x0 x1) {H K} (h : a3o x0 x1 H K) : a1I x0 x1 H K := by
 refine Ct.of fun w0 w ps0 H0 R E I hR => c0F ?_
 unfold a3o at h
 unfold c3q
 refine g8 Tryz.call153 h I ?_
 rintro _ a _ d b _ _ ⟨c, rfl, rfl, h⟩
 exact hR _ a _ _ b ⟨c, rfl, rfl, h⟩
def Y6 (a : a0A) (t8 : b6) (H : Hp) (K : Int → b6 → Hp → Prop) : Prop :=
 K 0 t8 H
def S8 (A8 : Sl) (a3J : Int) (a : a0A) (s8 : Int) (m9 : b6) (H : Hp) (n2 : (Int × b6) → Hp → Prop) (K : Int → b6 → Hp → Prop) : Prop :=
 (s8 < a3J →
 (0 : Int) ≤ s8 ∧ (s8 : Int) < A8.n ∧ ∃ c : ByteArray, EltH H A8 s8 1 [(Value.string c)] ∧
 s7 m9 c H (fun d e b =>
 (d = true →
 (0 : Int) ≤ s8 ∧ (s8 : Int) < a.fkinds.n ∧ ∃ f : Int, EltH b a.fkinds s8 1 [(vi f)] ∧
 K f e b) ∧
 (d = false →
 n2 ((IntKind.wrap .i64 (s8 + 1)), e) b))) ∧
 (¬ (s8 < a3J) →
 Y6 a m9 H K)
def a0D (x0 : b6) (x1 : a0A) (H : Hp) (K : Int → b6 → Hp → Prop) : Prop :=
 TL ((0, x0) : Int × b6) H fun (s : Int × b6) H n2 => S8 x1.fsigns (x1.fsigns.n : Int) x1 s.1 s.2 H n2 K
theorem a5X (x0 x1) {H K} (h : a0D x0 x1 H K) : a0C x0 x1 H K := by
 intro g0
 refine Ct.of fun w0 w ps0 H0 R E I hR => c0y ?_
 unfold a0D at h
 unfold c3j
 refine a0p I (cs := (S6 x1)) rfl fun j ae k af => ?_
 have hj1 : ∀ (t8 : b6) H w (_ : Inv w0 ps0 H0 H [bx j 139 (S6 x1), bx g0 101 (b9 t8)] w) (_ : Y6 x1 t8 H K), b1t w R E := by
  intro t8 H w I h
  unfold b1t
  intro _
  unfold Y6 at h
  exact hR _ H _ _ I.drop ⟨0, t8, rfl, rfl, h⟩
 refine v8 fun j1 hx1 => ?_
 refine b5 b4Q (g9 (l1 Tryz.isAgg77 k rfl) (b5 (b7r _ _ _) ?_))
 obtain ⟨e, c, q, r⟩ := h
 refine E9 (J := fun n l w => ∃ (s : Int × b6) (H : Hp) , n = c s ∧ l = (match s with | (s8, m9) => [(vi s8)]) ∧ (match s with | (s8, m9) => Inv w0 ps0 H0 H [bx j 139 (S6 x1), bx g0 101 (b9 m9)] w) ∧ e s H) ⟨_, (0, x0), H, rfl, rfl, ((k.bring 1).bring 1), q⟩ ?_
 rintro ag ah w next2 ⟨⟨s8, m9⟩, H, rfl, f, I, t⟩ hn2
 dsimp only at f I
 simp only [List.map_cons, List.map_nil, List.cons.injEq, and_true] at f
 have e10 := f
 simp only [e10]
 obtain ⟨n2, hm2, h⟩ : ∃ n2 : (Int × b6) → Hp → Prop, (∀ s' H', n2 s' H' → e s' H' ∧ c s' < c (s8, m9)) ∧ S8 x1.fsigns (x1.fsigns.n : Int) x1 s8 m9 H n2 K := ⟨_, fun _ _ h => h, r (s8, m9) H (fun s' H' => e s' H' ∧ c s' < c (s8, m9)) t (fun _ _ a b => ⟨a, b⟩)⟩
 unfold b5q
 unfold S8 at h
 refine b5 pLs ?_
 refine k7 h (fun _ h => ?_) (fun _ h => ?_)
 ·obtain ⟨u, y, z, g, h⟩ := h
  obtain ⟨ai, aj, aa, g⟩ := g
  refine b5 (b3u aa _ _ _ _ u y) (g9 (ld1 (v := (Value.string z)) Tryz.isAgg9 (I.atH g)) ?_)
  refine g8 Tryz.call105 (h g0) (I.bring 1) ?_
  rintro _ m _ ak d _ _ ⟨al, o, rfl, rfl, h⟩
  refine p5 h (fun _ h => ?_) (fun _ h => ?_)
  ·refine b5 b4R (g9 (l1 Tryz.isAgg137 (d.bring 1) rfl) ?_)
   obtain ⟨ab, ac, p, i, h⟩ := h
   obtain ⟨am, an, ad, i⟩ := i
   refine b5 (b7s ad _ _ _ _ ab ac) (g9 (ld1 (v := (vi p)) Tryz.isAgg3 (d.atH i)) ?_)
   exact hR _ m _ _ (d.bring 1).drop ⟨p, o, rfl, rfl, h⟩
  ·refine b5 pAd ?_
   exact hn2 _ _ _ (hm2 _ _ h).2 ⟨((IntKind.wrap .i64 (s8 + 1)), o), m, rfl, rfl, (d.bring 1), (hm2 _ _ h).1⟩
 ·exact hx1 _ _ (hj1 m9 H _ ((I.bring 1).bring 1) h)
def y6 (Q7 : Int) (r9 : ByteArray) (s6 : Int) (u7 : c8) (B2 : (List b7)) (H : Hp) (K : ByteArray → d6 → (List b7) → Hp → Prop) : Prop :=
 (0 : Int) ≤ Q7 ∧ (Q7 : Int) ≤ s6 ∧ (s6 : Int) ≤ r9.size ∧
 K (r9.extract (Q7 : Int).toNat (s6 : Int).toNat) (d6.mk r9 s6 u7 (Sl.mk none 0 0)) B2 H
def C4 (a9Y : Int) (E8 : Int) (y1 : Bool) (o7 : ByteArray) (o8 : Int) (m6 : c8) (m8 : (List b7)) (H : Hp) (n2 : (Int × Bool × ByteArray × Int × c8 × (List b7)) → Hp → Prop) (K : ByteArray → d6 → (List b7) → Hp → Prop) : Prop :=
 TG (y1 = true) (a1G E8 H) false H (fun (b : Bool) (c : Hp) =>
 ((y1 && b) = true →
 z6 (d6.mk o7 o8 m6 (Sl.mk none 0 0)) m8 c (fun a d e =>
 u9 (q9 a) d e (fun f g i =>
 n2 (f, g, a.fs, a.fn, a.fat, d) i))) ∧
 ((y1 && b) = false →
 y6 a9Y o7 o8 m6 m8 c K))
def M4 (x0 : d6) (a : (List b7)) (H : Hp) (K : ByteArray → d6 → (List b7) → Hp → Prop) : Prop :=
 u9 (q9 x0) a H (fun b c d =>
 TL ((b, c, x0.fs, x0.fn, x0.fat, a) : Int × Bool × ByteArray × Int × c8 × (List b7)) d fun (s : Int × Bool × ByteArray × Int × c8 × (List b7)) H n2 => C4 x0.fn s.1 s.2.1 s.2.2.1 s.2.2.2.1 s.2.2.2.2.1 s.2.2.2.2.2 H n2 K)
theorem a1T (x0 q) {H K} (h : M4 x0 q H K) : M3 x0 q H K := by
 intro g0 y z aa
 refine Ct.of fun w0 w ps0 H0 R E I hR => a9h ?_
 unfold M4 at h
 unfold b3T
 refine b5 (s9 _) (b5 U2 (g9 (l1 Tryz.isAgg3 I rfl) ?_))
 have hj1 : ∀ (r9 : ByteArray) (s6 : Int) (u7 : c8) (B2 : (List b7)) (R5 : Sl) (K3 : Frag) H w (_ : RowL 103 5 d9 R5 B2 K3) (_ : Inv w0 ps0 H0 H [bx g0 155 [(Value.string r9), (vi s6), (vi u7.A6), (vi u7.E7), (vs R5)], K3] w) (_ : y6 x0.fn r9 s6 u7 B2 H K), a3X (Value.pointer (some ⟨g0, 0, none⟩)) (vi x0.fn) w R E := by
  intro r9 s6 u7 B2 R5 K3 H w a2r I h
  unfold a3X
  intro _
  unfold y6 at h
  refine V7 I fun ax r => ?_
  refine p7 (s9 _) ?_
  refine p7 a4p ?_
  refine p7 (s9 _) ?_
  refine p7 U2 ?_
  refine C7 (l1 Tryz.isAgg9 r rfl) ?_
  refine C7 (l1 Tryz.isAgg3 r rfl) ?_
  obtain ⟨ak, al, am, h⟩ := h
  refine p7 (a7Q r9 Tryz.underlying9 ak al am) ?_
  exact hR _ H _ _ ((r.bring 1).bring 1) ⟨(r9.extract (x0.fn : Int).toNat (s6 : Int).toNat), (d6.mk r9 s6 u7 (Sl.mk none 0 0)), B2, R5, K3, rfl, rfl, a2r, h⟩
 refine v8 fun j1 hx1 => ?_
 refine g8 Tryz.call100 (h g0 y z aa) ((I.bring 1).bring 1) ?_
 rintro _ an _ ay ao _ _ ⟨ab, ac, rfl, rfl, h⟩
 refine b5 (j8 _ _ (Value.int .i32 ab) rfl) (b5 (j8 _ _ (vB ac) rfl) ?_)
 obtain ⟨t, g, ap, aq⟩ := h
 refine E9 (J := fun n l w => ∃ (s : Int × Bool × ByteArray × Int × c8 × (List b7)) (H : Hp) (G3 : Sl) (C5 : Frag) , n = g s ∧ l = (match s with | (E8, y1, o7, o8, m6, m8) => [(Value.int .i32 E8), (vB y1)]) ∧ (match s with | (E8, y1, o7, o8, m6, m8) => RowL 103 5 d9 G3 m8 C5) ∧ (match s with | (E8, y1, o7, o8, m6, m8) => Inv w0 ps0 H0 H [bx g0 155 [(Value.string o7), (vi o8), (vi m6.A6), (vi m6.E7), (vs G3)], C5] w) ∧ t s H) ⟨_, (ab, ac, x0.fs, x0.fn, x0.fat, q), an, y, z, rfl, rfl, aa, ((ao.bring 1).bring 1), ap⟩ ?_
 rintro az ba w next2 ⟨⟨E8, y1, o7, o8, m6, m8⟩, H, G3, C5, rfl, u, O0, I, ar⟩ hn2
 dsimp only at u I O0
 simp only [List.map_cons, List.map_nil, List.cons.injEq, and_true] at u
 obtain ⟨e6, e7⟩ := u
 simp only [e6, e7]
 obtain ⟨n2, hm2, h⟩ : ∃ n2 : (Int × Bool × ByteArray × Int × c8 × (List b7)) → Hp → Prop, (∀ s' H', n2 s' H' → t s' H' ∧ g s' < g (E8, y1, o7, o8, m6, m8)) ∧ C4 x0.fn E8 y1 o7 o8 m6 m8 H n2 K := ⟨_, fun _ _ h => h, aq (E8, y1, o7, o8, m6, m8) H (fun s' H' => t s' H' ∧ g s' < g (E8, y1, o7, o8, m6, m8)) ar (fun _ _ a b => ⟨a, b⟩)⟩
 unfold a7G
 unfold C4 at h
 simp only [D2]
 refine N6 (D := fun ad j => ∃ (f : Bool) (c : Hp) , ad = (gv y1 true (vB f)) ∧ (Inv w0 ps0 H0 c [bx g0 155 [(Value.string o7), (vi o8), (vi m6.A6), (vi m6.E7), (vs G3)], C5] j) ∧ (∀ i, i < w.heap.size → ¬ inF [] i → j.heap[i]? = w.heap[i]?) ∧ Hle H c ∧ (((y1 && f) = true →
 z6 (d6.mk o7 o8 m6 (Sl.mk none 0 0)) m8 c (fun (d : d6) (k : (List b7)) (au : Hp) =>
 u9 (q9 d) k au (fun (m : Int) (o : Bool) (v : Hp) =>
 n2 (m, o, d.fs, d.fn, d.fat, k) v))) ∧
 ((y1 && f) = false →
 y6 x0.fn o7 o8 m6 m8 c K))) (fun e => ?_) (fun e => ?_) ?_
 ·replace h := h.1 e
  have ae := e
  simp only [o9 ae]
  refine g8 Tryz.call154 h I ?_
  rintro _ c _ j p af ag ⟨f, rfl, rfl, h⟩
  exact ⟨f, c, by rfl, p, ag, af, h⟩
 ·exact ⟨false, H, by rw [W9 e], I, fun _ _ _ => rfl, Hle.refl _, h.2 e⟩
 ·clear h
  rintro ad j ⟨f, c, rfl, p, ag, af, h⟩
  refine b5 (F6 _ _) ?_
  refine p5 h (fun _ h => ?_) (fun _ h => ?_)
  ·refine g8 Tryz.call152 (h g0 G3 C5 O0) ((p.bring 1).bring 1) ?_
   rintro _ _ _ bb av _ _ ⟨d, k, ah, ai, rfl, rfl, aj, h⟩
   refine g8 Tryz.call100 (h g0 ah ai aj) ((av.bring 1).bring 1) ?_
   rintro _ v _ bc aw _ _ ⟨m, o, rfl, rfl, h⟩
   refine b5 (j8 _ _ (Value.int .i32 m) rfl) (b5 (j8 _ _ (vB o) rfl) ?_)
   exact hn2 _ _ _ (hm2 _ _ h).2 ⟨(m, o, d.fs, d.fn, d.fat, k), v, ah, ai, rfl, rfl, aj, ((aw.bring 1).bring 1), (hm2 _ _ h).1⟩
  ·exact hx1 _ _ (hj1 o7 o8 m6 m8 G3 C5 c _ O0 ((p.bring 1).bring 1) h)
def V2 (a : b7) (r9 : ByteArray) (s6 : Int) (u7 : c8) (B2 : (List b7)) (b : b7) (H : Hp) (K : b7 → Int → d6 → (List b7) → Hp → Prop) : Prop :=
 K a 0 (d6.mk r9 s6 u7 (Sl.mk none 0 0)) B2 H
def a1s (x0 : d6) (i : (List b7)) (H : Hp) (K : b7 → Int → d6 → (List b7) → Hp → Prop) : Prop :=
 M3 (q9 x0) i H (fun b a c j =>
 Y9 b j (fun d e =>
 (d = true →
 V2 (b7.mk 3 b 0 (c8.mk 0 0)) a.fs a.fn a.fat c (b7.mk 0 ⟨#[]⟩ 0 (c8.mk 0 0)) e K) ∧
 (d = false →
 a1b b e (fun f g =>
 (f = true →
 K (b7.mk 1 b 0 (c8.mk 0 0)) 22 (q9 a) c g) ∧
 (f = false →
 V2 (b7.mk 1 b 0 (c8.mk 0 0)) a.fs a.fn a.fat c (b7.mk 0 ⟨#[]⟩ 0 (c8.mk 0 0)) g K)))))
theorem a6O (x0 j) {H K} (h : a1s x0 j H K) : a3C x0 j H K := by
 intro g0 s t u
 refine Ct.of fun w0 w ps0 H0 R E I hR => c0I ?_
 unfold a1s at h
 unfold c3t
 refine p8 I Tryz.zeroValue103 (cs := [(vi 0), (eS), (vi 0), (vi 0), (vi 0)]) rfl fun k ac v ad => ?_
 refine g8 Tryz.call133 (h g0 s t u) ((v.bring 2).bring 2) ?_
 rintro _ _ _ ae y _ _ ⟨a, b, d, e, f, rfl, rfl, l, h⟩
 refine b5 (a3V _ _) ?_
 refine p8 y Tryz.zeroValue103 (cs := [(vi 0), (eS), (vi 0), (vi 0), (vi 0)]) rfl fun m af z ag => ?_
 refine g7 z Tryz.sizeOf103 (vs := [(vi 1), (Value.string a), (vi 0), (vi 0), (vi 0)]) (cs' := [(vi 1), (Value.string a), (vi 0), (vi 0), (vi 0)]) rfl rfl (nb rfl) rfl rfl fun ah n ai => ?_
 have hj1 : ∀ (c : b7) (r9 : ByteArray) (s6 : Int) (u7 : c8) H w (_ : Inv w0 ps0 H0 H [bx m 103 (d9 c), bx g0 155 [(Value.string r9), (vi s6), (vi u7.A6), (vi u7.E7), (vs e)], bx k 103 [(vi (b7.mk 0 ⟨#[]⟩ 0 (c8.mk 0 0)).g6), (Value.string (b7.mk 0 ⟨#[]⟩ 0 (c8.mk 0 0)).B3), (vi (b7.mk 0 ⟨#[]⟩ 0 (c8.mk 0 0)).T4), (vi (b7.mk 0 ⟨#[]⟩ 0 (c8.mk 0 0)).fAt.A6), (vi (b7.mk 0 ⟨#[]⟩ 0 (c8.mk 0 0)).fAt.E7)], f] w) (_ : V2 c r9 s6 u7 d (b7.mk 0 ⟨#[]⟩ 0 (c8.mk 0 0)) H K), b1A (Value.pointer (some ⟨k, 0, none⟩)) (Value.pointer (some ⟨m, 0, none⟩)) w R E := by
  intro c r9 s6 u7 H w I h
  unfold b1A
  intro _
  unfold V2 at h
  refine g9 (lW Tryz.isAgg103 Tryz.sizeOf103 rfl I) ?_
  refine g7 (I.bring 2) Tryz.sizeOf103 (vs := (d9 c)) (cs' := (d9 c)) rfl rfl (nb rfl) rfl rfl fun aj p ak => ?_
  refine y2 Tryz.isAgg103 Tryz.sizeOf103 rfl (p.at1 (o := 0) (vs := (d9 c)) (nb rfl) rfl) ?_
  exact hR _ H _ _ ((p.drop.drop.bring 1).bring 1) ⟨c, 0, (d6.mk r9 s6 u7 (Sl.mk none 0 0)), d, e, f, rfl, rfl, l, h⟩
 refine v8 fun j1 hx1 => ?_
 refine b5 Q5 (g9 (l1 Tryz.isAgg9 n rfl) ?_)
 refine g8 Tryz.call155 h n ?_
 rintro _ aa _ al g _ _ ⟨am, rfl, rfl, h⟩
 refine p5 h (fun _ h => ?_) (fun _ h => ?_)
 ·refine b5 a0q ?_
  refine g7 g Tryz.sizeOf3 (vs := [(vi 3)]) (cs' := [(vi 3), (Value.string a), (vi 0), (vi 0), (vi 0)]) rfl rfl (nb rfl) rfl rfl fun an ab ao => ?_
  exact hx1 _ _ (hj1 (b7.mk 3 a 0 (c8.mk 0 0)) b.fs b.fn b.fat aa _ ((((ab.bring 2).bring 3).bring 3).bring 3) h)
 ·refine b5 Q5 (g9 (l1 Tryz.isAgg9 g rfl) ?_)
  refine g8 Tryz.call156 h g ?_
  rintro _ q _ ap i _ _ ⟨aq, rfl, rfl, h⟩
  refine p5 h (fun _ h => ?_) (fun _ h => ?_)
  ·refine g9 (ldA Tryz.isAgg103 Tryz.sizeOf103 rfl (i.at1 (o := 0) (vs := [(vi 1), (Value.string a), (vi 0), (vi 0), (vi 0)]) (nb rfl) rfl)) ?_
   refine g7 (i.bring 3) Tryz.sizeOf103 (vs := [(vi 1), (Value.string a), (vi 0), (vi 0), (vi 0)]) (cs' := [(vi 1), (Value.string a), (vi 0), (vi 0), (vi 0)]) rfl rfl (nb rfl) rfl rfl fun ar r au => ?_
   refine y2 Tryz.isAgg103 Tryz.sizeOf103 rfl (r.at1 (o := 0) (vs := [(vi 1), (Value.string a), (vi 0), (vi 0), (vi 0)]) (nb rfl) rfl) ?_
   exact hR _ q _ _ ((r.drop.drop.bring 1).bring 1) ⟨(b7.mk 1 a 0 (c8.mk 0 0)), 22, (q9 b), d, e, f, rfl, rfl, l, h⟩
  ·exact hx1 _ _ (hj1 (b7.mk 1 a 0 (c8.mk 0 0)) b.fs b.fn b.fat q _ ((((i.bring 2).bring 3).bring 3).bring 3) h)
def a0e (x0 : Int) (H : Hp) (K : Bool → Hp → Prop) : Prop :=
 O9 x0 H (fun a b =>
 K (decide (a = 4)) b)
theorem a5v (x0) {H K} (h : a0e x0 H K) : a0d x0 H K := by
 refine Ct.of fun w0 w ps0 H0 R E I hR => c0W ?_
 unfold a0e at h
 unfold c3H
 refine g8 Tryz.call132 h I ?_
 rintro _ a _ d b _ _ ⟨c, rfl, rfl, h⟩
 refine b5 pEq ?_
 exact hR _ a _ _ b ⟨(decide (c = 4)), rfl, rfl, h⟩
def a2H (H : Hp) (K : b7 → Int → Hp → Prop) : Prop :=
 K (b7.mk 0 ⟨#[]⟩ 0 (c8.mk 0 0)) 20 H
theorem a5Y {H K} (h : a2H H K) : a5U H K := by
 refine Ct.of fun w0 w ps0 H0 R E I hR => c0L ?_
 unfold a2H at h
 unfold c3w
 refine p8 I Tryz.zeroValue103 (cs := [(vi 0), (eS), (vi 0), (vi 0), (vi 0)]) rfl fun c d b e => ?_
 refine b5 (b0C ) ?_
 refine g7 b Tryz.sizeOf103 (vs := [(vi 0), (eS), (vi 0), (vi 0), (vi 0)]) (cs' := [(vi 0), (eS), (vi 0), (vi 0), (vi 0)]) rfl rfl (nb rfl) rfl rfl fun f a g => ?_
 refine y2 Tryz.isAgg103 Tryz.sizeOf103 rfl (a.at1 (o := 0) (vs := [(vi 0), (eS), (vi 0), (vi 0), (vi 0)]) (nb rfl) rfl) ?_
 exact hR _ H _ _ a.drop ⟨(b7.mk 0 ⟨#[]⟩ 0 (c8.mk 0 0)), 20, rfl, rfl, h⟩
def D5 (c7g : Int) (a9i : Bool) (a : K9) (H : Hp) (K : Bool → Hp → Prop) : Prop :=
 (a9i = true →
 K (decide (c7g = 2)) H) ∧
 (a9i = false →
 K false H)
def N0 (b1P : Int) (a3Y : Int) (a9j : Bool) (a : K9) (H : Hp) (K : Bool → Hp → Prop) : Prop :=
 (a9j = true →
 K (decide (b1P = 1)) H) ∧
 (a9j = false →
 (a3Y = 6 →
 D5 b1P (decide (a3Y = 6)) a H K) ∧
 (¬ (a3Y = 6) →
 (a3Y = 7 →
 D5 b1P (decide (a3Y = 7)) a H K) ∧
 (¬ (a3Y = 7) →
 (a3Y = 8 →
 D5 b1P (decide (a3Y = 8)) a H K) ∧
 (¬ (a3Y = 8) →
 (a3Y = 9 →
 D5 b1P (decide (a3Y = 9)) a H K) ∧
 (¬ (a3Y = 9) →
 D5 b1P (decide (a3Y = 10)) a H K)))))
def N1 (a7Z : Int) (a3Z : Int) (a9k : Bool) (a : K9) (H : Hp) (K : Bool → Hp → Prop) : Prop :=
 (a9k = true →
 K (decide (a7Z = 0)) H) ∧
 (a9k = false →
 (a3Z = 4 →
 N0 a7Z a3Z (decide (a3Z = 4)) a H K) ∧
 (¬ (a3Z = 4) →
 N0 a7Z a3Z (decide (a3Z = 5)) a H K))
def a1U (x0 : K9) (H : Hp) (K : Bool → Hp → Prop) : Prop :=
 a0B (d8.E4 x0) H (fun c b a =>
 ((((!decide (x0.t6.g6 = 1)) && (!decide (x0.t6.T4 = 0))) || ((!b) && (!decide (x0.t6.B0 = ⟨#[]⟩)))) = true →
 K false a) ∧
 ((((!decide (x0.t6.g6 = 1)) && (!decide (x0.t6.T4 = 0))) || ((!b) && (!decide (x0.t6.B0 = ⟨#[]⟩)))) = false →
 (x0.t6.g6 = 1 →
 K ((decide (0 ≤ x0.t6.T4)) && (decide ((x0.t6.P0.n : Int) = 0))) a) ∧
 (¬ (x0.t6.g6 = 1) →
 (x0.t6.g6 = 2 →
 N1 (x0.t6.P0.n : Int) x0.t6.g6 (decide (x0.t6.g6 = 2)) x0 a K) ∧
 (¬ (x0.t6.g6 = 2) →
 N1 (x0.t6.P0.n : Int) x0.t6.g6 (decide (x0.t6.g6 = 3)) x0 a K))))
theorem a7a (x0) {H K} (h : a1U x0 H K) : a1Q x0 H K := by
 refine Ct.of fun w0 w ps0 H0 R E I hR => c0Z ?_
 unfold a1U at h
 unfold c3K
 refine a0p I (cs := (f9 x0.t6)) rfl fun f l i m => ?_
 refine b5 Y0 (b5 b0t (g9 (l1 Tryz.isAgg38 i rfl) (b5 (a5S _ _ _) (g9 (lW Tryz.isAgg141 Tryz.sizeOf141 rfl i) ?_))))
 refine b5 (a7D x0) ?_
 refine g8 Tryz.call143 h i ?_
 rintro _ d _ o c _ _ ⟨j, k, rfl, rfl, h⟩
 refine b5 (j8 _ _ (Value.string j) rfl) (b5 (j8 _ _ (vB k) rfl) (b5 Y0 (b5 a4W (g9 (l1 Tryz.isAgg3 c rfl) ?_))))
 refine b5 pNe ?_
 refine b5 (Pu.g fun a => by with_reducible exact Y0) ?_
 refine b5 (Pu.g fun a => by simp only [o9 a]; with_reducible exact b0u) ?_
 refine g9 (Ld.g fun a => by simp only [o9 a]; exact (l1 Tryz.isAgg2 c rfl)) ?_
 refine b5 (Pu.g fun a => by simp only [o9 a]; with_reducible exact pNe) ?_
 refine b5 (F6 _ _) ?_
 simp only [D2]
 refine b5 (Pu.g fun a => by simp only [o9 a]; with_reducible exact (U5 _)) ?_
 simp only [b0p]
 refine b5 (Pu.e (a1Y _ _ _) (Pu.g fun hb => by obtain ⟨a, b⟩ := a4r hb; with_reducible exact Y0)) ?_
 refine b5 (Pu.e (a1Y _ _ _) (Pu.g fun hb => by obtain ⟨a, b⟩ := a4r hb; simp only [o9 hb]; with_reducible exact b0A)) ?_
 refine g9 (Ld.e (a1Y _ _ _) (Ld.g fun hb => by obtain ⟨a, b⟩ := a4r hb; simp only [o9 hb]; exact (l1 Tryz.isAgg9 c rfl))) ?_
 refine b5 (Pu.e (a1Y _ _ _) (Pu.g fun hb => by obtain ⟨a, b⟩ := a4r hb; simp only [o9 hb]; with_reducible exact (c2c _ _ _ _ _))) ?_
 refine b5 (Pu.g fun a => by simp only [o9 a, b0o a]; with_reducible exact (F6 _ _)) ?_
 refine b5 (N5 _ _) ?_
 refine p5 h (fun _ h => ?_) (fun _ h => ?_)
 ·exact hR _ d _ _ c.drop ⟨false, rfl, rfl, h⟩
 ·refine b5 Y0 (b5 a4W (g9 (l1 Tryz.isAgg3 c rfl) (b5 pEq ?_)))
  refine k7 h (fun _ h => ?_) (fun _ h => ?_)
  ·refine b5 Y0 (b5 b0u (g9 (l1 Tryz.isAgg2 c rfl) (b5 pGe ?_)))
   simp only [D2]
   refine b5 (Pu.g fun a => by simp only [o9 a]; with_reducible exact pEq) ?_
   refine b5 (F6 _ _) ?_
   exact hR _ d _ _ c.drop ⟨((decide (0 ≤ x0.t6.T4)) && (decide ((x0.t6.P0.n : Int) = 0))), rfl, rfl, h⟩
  ·have hj1 : ∀ (a9k : Bool) H w (_ : Inv w0 ps0 H0 H [bx f 141 (f9 x0.t6)] w) (_ : N1 (x0.t6.P0.n : Int) x0.t6.g6 a9k x0 H K), b1I (vi (x0.t6.P0.n : Int)) (vi x0.t6.g6) (vB a9k) w R E := by
    intro a9k H w I h
    unfold b1I
    intro _
    unfold N1 at h
    refine p5 h (fun _ h => ?_) (fun _ h => ?_)
    ·refine b5 pEq ?_
     exact hR _ H _ _ I.drop ⟨(decide ((x0.t6.P0.n : Int) = 0)), rfl, rfl, h⟩
    ·have hj2 : ∀ (a9j : Bool) H w (_ : Inv w0 ps0 H0 H [bx f 141 (f9 x0.t6)] w) (_ : N0 (x0.t6.P0.n : Int) x0.t6.g6 a9j x0 H K), b1H (vi (x0.t6.P0.n : Int)) (vi x0.t6.g6) (vB a9j) w R E := by
      intro a9j H w I h
      unfold b1H
      intro _
      unfold N0 at h
      refine p5 h (fun _ h => ?_) (fun _ h => ?_)
      ·refine b5 pEq ?_
       exact hR _ H _ _ I.drop ⟨(decide ((x0.t6.P0.n : Int) = 1)), rfl, rfl, h⟩
      ·have hj3 : ∀ (a9i : Bool) H w (_ : Inv w0 ps0 H0 H [bx f 141 (f9 x0.t6)] w) (_ : D5 (x0.t6.P0.n : Int) a9i x0 H K), b1G (vi (x0.t6.P0.n : Int)) (vB a9i) w R E := by
        intro a9i H w I h
        unfold b1G
        intro _
        unfold D5 at h
        refine p5 h (fun _ h => ?_) (fun _ h => ?_)
        ·refine b5 pEq ?_
         exact hR _ H _ _ I.drop ⟨(decide ((x0.t6.P0.n : Int) = 2)), rfl, rfl, h⟩
        ·exact hR _ H _ _ I.drop ⟨false, rfl, rfl, h⟩
       refine v8 fun j3 hx3 => ?_
       refine b5 pEq ?_
       refine k7 h (fun _ h => ?_) (fun _ h => ?_)
       ·exact hx3 _ _ (hj3 (decide (x0.t6.g6 = 6)) H _ I h)
       ·refine b5 pEq ?_
        refine k7 h (fun _ h => ?_) (fun _ h => ?_)
        ·exact hx3 _ _ (hj3 (decide (x0.t6.g6 = 7)) H _ I h)
        ·refine b5 pEq ?_
         refine k7 h (fun _ h => ?_) (fun _ h => ?_)
         ·exact hx3 _ _ (hj3 (decide (x0.t6.g6 = 8)) H _ I h)
         ·refine b5 pEq ?_
          refine k7 h (fun _ h => ?_) (fun _ h => ?_)
          ·exact hx3 _ _ (hj3 (decide (x0.t6.g6 = 9)) H _ I h)
          ·refine b5 pEq ?_
           exact hx3 _ _ (hj3 (decide (x0.t6.g6 = 10)) H _ I h)
     refine v8 fun j2 hx2 => ?_
     refine b5 pEq ?_
     refine k7 h (fun _ h => ?_) (fun _ h => ?_)
     ·exact hx2 _ _ (hj2 (decide (x0.t6.g6 = 4)) H _ I h)
     ·refine b5 pEq ?_
      exact hx2 _ _ (hj2 (decide (x0.t6.g6 = 5)) H _ I h)
   refine v8 fun j1 hx1 => ?_
   refine b5 pEq ?_
   refine k7 h (fun _ h => ?_) (fun _ h => ?_)
   ·exact hx1 _ _ (hj1 (decide (x0.t6.g6 = 2)) d _ c h)
   ·refine b5 pEq ?_
    exact hx1 _ _ (hj1 (decide (x0.t6.g6 = 3)) d _ c h)
end Go.Proofs.YthklmeihgmcljaaGreatDoor
