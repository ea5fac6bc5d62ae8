/- Typed formulas of the program's functions, and the theorems that the contracts follow from them; printed by lift.py off the code. -/
import Derived.Test.YthklmeihgmcljaaGreatDoorzTV1
namespace Go.Proofs.YthklmeihgmcljaaGreatDoor
open Go.RowKit
set_option maxRecDepth 100000
set_option maxHeartbeats 2000000
def a1W (x0 : b6) (H : Hp) (K : Int → Hp → Prop) : Prop :=
 y4 x0 ⟨#[42]⟩ H (fun a b =>
 (a = true →
 K 8 b) ∧
 (a = false →
 y4 x0 ⟨#[47]⟩ b (fun c d =>
 (c = true →
 K 9 d) ∧
 (c = false →
 y4 x0 ⟨#[37]⟩ d (fun e f =>
 (e = true →
 K 10 f) ∧
 (e = false →
 K 0 f))))))
theorem a1X (x0) {H K} (h : a1W x0 H K) : N7 x0 H K := by
 intro g0
 refine Ct.of fun w0 w ps0 H0 R E I hR => c1Q ?_
 unfold a1W at h
 unfold c4M
 refine g9 Tryz.call23 (h g0) I ?_
 rintro _ e _ g a _ _ ⟨i, rfl, rfl, h⟩
 refine p7 h (fun _ h => ?_) (fun _ h => ?_)
 ·exact hR _ e _ _ a ⟨8, rfl, rfl, h⟩
 ·refine g9 Tryz.call23 (h g0) a ?_
  rintro _ f _ j b _ _ ⟨k, rfl, rfl, h⟩
  refine p7 h (fun _ h => ?_) (fun _ h => ?_)
  ·exact hR _ f _ _ b ⟨9, rfl, rfl, h⟩
  ·refine g9 Tryz.call23 (h g0) b ?_
   rintro _ c _ l d _ _ ⟨m, rfl, rfl, h⟩
   refine p7 h (fun _ h => ?_) (fun _ h => ?_)
   ·exact hR _ c _ _ d ⟨10, rfl, rfl, h⟩
   ·exact hR _ c _ _ d ⟨0, rfl, rfl, h⟩
def W6 (u5 : b6) (a : f8) (b : f8) (H : Hp) (K : f8 → b6 → Hp → Prop) : Prop :=
 K a u5 H
def R3 (a0g : Int) (d : f8) (p5 : b6) (e : f8) (H : Hp) (n2 : (f8 × b6 × f8) → Hp → Prop) (K : f8 → b6 → Hp → Prop) : Prop :=
 P8 p5 ⟨#[38, 38]⟩ H (fun f g i =>
 (f = true →
 a0d g a0g i (fun j k l =>
 ∀ (a : Sl) (b : Hp), Hle l b → SlH b 4 g8 a [d, j] → a.n ≤ a.c →
 n2 ((f8.mk 5 0 (Sl.mk none 0 0) a), k, e) b)) ∧
 (f = false →
 W6 g d e i K))
def Z0 (x0 : b6) (x1 : Int) (H : Hp) (K : f8 → b6 → Hp → Prop) : Prop :=
 a0d x0 x1 H (fun a b c =>
 TL ((a, b, (f8.mk 0 0 (Sl.mk none 0 0) (Sl.mk none 0 0))) : f8 × b6 × f8) c fun (s : f8 × b6 × f8) H n2 => R3 x1 s.1 s.2.1 s.2.2 H n2 K)
theorem a5u (x0 x1) {H K} (h : Z0 x0 x1 H K) : T9 x0 x1 H K := by
 intro g0
 refine Ct.of fun w0 w ps0 H0 R E I hR => c4s ?_
 unfold Z0 at h
 unfold F90
 refine p6 I Tryz.zeroValue49 (cs := [(vi 0), (vi 0), (nS), (nS)]) rfl fun m ay ab az => ?_
 refine g9 Tryz.call127 (h g0) (ab.bring 1) ?_
 rintro _ ac _ ba ad _ _ ⟨p, ae, rfl, rfl, h⟩
 refine p6 ad Tryz.zeroValue49 (cs := [(vi 0), (vi 0), (nS), (nS)]) rfl fun q bb af bc => ?_
 refine i6 af Tryz.sizeOf49 (vs := (g8 p)) (cs' := (g8 p)) rfl rfl (nb rfl) rfl rfl fun bd ag be => ?_
 have hj1 : ∀ (u5 : b6) (g : f8) (r : f8) H w (_ : Inv w0 ps0 H0 H [bx g0 66 (m5 u5), bx q 49 (g8 g), bx m 49 (g8 r)] w) (_ : W6 u5 g r H K), b4M (Value.pointer (some ⟨m, 0, none⟩)) (Value.pointer (some ⟨q, 0, none⟩)) w R E := by
  intro u5 g r H w I h
  unfold b4M
  intro _
  unfold W6 at h
  refine g6 (lW Tryz.isAgg49 Tryz.sizeOf49 rfl (I.bring 1)) ?_
  refine i6 (I.bring 2) Tryz.sizeOf49 (vs := (g8 g)) (cs' := (g8 g)) rfl rfl (nb rfl) rfl rfl fun bf u bg => ?_
  refine A5 Tryz.isAgg49 Tryz.sizeOf49 rfl (u.at1 (o := 0) (vs := (g8 g)) (nb rfl) rfl) ?_
  exact hR _ H _ _ (u.drop.bring 1).drop ⟨g, u5, rfl, rfl, h⟩
 refine z8 fun j1 hx1 => ?_
 obtain ⟨t, i, ah, ai⟩ := h
 refine G7 (J := fun n l w => ∃ (s : f8 × b6 × f8) (H : Hp) , n = i s ∧ l = (match s with | (d, p5, f) => []) ∧ (match s with | (d, p5, f) => Inv w0 ps0 H0 H [bx q 49 (g8 d), bx g0 66 (m5 p5), bx m 49 (g8 f)] w) ∧ t s H) ⟨_, (p, ae, (f8.mk 0 0 (Sl.mk none 0 0) (Sl.mk none 0 0))), ac, rfl, rfl, (((ag.bring 2).bring 2).bring 2), ah⟩ ?_
 rintro bh bi w next2 ⟨⟨d, p5, f⟩, H, rfl, v, I, aj⟩ hn2
 dsimp only at v I
 clear v
 obtain ⟨n2, hm2, h⟩ : ∃ n2 : (f8 × b6 × f8) → Hp → Prop, (∀ s' H', n2 s' H' → t s' H' ∧ i s' < i (d, p5, f)) ∧ R3 x1 d p5 f H n2 K := ⟨_, fun _ _ h => h, ai (d, p5, f) H (fun s' H' => t s' H' ∧ i s' < i (d, p5, f)) aj (fun _ _ a b => ⟨a, b⟩)⟩
 unfold b8J
 unfold R3 at h
 refine g9 Tryz.call67 (h g0) (I.bring 1) ?_
 rintro _ ak _ bj y _ _ ⟨bk, z, rfl, rfl, h⟩
 refine p7 h (fun _ h => ?_) (fun _ h => ?_)
 ·refine W4 y fun bl j => ?_
  refine C4 (lW Tryz.isAgg49 Tryz.sizeOf49 rfl (j.bring 1)) ?_
  refine g9 Tryz.call127 (h g0) j ?_
  rintro _ _ _ bm al _ am ⟨an, ao, rfl, rfl, h⟩
  refine ⟨(am _ (j.bring 1).lt1 (Inv.Z9 (Fi := [bx g0 66 (m5 z)]) ((j.bring 1).bring 1))), ?_⟩
  refine W5 (e := 49) (c := g8) (xs := [d, an]) al (b2a _ _ _ _ _ _ _ _ _ _ _ _ _ _ _ _) rfl rfl T3 T4 (nb rfl) fun k bn bo ap aq bp => ?_
  refine r8 (a5d _ _ _ _) ?_
  refine i6 (aq.bring 2) Tryz.sizeOf49 (vs := [(vi 5), (vi 0), (nS), (vs k)]) (cs' := [(vi 5), (vi 0), (nS), (vs k)]) rfl rfl (nb rfl) rfl rfl fun bq ar br => ?_
  obtain ⟨aa, au, av, aw, ax⟩ := Inv.freezeC (ar.bring 1) ap (by decide)
  replace h := h k aa av aw ax
  exact hn2 _ _ _ (hm2 _ _ h).2 ⟨((f8.mk 5 0 (Sl.mk none 0 0) k), ao, f), aa, rfl, rfl, (((au.bring 2).bring 2).bring 2), (hm2 _ _ h).1⟩
 ·exact hx1 _ _ (hj1 z d f ak _ (((y.bring 2).bring 2).bring 2) h)
def Y6 (a5Y : Int) (a5Z : Int) (a6a : Int) (a6b : Bool) (a6c : Bool) (a5p : (List ByteArray)) (H : Hp) (K : Bool → m8 → (List ByteArray) → Hp → Prop) : Prop :=
 K true (m8.mk a5Y a5Z a6a a6b a6c (Sl.mk none 0 0)) a5p H
def Y7 (a0g : Int) (a4u : Sl) (u1 : Int) (a2t : Int) (a1s : Int) (a1t : Int) (a1u : Int) (a1v : Bool) (a1w : Bool) (a0m : (List ByteArray)) (H : Hp) (n2 : (Int × Int × Int × Int × Bool × Bool × (List ByteArray)) → Hp → Prop) (K : Bool → m8 → (List ByteArray) → Hp → Prop) : Prop :=
 (a2t < u1 →
 (0 : Int) ≤ a2t ∧ (a2t : Int) < a4u.n ∧ ∃ c : d8, EltH H a4u a2t 1 [(H7 c)] ∧
 a1o (m8.mk a1s a1t a1u a1v a1w (Sl.mk none 0 0)) a0m c a0g H (fun b d e f =>
 TG ((!b) = false) (a3o c f) (Sl.mk none 0 0) f (fun (j : Sl) (g : Hp) =>
 TG ((!b) = false) (fun k_ => X6 j (IntKind.wrap .i64 (a0g + 1)) (a0b d) e g fun k l m H_ => k_ (k, l, m) H_) (false, (a0b d), e) g (fun (a : Bool × m8 × (List ByteArray)) (i : Hp) =>
 (((!b) || (!a.1)) = true →
 K false (m8.mk (a.2.1.fnodes) (a.2.1.fdepth) (a.2.1.fe) (a.2.1.fform) (a.2.1.fnamed) (Sl.mk none 0 0)) a.2.2 i) ∧
 (((!b) || (!a.1)) = false →
 n2 ((IntKind.wrap .i64 (a2t + 1)), (a.2.1.fnodes), (a.2.1.fdepth), (a.2.1.fe), (a.2.1.fform), (a.2.1.fnamed), a.2.2) i))))) ∧
 (¬ (a2t < u1) →
 Y6 a1s a1t a1u a1v a1w a0m H K)
def a2X (x0 : Sl) (x1 : Int) (x2 : m8) (a : (List ByteArray)) (H : Hp) (K : Bool → m8 → (List ByteArray) → Hp → Prop) : Prop :=
 TL ((0, x2.fnodes, x2.fdepth, x2.fe, x2.fform, x2.fnamed, a) : Int × Int × Int × Int × Bool × Bool × (List ByteArray)) H fun (s : Int × Int × Int × Int × Bool × Bool × (List ByteArray)) H n2 => Y7 x1 x0 (x0.n : Int) s.1 s.2.1 s.2.2.1 s.2.2.2.1 s.2.2.2.2.1 s.2.2.2.2.2.1 s.2.2.2.2.2.2 H n2 K
theorem a8c (x0 x1 x2 ai) {H K} (h : a2X x0 x1 x2 ai H K) : X6 x0 x1 x2 ai H K := by
 intro g2 g2b g3 az ba bb
 refine Ct.of fun w0 w ps0 H0 R E I hR => c1L ?_
 unfold a2X at h
 unfold c4H
 have hj1 : ∀ (a5Y : Int) (a5Z : Int) (a6a : Int) (a6b : Bool) (a6c : Bool) (a5p : (List ByteArray)) (a7Q : Sl) (a7R : Frag) H w (_ : RowL 9 1 K2 a7Q a5p a7R) (_ : Inv w0 ps0 H0 H [bx g2 80 [(Value.pointer (some ⟨g2b, 0, none⟩))], bx g2b 79 [(vi a5Y), (vi a5Z), (vi a6a), (vB a6b), (vB a6c), (vs a7Q)], bx g3 169 [(Value.func (.func 118) #[] #[(Value.pointer (some ⟨g2, 0, none⟩)), (Value.pointer (some ⟨g3, 0, none⟩))])], a7R] w) (_ : Y6 a5Y a5Z a6a a6b a6c a5p H K), b2j w R E := by
  intro a5Y a5Z a6a a6b a6c a5p a7Q a7R H w b8O I h
  unfold b2j
  intro _
  unfold Y6 at h
  exact hR _ H _ _ ((((I.bring 2).bring 3).bring 3).bring 3) ⟨true, (m8.mk a5Y a5Z a6a a6b a6c (Sl.mk none 0 0)), a5p, a7Q, a7R, rfl, rfl, b8O, h⟩
 refine z8 fun j1 hx1 => ?_
 refine a7 (a7c _ _ _) ?_
 obtain ⟨aj, z, bc, bd⟩ := h
 refine G7 (J := fun n l w => ∃ (s : Int × Int × Int × Int × Bool × Bool × (List ByteArray)) (H : Hp) (a6B : Sl) (a6C : Frag) , n = z s ∧ l = (match s with | (a2t, a1s, a1t, a1u, a1v, a1w, a0m) => [(vi a2t)]) ∧ (match s with | (a2t, a1s, a1t, a1u, a1v, a1w, a0m) => RowL 9 1 K2 a6B a0m a6C) ∧ (match s with | (a2t, a1s, a1t, a1u, a1v, a1w, a0m) => Inv w0 ps0 H0 H [bx g2 80 [(Value.pointer (some ⟨g2b, 0, none⟩))], bx g2b 79 [(vi a1s), (vi a1t), (vi a1u), (vB a1v), (vB a1w), (vs a6B)], bx g3 169 [(Value.func (.func 118) #[] #[(Value.pointer (some ⟨g2, 0, none⟩)), (Value.pointer (some ⟨g3, 0, none⟩))])], a6C] w) ∧ aj s H) ⟨_, (0, x2.fnodes, x2.fdepth, x2.fe, x2.fform, x2.fnamed, ai), H, az, ba, rfl, rfl, bb, ((((I.bring 2).bring 3).bring 3).bring 3), bc⟩ ?_
 rintro bj bk w next2 ⟨⟨a2t, a1s, a1t, a1u, a1v, a1w, a0m⟩, H, a6B, a6C, rfl, ak, a9B, I, be⟩ hn2
 dsimp only at ak I a9B
 simp only [List.map_cons, List.map_nil, List.cons.injEq, and_true] at ak
 have e11 := ak
 simp only [e11]
 obtain ⟨n2, hm2, h⟩ : ∃ n2 : (Int × Int × Int × Int × Bool × Bool × (List ByteArray)) → Hp → Prop, (∀ s' H', n2 s' H' → aj s' H' ∧ z s' < z (a2t, a1s, a1t, a1u, a1v, a1w, a0m)) ∧ Y7 x1 x0 (x0.n : Int) a2t a1s a1t a1u a1v a1w a0m H n2 K := ⟨_, fun _ _ h => h, bd (a2t, a1s, a1t, a1u, a1v, a1w, a0m) H (fun s' H' => aj s' H' ∧ z s' < z (a2t, a1s, a1t, a1u, a1v, a1w, a0m)) be (fun _ _ a b => ⟨a, b⟩)⟩
 unfold b6n
 unfold Y7 at h
 refine a7 pLs ?_
 refine m6 h (fun _ h => ?_) (fun _ h => ?_)
 ·obtain ⟨bf, bg, bh, al, h⟩ := h
  obtain ⟨bl, bm, bi, al⟩ := al
  refine a7 (b8q bi _ _ _ _ bf bg) (g6 (ld1 (v := (H7 bh)) Tryz.isAgg131 (I.atH al)) ?_)
  refine W4 I fun bn ao => ?_
  refine C4 (l1 Tryz.isAgg80 ao rfl) ?_
  refine g9 Tryz.call119 (h g2b a6B a6C a9B) ((ao.bring 3).bring 2) ?_
  rintro _ ap _ aq o _ _ ⟨p, aa, am, ac, ad, rfl, rfl, ar, h⟩
  refine r8 (T2 _) ?_
  simp only [E5]
  refine r8 (Pu.g fun c => by simp only [m1 c]; with_reducible exact pAd) ?_
  refine C4 (Ld.g fun c => by exact (l1 Tryz.isAgg169 (o.bring 3) rfl)) ?_
  refine G6 (D := fun au u => ∃ (ab : Sl) (k : Hp), au = (gv (!p) false (vs ab)) ∧ (Inv w0 ps0 H0 k [bx g2b 79 (a0u aa ac), ad, bx g2 80 [(Value.pointer (some ⟨g2b, 0, none⟩))], bx g3 169 [(Value.func (.func 118) #[] #[(Value.pointer (some ⟨g2, 0, none⟩)), (Value.pointer (some ⟨g3, 0, none⟩))])]] u) ∧ (∀ i, i < aq.heap.size → ¬ inF [] i → u.heap[i]? = aq.heap[i]?) ∧ Hle ap k ∧ (TG ((!p) = false) (fun k_ => X6 ab (IntKind.wrap .i64 (x1 + 1)) (a0b aa) am k fun m d j H_ => k_ (m, d, j) H_) (false, (a0b aa), am) k (fun (e : Bool × m8 × (List ByteArray)) (f : Hp) =>
 (((!p) || (!e.1)) = true →
 K false (m8.mk (e.2.1.fnodes) (e.2.1.fdepth) (e.2.1.fe) (e.2.1.fform) (e.2.1.fnamed) (Sl.mk none 0 0)) e.2.2 f) ∧
 (((!p) || (!e.1)) = false →
 n2 ((IntKind.wrap .i64 (a2t + 1)), (e.2.1.fnodes), (e.2.1.fdepth), (e.2.1.fe), (e.2.1.fform), (e.2.1.fnamed), e.2.2) f)))) (fun y => ?_) (fun y => ?_) ?_
  ·replace h := h.1 y
   have c := y
   simp only [m1 c]
   refine a8b o h (fun ab k u ae av an h => ?_)
   exact ⟨ab, k, by rfl, ae, an, av, h⟩
  ·exact ⟨(Sl.mk none 0 0), ap, by rw [R8 y], o, fun _ _ _ => rfl, Hle.refl _, h.2 y⟩
  ·clear h
   rintro au u ⟨ab, k, rfl, ae, an, av, h⟩
   refine ⟨(an _ (o.bring 3).lt1 (Inv.Z9 (Fi := []) (o.bring 3))), ?_⟩
   refine G6 (D := fun aw af => ∃ (m : Bool) (d : m8) (j : (List ByteArray)) (f : Hp) (q : Sl) (r : Frag) , aw = (gv (!p) false (vB m)) ∧ (RowL 9 1 K2 q j r) ∧ (Inv w0 ps0 H0 f [bx g2 80 [(Value.pointer (some ⟨g2b, 0, none⟩))], bx g2b 79 (a0u d q), r, bx g3 169 [(Value.func (.func 118) #[] #[(Value.pointer (some ⟨g2, 0, none⟩)), (Value.pointer (some ⟨g3, 0, none⟩))])]] af) ∧ (∀ i, i < u.heap.size → ¬ inF [bx g2 80 [(Value.pointer (some ⟨g2b, 0, none⟩))], bx g2b 79 (a0u aa ac), ad, bx g3 169 [(Value.func (.func 118) #[] #[(Value.pointer (some ⟨g2, 0, none⟩)), (Value.pointer (some ⟨g3, 0, none⟩))])]] i → af.heap[i]? = u.heap[i]?) ∧ Hle k f ∧ ((((!p) || (!m)) = true →
 K false (a0b d) j f) ∧
 (((!p) || (!m)) = false →
 n2 ((IntKind.wrap .i64 (a2t + 1)), d.fnodes, d.fdepth, d.fe, d.fform, d.fnamed, j) f))) (fun t => ?_) (fun t => ?_) ?_
   ·replace h := h.1 t
    have c := t
    simp only [m1 c]
    refine a5C (cap := [(Value.pointer (some ⟨g2, 0, none⟩)), (Value.pointer (some ⟨g3, 0, none⟩))]) Tryz.call118 (h g2 g2b g3 ac ad ar) ((((ae.bring 3).bring 2).bring 2).bring 3) ?_
    rintro _ f _ af ag ax ay ⟨m, d, j, q, r, rfl, rfl, ah, h⟩
    exact ⟨m, d, j, f, q, r, by rfl, ah, ag, ay, ax, h⟩
   ·exact ⟨false, (a0b aa), am, k, ac, ad, by rw [R8 t], ar, ((((ae.bring 3).bring 2).bring 2).bring 3), fun _ _ _ => rfl, Hle.refl _, h.2 t⟩
   ·clear h
    rintro aw af ⟨m, d, j, f, q, r, rfl, ah, ag, ay, ax, h⟩
    refine r8 (Pu.g fun c => by simp only [m1 c]; with_reducible exact (T2 _)) ?_
    refine r8 (P6 _ _) ?_
    refine p7 h (fun _ h => ?_) (fun _ h => ?_)
    ·exact hR _ f _ _ ((((ag.bring 3).bring 3).bring 3).bring 3) ⟨false, (a0b d), j, q, r, rfl, rfl, ah, h⟩
    ·refine a7 pAd ?_
     exact hn2 _ _ _ (hm2 _ _ h).2 ⟨((IntKind.wrap .i64 (a2t + 1)), d.fnodes, d.fdepth, d.fe, d.fform, d.fnamed, j), f, q, r, rfl, rfl, ah, ((((ag.bring 2).bring 3).bring 3).bring 3), (hm2 _ _ h).1⟩
 ·exact hx1 _ _ (hj1 a1s a1t a1u a1v a1w a0m a6B a6C H _ a9B ((((I.bring 3).bring 3).bring 3).bring 3) h)
def a3p (x0 : l7) (H : Hp) (K : Bool → Hp → Prop) : Prop :=
 a0p x0 H (fun a b =>
 K ((!decide (a = 32)) && (!decide (a = 33))) b)
theorem a8r (x0) {H K} (h : a3p x0 H K) : a1j x0 H K := by
 refine Ct.of fun w0 w ps0 H0 R E I hR => c3S ?_
 unfold a3p at h
 unfold F45
 refine T7 I (cs := (l9 x0)) rfl fun f i b j => ?_
 refine g6 (lW Tryz.isAgg26 Tryz.sizeOf26 rfl b) ?_
 refine g9 Tryz.call12 h b ?_
 rintro _ d _ k e _ _ ⟨c, rfl, rfl, h⟩
 refine a7 pNe ?_
 simp only [E5]
 refine a7 (Pu.g fun a => by simp only [m1 a]; with_reducible exact pNe) ?_
 refine a7 (C1 _ _) ?_
 exact hR _ d _ _ e.drop ⟨((!decide (c = 32)) && (!decide (c = 33))), rfl, rfl, h⟩
def N5 (H : Hp) (K : Bool → Hp → Prop) : Prop :=
 K true H
def G8 (b2H : Sl) (a0g : Sl) (c1d : Int) (a3G : Int) (H : Hp) (n2 : Int → Hp → Prop) (K : Bool → Hp → Prop) : Prop :=
 (a3G < c1d →
 (0 : Int) ≤ a3G ∧ (a3G : Int) < b2H.n ∧ ∃ a : k7, EltH H b2H a3G 2 (y3 a) ∧
 (0 : Int) ≤ a3G ∧ (a3G : Int) < a0g.n ∧ ∃ b : k7, EltH H a0g a3G 2 (y3 b) ∧
 (¬ (a.o9 = b.o9 ∧ a.a0o = b.a0o) →
 K false H) ∧
 (a.o9 = b.o9 ∧ a.a0o = b.a0o →
 n2 (IntKind.wrap .i64 (a3G + 1)) H)) ∧
 (¬ (a3G < c1d) →
 N5 H K)
def O4 (x0 : Sl) (x1 : Sl) (H : Hp) (K : Bool → Hp → Prop) : Prop :=
 (¬ ((x0.n : Int) = (x1.n : Int)) →
 K false H) ∧
 ((x0.n : Int) = (x1.n : Int) →
 TL (0 : Int) H fun (s : Int) H n2 => G8 x0 x1 (x0.n : Int) s H n2 K)
theorem a2B (x0 x1) {H K} (h : O4 x0 x1 H K) : E1 x0 x1 H K := by
 refine Ct.of fun w0 w ps0 H0 R E I hR => c3T ?_
 unfold O4 at h
 unfold F46
 refine a7 (a6y _ _ _) (a7 (a6y _ _ _) (a7 pNe ?_))
 refine a1T h (fun _ h => ?_) (fun _ h => ?_)
 ·exact hR _ H _ _ I ⟨false, rfl, rfl, h⟩
 ·have hj1 : ∀ H w (_ : Inv w0 ps0 H0 H [] w) (_ : N5 H K), b4u w R E := by
   intro H w I h
   unfold b4u
   intro _
   unfold N5 at h
   exact hR _ H _ _ I ⟨true, rfl, rfl, h⟩
  refine z8 fun j1 hx1 => ?_
  refine a7 (a6y _ _ _) ?_
  obtain ⟨e, c, j, k⟩ := h
  refine G7 (J := fun n l w => ∃ (s : Int) (H : Hp) , n = c s ∧ l = [(vi s)] ∧ Inv w0 ps0 H0 H [] w ∧ e s H) ⟨_, 0, H, rfl, rfl, I, j⟩ ?_
  rintro z aa w next2 ⟨a3G, H, rfl, i, I, m⟩ hn2
  simp only [List.map_cons, List.map_nil, List.cons.injEq, and_true] at i
  have e13 := i
  simp only [e13]
  obtain ⟨n2, hm2, h⟩ : ∃ n2 : Int → Hp → Prop, (∀ s' H', n2 s' H' → e s' H' ∧ c s' < c a3G) ∧ G8 x0 x1 (x0.n : Int) a3G H n2 K := ⟨_, fun _ _ h => h, k a3G H (fun s' H' => e s' H' ∧ c s' < c a3G) m (fun _ _ a b => ⟨a, b⟩)⟩
  unfold b8y
  unfold G8 at h
  refine a7 pLs ?_
  refine m6 h (fun _ h => ?_) (fun _ h => ?_)
  ·refine W4 I fun ab d => ?_
   obtain ⟨o, p, q, f, h⟩ := h
   obtain ⟨ac, ad, r, f⟩ := f
   refine r8 (b0S r _ _ _ _ o p) ?_
   obtain ⟨t, u, v, g, h⟩ := h
   obtain ⟨ae, af, y, g⟩ := g
   refine r8 (b0S y _ _ _ _ t u) ?_
   refine C4 (ldA (vs := (y3 q)) Tryz.isAgg68 Tryz.sizeOf68 rfl (d.atH f)) ?_
   refine C4 (ldA (vs := (y3 v)) Tryz.isAgg68 Tryz.sizeOf68 rfl (d.atH g)) ?_
   refine r8 (b9I _ _ _ _ _ _) ?_
   refine a1T h (fun _ h => ?_) (fun _ h => ?_)
   ·exact hR _ H _ _ d ⟨false, rfl, rfl, h⟩
   ·refine a7 pAd ?_
    exact hn2 _ _ _ (hm2 _ _ h).2 ⟨(IntKind.wrap .i64 (a3G + 1)), H, rfl, rfl, d, (hm2 _ _ h).1⟩
  ·exact hx1 _ _ (hj1 H _ I h)
def a2Y (x0 : f8) (x1 : f8) (H : Hp) (K : Bool → Hp → Prop) : Prop :=
 TG (((decide (x0.c8 = x1.c8)) && (decide (x0.fOp = x1.fOp))) = true) (m9 x0.m7 x1.m7 H) false H (fun (a : Bool) (b : Hp) =>
 TG ((((decide (x0.c8 = x1.c8)) && (decide (x0.fOp = x1.fOp))) && a) = true) (l0 x0.E4 x1.E4 b) false b (fun (c : Bool) (d : Hp) =>
 K ((((decide (x0.c8 = x1.c8)) && (decide (x0.fOp = x1.fOp))) && a) && c) d))
theorem a8d (x0 x1) {H K} (h : a2Y x0 x1 H K) : a0O x0 x1 H K := by
 refine Ct.of fun w0 w ps0 H0 R E I hR => c4w ?_
 unfold a2Y at h
 unfold F96
 refine T7 I (cs := (g8 x0)) rfl fun p ab aa ac => ?_
 refine T7 aa (cs := (g8 x1)) rfl fun q r b ad => ?_
 refine a7 a6Y (g6 (l1 Tryz.isAgg3 (b.bring 1) rfl) (a7 a6Y (g6 (l1 Tryz.isAgg3 b rfl) (a7 pEq ?_))))
 refine a7 (Pu.g fun a => by with_reducible exact a5G) ?_
 refine g6 (Ld.g fun a => by simp only [m1 a]; exact (l1 Tryz.isAgg3 (b.bring 1) rfl)) ?_
 refine a7 (Pu.g fun a => by with_reducible exact a5G) ?_
 refine g6 (Ld.g fun a => by simp only [m1 a]; exact (l1 Tryz.isAgg3 b rfl)) ?_
 refine a7 (Pu.g fun a => by simp only [m1 a]; with_reducible exact pEq) ?_
 refine a7 (C1 _ _) ?_
 refine a7 (Pu.g fun a => by with_reducible exact a7a) ?_
 refine g6 (Ld.g fun a => by simp only [m1 a]; exact (l1 Tryz.isAgg38 (b.bring 1) rfl)) ?_
 refine a7 (Pu.g fun a => by with_reducible exact a7a) ?_
 refine g6 (Ld.g fun a => by simp only [m1 a]; exact (l1 Tryz.isAgg38 b rfl)) ?_
 refine G6 (D := fun s m => ∃ (d : Bool) (e : Hp) , s = (gv ((decide (x0.c8 = x1.c8)) && (decide (x0.fOp = x1.fOp))) true (vB d)) ∧ (Inv w0 ps0 H0 e [bx q 49 (g8 x1), bx p 49 (g8 x0)] m) ∧ (∀ i, i < r.heap.size → ¬ inF [] i → m.heap[i]? = r.heap[i]?) ∧ Hle H e ∧ (TG ((((decide (x0.c8 = x1.c8)) && (decide (x0.fOp = x1.fOp))) && d) = true) (l0 x0.E4 x1.E4 e) false e (fun (j : Bool) (f : Hp) =>
 K ((((decide (x0.c8 = x1.c8)) && (decide (x0.fOp = x1.fOp))) && d) && j) f))) (fun k => ?_) (fun k => ?_) ?_
 ·replace h := h.1 k
  have a := k
  simp only [m1 a]
  refine g9 Tryz.call93 h b ?_
  rintro _ e _ m c t u ⟨d, rfl, rfl, h⟩
  exact ⟨d, e, by rfl, c, u, t, h⟩
 ·exact ⟨false, H, by rw [R8 k], b, fun _ _ _ => rfl, Hle.refl _, h.2 k⟩
 ·clear h
  rintro s m ⟨d, e, rfl, c, u, t, h⟩
  refine a7 (C1 _ _) ?_
  refine a7 (Pu.g fun a => by with_reducible exact a6Z) ?_
  refine g6 (Ld.g fun a => by simp only [m1 a]; exact (l1 Tryz.isAgg47 (c.bring 1) rfl)) ?_
  refine a7 (Pu.g fun a => by with_reducible exact a6Z) ?_
  refine g6 (Ld.g fun a => by simp only [m1 a]; exact (l1 Tryz.isAgg47 c rfl)) ?_
  refine G6 (D := fun v n => ∃ (j : Bool) (f : Hp) , v = (gv (((decide (x0.c8 = x1.c8)) && (decide (x0.fOp = x1.fOp))) && d) true (vB j)) ∧ (Inv w0 ps0 H0 f [bx q 49 (g8 x1), bx p 49 (g8 x0)] n) ∧ (∀ i, i < m.heap.size → ¬ inF [] i → n.heap[i]? = m.heap[i]?) ∧ Hle e f ∧ (K ((((decide (x0.c8 = x1.c8)) && (decide (x0.fOp = x1.fOp))) && d) && j) f)) (fun l => ?_) (fun l => ?_) ?_
  ·replace h := h.1 l
   have a := l
   simp only [m1 a]
   refine g9 Tryz.call95 h c ?_
   rintro _ f _ n o y z ⟨j, rfl, rfl, h⟩
   exact ⟨j, f, by rfl, o, z, y, h⟩
  ·exact ⟨false, e, by rw [R8 l], c, fun _ _ _ => rfl, Hle.refl _, h.2 l⟩
  ·clear h
   rintro v n ⟨j, f, rfl, o, z, y, h⟩
   refine a7 (C1 _ _) ?_
   exact hR _ f _ _ o.drop.drop ⟨((((decide (x0.c8 = x1.c8)) && (decide (x0.fOp = x1.fOp))) && d) && j), rfl, rfl, h⟩
def a2O (x0 : ByteArray) (H : Hp) (K : Bool → Hp → Prop) : Prop :=
 a1K H (fun c d =>
 ((!c) = true →
 K false d) ∧
 ((!c) = false →
 W1 x0 d (fun e n a j =>
 (⟨#[35, 32, 10]⟩ : ByteArray).size + x0.size ≤ 9223372036854775807 ∧
 W1 ((⟨#[35, 32, 10]⟩ : ByteArray) ++ x0) j (fun k o f b =>
 (65536 < (IntKind.wrap .i64 ((x0.size : Int) + 3)) →
 K true b) ∧
 (¬ (65536 < (IntKind.wrap .i64 ((x0.size : Int) + 3))) →
 (¬ (a = f) →
 K false b) ∧
 (a = f →
 TG ((!decide (a = 0)) = false) (a0p e b) 0 b (fun (g : Int) (i : Hp) =>
 TG ((!(!decide (a = 0)) && (decide (g = 0))) = true) (a2r e k i) false i (fun (l : Bool) (m : Hp) =>
 K ((!decide (a = 0)) || ((decide (g = 0)) && l)) m))))))))
theorem a5L (x0) {H K} (h : a2O x0 H K) : a0e x0 H K := by
 refine Ct.of fun w0 w ps0 H0 R E I hR => c6T ?_
 unfold a2O at h
 unfold F7
 refine g9 Tryz.call8 h I ?_
 rintro _ al _ az z _ _ ⟨ba, rfl, rfl, h⟩
 refine a7 (T2 _) ?_
 refine p7 h (fun _ h => ?_) (fun _ h => ?_)
 ·exact hR _ al _ _ z ⟨false, rfl, rfl, h⟩
 ·refine g9 Tryz.call9 h z ?_
  rintro _ bb _ bc am _ _ ⟨q, s, l, rfl, rfl, h⟩
  refine a7 (j9 _ _ _ rfl) (a7 (j9 _ _ _ rfl) (a7 (j9 _ _ (vi l) rfl) ?_))
  refine p6 am Tryz.zeroValue26 (cs := [(nS), (nS)]) rfl fun aa bd an be => ?_
  refine p6 an Tryz.zeroValue28 (cs := [(vi 0), (vi 0)]) rfl fun ab bf ao bg => ?_
  refine i6 (ao.bring 1) Tryz.sizeOf26 (vs := (l9 q)) (cs' := (l9 q)) rfl rfl (nb rfl) rfl rfl fun bh ap bi => ?_
  refine i6 (ap.bring 1) Tryz.sizeOf28 (vs := (j8 s)) (cs' := (j8 s)) rfl rfl (nb rfl) rfl rfl fun bj aq bk => ?_
  obtain ⟨ar, h⟩ := h
  refine a7 (c3u _ _ _ ⟨#[35, 32, 10]⟩ x0 ar) ?_
  refine g9 Tryz.call9 h aq ?_
  rintro _ t _ bl au _ _ ⟨r, u, av, rfl, rfl, h⟩
  refine a7 (j9 _ _ _ rfl) (a7 (j9 _ _ _ rfl) (a7 (j9 _ _ (vi av) rfl) ?_))
  refine p6 au Tryz.zeroValue26 (cs := [(nS), (nS)]) rfl fun ac bm aw bn => ?_
  refine p6 aw Tryz.zeroValue28 (cs := [(vi 0), (vi 0)]) rfl fun ad bo ax bp => ?_
  refine i6 (ax.bring 1) Tryz.sizeOf26 (vs := (l9 r)) (cs' := (l9 r)) rfl rfl (nb rfl) rfl rfl fun bq ay br => ?_
  refine i6 (ay.bring 1) Tryz.sizeOf28 (vs := (j8 u)) (cs' := (j8 u)) rfl rfl (nb rfl) rfl rfl fun ae m bs => ?_
  refine a7 (a5i _) (a7 pAd (a7 pGt ?_))
  refine m6 h (fun _ h => ?_) (fun _ h => ?_)
  ·exact hR _ t _ _ m.drop.drop.drop.drop ⟨true, rfl, rfl, h⟩
  ·refine a7 pNe ?_
   refine a1T h (fun _ h => ?_) (fun _ h => ?_)
   ·exact hR _ t _ _ m.drop.drop.drop.drop ⟨false, rfl, rfl, h⟩
   ·refine a7 pNe ?_
    refine g6 (Ld.g fun a => by exact (lW Tryz.isAgg26 Tryz.sizeOf26 rfl (m.bring 3))) ?_
    refine G6 (D := fun af p => ∃ (d : Int) (f : Hp) , af = (gv (!decide (l = 0)) false (vi d)) ∧ (Inv w0 ps0 H0 f [bx ad 28 (j8 u), bx ac 26 (l9 r), bx ab 28 (j8 s), bx aa 26 (l9 q)] p) ∧ (∀ i, i < ae.heap.size → ¬ inF [] i → p.heap[i]? = ae.heap[i]?) ∧ Hle t f ∧ (TG ((!(!decide (l = 0)) && (decide (d = 0))) = true) (a2r q r f) false f (fun (k : Bool) (j : Hp) =>
 K ((!decide (l = 0)) || ((decide (d = 0)) && k)) j))) (fun n => ?_) (fun n => ?_) ?_
    ·replace h := h.1 n
     have a := n
     simp only [m1 a]
     refine g9 Tryz.call12 h m ?_
     rintro _ f _ p c ag ah ⟨d, rfl, rfl, h⟩
     exact ⟨d, f, by rfl, c, ah, ag, h⟩
    ·exact ⟨0, t, by rw [R8 n], m, fun _ _ _ => rfl, Hle.refl _, h.2 n⟩
    ·clear h
     rintro af p ⟨d, f, rfl, c, ah, ag, h⟩
     refine a7 (Pu.g fun a => by simp only [m1 a]; with_reducible exact pEq) ?_
     simp only [E5, a9S]
     refine g6 (Ld.e (a0t _ _ _) (Ld.g fun hb => by obtain ⟨a, b⟩ := a3A hb; exact (lW Tryz.isAgg26 Tryz.sizeOf26 rfl (c.bring 3)))) ?_
     refine g6 (Ld.e (a0t _ _ _) (Ld.g fun hb => by obtain ⟨a, b⟩ := a3A hb; exact (lW Tryz.isAgg26 Tryz.sizeOf26 rfl (c.bring 1)))) ?_
     refine b7m (a0t _ _ _) ?_
     refine G6 (D := fun ai v => ∃ (k : Bool) (j : Hp) , ai = (gv (!(!decide (l = 0)) && (decide (d = 0))) true (vB k)) ∧ (Inv w0 ps0 H0 j [bx ad 28 (j8 u), bx ac 26 (l9 r), bx ab 28 (j8 s), bx aa 26 (l9 q)] v) ∧ (∀ i, i < p.heap.size → ¬ inF [] i → v.heap[i]? = p.heap[i]?) ∧ Hle f j ∧ (K ((!decide (l = 0)) || ((decide (d = 0)) && k)) j)) (fun o => ?_) (fun o => ?_) ?_
     ·replace h := h.1 o
      obtain ⟨a, b⟩ := a3A o
      simp only [m1 o]
      refine g9 Tryz.call19 h c ?_
      rintro _ j _ v y aj ak ⟨k, rfl, rfl, h⟩
      exact ⟨k, j, by rfl, y, ak, aj, h⟩
     ·exact ⟨false, f, by rw [R8 o], c, fun _ _ _ => rfl, Hle.refl _, h.2 o⟩
     ·clear h
      rintro ai v ⟨k, j, rfl, y, ak, aj, h⟩
      refine a7 (Pu.g fun a => by simp only [m1 a, a9y a]; with_reducible exact (C1 _ _)) ?_
      refine a7 (P6 _ _) ?_
      exact hR _ j _ _ y.drop.drop.drop.drop ⟨((!decide (l = 0)) || ((decide (d = 0)) && k)), rfl, rfl, h⟩
def a3V [PanQ] (x0 : a8) (x1 : ByteArray) (H : Hp) (K : a8 → Hp → Prop) : Prop :=
 u0 x0 x1 H (fun b a c =>
 ((!b) = true →
 D8 a c (fun d =>
 K a d)) ∧
 ((!b) = false →
 K a c))
theorem a6I [PanQ] (x0 : a8) (x1 : ByteArray) {H : Hp} {K : a8 → Hp → Prop} (h : a3V x0 x1 H K) : B8 x0 x1 H K := by
 intro g0
 refine Ct.ofE fun w0 w ps0 H0 R E I hR hE => c1G ?_
 unfold a3V at h
 unfold c4C
 refine g9 Tryz.call105 (h g0) I ?_
 rintro _ c _ f a _ _ ⟨g, b, rfl, rfl, h⟩
 refine a7 (T2 _) ?_
 refine p7 h (fun _ h => ?_) (fun _ h => ?_)
 ·refine A0 hE Tryz.call52 (h g0) a ?_
  rintro _ d _ i e _ _ ⟨rfl, rfl, h⟩
  exact hR _ d _ _ e ⟨b, rfl, rfl, h⟩
 ·exact hR _ c _ _ a ⟨b, rfl, rfl, h⟩
def V2 [PanQ] (u5 : a8) (a : b5) (b : b5) (H : Hp) (K : b5 → a8 → Hp → Prop) : Prop :=
 K a (a8.mk u5.fl (IntKind.wrap .i64 (u5.fn + 1))) H
def a3W [PanQ] (x0 : a8) (H : Hp) (K : b5 → a8 → Hp → Prop) : Prop :=
 B1 x0 H (fun a b =>
 (a.c8 = 5 →
 D8 x0 b (fun c =>
 V2 x0 a (b5.mk 0 ⟨#[]⟩ 0 (b8.mk 0 0)) c K)) ∧
 (¬ (a.c8 = 5) →
 V2 x0 a (b5.mk 0 ⟨#[]⟩ 0 (b8.mk 0 0)) b K))
theorem a6J [PanQ] (x0 : a8) {H : Hp} {K : b5 → a8 → Hp → Prop} (h : a3W x0 H K) : O9 x0 H K := by
 intro g0
 refine Ct.ofE fun w0 w ps0 H0 R E I hR hE => c1H ?_
 unfold a3W at h
 unfold c4D
 refine p6 I Tryz.zeroValue103 (cs := [(vi 0), (eS), (vi 0), (vi 0), (vi 0)]) rfl fun c n g p => ?_
 refine g9 Tryz.call51 (h g0) (g.bring 1) ?_
 rintro _ i _ q j _ _ ⟨a, rfl, rfl, h⟩
 refine p6 j Tryz.zeroValue103 (cs := [(vi 0), (eS), (vi 0), (vi 0), (vi 0)]) rfl fun d r k s => ?_
 refine i6 k Tryz.sizeOf103 (vs := (f9 a)) (cs' := (f9 a)) rfl rfl (nb rfl) rfl rfl fun t b u => ?_
 have hj1 : ∀ H w (_ : Inv w0 ps0 H0 H [bx g0 101 (b7 x0), bx d 103 (f9 a), bx c 103 [(vi (b5.mk 0 ⟨#[]⟩ 0 (b8.mk 0 0)).c8), (Value.string (b5.mk 0 ⟨#[]⟩ 0 (b8.mk 0 0)).B6), (vi (b5.mk 0 ⟨#[]⟩ 0 (b8.mk 0 0)).J5), (vi (b5.mk 0 ⟨#[]⟩ 0 (b8.mk 0 0)).fAt.D9), (vi (b5.mk 0 ⟨#[]⟩ 0 (b8.mk 0 0)).fAt.L6)]] w) (_ : V2 x0 a (b5.mk 0 ⟨#[]⟩ 0 (b8.mk 0 0)) H K), b2h (Value.pointer (some ⟨g0, 0, none⟩)) (Value.pointer (some ⟨c, 0, none⟩)) (Value.pointer (some ⟨d, 0, none⟩)) w R E := by
  intro H w I h
  unfold b2h
  intro _
  unfold V2 at h
  refine a7 (u2 _) (a7 a2W (g6 (l1 Tryz.isAgg3 I rfl) (a7 pAd (a7 (u2 _) ?_))))
  refine a7 a2W ?_
  refine i6 I Tryz.sizeOf3 (vs := [(vi (IntKind.wrap .i64 (x0.fn + 1)))]) (cs' := [(vs x0.fl), (vi (IntKind.wrap .i64 (x0.fn + 1)))]) rfl rfl (nb rfl) rfl rfl fun v e y => ?_
  refine g6 (lW Tryz.isAgg103 Tryz.sizeOf103 rfl (e.bring 1)) ?_
  refine i6 (e.bring 2) Tryz.sizeOf103 (vs := (f9 a)) (cs' := (f9 a)) rfl rfl (nb rfl) rfl rfl fun z f aa => ?_
  refine A5 Tryz.isAgg103 Tryz.sizeOf103 rfl (f.at1 (o := 0) (vs := (f9 a)) (nb rfl) rfl) ?_
  exact hR _ H _ _ (f.drop.bring 1).drop ⟨a, (a8.mk x0.fl (IntKind.wrap .i64 (x0.fn + 1))), rfl, rfl, h⟩
 refine z8 fun j1 hx1 => ?_
 refine a7 a0L (g6 (l1 Tryz.isAgg3 b rfl) (a7 pEq ?_))
 refine m6 h (fun _ h => ?_) (fun _ h => ?_)
 ·refine A0 hE Tryz.call52 (h g0) (b.bring 1) ?_
  rintro _ l _ ab m _ _ ⟨rfl, rfl, h⟩
  exact hx1 _ _ (hj1 l _ (((m.bring 2).bring 2).bring 2) h)
 ·exact hx1 _ _ (hj1 i _ (((b.bring 2).bring 1).bring 2) h)
def Q7 [PanQ] (u5 : a8) (d : b5) (H : Hp) (K : b5 → a8 → Hp → Prop) : Prop :=
 O9 u5 H (fun a b c =>
 K a b c)
def a3X [PanQ] (x0 : a8) (x1 : Int) (H : Hp) (K : b5 → a8 → Hp → Prop) : Prop :=
 B1 x0 H (fun a b =>
 (¬ (a.c8 = x1) →
 D8 x0 b (fun c =>
 Q7 x0 (b5.mk 0 ⟨#[]⟩ 0 (b8.mk 0 0)) c K)) ∧
 (a.c8 = x1 →
 Q7 x0 (b5.mk 0 ⟨#[]⟩ 0 (b8.mk 0 0)) b K))
theorem a6K [PanQ] (x0 : a8) (x1 : Int) {H : Hp} {K : b5 → a8 → Hp → Prop} (h : a3X x0 x1 H K) : a1p x0 x1 H K := by
 intro g0
 refine Ct.ofE fun w0 w ps0 H0 R E I hR hE => c1F ?_
 unfold a3X at h
 unfold c4B
 refine p6 I Tryz.zeroValue103 (cs := [(vi 0), (eS), (vi 0), (vi 0), (vi 0)]) rfl fun b m e n => ?_
 have hj1 : ∀ H w (_ : Inv w0 ps0 H0 H [bx g0 101 (b7 x0), bx b 103 [(vi (b5.mk 0 ⟨#[]⟩ 0 (b8.mk 0 0)).c8), (Value.string (b5.mk 0 ⟨#[]⟩ 0 (b8.mk 0 0)).B6), (vi (b5.mk 0 ⟨#[]⟩ 0 (b8.mk 0 0)).J5), (vi (b5.mk 0 ⟨#[]⟩ 0 (b8.mk 0 0)).fAt.D9), (vi (b5.mk 0 ⟨#[]⟩ 0 (b8.mk 0 0)).fAt.L6)]] w) (_ : Q7 x0 (b5.mk 0 ⟨#[]⟩ 0 (b8.mk 0 0)) H K), b2g (Value.pointer (some ⟨g0, 0, none⟩)) (Value.pointer (some ⟨b, 0, none⟩)) w R E := by
  intro H w I h
  unfold b2g
  intro _
  unfold Q7 at h
  refine A0 hE Tryz.call104 (h g0) I ?_
  rintro _ f _ p g _ _ ⟨a, i, rfl, rfl, h⟩
  refine i6 (g.bring 1) Tryz.sizeOf103 (vs := (f9 a)) (cs' := (f9 a)) rfl rfl (nb rfl) rfl rfl fun q c r => ?_
  refine A5 Tryz.isAgg103 Tryz.sizeOf103 rfl (c.at1 (o := 0) (vs := (f9 a)) (nb rfl) rfl) ?_
  exact hR _ f _ _ c.drop ⟨a, i, rfl, rfl, h⟩
 refine z8 fun j1 hx1 => ?_
 refine g9 Tryz.call51 (h g0) (e.bring 1) ?_
 rintro _ j _ s d _ _ ⟨t, rfl, rfl, h⟩
 refine a7 a5E (a7 pNe ?_)
 refine a1T h (fun _ h => ?_) (fun _ h => ?_)
 ·refine A0 hE Tryz.call52 (h g0) d ?_
  rintro _ k _ u l _ _ ⟨rfl, rfl, h⟩
  exact hx1 _ _ (hj1 k _ ((l.bring 1).bring 1) h)
 ·exact hx1 _ _ (hj1 j _ ((d.bring 1).bring 1) h)
def a2w (x0 : a8) (H : Hp) (K : Bool → Hp → Prop) : Prop :=
 G3 x0 H (fun a d =>
 TG (a = false) (i7 x0 ⟨#[116, 114, 117, 101]⟩ d) false d (fun (b : Bool) (e : Hp) =>
 TG ((a || b) = false) (i7 x0 ⟨#[102, 97, 108, 115, 101]⟩ e) false e (fun (c : Bool) (f : Hp) =>
 TG (((a || b) || c) = false) (i7 x0 ⟨#[33]⟩ f) false f (fun (g : Bool) (i : Hp) =>
 TG ((((a || b) || c) || g) = false) (i7 x0 ⟨#[91]⟩ i) false i (fun (j : Bool) (k : Hp) =>
 K ((((a || b) || c) || g) || j) k)))))
theorem a5v (x0) {H K} (h : a2w x0 H K) : O2 x0 H K := by
 intro g0
 refine Ct.of fun w0 w ps0 H0 R E I hR => c1R ?_
 unfold a2w at h
 unfold c4N
 refine g9 Tryz.call141 (h g0) I ?_
 rintro _ aa _ ab ac _ _ ⟨c, rfl, rfl, h⟩
 simp only [E5]
 refine G6 (D := fun ad q => ∃ (a : Bool) (l : Hp) , ad = (gv c false (vB a)) ∧ (Inv w0 ps0 H0 l [bx g0 101 (b7 x0)] q) ∧ (∀ i, i < ab.heap.size → ¬ inF [bx g0 101 (b7 x0)] i → q.heap[i]? = ab.heap[i]?) ∧ Hle aa l ∧ (TG ((c || a) = false) (i7 x0 ⟨#[102, 97, 108, 115, 101]⟩ l) false l (fun (b : Bool) (g : Hp) =>
 TG (((c || a) || b) = false) (i7 x0 ⟨#[33]⟩ g) false g (fun (d : Bool) (e : Hp) =>
 TG ((((c || a) || b) || d) = false) (i7 x0 ⟨#[91]⟩ e) false e (fun (j : Bool) (f : Hp) =>
 K ((((c || a) || b) || d) || j) f))))) (fun m => ?_) (fun m => ?_) ?_
 ·replace h := h.1 m
  have k := m
  simp only [m1 k]
  refine g9 Tryz.call53 (h g0) ac ?_
  rintro _ l _ q t ae af ⟨a, rfl, rfl, h⟩
  exact ⟨a, l, by rfl, t, af, ae, h⟩
 ·exact ⟨false, aa, by rw [R8 m], ac, fun _ _ _ => rfl, Hle.refl _, h.2 m⟩
 ·clear h
  rintro ad q ⟨a, l, rfl, t, af, ae, h⟩
  refine a7 (P6 _ _) ?_
  simp only [E5]
  refine G6 (D := fun ag r => ∃ (b : Bool) (g : Hp) , ag = (gv (c || a) false (vB b)) ∧ (Inv w0 ps0 H0 g [bx g0 101 (b7 x0)] r) ∧ (∀ i, i < q.heap.size → ¬ inF [bx g0 101 (b7 x0)] i → r.heap[i]? = q.heap[i]?) ∧ Hle l g ∧ (TG (((c || a) || b) = false) (i7 x0 ⟨#[33]⟩ g) false g (fun (d : Bool) (e : Hp) =>
 TG ((((c || a) || b) || d) = false) (i7 x0 ⟨#[91]⟩ e) false e (fun (j : Bool) (f : Hp) =>
 K ((((c || a) || b) || d) || j) f)))) (fun n => ?_) (fun n => ?_) ?_
  ·replace h := h.1 n
   have k := n
   simp only [m1 k]
   refine g9 Tryz.call53 (h g0) t ?_
   rintro _ g _ r u ah ai ⟨b, rfl, rfl, h⟩
   exact ⟨b, g, by rfl, u, ai, ah, h⟩
  ·exact ⟨false, l, by rw [R8 n], t, fun _ _ _ => rfl, Hle.refl _, h.2 n⟩
  ·clear h
   rintro ag r ⟨b, g, rfl, u, ai, ah, h⟩
   refine a7 (P6 _ _) ?_
   simp only [E5]
   refine G6 (D := fun aj s => ∃ (d : Bool) (e : Hp) , aj = (gv ((c || a) || b) false (vB d)) ∧ (Inv w0 ps0 H0 e [bx g0 101 (b7 x0)] s) ∧ (∀ i, i < r.heap.size → ¬ inF [bx g0 101 (b7 x0)] i → s.heap[i]? = r.heap[i]?) ∧ Hle g e ∧ (TG ((((c || a) || b) || d) = false) (i7 x0 ⟨#[91]⟩ e) false e (fun (j : Bool) (f : Hp) =>
 K ((((c || a) || b) || d) || j) f))) (fun o => ?_) (fun o => ?_) ?_
   ·replace h := h.1 o
    have k := o
    simp only [m1 k]
    refine g9 Tryz.call53 (h g0) u ?_
    rintro _ e _ s v ak al ⟨d, rfl, rfl, h⟩
    exact ⟨d, e, by rfl, v, al, ak, h⟩
   ·exact ⟨false, g, by rw [R8 o], u, fun _ _ _ => rfl, Hle.refl _, h.2 o⟩
   ·clear h
    rintro aj s ⟨d, e, rfl, v, al, ak, h⟩
    refine a7 (P6 _ _) ?_
    simp only [E5]
    refine G6 (D := fun am y => ∃ (j : Bool) (f : Hp) , am = (gv (((c || a) || b) || d) false (vB j)) ∧ (Inv w0 ps0 H0 f [bx g0 101 (b7 x0)] y) ∧ (∀ i, i < s.heap.size → ¬ inF [bx g0 101 (b7 x0)] i → y.heap[i]? = s.heap[i]?) ∧ Hle e f ∧ (K ((((c || a) || b) || d) || j) f)) (fun p => ?_) (fun p => ?_) ?_
    ·replace h := h.1 p
     have k := p
     simp only [m1 k]
     refine g9 Tryz.call53 (h g0) v ?_
     rintro _ f _ y z an ao ⟨j, rfl, rfl, h⟩
     exact ⟨j, f, by rfl, z, ao, an, h⟩
    ·exact ⟨false, e, by rw [R8 p], v, fun _ _ _ => rfl, Hle.refl _, h.2 p⟩
    ·clear h
     rintro am y ⟨j, f, rfl, z, ao, an, h⟩
     refine a7 (P6 _ _) ?_
     exact hR _ f _ _ z ⟨((((c || a) || b) || d) || j), rfl, rfl, h⟩
def S2 [PanQ] (b0U : Int) (u5 : a8) (o : f8) (H : Hp) (K : f8 → a8 → Hp → Prop) : Prop :=
 O8 u5 b0U H (fun d e f =>
 a0f e f (fun g i j =>
 O8 i b0U j (fun k l m =>
 ∀ (a : Sl) (b : Hp), Hle m b → SlH b 4 d9 a [d, k] → a.n ≤ a.c →
 K (f8.mk 3 g a (Sl.mk none 0 0)) l b)))
def a1L [PanQ] (x0 : a8) (x1 : Int) (H : Hp) (K : f8 → a8 → Hp → Prop) : Prop :=
 O2 x0 H (fun f g =>
 ((!f) = true →
 D8 x0 g (fun t =>
 S2 x1 x0 (f8.mk 0 0 (Sl.mk none 0 0) (Sl.mk none 0 0)) t K)) ∧
 ((!f) = false →
 u0 x0 ⟨#[116, 114, 117, 101]⟩ g (fun i j k =>
 (i = true →
 K (f8.mk 1 0 (Sl.mk none 0 0) (Sl.mk none 0 0)) j k) ∧
 (i = false →
 u0 j ⟨#[102, 97, 108, 115, 101]⟩ k (fun l m o =>
 (l = true →
 K (f8.mk 2 0 (Sl.mk none 0 0) (Sl.mk none 0 0)) m o) ∧
 (l = false →
 u0 m ⟨#[33]⟩ o (fun p a q =>
 (p = true →
 O2 a q (fun u v =>
 C2 a (IntKind.wrap .i64 (x1 + 1)) u v (fun y =>
 U5 a (IntKind.wrap .i64 (x1 + 1)) y (fun z aa ab =>
 ∀ (b : Sl) (e : Hp), Hle ab e → SlH e 4 g8 b [z] → b.n ≤ b.c →
 K (f8.mk 4 0 (Sl.mk none 0 0) b) aa e)))) ∧
 (p = false →
 u0 a ⟨#[91]⟩ q (fun r d s =>
 (r = true →
 O2 d s (fun ac ad =>
 C2 d (IntKind.wrap .i64 (x1 + 1)) ac ad (fun ae =>
 M4 d (IntKind.wrap .i64 (x1 + 1)) ae (fun af ag ah =>
 B8 ag ⟨#[93]⟩ ah (fun ai aj =>
 K af ai aj))))) ∧
 (r = false →
 S2 x1 d (f8.mk 0 0 (Sl.mk none 0 0) (Sl.mk none 0 0)) s K))))))))))
theorem a7d [PanQ] (x0 : a8) (x1 : Int) {H : Hp} {K : f8 → a8 → Hp → Prop} (h : a1L x0 x1 H K) : U5 x0 x1 H K := by
 intro g0
 refine Ct.ofE fun w0 w ps0 H0 R E I hR hE => c4r ?_
 unfold a1L at h
 unfold F89
 refine p6 I Tryz.zeroValue49 (cs := [(vi 0), (vi 0), (nS), (nS)]) rfl fun k bu ac bv => ?_
 have hj1 : ∀ (u5 : a8) H w (_ : Inv w0 ps0 H0 H [bx g0 101 (b7 u5), bx k 49 [(vi (f8.mk 0 0 (Sl.mk none 0 0) (Sl.mk none 0 0)).c8), (vi (f8.mk 0 0 (Sl.mk none 0 0) (Sl.mk none 0 0)).fOp), (Value.slice (f8.mk 0 0 (Sl.mk none 0 0) (Sl.mk none 0 0)).m7.a (f8.mk 0 0 (Sl.mk none 0 0) (Sl.mk none 0 0)).m7.n (f8.mk 0 0 (Sl.mk none 0 0) (Sl.mk none 0 0)).m7.c), (Value.slice (f8.mk 0 0 (Sl.mk none 0 0) (Sl.mk none 0 0)).E4.a (f8.mk 0 0 (Sl.mk none 0 0) (Sl.mk none 0 0)).E4.n (f8.mk 0 0 (Sl.mk none 0 0) (Sl.mk none 0 0)).E4.c)]] w) (_ : S2 x1 u5 (f8.mk 0 0 (Sl.mk none 0 0) (Sl.mk none 0 0)) H K), b4L (Value.pointer (some ⟨g0, 0, none⟩)) (vi x1) (Value.pointer (some ⟨k, 0, none⟩)) w R E := by
  intro u5 H w I h
  unfold b4L
  intro _
  unfold S2 at h
  refine A0 hE Tryz.call35 (h g0) I ?_
  rintro _ _ _ bw ad _ _ ⟨j, bz, rfl, rfl, h⟩
  refine p6 ad Tryz.zeroValue40 (cs := [(vi 0), (vi 0), (eS), (nS)]) rfl fun ca cb ae cc => ?_
  refine i6 ae Tryz.sizeOf40 (vs := (d9 j)) (cs' := (d9 j)) rfl rfl (nb rfl) rfl rfl fun cd af ce => ?_
  refine A0 hE Tryz.call126 (h g0) (af.bring 1) ?_
  rintro _ _ _ cf ag _ _ ⟨g, ah, rfl, rfl, h⟩
  refine W4 ag fun cg i => ?_
  refine C4 (lW Tryz.isAgg40 Tryz.sizeOf40 rfl (i.bring 1)) ?_
  refine A0 hE Tryz.call35 (h g0) i ?_
  rintro _ _ _ ch ai _ aj ⟨ak, al, rfl, rfl, h⟩
  refine ⟨(aj _ (i.bring 1).lt1 (Inv.Z9 (Fi := [bx g0 101 (b7 ah)]) ((i.bring 1).bring 1))), ?_⟩
  refine W5 (e := 40) (c := d9) (xs := [j, ak]) ai (a9W _ _ _ _ _ _ _ _ _ _ _ _) rfl rfl O6 O7 (nb rfl) fun d ci cj am an ck => ?_
  refine r8 (b1r _ _ _ _ _) ?_
  refine i6 (an.bring 3) Tryz.sizeOf49 (vs := [(vi 3), (vi g), (vs d), (nS)]) (cs' := [(vi 3), (vi g), (vs d), (nS)]) rfl rfl (nb rfl) rfl rfl fun cl l cm => ?_
  refine A5 Tryz.isAgg49 Tryz.sizeOf49 rfl (l.at1 (o := 0) (vs := [(vi 3), (vi g), (vs d), (nS)]) (nb rfl) rfl) ?_
  obtain ⟨m, ao, ap, aq, ar⟩ := Inv.freezeC (l.bring 1) am (by decide)
  replace h := h d m ap aq ar
  exact hR _ m _ _ (ao.drop.bring 1).drop ⟨(f8.mk 3 g d (Sl.mk none 0 0)), al, rfl, rfl, h⟩
 refine z8 fun j1 hx1 => ?_
 refine g9 Tryz.call125 (h g0) (ac.bring 1) ?_
 rintro _ _ _ cn p _ _ ⟨co, rfl, rfl, h⟩
 refine a7 (T2 _) ?_
 refine p7 h (fun _ h => ?_) (fun _ h => ?_)
 ·refine A0 hE Tryz.call52 (h g0) p ?_
  rintro _ au _ cp av _ _ ⟨rfl, rfl, h⟩
  exact hx1 _ _ (hj1 x0 au _ ((av.bring 1).bring 1) h)
 ·refine g9 Tryz.call105 (h g0) p ?_
  rintro _ aw _ cq q _ _ ⟨cr, ax, rfl, rfl, h⟩
  refine p7 h (fun _ h => ?_) (fun _ h => ?_)
  ·refine a7 (b0C _) ?_
   refine i6 (q.bring 1) Tryz.sizeOf49 (vs := [(vi 1), (vi 0), (nS), (nS)]) (cs' := [(vi 1), (vi 0), (nS), (nS)]) rfl rfl (nb rfl) rfl rfl fun ct r cu => ?_
   refine A5 Tryz.isAgg49 Tryz.sizeOf49 rfl (r.at1 (o := 0) (vs := [(vi 1), (vi 0), (nS), (nS)]) (nb rfl) rfl) ?_
   exact hR _ aw _ _ r.drop ⟨(f8.mk 1 0 (Sl.mk none 0 0) (Sl.mk none 0 0)), ax, rfl, rfl, h⟩
  ·refine g9 Tryz.call105 (h g0) q ?_
   rintro _ ay _ cv s _ _ ⟨cw, az, rfl, rfl, h⟩
   refine p7 h (fun _ h => ?_) (fun _ h => ?_)
   ·refine a7 (b0C _) ?_
    refine i6 (s.bring 1) Tryz.sizeOf49 (vs := [(vi 2), (vi 0), (nS), (nS)]) (cs' := [(vi 2), (vi 0), (nS), (nS)]) rfl rfl (nb rfl) rfl rfl fun cx t cy => ?_
    refine A5 Tryz.isAgg49 Tryz.sizeOf49 rfl (t.at1 (o := 0) (vs := [(vi 2), (vi 0), (nS), (nS)]) (nb rfl) rfl) ?_
    exact hR _ ay _ _ t.drop ⟨(f8.mk 2 0 (Sl.mk none 0 0) (Sl.mk none 0 0)), az, rfl, rfl, h⟩
   ·refine g9 Tryz.call105 (h g0) s ?_
    rintro _ _ _ cz u _ _ ⟨da, db, rfl, rfl, h⟩
    refine p7 h (fun _ h => ?_) (fun _ h => ?_)
    ·refine a7 pAd ?_
     refine g9 Tryz.call125 (h g0) u ?_
     rintro _ _ _ dc ba _ _ ⟨dd, rfl, rfl, h⟩
     refine A0 hE Tryz.call55 (h g0) ba ?_
     rintro _ _ _ de bb _ _ ⟨rfl, rfl, h⟩
     refine a7 pAd ?_
     refine A0 hE Tryz.call89 (h g0) bb ?_
     rintro _ _ _ df bc _ _ ⟨bd, be, rfl, rfl, h⟩
     refine W5 (e := 49) (c := g8) (xs := [bd]) bc (a8k _ _ _ _ _ _ _ _) rfl rfl T3 T4 (nb rfl) fun f dg dh bf bg di => ?_
     refine a7 (a5d _ _ _ _) ?_
     refine i6 (bg.bring 2) Tryz.sizeOf49 (vs := [(vi 4), (vi 0), (nS), (vs f)]) (cs' := [(vi 4), (vi 0), (nS), (vs f)]) rfl rfl (nb rfl) rfl rfl fun dj v dk => ?_
     refine A5 Tryz.isAgg49 Tryz.sizeOf49 rfl (v.at1 (o := 0) (vs := [(vi 4), (vi 0), (nS), (vs f)]) (nb rfl) rfl) ?_
     obtain ⟨y, bh, bi, bj, bk⟩ := Inv.freezeC (v.bring 1) bf (by decide)
     replace h := h f y bi bj bk
     exact hR _ y _ _ bh.drop ⟨(f8.mk 4 0 (Sl.mk none 0 0) f), be, rfl, rfl, h⟩
    ·refine g9 Tryz.call105 (h g0) u ?_
     rintro _ bl _ dl z _ _ ⟨dm, bm, rfl, rfl, h⟩
     refine p7 h (fun _ h => ?_) (fun _ h => ?_)
     ·refine a7 pAd ?_
      refine g9 Tryz.call125 (h g0) z ?_
      rintro _ _ _ dn bn _ _ ⟨dp, rfl, rfl, h⟩
      refine A0 hE Tryz.call55 (h g0) bn ?_
      rintro _ _ _ dq bo _ _ ⟨rfl, rfl, h⟩
      refine a7 pAd ?_
      refine A0 hE Tryz.call41 (h g0) bo ?_
      rintro _ _ _ dr bp _ _ ⟨b, ds, rfl, rfl, h⟩
      refine p6 bp Tryz.zeroValue49 (cs := [(vi 0), (vi 0), (nS), (nS)]) rfl fun dt du bq dv => ?_
      refine i6 bq Tryz.sizeOf49 (vs := (g8 b)) (cs' := (g8 b)) rfl rfl (nb rfl) rfl rfl fun dw br dx => ?_
      refine A0 hE Tryz.call103 (h g0) (br.bring 1) ?_
      rintro _ bs _ dy aa _ _ ⟨bt, rfl, rfl, h⟩
      refine g6 (lW Tryz.isAgg49 Tryz.sizeOf49 rfl (aa.bring 1)) ?_
      refine i6 (aa.bring 2) Tryz.sizeOf49 (vs := (g8 b)) (cs' := (g8 b)) rfl rfl (nb rfl) rfl rfl fun dz ab ea => ?_
      refine A5 Tryz.isAgg49 Tryz.sizeOf49 rfl (ab.at1 (o := 0) (vs := (g8 b)) (nb rfl) rfl) ?_
      exact hR _ bs _ _ (ab.drop.bring 1).drop ⟨b, bt, rfl, rfl, h⟩
     ·exact hx1 _ _ (hj1 bm bl _ ((z.bring 1).bring 1) h)
def a1Y (x0 : d7) (a : (List b5)) (H : Hp) (K : ByteArray → Hp → Prop) : Prop :=
 (0 : Int) ≤ x0.fn ∧ (x0.fn : Int) ≤ x0.fs.size ∧
 K (x0.fs.extract (x0.fn : Int).toNat x0.fs.size) H
theorem a7u (x0 b) {H K} (h : a1Y x0 b H K) : S1 x0 b H K := by
 intro g0 e f g
 refine Ct.of fun w0 w ps0 H0 R E I hR => c1W ?_
 unfold a1Y at h
 unfold c4S
 refine W4 I fun i a => ?_
 refine r8 (u2 _) ?_
 refine r8 a5c ?_
 refine r8 (u2 _) ?_
 refine r8 V9 ?_
 refine C4 (l1 Tryz.isAgg9 a rfl) ?_
 refine C4 (l1 Tryz.isAgg3 a rfl) ?_
 obtain ⟨c, d, h⟩ := h
 refine r8 (b6e x0.fs Tryz.underlying9 c d) ?_
 exact hR _ H _ _ ((a.bring 1).bring 1) ⟨(x0.fs.extract (x0.fn : Int).toNat x0.fs.size), rfl, rfl, h⟩
def Y3 (x0 : ByteArray) (x1 : ByteArray) (H : Hp) (K : Bool → Hp → Prop) : Prop :=
 ((decide ((x1.size : Int) ≤ (x0.size : Int))) = true → (0 : Int) ≤ (x1.size : Int) ∧ ((x1.size : Int) : Int) ≤ x0.size) ∧
 K ((decide ((x1.size : Int) ≤ (x0.size : Int))) && (decide ((x0.extract 0 ((x1.size : Int) : Int).toNat) = x1))) H
theorem a5j (x0 x1) {H K} (h : Y3 x0 x1 H K) : a1V x0 x1 H K := by
 refine Ct.of fun w0 w ps0 H0 R E I hR => c2i ?_
 unfold Y3 at h
 unfold c5e
 refine a7 (a5i _) (a7 (a5i _) (a7 pGe ?_))
 simp only [E5]
 refine a7 (Pu.g fun a => by simp only [m1 a]; with_reducible exact (a5i _)) ?_
 obtain ⟨b, h⟩ := h
 refine a7 (Pu.g fun hb => by have a := hb; simp only [m1 a]; with_reducible exact (b6f x0 Tryz.underlying9 (b hb).1 (b hb).2)) ?_
 refine a7 (Pu.g fun a => by simp only [m1 a]; with_reducible exact (R9 _ _ _ _ _)) ?_
 refine a7 (C1 _ _) ?_
 exact hR _ H _ _ I ⟨((decide ((x1.size : Int) ≤ (x0.size : Int))) && (decide ((x0.extract 0 ((x1.size : Int) : Int).toNat) = x1))), rfl, rfl, h⟩
def a4d (x0 : ByteArray) (x1 : ByteArray) (H : Hp) (K : Bool → Hp → Prop) : Prop :=
 a1V x0 x1 H (fun a b =>
 K a b)
theorem a9l (x0 x1) {H K} (h : a4d x0 x1 H K) : a2s x0 x1 H K := by
 refine Ct.of fun w0 w ps0 H0 R E I hR => c1V ?_
 unfold a4d at h
 unfold c4R
 refine g9 Tryz.call153 h I ?_
 rintro _ a _ d b _ _ ⟨c, rfl, rfl, h⟩
 exact hR _ a _ _ b ⟨c, rfl, rfl, h⟩
def a0h (a : a0X) (u5 : a8) (H : Hp) (K : Int → a8 → Hp → Prop) : Prop :=
 K 0 u5 H
def U6 (B9 : Sl) (a4u : Int) (a : a0X) (u1 : Int) (p5 : a8) (H : Hp) (n2 : (Int × a8) → Hp → Prop) (K : Int → a8 → Hp → Prop) : Prop :=
 (u1 < a4u →
 (0 : Int) ≤ u1 ∧ (u1 : Int) < B9.n ∧ ∃ c : ByteArray, EltH H B9 u1 1 [(Value.string c)] ∧
 u0 p5 c H (fun d e b =>
 (d = true →
 (0 : Int) ≤ u1 ∧ (u1 : Int) < a.fkinds.n ∧ ∃ f : Int, EltH b a.fkinds u1 1 [(vi f)] ∧
 K f e b) ∧
 (d = false →
 n2 ((IntKind.wrap .i64 (u1 + 1)), e) b))) ∧
 (¬ (u1 < a4u) →
 a0h a p5 H K)
def a1b (x0 : a8) (x1 : a0X) (H : Hp) (K : Int → a8 → Hp → Prop) : Prop :=
 TL ((0, x0) : Int × a8) H fun (s : Int × a8) H n2 => U6 x1.fsigns (x1.fsigns.n : Int) x1 s.1 s.2 H n2 K
theorem a6D (x0 x1) {H K} (h : a1b x0 x1 H K) : a0Z x0 x1 H K := by
 intro g0
 refine Ct.of fun w0 w ps0 H0 R E I hR => c1O ?_
 unfold a1b at h
 unfold c4K
 refine T7 I (cs := (U3 x1)) rfl fun j ae k af => ?_
 have hj1 : ∀ (u5 : a8) H w (_ : Inv w0 ps0 H0 H [bx j 139 (U3 x1), bx g0 101 (b7 u5)] w) (_ : a0h x1 u5 H K), b2m w R E := by
  intro u5 H w I h
  unfold b2m
  intro _
  unfold a0h at h
  exact hR _ H _ _ I.drop ⟨0, u5, rfl, rfl, h⟩
 refine z8 fun j1 hx1 => ?_
 refine a7 b5N (g6 (l1 Tryz.isAgg77 k rfl) (a7 (b8s _ _ _) ?_))
 obtain ⟨e, c, q, r⟩ := h
 refine G7 (J := fun n l w => ∃ (s : Int × a8) (H : Hp) , n = c s ∧ l = (match s with | (u1, p5) => [(vi u1)]) ∧ (match s with | (u1, p5) => Inv w0 ps0 H0 H [bx j 139 (U3 x1), bx g0 101 (b7 p5)] w) ∧ e s H) ⟨_, (0, x0), H, rfl, rfl, ((k.bring 1).bring 1), q⟩ ?_
 rintro ag ah w next2 ⟨⟨u1, p5⟩, H, rfl, f, I, t⟩ hn2
 dsimp only at f I
 simp only [List.map_cons, List.map_nil, List.cons.injEq, and_true] at f
 have e10 := f
 simp only [e10]
 obtain ⟨n2, hm2, h⟩ : ∃ n2 : (Int × a8) → Hp → Prop, (∀ s' H', n2 s' H' → e s' H' ∧ c s' < c (u1, p5)) ∧ U6 x1.fsigns (x1.fsigns.n : Int) x1 u1 p5 H n2 K := ⟨_, fun _ _ h => h, r (u1, p5) H (fun s' H' => e s' H' ∧ c s' < c (u1, p5)) t (fun _ _ a b => ⟨a, b⟩)⟩
 unfold b6p
 unfold U6 at h
 refine a7 pLs ?_
 refine m6 h (fun _ h => ?_) (fun _ h => ?_)
 ·obtain ⟨u, y, z, g, h⟩ := h
  obtain ⟨ai, aj, aa, g⟩ := g
  refine a7 (b4o aa _ _ _ _ u y) (g6 (ld1 (v := (Value.string z)) Tryz.isAgg9 (I.atH g)) ?_)
  refine g9 Tryz.call105 (h g0) (I.bring 1) ?_
  rintro _ m _ ak d _ _ ⟨al, o, rfl, rfl, h⟩
  refine p7 h (fun _ h => ?_) (fun _ h => ?_)
  ·refine a7 b5O (g6 (l1 Tryz.isAgg137 (d.bring 1) rfl) ?_)
   obtain ⟨ab, ac, p, i, h⟩ := h
   obtain ⟨am, an, ad, i⟩ := i
   refine a7 (b8t ad _ _ _ _ ab ac) (g6 (ld1 (v := (vi p)) Tryz.isAgg3 (d.atH i)) ?_)
   exact hR _ m _ _ (d.bring 1).drop ⟨p, o, rfl, rfl, h⟩
  ·refine a7 pAd ?_
   exact hn2 _ _ _ (hm2 _ _ h).2 ⟨((IntKind.wrap .i64 (u1 + 1)), o), m, rfl, rfl, (d.bring 1), (hm2 _ _ h).1⟩
 ·exact hx1 _ _ (hj1 p5 H _ ((I.bring 1).bring 1) h)
def B0 (a1x : Int) (t7 : ByteArray) (t8 : Int) (y9 : b8) (C3 : (List b5)) (H : Hp) (K : ByteArray → d7 → (List b5) → Hp → Prop) : Prop :=
 (0 : Int) ≤ a1x ∧ (a1x : Int) ≤ t8 ∧ (t8 : Int) ≤ t7.size ∧
 K (t7.extract (a1x : Int).toNat (t8 : Int).toNat) (d7.mk t7 t8 y9 (Sl.mk none 0 0)) C3 H
def D6 (b0V : Int) (H9 : Int) (A4 : Bool) (p8 : ByteArray) (p9 : Int) (o6 : b8) (o7 : (List b5)) (H : Hp) (n2 : (Int × Bool × ByteArray × Int × b8 × (List b5)) → Hp → Prop) (K : ByteArray → d7 → (List b5) → Hp → Prop) : Prop :=
 TG (A4 = true) (a2q H9 H) false H (fun (b : Bool) (c : Hp) =>
 ((A4 && b) = true →
 B3 (d7.mk p8 p9 o6 (Sl.mk none 0 0)) o7 c (fun a d e =>
 z7 (s7 a) d e (fun f g i =>
 n2 (f, g, a.fs, a.fn, a.fat, d) i))) ∧
 ((A4 && b) = false →
 B0 b0V p8 p9 o6 o7 c K))
def O5 (x0 : d7) (a : (List b5)) (H : Hp) (K : ByteArray → d7 → (List b5) → Hp → Prop) : Prop :=
 z7 (s7 x0) a H (fun b c d =>
 TL ((b, c, x0.fs, x0.fn, x0.fat, a) : Int × Bool × ByteArray × Int × b8 × (List b5)) d fun (s : Int × Bool × ByteArray × Int × b8 × (List b5)) H n2 => D6 x0.fn s.1 s.2.1 s.2.2.1 s.2.2.2.1 s.2.2.2.2.1 s.2.2.2.2.2 H n2 K)
theorem a2C (x0 q) {H K} (h : O5 x0 q H K) : O3 x0 q H K := by
 intro g0 y z aa
 refine Ct.of fun w0 w ps0 H0 R E I hR => a9X ?_
 unfold O5 at h
 unfold b4R
 refine a7 (u2 _) (a7 V9 (g6 (l1 Tryz.isAgg3 I rfl) ?_))
 have hj1 : ∀ (t7 : ByteArray) (t8 : Int) (y9 : b8) (C3 : (List b5)) (T1 : Sl) (M5 : Frag) H w (_ : RowL 103 5 f9 T1 C3 M5) (_ : Inv w0 ps0 H0 H [bx g0 155 [(Value.string t7), (vi t8), (vi y9.D9), (vi y9.L6), (vs T1)], M5] w) (_ : B0 x0.fn t7 t8 y9 C3 H K), a4L (Value.pointer (some ⟨g0, 0, none⟩)) (vi x0.fn) w R E := by
  intro t7 t8 y9 C3 T1 M5 H w a2Z I h
  unfold a4L
  intro _
  unfold B0 at h
  refine W4 I fun ax r => ?_
  refine r8 (u2 _) ?_
  refine r8 a5c ?_
  refine r8 (u2 _) ?_
  refine r8 V9 ?_
  refine C4 (l1 Tryz.isAgg9 r rfl) ?_
  refine C4 (l1 Tryz.isAgg3 r rfl) ?_
  obtain ⟨ak, al, am, h⟩ := h
  refine r8 (a8C t7 Tryz.underlying9 ak al am) ?_
  exact hR _ H _ _ ((r.bring 1).bring 1) ⟨(t7.extract (x0.fn : Int).toNat (t8 : Int).toNat), (d7.mk t7 t8 y9 (Sl.mk none 0 0)), C3, T1, M5, rfl, rfl, a2Z, h⟩
 refine z8 fun j1 hx1 => ?_
 refine g9 Tryz.call100 (h g0 y z aa) ((I.bring 1).bring 1) ?_
 rintro _ an _ ay ao _ _ ⟨ab, ac, rfl, rfl, h⟩
 refine a7 (j9 _ _ (Value.int .i32 ab) rfl) (a7 (j9 _ _ (vB ac) rfl) ?_)
 obtain ⟨t, g, ap, aq⟩ := h
 refine G7 (J := fun n l w => ∃ (s : Int × Bool × ByteArray × Int × b8 × (List b5)) (H : Hp) (K4 : Sl) (D7 : Frag) , n = g s ∧ l = (match s with | (H9, A4, p8, p9, o6, o7) => [(Value.int .i32 H9), (vB A4)]) ∧ (match s with | (H9, A4, p8, p9, o6, o7) => RowL 103 5 f9 K4 o7 D7) ∧ (match s with | (H9, A4, p8, p9, o6, o7) => Inv w0 ps0 H0 H [bx g0 155 [(Value.string p8), (vi p9), (vi o6.D9), (vi o6.L6), (vs K4)], D7] w) ∧ t s H) ⟨_, (ab, ac, x0.fs, x0.fn, x0.fat, q), an, y, z, rfl, rfl, aa, ((ao.bring 1).bring 1), ap⟩ ?_
 rintro az ba w next2 ⟨⟨H9, A4, p8, p9, o6, o7⟩, H, K4, D7, rfl, u, Q1, I, ar⟩ hn2
 dsimp only at u I Q1
 simp only [List.map_cons, List.map_nil, List.cons.injEq, and_true] at u
 obtain ⟨e6, e7⟩ := u
 simp only [e6, e7]
 obtain ⟨n2, hm2, h⟩ : ∃ n2 : (Int × Bool × ByteArray × Int × b8 × (List b5)) → Hp → Prop, (∀ s' H', n2 s' H' → t s' H' ∧ g s' < g (H9, A4, p8, p9, o6, o7)) ∧ D6 x0.fn H9 A4 p8 p9 o6 o7 H n2 K := ⟨_, fun _ _ h => h, aq (H9, A4, p8, p9, o6, o7) H (fun s' H' => t s' H' ∧ g s' < g (H9, A4, p8, p9, o6, o7)) ar (fun _ _ a b => ⟨a, b⟩)⟩
 unfold a8p
 unfold D6 at h
 simp only [E5]
 refine G6 (D := fun ad j => ∃ (f : Bool) (c : Hp) , ad = (gv A4 true (vB f)) ∧ (Inv w0 ps0 H0 c [bx g0 155 [(Value.string p8), (vi p9), (vi o6.D9), (vi o6.L6), (vs K4)], D7] j) ∧ (∀ i, i < w.heap.size → ¬ inF [] i → j.heap[i]? = w.heap[i]?) ∧ Hle H c ∧ (((A4 && f) = true →
 B3 (d7.mk p8 p9 o6 (Sl.mk none 0 0)) o7 c (fun (d : d7) (k : (List b5)) (au : Hp) =>
 z7 (s7 d) k au (fun (m : Int) (o : Bool) (v : Hp) =>
 n2 (m, o, d.fs, d.fn, d.fat, k) v))) ∧
 ((A4 && f) = false →
 B0 x0.fn p8 p9 o6 o7 c K))) (fun e => ?_) (fun e => ?_) ?_
 ·replace h := h.1 e
  have ae := e
  simp only [m1 ae]
  refine g9 Tryz.call154 h I ?_
  rintro _ c _ j p af ag ⟨f, rfl, rfl, h⟩
  exact ⟨f, c, by rfl, p, ag, af, h⟩
 ·exact ⟨false, H, by rw [R8 e], I, fun _ _ _ => rfl, Hle.refl _, h.2 e⟩
 ·clear h
  rintro ad j ⟨f, c, rfl, p, ag, af, h⟩
  refine a7 (C1 _ _) ?_
  refine p7 h (fun _ h => ?_) (fun _ h => ?_)
  ·refine g9 Tryz.call152 (h g0 K4 D7 Q1) ((p.bring 1).bring 1) ?_
   rintro _ _ _ bb av _ _ ⟨d, k, ah, ai, rfl, rfl, aj, h⟩
   refine g9 Tryz.call100 (h g0 ah ai aj) ((av.bring 1).bring 1) ?_
   rintro _ v _ bc aw _ _ ⟨m, o, rfl, rfl, h⟩
   refine a7 (j9 _ _ (Value.int .i32 m) rfl) (a7 (j9 _ _ (vB o) rfl) ?_)
   exact hn2 _ _ _ (hm2 _ _ h).2 ⟨(m, o, d.fs, d.fn, d.fat, k), v, ah, ai, rfl, rfl, aj, ((aw.bring 1).bring 1), (hm2 _ _ h).1⟩
  ·exact hx1 _ _ (hj1 p8 p9 o6 o7 K4 D7 c _ Q1 ((p.bring 1).bring 1) h)
def X1 (a : b5) (t7 : ByteArray) (t8 : Int) (y9 : b8) (C3 : (List b5)) (b : b5) (H : Hp) (K : b5 → Int → d7 → (List b5) → Hp → Prop) : Prop :=
 K a 0 (d7.mk t7 t8 y9 (Sl.mk none 0 0)) C3 H
def a1Z (x0 : d7) (i : (List b5)) (H : Hp) (K : b5 → Int → d7 → (List b5) → Hp → Prop) : Prop :=
 O3 (s7 x0) i H (fun b a c j =>
 a0l b j (fun d e =>
 (d = true →
 X1 (b5.mk 3 b 0 (b8.mk 0 0)) a.fs a.fn a.fat c (b5.mk 0 ⟨#[]⟩ 0 (b8.mk 0 0)) e K) ∧
 (d = false →
 a1H b e (fun f g =>
 (f = true →
 K (b5.mk 1 b 0 (b8.mk 0 0)) 22 (s7 a) c g) ∧
 (f = false →
 X1 (b5.mk 1 b 0 (b8.mk 0 0)) a.fs a.fn a.fat c (b5.mk 0 ⟨#[]⟩ 0 (b8.mk 0 0)) g K)))))
theorem a7v (x0 j) {H K} (h : a1Z x0 j H K) : a4o x0 j H K := by
 intro g0 s t u
 refine Ct.of fun w0 w ps0 H0 R E I hR => c1Y ?_
 unfold a1Z at h
 unfold c4U
 refine p6 I Tryz.zeroValue103 (cs := [(vi 0), (eS), (vi 0), (vi 0), (vi 0)]) rfl fun k ac v ad => ?_
 refine g9 Tryz.call133 (h g0 s t u) ((v.bring 2).bring 2) ?_
 rintro _ _ _ ae y _ _ ⟨a, b, d, e, f, rfl, rfl, l, h⟩
 refine a7 (a4J _ _) ?_
 refine p6 y Tryz.zeroValue103 (cs := [(vi 0), (eS), (vi 0), (vi 0), (vi 0)]) rfl fun m af z ag => ?_
 refine i6 z Tryz.sizeOf103 (vs := [(vi 1), (Value.string a), (vi 0), (vi 0), (vi 0)]) (cs' := [(vi 1), (Value.string a), (vi 0), (vi 0), (vi 0)]) rfl rfl (nb rfl) rfl rfl fun ah n ai => ?_
 have hj1 : ∀ (c : b5) (t7 : ByteArray) (t8 : Int) (y9 : b8) H w (_ : Inv w0 ps0 H0 H [bx m 103 (f9 c), bx g0 155 [(Value.string t7), (vi t8), (vi y9.D9), (vi y9.L6), (vs e)], bx k 103 [(vi (b5.mk 0 ⟨#[]⟩ 0 (b8.mk 0 0)).c8), (Value.string (b5.mk 0 ⟨#[]⟩ 0 (b8.mk 0 0)).B6), (vi (b5.mk 0 ⟨#[]⟩ 0 (b8.mk 0 0)).J5), (vi (b5.mk 0 ⟨#[]⟩ 0 (b8.mk 0 0)).fAt.D9), (vi (b5.mk 0 ⟨#[]⟩ 0 (b8.mk 0 0)).fAt.L6)], f] w) (_ : X1 c t7 t8 y9 d (b5.mk 0 ⟨#[]⟩ 0 (b8.mk 0 0)) H K), b2t (Value.pointer (some ⟨k, 0, none⟩)) (Value.pointer (some ⟨m, 0, none⟩)) w R E := by
  intro c t7 t8 y9 H w I h
  unfold b2t
  intro _
  unfold X1 at h
  refine g6 (lW Tryz.isAgg103 Tryz.sizeOf103 rfl I) ?_
  refine i6 (I.bring 2) Tryz.sizeOf103 (vs := (f9 c)) (cs' := (f9 c)) rfl rfl (nb rfl) rfl rfl fun aj p ak => ?_
  refine A5 Tryz.isAgg103 Tryz.sizeOf103 rfl (p.at1 (o := 0) (vs := (f9 c)) (nb rfl) rfl) ?_
  exact hR _ H _ _ ((p.drop.drop.bring 1).bring 1) ⟨c, 0, (d7.mk t7 t8 y9 (Sl.mk none 0 0)), d, e, f, rfl, rfl, l, h⟩
 refine z8 fun j1 hx1 => ?_
 refine a7 S3 (g6 (l1 Tryz.isAgg9 n rfl) ?_)
 refine g9 Tryz.call155 h n ?_
 rintro _ aa _ al g _ _ ⟨am, rfl, rfl, h⟩
 refine p7 h (fun _ h => ?_) (fun _ h => ?_)
 ·refine a7 a0L ?_
  refine i6 g Tryz.sizeOf3 (vs := [(vi 3)]) (cs' := [(vi 3), (Value.string a), (vi 0), (vi 0), (vi 0)]) rfl rfl (nb rfl) rfl rfl fun an ab ao => ?_
  exact hx1 _ _ (hj1 (b5.mk 3 a 0 (b8.mk 0 0)) b.fs b.fn b.fat aa _ ((((ab.bring 2).bring 3).bring 3).bring 3) h)
 ·refine a7 S3 (g6 (l1 Tryz.isAgg9 g rfl) ?_)
  refine g9 Tryz.call156 h g ?_
  rintro _ q _ ap i _ _ ⟨aq, rfl, rfl, h⟩
  refine p7 h (fun _ h => ?_) (fun _ h => ?_)
  ·refine g6 (ldA Tryz.isAgg103 Tryz.sizeOf103 rfl (i.at1 (o := 0) (vs := [(vi 1), (Value.string a), (vi 0), (vi 0), (vi 0)]) (nb rfl) rfl)) ?_
   refine i6 (i.bring 3) Tryz.sizeOf103 (vs := [(vi 1), (Value.string a), (vi 0), (vi 0), (vi 0)]) (cs' := [(vi 1), (Value.string a), (vi 0), (vi 0), (vi 0)]) rfl rfl (nb rfl) rfl rfl fun ar r au => ?_
   refine A5 Tryz.isAgg103 Tryz.sizeOf103 rfl (r.at1 (o := 0) (vs := [(vi 1), (Value.string a), (vi 0), (vi 0), (vi 0)]) (nb rfl) rfl) ?_
   exact hR _ q _ _ ((r.drop.drop.bring 1).bring 1) ⟨(b5.mk 1 a 0 (b8.mk 0 0)), 22, (s7 b), d, e, f, rfl, rfl, l, h⟩
  ·exact hx1 _ _ (hj1 (b5.mk 1 a 0 (b8.mk 0 0)) b.fs b.fn b.fat q _ ((((i.bring 2).bring 3).bring 3).bring 3) h)
def a0z (x0 : Int) (H : Hp) (K : Bool → Hp → Prop) : Prop :=
 R1 x0 H (fun a b =>
 K (decide (a = 4)) b)
theorem a6d (x0) {H K} (h : a0z x0 H K) : a0y x0 H K := by
 refine Ct.of fun w0 w ps0 H0 R E I hR => c2m ?_
 unfold a0z at h
 unfold c5i
 refine g9 Tryz.call132 h I ?_
 rintro _ a _ d b _ _ ⟨c, rfl, rfl, h⟩
 refine a7 pEq ?_
 exact hR _ a _ _ b ⟨(decide (c = 4)), rfl, rfl, h⟩
def a3w (H : Hp) (K : b5 → Int → Hp → Prop) : Prop :=
 K (b5.mk 0 ⟨#[]⟩ 0 (b8.mk 0 0)) 20 H
theorem a6E {H K} (h : a3w H K) : a6A H K := by
 refine Ct.of fun w0 w ps0 H0 R E I hR => c2b ?_
 unfold a3w at h
 unfold c4X
 refine p6 I Tryz.zeroValue103 (cs := [(vi 0), (eS), (vi 0), (vi 0), (vi 0)]) rfl fun c d b e => ?_
 refine a7 (b1t ) ?_
 refine i6 b Tryz.sizeOf103 (vs := [(vi 0), (eS), (vi 0), (vi 0), (vi 0)]) (cs' := [(vi 0), (eS), (vi 0), (vi 0), (vi 0)]) rfl rfl (nb rfl) rfl rfl fun f a g => ?_
 refine A5 Tryz.isAgg103 Tryz.sizeOf103 rfl (a.at1 (o := 0) (vs := [(vi 0), (eS), (vi 0), (vi 0), (vi 0)]) (nb rfl) rfl) ?_
 exact hR _ H _ _ a.drop ⟨(b5.mk 0 ⟨#[]⟩ 0 (b8.mk 0 0)), 20, rfl, rfl, h⟩
def E8 (c8q : Int) (a9Y : Bool) (a : N0) (H : Hp) (K : Bool → Hp → Prop) : Prop :=
 (a9Y = true →
 K (decide (c8q = 2)) H) ∧
 (a9Y = false →
 K false H)
def P1 (b2I : Int) (a4M : Int) (a9Z : Bool) (a : N0) (H : Hp) (K : Bool → Hp → Prop) : Prop :=
 (a9Z = true →
 K (decide (b2I = 1)) H) ∧
 (a9Z = false →
 (a4M = 6 →
 E8 b2I (decide (a4M = 6)) a H K) ∧
 (¬ (a4M = 6) →
 (a4M = 7 →
 E8 b2I (decide (a4M = 7)) a H K) ∧
 (¬ (a4M = 7) →
 (a4M = 8 →
 E8 b2I (decide (a4M = 8)) a H K) ∧
 (¬ (a4M = 8) →
 (a4M = 9 →
 E8 b2I (decide (a4M = 9)) a H K) ∧
 (¬ (a4M = 9) →
 E8 b2I (decide (a4M = 10)) a H K)))))
def P2 (a8K : Int) (a4N : Int) (b0a : Bool) (a : N0) (H : Hp) (K : Bool → Hp → Prop) : Prop :=
 (b0a = true →
 K (decide (a8K = 0)) H) ∧
 (b0a = false →
 (a4N = 4 →
 P1 a8K a4N (decide (a4N = 4)) a H K) ∧
 (¬ (a4N = 4) →
 P1 a8K a4N (decide (a4N = 5)) a H K))
def a2D (x0 : N0) (H : Hp) (K : Bool → Hp → Prop) : Prop :=
 a0Y (d8.G9 x0) H (fun c b a =>
 ((((!decide (x0.u4.c8 = 1)) && (!decide (x0.u4.J5 = 0))) || ((!b) && (!decide (x0.u4.o9 = ⟨#[]⟩)))) = true →
 K false a) ∧
 ((((!decide (x0.u4.c8 = 1)) && (!decide (x0.u4.J5 = 0))) || ((!b) && (!decide (x0.u4.o9 = ⟨#[]⟩)))) = false →
 (x0.u4.c8 = 1 →
 K ((decide (0 ≤ x0.u4.J5)) && (decide ((x0.u4.P7.n : Int) = 0))) a) ∧
 (¬ (x0.u4.c8 = 1) →
 (x0.u4.c8 = 2 →
 P2 (x0.u4.P7.n : Int) x0.u4.c8 (decide (x0.u4.c8 = 2)) x0 a K) ∧
 (¬ (x0.u4.c8 = 2) →
 P2 (x0.u4.P7.n : Int) x0.u4.c8 (decide (x0.u4.c8 = 3)) x0 a K))))
theorem a7J (x0) {H K} (h : a2D x0 H K) : a2y x0 H K := by
 refine Ct.of fun w0 w ps0 H0 R E I hR => c2p ?_
 unfold a2D at h
 unfold c5l
 refine T7 I (cs := (d9 x0.u4)) rfl fun f l i m => ?_
 refine a7 Z7 (a7 a6W (g6 (l1 Tryz.isAgg38 i rfl) (a7 (a3v _ _ _) (g6 (lW Tryz.isAgg141 Tryz.sizeOf141 rfl i) ?_))))
 refine a7 (a8m x0) ?_
 refine g9 Tryz.call143 h i ?_
 rintro _ d _ o c _ _ ⟨j, k, rfl, rfl, h⟩
 refine a7 (j9 _ _ (Value.string j) rfl) (a7 (j9 _ _ (vB k) rfl) (a7 Z7 (a7 a3B (g6 (l1 Tryz.isAgg3 c rfl) ?_))))
 refine a7 pNe ?_
 refine a7 (Pu.g fun a => by with_reducible exact Z7) ?_
 refine a7 (Pu.g fun a => by simp only [m1 a]; with_reducible exact a6X) ?_
 refine g6 (Ld.g fun a => by simp only [m1 a]; exact (l1 Tryz.isAgg2 c rfl)) ?_
 refine a7 (Pu.g fun a => by simp only [m1 a]; with_reducible exact pNe) ?_
 refine a7 (C1 _ _) ?_
 simp only [E5]
 refine a7 (Pu.g fun a => by simp only [m1 a]; with_reducible exact (T2 _)) ?_
 simp only [a9S]
 refine a7 (Pu.e (a0t _ _ _) (Pu.g fun hb => by obtain ⟨a, b⟩ := a3A hb; with_reducible exact Z7)) ?_
 refine a7 (Pu.e (a0t _ _ _) (Pu.g fun hb => by obtain ⟨a, b⟩ := a3A hb; simp only [m1 hb]; with_reducible exact a7b)) ?_
 refine g6 (Ld.e (a0t _ _ _) (Ld.g fun hb => by obtain ⟨a, b⟩ := a3A hb; simp only [m1 hb]; exact (l1 Tryz.isAgg9 c rfl))) ?_
 refine a7 (Pu.e (a0t _ _ _) (Pu.g fun hb => by obtain ⟨a, b⟩ := a3A hb; simp only [m1 hb]; with_reducible exact (c3s _ _ _ _ _))) ?_
 refine a7 (Pu.g fun a => by simp only [m1 a, a9y a]; with_reducible exact (C1 _ _)) ?_
 refine a7 (P6 _ _) ?_
 refine p7 h (fun _ h => ?_) (fun _ h => ?_)
 ·exact hR _ d _ _ c.drop ⟨false, rfl, rfl, h⟩
 ·refine a7 Z7 (a7 a3B (g6 (l1 Tryz.isAgg3 c rfl) (a7 pEq ?_)))
  refine m6 h (fun _ h => ?_) (fun _ h => ?_)
  ·refine a7 Z7 (a7 a6X (g6 (l1 Tryz.isAgg2 c rfl) (a7 pGe ?_)))
   simp only [E5]
   refine a7 (Pu.g fun a => by simp only [m1 a]; with_reducible exact pEq) ?_
   refine a7 (C1 _ _) ?_
   exact hR _ d _ _ c.drop ⟨((decide (0 ≤ x0.u4.J5)) && (decide ((x0.u4.P7.n : Int) = 0))), rfl, rfl, h⟩
  ·have hj1 : ∀ (b0a : Bool) H w (_ : Inv w0 ps0 H0 H [bx f 141 (d9 x0.u4)] w) (_ : P2 (x0.u4.P7.n : Int) x0.u4.c8 b0a x0 H K), b2B (vi (x0.u4.P7.n : Int)) (vi x0.u4.c8) (vB b0a) w R E := by
    intro b0a H w I h
    unfold b2B
    intro _
    unfold P2 at h
    refine p7 h (fun _ h => ?_) (fun _ h => ?_)
    ·refine a7 pEq ?_
     exact hR _ H _ _ I.drop ⟨(decide ((x0.u4.P7.n : Int) = 0)), rfl, rfl, h⟩
    ·have hj2 : ∀ (a9Z : Bool) H w (_ : Inv w0 ps0 H0 H [bx f 141 (d9 x0.u4)] w) (_ : P1 (x0.u4.P7.n : Int) x0.u4.c8 a9Z x0 H K), b2A (vi (x0.u4.P7.n : Int)) (vi x0.u4.c8) (vB a9Z) w R E := by
      intro a9Z H w I h
      unfold b2A
      intro _
      unfold P1 at h
      refine p7 h (fun _ h => ?_) (fun _ h => ?_)
      ·refine a7 pEq ?_
       exact hR _ H _ _ I.drop ⟨(decide ((x0.u4.P7.n : Int) = 1)), rfl, rfl, h⟩
      ·have hj3 : ∀ (a9Y : Bool) H w (_ : Inv w0 ps0 H0 H [bx f 141 (d9 x0.u4)] w) (_ : E8 (x0.u4.P7.n : Int) a9Y x0 H K), b2z (vi (x0.u4.P7.n : Int)) (vB a9Y) w R E := by
        intro a9Y H w I h
        unfold b2z
        intro _
        unfold E8 at h
        refine p7 h (fun _ h => ?_) (fun _ h => ?_)
        ·refine a7 pEq ?_
         exact hR _ H _ _ I.drop ⟨(decide ((x0.u4.P7.n : Int) = 2)), rfl, rfl, h⟩
        ·exact hR _ H _ _ I.drop ⟨false, rfl, rfl, h⟩
       refine z8 fun j3 hx3 => ?_
       refine a7 pEq ?_
       refine m6 h (fun _ h => ?_) (fun _ h => ?_)
       ·exact hx3 _ _ (hj3 (decide (x0.u4.c8 = 6)) H _ I h)
       ·refine a7 pEq ?_
        refine m6 h (fun _ h => ?_) (fun _ h => ?_)
        ·exact hx3 _ _ (hj3 (decide (x0.u4.c8 = 7)) H _ I h)
        ·refine a7 pEq ?_
         refine m6 h (fun _ h => ?_) (fun _ h => ?_)
         ·exact hx3 _ _ (hj3 (decide (x0.u4.c8 = 8)) H _ I h)
         ·refine a7 pEq ?_
          refine m6 h (fun _ h => ?_) (fun _ h => ?_)
          ·exact hx3 _ _ (hj3 (decide (x0.u4.c8 = 9)) H _ I h)
          ·refine a7 pEq ?_
           exact hx3 _ _ (hj3 (decide (x0.u4.c8 = 10)) H _ I h)
     refine z8 fun j2 hx2 => ?_
     refine a7 pEq ?_
     refine m6 h (fun _ h => ?_) (fun _ h => ?_)
     ·exact hx2 _ _ (hj2 (decide (x0.u4.c8 = 4)) H _ I h)
     ·refine a7 pEq ?_
      exact hx2 _ _ (hj2 (decide (x0.u4.c8 = 5)) H _ I h)
   refine z8 fun j1 hx1 => ?_
   refine a7 pEq ?_
   refine m6 h (fun _ h => ?_) (fun _ h => ?_)
   ·exact hx1 _ _ (hj1 (decide (x0.u4.c8 = 2)) d _ c h)
   ·refine a7 pEq ?_
    exact hx1 _ _ (hj1 (decide (x0.u4.c8 = 3)) d _ c h)
end Go.Proofs.YthklmeihgmcljaaGreatDoor
