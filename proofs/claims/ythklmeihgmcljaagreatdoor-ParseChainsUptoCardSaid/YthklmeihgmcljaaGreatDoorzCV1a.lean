/- Typed formulas of the program's functions, and the theorems that the contracts follow from them; printed by lift.py off the code. -/
import Derived.Test.YthklmeihgmcljaaGreatDoorzCV1
namespace Go.Proofs.YthklmeihgmcljaaGreatDoor
open Go.RowKit
set_option maxRecDepth 100000
set_option maxHeartbeats 2000000
def a1s (x0 : b8) (H : Hp) (K : Int → Hp → Prop) : Prop :=
 s9 x0 ⟨#[42]⟩ H (fun a b =>
 (a = true →
 K 8 b) ∧
 (a = false →
 s9 x0 ⟨#[47]⟩ b (fun c d =>
 (c = true →
 K 9 d) ∧
 (c = false →
 s9 x0 ⟨#[37]⟩ d (fun e f =>
 (e = true →
 K 10 f) ∧
 (e = false →
 K 0 f))))))
theorem a1t (x0) {H K} (h : a1s x0 H K) : L8 x0 H K := by
 intro g0
 refine Ct.of fun w0 w ps0 H0 R E I hR => c0P ?_
 unfold a1s at h
 unfold c3C
 refine g8 Tryz.call23 (h g0) I ?_
 rintro _ e _ g a _ _ ⟨i, rfl, rfl, h⟩
 refine m8 h (fun _ h => ?_) (fun _ h => ?_)
 ·exact hR _ e _ _ a ⟨8, rfl, rfl, h⟩
 ·refine g8 Tryz.call23 (h g0) a ?_
  rintro _ f _ j b _ _ ⟨k, rfl, rfl, h⟩
  refine m8 h (fun _ h => ?_) (fun _ h => ?_)
  ·exact hR _ f _ _ b ⟨9, rfl, rfl, h⟩
  ·refine g8 Tryz.call23 (h g0) b ?_
   rintro _ c _ l d _ _ ⟨m, rfl, rfl, h⟩
   refine m8 h (fun _ h => ?_) (fun _ h => ?_)
   ·exact hR _ c _ _ d ⟨10, rfl, rfl, h⟩
   ·exact hR _ c _ _ d ⟨0, rfl, rfl, h⟩
def U8 (s8 : b8) (a : f8) (b : f8) (H : Hp) (K : f8 → b8 → Hp → Prop) : Prop :=
 K a s8 H
def P1 (a3H : Int) (d : f8) (m5 : b8) (e : f8) (H : Hp) (n2 : (f8 × b8 × f8) → Hp → Prop) (K : f8 → b8 → Hp → Prop) : Prop :=
 N7 m5 ⟨#[38, 38]⟩ H (fun f g i =>
 (f = true →
 Y3 g a3H i (fun j k l =>
 ∀ (a : Sl) (b : Hp), Hle l b → SlH b 4 g9 a [d, j] → a.n ≤ a.c →
 n2 ((f8.mk 5 0 (Sl.mk none 0 0) a), k, e) b)) ∧
 (f = false →
 U8 g d e i K))
def X1 (x0 : b8) (x1 : Int) (H : Hp) (K : f8 → b8 → Hp → Prop) : Prop :=
 Y3 x0 x1 H (fun a b c =>
 TL ((a, b, (f8.mk 0 0 (Sl.mk none 0 0) (Sl.mk none 0 0))) : f8 × b8 × f8) c fun (s : f8 × b8 × f8) H n2 => P1 x1 s.1 s.2.1 s.2.2 H n2 K)
theorem a4M (x0 x1) {H K} (h : X1 x0 x1 H K) : S1 x0 x1 H K := by
 intro g0
 refine Ct.of fun w0 w ps0 H0 R E I hR => c3m ?_
 unfold X1 at h
 unfold F90
 refine m7 I Tryz.zeroValue49 (cs := [(vi 0), (vi 0), (nS), (nS)]) rfl fun m ay ab az => ?_
 refine g8 Tryz.call127 (h g0) (ab.bring 1) ?_
 rintro _ ac _ ba ad _ _ ⟨p, ae, rfl, rfl, h⟩
 refine m7 ad Tryz.zeroValue49 (cs := [(vi 0), (vi 0), (nS), (nS)]) rfl fun q bb af bc => ?_
 refine g6 af Tryz.sizeOf49 (vs := (g9 p)) (cs' := (g9 p)) rfl rfl (nb rfl) rfl rfl fun bd ag be => ?_
 have hj1 : ∀ (s8 : b8) (g : f8) (r : f8) H w (_ : Inv w0 ps0 H0 H [bx g0 66 (j8 s8), bx q 49 (g9 g), bx m 49 (g9 r)] w) (_ : U8 s8 g r H K), b3Y (Value.pointer (some ⟨m, 0, none⟩)) (Value.pointer (some ⟨q, 0, none⟩)) w R E := by
  intro s8 g r H w I h
  unfold b3Y
  intro _
  unfold U8 at h
  refine g7 (lW Tryz.isAgg49 Tryz.sizeOf49 rfl (I.bring 1)) ?_
  refine g6 (I.bring 2) Tryz.sizeOf49 (vs := (g9 g)) (cs' := (g9 g)) rfl rfl (nb rfl) rfl rfl fun bf u bg => ?_
  refine u1 Tryz.isAgg49 Tryz.sizeOf49 rfl (u.at1 (o := 0) (vs := (g9 g)) (nb rfl) rfl) ?_
  exact hR _ H _ _ (u.drop.bring 1).drop ⟨g, s8, rfl, rfl, h⟩
 refine u7 fun j1 hx1 => ?_
 obtain ⟨t, i, ah, ai⟩ := h
 refine E8 (J := fun n l w => ∃ (s : f8 × b8 × f8) (H : Hp) , n = i s ∧ l = (match s with | (d, m5, f) => []) ∧ (match s with | (d, m5, f) => Inv w0 ps0 H0 H [bx q 49 (g9 d), bx g0 66 (j8 m5), bx m 49 (g9 f)] w) ∧ t s H) ⟨_, (p, ae, (f8.mk 0 0 (Sl.mk none 0 0) (Sl.mk none 0 0))), ac, rfl, rfl, (((ag.bring 2).bring 2).bring 2), ah⟩ ?_
 rintro bh bi w next2 ⟨⟨d, m5, f⟩, H, rfl, v, I, aj⟩ hn2
 dsimp only at v I
 clear v
 obtain ⟨n2, hm2, h⟩ : ∃ n2 : (f8 × b8 × f8) → Hp → Prop, (∀ s' H', n2 s' H' → t s' H' ∧ i s' < i (d, m5, f)) ∧ P1 x1 d m5 f H n2 K := ⟨_, fun _ _ h => h, ai (d, m5, f) H (fun s' H' => t s' H' ∧ i s' < i (d, m5, f)) aj (fun _ _ a b => ⟨a, b⟩)⟩
 unfold b7M
 unfold P1 at h
 refine g8 Tryz.call67 (h g0) (I.bring 1) ?_
 rintro _ ak _ bj y _ _ ⟨bk, z, rfl, rfl, h⟩
 refine m8 h (fun _ h => ?_) (fun _ h => ?_)
 ·refine U3 y fun bl j => ?_
  refine A0 (lW Tryz.isAgg49 Tryz.sizeOf49 rfl (j.bring 1)) ?_
  refine g8 Tryz.call127 (h g0) j ?_
  rintro _ _ _ bm al _ am ⟨an, ao, rfl, rfl, h⟩
  refine ⟨(am _ (j.bring 1).lt1 (Inv.Y1 (Fi := [bx g0 66 (j8 z)]) ((j.bring 1).bring 1))), ?_⟩
  refine U4 (e := 49) (c := g9) (xs := [d, an]) al (b1l _ _ _ _ _ _ _ _ _ _ _ _ _ _ _ _) rfl rfl R6 R7 (nb rfl) fun k bn bo ap aq bp => ?_
  refine o8 (a4t _ _ _ _) ?_
  refine g6 (aq.bring 2) Tryz.sizeOf49 (vs := [(vi 5), (vi 0), (nS), (vs k)]) (cs' := [(vi 5), (vi 0), (nS), (vs k)]) rfl rfl (nb rfl) rfl rfl fun bq ar br => ?_
  obtain ⟨aa, au, av, aw, ax⟩ := Inv.freezeC (ar.bring 1) ap (by decide)
  replace h := h k aa av aw ax
  exact hn2 _ _ _ (hm2 _ _ h).2 ⟨((f8.mk 5 0 (Sl.mk none 0 0) k), ao, f), aa, rfl, rfl, (((au.bring 2).bring 2).bring 2), (hm2 _ _ h).1⟩
 ·exact hx1 _ _ (hj1 z d f ak _ (((y.bring 2).bring 2).bring 2) h)
def W6 (a5q : Int) (a5r : Int) (a5s : Int) (a5t : Bool) (a5u : Bool) (a4H : (List ByteArray)) (H : Hp) (K : Bool → k7 → (List ByteArray) → Hp → Prop) : Prop :=
 K true (k7.mk a5q a5r a5s a5t a5u (Sl.mk none 0 0)) a4H H
def W7 (a3H : Int) (a3I : Sl) (r9 : Int) (a1M : Int) (a0O : Int) (a0P : Int) (a0Q : Int) (a0R : Bool) (a0S : Bool) (Z0 : (List ByteArray)) (H : Hp) (n2 : (Int × Int × Int × Int × Bool × Bool × (List ByteArray)) → Hp → Prop) (K : Bool → k7 → (List ByteArray) → Hp → Prop) : Prop :=
 (a1M < r9 →
 (0 : Int) ≤ a1M ∧ (a1M : Int) < a3I.n ∧ ∃ c : d7, EltH H a3I a1M 1 [(E3 c)] ∧
 a0K (k7.mk a0O a0P a0Q a0R a0S (Sl.mk none 0 0)) Z0 c a3H H (fun b d e f =>
 TG ((!b) = false) (a2A c f) (Sl.mk none 0 0) f (fun (j : Sl) (g : Hp) =>
 TG ((!b) = false) (fun k_ => V7 j (IntKind.wrap .i64 (a3H + 1)) (Y2 d) e g fun k l m H_ => k_ (k, l, m) H_) (false, (Y2 d), e) g (fun (a : Bool × k7 × (List ByteArray)) (i : Hp) =>
 (((!b) || (!a.1)) = true →
 K false (k7.mk (a.2.1.fnodes) (a.2.1.fdepth) (a.2.1.fe) (a.2.1.fform) (a.2.1.fnamed) (Sl.mk none 0 0)) a.2.2 i) ∧
 (((!b) || (!a.1)) = false →
 n2 ((IntKind.wrap .i64 (a1M + 1)), (a.2.1.fnodes), (a.2.1.fdepth), (a.2.1.fe), (a.2.1.fform), (a.2.1.fnamed), a.2.2) i))))) ∧
 (¬ (a1M < r9) →
 W6 a0O a0P a0Q a0R a0S Z0 H K)
def a2p (x0 : Sl) (x1 : Int) (x2 : k7) (a : (List ByteArray)) (H : Hp) (K : Bool → k7 → (List ByteArray) → Hp → Prop) : Prop :=
 TL ((0, x2.fnodes, x2.fdepth, x2.fe, x2.fform, x2.fnamed, a) : Int × Int × Int × Int × Bool × Bool × (List ByteArray)) H fun (s : Int × Int × Int × Int × Bool × Bool × (List ByteArray)) H n2 => W7 x1 x0 (x0.n : Int) s.1 s.2.1 s.2.2.1 s.2.2.2.1 s.2.2.2.2.1 s.2.2.2.2.2.1 s.2.2.2.2.2.2 H n2 K
theorem a7w (x0 x1 x2 ai) {H K} (h : a2p x0 x1 x2 ai H K) : V7 x0 x1 x2 ai H K := by
 intro g2 g2b g3 az ba bb
 refine Ct.of fun w0 w ps0 H0 R E I hR => c0K ?_
 unfold a2p at h
 unfold c3x
 have hj1 : ∀ (a5q : Int) (a5r : Int) (a5s : Int) (a5t : Bool) (a5u : Bool) (a4H : (List ByteArray)) (a7l : Sl) (a7m : Frag) H w (_ : RowL 9 1 F7 a7l a4H a7m) (_ : Inv w0 ps0 H0 H [bx g2 80 [(Value.pointer (some ⟨g2b, 0, none⟩))], bx g2b 79 [(vi a5q), (vi a5r), (vi a5s), (vB a5t), (vB a5u), (vs a7l)], bx g3 169 [(Value.func (.func 118) #[] #[(Value.pointer (some ⟨g2, 0, none⟩)), (Value.pointer (some ⟨g3, 0, none⟩))])], a7m] w) (_ : W6 a5q a5r a5s a5t a5u a4H H K), b1u w R E := by
  intro a5q a5r a5s a5t a5u a4H a7l a7m H w b7P I h
  unfold b1u
  intro _
  unfold W6 at h
  exact hR _ H _ _ ((((I.bring 2).bring 3).bring 3).bring 3) ⟨true, (k7.mk a5q a5r a5s a5t a5u (Sl.mk none 0 0)), a4H, a7l, a7m, rfl, rfl, b7P, h⟩
 refine u7 fun j1 hx1 => ?_
 refine a7 (a6v _ _ _) ?_
 obtain ⟨aj, z, bc, bd⟩ := h
 refine E8 (J := fun n l w => ∃ (s : Int × Int × Int × Int × Bool × Bool × (List ByteArray)) (H : Hp) (a5V : Sl) (a5W : Frag) , n = z s ∧ l = (match s with | (a1M, a0O, a0P, a0Q, a0R, a0S, Z0) => [(vi a1M)]) ∧ (match s with | (a1M, a0O, a0P, a0Q, a0R, a0S, Z0) => RowL 9 1 F7 a5V Z0 a5W) ∧ (match s with | (a1M, a0O, a0P, a0Q, a0R, a0S, Z0) => Inv w0 ps0 H0 H [bx g2 80 [(Value.pointer (some ⟨g2b, 0, none⟩))], bx g2b 79 [(vi a0O), (vi a0P), (vi a0Q), (vB a0R), (vB a0S), (vs a5V)], bx g3 169 [(Value.func (.func 118) #[] #[(Value.pointer (some ⟨g2, 0, none⟩)), (Value.pointer (some ⟨g3, 0, none⟩))])], a5W] w) ∧ aj s H) ⟨_, (0, x2.fnodes, x2.fdepth, x2.fe, x2.fform, x2.fnamed, ai), H, az, ba, rfl, rfl, bb, ((((I.bring 2).bring 3).bring 3).bring 3), bc⟩ ?_
 rintro bj bk w next2 ⟨⟨a1M, a0O, a0P, a0Q, a0R, a0S, Z0⟩, H, a5V, a5W, rfl, ak, a8N, I, be⟩ hn2
 dsimp only at ak I a8N
 simp only [List.map_cons, List.map_nil, List.cons.injEq, and_true] at ak
 have e11 := ak
 simp only [e11]
 obtain ⟨n2, hm2, h⟩ : ∃ n2 : (Int × Int × Int × Int × Bool × Bool × (List ByteArray)) → Hp → Prop, (∀ s' H', n2 s' H' → aj s' H' ∧ z s' < z (a1M, a0O, a0P, a0Q, a0R, a0S, Z0)) ∧ W7 x1 x0 (x0.n : Int) a1M a0O a0P a0Q a0R a0S Z0 H n2 K := ⟨_, fun _ _ h => h, bd (a1M, a0O, a0P, a0Q, a0R, a0S, Z0) H (fun s' H' => aj s' H' ∧ z s' < z (a1M, a0O, a0P, a0Q, a0R, a0S, Z0)) be (fun _ _ a b => ⟨a, b⟩)⟩
 unfold b5v
 unfold W7 at h
 refine a7 pLs ?_
 refine j9 h (fun _ h => ?_) (fun _ h => ?_)
 ·obtain ⟨bf, bg, bh, al, h⟩ := h
  obtain ⟨bl, bm, bi, al⟩ := al
  refine a7 (b7v bi _ _ _ _ bf bg) (g7 (ld1 (v := (E3 bh)) Tryz.isAgg131 (I.atH al)) ?_)
  refine U3 I fun bn ao => ?_
  refine A0 (l1 Tryz.isAgg80 ao rfl) ?_
  refine g8 Tryz.call119 (h g2b a5V a5W a8N) ((ao.bring 3).bring 2) ?_
  rintro _ ap _ aq o _ _ ⟨p, aa, am, ac, ad, rfl, rfl, ar, h⟩
  refine o8 (T8 _) ?_
  simp only [C9]
  refine o8 (Pu.g fun c => by simp only [m6 c]; with_reducible exact pAd) ?_
  refine A0 (Ld.g fun c => by exact (l1 Tryz.isAgg169 (o.bring 3) rfl)) ?_
  refine O5 (D := fun au u => ∃ (ab : Sl) (k : Hp), au = (gv (!p) false (vs ab)) ∧ (Inv w0 ps0 H0 k [bx g2b 79 (Z4 aa ac), ad, bx g2 80 [(Value.pointer (some ⟨g2b, 0, none⟩))], bx g3 169 [(Value.func (.func 118) #[] #[(Value.pointer (some ⟨g2, 0, none⟩)), (Value.pointer (some ⟨g3, 0, none⟩))])]] u) ∧ (∀ i, i < aq.heap.size → ¬ inF [] i → u.heap[i]? = aq.heap[i]?) ∧ Hle ap k ∧ (TG ((!p) = false) (fun k_ => V7 ab (IntKind.wrap .i64 (x1 + 1)) (Y2 aa) am k fun m d j H_ => k_ (m, d, j) H_) (false, (Y2 aa), am) k (fun (e : Bool × k7 × (List ByteArray)) (f : Hp) =>
 (((!p) || (!e.1)) = true →
 K false (k7.mk (e.2.1.fnodes) (e.2.1.fdepth) (e.2.1.fe) (e.2.1.fform) (e.2.1.fnamed) (Sl.mk none 0 0)) e.2.2 f) ∧
 (((!p) || (!e.1)) = false →
 n2 ((IntKind.wrap .i64 (a1M + 1)), (e.2.1.fnodes), (e.2.1.fdepth), (e.2.1.fe), (e.2.1.fform), (e.2.1.fnamed), e.2.2) f)))) (fun y => ?_) (fun y => ?_) ?_
  ·replace h := h.1 y
   have c := y
   simp only [m6 c]
   refine a7v o h (fun ab k u ae av an h => ?_)
   exact ⟨ab, k, by rfl, ae, an, av, h⟩
  ·exact ⟨(Sl.mk none 0 0), ap, by rw [X9 y], o, fun _ _ _ => rfl, Hle.refl _, h.2 y⟩
  ·clear h
   rintro au u ⟨ab, k, rfl, ae, an, av, h⟩
   refine ⟨(an _ (o.bring 3).lt1 (Inv.Y1 (Fi := []) (o.bring 3))), ?_⟩
   refine O5 (D := fun aw af => ∃ (m : Bool) (d : k7) (j : (List ByteArray)) (f : Hp) (q : Sl) (r : Frag) , aw = (gv (!p) false (vB m)) ∧ (RowL 9 1 F7 q j r) ∧ (Inv w0 ps0 H0 f [bx g2 80 [(Value.pointer (some ⟨g2b, 0, none⟩))], bx g2b 79 (Z4 d q), r, bx g3 169 [(Value.func (.func 118) #[] #[(Value.pointer (some ⟨g2, 0, none⟩)), (Value.pointer (some ⟨g3, 0, none⟩))])]] af) ∧ (∀ i, i < u.heap.size → ¬ inF [bx g2 80 [(Value.pointer (some ⟨g2b, 0, none⟩))], bx g2b 79 (Z4 aa ac), ad, bx g3 169 [(Value.func (.func 118) #[] #[(Value.pointer (some ⟨g2, 0, none⟩)), (Value.pointer (some ⟨g3, 0, none⟩))])]] i → af.heap[i]? = u.heap[i]?) ∧ Hle k f ∧ ((((!p) || (!m)) = true →
 K false (Y2 d) j f) ∧
 (((!p) || (!m)) = false →
 n2 ((IntKind.wrap .i64 (a1M + 1)), d.fnodes, d.fdepth, d.fe, d.fform, d.fnamed, j) f))) (fun t => ?_) (fun t => ?_) ?_
   ·replace h := h.1 t
    have c := t
    simp only [m6 c]
    refine a4V (cap := [(Value.pointer (some ⟨g2, 0, none⟩)), (Value.pointer (some ⟨g3, 0, none⟩))]) Tryz.call118 (h g2 g2b g3 ac ad ar) ((((ae.bring 3).bring 2).bring 2).bring 3) ?_
    rintro _ f _ af ag ax ay ⟨m, d, j, q, r, rfl, rfl, ah, h⟩
    exact ⟨m, d, j, f, q, r, by rfl, ah, ag, ay, ax, h⟩
   ·exact ⟨false, (Y2 aa), am, k, ac, ad, by rw [X9 t], ar, ((((ae.bring 3).bring 2).bring 2).bring 3), fun _ _ _ => rfl, Hle.refl _, h.2 t⟩
   ·clear h
    rintro aw af ⟨m, d, j, f, q, r, rfl, ah, ag, ay, ax, h⟩
    refine o8 (Pu.g fun c => by simp only [m6 c]; with_reducible exact (T8 _)) ?_
    refine o8 (L0 _ _) ?_
    refine m8 h (fun _ h => ?_) (fun _ h => ?_)
    ·exact hR _ f _ _ ((((ag.bring 3).bring 3).bring 3).bring 3) ⟨false, (Y2 d), j, q, r, rfl, rfl, ah, h⟩
    ·refine a7 pAd ?_
     exact hn2 _ _ _ (hm2 _ _ h).2 ⟨((IntKind.wrap .i64 (a1M + 1)), d.fnodes, d.fdepth, d.fe, d.fform, d.fnamed, j), f, q, r, rfl, rfl, ah, ((((ag.bring 2).bring 3).bring 3).bring 3), (hm2 _ _ h).1⟩
 ·exact hx1 _ _ (hj1 a0O a0P a0Q a0R a0S Z0 a5V a5W H _ a8N ((((I.bring 3).bring 3).bring 3).bring 3) h)
def a3b [PanQ] (x0 : a8) (x1 : ByteArray) (H : Hp) (K : a8 → Hp → Prop) : Prop :=
 r8 x0 x1 H (fun b a c =>
 ((!b) = true →
 C3 a c (fun d =>
 K a d)) ∧
 ((!b) = false →
 K a c))
theorem a6c [PanQ] (x0 : a8) (x1 : ByteArray) {H : Hp} {K : a8 → Hp → Prop} (h : a3b x0 x1 H K) : A4 x0 x1 H K := by
 intro g0
 refine Ct.ofE fun w0 w ps0 H0 R E I hR hE => c0F ?_
 unfold a3b at h
 unfold c3s
 refine g8 Tryz.call105 (h g0) I ?_
 rintro _ c _ f a _ _ ⟨g, b, rfl, rfl, h⟩
 refine a7 (T8 _) ?_
 refine m8 h (fun _ h => ?_) (fun _ h => ?_)
 ·refine u6 hE Tryz.call52 (h g0) a ?_
  rintro _ d _ i e _ _ ⟨rfl, rfl, h⟩
  exact hR _ d _ _ e ⟨b, rfl, rfl, h⟩
 ·exact hR _ c _ _ a ⟨b, rfl, rfl, h⟩
def T3 [PanQ] (s8 : a8) (a : b5) (b : b5) (H : Hp) (K : b5 → a8 → Hp → Prop) : Prop :=
 K a (a8.mk s8.fl (IntKind.wrap .i64 (s8.fn + 1))) H
def a3d [PanQ] (x0 : a8) (H : Hp) (K : b5 → a8 → Hp → Prop) : Prop :=
 u9 x0 H (fun a b =>
 (a.f7 = 5 →
 C3 x0 b (fun c =>
 T3 x0 a (b5.mk 0 ⟨#[]⟩ 0 (b9.mk 0 0)) c K)) ∧
 (¬ (a.f7 = 5) →
 T3 x0 a (b5.mk 0 ⟨#[]⟩ 0 (b9.mk 0 0)) b K))
theorem a6d [PanQ] (x0 : a8) {H : Hp} {K : b5 → a8 → Hp → Prop} (h : a3d x0 H K) : M9 x0 H K := by
 intro g0
 refine Ct.ofE fun w0 w ps0 H0 R E I hR hE => c0G ?_
 unfold a3d at h
 unfold c3t
 refine m7 I Tryz.zeroValue103 (cs := [(vi 0), (eS), (vi 0), (vi 0), (vi 0)]) rfl fun c n g p => ?_
 refine g8 Tryz.call51 (h g0) (g.bring 1) ?_
 rintro _ i _ q j _ _ ⟨a, rfl, rfl, h⟩
 refine m7 j Tryz.zeroValue103 (cs := [(vi 0), (eS), (vi 0), (vi 0), (vi 0)]) rfl fun d r k s => ?_
 refine g6 k Tryz.sizeOf103 (vs := (d8 a)) (cs' := (d8 a)) rfl rfl (nb rfl) rfl rfl fun t b u => ?_
 have hj1 : ∀ H w (_ : Inv w0 ps0 H0 H [bx g0 101 (b6 x0), bx d 103 (d8 a), bx c 103 [(vi (b5.mk 0 ⟨#[]⟩ 0 (b9.mk 0 0)).f7), (Value.string (b5.mk 0 ⟨#[]⟩ 0 (b9.mk 0 0)).A8), (vi (b5.mk 0 ⟨#[]⟩ 0 (b9.mk 0 0)).N6), (vi (b5.mk 0 ⟨#[]⟩ 0 (b9.mk 0 0)).fAt.v7), (vi (b5.mk 0 ⟨#[]⟩ 0 (b9.mk 0 0)).fAt.C8)]] w) (_ : T3 x0 a (b5.mk 0 ⟨#[]⟩ 0 (b9.mk 0 0)) H K), b1s (Value.pointer (some ⟨g0, 0, none⟩)) (Value.pointer (some ⟨c, 0, none⟩)) (Value.pointer (some ⟨d, 0, none⟩)) w R E := by
  intro H w I h
  unfold b1s
  intro _
  unfold T3 at h
  refine a7 (q7 _) (a7 a2o (g7 (l1 Tryz.isAgg3 I rfl) (a7 pAd (a7 (q7 _) ?_))))
  refine a7 a2o ?_
  refine g6 I Tryz.sizeOf3 (vs := [(vi (IntKind.wrap .i64 (x0.fn + 1)))]) (cs' := [(vs x0.fl), (vi (IntKind.wrap .i64 (x0.fn + 1)))]) rfl rfl (nb rfl) rfl rfl fun v e y => ?_
  refine g7 (lW Tryz.isAgg103 Tryz.sizeOf103 rfl (e.bring 1)) ?_
  refine g6 (e.bring 2) Tryz.sizeOf103 (vs := (d8 a)) (cs' := (d8 a)) rfl rfl (nb rfl) rfl rfl fun z f aa => ?_
  refine u1 Tryz.isAgg103 Tryz.sizeOf103 rfl (f.at1 (o := 0) (vs := (d8 a)) (nb rfl) rfl) ?_
  exact hR _ H _ _ (f.drop.bring 1).drop ⟨a, (a8.mk x0.fl (IntKind.wrap .i64 (x0.fn + 1))), rfl, rfl, h⟩
 refine u7 fun j1 hx1 => ?_
 refine a7 a0m (g7 (l1 Tryz.isAgg3 b rfl) (a7 pEq ?_))
 refine j9 h (fun _ h => ?_) (fun _ h => ?_)
 ·refine u6 hE Tryz.call52 (h g0) (b.bring 1) ?_
  rintro _ l _ ab m _ _ ⟨rfl, rfl, h⟩
  exact hx1 _ _ (hj1 l _ (((m.bring 2).bring 2).bring 2) h)
 ·exact hx1 _ _ (hj1 i _ (((b.bring 2).bring 1).bring 2) h)
def O6 [PanQ] (s8 : a8) (d : b5) (H : Hp) (K : b5 → a8 → Hp → Prop) : Prop :=
 M9 s8 H (fun a b c =>
 K a b c)
def a3e [PanQ] (x0 : a8) (x1 : Int) (H : Hp) (K : b5 → a8 → Hp → Prop) : Prop :=
 u9 x0 H (fun a b =>
 (¬ (a.f7 = x1) →
 C3 x0 b (fun c =>
 O6 x0 (b5.mk 0 ⟨#[]⟩ 0 (b9.mk 0 0)) c K)) ∧
 (a.f7 = x1 →
 O6 x0 (b5.mk 0 ⟨#[]⟩ 0 (b9.mk 0 0)) b K))
theorem a6e [PanQ] (x0 : a8) (x1 : Int) {H : Hp} {K : b5 → a8 → Hp → Prop} (h : a3e x0 x1 H K) : a0L x0 x1 H K := by
 intro g0
 refine Ct.ofE fun w0 w ps0 H0 R E I hR hE => c0E ?_
 unfold a3e at h
 unfold c3r
 refine m7 I Tryz.zeroValue103 (cs := [(vi 0), (eS), (vi 0), (vi 0), (vi 0)]) rfl fun b m e n => ?_
 have hj1 : ∀ H w (_ : Inv w0 ps0 H0 H [bx g0 101 (b6 x0), bx b 103 [(vi (b5.mk 0 ⟨#[]⟩ 0 (b9.mk 0 0)).f7), (Value.string (b5.mk 0 ⟨#[]⟩ 0 (b9.mk 0 0)).A8), (vi (b5.mk 0 ⟨#[]⟩ 0 (b9.mk 0 0)).N6), (vi (b5.mk 0 ⟨#[]⟩ 0 (b9.mk 0 0)).fAt.v7), (vi (b5.mk 0 ⟨#[]⟩ 0 (b9.mk 0 0)).fAt.C8)]] w) (_ : O6 x0 (b5.mk 0 ⟨#[]⟩ 0 (b9.mk 0 0)) H K), b1r (Value.pointer (some ⟨g0, 0, none⟩)) (Value.pointer (some ⟨b, 0, none⟩)) w R E := by
  intro H w I h
  unfold b1r
  intro _
  unfold O6 at h
  refine u6 hE Tryz.call104 (h g0) I ?_
  rintro _ f _ p g _ _ ⟨a, i, rfl, rfl, h⟩
  refine g6 (g.bring 1) Tryz.sizeOf103 (vs := (d8 a)) (cs' := (d8 a)) rfl rfl (nb rfl) rfl rfl fun q c r => ?_
  refine u1 Tryz.isAgg103 Tryz.sizeOf103 rfl (c.at1 (o := 0) (vs := (d8 a)) (nb rfl) rfl) ?_
  exact hR _ f _ _ c.drop ⟨a, i, rfl, rfl, h⟩
 refine u7 fun j1 hx1 => ?_
 refine g8 Tryz.call51 (h g0) (e.bring 1) ?_
 rintro _ j _ s d _ _ ⟨t, rfl, rfl, h⟩
 refine a7 a4Y (a7 pNe ?_)
 refine a6J h (fun _ h => ?_) (fun _ h => ?_)
 ·refine u6 hE Tryz.call52 (h g0) d ?_
  rintro _ k _ u l _ _ ⟨rfl, rfl, h⟩
  exact hx1 _ _ (hj1 k _ ((l.bring 1).bring 1) h)
 ·exact hx1 _ _ (hj1 j _ ((d.bring 1).bring 1) h)
def a1P (x0 : a8) (H : Hp) (K : Bool → Hp → Prop) : Prop :=
 E0 x0 H (fun a d =>
 TG (a = false) (i6 x0 ⟨#[116, 114, 117, 101]⟩ d) false d (fun (b : Bool) (e : Hp) =>
 TG ((a || b) = false) (i6 x0 ⟨#[102, 97, 108, 115, 101]⟩ e) false e (fun (c : Bool) (f : Hp) =>
 TG (((a || b) || c) = false) (i6 x0 ⟨#[33]⟩ f) false f (fun (g : Bool) (i : Hp) =>
 TG ((((a || b) || c) || g) = false) (i6 x0 ⟨#[91]⟩ i) false i (fun (j : Bool) (k : Hp) =>
 K ((((a || b) || c) || g) || j) k)))))
theorem a4N (x0) {H K} (h : a1P x0 H K) : M2 x0 H K := by
 intro g0
 refine Ct.of fun w0 w ps0 H0 R E I hR => c0Q ?_
 unfold a1P at h
 unfold c3D
 refine g8 Tryz.call141 (h g0) I ?_
 rintro _ aa _ ab ac _ _ ⟨c, rfl, rfl, h⟩
 simp only [C9]
 refine O5 (D := fun ad q => ∃ (a : Bool) (l : Hp) , ad = (gv c false (vB a)) ∧ (Inv w0 ps0 H0 l [bx g0 101 (b6 x0)] q) ∧ (∀ i, i < ab.heap.size → ¬ inF [bx g0 101 (b6 x0)] i → q.heap[i]? = ab.heap[i]?) ∧ Hle aa l ∧ (TG ((c || a) = false) (i6 x0 ⟨#[102, 97, 108, 115, 101]⟩ l) false l (fun (b : Bool) (g : Hp) =>
 TG (((c || a) || b) = false) (i6 x0 ⟨#[33]⟩ g) false g (fun (d : Bool) (e : Hp) =>
 TG ((((c || a) || b) || d) = false) (i6 x0 ⟨#[91]⟩ e) false e (fun (j : Bool) (f : Hp) =>
 K ((((c || a) || b) || d) || j) f))))) (fun m => ?_) (fun m => ?_) ?_
 ·replace h := h.1 m
  have k := m
  simp only [m6 k]
  refine g8 Tryz.call53 (h g0) ac ?_
  rintro _ l _ q t ae af ⟨a, rfl, rfl, h⟩
  exact ⟨a, l, by rfl, t, af, ae, h⟩
 ·exact ⟨false, aa, by rw [X9 m], ac, fun _ _ _ => rfl, Hle.refl _, h.2 m⟩
 ·clear h
  rintro ad q ⟨a, l, rfl, t, af, ae, h⟩
  refine a7 (L0 _ _) ?_
  simp only [C9]
  refine O5 (D := fun ag r => ∃ (b : Bool) (g : Hp) , ag = (gv (c || a) false (vB b)) ∧ (Inv w0 ps0 H0 g [bx g0 101 (b6 x0)] r) ∧ (∀ i, i < q.heap.size → ¬ inF [bx g0 101 (b6 x0)] i → r.heap[i]? = q.heap[i]?) ∧ Hle l g ∧ (TG (((c || a) || b) = false) (i6 x0 ⟨#[33]⟩ g) false g (fun (d : Bool) (e : Hp) =>
 TG ((((c || a) || b) || d) = false) (i6 x0 ⟨#[91]⟩ e) false e (fun (j : Bool) (f : Hp) =>
 K ((((c || a) || b) || d) || j) f)))) (fun n => ?_) (fun n => ?_) ?_
  ·replace h := h.1 n
   have k := n
   simp only [m6 k]
   refine g8 Tryz.call53 (h g0) t ?_
   rintro _ g _ r u ah ai ⟨b, rfl, rfl, h⟩
   exact ⟨b, g, by rfl, u, ai, ah, h⟩
  ·exact ⟨false, l, by rw [X9 n], t, fun _ _ _ => rfl, Hle.refl _, h.2 n⟩
  ·clear h
   rintro ag r ⟨b, g, rfl, u, ai, ah, h⟩
   refine a7 (L0 _ _) ?_
   simp only [C9]
   refine O5 (D := fun aj s => ∃ (d : Bool) (e : Hp) , aj = (gv ((c || a) || b) false (vB d)) ∧ (Inv w0 ps0 H0 e [bx g0 101 (b6 x0)] s) ∧ (∀ i, i < r.heap.size → ¬ inF [bx g0 101 (b6 x0)] i → s.heap[i]? = r.heap[i]?) ∧ Hle g e ∧ (TG ((((c || a) || b) || d) = false) (i6 x0 ⟨#[91]⟩ e) false e (fun (j : Bool) (f : Hp) =>
 K ((((c || a) || b) || d) || j) f))) (fun o => ?_) (fun o => ?_) ?_
   ·replace h := h.1 o
    have k := o
    simp only [m6 k]
    refine g8 Tryz.call53 (h g0) u ?_
    rintro _ e _ s v ak al ⟨d, rfl, rfl, h⟩
    exact ⟨d, e, by rfl, v, al, ak, h⟩
   ·exact ⟨false, g, by rw [X9 o], u, fun _ _ _ => rfl, Hle.refl _, h.2 o⟩
   ·clear h
    rintro aj s ⟨d, e, rfl, v, al, ak, h⟩
    refine a7 (L0 _ _) ?_
    simp only [C9]
    refine O5 (D := fun am y => ∃ (j : Bool) (f : Hp) , am = (gv (((c || a) || b) || d) false (vB j)) ∧ (Inv w0 ps0 H0 f [bx g0 101 (b6 x0)] y) ∧ (∀ i, i < s.heap.size → ¬ inF [bx g0 101 (b6 x0)] i → y.heap[i]? = s.heap[i]?) ∧ Hle e f ∧ (K ((((c || a) || b) || d) || j) f)) (fun p => ?_) (fun p => ?_) ?_
    ·replace h := h.1 p
     have k := p
     simp only [m6 k]
     refine g8 Tryz.call53 (h g0) v ?_
     rintro _ f _ y z an ao ⟨j, rfl, rfl, h⟩
     exact ⟨j, f, by rfl, z, ao, an, h⟩
    ·exact ⟨false, e, by rw [X9 p], v, fun _ _ _ => rfl, Hle.refl _, h.2 p⟩
    ·clear h
     rintro am y ⟨j, f, rfl, z, ao, an, h⟩
     refine a7 (L0 _ _) ?_
     exact hR _ f _ _ z ⟨((((c || a) || b) || d) || j), rfl, rfl, h⟩
def Q3 [PanQ] (a9Z : Int) (s8 : a8) (o : f8) (H : Hp) (K : f8 → a8 → Hp → Prop) : Prop :=
 K3 s8 a9Z H (fun d e f =>
 Y4 e f (fun g i j =>
 K3 i a9Z j (fun k l m =>
 ∀ (a : Sl) (b : Hp), Hle m b → SlH b 4 c8 a [d, k] → a.n ≤ a.c →
 K (f8.mk 3 g a (Sl.mk none 0 0)) l b)))
def a1i [PanQ] (x0 : a8) (x1 : Int) (H : Hp) (K : f8 → a8 → Hp → Prop) : Prop :=
 M2 x0 H (fun f g =>
 ((!f) = true →
 C3 x0 g (fun t =>
 Q3 x1 x0 (f8.mk 0 0 (Sl.mk none 0 0) (Sl.mk none 0 0)) t K)) ∧
 ((!f) = false →
 r8 x0 ⟨#[116, 114, 117, 101]⟩ g (fun i j k =>
 (i = true →
 K (f8.mk 1 0 (Sl.mk none 0 0) (Sl.mk none 0 0)) j k) ∧
 (i = false →
 r8 j ⟨#[102, 97, 108, 115, 101]⟩ k (fun l m o =>
 (l = true →
 K (f8.mk 2 0 (Sl.mk none 0 0) (Sl.mk none 0 0)) m o) ∧
 (l = false →
 r8 m ⟨#[33]⟩ o (fun p a q =>
 (p = true →
 M2 a q (fun u v =>
 A9 a (IntKind.wrap .i64 (x1 + 1)) u v (fun y =>
 S6 a (IntKind.wrap .i64 (x1 + 1)) y (fun z aa ab =>
 ∀ (b : Sl) (e : Hp), Hle ab e → SlH e 4 g9 b [z] → b.n ≤ b.c →
 K (f8.mk 4 0 (Sl.mk none 0 0) b) aa e)))) ∧
 (p = false →
 r8 a ⟨#[91]⟩ q (fun r d s =>
 (r = true →
 M2 d s (fun ac ad =>
 A9 d (IntKind.wrap .i64 (x1 + 1)) ac ad (fun ae =>
 K4 d (IntKind.wrap .i64 (x1 + 1)) ae (fun af ag ah =>
 A4 ag ⟨#[93]⟩ ah (fun ai aj =>
 K af ai aj))))) ∧
 (r = false →
 Q3 x1 d (f8.mk 0 0 (Sl.mk none 0 0) (Sl.mk none 0 0)) s K))))))))))
theorem a6w [PanQ] (x0 : a8) (x1 : Int) {H : Hp} {K : f8 → a8 → Hp → Prop} (h : a1i x0 x1 H K) : S6 x0 x1 H K := by
 intro g0
 refine Ct.ofE fun w0 w ps0 H0 R E I hR hE => c3l ?_
 unfold a1i at h
 unfold F89
 refine m7 I Tryz.zeroValue49 (cs := [(vi 0), (vi 0), (nS), (nS)]) rfl fun k bu ac bv => ?_
 have hj1 : ∀ (s8 : a8) H w (_ : Inv w0 ps0 H0 H [bx g0 101 (b6 s8), bx k 49 [(vi (f8.mk 0 0 (Sl.mk none 0 0) (Sl.mk none 0 0)).f7), (vi (f8.mk 0 0 (Sl.mk none 0 0) (Sl.mk none 0 0)).fOp), (Value.slice (f8.mk 0 0 (Sl.mk none 0 0) (Sl.mk none 0 0)).l8.a (f8.mk 0 0 (Sl.mk none 0 0) (Sl.mk none 0 0)).l8.n (f8.mk 0 0 (Sl.mk none 0 0) (Sl.mk none 0 0)).l8.c), (Value.slice (f8.mk 0 0 (Sl.mk none 0 0) (Sl.mk none 0 0)).E2.a (f8.mk 0 0 (Sl.mk none 0 0) (Sl.mk none 0 0)).E2.n (f8.mk 0 0 (Sl.mk none 0 0) (Sl.mk none 0 0)).E2.c)]] w) (_ : Q3 x1 s8 (f8.mk 0 0 (Sl.mk none 0 0) (Sl.mk none 0 0)) H K), b3X (Value.pointer (some ⟨g0, 0, none⟩)) (vi x1) (Value.pointer (some ⟨k, 0, none⟩)) w R E := by
  intro s8 H w I h
  unfold b3X
  intro _
  unfold Q3 at h
  refine u6 hE Tryz.call35 (h g0) I ?_
  rintro _ _ _ bw ad _ _ ⟨j, bz, rfl, rfl, h⟩
  refine m7 ad Tryz.zeroValue40 (cs := [(vi 0), (vi 0), (eS), (nS)]) rfl fun ca cb ae cc => ?_
  refine g6 ae Tryz.sizeOf40 (vs := (c8 j)) (cs' := (c8 j)) rfl rfl (nb rfl) rfl rfl fun cd af ce => ?_
  refine u6 hE Tryz.call126 (h g0) (af.bring 1) ?_
  rintro _ _ _ cf ag _ _ ⟨g, ah, rfl, rfl, h⟩
  refine U3 ag fun cg i => ?_
  refine A0 (lW Tryz.isAgg40 Tryz.sizeOf40 rfl (i.bring 1)) ?_
  refine u6 hE Tryz.call35 (h g0) i ?_
  rintro _ _ _ ch ai _ aj ⟨ak, al, rfl, rfl, h⟩
  refine ⟨(aj _ (i.bring 1).lt1 (Inv.Y1 (Fi := [bx g0 101 (b6 ah)]) ((i.bring 1).bring 1))), ?_⟩
  refine U4 (e := 40) (c := c8) (xs := [j, ak]) ai (a9i _ _ _ _ _ _ _ _ _ _ _ _) rfl rfl M6 M7 (nb rfl) fun d ci cj am an ck => ?_
  refine o8 (b0B _ _ _ _ _) ?_
  refine g6 (an.bring 3) Tryz.sizeOf49 (vs := [(vi 3), (vi g), (vs d), (nS)]) (cs' := [(vi 3), (vi g), (vs d), (nS)]) rfl rfl (nb rfl) rfl rfl fun cl l cm => ?_
  refine u1 Tryz.isAgg49 Tryz.sizeOf49 rfl (l.at1 (o := 0) (vs := [(vi 3), (vi g), (vs d), (nS)]) (nb rfl) rfl) ?_
  obtain ⟨m, ao, ap, aq, ar⟩ := Inv.freezeC (l.bring 1) am (by decide)
  replace h := h d m ap aq ar
  exact hR _ m _ _ (ao.drop.bring 1).drop ⟨(f8.mk 3 g d (Sl.mk none 0 0)), al, rfl, rfl, h⟩
 refine u7 fun j1 hx1 => ?_
 refine g8 Tryz.call125 (h g0) (ac.bring 1) ?_
 rintro _ _ _ cn p _ _ ⟨co, rfl, rfl, h⟩
 refine a7 (T8 _) ?_
 refine m8 h (fun _ h => ?_) (fun _ h => ?_)
 ·refine u6 hE Tryz.call52 (h g0) p ?_
  rintro _ au _ cp av _ _ ⟨rfl, rfl, h⟩
  exact hx1 _ _ (hj1 x0 au _ ((av.bring 1).bring 1) h)
 ·refine g8 Tryz.call105 (h g0) p ?_
  rintro _ aw _ cq q _ _ ⟨cr, ax, rfl, rfl, h⟩
  refine m8 h (fun _ h => ?_) (fun _ h => ?_)
  ·refine a7 (a9M _) ?_
   refine g6 (q.bring 1) Tryz.sizeOf49 (vs := [(vi 1), (vi 0), (nS), (nS)]) (cs' := [(vi 1), (vi 0), (nS), (nS)]) rfl rfl (nb rfl) rfl rfl fun ct r cu => ?_
   refine u1 Tryz.isAgg49 Tryz.sizeOf49 rfl (r.at1 (o := 0) (vs := [(vi 1), (vi 0), (nS), (nS)]) (nb rfl) rfl) ?_
   exact hR _ aw _ _ r.drop ⟨(f8.mk 1 0 (Sl.mk none 0 0) (Sl.mk none 0 0)), ax, rfl, rfl, h⟩
  ·refine g8 Tryz.call105 (h g0) q ?_
   rintro _ ay _ cv s _ _ ⟨cw, az, rfl, rfl, h⟩
   refine m8 h (fun _ h => ?_) (fun _ h => ?_)
   ·refine a7 (a9M _) ?_
    refine g6 (s.bring 1) Tryz.sizeOf49 (vs := [(vi 2), (vi 0), (nS), (nS)]) (cs' := [(vi 2), (vi 0), (nS), (nS)]) rfl rfl (nb rfl) rfl rfl fun cx t cy => ?_
    refine u1 Tryz.isAgg49 Tryz.sizeOf49 rfl (t.at1 (o := 0) (vs := [(vi 2), (vi 0), (nS), (nS)]) (nb rfl) rfl) ?_
    exact hR _ ay _ _ t.drop ⟨(f8.mk 2 0 (Sl.mk none 0 0) (Sl.mk none 0 0)), az, rfl, rfl, h⟩
   ·refine g8 Tryz.call105 (h g0) s ?_
    rintro _ _ _ cz u _ _ ⟨da, db, rfl, rfl, h⟩
    refine m8 h (fun _ h => ?_) (fun _ h => ?_)
    ·refine a7 pAd ?_
     refine g8 Tryz.call125 (h g0) u ?_
     rintro _ _ _ dc ba _ _ ⟨dd, rfl, rfl, h⟩
     refine u6 hE Tryz.call55 (h g0) ba ?_
     rintro _ _ _ de bb _ _ ⟨rfl, rfl, h⟩
     refine a7 pAd ?_
     refine u6 hE Tryz.call89 (h g0) bb ?_
     rintro _ _ _ df bc _ _ ⟨bd, be, rfl, rfl, h⟩
     refine U4 (e := 49) (c := g9) (xs := [bd]) bc (a7B _ _ _ _ _ _ _ _) rfl rfl R6 R7 (nb rfl) fun f dg dh bf bg di => ?_
     refine a7 (a4t _ _ _ _) ?_
     refine g6 (bg.bring 2) Tryz.sizeOf49 (vs := [(vi 4), (vi 0), (nS), (vs f)]) (cs' := [(vi 4), (vi 0), (nS), (vs f)]) rfl rfl (nb rfl) rfl rfl fun dj v dk => ?_
     refine u1 Tryz.isAgg49 Tryz.sizeOf49 rfl (v.at1 (o := 0) (vs := [(vi 4), (vi 0), (nS), (vs f)]) (nb rfl) rfl) ?_
     obtain ⟨y, bh, bi, bj, bk⟩ := Inv.freezeC (v.bring 1) bf (by decide)
     replace h := h f y bi bj bk
     exact hR _ y _ _ bh.drop ⟨(f8.mk 4 0 (Sl.mk none 0 0) f), be, rfl, rfl, h⟩
    ·refine g8 Tryz.call105 (h g0) u ?_
     rintro _ bl _ dl z _ _ ⟨dm, bm, rfl, rfl, h⟩
     refine m8 h (fun _ h => ?_) (fun _ h => ?_)
     ·refine a7 pAd ?_
      refine g8 Tryz.call125 (h g0) z ?_
      rintro _ _ _ dn bn _ _ ⟨dp, rfl, rfl, h⟩
      refine u6 hE Tryz.call55 (h g0) bn ?_
      rintro _ _ _ dq bo _ _ ⟨rfl, rfl, h⟩
      refine a7 pAd ?_
      refine u6 hE Tryz.call41 (h g0) bo ?_
      rintro _ _ _ dr bp _ _ ⟨b, ds, rfl, rfl, h⟩
      refine m7 bp Tryz.zeroValue49 (cs := [(vi 0), (vi 0), (nS), (nS)]) rfl fun dt du bq dv => ?_
      refine g6 bq Tryz.sizeOf49 (vs := (g9 b)) (cs' := (g9 b)) rfl rfl (nb rfl) rfl rfl fun dw br dx => ?_
      refine u6 hE Tryz.call103 (h g0) (br.bring 1) ?_
      rintro _ bs _ dy aa _ _ ⟨bt, rfl, rfl, h⟩
      refine g7 (lW Tryz.isAgg49 Tryz.sizeOf49 rfl (aa.bring 1)) ?_
      refine g6 (aa.bring 2) Tryz.sizeOf49 (vs := (g9 b)) (cs' := (g9 b)) rfl rfl (nb rfl) rfl rfl fun dz ab ea => ?_
      refine u1 Tryz.isAgg49 Tryz.sizeOf49 rfl (ab.at1 (o := 0) (vs := (g9 b)) (nb rfl) rfl) ?_
      exact hR _ bs _ _ (ab.drop.bring 1).drop ⟨b, bt, rfl, rfl, h⟩
     ·exact hx1 _ _ (hj1 bm bl _ ((z.bring 1).bring 1) h)
def a1u (x0 : d6) (a : (List b5)) (H : Hp) (K : ByteArray → Hp → Prop) : Prop :=
 (0 : Int) ≤ x0.fn ∧ (x0.fn : Int) ≤ x0.fs.size ∧
 K (x0.fs.extract (x0.fn : Int).toNat x0.fs.size) H
theorem a6Q (x0 b) {H K} (h : a1u x0 b H K) : Q2 x0 b H K := by
 intro g0 e f g
 refine Ct.of fun w0 w ps0 H0 R E I hR => c0V ?_
 unfold a1u at h
 unfold c3I
 refine U3 I fun i a => ?_
 refine o8 (q7 _) ?_
 refine o8 a4q ?_
 refine o8 (q7 _) ?_
 refine o8 U2 ?_
 refine A0 (l1 Tryz.isAgg9 a rfl) ?_
 refine A0 (l1 Tryz.isAgg3 a rfl) ?_
 obtain ⟨c, d, h⟩ := h
 refine o8 (b5n x0.fs Tryz.underlying9 c d) ?_
 exact hR _ H _ _ ((a.bring 1).bring 1) ⟨(x0.fs.extract (x0.fn : Int).toNat x0.fs.size), rfl, rfl, h⟩
def W3 (x0 : ByteArray) (x1 : ByteArray) (H : Hp) (K : Bool → Hp → Prop) : Prop :=
 ((decide ((x1.size : Int) ≤ (x0.size : Int))) = true → (0 : Int) ≤ (x1.size : Int) ∧ ((x1.size : Int) : Int) ≤ x0.size) ∧
 K ((decide ((x1.size : Int) ≤ (x0.size : Int))) && (decide ((x0.extract 0 ((x1.size : Int) : Int).toNat) = x1))) H
theorem a4z (x0 x1) {H K} (h : W3 x0 x1 H K) : a1r x0 x1 H K := by
 refine Ct.of fun w0 w ps0 H0 R E I hR => c1h ?_
 unfold W3 at h
 unfold c3U
 refine a7 (a5o _) (a7 (a5o _) (a7 pGe ?_))
 simp only [C9]
 refine a7 (Pu.g fun a => by simp only [m6 a]; with_reducible exact (a5o _)) ?_
 obtain ⟨b, h⟩ := h
 refine a7 (Pu.g fun hb => by have a := hb; simp only [m6 a]; with_reducible exact (b5o x0 Tryz.underlying9 (b hb).1 (b hb).2)) ?_
 refine a7 (Pu.g fun a => by simp only [m6 a]; with_reducible exact (R5 _ _ _ _ _)) ?_
 refine a7 (I0 _ _) ?_
 exact hR _ H _ _ I ⟨((decide ((x1.size : Int) ≤ (x0.size : Int))) && (decide ((x0.extract 0 ((x1.size : Int) : Int).toNat) = x1))), rfl, rfl, h⟩
def a3o (x0 : ByteArray) (x1 : ByteArray) (H : Hp) (K : Bool → Hp → Prop) : Prop :=
 a1r x0 x1 H (fun a b =>
 K a b)
theorem a8w (x0 x1) {H K} (h : a3o x0 x1 H K) : a1L x0 x1 H K := by
 refine Ct.of fun w0 w ps0 H0 R E I hR => c0U ?_
 unfold a3o at h
 unfold c3H
 refine g8 Tryz.call153 h I ?_
 rintro _ a _ d b _ _ ⟨c, rfl, rfl, h⟩
 exact hR _ a _ _ b ⟨c, rfl, rfl, h⟩
def Y5 (a : a0z) (s8 : a8) (H : Hp) (K : Int → a8 → Hp → Prop) : Prop :=
 K 0 s8 H
def S7 (A5 : Sl) (a3I : Int) (a : a0z) (r9 : Int) (m5 : a8) (H : Hp) (n2 : (Int × a8) → Hp → Prop) (K : Int → a8 → Hp → Prop) : Prop :=
 (r9 < a3I →
 (0 : Int) ≤ r9 ∧ (r9 : Int) < A5.n ∧ ∃ c : ByteArray, EltH H A5 r9 1 [(Value.string c)] ∧
 r8 m5 c H (fun d e b =>
 (d = true →
 (0 : Int) ≤ r9 ∧ (r9 : Int) < a.fkinds.n ∧ ∃ f : Int, EltH b a.fkinds r9 1 [(vi f)] ∧
 K f e b) ∧
 (d = false →
 n2 ((IntKind.wrap .i64 (r9 + 1)), e) b))) ∧
 (¬ (r9 < a3I) →
 Y5 a m5 H K)
def a0C (x0 : a8) (x1 : a0z) (H : Hp) (K : Int → a8 → Hp → Prop) : Prop :=
 TL ((0, x0) : Int × a8) H fun (s : Int × a8) H n2 => S7 x1.fsigns (x1.fsigns.n : Int) x1 s.1 s.2 H n2 K
theorem a5X (x0 x1) {H K} (h : a0C x0 x1 H K) : a0B x0 x1 H K := by
 intro g0
 refine Ct.of fun w0 w ps0 H0 R E I hR => c0N ?_
 unfold a0C at h
 unfold c3A
 refine Y0 I (cs := (S4 x1)) rfl fun j ae k af => ?_
 have hj1 : ∀ (s8 : a8) H w (_ : Inv w0 ps0 H0 H [bx j 139 (S4 x1), bx g0 101 (b6 s8)] w) (_ : Y5 x1 s8 H K), b1x w R E := by
  intro s8 H w I h
  unfold b1x
  intro _
  unfold Y5 at h
  exact hR _ H _ _ I.drop ⟨0, s8, rfl, rfl, h⟩
 refine u7 fun j1 hx1 => ?_
 refine a7 b4Y (g7 (l1 Tryz.isAgg77 k rfl) (a7 (b7x _ _ _) ?_))
 obtain ⟨e, c, q, r⟩ := h
 refine E8 (J := fun n l w => ∃ (s : Int × a8) (H : Hp) , n = c s ∧ l = (match s with | (r9, m5) => [(vi r9)]) ∧ (match s with | (r9, m5) => Inv w0 ps0 H0 H [bx j 139 (S4 x1), bx g0 101 (b6 m5)] w) ∧ e s H) ⟨_, (0, x0), H, rfl, rfl, ((k.bring 1).bring 1), q⟩ ?_
 rintro ag ah w next2 ⟨⟨r9, m5⟩, H, rfl, f, I, t⟩ hn2
 dsimp only at f I
 simp only [List.map_cons, List.map_nil, List.cons.injEq, and_true] at f
 have e10 := f
 simp only [e10]
 obtain ⟨n2, hm2, h⟩ : ∃ n2 : (Int × a8) → Hp → Prop, (∀ s' H', n2 s' H' → e s' H' ∧ c s' < c (r9, m5)) ∧ S7 x1.fsigns (x1.fsigns.n : Int) x1 r9 m5 H n2 K := ⟨_, fun _ _ h => h, r (r9, m5) H (fun s' H' => e s' H' ∧ c s' < c (r9, m5)) t (fun _ _ a b => ⟨a, b⟩)⟩
 unfold b5x
 unfold S7 at h
 refine a7 pLs ?_
 refine j9 h (fun _ h => ?_) (fun _ h => ?_)
 ·obtain ⟨u, y, z, g, h⟩ := h
  obtain ⟨ai, aj, aa, g⟩ := g
  refine a7 (b3C aa _ _ _ _ u y) (g7 (ld1 (v := (Value.string z)) Tryz.isAgg9 (I.atH g)) ?_)
  refine g8 Tryz.call105 (h g0) (I.bring 1) ?_
  rintro _ m _ ak d _ _ ⟨al, o, rfl, rfl, h⟩
  refine m8 h (fun _ h => ?_) (fun _ h => ?_)
  ·refine a7 b4Z (g7 (l1 Tryz.isAgg137 (d.bring 1) rfl) ?_)
   obtain ⟨ab, ac, p, i, h⟩ := h
   obtain ⟨am, an, ad, i⟩ := i
   refine a7 (b7y ad _ _ _ _ ab ac) (g7 (ld1 (v := (vi p)) Tryz.isAgg3 (d.atH i)) ?_)
   exact hR _ m _ _ (d.bring 1).drop ⟨p, o, rfl, rfl, h⟩
  ·refine a7 pAd ?_
   exact hn2 _ _ _ (hm2 _ _ h).2 ⟨((IntKind.wrap .i64 (r9 + 1)), o), m, rfl, rfl, (d.bring 1), (hm2 _ _ h).1⟩
 ·exact hx1 _ _ (hj1 m5 H _ ((I.bring 1).bring 1) h)
def y5 (U1 : Int) (q9 : ByteArray) (r7 : Int) (u2 : b9) (B0 : (List b5)) (H : Hp) (K : ByteArray → d6 → (List b5) → Hp → Prop) : Prop :=
 (0 : Int) ≤ U1 ∧ (U1 : Int) ≤ r7 ∧ (r7 : Int) ≤ q9.size ∧
 K (q9.extract (U1 : Int).toNat (r7 : Int).toNat) (d6.mk q9 r7 u2 (Sl.mk none 0 0)) B0 H
def C1 (b0a : Int) (E7 : Int) (v6 : Bool) (m9 : ByteArray) (o0 : Int) (l9 : b9) (m1 : (List b5)) (H : Hp) (n2 : (Int × Bool × ByteArray × Int × b9 × (List b5)) → Hp → Prop) (K : ByteArray → d6 → (List b5) → Hp → Prop) : Prop :=
 TG (v6 = true) (a1K E7 H) false H (fun (b : Bool) (c : Hp) =>
 ((v6 && b) = true →
 y7 (d6.mk m9 o0 l9 (Sl.mk none 0 0)) m1 c (fun a d e =>
 u4 (p6 a) d e (fun f g i =>
 n2 (f, g, a.fs, a.fn, a.fat, d) i))) ∧
 ((v6 && b) = false →
 y5 b0a m9 o0 l9 m1 c K))
def M5 (x0 : d6) (a : (List b5)) (H : Hp) (K : ByteArray → d6 → (List b5) → Hp → Prop) : Prop :=
 u4 (p6 x0) a H (fun b c d =>
 TL ((b, c, x0.fs, x0.fn, x0.fat, a) : Int × Bool × ByteArray × Int × b9 × (List b5)) d fun (s : Int × Bool × ByteArray × Int × b9 × (List b5)) H n2 => C1 x0.fn s.1 s.2.1 s.2.2.1 s.2.2.2.1 s.2.2.2.2.1 s.2.2.2.2.2 H n2 K)
theorem a1V (x0 q) {H K} (h : M5 x0 q H K) : M4 x0 q H K := by
 intro g0 y z aa
 refine Ct.of fun w0 w ps0 H0 R E I hR => a9j ?_
 unfold M5 at h
 unfold b4b
 refine a7 (q7 _) (a7 U2 (g7 (l1 Tryz.isAgg3 I rfl) ?_))
 have hj1 : ∀ (q9 : ByteArray) (r7 : Int) (u2 : b9) (B0 : (List b5)) (R4 : Sl) (K5 : Frag) H w (_ : RowL 103 5 d8 R4 B0 K5) (_ : Inv w0 ps0 H0 H [bx g0 155 [(Value.string q9), (vi r7), (vi u2.v7), (vi u2.C8), (vs R4)], K5] w) (_ : y5 x0.fn q9 r7 u2 B0 H K), a3Z (Value.pointer (some ⟨g0, 0, none⟩)) (vi x0.fn) w R E := by
  intro q9 r7 u2 B0 R4 K5 H w a2q I h
  unfold a3Z
  intro _
  unfold y5 at h
  refine U3 I fun ax r => ?_
  refine o8 (q7 _) ?_
  refine o8 a4q ?_
  refine o8 (q7 _) ?_
  refine o8 U2 ?_
  refine A0 (l1 Tryz.isAgg9 r rfl) ?_
  refine A0 (l1 Tryz.isAgg3 r rfl) ?_
  obtain ⟨ak, al, am, h⟩ := h
  refine o8 (a7R q9 Tryz.underlying9 ak al am) ?_
  exact hR _ H _ _ ((r.bring 1).bring 1) ⟨(q9.extract (x0.fn : Int).toNat (r7 : Int).toNat), (d6.mk q9 r7 u2 (Sl.mk none 0 0)), B0, R4, K5, rfl, rfl, a2q, h⟩
 refine u7 fun j1 hx1 => ?_
 refine g8 Tryz.call100 (h g0 y z aa) ((I.bring 1).bring 1) ?_
 rintro _ an _ ay ao _ _ ⟨ab, ac, rfl, rfl, h⟩
 refine a7 (j7 _ _ (Value.int .i32 ab) rfl) (a7 (j7 _ _ (vB ac) rfl) ?_)
 obtain ⟨t, g, ap, aq⟩ := h
 refine E8 (J := fun n l w => ∃ (s : Int × Bool × ByteArray × Int × b9 × (List b5)) (H : Hp) (G1 : Sl) (C2 : Frag) , n = g s ∧ l = (match s with | (E7, v6, m9, o0, l9, m1) => [(Value.int .i32 E7), (vB v6)]) ∧ (match s with | (E7, v6, m9, o0, l9, m1) => RowL 103 5 d8 G1 m1 C2) ∧ (match s with | (E7, v6, m9, o0, l9, m1) => Inv w0 ps0 H0 H [bx g0 155 [(Value.string m9), (vi o0), (vi l9.v7), (vi l9.C8), (vs G1)], C2] w) ∧ t s H) ⟨_, (ab, ac, x0.fs, x0.fn, x0.fat, q), an, y, z, rfl, rfl, aa, ((ao.bring 1).bring 1), ap⟩ ?_
 rintro az ba w next2 ⟨⟨E7, v6, m9, o0, l9, m1⟩, H, G1, C2, rfl, u, O0, I, ar⟩ hn2
 dsimp only at u I O0
 simp only [List.map_cons, List.map_nil, List.cons.injEq, and_true] at u
 obtain ⟨e6, e7⟩ := u
 simp only [e6, e7]
 obtain ⟨n2, hm2, h⟩ : ∃ n2 : (Int × Bool × ByteArray × Int × b9 × (List b5)) → Hp → Prop, (∀ s' H', n2 s' H' → t s' H' ∧ g s' < g (E7, v6, m9, o0, l9, m1)) ∧ C1 x0.fn E7 v6 m9 o0 l9 m1 H n2 K := ⟨_, fun _ _ h => h, aq (E7, v6, m9, o0, l9, m1) H (fun s' H' => t s' H' ∧ g s' < g (E7, v6, m9, o0, l9, m1)) ar (fun _ _ a b => ⟨a, b⟩)⟩
 unfold a7F
 unfold C1 at h
 simp only [C9]
 refine O5 (D := fun ad j => ∃ (f : Bool) (c : Hp) , ad = (gv v6 true (vB f)) ∧ (Inv w0 ps0 H0 c [bx g0 155 [(Value.string m9), (vi o0), (vi l9.v7), (vi l9.C8), (vs G1)], C2] j) ∧ (∀ i, i < w.heap.size → ¬ inF [] i → j.heap[i]? = w.heap[i]?) ∧ Hle H c ∧ (((v6 && f) = true →
 y7 (d6.mk m9 o0 l9 (Sl.mk none 0 0)) m1 c (fun (d : d6) (k : (List b5)) (au : Hp) =>
 u4 (p6 d) k au (fun (m : Int) (o : Bool) (v : Hp) =>
 n2 (m, o, d.fs, d.fn, d.fat, k) v))) ∧
 ((v6 && f) = false →
 y5 x0.fn m9 o0 l9 m1 c K))) (fun e => ?_) (fun e => ?_) ?_
 ·replace h := h.1 e
  have ae := e
  simp only [m6 ae]
  refine g8 Tryz.call154 h I ?_
  rintro _ c _ j p af ag ⟨f, rfl, rfl, h⟩
  exact ⟨f, c, by rfl, p, ag, af, h⟩
 ·exact ⟨false, H, by rw [X9 e], I, fun _ _ _ => rfl, Hle.refl _, h.2 e⟩
 ·clear h
  rintro ad j ⟨f, c, rfl, p, ag, af, h⟩
  refine a7 (I0 _ _) ?_
  refine m8 h (fun _ h => ?_) (fun _ h => ?_)
  ·refine g8 Tryz.call152 (h g0 G1 C2 O0) ((p.bring 1).bring 1) ?_
   rintro _ _ _ bb av _ _ ⟨d, k, ah, ai, rfl, rfl, aj, h⟩
   refine g8 Tryz.call100 (h g0 ah ai aj) ((av.bring 1).bring 1) ?_
   rintro _ v _ bc aw _ _ ⟨m, o, rfl, rfl, h⟩
   refine a7 (j7 _ _ (Value.int .i32 m) rfl) (a7 (j7 _ _ (vB o) rfl) ?_)
   exact hn2 _ _ _ (hm2 _ _ h).2 ⟨(m, o, d.fs, d.fn, d.fat, k), v, ah, ai, rfl, rfl, aj, ((aw.bring 1).bring 1), (hm2 _ _ h).1⟩
  ·exact hx1 _ _ (hj1 m9 o0 l9 m1 G1 C2 c _ O0 ((p.bring 1).bring 1) h)
def V2 (a : b5) (q9 : ByteArray) (r7 : Int) (u2 : b9) (B0 : (List b5)) (b : b5) (H : Hp) (K : b5 → Int → d6 → (List b5) → Hp → Prop) : Prop :=
 K a 0 (d6.mk q9 r7 u2 (Sl.mk none 0 0)) B0 H
def a1v (x0 : d6) (i : (List b5)) (H : Hp) (K : b5 → Int → d6 → (List b5) → Hp → Prop) : Prop :=
 M4 (p6 x0) i H (fun b a c j =>
 Y9 b j (fun d e =>
 (d = true →
 V2 (b5.mk 3 b 0 (b9.mk 0 0)) a.fs a.fn a.fat c (b5.mk 0 ⟨#[]⟩ 0 (b9.mk 0 0)) e K) ∧
 (d = false →
 a1b b e (fun f g =>
 (f = true →
 K (b5.mk 1 b 0 (b9.mk 0 0)) 22 (p6 a) c g) ∧
 (f = false →
 V2 (b5.mk 1 b 0 (b9.mk 0 0)) a.fs a.fn a.fat c (b5.mk 0 ⟨#[]⟩ 0 (b9.mk 0 0)) g K)))))
theorem a6R (x0 j) {H K} (h : a1v x0 j H K) : a3B x0 j H K := by
 intro g0 s t u
 refine Ct.of fun w0 w ps0 H0 R E I hR => c0X ?_
 unfold a1v at h
 unfold c3K
 refine m7 I Tryz.zeroValue103 (cs := [(vi 0), (eS), (vi 0), (vi 0), (vi 0)]) rfl fun k ac v ad => ?_
 refine g8 Tryz.call133 (h g0 s t u) ((v.bring 2).bring 2) ?_
 rintro _ _ _ ae y _ _ ⟨a, b, d, e, f, rfl, rfl, l, h⟩
 refine a7 (a3X _ _) ?_
 refine m7 y Tryz.zeroValue103 (cs := [(vi 0), (eS), (vi 0), (vi 0), (vi 0)]) rfl fun m af z ag => ?_
 refine g6 z Tryz.sizeOf103 (vs := [(vi 1), (Value.string a), (vi 0), (vi 0), (vi 0)]) (cs' := [(vi 1), (Value.string a), (vi 0), (vi 0), (vi 0)]) rfl rfl (nb rfl) rfl rfl fun ah n ai => ?_
 have hj1 : ∀ (c : b5) (q9 : ByteArray) (r7 : Int) (u2 : b9) H w (_ : Inv w0 ps0 H0 H [bx m 103 (d8 c), bx g0 155 [(Value.string q9), (vi r7), (vi u2.v7), (vi u2.C8), (vs e)], bx k 103 [(vi (b5.mk 0 ⟨#[]⟩ 0 (b9.mk 0 0)).f7), (Value.string (b5.mk 0 ⟨#[]⟩ 0 (b9.mk 0 0)).A8), (vi (b5.mk 0 ⟨#[]⟩ 0 (b9.mk 0 0)).N6), (vi (b5.mk 0 ⟨#[]⟩ 0 (b9.mk 0 0)).fAt.v7), (vi (b5.mk 0 ⟨#[]⟩ 0 (b9.mk 0 0)).fAt.C8)], f] w) (_ : V2 c q9 r7 u2 d (b5.mk 0 ⟨#[]⟩ 0 (b9.mk 0 0)) H K), b1E (Value.pointer (some ⟨k, 0, none⟩)) (Value.pointer (some ⟨m, 0, none⟩)) w R E := by
  intro c q9 r7 u2 H w I h
  unfold b1E
  intro _
  unfold V2 at h
  refine g7 (lW Tryz.isAgg103 Tryz.sizeOf103 rfl I) ?_
  refine g6 (I.bring 2) Tryz.sizeOf103 (vs := (d8 c)) (cs' := (d8 c)) rfl rfl (nb rfl) rfl rfl fun aj p ak => ?_
  refine u1 Tryz.isAgg103 Tryz.sizeOf103 rfl (p.at1 (o := 0) (vs := (d8 c)) (nb rfl) rfl) ?_
  exact hR _ H _ _ ((p.drop.drop.bring 1).bring 1) ⟨c, 0, (d6.mk q9 r7 u2 (Sl.mk none 0 0)), d, e, f, rfl, rfl, l, h⟩
 refine u7 fun j1 hx1 => ?_
 refine a7 Q6 (g7 (l1 Tryz.isAgg9 n rfl) ?_)
 refine g8 Tryz.call155 h n ?_
 rintro _ aa _ al g _ _ ⟨am, rfl, rfl, h⟩
 refine m8 h (fun _ h => ?_) (fun _ h => ?_)
 ·refine a7 a0m ?_
  refine g6 g Tryz.sizeOf3 (vs := [(vi 3)]) (cs' := [(vi 3), (Value.string a), (vi 0), (vi 0), (vi 0)]) rfl rfl (nb rfl) rfl rfl fun an ab ao => ?_
  exact hx1 _ _ (hj1 (b5.mk 3 a 0 (b9.mk 0 0)) b.fs b.fn b.fat aa _ ((((ab.bring 2).bring 3).bring 3).bring 3) h)
 ·refine a7 Q6 (g7 (l1 Tryz.isAgg9 g rfl) ?_)
  refine g8 Tryz.call156 h g ?_
  rintro _ q _ ap i _ _ ⟨aq, rfl, rfl, h⟩
  refine m8 h (fun _ h => ?_) (fun _ h => ?_)
  ·refine g7 (ldA Tryz.isAgg103 Tryz.sizeOf103 rfl (i.at1 (o := 0) (vs := [(vi 1), (Value.string a), (vi 0), (vi 0), (vi 0)]) (nb rfl) rfl)) ?_
   refine g6 (i.bring 3) Tryz.sizeOf103 (vs := [(vi 1), (Value.string a), (vi 0), (vi 0), (vi 0)]) (cs' := [(vi 1), (Value.string a), (vi 0), (vi 0), (vi 0)]) rfl rfl (nb rfl) rfl rfl fun ar r au => ?_
   refine u1 Tryz.isAgg103 Tryz.sizeOf103 rfl (r.at1 (o := 0) (vs := [(vi 1), (Value.string a), (vi 0), (vi 0), (vi 0)]) (nb rfl) rfl) ?_
   exact hR _ q _ _ ((r.drop.drop.bring 1).bring 1) ⟨(b5.mk 1 a 0 (b9.mk 0 0)), 22, (p6 b), d, e, f, rfl, rfl, l, h⟩
  ·exact hx1 _ _ (hj1 (b5.mk 1 a 0 (b9.mk 0 0)) b.fs b.fn b.fat q _ ((((i.bring 2).bring 3).bring 3).bring 3) h)
def Z9 (x0 : Int) (H : Hp) (K : Bool → Hp → Prop) : Prop :=
 P0 x0 H (fun a b =>
 K (decide (a = 4)) b)
theorem a5v (x0) {H K} (h : Z9 x0 H K) : Z8 x0 H K := by
 refine Ct.of fun w0 w ps0 H0 R E I hR => c1l ?_
 unfold Z9 at h
 unfold c3Y
 refine g8 Tryz.call132 h I ?_
 rintro _ a _ d b _ _ ⟨c, rfl, rfl, h⟩
 refine a7 pEq ?_
 exact hR _ a _ _ b ⟨(decide (c = 4)), rfl, rfl, h⟩
def a2F (H : Hp) (K : b5 → Int → Hp → Prop) : Prop :=
 K (b5.mk 0 ⟨#[]⟩ 0 (b9.mk 0 0)) 20 H
theorem a5Y {H K} (h : a2F H K) : a5U H K := by
 refine Ct.of fun w0 w ps0 H0 R E I hR => c1a ?_
 unfold a2F at h
 unfold c3N
 refine m7 I Tryz.zeroValue103 (cs := [(vi 0), (eS), (vi 0), (vi 0), (vi 0)]) rfl fun c d b e => ?_
 refine a7 (b0E ) ?_
 refine g6 b Tryz.sizeOf103 (vs := [(vi 0), (eS), (vi 0), (vi 0), (vi 0)]) (cs' := [(vi 0), (eS), (vi 0), (vi 0), (vi 0)]) rfl rfl (nb rfl) rfl rfl fun f a g => ?_
 refine u1 Tryz.isAgg103 Tryz.sizeOf103 rfl (a.at1 (o := 0) (vs := [(vi 0), (eS), (vi 0), (vi 0), (vi 0)]) (nb rfl) rfl) ?_
 exact hR _ H _ _ a.drop ⟨(b5.mk 0 ⟨#[]⟩ 0 (b9.mk 0 0)), 20, rfl, rfl, h⟩
def D4 (c6Z : Int) (a9k : Bool) (a : F0) (H : Hp) (K : Bool → Hp → Prop) : Prop :=
 (a9k = true →
 K (decide (c6Z = 2)) H) ∧
 (a9k = false →
 K false H)
def N1 (b1S : Int) (a4a : Int) (a9l : Bool) (a : F0) (H : Hp) (K : Bool → Hp → Prop) : Prop :=
 (a9l = true →
 K (decide (b1S = 1)) H) ∧
 (a9l = false →
 (a4a = 6 →
 D4 b1S (decide (a4a = 6)) a H K) ∧
 (¬ (a4a = 6) →
 (a4a = 7 →
 D4 b1S (decide (a4a = 7)) a H K) ∧
 (¬ (a4a = 7) →
 (a4a = 8 →
 D4 b1S (decide (a4a = 8)) a H K) ∧
 (¬ (a4a = 8) →
 (a4a = 9 →
 D4 b1S (decide (a4a = 9)) a H K) ∧
 (¬ (a4a = 9) →
 D4 b1S (decide (a4a = 10)) a H K)))))
def N2 (a7Y : Int) (a4b : Int) (a9m : Bool) (a : F0) (H : Hp) (K : Bool → Hp → Prop) : Prop :=
 (a9m = true →
 K (decide (a7Y = 0)) H) ∧
 (a9m = false →
 (a4b = 4 →
 N1 a7Y a4b (decide (a4b = 4)) a H K) ∧
 (¬ (a4b = 4) →
 N1 a7Y a4b (decide (a4b = 5)) a H K))
def a1W (x0 : F0) (H : Hp) (K : Bool → Hp → Prop) : Prop :=
 a0A (d7.D1 x0) H (fun c b a =>
 ((((!decide (x0.s6.f7 = 1)) && (!decide (x0.s6.N6 = 0))) || ((!b) && (!decide (x0.s6.A7 = ⟨#[]⟩)))) = true →
 K false a) ∧
 ((((!decide (x0.s6.f7 = 1)) && (!decide (x0.s6.N6 = 0))) || ((!b) && (!decide (x0.s6.A7 = ⟨#[]⟩)))) = false →
 (x0.s6.f7 = 1 →
 K ((decide (0 ≤ x0.s6.N6)) && (decide ((x0.s6.E4.n : Int) = 0))) a) ∧
 (¬ (x0.s6.f7 = 1) →
 (x0.s6.f7 = 2 →
 N2 (x0.s6.E4.n : Int) x0.s6.f7 (decide (x0.s6.f7 = 2)) x0 a K) ∧
 (¬ (x0.s6.f7 = 2) →
 N2 (x0.s6.E4.n : Int) x0.s6.f7 (decide (x0.s6.f7 = 3)) x0 a K))))
theorem a7f (x0) {H K} (h : a1W x0 H K) : a1S x0 H K := by
 refine Ct.of fun w0 w ps0 H0 R E I hR => c1o ?_
 unfold a1W at h
 unfold c4b
 refine Y0 I (cs := (c8 x0.s6)) rfl fun f l i m => ?_
 refine a7 X8 (a7 a3S (g7 (l1 Tryz.isAgg38 i rfl) (a7 (a4E _ _ _) (g7 (lW Tryz.isAgg141 Tryz.sizeOf141 rfl i) ?_))))
 refine a7 (a5p x0) ?_
 refine g8 Tryz.call143 h i ?_
 rintro _ d _ o c _ _ ⟨j, k, rfl, rfl, h⟩
 refine a7 (j7 _ _ (Value.string j) rfl) (a7 (j7 _ _ (vB k) rfl) (a7 X8 (a7 a2f (g7 (l1 Tryz.isAgg3 c rfl) ?_))))
 refine a7 pNe ?_
 refine a7 (Pu.g fun a => by with_reducible exact X8) ?_
 refine a7 (Pu.g fun a => by simp only [m6 a]; with_reducible exact a6s) ?_
 refine g7 (Ld.g fun a => by simp only [m6 a]; exact (l1 Tryz.isAgg2 c rfl)) ?_
 refine a7 (Pu.g fun a => by simp only [m6 a]; with_reducible exact pNe) ?_
 refine a7 (I0 _ _) ?_
 simp only [C9]
 refine a7 (Pu.g fun a => by simp only [m6 a]; with_reducible exact (T8 _)) ?_
 simp only [b0t]
 refine a7 (Pu.e (a2b _ _ _) (Pu.g fun hb => by obtain ⟨a, b⟩ := a4s hb; with_reducible exact X8)) ?_
 refine a7 (Pu.e (a2b _ _ _) (Pu.g fun hb => by obtain ⟨a, b⟩ := a4s hb; simp only [m6 hb]; with_reducible exact b0C)) ?_
 refine g7 (Ld.e (a2b _ _ _) (Ld.g fun hb => by obtain ⟨a, b⟩ := a4s hb; simp only [m6 hb]; exact (l1 Tryz.isAgg9 c rfl))) ?_
 refine a7 (Pu.e (a2b _ _ _) (Pu.g fun hb => by obtain ⟨a, b⟩ := a4s hb; simp only [m6 hb]; with_reducible exact (c2q _ _ _ _ _))) ?_
 refine a7 (Pu.g fun a => by simp only [m6 a, b0s a]; with_reducible exact (I0 _ _)) ?_
 refine a7 (L0 _ _) ?_
 refine m8 h (fun _ h => ?_) (fun _ h => ?_)
 ·exact hR _ d _ _ c.drop ⟨false, rfl, rfl, h⟩
 ·refine a7 X8 (a7 a2f (g7 (l1 Tryz.isAgg3 c rfl) (a7 pEq ?_)))
  refine j9 h (fun _ h => ?_) (fun _ h => ?_)
  ·refine a7 X8 (a7 a6s (g7 (l1 Tryz.isAgg2 c rfl) (a7 pGe ?_)))
   simp only [C9]
   refine a7 (Pu.g fun a => by simp only [m6 a]; with_reducible exact pEq) ?_
   refine a7 (I0 _ _) ?_
   exact hR _ d _ _ c.drop ⟨((decide (0 ≤ x0.s6.N6)) && (decide ((x0.s6.E4.n : Int) = 0))), rfl, rfl, h⟩
  ·have hj1 : ∀ (a9m : Bool) H w (_ : Inv w0 ps0 H0 H [bx f 141 (c8 x0.s6)] w) (_ : N2 (x0.s6.E4.n : Int) x0.s6.f7 a9m x0 H K), b1M (vi (x0.s6.E4.n : Int)) (vi x0.s6.f7) (vB a9m) w R E := by
    intro a9m H w I h
    unfold b1M
    intro _
    unfold N2 at h
    refine m8 h (fun _ h => ?_) (fun _ h => ?_)
    ·refine a7 pEq ?_
     exact hR _ H _ _ I.drop ⟨(decide ((x0.s6.E4.n : Int) = 0)), rfl, rfl, h⟩
    ·have hj2 : ∀ (a9l : Bool) H w (_ : Inv w0 ps0 H0 H [bx f 141 (c8 x0.s6)] w) (_ : N1 (x0.s6.E4.n : Int) x0.s6.f7 a9l x0 H K), b1L (vi (x0.s6.E4.n : Int)) (vi x0.s6.f7) (vB a9l) w R E := by
      intro a9l H w I h
      unfold b1L
      intro _
      unfold N1 at h
      refine m8 h (fun _ h => ?_) (fun _ h => ?_)
      ·refine a7 pEq ?_
       exact hR _ H _ _ I.drop ⟨(decide ((x0.s6.E4.n : Int) = 1)), rfl, rfl, h⟩
      ·have hj3 : ∀ (a9k : Bool) H w (_ : Inv w0 ps0 H0 H [bx f 141 (c8 x0.s6)] w) (_ : D4 (x0.s6.E4.n : Int) a9k x0 H K), b1K (vi (x0.s6.E4.n : Int)) (vB a9k) w R E := by
        intro a9k H w I h
        unfold b1K
        intro _
        unfold D4 at h
        refine m8 h (fun _ h => ?_) (fun _ h => ?_)
        ·refine a7 pEq ?_
         exact hR _ H _ _ I.drop ⟨(decide ((x0.s6.E4.n : Int) = 2)), rfl, rfl, h⟩
        ·exact hR _ H _ _ I.drop ⟨false, rfl, rfl, h⟩
       refine u7 fun j3 hx3 => ?_
       refine a7 pEq ?_
       refine j9 h (fun _ h => ?_) (fun _ h => ?_)
       ·exact hx3 _ _ (hj3 (decide (x0.s6.f7 = 6)) H _ I h)
       ·refine a7 pEq ?_
        refine j9 h (fun _ h => ?_) (fun _ h => ?_)
        ·exact hx3 _ _ (hj3 (decide (x0.s6.f7 = 7)) H _ I h)
        ·refine a7 pEq ?_
         refine j9 h (fun _ h => ?_) (fun _ h => ?_)
         ·exact hx3 _ _ (hj3 (decide (x0.s6.f7 = 8)) H _ I h)
         ·refine a7 pEq ?_
          refine j9 h (fun _ h => ?_) (fun _ h => ?_)
          ·exact hx3 _ _ (hj3 (decide (x0.s6.f7 = 9)) H _ I h)
          ·refine a7 pEq ?_
           exact hx3 _ _ (hj3 (decide (x0.s6.f7 = 10)) H _ I h)
     refine u7 fun j2 hx2 => ?_
     refine a7 pEq ?_
     refine j9 h (fun _ h => ?_) (fun _ h => ?_)
     ·exact hx2 _ _ (hj2 (decide (x0.s6.f7 = 4)) H _ I h)
     ·refine a7 pEq ?_
      exact hx2 _ _ (hj2 (decide (x0.s6.f7 = 5)) H _ I h)
   refine u7 fun j1 hx1 => ?_
   refine a7 pEq ?_
   refine j9 h (fun _ h => ?_) (fun _ h => ?_)
   ·exact hx1 _ _ (hj1 (decide (x0.s6.f7 = 2)) d _ c h)
   ·refine a7 pEq ?_
    exact hx1 _ _ (hj1 (decide (x0.s6.f7 = 3)) d _ c h)
end Go.Proofs.YthklmeihgmcljaaGreatDoor
