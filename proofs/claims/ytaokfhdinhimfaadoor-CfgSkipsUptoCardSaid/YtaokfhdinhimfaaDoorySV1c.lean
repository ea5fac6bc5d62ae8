/- Typed formulas of the program's functions, and the theorems that the contracts follow from them; printed by lift.py off the code. -/
import Derived.Test.YtaokfhdinhimfaaDoorySV1
namespace Go.Proofs.YtaokfhdinhimfaaDoor
open Go.RowKit
set_option maxRecDepth 100000
set_option maxHeartbeats 2000000
def Z0 (b0b : (List (List Int))) (d : m0) (H : Hp) (K : Sl → Hp → Prop) : Prop :=
 ∀ (a : Sl) (b : Hp), Hle H b → SlHH b 1 C9 a b0b → a.n ≤ a.c →
 K a b
def Z1 (o7 : Sl) (T8 : Int) (c : m0) (a2o : (List (List Int))) (V0 : Int) (H : Hp) (n2 : ((List (List Int)) × Int) → Hp → Prop) (K : Sl → Hp → Prop) : Prop :=
 (V0 < T8 →
 (0 : Int) ≤ V0 ∧ (V0 : Int) < o7.n ∧ ∃ a : c6, EltH H o7 V0 10 (f6 a) ∧
 (0 : Int) ≤ a.u9 ∧ ∃ b : List Int, (a2o)[(a.u9 : Int).toNat]? = some b ∧
 (b.length + ([V0] : List Int).length) * 9 ≤ 140737488355328 ∧
 n2 ((a2o.set (a.u9 : Int).toNat (b ++ [V0])), (IntKind.wrap .i64 (V0 + 1))) H) ∧
 (¬ (V0 < T8) →
 Z0 a2o c H K)
def a3u (x0 : m0) (H : Hp) (K : Sl → Hp → Prop) : Prop :=
 (0 : Int) ≤ x0.f4 ∧ x0.f4 * 25 ≤ 140737488355328 ∧
 TL (((List.replicate (x0.f4 : Int).toNat ([] : List Int)), 0) : (List (List Int)) × Int) H fun (s : (List (List Int)) × Int) H n2 => Z1 x0.v7 (x0.v7.n : Int) x0 s.1 s.2 H n2 K
theorem a9d (x0 : m0) {H : Hp} {K : Sl → Hp → Prop} (h : a3u x0 H K) : a3o x0 H K := by
 refine Ct.of fun w0 w ps0 H0 R E I hR => b9H ?_
 unfold a3u at h
 unfold F15
 refine A5 I (cs := (j6 x0)) rfl fun z bm aa bn => ?_
 refine c5 K1 ?_
 refine c7 (l1 Tryd.isAgg3 aa rfl) ?_
 obtain ⟨ag, ah, h⟩ := h
 refine b9z aa ag ah fun g ai bo aj ab bp => ?_
 have hj1 : ∀ (b0b : (List (List Int))) (Fs3j1 : Frag) (H : Hp) (w : World) (_ : RowsL 49 3 1 C9 g b0b Fs3j1) (_ : Inv w0 ps0 H0 H [bx z 30 (j6 x0), Fs3j1] w) (_ : Z0 b0b x0 H K), b2b (vs g) w R E := by
  intro b0b Fs3j1 H w c1P I h
  unfold b2b
  intro _
  unfold Z0 at h
  obtain ⟨ac, ak, al, am, an⟩ := Inv.freezeLL (I.bring 1) c1P (by decide)
  replace h := h g ac al am an
  exact hR _ ac _ _ ak.drop ⟨g, rfl, rfl, h⟩
 refine p8 fun j1 hx1 => ?_
 refine c5 M8 ?_
 refine c7 (l1 Tryd.isAgg28 (ab.bring 1) rfl) ?_
 refine c5 (a3J _ _ _) ?_
 obtain ⟨o, i, ao, ap⟩ := h
 refine D1 (J := fun n l w => ∃ (s : (List (List Int)) × Int) (H : Hp) (Fs3l2 : Frag) , n = i s ∧ l = (match s with | (a2o, V0) => [(vi V0)]) ∧ (match s with | (a2o, V0) => RowsL 49 3 1 C9 g a2o Fs3l2) ∧ (match s with | (a2o, V0) => Inv w0 ps0 H0 H [bx z 30 (j6 x0), Fs3l2] w) ∧ o s H) ⟨_, ((List.replicate (x0.f4 : Int).toNat ([] : List Int)), 0), H, ai, rfl, rfl, (RowsL.made (e := 3) a2w a2x aj), (ab.bring 1), ao⟩ ?_
 rintro bq br w next2 ⟨⟨a2o, V0⟩, H, Fs3l2, rfl, p, b4z, I, aq⟩ hn2
 dsimp only at p I b4z
 simp only [List.map_cons, List.map_nil, List.cons.injEq, and_true] at p
 have e12 := p
 simp only [e12]
 obtain ⟨n2, hm2, h⟩ : ∃ n2 : ((List (List Int)) × Int) → Hp → Prop, (∀ s' H', n2 s' H' → o s' H' ∧ i s' < i (a2o, V0)) ∧ Z1 x0.v7 (x0.v7.n : Int) x0 a2o V0 H n2 K := ⟨_, fun _ _ h => h, ap (a2o, V0) H (fun s' H' => o s' H' ∧ i s' < i (a2o, V0)) aq (fun _ _ a b => ⟨a, b⟩)⟩
 unfold b5B
 unfold Z1 at h
 refine c5 (v8 _ _ _ _ _ _) ?_
 refine d6 h (fun _ h => ?_) (fun _ h => ?_)
 ·obtain ⟨ar, au, q, r, h⟩ := h
  obtain ⟨bs, bt, av, r⟩ := r
  refine c5 (a0X av _ _ _ _ ar au) ?_
  refine c7 (ldA (vs := (f6 q)) Tryd.isAgg46 Tryd.sizeOf46 rfl (I.atH r)) ?_
  refine o3 I Tryd.zeroValue46 (cs := [(vi 0), (vi 0), (vi 0), (vi 0), (vi 0), (vi 0), (vi 0), (vi 0), (vi 0), (vi 0)]) rfl fun bu bv aw bw => ?_
  refine o8 aw Tryd.sizeOf46 (vs := (f6 q)) fun bz ax ca => ?_
  refine L5 ax fun cb t => ?_
  refine d7 T4 ?_
  refine d7 T4 ?_
  refine o4 (l1 Tryd.isAgg3 t rfl) ?_
  refine o4 (l1 Tryd.isAgg3 t rfl) ?_
  obtain ⟨k, ad, ay, h⟩ := h
  obtain ⟨cc, ae, cd, ce, az, d, f, ba, bb, cf, j⟩ := RowsL.open_ b4z (t.bring 2) ay
  obtain ⟨cg, ch, u, ci⟩ := d.addr f
  refine d7 (a9v u _ _ _ _ k (d.lt k f)) ?_
  refine o4 (ld1 (v := (vs ae)) Tryd.isAgg49 (d.atW j u f)) ?_
  refine X8 (e := 3) (c := C9) (xs := [V0]) j (a5D _) rfl rfl a2w a2x (nb rfl) fun cj ck cl bc m y => ?_
  refine ⟨(y _ (RowL.b5f d j u)), (y _ (j.bring 3).lt1), (y _ (j.bring 3).lt1), ?_⟩
  obtain ⟨bd, h⟩ := h
  refine a8k (s := ae) (xs := ad) (m.bring 2) ba (bc.srcO ((m.bring 2).bring 1)) bd fun be bf cm bg bh bi => ?_
  refine ⟨(bi _ ((m.bring 2).bring 4).lt1 (Inv.b1E (((m.bring 2).bring 4).bring 1))), ?_⟩
  obtain ⟨cn, co, af, cp⟩ := d.addr f
  refine d7 (a9v af _ _ _ _ k (d.lt k f)) ?_
  refine a5B (x := be) ((bh.bring 1).drop.bring 1) d af (List.getElem?_eq_some_iff.1 f).1 Tryd.sizeOf49 rfl fun bj cq bk bl cr => ?_
  refine c5 (s6 _ _ _ _ _ _) ?_
  exact hn2 _ _ _ (hm2 _ _ h).2 ⟨((a2o.set (q.u9 : Int).toNat (ad ++ [V0])), (IntKind.wrap .i64 (V0 + 1))), H, (bj ++ (bf ++ az)), rfl, rfl, (RowsL.b5e bk bg bb), (((((bl.bring 2).bring 2).bring 2).b7E.bring 1).drop.bring 1), (hm2 _ _ h).1⟩
 ·exact hx1 _ _ (hj1 a2o Fs3l2 H _ b4z ((I.bring 1).bring 1) h)
def K4 (c2H : Int) (c1Q : Int) (a : (List Int)) (b : (List Bool)) (c : Sl) (d : m0) (H : Hp) (n2 : (Int × (List Int)) → Hp → Prop) (K : Sl → Int → Hp → Prop) : Prop :=
 n2 ((IntKind.wrap .i64 (c1Q + 1)), a) H
def V1 (e : (List Bool)) (f : Sl) (g : m0) (d : (List Int)) (H : Hp) (K : Sl → Int → Hp → Prop) : Prop :=
 ∀ (a : Sl) (b : Hp), Hle H b → SlH b 1 C9 a d → a.n ≤ a.c →
 K a 0 b
def V2 (b1p : Int) (a : (List Bool)) (c : Sl) (d : m0) (R9 : Int) (b : (List Int)) (H : Hp) (n2 : (Int × (List Int)) → Hp → Prop) (K : Sl → Int → Hp → Prop) : Prop :=
 (R9 < b1p →
 (0 : Int) ≤ R9 ∧ ∃ e : Bool, (a)[(R9 : Int).toNat]? = some e ∧
 ((!e) = true →
 (b.length + ([R9] : List Int).length) * 9 ≤ 140737488355328 ∧
 K4 b1p R9 (b ++ [R9]) a c d H n2 K) ∧
 ((!e) = false →
 K4 b1p R9 b a c d H n2 K)) ∧
 (¬ (R9 < b1p) →
 V1 a c d b H K)
def a2I (x0 : m0) (H : Hp) (K : Sl → Int → Hp → Prop) : Prop :=
 a2B x0 H (fun a b =>
 (¬ (a = 0) →
 K (Sl.mk none 0 0) a b) ∧
 (a = 0 →
 a3o x0 b (fun c d =>
 (0 : Int) ≤ x0.f4 ∧ x0.f4 * 2 ≤ 140737488355328 ∧
 Y1 0 (Sl.mk none 0 0) (List.replicate (x0.f4 : Int).toNat false) c x0 (Sl.mk none 0 0) [] d (fun i y0__71 j y1__71 e =>
 a0m y1__71 e (fun f g =>
 TL ((0, f) : Int × (List Int)) g fun (s : Int × (List Int)) H n2 => V2 x0.f4 y0__71 c x0 s.1 s.2 H n2 K)))))
theorem a8o (x0 : m0) {H : Hp} {K : Sl → Int → Hp → Prop} (h : a2I x0 H K) : a2C x0 H K := by
 refine Ct.of fun w0 w ps0 H0 R E I hR => c1M ?_
 unfold a2I at h
 unfold F9
 refine A5 I (cs := (j6 x0)) rfl fun i cc ag cd => ?_
 refine c7 (lW Tryd.isAgg30 Tryd.sizeOf30 rfl ag) ?_
 refine f7 Tryd.call14 h ag ?_
 rintro _ ar _ ce aa _ _ ⟨au, rfl, rfl, h⟩
 refine c5 (J9 _ _ _ _ _ _) ?_
 refine a7d h (fun _ h => ?_) (fun _ h => ?_)
 ·exact hR _ ar _ _ aa.drop ⟨(Sl.mk none 0 0), au, rfl, rfl, h⟩
 ·refine c7 (lW Tryd.isAgg30 Tryd.sizeOf30 rfl aa) ?_
  refine f7 Tryd.call15 h aa ?_
  rintro _ _ _ cf av _ _ ⟨m, rfl, rfl, h⟩
  refine o3 av Tryd.zeroValue63 (cs := [(Value.slice none 0 0)]) rfl fun j cg aw ch => ?_
  refine o8 aw Tryd.sizeOf63 (vs := [(vs m)]) fun ci ah cj => ?_
  refine c5 K1 ?_
  refine c7 (l1 Tryd.isAgg3 (ah.bring 1) rfl) ?_
  obtain ⟨ax, ay, h⟩ := h
  refine b9t ah ax ay fun ai az ck ba bb cl => ?_
  refine o3 bb Tryd.zeroValue65 (cs := [(Value.slice none 0 0)]) rfl fun g cm bc cn => ?_
  refine o8 bc Tryd.sizeOf65 (vs := [(vs ai)]) fun co bd cp => ?_
  refine o3 bd Tryd.zeroValue49 (cs := [(Value.slice none 0 0)]) rfl fun f cq be cr => ?_
  refine o3 be Tryd.zeroValue66 (cs := [Value.nilFunc]) rfl fun k ct bf cu => ?_
  refine c5 (a3y _ _ _) ?_
  refine o8 bf Tryd.sizeOf66 (vs := [(Value.func (.func 16) #[] #[(Value.pointer (some ⟨g, 0, none⟩)), (Value.pointer (some ⟨j, 0, none⟩)), (Value.pointer (some ⟨i, 0, none⟩)), (Value.pointer (some ⟨k, 0, none⟩)), (Value.pointer (some ⟨f, 0, none⟩))])]) fun cv aj cw => ?_
  refine c7 (l1 Tryd.isAgg66 aj rfl) ?_
  refine a2u (cap := [(Value.pointer (some ⟨g, 0, none⟩)), (Value.pointer (some ⟨j, 0, none⟩)), (Value.pointer (some ⟨i, 0, none⟩)), (Value.pointer (some ⟨k, 0, none⟩)), (Value.pointer (some ⟨f, 0, none⟩))]) Tryd.call16 (h g j i k f ai az (Sl.mk none 0 0) ([]) ba (RowL.nil (e := 3) a2w a2x)) ((((((aj.nil.bring 2).bring 2).bring 6).bring 6).bring 6).bring 6) ?_
  rintro _ _ _ cx ak _ _ ⟨cy, y0__71, cz, y1__71, sy0__71, Fy0__71, sy1__71, Fy1__71, rfl, rfl, hy0__71, hy1__71, h⟩
  refine c7 (l1 Tryd.isAgg49 (ak.bring 5) rfl) ?_
  refine f7 Tryd.call17 (h sy1__71 Fy1__71 hy1__71) (ak.bring 6) ?_
  rintro _ bg _ da al _ _ ⟨bh, bi, rfl, rfl, bj, h⟩
  have hj1 : ∀ (ab : (List Int)) (p : Sl) (ac : Frag) (H : Hp) (w : World) (_ : RowL 3 1 C9 p ab ac) (_ : Inv w0 ps0 H0 H [bx g 65 [(vs sy0__71)], bx j 63 [(vs m)], bx i 30 (j6 x0), bx k 66 [(Value.func (.func 16) #[] #[(Value.pointer (some ⟨g, 0, none⟩)), (Value.pointer (some ⟨j, 0, none⟩)), (Value.pointer (some ⟨i, 0, none⟩)), (Value.pointer (some ⟨k, 0, none⟩)), (Value.pointer (some ⟨f, 0, none⟩))])], bx f 49 [(vs p)], Fy0__71, ac] w) (_ : V1 y0__71 m x0 ab H K), b4s (Value.pointer (some ⟨f, 0, none⟩)) w R E := by
   intro ab p ac H w bk I h
   unfold b4s
   intro _
   unfold V1 at h
   refine c7 (l1 Tryd.isAgg49 (I.bring 4) rfl) ?_
   obtain ⟨am, bl, bm, bn, bo⟩ := Inv.freezeC (I.bring 6) bk (by decide)
   replace h := h p am bm bn bo
   exact hR _ am _ _ bl.drop.drop.drop.drop.drop.drop ⟨p, 0, rfl, rfl, h⟩
  refine p8 fun j1 hx1 => ?_
  refine c5 K1 ?_
  refine c7 (l1 Tryd.isAgg3 (al.bring 4) rfl) ?_
  obtain ⟨ad, q, bp, bq⟩ := h
  refine D1 (J := fun n l w => ∃ (s : Int × (List Int)) (H : Hp) (o : Sl) (r : Frag) , n = q s ∧ l = (match s with | (R9, d) => [(vi R9)]) ∧ (match s with | (R9, d) => RowL 3 1 C9 o d r) ∧ (match s with | (R9, d) => Inv w0 ps0 H0 H [bx g 65 [(vs sy0__71)], bx j 63 [(vs m)], bx i 30 (j6 x0), bx k 66 [(Value.func (.func 16) #[] #[(Value.pointer (some ⟨g, 0, none⟩)), (Value.pointer (some ⟨j, 0, none⟩)), (Value.pointer (some ⟨i, 0, none⟩)), (Value.pointer (some ⟨k, 0, none⟩)), (Value.pointer (some ⟨f, 0, none⟩))])], bx f 49 [(vs o)], Fy0__71, r] w) ∧ ad s H) ⟨_, (0, bh), bg, sy1__71, bi, rfl, rfl, bj, ((((((al.bring 2).bring 6).bring 6).bring 6).bring 6).bring 6), bp⟩ ?_
  rintro db dc w next2 ⟨⟨R9, d⟩, H, o, r, rfl, ae, t, I, br⟩ hn2
  dsimp only at ae I t
  simp only [List.map_cons, List.map_nil, List.cons.injEq, and_true] at ae
  have e27 := ae
  simp only [e27]
  obtain ⟨n2, hm2, h⟩ : ∃ n2 : (Int × (List Int)) → Hp → Prop, (∀ s' H', n2 s' H' → ad s' H' ∧ q s' < q (R9, d)) ∧ V2 x0.f4 y0__71 m x0 R9 d H n2 K := ⟨_, fun _ _ h => h, bq (R9, d) H (fun s' H' => ad s' H' ∧ q s' < q (R9, d)) br (fun _ _ a b => ⟨a, b⟩)⟩
  unfold b7J
  unfold V2 at h
  refine c5 (v8 _ _ _ _ _ _) ?_
  refine d6 h (fun _ h => ?_) (fun _ h => ?_)
  ·have hj3 : ∀ (u : (List Int)) (y : Sl) (z : Frag) (H : Hp) (w : World) (_ : RowL 3 1 C9 y u z) (_ : Inv w0 ps0 H0 H [bx f 49 [(vs y)], bx g 65 [(vs sy0__71)], bx j 63 [(vs m)], bx i 30 (j6 x0), bx k 66 [(Value.func (.func 16) #[] #[(Value.pointer (some ⟨g, 0, none⟩)), (Value.pointer (some ⟨j, 0, none⟩)), (Value.pointer (some ⟨i, 0, none⟩)), (Value.pointer (some ⟨k, 0, none⟩)), (Value.pointer (some ⟨f, 0, none⟩))])], Fy0__71, z] w) (_ : K4 x0.f4 R9 u y0__71 m x0 H n2 K), b4t (Value.pointer (some ⟨g, 0, none⟩)) (Value.pointer (some ⟨f, 0, none⟩)) (vi x0.f4) (vi R9) w next2 R E := by
    intro u y z H w bs I h
    unfold b4t
    intro _
    unfold K4 at h
    refine c5 (s6 _ _ _ _ _ _) ?_
    exact hn2 _ _ _ (hm2 _ _ h).2 ⟨((IntKind.wrap .i64 (R9 + 1)), u), H, y, z, rfl, rfl, bs, (((((((I.bring 6).bring 6).bring 2).bring 6).bring 6).bring 6).bring 6), (hm2 _ _ h).1⟩
   refine p8 fun j3 hx3 => ?_
   refine c7 (l1 Tryd.isAgg65 I rfl) ?_
   obtain ⟨an, bt, af, h⟩ := h
   obtain ⟨dd, de, ao, df⟩ := hy0__71.addr af
   refine c5 (a9u ao _ _ _ _ an (hy0__71.lt an af)) ?_
   refine c7 (ld1 (v := (Value.bool bt)) Tryd.isAgg4 (hy0__71.atW (I.bring 5) ao af)) ?_
   refine c5 (N6 _) ?_
   refine o5 h (fun _ h => ?_) (fun _ h => ?_)
   ·refine c7 (l1 Tryd.isAgg49 (I.bring 4) rfl) ?_
    refine X8 (e := 3) (c := C9) (xs := [R9]) I (a5D _) rfl rfl a2w a2x (nb rfl) fun dg dh di bu ap dj => ?_
    obtain ⟨bv, h⟩ := h
    refine a8k (s := o) (xs := d) (ap.bring 7) t (bu.srcO ((ap.bring 7).bring 1)) bv fun aq bw dk bz ca dl => ?_
    refine o8 ((ca.bring 1).drop.bring 5) Tryd.sizeOf49 (vs := [(vs aq)]) fun dm cb dn => ?_
    exact hx3 _ _ (hj3 (d ++ [R9]) aq bw H _ bz (((((((cb.bring 1).bring 6).bring 6).bring 6).bring 6).bring 6).bring 6) h)
   ·exact hx3 _ _ (hj3 d o r H _ t (((((((I.bring 6).bring 6).bring 5).bring 5).bring 5).bring 5).bring 6) h)
  ·exact hx1 _ _ (hj1 d o r H _ t (((((((I.bring 6).bring 6).bring 6).bring 6).bring 6).bring 6).bring 6) h)
def J4 (a : m0) (b : m6) (H : Hp) (K : Bool → Hp → Prop) : Prop :=
 K true H
def Q3 (c1d : Int) (b4A : Sl) (c : m0) (e : m6) (Z2 : Int) (H : Hp) (n3 : Int → Hp → Prop) (K : Bool → Hp → Prop) : Prop :=
 (Z2 < c1d →
 (0 : Int) ≤ Z2 ∧ (Z2 : Int) < c.v7.n ∧ ∃ a : c6, EltH H c.v7 Z2 10 (f6 a) ∧
 ∃ b : Int, ((!decide (a.d4 = 1)) = false → (0 : Int) ≤ Z2 ∧ (Z2 : Int) < b4A.n ∧ EltH H b4A Z2 1 [(vi b)]) ∧
 ∃ d : Int, (((!decide (a.d4 = 1)) || (!decide (a.u9 = b))) = false → (0 : Int) ≤ IntKind.wrap .i64 (Z2 + 1) ∧ (IntKind.wrap .i64 (Z2 + 1) : Int) < b4A.n ∧ EltH H b4A (IntKind.wrap .i64 (Z2 + 1)) 1 [(vi d)]) ∧
 ((((!decide (a.d4 = 1)) || (!decide (a.u9 = b))) || (!decide (a.fTo = d))) = true →
 K false H) ∧
 ((((!decide (a.d4 = 1)) || (!decide (a.u9 = b))) || (!decide (a.fTo = d))) = false →
 n3 (IntKind.wrap .i64 (Z2 + 1)) H)) ∧
 (¬ (Z2 < c1d) →
 J4 c e H K)
def J5 (a2h : Int) (k : Sl) (o : (List l0)) (H : Hp) (K : Bool → Hp → Prop) : Prop :=
 ∀ (d : Sl) (i : Hp), Hle H i → SlH i 6 m5 d o → d.n ≤ d.c →
 a2A (m6.mk k d) i (fun a l m =>
 ((((((!decide (l = 0)) || (!decide (a.f4 = (IntKind.wrap .i64 (a2h + 1))))) || (!decide ((a.v7.n : Int) = a2h))) || (!decide (a.s7 = 1))) || (!decide (a.r8 = 0))) = true →
 K false m) ∧
 ((((((!decide (l = 0)) || (!decide (a.f4 = (IntKind.wrap .i64 (a2h + 1))))) || (!decide ((a.v7.n : Int) = a2h))) || (!decide (a.s7 = 1))) || (!decide (a.r8 = 0))) = false →
 a2C a m (fun b e f =>
 ∃ g : Int, (((!decide (e = 0)) || (!decide ((b.n : Int) = (IntKind.wrap .i64 (a2h + 1))))) = false → (0 : Int) ≤ 0 ∧ (0 : Int) < b.n ∧ EltH f b 0 1 [(vi g)]) ∧
 ∃ j : Int, ((((!decide (e = 0)) || (!decide ((b.n : Int) = (IntKind.wrap .i64 (a2h + 1))))) || (!decide (g = 0))) = false → (0 : Int) ≤ a2h ∧ (a2h : Int) < b.n ∧ EltH f b a2h 1 [(vi j)]) ∧
 (((((!decide (e = 0)) || (!decide ((b.n : Int) = (IntKind.wrap .i64 (a2h + 1))))) || (!decide (g = 0))) || (!decide (j = 1))) = true →
 K false f) ∧
 (((((!decide (e = 0)) || (!decide ((b.n : Int) = (IntKind.wrap .i64 (a2h + 1))))) || (!decide (g = 0))) || (!decide (j = 1))) = false →
 TL (0 : Int) f fun (s : Int) H n3 => Q3 a2h b a (m6.mk k d) s H n3 K))))
def J6 (b0B : Int) (a4t : Int) (b : Sl) (a : (List l0)) (H : Hp) (n4 : (Int × Sl × (List l0)) → Hp → Prop) (K : Bool → Hp → Prop) : Prop :=
 (a4t < b0B →
 (a.length + ([(l0.mk 7 ⟨#[]⟩ (Sl.mk none 0 0) (Sl.mk none 0 0) (Sl.mk none 0 0) (Sl.mk none 0 0))] : List l0).length) * 121 ≤ 140737488355328 ∧
 n4 ((IntKind.wrap .i64 (a4t + 1)), b, (a ++ [(l0.mk 7 ⟨#[]⟩ (Sl.mk none 0 0) (Sl.mk none 0 0) (Sl.mk none 0 0) (Sl.mk none 0 0))])) H) ∧
 (¬ (a4t < b0B) →
 J5 b0B b a H K)
def S8 (x0 : Int) (H : Hp) (K : Bool → Hp → Prop) : Prop :=
 Y0 H (fun b a =>
 ((!b) = true →
 K false a) ∧
 ((!b) = false →
 (((decide (x0 < 1)) || (decide (1000 < x0))) = true →
 K true a) ∧
 (((decide (x0 < 1)) || (decide (1000 < x0))) = false →
 TL ((0, (Sl.mk none 0 0), []) : Int × Sl × (List l0)) a fun (s : Int × Sl × (List l0)) H n4 => J6 x0 s.1 s.2.1 s.2.2 H n4 K)))
theorem a4u (x0 : Int) {H : Hp} {K : Bool → Hp → Prop} (h : S8 x0 H K) : S4 x0 H K := by
 refine Ct.of fun w0 w ps0 H0 R E I hR => c1J ?_
 unfold S8 at h
 unfold F5
 refine f7 Tryd.call6 h I ?_
 rintro _ aq _ ch ar _ _ ⟨ci, rfl, rfl, h⟩
 refine c5 (N6 _) ?_
 refine o5 h (fun _ h => ?_) (fun _ h => ?_)
 ·exact hR _ aq _ _ ar ⟨false, rfl, rfl, h⟩
 ·refine c5 (v8 _ _ _ _ _ _) ?_
  simp only [G0]
  refine c5 (Pu.g fun hb => by have d := hb; simp only [f8 d]; with_reducible exact (O8 _ _ _ _ _ _)) ?_
  refine c5 (F8 _ _) ?_
  refine o5 h (fun _ h => ?_) (fun _ h => ?_)
  ·exact hR _ aq _ _ ar ⟨true, rfl, rfl, h⟩
  ·refine c5 (b5i ) ?_
   refine o3 ar Tryd.zeroValue41 (cs := [(Value.slice none 0 0), (Value.slice none 0 0)]) rfl fun ak cj bd ck => ?_
   refine o8 bd Tryd.sizeOf41 (vs := [(Value.slice none 0 0), (Value.slice none 0 0)]) fun cl be cm => ?_
   have hj1 : ∀ (t : Sl) (au : (List l0)) (r : Sl) (av : Frag) (H : Hp) (w : World) (_ : RowL 39 6 m5 r au av) (_ : Inv w0 ps0 H0 H [bx ak 41 [(vs t), (vs r)], av] w) (_ : J5 x0 t au H K), b4o (vi x0) (Value.pointer (some ⟨ak, 0, none⟩)) w R E := by
    intro t au r av H w bf I h
    unfold b4o
    intro _
    unfold J5 at h
    refine c7 (ldA Tryd.isAgg41 Tryd.sizeOf41 rfl (I.at1 (o := 0) (vs := [(vs t), (vs r)]) (nb rfl) rfl)) ?_
    obtain ⟨bg, bh, bi, bj, bk⟩ := Inv.freezeC (I.bring 1) bf (by decide)
    replace h := h r bg bi bj bk
    refine f7 Tryd.call7 h bh ?_
    rintro _ bl _ cn bm _ _ ⟨an, bn, rfl, rfl, h⟩
    refine c5 (j7 _ _ _ rfl) ?_
    refine c5 (j7 _ _ (vi bn) rfl) ?_
    refine o3 bm Tryd.zeroValue30 (cs := [(Value.slice none 0 0), (vi 0), (Value.slice none 0 0), (vi 0), (vi 0), (Value.slice none 0 0)]) rfl fun ao co bo cp => ?_
    refine o8 bo Tryd.sizeOf30 (vs := (j6 an)) fun cq u cr => ?_
    refine c5 (J9 _ _ _ _ _ _) ?_
    refine c5 (Pu.g fun hb => by have d := hb; with_reducible exact K1) ?_
    refine c7 (Ld.g fun hb => by have d := hb; simp only [f8 d]; exact (l1 Tryd.isAgg3 u rfl)) ?_
    simp only [G0]
    refine c5 (Pu.g fun hb => by have d := hb; simp only [f8 d]; with_reducible exact (s6 _ _ _ _ _ _)) ?_
    refine c5 (Pu.g fun hb => by have d := hb; simp only [f8 d]; with_reducible exact (J9 _ _ _ _ _ _)) ?_
    refine c5 (F8 _ _) ?_
    refine c5 (Pu.g fun hb => by have d := hb; with_reducible exact M8) ?_
    refine c7 (Ld.g fun hb => by have d := hb; simp only [f8 d]; exact (l1 Tryd.isAgg28 u rfl)) ?_
    refine c5 (Pu.g fun hb => by have d := hb; simp only [f8 d]; with_reducible exact (a3J _ _ _)) ?_
    simp only [G0]
    refine c5 (Pu.g fun hb => by have d := hb; simp only [f8 d]; with_reducible exact (J9 _ _ _ _ _ _)) ?_
    refine c5 (F8 _ _) ?_
    refine c5 (Pu.g fun hb => by have d := hb; with_reducible exact a1y) ?_
    refine c7 (Ld.g fun hb => by have d := hb; simp only [f8 d]; exact (l1 Tryd.isAgg3 u rfl)) ?_
    refine c5 (Pu.g fun hb => by have d := hb; simp only [f8 d]; with_reducible exact (J9 _ _ _ _ _ _)) ?_
    refine c5 (F8 _ _) ?_
    refine c5 (Pu.g fun hb => by have d := hb; with_reducible exact a0P) ?_
    refine c7 (Ld.g fun hb => by have d := hb; simp only [f8 d]; exact (l1 Tryd.isAgg3 u rfl)) ?_
    refine c5 (Pu.g fun hb => by have d := hb; simp only [f8 d]; with_reducible exact (J9 _ _ _ _ _ _)) ?_
    refine c5 (F8 _ _) ?_
    refine o5 h (fun _ h => ?_) (fun _ h => ?_)
    ·exact hR _ bl _ _ u.drop.drop ⟨false, rfl, rfl, h⟩
    ·refine c7 (lW Tryd.isAgg30 Tryd.sizeOf30 rfl u) ?_
     refine f7 Tryd.call9 h u ?_
     rintro _ bp _ ct y _ _ ⟨cu, bq, rfl, rfl, h⟩
     refine c5 (j7 _ _ _ rfl) ?_
     refine c5 (j7 _ _ (vi bq) rfl) ?_
     refine c5 (J9 _ _ _ _ _ _) ?_
     simp only [G0]
     refine c5 (Pu.g fun hb => by have d := hb; simp only [f8 d]; exact (b0V _ _ _)) ?_
     refine c5 (Pu.g fun hb => by have d := hb; simp only [f8 d]; with_reducible exact (s6 _ _ _ _ _ _)) ?_
     refine c5 (Pu.g fun hb => by have d := hb; simp only [f8 d]; with_reducible exact (J9 _ _ _ _ _ _)) ?_
     refine c5 (F8 _ _) ?_
     simp only [G0]
     obtain ⟨ag, i, h⟩ := h
     obtain ⟨cv, cw, i⟩ := a8E i
     refine c5 (Pu.g fun hb => by have d := hb; simp only [f8 d]; exact (a0i (i hb).2.2.1 _ _ _ _ (i hb).1 (i hb).2.1)) ?_
     refine c7 (Ld.g fun hb => by have d := hb; simp only [f8 d]; with_reducible exact (ld1 (v := (vi ag)) Tryd.isAgg3 (y.atH (i hb).2.2.2))) ?_
     refine c5 (Pu.g fun hb => by have d := hb; simp only [f8 d]; with_reducible exact (J9 _ _ _ _ _ _)) ?_
     refine c5 (F8 _ _) ?_
     simp only [G0]
     obtain ⟨ah, j, h⟩ := h
     obtain ⟨cx, cy, j⟩ := a8E j
     refine c5 (Pu.g fun hb => by have d := hb; simp only [f8 d]; exact (a0i (j hb).2.2.1 _ _ _ _ (j hb).1 (j hb).2.1)) ?_
     refine c7 (Ld.g fun hb => by have d := hb; simp only [f8 d]; with_reducible exact (ld1 (v := (vi ah)) Tryd.isAgg3 (y.atH (j hb).2.2.2))) ?_
     refine c5 (Pu.g fun hb => by have d := hb; simp only [f8 d]; with_reducible exact (J9 _ _ _ _ _ _)) ?_
     refine c5 (F8 _ _) ?_
     refine o5 h (fun _ h => ?_) (fun _ h => ?_)
     ·exact hR _ bp _ _ y.drop.drop ⟨false, rfl, rfl, h⟩
     ·have hj2 : ∀ (H : Hp) (w : World) (_ : Inv w0 ps0 H0 H [bx ao 30 (j6 an), bx ak 41 [(Value.slice (m6.mk t r).a1o.a (m6.mk t r).a1o.n (m6.mk t r).a1o.c), (Value.slice (m6.mk t r).a1w.a (m6.mk t r).a1w.n (m6.mk t r).a1w.c)]] w) (_ : J4 an (m6.mk t r) H K), b4n w R E := by
       intro H w I h
       unfold b4n
       intro _
       unfold J4 at h
       exact hR _ H _ _ I.drop.drop ⟨true, rfl, rfl, h⟩
      refine p8 fun j2 hx2 => ?_
      refine a2v (σ := Int) (fun Z2 => [(vi Z2)]) (fun Z2 => [bx ao 30 (j6 an), bx ak 41 [(Value.slice (m6.mk t r).a1o.a (m6.mk t r).a1o.n (m6.mk t r).a1o.c), (Value.slice (m6.mk t r).a1w.a (m6.mk t r).a1w.n (m6.mk t r).a1w.c)]]) h rfl ((y.bring 1).bring 1) ?_
      rintro Z2 H cz w next3 n3 az I h hn3
      simp only [List.map_cons, List.map_nil, List.cons.injEq, and_true] at az
      have e9 := az
      simp only [e9]
      unfold b7F
      unfold Q3 at h
      refine c5 (v8 _ _ _ _ _ _) ?_
      refine d6 h (fun _ h => ?_) (fun _ h => ?_)
      ·refine L5 I fun da f => ?_
       refine d7 M8 ?_
       refine o4 (l1 Tryd.isAgg28 f rfl) ?_
       obtain ⟨z, aa, af, ae, h⟩ := h
       obtain ⟨ba, bb, ab, ae⟩ := ae
       refine d7 (a0X ab _ _ _ _ z aa) ?_
       refine d7 a1x ?_
       refine o4 (ld1 (v := (vi af.d4)) Tryd.isAgg3 ((f.atH ae).sub (k := 2) (n := 1) (nb rfl))) ?_
       refine d7 (J9 _ _ _ _ _ _) ?_
       refine d7 (Pu.g fun hb => by have d := hb; with_reducible exact M8) ?_
       simp only [G0]
       obtain ⟨ai, m, h⟩ := h
       obtain ⟨br, bs, m⟩ := a8E m
       refine d7 (Pu.g fun hb => by have d := hb; simp only [f8 d]; exact (a0i (m hb).2.2.1 _ _ _ _ (m hb).1 (m hb).2.1)) ?_
       refine R6 (p := (Value.pointer (some ⟨ao, 5, none⟩))) rfl (Ld.g fun hb => by have d := hb; simp only [f8 d]; exact (l1 Tryd.isAgg28 f rfl)) ?_
       refine d7 (Pu.g fun hb => by have d := hb; simp only [f8 d]; with_reducible exact (a0X ab _ _ _ _ z aa)) ?_
       refine d7 (Pu.g fun hb => by have d := hb; simp only [f8 d]; with_reducible exact T4) ?_
       refine R6 (p := (Value.pointer (some ⟨ba, bb + (Z2 : Int).toNat * 10 + 0, none⟩))) rfl (Ld.g fun hb => by have d := hb; simp only [f8 d]; exact (ld1 (v := (vi af.u9)) Tryd.isAgg3 ((f.atH ae).sub (k := 0) (n := 1) (nb rfl)))) ?_
       refine R6 (p := (Value.pointer (some ⟨br, bs + (Z2 : Int).toNat * 1, none⟩))) rfl (Ld.g fun hb => by have d := hb; simp only [f8 d]; with_reducible exact (ld1 (v := (vi ai)) Tryd.isAgg3 (f.atH (m hb).2.2.2))) ?_
       refine d7 (Pu.g fun hb => by have d := hb; simp only [f8 d]; with_reducible exact (J9 _ _ _ _ _ _)) ?_
       refine d7 (F8 _ _) ?_
       refine d7 (Pu.g fun hb => by have d := hb; with_reducible exact M8) ?_
       simp only [G0]
       refine d7 (Pu.g fun hb => by have d := hb; simp only [f8 d]; with_reducible exact (s6 _ _ _ _ _ _)) ?_
       obtain ⟨aj, q, h⟩ := h
       obtain ⟨bt, bu, q⟩ := a8E q
       refine d7 (Pu.g fun hb => by have d := hb; simp only [f8 d]; exact (a0i (q hb).2.2.1 _ _ _ _ (q hb).1 (q hb).2.1)) ?_
       refine R6 (p := (Value.pointer (some ⟨ao, 5, none⟩))) rfl (Ld.g fun hb => by have d := hb; simp only [f8 d]; exact (l1 Tryd.isAgg28 f rfl)) ?_
       refine d7 (Pu.g fun hb => by have d := hb; simp only [f8 d]; with_reducible exact (a0X ab _ _ _ _ z aa)) ?_
       refine d7 (Pu.g fun hb => by have d := hb; simp only [f8 d]; with_reducible exact a5j) ?_
       refine R6 (p := (Value.pointer (some ⟨ba, bb + (Z2 : Int).toNat * 10 + 1, none⟩))) rfl (Ld.g fun hb => by have d := hb; simp only [f8 d]; exact (ld1 (v := (vi af.fTo)) Tryd.isAgg3 ((f.atH ae).sub (k := 1) (n := 1) (nb rfl)))) ?_
       refine R6 (p := (Value.pointer (some ⟨bt, bu + (IntKind.wrap .i64 (Z2 + 1) : Int).toNat * 1, none⟩))) rfl (Ld.g fun hb => by have d := hb; simp only [f8 d]; with_reducible exact (ld1 (v := (vi aj)) Tryd.isAgg3 (f.atH (q hb).2.2.2))) ?_
       refine d7 (Pu.g fun hb => by have d := hb; simp only [f8 d]; with_reducible exact (J9 _ _ _ _ _ _)) ?_
       refine d7 (F8 _ _) ?_
       refine o5 h (fun _ h => ?_) (fun _ h => ?_)
       ·exact hR _ H _ _ f.drop.drop ⟨false, rfl, rfl, h⟩
       ·refine c5 (s6 _ _ _ _ _ _) ?_
        exact hn3 (IntKind.wrap .i64 (Z2 + 1)) _ _ h ((f.bring 1).bring 1)
      ·exact hx2 _ _ (hj2 H _ ((I.bring 1).bring 1) h)
   refine p8 fun j1 hx1 => ?_
   obtain ⟨aw, al, bv, bw⟩ := h
   refine D1 (J := fun n l w => ∃ (s : Int × Sl × (List l0)) (H : Hp) (am : Sl) (ap : Frag) , n = al s ∧ l = (match s with | (a4t, ad, ac) => [(vi a4t)]) ∧ (match s with | (a4t, ad, ac) => RowL 39 6 m5 am ac ap) ∧ (match s with | (a4t, ad, ac) => Inv w0 ps0 H0 H [bx ak 41 [(vs ad), (vs am)], ap] w) ∧ aw s H) ⟨_, (0, (Sl.mk none 0 0), []), aq, (Sl.mk none 0 0), [], rfl, rfl, (RowL.nil a4X a4Y), (be.nil.bring 1), bv⟩ ?_
   rintro db dc w next4 ⟨⟨a4t, ad, ac⟩, H, am, ap, rfl, ax, ay, I, bz⟩ hn4
   dsimp only at ax I ay
   simp only [List.map_cons, List.map_nil, List.cons.injEq, and_true] at ax
   have e4 := ax
   simp only [e4]
   obtain ⟨n4, hm4, h⟩ : ∃ n4 : (Int × Sl × (List l0)) → Hp → Prop, (∀ s' H', n4 s' H' → aw s' H' ∧ al s' < al (a4t, ad, ac)) ∧ J6 x0 a4t ad ac H n4 K := ⟨_, fun _ _ h => h, bw (a4t, ad, ac) H (fun s' H' => aw s' H' ∧ al s' < al (a4t, ad, ac)) bz (fun _ _ a b => ⟨a, b⟩)⟩
   unfold b7G
   unfold J6 at h
   refine c5 (v8 _ _ _ _ _ _) ?_
   refine d6 h (fun _ h => ?_) (fun _ h => ?_)
   ·refine c5 a2V ?_
    refine c7 (l1 Tryd.isAgg37 I rfl) ?_
    refine c5 (a9k _) ?_
    refine X8 (e := 39) (c := m5) (xs := [(l0.mk 7 ⟨#[]⟩ (Sl.mk none 0 0) (Sl.mk none 0 0) (Sl.mk none 0 0) (Sl.mk none 0 0))]) I (b3J _ _ _ _ _ _ _ _ _ _ _ _ _ _) rfl rfl a4X a4Y (nb rfl) fun dd de df ca bc dg => ?_
    obtain ⟨cb, h⟩ := h
    refine b9r (s := am) (xs := ac) (bc.bring 2) ay (ca.srcO ((bc.bring 2).bring 1)) cb fun cc cd dh ce cf di => ?_
    refine c5 a2V ?_
    refine E5 ((cf.bring 1).drop.bring 1) Tryd.sizeOf37 fun dj cg dk => ?_
    refine c5 (s6 _ _ _ _ _ _) ?_
    exact hn4 _ _ _ (hm4 _ _ h).2 ⟨((IntKind.wrap .i64 (a4t + 1)), ad, (ac ++ [(l0.mk 7 ⟨#[]⟩ (Sl.mk none 0 0) (Sl.mk none 0 0) (Sl.mk none 0 0) (Sl.mk none 0 0))])), H, cc, cd, rfl, rfl, ce, ((cg.bring 1).bring 1), (hm4 _ _ h).1⟩
   ·exact hx1 _ _ (hj1 ad ac am ap H _ ay ((I.bring 1).bring 1) h)
def V3 (a5T : Int) (b0c : (List ByteArray)) (b : m6) (H : Hp) (K : Sl → Int → Hp → Prop) : Prop :=
 ∀ (a4E : Sl) (a : Hp), Hle H a → SlH a 1 v1 a4E b0c → a4E.n ≤ a4E.c →
 K a4E a5T a
def V4 (b6S : Int) (b7O : Sl) (b7P : Int) (b : m6) (a1N : (List ByteArray)) (T7 : Int) (H : Hp) (n2 : ((List ByteArray) × Int) → Hp → Prop) (K : Sl → Int → Hp → Prop) : Prop :=
 (T7 < b7P →
 (0 : Int) ≤ T7 ∧ (T7 : Int) < b7O.n ∧ ∃ a : i7, EltH H b7O T7 2 (g9 a) ∧
 (a1N.length + ([a.g7] : List ByteArray).length) * 17 ≤ 140737488355328 ∧
 n2 ((a1N ++ [a.g7]), (IntKind.wrap .i64 (T7 + 1))) H) ∧
 (¬ (T7 < b7P) →
 V3 b6S a1N b H K)
def a2J (x0 : m6) (H : Hp) (K : Sl → Int → Hp → Prop) : Prop :=
 a3C x0 1 H (fun a b c =>
 TL (([], 0) : (List ByteArray) × Int) c fun (s : (List ByteArray) × Int) H n2 => V4 b a (a.n : Int) x0 s.1 s.2 H n2 K)
theorem a8p (x0 : m6) {H : Hp} {K : Sl → Int → Hp → Prop} (h : a2J x0 H K) : a4H x0 H K := by
 refine Ct.of fun w0 w ps0 H0 R E I hR => b9C ?_
 unfold a2J at h
 unfold F10
 refine A5 I (cs := (p9 x0)) rfl fun m ap o aq => ?_
 refine c7 (lW Tryd.isAgg41 Tryd.sizeOf41 rfl o) ?_
 refine f7 Tryd.call18 h o ?_
 rintro _ u _ ar v _ _ ⟨p, d, rfl, rfl, h⟩
 refine c5 (j7 _ _ _ rfl) ?_
 refine c5 (j7 _ _ (vi d) rfl) ?_
 have hj1 : ∀ (b0c : (List ByteArray)) (a4E : Sl) (Fs6j1 : Frag) (H : Hp) (w : World) (_ : RowL 9 1 v1 a4E b0c Fs6j1) (_ : Inv w0 ps0 H0 H [bx m 41 (p9 x0), Fs6j1] w) (_ : V3 d b0c x0 H K), b1W (vi d) (vs a4E) w R E := by
  intro b0c a4E Fs6j1 H w c1R I h
  unfold b1W
  intro _
  unfold V3 at h
  obtain ⟨q, y, z, aa, ab⟩ := Inv.freezeC (I.bring 1) c1R (by decide)
  replace h := h a4E q z aa ab
  exact hR _ q _ _ y.drop ⟨a4E, d, rfl, rfl, h⟩
 refine p8 fun j1 hx1 => ?_
 refine c5 (a2y _ _ _) ?_
 obtain ⟨i, f, ac, ad⟩ := h
 refine D1 (J := fun n l w => ∃ (s : (List ByteArray) × Int) (H : Hp) (b0d : Sl) (Fs6l2 : Frag) , n = f s ∧ l = (match s with | (a1N, T7) => [(vs b0d), (vi T7)]) ∧ (match s with | (a1N, T7) => RowL 9 1 v1 b0d a1N Fs6l2) ∧ (match s with | (a1N, T7) => Inv w0 ps0 H0 H [bx m 41 (p9 x0), Fs6l2] w) ∧ i s H) ⟨_, ([], 0), u, (Sl.mk none 0 0), [], rfl, rfl, (RowL.nil a4B a4C), (v.nil.bring 1), ac⟩ ?_
 rintro au av w next2 ⟨⟨a1N, T7⟩, H, b0d, Fs6l2, rfl, j, b4B, I, ae⟩ hn2
 dsimp only at j I b4B
 simp only [List.map_cons, List.map_nil, List.cons.injEq, and_true] at j
 obtain ⟨e6, e16⟩ := j
 simp only [e6, e16]
 obtain ⟨n2, hm2, h⟩ : ∃ n2 : ((List ByteArray) × Int) → Hp → Prop, (∀ s' H', n2 s' H' → i s' H' ∧ f s' < f (a1N, T7)) ∧ V4 d p (p.n : Int) x0 a1N T7 H n2 K := ⟨_, fun _ _ h => h, ad (a1N, T7) H (fun s' H' => i s' H' ∧ f s' < f (a1N, T7)) ae (fun _ _ a b => ⟨a, b⟩)⟩
 unfold b5v
 unfold V4 at h
 refine c5 (v8 _ _ _ _ _ _) ?_
 refine d6 h (fun _ h => ?_) (fun _ h => ?_)
 ·obtain ⟨af, ag, g, k, h⟩ := h
  obtain ⟨aw, ax, ah, k⟩ := k
  refine c5 (a2z ah _ _ _ _ af ag) ?_
  refine c7 (ldA (vs := (g9 g)) Tryd.isAgg35 Tryd.sizeOf35 rfl (I.atH k)) ?_
  refine o3 I Tryd.zeroValue35 (cs := [(Value.string ⟨#[]⟩), (vi 0)]) rfl fun ay az ai ba => ?_
  refine o8 ai Tryd.sizeOf35 (vs := (g9 g)) fun bb r bc => ?_
  refine c5 a0Q ?_
  refine c7 (l1 Tryd.isAgg9 r rfl) ?_
  refine X8 (e := 9) (c := v1) (xs := [g.g7]) r (b3K _) rfl rfl a4B a4C (nb rfl) fun bd be bf aj t bg => ?_
  obtain ⟨ak, h⟩ := h
  refine b5l (s := b0d) (xs := a1N) (t.bring 3) b4B (aj.srcO ((t.bring 3).bring 1)) ak fun al am bh an ao bi => ?_
  refine c5 (s6 _ _ _ _ _ _) ?_
  exact hn2 _ _ _ (hm2 _ _ h).2 ⟨((a1N ++ [g.g7]), (IntKind.wrap .i64 (T7 + 1))), H, al, am, rfl, rfl, an, (((ao.bring 1).drop.bring 1).drop.bring 1), (hm2 _ _ h).1⟩
 ·exact hx1 _ _ (hj1 a1N b0d Fs6l2 H _ b4B ((I.bring 1).bring 1) h)
def W9 (x0 : d3) (a : (List c6)) (H : Hp) (K : Int → d3 → (List c6) → Hp → Prop) : Prop :=
 K (IntKind.wrap .i64 ((IntKind.wrap .i64 (x0.fc.f4 + 1)) - 1)) (d3.mk (m0.mk x0.fc.p7 x0.fc.r8 x0.fc.m9 (IntKind.wrap .i64 (x0.fc.f4 + 1)) x0.fc.s7 (Sl.mk none 0 0)) x0.fvars x0.farrays) a H
theorem a5c (x0 : d3) (a : (List c6)) {H : Hp} {K : Int → d3 → (List c6) → Hp → Prop} (h : W9 x0 a H K) : v2 x0 a H K := by
 intro g0 c d e
 refine Ct.of fun w0 w ps0 H0 R E I hR => b9E ?_
 unfold W9 at h
 unfold F12
 refine c5 (p5 _) ?_
 refine c5 E7 ?_
 refine c5 K1 ?_
 refine c7 (l1 Tryd.isAgg3 I rfl) ?_
 refine c5 (s6 _ _ _ _ _ _) ?_
 refine c5 (p5 _) ?_
 refine c5 E7 ?_
 refine c5 K1 ?_
 refine E5 I Tryd.sizeOf3 fun f b g => ?_
 refine c5 (p5 _) ?_
 refine c5 E7 ?_
 refine c5 K1 ?_
 refine c7 (l1 Tryd.isAgg3 b rfl) ?_
 refine c5 (a5L _ _ _ _ _ _) ?_
 exact hR _ H _ _ ((b.bring 1).bring 1) ⟨(IntKind.wrap .i64 ((IntKind.wrap .i64 (x0.fc.f4 + 1)) - 1)), (d3.mk (m0.mk x0.fc.p7 x0.fc.r8 x0.fc.m9 (IntKind.wrap .i64 (x0.fc.f4 + 1)) x0.fc.s7 (Sl.mk none 0 0)) x0.fvars x0.farrays), a, c, d, rfl, rfl, e, h⟩
def a5h (x0 : Int) (x1 : Int) (x2 : Int) (H : Hp) (K : c6 → Hp → Prop) : Prop :=
 J0 H (fun a b =>
 J0 b (fun c d =>
 K (c6.mk x0 x1 x2 (-1) (-1) 0 a c) d))
theorem a9e (x0 : Int) (x1 : Int) (x2 : Int) {H : Hp} {K : c6 → Hp → Prop} (h : a5h x0 x1 x2 H K) : C6 x0 x1 x2 H K := by
 refine Ct.of fun w0 w ps0 H0 R E I hR => b9V ?_
 unfold a5h at h
 unfold F29
 refine o3 I Tryd.zeroValue46 (cs := [(vi 0), (vi 0), (vi 0), (vi 0), (vi 0), (vi 0), (vi 0), (vi 0), (vi 0), (vi 0)]) rfl fun i j d k => ?_
 refine f7 Tryd.call39 h d ?_
 rintro _ _ _ l e _ _ ⟨a, rfl, rfl, h⟩
 refine f7 Tryd.call39 h e ?_
 rintro _ f _ m g _ _ ⟨b, rfl, rfl, h⟩
 refine c5 (a6k _ _ _ _ _ _ _ _ _) ?_
 refine o8 g Tryd.sizeOf46 (vs := [(vi x0), (vi x1), (vi x2), (vi (-1)), (vi (-1)), (vi 0), (vi a.s8), (vi a.p6), (vi b.s8), (vi b.p6)]) fun n c o => ?_
 refine O9 Tryd.isAgg46 Tryd.sizeOf46 rfl c ?_
 exact hR _ f _ _ c.drop ⟨(c6.mk x0 x1 x2 (-1) (-1) 0 a b), rfl, rfl, h⟩
def S9 (x0 : d3) (a : (List c6)) (x1 : m3) (x2 : Int) (x3 : Int) (H : Hp) (K : i5 → Int → d3 → (List c6) → Hp → Prop) : Prop :=
 O3 (c8 x0) a x1 H (fun f b c =>
 (b = true →
 K f x2 (c8 x0) a c) ∧
 (b = false →
 v2 (c8 x0) a c (fun d g i j =>
 Y2 (c8 g) i x3 j (fun e k l m =>
 P7 (c8 k) l x1 e x2 d x3 m (fun n o p =>
 K (i5.mk e 0) d (c8 n) o p)))))
theorem a4v (x0 : d3) (b : (List c6)) (x1 : m3) (x2 : Int) (x3 : Int) {H : Hp} {K : i5 → Int → d3 → (List c6) → Hp → Prop} (h : S9 x0 b x1 x2 x3 H K) : E9 x0 b x1 x2 x3 H K := by
 intro g0 c d e
 refine Ct.of fun w0 w ps0 H0 R E I hR => c0n ?_
 unfold S9 at h
 unfold F47
 refine A5 I (cs := (i6 x1)) rfl fun al am n an => ?_
 refine o3 n Tryd.zeroValue44 (cs := [(vi 0), (vi 0)]) rfl fun ao ap j aq => ?_
 refine c7 (lW Tryd.isAgg25 Tryd.sizeOf25 rfl (j.bring 1)) ?_
 refine f7 Tryd.call45 (h g0 c d e) ((j.bring 3).bring 3) ?_
 rintro _ p _ ar q _ _ ⟨f, r, rfl, rfl, h⟩
 refine c5 (j7 _ _ _ rfl) ?_
 refine c5 (j7 _ _ (Value.bool r) rfl) ?_
 refine o3 q Tryd.zeroValue44 (cs := [(vi 0), (vi 0)]) rfl fun au av s aw => ?_
 refine o8 s Tryd.sizeOf44 (vs := (j9 f)) fun ax g ay => ?_
 refine o5 h (fun _ h => ?_) (fun _ h => ?_)
 ·refine c7 (lW Tryd.isAgg44 Tryd.sizeOf44 rfl g) ?_
  refine o8 (g.bring 3) Tryd.sizeOf44 (vs := (j9 f)) fun az k ba => ?_
  refine O9 Tryd.isAgg44 Tryd.sizeOf44 rfl k ?_
  exact hR _ p _ _ (((k.drop.drop.bring 2).drop.bring 1).bring 1) ⟨f, x2, (c8 x0), b, c, d, rfl, rfl, e, h⟩
 ·refine f7 Tryd.call12 (h g0 c d e) ((g.bring 2).bring 2) ?_
  rintro _ _ _ bb t _ _ ⟨u, bc, bd, v, y, rfl, rfl, z, h⟩
  refine f7 Tryd.call53 (h g0 v y z) ((t.bring 1).bring 1) ?_
  rintro _ _ _ be aa _ _ ⟨a, bf, bg, ab, ac, rfl, rfl, ad, h⟩
  refine c5 (a3z _) ?_
  refine o3 aa Tryd.zeroValue44 (cs := [(vi 0), (vi 0)]) rfl fun bh bi ae bj => ?_
  refine o8 ae Tryd.sizeOf44 (vs := [(vi a), (vi 0)]) fun bk i bl => ?_
  refine c7 (lW Tryd.isAgg25 Tryd.sizeOf25 rfl (i.bring 5)) ?_
  refine c5 a5n ?_
  refine c7 (l1 Tryd.isAgg3 i rfl) ?_
  refine f7 Tryd.call46 (h g0 ab ac ad) ((i.bring 2).bring 2) ?_
  rintro _ af _ bm l _ _ ⟨ag, ah, ai, aj, rfl, rfl, ak, h⟩
  refine c7 (ldA Tryd.isAgg44 Tryd.sizeOf44 rfl ((l.bring 2).at1 (o := 0) (vs := [(vi a), (vi 0)]) (nb rfl) rfl)) ?_
  refine o8 (l.bring 4) Tryd.sizeOf44 (vs := [(vi a), (vi 0)]) fun bn m bo => ?_
  refine O9 Tryd.isAgg44 Tryd.sizeOf44 rfl m ?_
  exact hR _ af _ _ (((((m.drop.bring 2).drop.bring 2).drop.bring 2).drop.bring 1).bring 1) ⟨(i5.mk a 0), u, (c8 ag), ah, ai, aj, rfl, rfl, ak, h⟩
def a1O (x0 : i7) (H : Hp) (K : d2 → Hp → Prop) : Prop :=
 K (d2.C1 (M7.mk x0)) H
theorem a7A (x0 : i7) {H : Hp} {K : d2 → Hp → Prop} (h : a1O x0 H K) : a3Y x0 H K := by
 refine Ct.of fun w0 w ps0 H0 R E I hR => c0x ?_
 unfold a1O at h
 unfold F57
 refine A5 I (cs := (g9 x0)) rfl fun b c a d => ?_
 refine c7 (lW Tryd.isAgg35 Tryd.sizeOf35 rfl a) ?_
 refine c5 (b1R _ _) ?_
 refine c5 (b0v (M7.mk x0)) ?_
 exact hR _ H _ _ a.drop ⟨(d2.C1 (M7.mk x0)), rfl, rfl, h⟩
def a2K (x0 : d2) (H : Hp) (K : ByteArray → Bool → Hp → Prop) : Prop :=
 (x0.a2S = true →
 K x0.a0b.P6.g7 true H) ∧
 (x0.a2S = false →
 (x0.a2T = true →
 K x0.o6.d9.g7 ((decide (x0.o6.d9.d4 = 1)) || (decide (x0.o6.d9.d4 = 2))) H) ∧
 (x0.a2T = false →
 (x0.a2U = true →
 K x0.A4.o0.g7 ((decide (x0.A4.o0.d4 = 2)) || (decide (x0.A4.o0.d4 = 4))) H) ∧
 (x0.a2U = false →
 K ⟨#[]⟩ false H)))
theorem a8q (x0 : d2) {H : Hp} {K : ByteArray → Bool → Hp → Prop} (h : a2K x0 H K) : U4 x0 H K := by
 refine Ct.of fun w0 w ps0 H0 R E I hR => c0D ?_
 unfold a2K at h
 unfold F63
 refine c5 (b1j x0) ?_
 refine c5 (j7 _ _ (Value.bool x0.a2S) rfl) ?_
 refine c5 (j7 _ _ _ rfl) ?_
 refine o5 h (fun _ h => ?_) (fun _ h => ?_)
 ·refine o3 I Tryd.zeroValue138 (cs := [(Value.string ⟨#[]⟩), (vi 0)]) rfl fun n o e q => ?_
  refine o8 e Tryd.sizeOf138 (vs := [(Value.string x0.a0b.P6.g7), (vi x0.a0b.P6.K0)]) fun r d s => ?_
  refine c5 a6A ?_
  refine c5 a0Q ?_
  refine c7 (l1 Tryd.isAgg9 d rfl) ?_
  exact hR _ H _ _ d.drop ⟨x0.a0b.P6.g7, true, rfl, rfl, h⟩
 ·refine c5 (b1k x0) ?_
  refine c5 (j7 _ _ (Value.bool x0.a2T) rfl) ?_
  refine c5 (j7 _ _ _ rfl) ?_
  refine o5 h (fun _ h => ?_) (fun _ h => ?_)
  ·refine o3 I Tryd.zeroValue140 (cs := [(vi 0), (Value.string ⟨#[]⟩), (Value.slice none 0 0), (Value.slice none 0 0), (Value.slice none 0 0), (Value.slice none 0 0)]) rfl fun f t i u => ?_
   refine o8 i Tryd.sizeOf140 (vs := [(vi x0.o6.d9.d4), (Value.string x0.o6.d9.g7), (vs x0.o6.d9.i8), (vs x0.o6.d9.q9), (vs x0.o6.d9.G9), (vs x0.o6.d9.H7)]) fun v j y => ?_
   refine L5 j fun z b => ?_
   refine d7 D3 ?_
   refine d7 a0R ?_
   refine d7 D3 ?_
   refine d7 a3S ?_
   refine o4 (l1 Tryd.isAgg9 b rfl) ?_
   refine o4 (l1 Tryd.isAgg3 b rfl) ?_
   refine d7 (f9 _ _ _ _ _ _) ?_
   refine d7 (Pu.g fun hb => by have a := hb; with_reducible exact D3) ?_
   refine d7 (Pu.g fun hb => by have a := hb; simp only [f8 a]; with_reducible exact a3S) ?_
   refine R6 (p := (Value.pointer (some ⟨f, 0, none⟩))) rfl (Ld.g fun hb => by have a := hb; simp only [f8 a]; exact (l1 Tryd.isAgg3 b rfl)) ?_
   refine d7 (Pu.g fun hb => by have a := hb; simp only [f8 a]; with_reducible exact (f9 _ _ _ _ _ _)) ?_
   refine d7 (F8 _ _) ?_
   exact hR _ H _ _ b.drop ⟨x0.o6.d9.g7, ((decide (x0.o6.d9.d4 = 1)) || (decide (x0.o6.d9.d4 = 2))), rfl, rfl, h⟩
  ·refine c5 (b1l x0) ?_
   refine c5 (j7 _ _ (Value.bool x0.a2U) rfl) ?_
   refine c5 (j7 _ _ _ rfl) ?_
   refine o5 h (fun _ h => ?_) (fun _ h => ?_)
   ·refine o3 I Tryd.zeroValue146 (cs := [(vi 0), (vi 0), (Value.string ⟨#[]⟩), (Value.slice none 0 0)]) rfl fun k aa l ab => ?_
    refine o8 l Tryd.sizeOf146 (vs := [(vi x0.A4.o0.d4), (vi x0.A4.o0.p6), (Value.string x0.A4.o0.g7), (vs x0.A4.o0.z7)]) fun ac m ad => ?_
    refine L5 m fun ae c => ?_
    refine d7 Q5 ?_
    refine d7 a2X ?_
    refine d7 Q5 ?_
    refine d7 Q7 ?_
    refine o4 (l1 Tryd.isAgg9 c rfl) ?_
    refine o4 (l1 Tryd.isAgg3 c rfl) ?_
    refine d7 (f9 _ _ _ _ _ _) ?_
    refine d7 (Pu.g fun hb => by have a := hb; with_reducible exact Q5) ?_
    refine d7 (Pu.g fun hb => by have a := hb; simp only [f8 a]; with_reducible exact Q7) ?_
    refine R6 (p := (Value.pointer (some ⟨k, 0, none⟩))) rfl (Ld.g fun hb => by have a := hb; simp only [f8 a]; exact (l1 Tryd.isAgg3 c rfl)) ?_
    refine d7 (Pu.g fun hb => by have a := hb; simp only [f8 a]; with_reducible exact (f9 _ _ _ _ _ _)) ?_
    refine d7 (F8 _ _) ?_
    exact hR _ H _ _ c.drop ⟨x0.A4.o0.g7, ((decide (x0.A4.o0.d4 = 2)) || (decide (x0.A4.o0.d4 = 4))), rfl, rfl, h⟩
   ·exact hR _ H _ _ I ⟨⟨#[]⟩, false, rfl, rfl, h⟩
def E4 (b0F : Int) (H : Hp) (K : Int → Hp → Prop) : Prop :=
 K b0F H
def N0 (b : ByteArray) (a8r : Int) (a : Nat) (H : Hp) (n2 : (Int × Nat) → Hp → Prop) (K : Int → Hp → Prop) : Prop :=
 (a < b.size →
 n2 ((IntKind.wrap .i64 (a8r + 1)), (a + (Utf8.decode b a).2)) H) ∧
 (¬ (a < b.size) →
 E4 a8r H K)
def O7 (x0 : ByteArray) (H : Hp) (K : Int → Hp → Prop) : Prop :=
 TL ((0, 0) : Int × Nat) H fun (s : Int × Nat) H n2 => N0 x0 s.1 s.2 H n2 K
theorem a3D (x0 : ByteArray) {H : Hp} {K : Int → Hp → Prop} (h : O7 x0 H K) : O6 x0 H K := by
 refine Ct.of fun w0 w ps0 H0 R E I hR => c0L ?_
 unfold O7 at h
 unfold F73
 have hj1 : ∀ (b0F : Int) (H : Hp) (w : World) (_ : Inv w0 ps0 H0 H [] w) (_ : E4 b0F H K), b2I (vi b0F) w R E := by
  intro b0F H w I h
  unfold b2I
  intro _
  unfold E4 at h
  exact hR _ H _ _ I ⟨b0F, rfl, rfl, h⟩
 refine p8 fun j1 hx1 => ?_
 refine b3I Tryd.underlying9 x0 I fun d i f j => ?_
 refine a2v (σ := Int × Nat) (fun (a8r, a) => [(vi a8r)]) (fun (a8r, a) => [itf d x0 a]) h rfl f ?_
 rintro ⟨a8r, a⟩ H k w next2 n2 b I h hn2
 dsimp only at b I h
 simp only [List.map_cons, List.map_nil, List.cons.injEq, and_true] at b
 have e2 := b
 simp only [e2]
 unfold b5Z
 unfold N0 at h
 refine b5h I (fun c l g m => ?_) (fun c => ?_)
 ·replace h := h.1 c
  refine c5 (j7 _ _ (Value.bool true) rfl) ?_
  refine a1m (fun e => ?_) (fun e => by cases e)
  refine c5 (s6 _ _ _ _ _ _) ?_
  exact hn2 ((IntKind.wrap .i64 (a8r + 1)), (a + (Utf8.decode x0 a).2)) _ _ h g
 ·replace h := h.2 c
  refine c5 (j7 _ _ (Value.bool false) rfl) ?_
  refine a1m (fun e => by cases e) (fun e => ?_)
  exact hx1 _ _ (hj1 a8r H _ I.drop h)
def m2 (q8 : Bool) (H : Hp) (K : Bool → Hp → Prop) : Prop :=
 (q8 = true →
 K true H) ∧
 (q8 = false →
 K false H)
def a3v (x0 : ByteArray) (H : Hp) (K : Bool → Hp → Prop) : Prop :=
 (x0 = ⟨#[118, 97, 114]⟩ →
 m2 (decide (x0 = ⟨#[118, 97, 114]⟩)) H K) ∧
 (¬ (x0 = ⟨#[118, 97, 114]⟩) →
 (x0 = ⟨#[97, 114, 114, 97, 121]⟩ →
 m2 (decide (x0 = ⟨#[97, 114, 114, 97, 121]⟩)) H K) ∧
 (¬ (x0 = ⟨#[97, 114, 114, 97, 121]⟩) →
 (x0 = ⟨#[105, 102]⟩ →
 m2 (decide (x0 = ⟨#[105, 102]⟩)) H K) ∧
 (¬ (x0 = ⟨#[105, 102]⟩) →
 (x0 = ⟨#[101, 108, 115, 101]⟩ →
 m2 (decide (x0 = ⟨#[101, 108, 115, 101]⟩)) H K) ∧
 (¬ (x0 = ⟨#[101, 108, 115, 101]⟩) →
 (x0 = ⟨#[119, 104, 105, 108, 101]⟩ →
 m2 (decide (x0 = ⟨#[119, 104, 105, 108, 101]⟩)) H K) ∧
 (¬ (x0 = ⟨#[119, 104, 105, 108, 101]⟩) →
 (x0 = ⟨#[97, 115, 115, 101, 114, 116]⟩ →
 m2 (decide (x0 = ⟨#[97, 115, 115, 101, 114, 116]⟩)) H K) ∧
 (¬ (x0 = ⟨#[97, 115, 115, 101, 114, 116]⟩) →
 (x0 = ⟨#[97, 115, 115, 117, 109, 101]⟩ →
 m2 (decide (x0 = ⟨#[97, 115, 115, 117, 109, 101]⟩)) H K) ∧
 (¬ (x0 = ⟨#[97, 115, 115, 117, 109, 101]⟩) →
 (x0 = ⟨#[115, 107, 105, 112]⟩ →
 m2 (decide (x0 = ⟨#[115, 107, 105, 112]⟩)) H K) ∧
 (¬ (x0 = ⟨#[115, 107, 105, 112]⟩) →
 (x0 = ⟨#[105, 110, 112, 117, 116]⟩ →
 m2 (decide (x0 = ⟨#[105, 110, 112, 117, 116]⟩)) H K) ∧
 (¬ (x0 = ⟨#[105, 110, 112, 117, 116]⟩) →
 (x0 = ⟨#[116, 114, 117, 101]⟩ →
 m2 (decide (x0 = ⟨#[116, 114, 117, 101]⟩)) H K) ∧
 (¬ (x0 = ⟨#[116, 114, 117, 101]⟩) →
 m2 (decide (x0 = ⟨#[102, 97, 108, 115, 101]⟩)) H K))))))))))
theorem a9f (x0 : ByteArray) {H : Hp} {K : Bool → Hp → Prop} (h : a3v x0 H K) : a3q x0 H K := by
 refine Ct.of fun w0 w ps0 H0 R E I hR => c0H ?_
 unfold a3v at h
 unfold F68
 have hj1 : ∀ (q8 : Bool) (H : Hp) (w : World) (_ : Inv w0 ps0 H0 H [] w) (_ : m2 q8 H K), b2C (Value.bool q8) w R E := by
  intro q8 H w I h
  unfold b2C
  intro _
  unfold m2 at h
  refine o5 h (fun _ h => ?_) (fun _ h => ?_)
  ·exact hR _ H _ _ I ⟨true, rfl, rfl, h⟩
  ·exact hR _ H _ _ I ⟨false, rfl, rfl, h⟩
 refine p8 fun j1 hx1 => ?_
 refine c5 (X6 _ _ _ _ _) ?_
 refine d6 h (fun _ h => ?_) (fun _ h => ?_)
 ·exact hx1 _ _ (hj1 (decide (x0 = ⟨#[118, 97, 114]⟩)) H _ I h)
 ·refine c5 (X6 _ _ _ _ _) ?_
  refine d6 h (fun _ h => ?_) (fun _ h => ?_)
  ·exact hx1 _ _ (hj1 (decide (x0 = ⟨#[97, 114, 114, 97, 121]⟩)) H _ I h)
  ·refine c5 (X6 _ _ _ _ _) ?_
   refine d6 h (fun _ h => ?_) (fun _ h => ?_)
   ·exact hx1 _ _ (hj1 (decide (x0 = ⟨#[105, 102]⟩)) H _ I h)
   ·refine c5 (X6 _ _ _ _ _) ?_
    refine d6 h (fun _ h => ?_) (fun _ h => ?_)
    ·exact hx1 _ _ (hj1 (decide (x0 = ⟨#[101, 108, 115, 101]⟩)) H _ I h)
    ·refine c5 (X6 _ _ _ _ _) ?_
     refine d6 h (fun _ h => ?_) (fun _ h => ?_)
     ·exact hx1 _ _ (hj1 (decide (x0 = ⟨#[119, 104, 105, 108, 101]⟩)) H _ I h)
     ·refine c5 (X6 _ _ _ _ _) ?_
      refine d6 h (fun _ h => ?_) (fun _ h => ?_)
      ·exact hx1 _ _ (hj1 (decide (x0 = ⟨#[97, 115, 115, 101, 114, 116]⟩)) H _ I h)
      ·refine c5 (X6 _ _ _ _ _) ?_
       refine d6 h (fun _ h => ?_) (fun _ h => ?_)
       ·exact hx1 _ _ (hj1 (decide (x0 = ⟨#[97, 115, 115, 117, 109, 101]⟩)) H _ I h)
       ·refine c5 (X6 _ _ _ _ _) ?_
        refine d6 h (fun _ h => ?_) (fun _ h => ?_)
        ·exact hx1 _ _ (hj1 (decide (x0 = ⟨#[115, 107, 105, 112]⟩)) H _ I h)
        ·refine c5 (X6 _ _ _ _ _) ?_
         refine d6 h (fun _ h => ?_) (fun _ h => ?_)
         ·exact hx1 _ _ (hj1 (decide (x0 = ⟨#[105, 110, 112, 117, 116]⟩)) H _ I h)
         ·refine c5 (X6 _ _ _ _ _) ?_
          refine d6 h (fun _ h => ?_) (fun _ h => ?_)
          ·exact hx1 _ _ (hj1 (decide (x0 = ⟨#[116, 114, 117, 101]⟩)) H _ I h)
          ·refine c5 (X6 _ _ _ _ _) ?_
           exact hx1 _ _ (hj1 (decide (x0 = ⟨#[102, 97, 108, 115, 101]⟩)) H _ I h)
def y4 (a5E : Int) (G8 : Int) (F3 : Int) (a5F : Bool) (a5G : Bool) (a4w : (List ByteArray)) (H : Hp) (K : Bool → i4 → (List ByteArray) → Hp → Prop) : Prop :=
 K true (i4.mk a5E G8 F3 a5F a5G (Sl.mk none 0 0)) a4w H
def X0 (x0 : i4) (a : (List ByteArray)) (x1 : d2) (x2 : Int) (H : Hp) (K : Bool → i4 → (List ByteArray) → Hp → Prop) : Prop :=
 (4096 < (IntKind.wrap .i64 (x0.fnodes + 1)) →
 K false (i4.mk (IntKind.wrap .i64 (x0.fnodes + 1)) x0.fdepth 33 x0.fform x0.fnamed (Sl.mk none 0 0)) a H) ∧
 (¬ (4096 < (IntKind.wrap .i64 (x0.fnodes + 1))) →
 (64 < x2 →
 K false (i4.mk (IntKind.wrap .i64 (x0.fnodes + 1)) x0.fdepth 32 x0.fform x0.fnamed (Sl.mk none 0 0)) a H) ∧
 (¬ (64 < x2) →
 TG (x0.fform = false) (a1F x1 H) false H (fun (c : Bool) (j : Hp) =>
 U4 x1 j (fun b e d =>
 (e = true →
 TG (x0.fnamed = false) (a1e b d) false d (fun (f : Bool) (k : Hp) =>
 J2 a b k (fun g i =>
 ((!g) = true →
 (a.length + ([b] : List ByteArray).length) * 17 ≤ 140737488355328 ∧
 y4 (IntKind.wrap .i64 (x0.fnodes + 1)) (if x2 > x0.fdepth then x2 else x0.fdepth) x0.fe (x0.fform || (!c)) (x0.fnamed || (!f)) (a ++ [b]) i K) ∧
 ((!g) = false →
 y4 (IntKind.wrap .i64 (x0.fnodes + 1)) (if x2 > x0.fdepth then x2 else x0.fdepth) x0.fe (x0.fform || (!c)) (x0.fnamed || (!f)) a i K)))) ∧
 (e = false →
 y4 (IntKind.wrap .i64 (x0.fnodes + 1)) (if x2 > x0.fdepth then x2 else x0.fdepth) x0.fe (x0.fform || (!c)) x0.fnamed a d K)))))
theorem a5d (x0 : i4) (b : (List ByteArray)) (x1 : d2) (x2 : Int) {H : Hp} {K : Bool → i4 → (List ByteArray) → Hp → Prop} (h : X0 x0 b x1 x2 H K) : W1 x0 b x1 x2 H K := by
 intro g0 k l m
 refine Ct.of fun w0 w ps0 H0 R E I hR => c0B ?_
 unfold X0 at h
 unfold F61
 refine c5 (p5 _) ?_
 refine c5 a6w ?_
 refine c7 (l1 Tryd.isAgg3 I rfl) ?_
 refine c5 (s6 _ _ _ _ _ _) ?_
 refine c5 (p5 _) ?_
 refine c5 a6w ?_
 refine E5 I Tryd.sizeOf3 fun ba p bb => ?_
 refine c5 (p5 _) ?_
 refine c5 a6w ?_
 refine c7 (l1 Tryd.isAgg3 p rfl) ?_
 refine c5 (O8 _ _ _ _ _ _) ?_
 refine d6 h (fun _ h => ?_) (fun _ h => ?_)
 ·refine c5 (p5 _) ?_
  refine c5 a3A ?_
  refine E5 p Tryd.sizeOf31 fun bc an bd => ?_
  exact hR _ H _ _ ((an.bring 1).bring 1) ⟨false, (i4.mk (IntKind.wrap .i64 (x0.fnodes + 1)) x0.fdepth 33 x0.fform x0.fnamed (Sl.mk none 0 0)), b, k, l, rfl, rfl, m, h⟩
 ·refine c5 (O8 _ _ _ _ _ _) ?_
  refine d6 h (fun _ h => ?_) (fun _ h => ?_)
  ·refine c5 (p5 _) ?_
   refine c5 a3A ?_
   refine E5 p Tryd.sizeOf31 fun be ao bf => ?_
   exact hR _ H _ _ ((ao.bring 1).bring 1) ⟨false, (i4.mk (IntKind.wrap .i64 (x0.fnodes + 1)) x0.fdepth 32 x0.fform x0.fnamed (Sl.mk none 0 0)), b, k, l, rfl, rfl, m, h⟩
  ·refine c5 (p5 _) ?_
   refine c5 a9l ?_
   refine c7 (l1 Tryd.isAgg3 p rfl) ?_
   refine c5 (b5d _ _ _ _ _) ?_
   refine c5 (p5 _) ?_
   refine c5 a9l ?_
   refine E5 p Tryd.sizeOf3 fun ae z bg => ?_
   refine c5 (p5 _) ?_
   refine c5 a6x ?_
   refine c7 (l1 Tryd.isAgg4 z rfl) ?_
   simp only [G0]
   refine a9P (D := fun af t => ∃ (d : Bool) (n : Hp), af = (gv x0.fform false (Value.bool d)) ∧ (Inv w0 ps0 H0 n [bx g0 116 [(vi (IntKind.wrap .i64 (x0.fnodes + 1))), (vi (if x2 > x0.fdepth then x2 else x0.fdepth)), (vi x0.fe), (Value.bool x0.fform), (Value.bool x0.fnamed), (vs k)], l] t) ∧ (∀ i, i < ae.heap.size → ¬ inF [] i → t.heap[i]? = ae.heap[i]?) ∧ Hle H n ∧ (U4 x1 n (fun (j : ByteArray) (u : Bool) (q : Hp) =>
 (u = true →
 TG (x0.fnamed = false) (a1e j q) false q (fun (f : Bool) (v : Hp) =>
 J2 b j v (fun (aa : Bool) (r : Hp) =>
 ((!aa) = true →
 (b.length + ([j] : List ByteArray).length) * 17 ≤ 140737488355328 ∧
 y4 (IntKind.wrap .i64 (x0.fnodes + 1)) (if x2 > x0.fdepth then x2 else x0.fdepth) x0.fe (x0.fform || (!d)) (x0.fnamed || (!f)) (b ++ [j]) r K) ∧
 ((!aa) = false →
 y4 (IntKind.wrap .i64 (x0.fnodes + 1)) (if x2 > x0.fdepth then x2 else x0.fdepth) x0.fe (x0.fform || (!d)) (x0.fnamed || (!f)) b r K)))) ∧
 (u = false →
 y4 (IntKind.wrap .i64 (x0.fnodes + 1)) (if x2 > x0.fdepth then x2 else x0.fdepth) x0.fe (x0.fform || (!d)) x0.fnamed b q K)))) (fun o => ?_) (fun o => ?_) ?_
   ·replace h := h.1 o
    have a := o
    simp only [f8 a]
    refine a6M z h (fun d n t ab ag ah h => ?_)
    exact ⟨d, n, by rfl, ab, ah, ag, h⟩
   ·exact ⟨false, H, by rw [b0q o], z, fun _ _ _ => rfl, Hle.refl _, h.2 o⟩
   ·clear h
    rintro af t ⟨d, n, rfl, ab, ah, ag, h⟩
    refine c5 (Pu.g fun hb => by have a := hb; simp only [f8 a]; with_reducible exact (N6 _)) ?_
    refine c5 (F8 _ _) ?_
    refine c5 (p5 _) ?_
    refine c5 a6x ?_
    refine E5 ab Tryd.sizeOf4 fun bh ap bi => ?_
    have hj1 : ∀ (a5E : Int) (G8 : Int) (F3 : Int) (a5F : Bool) (a5G : Bool) (a4w : (List ByteArray)) (a7B : Sl) (a7C : Frag) (H : Hp) (w : World) (_ : RowL 9 1 v1 a7B a4w a7C) (_ : Inv w0 ps0 H0 H [bx g0 116 [(vi a5E), (vi G8), (vi F3), (Value.bool a5F), (Value.bool a5G), (vs a7B)], a7C] w) (_ : y4 a5E G8 F3 a5F a5G a4w H K), b2z w R E := by
     intro a5E G8 F3 a5F a5G a4w a7B a7C H w b6T I h
     unfold b2z
     intro _
     unfold y4 at h
     exact hR _ H _ _ ((I.bring 1).bring 1) ⟨true, (i4.mk a5E G8 F3 a5F a5G (Sl.mk none 0 0)), a4w, a7B, a7C, rfl, rfl, b6T, h⟩
    refine p8 fun j1 hx1 => ?_
    refine f7 Tryd.call63 h ap ?_
    rintro _ q _ bj y _ _ ⟨j, u, rfl, rfl, h⟩
    refine c5 (j7 _ _ (Value.string j) rfl) ?_
    refine c5 (j7 _ _ (Value.bool u) rfl) ?_
    refine o5 h (fun _ h => ?_) (fun _ h => ?_)
    ·refine c5 (p5 _) ?_
     refine c5 a6y ?_
     refine c7 (l1 Tryd.isAgg4 y rfl) ?_
     simp only [G0]
     refine U1 [] (fun f : Bool => (Value.bool f)) h y (fun ai h => ?_) fun f v aq ac aj ak h => ?_
     ·have a := ai
      simp only [f8 a]
      refine f7 Tryd.call64 h y ?_
      rintro _ v _ aq ac ak aj ⟨f, rfl, rfl, h⟩
      exact ⟨f, v, rfl, ac, aj, ak, h⟩
     refine c5 (Pu.g fun hb => by have a := hb; simp only [f8 a]; with_reducible exact (N6 _)) ?_
     refine c5 (F8 _ _) ?_
     refine c5 (p5 _) ?_
     refine c5 a6y ?_
     refine E5 ac Tryd.sizeOf4 fun bk al bl => ?_
     refine c5 (p5 _) ?_
     refine c5 a6z ?_
     refine c7 (l1 Tryd.isAgg26 al rfl) ?_
     refine f7 Tryd.call65 (h k l m) (al.bring 1) ?_
     rintro _ r _ bm ad _ _ ⟨aa, rfl, rfl, h⟩
     refine c5 (N6 _) ?_
     refine o5 h (fun _ h => ?_) (fun _ h => ?_)
     ·refine c5 (p5 _) ?_
      refine c5 a6z ?_
      refine c7 (l1 Tryd.isAgg26 (ad.bring 1) rfl) ?_
      refine X8 (e := 9) (c := v1) (xs := [j]) ad (b3K _) rfl rfl a4B a4C (nb rfl) fun bn bo bp ar am bq => ?_
      obtain ⟨au, h⟩ := h
      refine b5l (s := k) (xs := b) (am.bring 1) m (ar.srcO ((am.bring 1).bring 1)) au fun av aw br ax ay bs => ?_
      refine c5 (p5 _) ?_
      refine c5 a6z ?_
      refine E5 ((ay.bring 1).drop.bring 1) Tryd.sizeOf26 fun bt az bu => ?_
      exact hx1 _ _ (hj1 (IntKind.wrap .i64 (x0.fnodes + 1)) (if x2 > x0.fdepth then x2 else x0.fdepth) x0.fe (x0.fform || (!d)) (x0.fnamed || (!f)) (b ++ [j]) av aw r _ ax ((az.bring 1).bring 1) h)
     ·exact hx1 _ _ (hj1 (IntKind.wrap .i64 (x0.fnodes + 1)) (if x2 > x0.fdepth then x2 else x0.fdepth) x0.fe (x0.fform || (!d)) (x0.fnamed || (!f)) b k l r _ m (ad.bring 1) h)
    ·exact hx1 _ _ (hj1 (IntKind.wrap .i64 (x0.fnodes + 1)) (if x2 > x0.fdepth then x2 else x0.fdepth) x0.fe (x0.fform || (!d)) x0.fnamed b k l q _ m ((y.bring 1).bring 1) h)
def C4 (d : Int) (e : Int) (f : Int) (g : Bool) (i : Bool) (j : (List ByteArray)) (H : Hp) (K : i4 → Hp → Prop) : Prop :=
 ∀ (a : Sl) (b : Hp), Hle H b → SlH b 1 v1 a j → a.n ≤ a.c →
 K (i4.mk d e f g i a) b
def a1P (x0 : Sl) (H : Hp) (K : i4 → Hp → Prop) : Prop :=
 O0 x0 1 (i4.mk 0 0 0 false false (Sl.mk none 0 0)) [] H (fun d a b c =>
 ((!d) = true →
 C4 a.fnodes a.fdepth a.fe a.fform a.fnamed b c K) ∧
 ((!d) = false →
 (a.fform = true →
 C4 a.fnodes a.fdepth 30 a.fform a.fnamed b c K) ∧
 (a.fform = false →
 (a.fnamed = true →
 C4 a.fnodes a.fdepth 31 a.fform a.fnamed b c K) ∧
 (a.fnamed = false →
 C4 a.fnodes a.fdepth a.fe a.fform a.fnamed b c K))))
theorem a7D (x0 : Sl) {H : Hp} {K : i4 → Hp → Prop} (h : a1P x0 H K) : a1E x0 H K := by
 refine Ct.of fun w0 w ps0 H0 R E I hR => c0u ?_
 unfold a1P at h
 unfold F54
 refine c5 (b4k ) ?_
 refine A5 I (cs := [(vi 0), (vi 0), (vi 0), (Value.bool false), (Value.bool false), (Value.slice none 0 0)]) rfl fun d aj y ak => ?_
 refine o3 y Tryd.zeroValue117 (cs := [(Value.pointer none)]) rfl fun c al z am => ?_
 refine o8 z Tryd.sizeOf117 (vs := [(Value.pointer (some ⟨d, 0, none⟩))]) fun an aa ao => ?_
 refine o3 aa Tryd.zeroValue132 (cs := [Value.nilFunc]) rfl fun f ap ab aq => ?_
 refine c5 (a3y _ _ _) ?_
 refine o8 ab Tryd.sizeOf132 (vs := [(Value.func (.func 60) #[] #[(Value.pointer (some ⟨c, 0, none⟩)), (Value.pointer (some ⟨f, 0, none⟩))])]) fun ar u au => ?_
 have hj1 : ∀ (i : Int) (j : Int) (k : Int) (l : Bool) (m : Bool) (s : (List ByteArray)) (g : Sl) (t : Frag) (H : Hp) (w : World) (_ : RowL 9 1 v1 g s t) (_ : Inv w0 ps0 H0 H [bx c 117 [(Value.pointer (some ⟨d, 0, none⟩))], bx d 116 [(vi i), (vi j), (vi k), (Value.bool l), (Value.bool m), (vs g)], bx f 132 [(Value.func (.func 60) #[] #[(Value.pointer (some ⟨c, 0, none⟩)), (Value.pointer (some ⟨f, 0, none⟩))])], t] w) (_ : C4 i j k l m s H K), b2s (Value.pointer (some ⟨c, 0, none⟩)) w R E := by
  intro i j k l m s g t H w ac I h
  unfold b2s
  intro _
  unfold C4 at h
  refine c7 (l1 Tryd.isAgg117 I rfl) ?_
  obtain ⟨v, ad, ae, af, ag⟩ := Inv.freezeC (I.bring 3) ac (by decide)
  replace h := h g v ae af ag
  exact hR _ v _ _ (ad.drop.bring 1).drop ⟨(i4.mk i j k l m g), d, rfl, rfl, h⟩
 refine p8 fun j1 hx1 => ?_
 refine c7 (l1 Tryd.isAgg132 u rfl) ?_
 refine a2u (cap := [(Value.pointer (some ⟨c, 0, none⟩)), (Value.pointer (some ⟨f, 0, none⟩))]) Tryd.call60 (h c d f (Sl.mk none 0 0) ([]) (RowL.nil (e := 9) a4B a4C)) ((((u.nil.bring 1).bring 1).bring 3).bring 3) ?_
 rintro _ n _ av b _ _ ⟨aw, a, o, p, q, rfl, rfl, r, h⟩
 refine c5 (N6 _) ?_
 refine o5 h (fun _ h => ?_) (fun _ h => ?_)
 ·exact hx1 _ _ (hj1 a.fnodes a.fdepth a.fe a.fform a.fnamed o p q n _ r ((((b.bring 2).bring 3).bring 3).bring 3) h)
 ·refine c7 (l1 Tryd.isAgg117 b rfl) ?_
  refine c5 (p5 _) ?_
  refine c5 a6x ?_
  refine c7 (l1 Tryd.isAgg4 (b.bring 1) rfl) ?_
  refine o5 h (fun _ h => ?_) (fun _ h => ?_)
  ·refine c7 (l1 Tryd.isAgg117 b rfl) ?_
   refine c5 (p5 _) ?_
   refine c5 a3A ?_
   refine E5 (b.bring 1) Tryd.sizeOf31 fun ax ah ay => ?_
   exact hx1 _ _ (hj1 a.fnodes a.fdepth 30 a.fform a.fnamed o p q n _ r ((((ah.bring 2).bring 3).bring 2).bring 3) h)
  ·refine c7 (l1 Tryd.isAgg117 b rfl) ?_
   refine c5 (p5 _) ?_
   refine c5 a6y ?_
   refine c7 (l1 Tryd.isAgg4 (b.bring 1) rfl) ?_
   refine o5 h (fun _ h => ?_) (fun _ h => ?_)
   ·refine c7 (l1 Tryd.isAgg117 b rfl) ?_
    refine c5 (p5 _) ?_
    refine c5 a3A ?_
    refine E5 (b.bring 1) Tryd.sizeOf31 fun az ai ba => ?_
    exact hx1 _ _ (hj1 a.fnodes a.fdepth 31 a.fform a.fnamed o p q n _ r ((((ai.bring 2).bring 3).bring 2).bring 3) h)
   ·exact hx1 _ _ (hj1 a.fnodes a.fdepth a.fe a.fform a.fnamed o p q n _ r ((((b.bring 2).bring 3).bring 3).bring 3) h)
def a3w (x0 : m6) (H : Hp) (K : i4 → Hp → Prop) : Prop :=
 B0 x0.a1o H (fun d e =>
 q6 x0.a1w e (fun f g =>
 ∀ (a : Sl) (b : Hp), Hle g b → SlH b 1 csl a [d, f] → a.n ≤ a.c →
 u7 a b (fun i j =>
 a1E i j (fun k l =>
 K k l))))
theorem a9g (x0 : m6) {H : Hp} {K : i4 → Hp → Prop} (h : a3w x0 H K) : a3r x0 H K := by
 refine Ct.of fun w0 w ps0 H0 R E I hR => c0p ?_
 unfold a3w at h
 unfold F49
 refine A5 I (cs := (p9 x0)) rfl fun z aa b ab => ?_
 refine L5 b fun ac a => ?_
 refine d7 a7o ?_
 refine d7 a2V ?_
 refine o4 (l1 Tryd.isAgg27 a rfl) ?_
 refine o4 (l1 Tryd.isAgg37 a rfl) ?_
 refine f7 Tryd.call56 h a ?_
 rintro _ _ _ ad d _ f ⟨g, rfl, rfl, h⟩
 refine ⟨(f _ a.lt1 (Inv.L6 (Fi := []) a)), ?_⟩
 refine f7 Tryd.call58 h d ?_
 rintro _ _ _ ae i _ _ ⟨j, rfl, rfl, h⟩
 refine X8 (e := 123) (c := csl) (xs := [g, j]) i (b1Q _ _ _ _ _ _) rfl rfl a8F a8G (nb rfl) fun k af ag l m ah => ?_
 obtain ⟨n, o, p, q, r⟩ := Inv.freezeC m l (by decide)
 replace h := h k n p q r
 refine f7 Tryd.call55 h o ?_
 rintro _ _ _ ai s _ _ ⟨aj, rfl, rfl, h⟩
 refine f7 Tryd.call54 h s ?_
 rintro _ t _ ak u _ _ ⟨v, y, rfl, rfl, h⟩
 exact hR _ t _ _ (u.bring 1).drop ⟨v, y, rfl, rfl, h⟩
def a2l (x0 : m6) (H : Hp) (K : Int → Hp → Prop) : Prop :=
 a3r x0 H (fun a b =>
 K a.fe b)
theorem a8b (x0 : m6) {H : Hp} {K : Int → Hp → Prop} (h : a2l x0 H K) : a2g x0 H K := by
 refine Ct.of fun w0 w ps0 H0 R E I hR => c0h ?_
 unfold a2l at h
 unfold F41
 refine A5 I (cs := (p9 x0)) rfl fun e f a g => ?_
 refine c7 (lW Tryd.isAgg41 Tryd.sizeOf41 rfl a) ?_
 refine f7 Tryd.call49 h a ?_
 rintro _ c _ i b _ _ ⟨d, j, rfl, rfl, h⟩
 refine c5 (p5 _) ?_
 refine c5 a3A ?_
 refine c7 (l1 Tryd.isAgg31 b rfl) ?_
 exact hR _ c _ _ b.drop.drop ⟨d.fe, rfl, rfl, h⟩
def K5 (c2I : Sl) (a7u : Int) (c1S : Int) (a4x : (List d5)) (H : Hp) (n1 : (Int × (List d5)) → Hp → Prop) (K : g8 → (List d5) → Hp → Prop) : Prop :=
 n1 ((IntKind.wrap .i64 (c1S + 1)), a4x) H
def K6 (b7K : Sl) (b4u : Int) (c1T : Int) (a5X : (List d5)) (a : l0) (H : Hp) (n1 : (Int × (List d5)) → Hp → Prop) (K : g8 → (List d5) → Hp → Prop) : Prop :=
 J1 (g8.mk (Sl.mk none 0 0)) a5X a.G9 H (fun f b c =>
 J1 (g8.mk (Sl.mk none 0 0)) b a.H7 c (fun g d e =>
 K5 b7K b4u c1T d e n1 K))
def K7 (c1U : Sl) (c1V : Int) (c1W : Int) (b7Q : Sl) (b7R : Int) (b : l0) (a1g : Int) (X1 : (List d5)) (H : Hp) (n1 : (Int × (List d5)) → Hp → Prop) (n6 : (Int × (List d5)) → Hp → Prop) (K : g8 → (List d5) → Hp → Prop) : Prop :=
 (a1g < b7R →
 (0 : Int) ≤ a1g ∧ (a1g : Int) < b7Q.n ∧ ∃ a : m3, EltH H b7Q a1g 4 (i6 a) ∧
 K2 (g8.mk (Sl.mk none 0 0)) X1 a H (fun e c d =>
 n6 ((IntKind.wrap .i64 (a1g + 1)), c) d)) ∧
 (¬ (a1g < b7R) →
 K6 c1U c1V c1W X1 b H n1 K)
def K8 (c1X : Sl) (c1Y : Int) (c1Z : Int) (a4y : (List d5)) (a : l0) (H : Hp) (n1 : (Int × (List d5)) → Hp → Prop) (K : g8 → (List d5) → Hp → Prop) : Prop :=
 TL ((0, a4y) : Int × (List d5)) H fun (s : Int × (List d5)) H n6 => K7 c1X c1Y c1Z a.i8 (a.i8.n : Int) a s.1 s.2 H n1 n6 K
def K9 (c2a : Sl) (c2b : Int) (c2c : Int) (b7S : Sl) (b7T : Int) (b : l0) (a1h : Int) (X2 : (List d5)) (H : Hp) (n1 : (Int × (List d5)) → Hp → Prop) (n7 : (Int × (List d5)) → Hp → Prop) (K : g8 → (List d5) → Hp → Prop) : Prop :=
 (a1h < b7T →
 (0 : Int) ≤ a1h ∧ (a1h : Int) < b7S.n ∧ ∃ a : o9, EltH H b7S a1h 4 (l7 a) ∧
 P8 (g8.mk (Sl.mk none 0 0)) X2 a H (fun e c d =>
 n7 ((IntKind.wrap .i64 (a1h + 1)), c) d)) ∧
 (¬ (a1h < b7T) →
 K8 c2a c2b c2c X2 b H n1 K)
def A6 (c2d : Sl) (a6s : Int) (c2e : Int) (a4z : (List d5)) (a : l0) (H : Hp) (n1 : (Int × (List d5)) → Hp → Prop) (K : g8 → (List d5) → Hp → Prop) : Prop :=
 TL ((0, a4z) : Int × (List d5)) H fun (s : Int × (List d5)) H n7 => K9 c2d a6s c2e a.q9 (a.q9.n : Int) a s.1 s.2 H n1 n7 K
def L0 (b0e : Sl) (b0f : Int) (L1 : Int) (E2 : (List d5)) (H : Hp) (n1 : (Int × (List d5)) → Hp → Prop) (K : g8 → (List d5) → Hp → Prop) : Prop :=
 (L1 < b0f →
 (0 : Int) ≤ L1 ∧ (L1 : Int) < b0e.n ∧ ∃ a : l0, EltH H b0e L1 6 (m5 a) ∧
 (a.d4 = 1 →
 (E2.length + ([(d5.mk a.g7 1)] : List d5).length) * 25 ≤ 140737488355328 ∧
 A6 b0e b0f L1 (E2 ++ [(d5.mk a.g7 1)]) a H n1 K) ∧
 (¬ (a.d4 = 1) →
 (a.d4 = 2 →
 (E2.length + ([(d5.mk a.g7 2)] : List d5).length) * 25 ≤ 140737488355328 ∧
 A6 b0e b0f L1 (E2 ++ [(d5.mk a.g7 2)]) a H n1 K) ∧
 (¬ (a.d4 = 2) →
 A6 b0e b0f L1 E2 a H n1 K))) ∧
 (¬ (L1 < b0f) →
 K (g8.mk (Sl.mk none 0 0)) E2 H)
def X3 (x0 : g8) (a : (List d5)) (x1 : Sl) (H : Hp) (K : g8 → (List d5) → Hp → Prop) : Prop :=
 TL ((0, a) : Int × (List d5)) H fun (s : Int × (List d5)) H n1 => L0 x1 (x1.n : Int) s.1 s.2 H n1 K
theorem a5e (x0 : g8) (p : (List d5)) (x1 : Sl) {H : Hp} {K : g8 → (List d5) → Hp → Prop} (h : X3 x0 p x1 H K) : J1 x0 p x1 H K := by
 intro g0 al am an
 refine Ct.of fun w0 w ps0 H0 R E I hR => c0j ?_
 unfold X3 at h
 unfold F43
 refine c5 (Z8 _ _ _) ?_
 obtain ⟨q, g, ao, ap⟩ := h
 refine D1 (J := fun n l w => ∃ (s : Int × (List d5)) (H : Hp) (a3E : Sl) (a5Y : Frag) , n = g s ∧ l = (match s with | (L1, E2) => [(vi L1)]) ∧ (match s with | (L1, E2) => RowL 106 2 r5 a3E E2 a5Y) ∧ (match s with | (L1, E2) => Inv w0 ps0 H0 H [bx g0 103 [(vs a3E)], a5Y] w) ∧ q s H) ⟨_, (0, p), H, al, am, rfl, rfl, an, ((I.bring 1).bring 1), ao⟩ ?_
 rintro cx cy w next1 ⟨⟨L1, E2⟩, H, a3E, a5Y, rfl, r, a5Z, I, aq⟩ hn1
 dsimp only at r I a5Z
 simp only [List.map_cons, List.map_nil, List.cons.injEq, and_true] at r
 have e12 := r
 simp only [e12]
 obtain ⟨n1, hm1, h⟩ : ∃ n1 : (Int × (List d5)) → Hp → Prop, (∀ s' H', n1 s' H' → q s' H' ∧ g s' < g (L1, E2)) ∧ L0 x1 (x1.n : Int) L1 E2 H n1 K := ⟨_, fun _ _ h => h, ap (L1, E2) H (fun s' H' => q s' H' ∧ g s' < g (L1, E2)) aq (fun _ _ a b => ⟨a, b⟩)⟩
 unfold b5L
 unfold L0 at h
 refine c5 (v8 _ _ _ _ _ _) ?_
 refine d6 h (fun _ h => ?_) (fun _ h => ?_)
 ·have hj2 : ∀ (a4x : (List d5)) (a7E : Sl) (a7F : Frag) (H : Hp) (w : World) (_ : RowL 106 2 r5 a7E a4x a7F) (_ : Inv w0 ps0 H0 H [bx g0 103 [(vs a7E)], a7F] w) (_ : K5 x1 (x1.n : Int) L1 a4x H n1 K), b2k (Value.pointer (some ⟨g0, 0, none⟩)) (vs x1) (vi (x1.n : Int)) (vi L1) w next1 R E := by
   intro a4x a7E a7F H w b6U I h
   unfold b2k
   intro _
   unfold K5 at h
   refine c5 (s6 _ _ _ _ _ _) ?_
   exact hn1 _ _ _ (hm1 _ _ h).2 ⟨((IntKind.wrap .i64 (L1 + 1)), a4x), H, a7E, a7F, rfl, rfl, b6U, ((I.bring 1).bring 1), (hm1 _ _ h).1⟩
  refine p8 fun j2 hx2 => ?_
  obtain ⟨ar, au, d, t, h⟩ := h
  obtain ⟨cz, da, av, t⟩ := t
  refine c5 (a9t av _ _ _ _ ar au) ?_
  refine c7 (ldA (vs := (m5 d)) Tryd.isAgg39 Tryd.sizeOf39 rfl (I.atH t)) ?_
  refine o3 I Tryd.zeroValue39 (cs := [(vi 0), (Value.string ⟨#[]⟩), (Value.slice none 0 0), (Value.slice none 0 0), (Value.slice none 0 0), (Value.slice none 0 0)]) rfl fun f db aw dc => ?_
  refine o8 aw Tryd.sizeOf39 (vs := (m5 d)) fun dd k de => ?_
  have hj3 : ∀ (a4z : (List d5)) (a7G : Sl) (a7H : Frag) (H : Hp) (w : World) (_ : RowL 106 2 r5 a7G a4z a7H) (_ : Inv w0 ps0 H0 H [bx g0 103 [(vs a7G)], bx f 39 (m5 d), a7H] w) (_ : A6 x1 (x1.n : Int) L1 a4z d H n1 K), b2n (Value.pointer (some ⟨g0, 0, none⟩)) (Value.pointer (some ⟨f, 0, none⟩)) (vs x1) (vi (x1.n : Int)) (vi L1) w j2 R E := by
   intro a4z a7G a7H H w b6V I h
   unfold b2n
   intro _
   unfold A6 at h
   have hj4 : ∀ (a4y : (List d5)) (a7I : Sl) (a7J : Frag) (H : Hp) (w : World) (_ : RowL 106 2 r5 a7I a4y a7J) (_ : Inv w0 ps0 H0 H [bx g0 103 [(vs a7I)], bx f 39 (m5 d), a7J] w) (_ : K8 x1 (x1.n : Int) L1 a4y d H n1 K), b2m (Value.pointer (some ⟨g0, 0, none⟩)) (Value.pointer (some ⟨f, 0, none⟩)) (vs x1) (vi (x1.n : Int)) (vi L1) w j2 R E := by
    intro a4y a7I a7J H w b6W I h
    unfold b2m
    intro _
    unfold K8 at h
    have hj5 : ∀ (a5X : (List d5)) (a7K : Sl) (a7L : Frag) (H : Hp) (w : World) (_ : RowL 106 2 r5 a7K a5X a7L) (_ : Inv w0 ps0 H0 H [bx g0 103 [(vs a7K)], bx f 39 (m5 d), a7L] w) (_ : K6 x1 (x1.n : Int) L1 a5X d H n1 K), b2l (Value.pointer (some ⟨g0, 0, none⟩)) (Value.pointer (some ⟨f, 0, none⟩)) (vs x1) (vi (x1.n : Int)) (vi L1) w j2 R E := by
     intro a5X a7K a7L H w b6X I h
     unfold b2l
     intro _
     unfold K6 at h
     refine c5 a1z ?_
     refine c7 (l1 Tryd.isAgg37 (I.bring 1) rfl) ?_
     refine f7 Tryd.call43 (h g0 a7K a7L b6X) ((I.bring 2).bring 1) ?_
     rintro _ _ _ df ac _ _ ⟨dg, dh, ax, ay, rfl, rfl, az, h⟩
     refine c5 a2W ?_
     refine c7 (l1 Tryd.isAgg37 (ac.bring 2) rfl) ?_
     refine f7 Tryd.call43 (h g0 ax ay az) ((ac.bring 1).bring 1) ?_
     rintro _ ba _ di bb _ _ ⟨dj, bc, bd, be, rfl, rfl, bf, h⟩
     exact hx2 _ _ (hj2 bc bd be ba _ bf (((bb.bring 2).drop.bring 1).bring 1) h)
    refine p8 fun j5 hx5 => ?_
    refine c5 a3T ?_
    refine c7 (l1 Tryd.isAgg23 (I.bring 1) rfl) ?_
    refine c5 (a1v _ _ _) ?_
    obtain ⟨u, i, bg, bh⟩ := h
    refine D1 (J := fun n l w => ∃ (s : Int × (List d5)) (H : Hp) (a6a : Sl) (a6b : Frag) , n = i s ∧ l = (match s with | (a1g, X1) => [(vi a1g)]) ∧ (match s with | (a1g, X1) => RowL 106 2 r5 a6a X1 a6b) ∧ (match s with | (a1g, X1) => Inv w0 ps0 H0 H [bx g0 103 [(vs a6a)], bx f 39 (m5 d), a6b] w) ∧ u s H) ⟨_, (0, a4y), H, a7I, a7J, rfl, rfl, b6W, (((I.bring 2).bring 2).bring 2), bg⟩ ?_
    rintro dk dl w next6 ⟨⟨a1g, X1⟩, H, a6a, a6b, rfl, v, a9y, I, bi⟩ hn6
    dsimp only at v I a9y
    simp only [List.map_cons, List.map_nil, List.cons.injEq, and_true] at v
    have e60 := v
    simp only [e60]
    obtain ⟨n6, hm6, h⟩ : ∃ n6 : (Int × (List d5)) → Hp → Prop, (∀ s' H', n6 s' H' → u s' H' ∧ i s' < i (a1g, X1)) ∧ K7 x1 (x1.n : Int) L1 d.i8 (d.i8.n : Int) d a1g X1 H n1 n6 K := ⟨_, fun _ _ h => h, bh (a1g, X1) H (fun s' H' => u s' H' ∧ i s' < i (a1g, X1)) bi (fun _ _ a b => ⟨a, b⟩)⟩
    unfold b5J
    unfold K7 at h
    refine c5 (v8 _ _ _ _ _ _) ?_
    refine d6 h (fun _ h => ?_) (fun _ h => ?_)
    ·obtain ⟨bj, bk, ad, y, h⟩ := h
     obtain ⟨dm, dn, bl, y⟩ := y
     refine c5 (a0Y bl _ _ _ _ bj bk) ?_
     refine c7 (ldA (vs := (i6 ad)) Tryd.isAgg25 Tryd.sizeOf25 rfl (I.atH y)) ?_
     refine o3 I Tryd.zeroValue25 (cs := [(vi 0), (vi 0), (Value.string ⟨#[]⟩), (Value.slice none 0 0)]) rfl fun dp dq bm dr => ?_
     refine o8 bm Tryd.sizeOf25 (vs := (i6 ad)) fun ds ae dt => ?_
     refine c7 (lW Tryd.isAgg25 Tryd.sizeOf25 rfl ae) ?_
     refine f7 Tryd.call51 (h g0 a6a a6b a9y) ((ae.bring 3).bring 2) ?_
     rintro _ bn _ du bo _ _ ⟨dv, bp, bq, br, rfl, rfl, bs, h⟩
     refine c5 (s6 _ _ _ _ _ _) ?_
     exact hn6 _ _ _ (hm6 _ _ h).2 ⟨((IntKind.wrap .i64 (a1g + 1)), bp), bn, bq, br, rfl, rfl, bs, ((((bo.bring 2).drop.bring 1).bring 2).bring 2), (hm6 _ _ h).1⟩
    ·exact hx5 _ _ (hj5 X1 a6a a6b H _ a9y (((I.bring 2).bring 2).bring 2) h)
   refine p8 fun j4 hx4 => ?_
   refine c5 a1B ?_
   refine c7 (l1 Tryd.isAgg36 (I.bring 1) rfl) ?_
   refine c5 (a4F _ _ _) ?_
   obtain ⟨z, j, bt, bu⟩ := h
   refine D1 (J := fun n l w => ∃ (s : Int × (List d5)) (H : Hp) (a6c : Sl) (a6d : Frag) , n = j s ∧ l = (match s with | (a1h, X2) => [(vi a1h)]) ∧ (match s with | (a1h, X2) => RowL 106 2 r5 a6c X2 a6d) ∧ (match s with | (a1h, X2) => Inv w0 ps0 H0 H [bx g0 103 [(vs a6c)], bx f 39 (m5 d), a6d] w) ∧ z s H) ⟨_, (0, a4z), H, a7G, a7H, rfl, rfl, b6V, (((I.bring 2).bring 2).bring 2), bt⟩ ?_
   rintro dw dx w next7 ⟨⟨a1h, X2⟩, H, a6c, a6d, rfl, aa, a9z, I, bv⟩ hn7
   dsimp only at aa I a9z
   simp only [List.map_cons, List.map_nil, List.cons.injEq, and_true] at aa
   have e49 := aa
   simp only [e49]
   obtain ⟨n7, hm7, h⟩ : ∃ n7 : (Int × (List d5)) → Hp → Prop, (∀ s' H', n7 s' H' → z s' H' ∧ j s' < j (a1h, X2)) ∧ K9 x1 (x1.n : Int) L1 d.q9 (d.q9.n : Int) d a1h X2 H n1 n7 K := ⟨_, fun _ _ h => h, bu (a1h, X2) H (fun s' H' => z s' H' ∧ j s' < j (a1h, X2)) bv (fun _ _ a b => ⟨a, b⟩)⟩
   unfold b5K
   unfold K9 at h
   refine c5 (v8 _ _ _ _ _ _) ?_
   refine d6 h (fun _ h => ?_) (fun _ h => ?_)
   ·obtain ⟨bw, bz, af, ab, h⟩ := h
    obtain ⟨dy, dz, ca, ab⟩ := ab
    refine c5 (W0 ca _ _ _ _ bw bz) ?_
    refine c7 (ldA (vs := (l7 af)) Tryd.isAgg89 Tryd.sizeOf89 rfl (I.atH ab)) ?_
    refine o3 I Tryd.zeroValue89 (cs := [(vi 0), (vi 0), (Value.slice none 0 0), (Value.slice none 0 0)]) rfl fun ea eb cb ec => ?_
    refine o8 cb Tryd.sizeOf89 (vs := (l7 af)) fun ed ag ee => ?_
    refine c7 (lW Tryd.isAgg89 Tryd.sizeOf89 rfl ag) ?_
    refine f7 Tryd.call50 (h g0 a6c a6d a9z) ((ag.bring 3).bring 2) ?_
    rintro _ cc _ ef cd _ _ ⟨eg, ce, cf, cg, rfl, rfl, ch, h⟩
    refine c5 (s6 _ _ _ _ _ _) ?_
    exact hn7 _ _ _ (hm7 _ _ h).2 ⟨((IntKind.wrap .i64 (a1h + 1)), ce), cc, cf, cg, rfl, rfl, ch, ((((cd.bring 2).drop.bring 1).bring 2).bring 2), (hm7 _ _ h).1⟩
   ·exact hx4 _ _ (hj4 X2 a6c a6d H _ a9z (((I.bring 2).bring 2).bring 2) h)
  refine p8 fun j3 hx3 => ?_
  refine c5 a3S ?_
  refine c7 (l1 Tryd.isAgg3 k rfl) ?_
  refine c5 (f9 _ _ _ _ _ _) ?_
  refine d6 h (fun _ h => ?_) (fun _ h => ?_)
  ·refine L5 k fun eh m => ?_
   refine d7 (p5 _) ?_
   refine d7 T5 ?_
   refine d7 a0R ?_
   refine o4 (l1 Tryd.isAgg101 (m.bring 1) rfl) ?_
   refine o4 (l1 Tryd.isAgg9 m rfl) ?_
   refine d7 (a2Z _ _) ?_
   refine X8 (e := 106) (c := r5) (xs := [(d5.mk d.g7 1)]) m (a7q _ _) rfl rfl a1Z a2b (nb rfl) fun ei ej ek ci ah cj => ?_
   refine ⟨(cj _ (m.bring 1).lt1), ?_⟩
   obtain ⟨ck, h⟩ := h
   refine a8J (s := a3E) (xs := E2) (ah.bring 3) a5Z (ci.srcO ((ah.bring 3).bring 1)) ck fun ai cl el cm cn em => ?_
   refine d7 (p5 _) ?_
   refine d7 T5 ?_
   refine o8 ((cn.bring 1).drop.bring 2) Tryd.sizeOf101 (vs := [(vs ai)]) fun en co eo => ?_
   exact hx3 _ _ (hj3 (E2 ++ [(d5.mk d.g7 1)]) ai cl H _ cm (((co.bring 1).bring 2).bring 2) h)
  ·refine c5 (f9 _ _ _ _ _ _) ?_
   refine d6 h (fun _ h => ?_) (fun _ h => ?_)
   ·refine L5 k fun ep o => ?_
    refine d7 (p5 _) ?_
    refine d7 T5 ?_
    refine d7 a0R ?_
    refine o4 (l1 Tryd.isAgg101 (o.bring 1) rfl) ?_
    refine o4 (l1 Tryd.isAgg9 o rfl) ?_
    refine d7 (a2Z _ _) ?_
    refine X8 (e := 106) (c := r5) (xs := [(d5.mk d.g7 2)]) o (a7q _ _) rfl rfl a1Z a2b (nb rfl) fun eq er es cp aj cq => ?_
    refine ⟨(cq _ (o.bring 1).lt1), ?_⟩
    obtain ⟨cr, h⟩ := h
    refine a8J (s := a3E) (xs := E2) (aj.bring 3) a5Z (cp.srcO ((aj.bring 3).bring 1)) cr fun ak ct et cu cv eu => ?_
    refine d7 (p5 _) ?_
    refine d7 T5 ?_
    refine o8 ((cv.bring 1).drop.bring 2) Tryd.sizeOf101 (vs := [(vs ak)]) fun ev cw ew => ?_
    exact hx3 _ _ (hj3 (E2 ++ [(d5.mk d.g7 2)]) ak ct H _ cu (((cw.bring 1).bring 2).bring 2) h)
   ·exact hx3 _ _ (hj3 E2 a3E a5Y H _ a5Z (((k.bring 2).bring 1).bring 2) h)
 ·exact hR _ H _ _ ((I.bring 1).bring 1) ⟨(g8.mk (Sl.mk none 0 0)), E2, a3E, a5Y, rfl, rfl, a5Z, h⟩
def a0x (x0 : M7) (H : Hp) (K : Sl → Hp → Prop) : Prop :=
 K (Sl.mk none 0 0) H
theorem a6e (x0 : M7) {H : Hp} {K : Sl → Hp → Prop} (h : a0x x0 H K) : a2D x0 H K := by
 refine Ct.of fun w0 w ps0 H0 R E I hR => c0O ?_
 unfold a0x at h
 unfold F92
 refine A5 I (cs := (g9 x0.P6)) rfl fun b c a d => ?_
 exact hR _ H _ _ a.drop ⟨(Sl.mk none 0 0), rfl, rfl, h⟩
def a1Q (x0 : m3) (H : Hp) (K : d2 → Hp → Prop) : Prop :=
 K (d2.z8 (C7.mk x0)) H
theorem a7M (x0 : m3) {H : Hp} {K : d2 → Hp → Prop} (h : a1Q x0 H K) : a4b x0 H K := by
 refine Ct.of fun w0 w ps0 H0 R E I hR => c0U ?_
 unfold a1Q at h
 unfold F98
 refine A5 I (cs := (i6 x0)) rfl fun b c a d => ?_
 refine c7 (lW Tryd.isAgg25 Tryd.sizeOf25 rfl a) ?_
 refine c5 (b1V _ _ _ _ _ _) ?_
 refine c5 (a6K (C7.mk x0)) ?_
 exact hR _ H _ _ a.drop ⟨(d2.z8 (C7.mk x0)), rfl, rfl, h⟩
end Go.Proofs.YtaokfhdinhimfaaDoor
