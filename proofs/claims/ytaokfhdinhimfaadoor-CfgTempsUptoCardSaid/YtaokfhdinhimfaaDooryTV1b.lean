/- Typed formulas of the program's functions, and the theorems that the contracts follow from them; printed by lift.py off the code. -/
import Derived.Test.YtaokfhdinhimfaaDooryTV1
namespace Go.Proofs.YtaokfhdinhimfaaDoor
open Go.RowKit
set_option maxRecDepth 100000
set_option maxHeartbeats 2000000
def T5 (H : Hp) (K : Bool → Hp → Prop) : Prop :=
 ∀ (d : Sl) (e : Hp), Hle H e → SlH e 6 l0 d [(l9.mk 7 ⟨#[]⟩ (Sl.mk none 0 0) (Sl.mk none 0 0) (Sl.mk none 0 0) (Sl.mk none 0 0))] → d.n ≤ d.c →
 a0K (o8.mk (Sl.mk none 0 0) d) e (fun b f g =>
 ∃ a : c8, (((((decide (f = 0)) && (decide (b.y1 = 2))) && (decide (b.B5 = 1))) && (decide ((b.Z8.n : Int) = 1))) = true → (0 : Int) ≤ 0 ∧ (0 : Int) < b.Z8.n ∧ EltH g b.Z8 0 10 (g9 a)) ∧
 K (((((decide (f = 0)) && (decide (b.y1 = 2))) && (decide (b.B5 = 1))) && (decide ((b.Z8.n : Int) = 1))) && (decide (a.P7 = 0 ∧ a.fTo = 1 ∧ a.d5 = 1 ∧ a.a1D = (-1) ∧ a.Y2 = (-1) ∧ a.fOp = 0 ∧ a.fA.E7 = (-1) ∧ a.fA.v8 = 0 ∧ a.fB.E7 = (-1) ∧ a.fB.v8 = 0))) g)
theorem a3u {H : Hp} {K : Bool → Hp → Prop} (h : T5 H K) : T1 H K := by
 refine Ct.of fun w0 w ps0 H0 R E I hR => b7x ?_
 unfold T5 at h
 unfold F6
 refine c5 (b0s _) ?_
 refine V2 (e := 39) (c := l0) (xs := [(l9.mk 7 ⟨#[]⟩ (Sl.mk none 0 0) (Sl.mk none 0 0) (Sl.mk none 0 0) (Sl.mk none 0 0))]) I (b0H _ _ _ _ _ _ _ _ _ _ _ _ _ _) rfl rfl a5J a5K (nb rfl) fun k y z l m aa => ?_
 refine c5 (b0t _ _ _) ?_
 obtain ⟨o, p, q, r, s⟩ := Inv.freezeC m l (by decide)
 replace h := h k o q r s
 refine f5 Tryd.call7 h p ?_
 rintro _ t _ ab u _ _ ⟨i, j, rfl, rfl, h⟩
 refine c5 (g8 _ _ _ rfl) ?_
 refine c5 (g8 _ _ (vi j) rfl) ?_
 refine o9 u Tryd.zeroValue30 (cs := [(Value.slice none 0 0), (vi 0), (Value.slice none 0 0), (vi 0), (vi 0), (Value.slice none 0 0)]) rfl fun ac ad v ae => ?_
 refine s8 v Tryd.sizeOf30 (vs := (A4 i)) fun af d ag => ?_
 refine c5 (f9 _ _ _ _ _ _) ?_
 refine c5 (Pu.g fun hb => by have a := hb; with_reducible exact a1b) ?_
 refine d3 (Ld.g fun hb => by have a := hb; simp only [m6 a]; exact (l1 Tryd.isAgg3 d rfl)) ?_
 refine c5 (Pu.g fun hb => by have a := hb; simp only [m6 a]; with_reducible exact (f9 _ _ _ _ _ _)) ?_
 refine c5 (E6 _ _) ?_
 refine c5 (Pu.g fun hb => by have a := hb; with_reducible exact a3o) ?_
 refine d3 (Ld.g fun hb => by have a := hb; simp only [m6 a]; exact (l1 Tryd.isAgg3 d rfl)) ?_
 refine c5 (Pu.g fun hb => by have a := hb; simp only [m6 a]; with_reducible exact (f9 _ _ _ _ _ _)) ?_
 refine c5 (E6 _ _) ?_
 refine c5 (Pu.g fun hb => by have a := hb; with_reducible exact a0Z) ?_
 refine d3 (Ld.g fun hb => by have a := hb; simp only [m6 a]; exact (l1 Tryd.isAgg28 d rfl)) ?_
 refine c5 (Pu.g fun hb => by have a := hb; simp only [m6 a]; with_reducible exact (a8n _ _ _)) ?_
 refine c5 (Pu.g fun hb => by have a := hb; simp only [m6 a]; with_reducible exact (f9 _ _ _ _ _ _)) ?_
 refine c5 (E6 _ _) ?_
 refine c5 (Pu.g fun hb => by have a := hb; with_reducible exact a0Z) ?_
 refine d3 (Ld.g fun hb => by have a := hb; simp only [m6 a]; exact (l1 Tryd.isAgg28 d rfl)) ?_
 obtain ⟨f, b, h⟩ := h
 obtain ⟨ah, ai, b⟩ := b3Q b
 refine c5 (Pu.g fun hb => by have a := hb; simp only [m6 a]; with_reducible exact (b3d (b hb).2.2.1 _ _ _ _ (b hb).1 (b hb).2.1)) ?_
 refine d3 (Ld.g fun hb => by have a := hb; simp only [m6 a]; exact (ldA (vs := (g9 f)) Tryd.isAgg46 Tryd.sizeOf46 rfl (d.atH (b hb).2.2.2))) ?_
 refine c5 (Pu.g fun hb => by have a := hb; with_reducible exact (a1y _)) ?_
 refine c5 (Pu.g fun hb => by have a := hb; with_reducible exact (a1y _)) ?_
 refine c5 (Pu.g fun hb => by have a := hb; simp only [m6 a]; with_reducible exact (a4H _ _ _ _ _ _ _ _)) ?_
 refine c5 (Pu.g fun hb => by have a := hb; simp only [m6 a]; with_reducible exact (b3e _ _ _ _ _ _ _ _ _ _ _ _ _ _ _ _ _ _ _ _ _ _)) ?_
 refine c5 (E6 _ _) ?_
 exact hR _ t _ _ d.drop ⟨(((((decide (j = 0)) && (decide (i.y1 = 2))) && (decide (i.B5 = 1))) && (decide ((i.Z8.n : Int) = 1))) && (decide (f.P7 = 0 ∧ f.fTo = 1 ∧ f.d5 = 1 ∧ f.a1D = (-1) ∧ f.Y2 = (-1) ∧ f.fOp = 0 ∧ f.fA.E7 = (-1) ∧ f.fA.v8 = 0 ∧ f.fB.E7 = (-1) ∧ f.fB.v8 = 0))), rfl, rfl, h⟩
def a2e (H : Hp) (K : j7 → Hp → Prop) : Prop :=
 K (j7.mk (-1) 0) H
theorem a5k {H : Hp} {K : j7 → Hp → Prop} (h : a2e H K) : N5 H K := by
 refine Ct.of fun w0 w ps0 H0 R E I hR => b5T ?_
 unfold a2e at h
 unfold F39
 refine o9 I Tryd.zeroValue44 (cs := [(vi 0), (vi 0)]) rfl fun c d b e => ?_
 refine c5 (a1y _) ?_
 refine s8 b Tryd.sizeOf44 (vs := [(vi (-1)), (vi 0)]) fun f a g => ?_
 refine R0 Tryd.isAgg44 Tryd.sizeOf44 rfl a ?_
 exact hR _ H _ _ a.drop ⟨(j7.mk (-1) 0), rfl, rfl, h⟩
def D6 (a : c8) (a2O : Sl) (a2P : Int) (a2Q : Sl) (a2R : Int) (a2S : Int) (b1m : (List c8)) (a4M : (Option Nat)) (a4N : (Option Nat)) (e : d8) (H : Hp) (K : d2 → (List c8) → Hp → Prop) : Prop :=
 o5 (d2.mk (D3.mk a2O a2P a2Q a2R a2S (Sl.mk none 0 0)) a4M a4N) b1m a H (fun b c d =>
 K (c6 b) c d)
def y4 (a : c8) (J4 : Sl) (J5 : Int) (J6 : Sl) (J7 : Int) (J8 : Int) (G4 : (List c8)) (E1 : (Option Nat)) (D7 : (Option Nat)) (b : d8) (H : Hp) (K : d2 → (List c8) → Hp → Prop) : Prop :=
 (b.d5 = 4 →
 ∃ c : List (ByteArray × Int), MapH H (fun s : ByteArray => Value.string s) (fun n : Int => Value.int .i64 n) D7 c ∧
 D6 (c8.mk a.P7 a.fTo a.d5 a.a1D ((lk b.f0 c).getD 0) a.fOp a.fA a.fB) J4 J5 J6 J7 J8 G4 E1 D7 b H K) ∧
 (¬ (b.d5 = 4) →
 D6 a J4 J5 J6 J7 J8 G4 E1 D7 b H K)
def T6 (x0 : d2) (e : (List c8)) (x1 : d8) (x2 : Int) (x3 : Int) (x4 : Int) (x5 : Int) (H : Hp) (K : d2 → (List c8) → Hp → Prop) : Prop :=
 a0B x1.d5 H (fun g i =>
 B1 x3 x4 g i (fun a d =>
 ((x1.u5.n : Int) = 1 →
 (0 : Int) ≤ 0 ∧ (0 : Int) < x1.u5.n ∧ ∃ f : d8, EltH d x1.u5 0 4 (d9 f) ∧
 D5 (c6 x0) e f x3 x5 d (fun j k b l m =>
 y4 (c8.mk k a.fTo a.d5 x2 a.Y2 a.fOp j a.fB) b.fc.u6 b.fc.C5 b.fc.z8 b.fc.y1 b.fc.B5 l b.fvars b.farrays x1 m K)) ∧
 (¬ ((x1.u5.n : Int) = 1) →
 ((x1.u5.n : Int) = 2 →
 J3 (c6 x0) e x1.u5 x3 x5 d (fun o p q c r s =>
 y4 (c8.mk q a.fTo a.d5 x2 a.Y2 a.fOp o p) c.fc.u6 c.fc.C5 c.fc.z8 c.fc.y1 c.fc.B5 r c.fvars c.farrays x1 s K)) ∧
 (¬ ((x1.u5.n : Int) = 2) →
 y4 (c8.mk a.P7 a.fTo a.d5 x2 a.Y2 a.fOp a.fA a.fB) x0.fc.u6 x0.fc.C5 x0.fc.z8 x0.fc.y1 x0.fc.B5 e x0.fvars x0.farrays x1 d K))))
theorem a3v (x0 : d2) (l : (List c8)) (x1 : d8) (x2 : Int) (x3 : Int) (x4 : Int) (x5 : Int) {H : Hp} {K : d2 → (List c8) → Hp → Prop} (h : T6 x0 l x1 x2 x3 x4 x5 H K) : M1 x0 l x1 x2 x3 x4 x5 H K := by
 intro g0 m n o
 refine Ct.of fun w0 w ps0 H0 R E I hR => b6a ?_
 unfold T6 at h
 unfold F46
 refine B8 I (cs := (d9 x1)) rfl fun p bk s bl => ?_
 refine c5 N4 ?_
 refine d3 (l1 Tryd.isAgg3 s rfl) ?_
 refine f5 Tryd.call52 h s ?_
 rintro _ bm _ bn v _ _ ⟨bo, rfl, rfl, h⟩
 refine f5 Tryd.call29 h v ?_
 rintro _ y _ bp aa _ _ ⟨a, rfl, rfl, h⟩
 refine o9 aa Tryd.zeroValue46 (cs := [(vi 0), (vi 0), (vi 0), (vi 0), (vi 0), (vi 0), (vi 0), (vi 0), (vi 0), (vi 0)]) rfl fun g bq ab br => ?_
 refine s8 ab Tryd.sizeOf46 (vs := (g9 a)) fun bs ac bt => ?_
 refine c5 a7r ?_
 refine N0 ac Tryd.sizeOf3 fun bu c bv => ?_
 have hj1 : ∀ (b : c8) (J4 : Sl) (J5 : Int) (J6 : Sl) (J7 : Int) (J8 : Int) (G4 : (List c8)) (E1 : (Option Nat)) (D7 : (Option Nat)) (Q0 : Sl) (Q1 : Frag) (H : Hp) (w : World) (_ : RowL 46 10 g9 Q0 G4 Q1) (_ : Inv w0 ps0 H0 H [bx g 46 (g9 b), bx g0 59 [(vs J4), (vi J5), (vs J6), (vi J7), (vi J8), (vs Q0), (Value.map E1), (Value.map D7)], bx p 25 (d9 x1), Q1] w) (_ : y4 b J4 J5 J6 J7 J8 G4 E1 D7 x1 H K), a9v (Value.pointer (some ⟨g0, 0, none⟩)) (Value.pointer (some ⟨p, 0, none⟩)) (Value.pointer (some ⟨g, 0, none⟩)) w R E := by
  intro b J4 J5 J6 J7 J8 G4 E1 D7 Q0 Q1 H w a5l I h
  unfold a9v
  intro _
  unfold y4 at h
  have hj2 : ∀ (q : c8) (a2O : Sl) (a2P : Int) (a2Q : Sl) (a2R : Int) (a2S : Int) (a4M : (Option Nat)) (a4N : (Option Nat)) (H : Hp) (w : World) (_ : Inv w0 ps0 H0 H [bx g 46 (g9 q), bx g0 59 [(vs a2O), (vi a2P), (vs a2Q), (vi a2R), (vi a2S), (vs Q0), (Value.map a4M), (Value.map a4N)], bx p 25 (d9 x1), Q1] w) (_ : D6 q a2O a2P a2Q a2R a2S G4 a4M a4N x1 H K), a9u (Value.pointer (some ⟨g0, 0, none⟩)) (Value.pointer (some ⟨g, 0, none⟩)) w R E := by
   intro q a2O a2P a2Q a2R a2S a4M a4N H w I h
   unfold a9u
   intro _
   unfold D6 at h
   refine d3 (lW Tryd.isAgg46 Tryd.sizeOf46 rfl I) ?_
   refine f5 Tryd.call31 (h g0 Q0 Q1 a5l) ((I.bring 3).bring 2) ?_
   rintro _ ad _ bw ae _ _ ⟨af, ag, ah, ai, rfl, rfl, aj, h⟩
   exact hR _ ad _ _ ((((ae.bring 2).drop.bring 2).drop.bring 1).bring 1) ⟨(c6 af), ag, ah, ai, rfl, rfl, aj, h⟩
  refine s7 fun j2 hx2 => ?_
  refine c5 N4 ?_
  refine d3 (l1 Tryd.isAgg3 (I.bring 2) rfl) ?_
  refine c5 (f9 _ _ _ _ _ _) ?_
  refine d7 h (fun _ h => ?_) (fun _ h => ?_)
  ·refine M9 I fun bz i => ?_
   refine f6 (m3 _) ?_
   refine f6 a5c ?_
   refine f6 a1e ?_
   refine p5 (l1 Tryd.isAgg57 (i.bring 1) rfl) ?_
   refine p5 (l1 Tryd.isAgg9 (i.bring 2) rfl) ?_
   obtain ⟨ak, al, h⟩ := h
   refine a4Z (keyS Tryd.underlying9) Tryd.underlying57 (z := 0) Tryd.zeroValue3 i al x1.f0 ?_
   refine f6 a7u ?_
   refine N0 i Tryd.sizeOf3 fun ca am cb => ?_
   exact hx2 _ _ (hj2 (c8.mk b.P7 b.fTo b.d5 b.a1D ((lk x1.f0 ak).getD 0) b.fOp b.fA b.fB) J4 J5 J6 J7 J8 E1 D7 H _ ((((am.bring 3).bring 3).bring 3).bring 3) h)
  ·exact hx2 _ _ (hj2 b J4 J5 J6 J7 J8 E1 D7 H _ ((((I.bring 3).bring 3).bring 3).bring 3) h)
 refine s7 fun j1 hx1 => ?_
 refine c5 X8 ?_
 refine d3 (l1 Tryd.isAgg23 (c.bring 1) rfl) ?_
 refine c5 (a0d _ _ _) ?_
 refine c5 (f9 _ _ _ _ _ _) ?_
 refine d7 h (fun _ h => ?_) (fun _ h => ?_)
 ·refine c5 X8 ?_
  refine d3 (l1 Tryd.isAgg23 (c.bring 1) rfl) ?_
  obtain ⟨an, ao, ap, r, h⟩ := h
  obtain ⟨cc, cd, aq, r⟩ := r
  refine c5 (Y3 aq _ _ _ _ an ao) ?_
  refine d3 (ldA (vs := (d9 ap)) Tryd.isAgg25 Tryd.sizeOf25 rfl (c.atH r)) ?_
  refine f5 Tryd.call47 (h g0 m n o) ((c.bring 3).bring 3) ?_
  rintro _ ar _ ce au _ _ ⟨j, t, d, av, aw, ax, rfl, rfl, ay, h⟩
  refine c5 (g8 _ _ _ rfl) ?_
  refine c5 (g8 _ _ (vi t) rfl) ?_
  refine c5 a1V ?_
  refine U5 (au.bring 2) Tryd.sizeOf44 (vs := (m1 j)) (cs' := [(vi a.P7), (vi a.fTo), (vi a.d5), (vi x2), (vi a.Y2), (vi a.fOp), (vi j.E7), (vi j.v8), (vi a.fB.E7), (vi a.fB.v8)]) rfl rfl (nb rfl) rfl rfl fun cf az cg => ?_
  refine c5 a5a ?_
  refine N0 az Tryd.sizeOf3 fun ch ba ci => ?_
  exact hx1 _ _ (hj1 (c8.mk t a.fTo a.d5 x2 a.Y2 a.fOp j a.fB) d.fc.u6 d.fc.C5 d.fc.z8 d.fc.y1 d.fc.B5 av d.fvars d.farrays aw ax ar _ ay ((((ba.bring 2).bring 3).bring 3).bring 3) h)
 ·refine c5 (f9 _ _ _ _ _ _) ?_
  refine d7 h (fun _ h => ?_) (fun _ h => ?_)
  ·refine c5 X8 ?_
   refine d3 (l1 Tryd.isAgg23 (c.bring 1) rfl) ?_
   refine f5 Tryd.call30 (h g0 m n o) ((c.bring 3).bring 3) ?_
   rintro _ bb _ cj bc _ _ ⟨f, k, u, e, bd, be, bf, rfl, rfl, bg, h⟩
   refine c5 (g8 _ _ _ rfl) ?_
   refine c5 (g8 _ _ _ rfl) ?_
   refine c5 (g8 _ _ (vi u) rfl) ?_
   refine c5 a1V ?_
   refine U5 (bc.bring 2) Tryd.sizeOf44 (vs := (m1 f)) (cs' := [(vi a.P7), (vi a.fTo), (vi a.d5), (vi x2), (vi a.Y2), (vi a.fOp), (vi f.E7), (vi f.v8), (vi a.fB.E7), (vi a.fB.v8)]) rfl rfl (nb rfl) rfl rfl fun ck bh cl => ?_
   refine c5 a5d ?_
   refine U5 bh Tryd.sizeOf44 (vs := (m1 k)) (cs' := [(vi a.P7), (vi a.fTo), (vi a.d5), (vi x2), (vi a.Y2), (vi a.fOp), (vi f.E7), (vi f.v8), (vi k.E7), (vi k.v8)]) rfl rfl (nb rfl) rfl rfl fun cm bi cn => ?_
   refine c5 a5a ?_
   refine N0 bi Tryd.sizeOf3 fun co bj cp => ?_
   exact hx1 _ _ (hj1 (c8.mk u a.fTo a.d5 x2 a.Y2 a.fOp f k) e.fc.u6 e.fc.C5 e.fc.z8 e.fc.y1 e.fc.B5 bd e.fvars e.farrays be bf bb _ bg ((((bj.bring 2).bring 3).bring 3).bring 3) h)
  ·exact hx1 _ _ (hj1 (c8.mk a.P7 a.fTo a.d5 x2 a.Y2 a.fOp a.fA a.fB) x0.fc.u6 x0.fc.C5 x0.fc.z8 x0.fc.y1 x0.fc.B5 l x0.fvars x0.farrays m n y _ o ((((c.bring 3).bring 2).bring 3).bring 3) h)
def Q7 (x0 : d2) (b : (List c8)) (x1 : Int) (x2 : d8) (x3 : Int) (x4 : Int) (H : Hp) (K : d2 → (List c8) → Hp → Prop) : Prop :=
 L0 (c6 x0) b x2 H (fun e c d =>
 ((!c) = true →
 M1 (c6 x0) b x2 x1 x3 x4 0 d (fun f g i =>
 K (c6 f) g i)) ∧
 ((!c) = false →
 B1 x3 x4 2 d (fun a j =>
 o5 (c6 x0) b (c8.mk a.P7 a.fTo a.d5 x1 a.Y2 a.fOp e a.fB) j (fun k l m =>
 K (c6 k) l m))))
theorem a2T (x0 : d2) (i : (List c8)) (x1 : Int) (x2 : d8) (x3 : Int) (x4 : Int) {H : Hp} {K : d2 → (List c8) → Hp → Prop} (h : Q7 x0 i x1 x2 x3 x4 H K) : Q4 x0 i x1 x2 x3 x4 H K := by
 intro g0 c d e
 refine Ct.of fun w0 w ps0 H0 R E I hR => b5N ?_
 unfold Q7 at h
 unfold F28
 refine B8 I (cs := (d9 x2)) rfl fun ak al j am => ?_
 refine d3 (lW Tryd.isAgg25 Tryd.sizeOf25 rfl j) ?_
 refine f5 Tryd.call45 (h g0 c d e) ((j.bring 2).bring 2) ?_
 rintro _ _ _ an l _ _ ⟨b, m, rfl, rfl, h⟩
 refine c5 (g8 _ _ _ rfl) ?_
 refine c5 (g8 _ _ (Value.bool m) rfl) ?_
 refine o9 l Tryd.zeroValue44 (cs := [(vi 0), (vi 0)]) rfl fun ao ap n aq => ?_
 refine s8 n Tryd.sizeOf44 (vs := (m1 b)) fun ar f au => ?_
 refine c5 (V1 _) ?_
 refine r7 h (fun _ h => ?_) (fun _ h => ?_)
 ·refine d3 (lW Tryd.isAgg25 Tryd.sizeOf25 rfl (f.bring 3)) ?_
  refine f5 Tryd.call46 (h g0 c d e) ((f.bring 2).bring 2) ?_
  rintro _ p _ av q _ _ ⟨r, s, t, u, rfl, rfl, v, h⟩
  exact hR _ p _ _ ((((q.bring 2).drop.bring 2).drop.bring 1).bring 1) ⟨(c6 r), s, t, u, rfl, rfl, v, h⟩
 ·refine f5 Tryd.call29 h f ?_
  rintro _ _ _ aw y _ _ ⟨a, rfl, rfl, h⟩
  refine o9 y Tryd.zeroValue46 (cs := [(vi 0), (vi 0), (vi 0), (vi 0), (vi 0), (vi 0), (vi 0), (vi 0), (vi 0), (vi 0)]) rfl fun ax ay z az => ?_
  refine s8 z Tryd.sizeOf46 (vs := (g9 a)) fun ba aa bb => ?_
  refine M9 aa fun bc g => ?_
  refine f6 a7r ?_
  refine p5 (lW Tryd.isAgg44 Tryd.sizeOf44 rfl (g.bring 1)) ?_
  refine N0 g Tryd.sizeOf3 fun bd ab ac => ?_
  refine ⟨(ac _ (Inv.a8U ((g.bring 1).bring 1))), ?_⟩
  refine f6 a1V ?_
  refine U5 ab Tryd.sizeOf44 (vs := (m1 b)) (cs' := [(vi a.P7), (vi a.fTo), (vi a.d5), (vi x1), (vi a.Y2), (vi a.fOp), (vi b.E7), (vi b.v8), (vi a.fB.E7), (vi a.fB.v8)]) rfl rfl (nb rfl) rfl rfl fun be k bf => ?_
  refine d3 (ldA Tryd.isAgg46 Tryd.sizeOf46 rfl (k.at1 (o := 0) (vs := [(vi a.P7), (vi a.fTo), (vi a.d5), (vi x1), (vi a.Y2), (vi a.fOp), (vi b.E7), (vi b.v8), (vi a.fB.E7), (vi a.fB.v8)]) (nb rfl) rfl)) ?_
  refine f5 Tryd.call31 (h g0 c d e) ((k.bring 3).bring 3) ?_
  rintro _ ad _ bg ae _ _ ⟨af, ag, ah, ai, rfl, rfl, aj, h⟩
  exact hR _ ad _ _ (((((ae.bring 2).drop.bring 2).drop.bring 2).drop.bring 1).bring 1) ⟨(c6 af), ag, ah, ai, rfl, rfl, aj, h⟩
def T7 (x0 : d2) (a : (List c8)) (x1 : l9) (x2 : Int) (x3 : Int) (H : Hp) (K : d2 → (List c8) → Hp → Prop) : Prop :=
 (x1.d5 = 1 →
 ∃ c : List (ByteArray × Int), MapH H (fun s : ByteArray => Value.string s) (fun n : Int => Value.int .i64 n) x0.fvars c ∧
 (0 : Int) ≤ 0 ∧ (0 : Int) < x1.g5.n ∧ ∃ d : d8, EltH H x1.g5 0 4 (d9 d) ∧
 Q4 (c6 x0) a ((lk x1.f0 c).getD 0) d x2 x3 H (fun v y z =>
 K (c6 v) y z)) ∧
 (¬ (x1.d5 = 1) →
 (x1.d5 = 2 →
 B1 x2 x3 11 H (fun b e =>
 ∃ f : List (ByteArray × Int), MapH e (fun s : ByteArray => Value.string s) (fun n : Int => Value.int .i64 n) x0.farrays f ∧
 J3 (c6 x0) a x1.g5 x2 0 e (fun aa ab ac ad ae af =>
 o5 (c6 ad) ae (c8.mk ac b.fTo b.d5 b.a1D ((lk x1.f0 f).getD 0) b.fOp aa ab) af (fun ag ah ai =>
 K (c6 ag) ah ai)))) ∧
 (¬ (x1.d5 = 2) →
 (x1.d5 = 3 →
 D8 (c6 x0) a x1.E2 x3 H (fun g aj ak al =>
 D8 (c6 aj) ak x1.E3 x3 al (fun i am an j =>
 (0 : Int) ≤ 0 ∧ (0 : Int) < x1.o3.n ∧ ∃ k : m2, EltH j x1.o3 0 4 (i4 k) ∧
 p6 (c6 am) an k x2 g i j (fun ao ap aq =>
 B9 (c6 ao) ap x1.E2 g x3 aq (fun ar au av =>
 B9 (c6 ar) au x1.E3 i x3 av (fun aw ax ay =>
 K (c6 aw) ax ay)))))) ∧
 (¬ (x1.d5 = 3) →
 (x1.d5 = 4 →
 D8 (c6 x0) a x1.E2 x2 H (fun l az ba m =>
 (0 : Int) ≤ 0 ∧ (0 : Int) < x1.o3.n ∧ ∃ o : m2, EltH m x1.o3 0 4 (i4 o) ∧
 p6 (c6 az) ba o x2 l x3 m (fun bb bc bd =>
 B9 (c6 bb) bc x1.E2 l x2 bd (fun be bf bg =>
 K (c6 be) bf bg)))) ∧
 (¬ (x1.d5 = 4) →
 (x1.d5 = 5 →
 r6 (c6 x0) a H (fun p bh bi bj =>
 r6 (c6 bh) bi bj (fun q bk bl r =>
 (0 : Int) ≤ 0 ∧ (0 : Int) < x1.o3.n ∧ ∃ t : m2, EltH r x1.o3 0 4 (i4 t) ∧
 p6 (c6 bk) bl t x2 p q r (fun bm bn bo =>
 B1 p x3 13 bo (fun bp bq =>
 o5 (c6 bm) bn bp bq (fun br bs bt =>
 B1 q x3 14 bt (fun bu bv =>
 o5 (c6 br) bs bu bv (fun bw bz ca =>
 K (c6 bw) bz ca)))))))) ∧
 (¬ (x1.d5 = 5) →
 (x1.d5 = 6 →
 (0 : Int) ≤ 0 ∧ (0 : Int) < x1.o3.n ∧ ∃ u : m2, EltH H x1.o3 0 4 (i4 u) ∧
 p6 (c6 x0) a u x2 x3 x0.fc.B5 H (fun cb cc cd =>
 K (c6 cb) cc cd)) ∧
 (¬ (x1.d5 = 6) →
 B1 x2 x3 1 H (fun ce cf =>
 o5 (c6 x0) a ce cf (fun cg ch ci =>
 K (c6 cg) ch ci))))))))
theorem a3w (x0 : d2) (v : (List c8)) (x1 : l9) (x2 : Int) (x3 : Int) {H : Hp} {K : d2 → (List c8) → Hp → Prop} (h : T7 x0 v x1 x2 x3 H K) : T3 x0 v x1 x2 x3 H K := by
 intro g0 c d e
 refine Ct.of fun w0 w ps0 H0 R E I hR => b5H ?_
 unfold T7 at h
 unfold F19
 refine B8 I (cs := (l0 x1)) rfl fun ey ez b fa => ?_
 refine c5 a1T ?_
 refine d3 (l1 Tryd.isAgg3 b rfl) ?_
 refine c5 (f9 _ _ _ _ _ _) ?_
 refine d7 h (fun _ h => ?_) (fun _ h => ?_)
 ·refine M9 b fun fb g => ?_
  refine f6 (m3 _) ?_
  refine f6 a5b ?_
  refine f6 X7 ?_
  refine f6 a1U ?_
  refine p5 (l1 Tryd.isAgg57 (g.bring 1) rfl) ?_
  refine p5 (l1 Tryd.isAgg9 g rfl) ?_
  obtain ⟨fc, ag, h⟩ := h
  refine a4Z (keyS Tryd.underlying9) Tryd.underlying57 (z := 0) Tryd.zeroValue3 g ag x1.f0 ?_
  refine p5 (l1 Tryd.isAgg23 g rfl) ?_
  obtain ⟨ah, ai, aj, l, h⟩ := h
  obtain ⟨fd, fe, ak, l⟩ := l
  refine f6 (Y3 ak _ _ _ _ ah ai) ?_
  refine p5 (ldA (vs := (d9 aj)) Tryd.isAgg25 Tryd.sizeOf25 rfl (g.atH l)) ?_
  refine f5 Tryd.call28 (h g0 c d e) ((g.bring 2).bring 2) ?_
  rintro _ al _ ff am _ _ ⟨an, ao, ap, aq, rfl, rfl, ar, h⟩
  exact hR _ al _ _ (((am.bring 2).drop.bring 1).bring 1) ⟨(c6 an), ao, ap, aq, rfl, rfl, ar, h⟩
 ·refine c5 (f9 _ _ _ _ _ _) ?_
  refine d7 h (fun _ h => ?_) (fun _ h => ?_)
  ·refine f5 Tryd.call29 h b ?_
   rintro _ _ _ fg au _ _ ⟨a, rfl, rfl, h⟩
   refine o9 au Tryd.zeroValue46 (cs := [(vi 0), (vi 0), (vi 0), (vi 0), (vi 0), (vi 0), (vi 0), (vi 0), (vi 0), (vi 0)]) rfl fun fh fi av fj => ?_
   refine s8 av Tryd.sizeOf46 (vs := (g9 a)) fun fk aw fl => ?_
   refine M9 aw fun fm j => ?_
   refine f6 (m3 _) ?_
   refine f6 a5c ?_
   refine f6 X7 ?_
   refine p5 (l1 Tryd.isAgg57 (j.bring 2) rfl) ?_
   refine p5 (l1 Tryd.isAgg9 (j.bring 1) rfl) ?_
   obtain ⟨m, ax, h⟩ := h
   refine a4Z (keyS Tryd.underlying9) Tryd.underlying57 (z := 0) Tryd.zeroValue3 j ax x1.f0 ?_
   refine f6 a7u ?_
   refine N0 j Tryd.sizeOf3 fun fn y fo => ?_
   refine c5 a1U ?_
   refine d3 (l1 Tryd.isAgg23 (y.bring 1) rfl) ?_
   refine f5 Tryd.call30 (h g0 c d e) ((y.bring 3).bring 3) ?_
   rintro _ _ _ fp ay _ _ ⟨f, i, aa, fq, fs, az, ba, rfl, rfl, bb, h⟩
   refine c5 (g8 _ _ _ rfl) ?_
   refine c5 (g8 _ _ _ rfl) ?_
   refine c5 (g8 _ _ (vi aa) rfl) ?_
   refine c5 a1V ?_
   refine U5 (ay.bring 2) Tryd.sizeOf44 (vs := (m1 f)) (cs' := [(vi a.P7), (vi a.fTo), (vi a.d5), (vi a.a1D), (vi ((lk x1.f0 m).getD 0)), (vi a.fOp), (vi f.E7), (vi f.v8), (vi a.fB.E7), (vi a.fB.v8)]) rfl rfl (nb rfl) rfl rfl fun ft bc fu => ?_
   refine c5 a5d ?_
   refine U5 bc Tryd.sizeOf44 (vs := (m1 i)) (cs' := [(vi a.P7), (vi a.fTo), (vi a.d5), (vi a.a1D), (vi ((lk x1.f0 m).getD 0)), (vi a.fOp), (vi f.E7), (vi f.v8), (vi i.E7), (vi i.v8)]) rfl rfl (nb rfl) rfl rfl fun fv bd fw => ?_
   refine c5 a5a ?_
   refine N0 bd Tryd.sizeOf3 fun fx ab fy => ?_
   refine d3 (ldA Tryd.isAgg46 Tryd.sizeOf46 rfl (ab.at1 (o := 0) (vs := [(vi aa), (vi a.fTo), (vi a.d5), (vi a.a1D), (vi ((lk x1.f0 m).getD 0)), (vi a.fOp), (vi f.E7), (vi f.v8), (vi i.E7), (vi i.v8)]) (nb rfl) rfl)) ?_
   refine f5 Tryd.call31 (h g0 az ba bb) ((ab.bring 2).bring 2) ?_
   rintro _ be _ fz bf _ _ ⟨bg, bh, bi, bj, rfl, rfl, bk, h⟩
   exact hR _ be _ _ ((((bf.bring 2).drop.bring 2).drop.bring 1).bring 1) ⟨(c6 bg), bh, bi, bj, rfl, rfl, bk, h⟩
  ·refine c5 (f9 _ _ _ _ _ _) ?_
   refine d7 h (fun _ h => ?_) (fun _ h => ?_)
   ·refine c5 a0f ?_
    refine d3 (l1 Tryd.isAgg37 b rfl) ?_
    refine f5 Tryd.call32 (h g0 c d e) ((b.bring 2).bring 2) ?_
    rintro _ _ _ ga ac _ _ ⟨gb, gc, gd, bl, bm, rfl, rfl, bn, h⟩
    refine c5 a1d ?_
    refine d3 (l1 Tryd.isAgg37 (ac.bring 2) rfl) ?_
    refine f5 Tryd.call32 (h g0 bl bm bn) ((ac.bring 1).bring 1) ?_
    rintro _ _ _ ge n _ _ ⟨gf, gg, gh, bo, bp, rfl, rfl, bq, h⟩
    refine c5 a0g ?_
    refine d3 (l1 Tryd.isAgg36 (n.bring 2) rfl) ?_
    obtain ⟨br, bs, bt, p, h⟩ := h
    obtain ⟨gi, gj, bu, p⟩ := p
    refine c5 (R5 bu _ _ _ _ br bs) ?_
    refine d3 (ldA (vs := (i4 bt)) Tryd.isAgg89 Tryd.sizeOf89 rfl (n.atH p)) ?_
    refine f5 Tryd.call33 (h g0 bo bp bq) ((n.bring 1).bring 1) ?_
    rintro _ _ _ gk ad _ _ ⟨gl, gm, bv, bw, rfl, rfl, bz, h⟩
    refine c5 a0f ?_
    refine d3 (l1 Tryd.isAgg37 (ad.bring 2) rfl) ?_
    refine f5 Tryd.call13 (h g0 bv bw bz) ((ad.bring 1).bring 1) ?_
    rintro _ _ _ gn ae _ _ ⟨go, gp, ca, cb, rfl, rfl, cc, h⟩
    refine c5 a1d ?_
    refine d3 (l1 Tryd.isAgg37 (ae.bring 2) rfl) ?_
    refine f5 Tryd.call13 (h g0 ca cb cc) ((ae.bring 1).bring 1) ?_
    rintro _ cd _ gq ce _ _ ⟨cf, cg, ch, ci, rfl, rfl, cj, h⟩
    exact hR _ cd _ _ (((ce.bring 2).drop.bring 1).bring 1) ⟨(c6 cf), cg, ch, ci, rfl, rfl, cj, h⟩
   ·refine c5 (f9 _ _ _ _ _ _) ?_
    refine d7 h (fun _ h => ?_) (fun _ h => ?_)
    ·refine c5 a0f ?_
     refine d3 (l1 Tryd.isAgg37 b rfl) ?_
     refine f5 Tryd.call32 (h g0 c d e) ((b.bring 2).bring 2) ?_
     rintro _ _ _ gr q _ _ ⟨gs, gt, gu, ck, cl, rfl, rfl, cm, h⟩
     refine c5 a0g ?_
     refine d3 (l1 Tryd.isAgg36 (q.bring 2) rfl) ?_
     obtain ⟨cn, co, cp, r, h⟩ := h
     obtain ⟨gv, gw, cq, r⟩ := r
     refine c5 (R5 cq _ _ _ _ cn co) ?_
     refine d3 (ldA (vs := (i4 cp)) Tryd.isAgg89 Tryd.sizeOf89 rfl (q.atH r)) ?_
     refine f5 Tryd.call33 (h g0 ck cl cm) ((q.bring 1).bring 1) ?_
     rintro _ _ _ gx af _ _ ⟨gy, gz, cr, ct, rfl, rfl, cu, h⟩
     refine c5 a0f ?_
     refine d3 (l1 Tryd.isAgg37 (af.bring 2) rfl) ?_
     refine f5 Tryd.call13 (h g0 cr ct cu) ((af.bring 1).bring 1) ?_
     rintro _ cv _ ha cw _ _ ⟨cx, cy, cz, da, rfl, rfl, db, h⟩
     exact hR _ cv _ _ (((cw.bring 2).drop.bring 1).bring 1) ⟨(c6 cx), cy, cz, da, rfl, rfl, db, h⟩
    ·refine c5 (f9 _ _ _ _ _ _) ?_
     refine d7 h (fun _ h => ?_) (fun _ h => ?_)
     ·refine f5 Tryd.call12 (h g0 c d e) ((b.bring 2).bring 2) ?_
      rintro _ _ _ hb dc _ _ ⟨hc, hd, he, dd, de, rfl, rfl, df, h⟩
      refine f5 Tryd.call12 (h g0 dd de df) ((dc.bring 1).bring 1) ?_
      rintro _ _ _ hf s _ _ ⟨hg, hh, hi, dg, dh, rfl, rfl, di, h⟩
      refine c5 a0g ?_
      refine d3 (l1 Tryd.isAgg36 (s.bring 2) rfl) ?_
      obtain ⟨dj, dk, dl, t, h⟩ := h
      obtain ⟨hj, hk, dm, t⟩ := t
      refine c5 (R5 dm _ _ _ _ dj dk) ?_
      refine d3 (ldA (vs := (i4 dl)) Tryd.isAgg89 Tryd.sizeOf89 rfl (s.atH t)) ?_
      refine f5 Tryd.call33 (h g0 dg dh di) ((s.bring 1).bring 1) ?_
      rintro _ _ _ hl dn _ _ ⟨hm, hn, dp, dq, rfl, rfl, dr, h⟩
      refine f5 Tryd.call29 h dn ?_
      rintro _ _ _ ho ds _ _ ⟨hp, rfl, rfl, h⟩
      refine f5 Tryd.call31 (h g0 dp dq dr) ((ds.bring 1).bring 1) ?_
      rintro _ _ _ hq dt _ _ ⟨hr, hs, du, dv, rfl, rfl, dw, h⟩
      refine f5 Tryd.call29 h dt ?_
      rintro _ _ _ ht dx _ _ ⟨hu, rfl, rfl, h⟩
      refine f5 Tryd.call31 (h g0 du dv dw) ((dx.bring 1).bring 1) ?_
      rintro _ dy _ hv dz _ _ ⟨ea, eb, ec, ed, rfl, rfl, ee, h⟩
      exact hR _ dy _ _ (((dz.bring 2).drop.bring 1).bring 1) ⟨(c6 ea), eb, ec, ed, rfl, rfl, ee, h⟩
     ·refine c5 (f9 _ _ _ _ _ _) ?_
      refine d7 h (fun _ h => ?_) (fun _ h => ?_)
      ·refine M9 b fun hw k => ?_
       refine f6 a0g ?_
       refine f6 (m3 _) ?_
       refine f6 D2 ?_
       refine f6 a3o ?_
       refine p5 (l1 Tryd.isAgg36 k rfl) ?_
       obtain ⟨ef, eg, eh, u, h⟩ := h
       obtain ⟨hx, hy, ei, u⟩ := u
       refine f6 (R5 ei _ _ _ _ ef eg) ?_
       refine p5 (ldA (vs := (i4 eh)) Tryd.isAgg89 Tryd.sizeOf89 rfl (k.atH u)) ?_
       refine p5 (l1 Tryd.isAgg3 (k.bring 1) rfl) ?_
       refine f5 Tryd.call33 (h g0 c d e) ((k.bring 2).bring 2) ?_
       rintro _ ej _ hz ek _ _ ⟨el, em, en, eo, rfl, rfl, ep, h⟩
       exact hR _ ej _ _ (((ek.bring 2).drop.bring 1).bring 1) ⟨(c6 el), em, en, eo, rfl, rfl, ep, h⟩
      ·refine f5 Tryd.call29 h b ?_
       rintro _ _ _ ia eq _ _ ⟨ib, rfl, rfl, h⟩
       refine f5 Tryd.call31 (h g0 c d e) ((eq.bring 2).bring 2) ?_
       rintro _ er _ ic es _ _ ⟨et, eu, ev, ew, rfl, rfl, ex, h⟩
       exact hR _ er _ _ (((es.bring 2).drop.bring 1).bring 1) ⟨(c6 et), eu, ev, ew, rfl, rfl, ex, h⟩
def a1N (x0 : Int) (x1 : Int) (x2 : Int) (H : Hp) (K : Bool → Hp → Prop) : Prop :=
 K ((decide (x0 ≤ x2)) && (decide (x2 ≤ x1))) H
theorem a4O (x0 : Int) (x1 : Int) (x2 : Int) {H : Hp} {K : Bool → Hp → Prop} (h : a1N x0 x1 x2 H K) : A5 x0 x1 x2 H K := by
 intro g2
 refine Ct.of fun w0 w ps0 H0 R E I hR => b6A ?_
 unfold a1N at h
 unfold F74
 refine d3 (l1 Tryd.isAgg21 I rfl) ?_
 refine c5 (a7m _ _ _ _ _ _) ?_
 refine d3 (Ld.g fun hb => by have a := hb; exact (l1 Tryd.isAgg21 I rfl)) ?_
 simp only [Q2]
 refine c5 (Pu.g fun hb => by have a := hb; simp only [m6 a]; with_reducible exact (a7m _ _ _ _ _ _)) ?_
 refine c5 (E6 _ _) ?_
 exact hR _ H _ _ I ⟨((decide (x0 ≤ x2)) && (decide (x2 ≤ x1))), rfl, rfl, h⟩
def a1t (x0 : ByteArray) (H : Hp) (K : Bool → Hp → Prop) : Prop :=
 L2 x0 H (fun a b =>
 K (decide (32 < a)) b)
theorem a6J (x0 : ByteArray) {H : Hp} {K : Bool → Hp → Prop} (h : a1t x0 H K) : a1q x0 H K := by
 refine Ct.of fun w0 w ps0 H0 R E I hR => b6u ?_
 unfold a1t at h
 unfold F67
 refine f5 Tryd.call73 h I ?_
 rintro _ a _ d b _ _ ⟨c, rfl, rfl, h⟩
 refine c5 (Z6 _ _ _ _ _ _) ?_
 exact hR _ a _ _ b ⟨(decide (32 < c)), rfl, rfl, h⟩
def F1 (H : Hp) (K : Int → Hp → Prop) : Prop :=
 K (-1) H
def M5 (b7D : (List ByteArray)) (a9V : ByteArray) (a3R : Int) (T8 : Int) (H : Hp) (n2 : Int → Hp → Prop) (K : Int → Hp → Prop) : Prop :=
 (T8 < a3R →
 (0 : Int) ≤ T8 ∧ ∃ a : ByteArray, (b7D)[(T8 : Int).toNat]? = some a ∧
 (a9V = a →
 K T8 H) ∧
 (¬ (a9V = a) →
 n2 (IntKind.wrap .i64 (T8 + 1)) H)) ∧
 (¬ (T8 < a3R) →
 F1 H K)
def O8 (x0 : (List ByteArray)) (x1 : ByteArray) (H : Hp) (K : Int → Hp → Prop) : Prop :=
 TL (0 : Int) H fun (s : Int) H n2 => M5 x0 x1 (x0.length : Int) s H n2 K
theorem a2t (x0 : (List ByteArray)) (x1 : ByteArray) {H : Hp} {K : Int → Hp → Prop} (h : O8 x0 x1 H K) : O7 x0 x1 H K := by
 intro sx0 Fx0 hx0
 refine Ct.of fun w0 w ps0 H0 R E I hR => b6y ?_
 unfold O8 at h
 unfold F71
 have hj1 : ∀ (H : Hp) (w : World) (_ : Inv w0 ps0 H0 H [Fx0] w) (_ : F1 H K), a9N w R E := by
  intro H w I h
  unfold a9N
  intro _
  unfold F1 at h
  exact hR _ H _ _ I ⟨(-1), rfl, rfl, h⟩
 refine s7 fun j1 hx1 => ?_
 refine c5 (a1R Tryd.underlying26 hx0) ?_
 refine a3L (σ := Int) (fun T8 => [(vi T8)]) (fun T8 => [Fx0]) h rfl I ?_
 rintro T8 H f w next2 n2 b I h hn2
 simp only [List.map_cons, List.map_nil, List.cons.injEq, and_true] at b
 have e8 := b
 simp only [e8]
 unfold b2w
 unfold M5 at h
 refine c5 (B7 _ _ _ _ _ _) ?_
 refine d7 h (fun _ h => ?_) (fun _ h => ?_)
 ·obtain ⟨c, e, a, h⟩ := h
  obtain ⟨g, i, d, j⟩ := hx0.addr a
  refine c5 (a9j d _ _ _ _ c (hx0.lt c a)) ?_
  refine d3 (ld1 (v := (Value.string e)) Tryd.isAgg9 (hx0.atW I d a)) ?_
  refine c5 (T0 _ _ _ _ _) ?_
  refine d7 h (fun _ h => ?_) (fun _ h => ?_)
  ·exact hR _ H _ _ I ⟨T8, rfl, rfl, h⟩
  ·refine c5 (v2 _ _ _ _ _ _) ?_
   exact hn2 (IntKind.wrap .i64 (T8 + 1)) _ _ h I
 ·exact hx1 _ _ (hj1 H _ I h)
def K9 (a7W : Int) (a7X : ByteArray) (a : (List d4)) (b : o8) (H : Hp) (K : ByteArray → Int → Hp → Prop) : Prop :=
 K a7X a7W H
def Y5 (b3h : (Option Nat)) (a7z : (List d4)) (a7A : Int) (c : o8) (a3R : Int) (V4 : ByteArray) (K0 : Int) (H : Hp) (n2 : (Int × ByteArray × Int) → Hp → Prop) (K : ByteArray → Int → Hp → Prop) : Prop :=
 (K0 < a7A →
 (0 : Int) ≤ K0 ∧ ∃ a : d4, (a7z)[(K0 : Int).toNat]? = some a ∧
 ∃ b : List (ByteArray × Int), MapH H (fun s : ByteArray => Value.string s) (fun n : Int => Value.int .i64 n) b3h b ∧
 (((lk a.fname b).getD 0) = a.fas →
 n2 (a3R, V4, (IntKind.wrap .i64 (K0 + 1))) H) ∧
 (¬ (((lk a.fname b).getD 0) = a.fas) →
 (((lk a.fname b).getD 0) = 0 →
 K9 63 a.fname a7z c H K) ∧
 (¬ (((lk a.fname b).getD 0) = 0) →
 K9 64 a.fname a7z c H K))) ∧
 (¬ (K0 < a7A) →
 K9 a3R V4 a7z c H K)
def a0F (x0 : o8) (H : Hp) (K : ByteArray → Int → Hp → Prop) : Prop :=
 a0D x0 H (fun b c =>
 (¬ (b = 0) →
 K ⟨#[]⟩ b c) ∧
 (b = 0 →
 a1B x0.a3M c (fun f g a d =>
 (¬ (a = 0) →
 K g a d) ∧
 (a = 0 →
 E8 (f4.mk (Sl.mk none 0 0)) [] x0.a3l d (fun j e i =>
 TL ((a, ⟨#[]⟩, 0) : Int × ByteArray × Int) i fun (s : Int × ByteArray × Int) H n2 => Y5 f e (e.length : Int) x0 s.1 s.2.1 s.2.2 H n2 K)))))
theorem a5O (x0 : o8) {H : Hp} {K : ByteArray → Int → Hp → Prop} (h : a0F x0 H K) : a2j x0 H K := by
 refine Ct.of fun w0 w ps0 H0 R E I hR => b5I ?_
 unfold a0F at h
 unfold F23
 refine B8 I (cs := (m5 x0)) rfl fun j ad k ae => ?_
 refine d3 (lW Tryd.isAgg41 Tryd.sizeOf41 rfl k) ?_
 refine f5 Tryd.call41 h k ?_
 rintro _ u _ af d _ _ ⟨v, rfl, rfl, h⟩
 refine c5 (a1x _ _ _ _ _ _) ?_
 refine a6W h (fun _ h => ?_) (fun _ h => ?_)
 ·exact hR _ u _ _ d.drop ⟨⟨#[]⟩, v, rfl, rfl, h⟩
 ·refine c5 a5f ?_
  refine d3 (l1 Tryd.isAgg27 d rfl) ?_
  refine f5 Tryd.call42 h d ?_
  rintro _ y _ ag l _ _ ⟨ah, m, n, rfl, rfl, h⟩
  refine c5 (g8 _ _ _ rfl) ?_
  refine c5 (g8 _ _ (Value.string m) rfl) ?_
  refine c5 (g8 _ _ (vi n) rfl) ?_
  refine c5 (a1x _ _ _ _ _ _) ?_
  refine a6W h (fun _ h => ?_) (fun _ h => ?_)
  ·exact hR _ y _ _ l.drop ⟨m, n, rfl, rfl, h⟩
  ·refine c5 (b0Z ) ?_
   refine B8 l (cs := [(Value.slice none 0 0)]) rfl fun f ai o aj => ?_
   refine c5 a3m ?_
   refine d3 (l1 Tryd.isAgg37 (o.bring 1) rfl) ?_
   refine f5 Tryd.call43 (h f (Sl.mk none 0 0) ([]) (RowL.nil (e := 106) a0y a0z)) (o.nil.bring 1) ?_
   rintro _ _ _ ak p _ _ ⟨al, aa, q, r, rfl, rfl, c, h⟩
   have hj1 : ∀ (a7W : Int) (a7X : ByteArray) (H : Hp) (w : World) (_ : Inv w0 ps0 H0 H [bx f 103 [(vs q)], bx j 41 (m5 x0), r] w) (_ : K9 a7W a7X aa x0 H K), a9o (vi a7W) (Value.string a7X) w R E := by
    intro a7W a7X H w I h
    unfold a9o
    intro _
    unfold K9 at h
    exact hR _ H _ _ I.drop.drop.drop ⟨a7X, a7W, rfl, rfl, h⟩
   refine s7 fun j1 hx1 => ?_
   refine c5 (m3 _) ?_
   refine c5 P8 ?_
   refine d3 (l1 Tryd.isAgg101 p rfl) ?_
   refine c5 (a1R Tryd.underlying101 c) ?_
   refine a3L (σ := Int × ByteArray × Int) (fun (a3R, V4, K0) => [(vi a3R), (Value.string V4), (vi K0)]) (fun (a3R, V4, K0) => [bx f 103 [(vs q)], bx j 41 (m5 x0), r]) h rfl (((p.bring 1).bring 2).bring 2) ?_
   rintro ⟨a3R, V4, K0⟩ H am w next2 n2 g I h hn2
   dsimp only at g I h
   simp only [List.map_cons, List.map_nil, List.cons.injEq, and_true] at g
   obtain ⟨e7, e9, e39⟩ := g
   simp only [e7, e9, e39]
   unfold b2c
   unfold Y5 at h
   refine c5 (B7 _ _ _ _ _ _) ?_
   refine d7 h (fun _ h => ?_) (fun _ h => ?_)
   ·obtain ⟨s, b, i, h⟩ := h
    obtain ⟨an, ao, t, ap⟩ := c.addr i
    refine c5 (b1W t _ _ _ _ s (c.lt s i)) ?_
    refine d3 (ldA (vs := (o4 b)) Tryd.isAgg106 Tryd.sizeOf106 rfl (c.atW (I.bring 2) t i)) ?_
    refine o9 I Tryd.zeroValue106 (cs := [(Value.string ⟨#[]⟩), (vi 0)]) rfl fun aq ar ab au => ?_
    refine s8 ab Tryd.sizeOf106 (vs := (o4 b)) fun av a aw => ?_
    refine c5 a4t ?_
    refine d3 (l1 Tryd.isAgg9 a rfl) ?_
    obtain ⟨ax, ac, h⟩ := h
    refine b3c (keyS Tryd.underlying9) Tryd.underlying57 (z := 0) Tryd.zeroValue3 a ac b.fname ?_
    refine c5 b0u ?_
    refine d3 (l1 Tryd.isAgg3 a rfl) ?_
    refine c5 (f9 _ _ _ _ _ _) ?_
    refine d7 h (fun _ h => ?_) (fun _ h => ?_)
    ·refine c5 (v2 _ _ _ _ _ _) ?_
     exact hn2 (a3R, V4, (IntKind.wrap .i64 (K0 + 1))) _ _ h (((a.drop.bring 2).bring 2).bring 2)
    ·refine c5 (f9 _ _ _ _ _ _) ?_
     refine d7 h (fun _ h => ?_) (fun _ h => ?_)
     ·refine c5 a4t ?_
      refine d3 (l1 Tryd.isAgg9 a rfl) ?_
      exact hx1 _ _ (hj1 63 b.fname H _ (((a.drop.bring 2).bring 2).bring 2) h)
     ·refine c5 a4t ?_
      refine d3 (l1 Tryd.isAgg9 a rfl) ?_
      exact hx1 _ _ (hj1 64 b.fname H _ (((a.drop.bring 2).bring 2).bring 2) h)
   ·exact hx1 _ _ (hj1 a3R V4 H _ (((I.bring 2).bring 2).bring 2) h)
def W7 (x0 : J9) (H : Hp) (K : Bool → Hp → Prop) : Prop :=
 K ((decide (0 ≤ x0.M0.X5)) && (decide (x0.M0.X5 ≤ 2147483647))) H
theorem a4i (x0 : J9) {H : Hp} {K : Bool → Hp → Prop} (h : W7 x0 H K) : a1p x0 H K := by
 refine Ct.of fun w0 w ps0 H0 R E I hR => b6B ?_
 unfold W7 at h
 unfold F91
 refine B8 I (cs := (f7 x0.M0)) rfl fun c d b e => ?_
 refine c5 a4y ?_
 refine c5 a3r ?_
 refine d3 (l1 Tryd.isAgg3 b rfl) ?_
 refine c5 (a5U _ _ _ _ _ _) ?_
 refine c5 (Pu.g fun hb => by have a := hb; with_reducible exact a4y) ?_
 refine c5 (Pu.g fun hb => by have a := hb; simp only [m6 a]; with_reducible exact a3r) ?_
 refine d3 (Ld.g fun hb => by have a := hb; simp only [m6 a]; exact (l1 Tryd.isAgg3 b rfl)) ?_
 refine c5 (Pu.g fun hb => by have a := hb; simp only [m6 a]; with_reducible exact (a7m _ _ _ _ _ _)) ?_
 refine c5 (E6 _ _) ?_
 exact hR _ H _ _ b.drop ⟨((decide (0 ≤ x0.M0.X5)) && (decide (x0.M0.X5 ≤ 2147483647))), rfl, rfl, h⟩
def C0 (a3Q : Bool) (b3X : Int) (a6w : Bool) (a : m7) (b : E4) (H : Hp) (K : Bool → Hp → Prop) : Prop :=
 (a6w = true →
 K (a3Q && (decide (a.fexprs = 0 ∧ a.fconds = 1))) H) ∧
 (a6w = false →
 (b3X = 7 →
 K (a3Q && (decide (a.fexprs = 0 ∧ a.fconds = 0))) H) ∧
 (¬ (b3X = 7) →
 K false H))
def W8 (x0 : E4) (H : Hp) (K : Bool → Hp → Prop) : Prop :=
 (x0.d6.d5 = 1 →
 K ((!(decide (0 < (IntKind.wrap .i64 ((x0.d6.E2.n : Int) + (x0.d6.E3.n : Int)))))) && (decide ((x0.d6.g5.n : Int) = 1 ∧ (x0.d6.o3.n : Int) = 0))) H) ∧
 (¬ (x0.d6.d5 = 1) →
 (x0.d6.d5 = 2 →
 K ((!(decide (0 < (IntKind.wrap .i64 ((x0.d6.E2.n : Int) + (x0.d6.E3.n : Int)))))) && (decide ((x0.d6.g5.n : Int) = 2 ∧ (x0.d6.o3.n : Int) = 0))) H) ∧
 (¬ (x0.d6.d5 = 2) →
 (x0.d6.d5 = 3 →
 K ((decide (x0.d6.f0 = ⟨#[]⟩)) && (decide ((x0.d6.g5.n : Int) = 0 ∧ (x0.d6.o3.n : Int) = 1))) H) ∧
 (¬ (x0.d6.d5 = 3) →
 (x0.d6.d5 = 4 →
 K (((decide (x0.d6.f0 = ⟨#[]⟩)) && (decide ((x0.d6.E3.n : Int) = 0))) && (decide ((x0.d6.g5.n : Int) = 0 ∧ (x0.d6.o3.n : Int) = 1))) H) ∧
 (¬ (x0.d6.d5 = 4) →
 (x0.d6.d5 = 5 →
 C0 ((decide (x0.d6.f0 = ⟨#[]⟩)) && (!(decide (0 < (IntKind.wrap .i64 ((x0.d6.E2.n : Int) + (x0.d6.E3.n : Int))))))) x0.d6.d5 (decide (x0.d6.d5 = 5)) (m7.mk (x0.d6.g5.n : Int) (x0.d6.o3.n : Int)) x0 H K) ∧
 (¬ (x0.d6.d5 = 5) →
 C0 ((decide (x0.d6.f0 = ⟨#[]⟩)) && (!(decide (0 < (IntKind.wrap .i64 ((x0.d6.E2.n : Int) + (x0.d6.E3.n : Int))))))) x0.d6.d5 (decide (x0.d6.d5 = 6)) (m7.mk (x0.d6.g5.n : Int) (x0.d6.o3.n : Int)) x0 H K)))))
theorem a4j (x0 : E4) {H : Hp} {K : Bool → Hp → Prop} (h : W8 x0 H K) : W4 x0 H K := by
 refine Ct.of fun w0 w ps0 H0 R E I hR => b6D ?_
 unfold W8 at h
 unfold F93
 refine B8 I (cs := (l0 x0.d6)) rfl fun e i c j => ?_
 refine c5 B6 ?_
 refine c5 a0f ?_
 refine d3 (l1 Tryd.isAgg37 c rfl) ?_
 refine c5 (U4 _ _ _) ?_
 refine c5 B6 ?_
 refine c5 a1d ?_
 refine d3 (l1 Tryd.isAgg37 c rfl) ?_
 refine c5 (U4 _ _ _) ?_
 refine c5 (v2 _ _ _ _ _ _) ?_
 refine c5 (Z6 _ _ _ _ _ _) ?_
 refine c5 B6 ?_
 refine c5 a1U ?_
 refine d3 (l1 Tryd.isAgg23 c rfl) ?_
 refine c5 (a0d _ _ _) ?_
 refine c5 B6 ?_
 refine c5 a0g ?_
 refine d3 (l1 Tryd.isAgg36 c rfl) ?_
 refine c5 (a2H _ _ _) ?_
 refine c5 (U7 _ _) ?_
 refine o9 c Tryd.zeroValue175 (cs := [(vi 0), (vi 0)]) rfl fun d k f l => ?_
 refine s8 f Tryd.sizeOf175 (vs := [(vi (x0.d6.g5.n : Int)), (vi (x0.d6.o3.n : Int))]) fun m b p => ?_
 refine c5 B6 ?_
 refine c5 X7 ?_
 refine d3 (l1 Tryd.isAgg9 (b.bring 1) rfl) ?_
 refine c5 (T0 _ _ _ _ _) ?_
 simp only [Q2]
 refine c5 (Pu.g fun hb => by have a := hb; simp only [m6 a]; with_reducible exact (V1 _)) ?_
 refine c5 (E6 _ _) ?_
 refine c5 B6 ?_
 refine c5 a1T ?_
 refine d3 (l1 Tryd.isAgg3 (b.bring 1) rfl) ?_
 refine c5 (f9 _ _ _ _ _ _) ?_
 refine d7 h (fun _ h => ?_) (fun _ h => ?_)
 ·refine c5 (V1 _) ?_
  refine d3 (Ld.g fun hb => by have a := hb; exact (ldA Tryd.isAgg175 Tryd.sizeOf175 rfl (b.at1 (o := 0) (vs := [(vi (x0.d6.g5.n : Int)), (vi (x0.d6.o3.n : Int))]) (nb rfl) rfl))) ?_
  refine c5 (Pu.g fun hb => by have a := hb; with_reducible exact (U7 _ _)) ?_
  refine c5 (Pu.g fun hb => by have a := hb; simp only [m6 a]; with_reducible exact (a1L _ _ _ _ _ _)) ?_
  refine c5 (E6 _ _) ?_
  exact hR _ H _ _ b.drop.drop ⟨((!(decide (0 < (IntKind.wrap .i64 ((x0.d6.E2.n : Int) + (x0.d6.E3.n : Int)))))) && (decide ((x0.d6.g5.n : Int) = 1 ∧ (x0.d6.o3.n : Int) = 0))), rfl, rfl, h⟩
 ·refine c5 (f9 _ _ _ _ _ _) ?_
  refine d7 h (fun _ h => ?_) (fun _ h => ?_)
  ·refine c5 (V1 _) ?_
   refine d3 (Ld.g fun hb => by have a := hb; exact (ldA Tryd.isAgg175 Tryd.sizeOf175 rfl (b.at1 (o := 0) (vs := [(vi (x0.d6.g5.n : Int)), (vi (x0.d6.o3.n : Int))]) (nb rfl) rfl))) ?_
   refine c5 (Pu.g fun hb => by have a := hb; with_reducible exact (U7 _ _)) ?_
   refine c5 (Pu.g fun hb => by have a := hb; simp only [m6 a]; with_reducible exact (a1L _ _ _ _ _ _)) ?_
   refine c5 (E6 _ _) ?_
   exact hR _ H _ _ b.drop.drop ⟨((!(decide (0 < (IntKind.wrap .i64 ((x0.d6.E2.n : Int) + (x0.d6.E3.n : Int)))))) && (decide ((x0.d6.g5.n : Int) = 2 ∧ (x0.d6.o3.n : Int) = 0))), rfl, rfl, h⟩
  ·refine c5 (f9 _ _ _ _ _ _) ?_
   refine d7 h (fun _ h => ?_) (fun _ h => ?_)
   ·refine c5 B6 ?_
    refine c5 X7 ?_
    refine d3 (l1 Tryd.isAgg9 (b.bring 1) rfl) ?_
    refine c5 (T0 _ _ _ _ _) ?_
    refine d3 (Ld.g fun hb => by have a := hb; exact (ldA Tryd.isAgg175 Tryd.sizeOf175 rfl (b.at1 (o := 0) (vs := [(vi (x0.d6.g5.n : Int)), (vi (x0.d6.o3.n : Int))]) (nb rfl) rfl))) ?_
    refine c5 (Pu.g fun hb => by have a := hb; with_reducible exact (U7 _ _)) ?_
    refine c5 (Pu.g fun hb => by have a := hb; simp only [m6 a]; with_reducible exact (a1L _ _ _ _ _ _)) ?_
    refine c5 (E6 _ _) ?_
    exact hR _ H _ _ b.drop.drop ⟨((decide (x0.d6.f0 = ⟨#[]⟩)) && (decide ((x0.d6.g5.n : Int) = 0 ∧ (x0.d6.o3.n : Int) = 1))), rfl, rfl, h⟩
   ·refine c5 (f9 _ _ _ _ _ _) ?_
    refine d7 h (fun _ h => ?_) (fun _ h => ?_)
    ·refine c5 B6 ?_
     refine c5 X7 ?_
     refine d3 (l1 Tryd.isAgg9 (b.bring 1) rfl) ?_
     refine c5 (T0 _ _ _ _ _) ?_
     refine c5 (Pu.g fun hb => by have a := hb; with_reducible exact B6) ?_
     refine c5 (Pu.g fun hb => by have a := hb; simp only [m6 a]; with_reducible exact a1d) ?_
     refine d3 (Ld.g fun hb => by have a := hb; simp only [m6 a]; exact (l1 Tryd.isAgg37 (b.bring 1) rfl)) ?_
     refine c5 (Pu.g fun hb => by have a := hb; simp only [m6 a]; with_reducible exact (U4 _ _ _)) ?_
     refine c5 (Pu.g fun hb => by have a := hb; simp only [m6 a]; with_reducible exact (f9 _ _ _ _ _ _)) ?_
     refine c5 (E6 _ _) ?_
     refine d3 (Ld.g fun hb => by have a := hb; exact (ldA Tryd.isAgg175 Tryd.sizeOf175 rfl (b.at1 (o := 0) (vs := [(vi (x0.d6.g5.n : Int)), (vi (x0.d6.o3.n : Int))]) (nb rfl) rfl))) ?_
     refine c5 (Pu.g fun hb => by have a := hb; with_reducible exact (U7 _ _)) ?_
     refine c5 (Pu.g fun hb => by have a := hb; simp only [m6 a]; with_reducible exact (a1L _ _ _ _ _ _)) ?_
     refine c5 (E6 _ _) ?_
     exact hR _ H _ _ b.drop.drop ⟨(((decide (x0.d6.f0 = ⟨#[]⟩)) && (decide ((x0.d6.E3.n : Int) = 0))) && (decide ((x0.d6.g5.n : Int) = 0 ∧ (x0.d6.o3.n : Int) = 1))), rfl, rfl, h⟩
    ·have hj1 : ∀ (a6w : Bool) (H : Hp) (w : World) (_ : Inv w0 ps0 H0 H [bx d 175 [(vi (m7.mk (x0.d6.g5.n : Int) (x0.d6.o3.n : Int)).fexprs), (vi (m7.mk (x0.d6.g5.n : Int) (x0.d6.o3.n : Int)).fconds)], bx e 140 (l0 x0.d6)] w) (_ : C0 ((decide (x0.d6.f0 = ⟨#[]⟩)) && (!(decide (0 < (IntKind.wrap .i64 ((x0.d6.E2.n : Int) + (x0.d6.E3.n : Int))))))) x0.d6.d5 a6w (m7.mk (x0.d6.g5.n : Int) (x0.d6.o3.n : Int)) x0 H K), a9P (Value.pointer (some ⟨d, 0, none⟩)) (Value.bool ((decide (x0.d6.f0 = ⟨#[]⟩)) && (!(decide (0 < (IntKind.wrap .i64 ((x0.d6.E2.n : Int) + (x0.d6.E3.n : Int)))))))) (vi x0.d6.d5) (Value.bool a6w) w R E := by
      intro a6w H w I h
      unfold a9P
      intro _
      unfold C0 at h
      refine r7 h (fun _ h => ?_) (fun _ h => ?_)
      ·refine d3 (Ld.g fun hb => by have a := hb; exact (ldA Tryd.isAgg175 Tryd.sizeOf175 rfl (I.at1 (o := 0) (vs := [(vi (m7.mk (x0.d6.g5.n : Int) (x0.d6.o3.n : Int)).fexprs), (vi (m7.mk (x0.d6.g5.n : Int) (x0.d6.o3.n : Int)).fconds)]) (nb rfl) rfl))) ?_
       refine c5 (Pu.g fun hb => by have a := hb; with_reducible exact (U7 _ _)) ?_
       refine c5 (Pu.g fun hb => by have a := hb; simp only [m6 a]; with_reducible exact (a1L _ _ _ _ _ _)) ?_
       refine c5 (E6 _ _) ?_
       exact hR _ H _ _ I.drop.drop ⟨(((decide (x0.d6.f0 = ⟨#[]⟩)) && (!(decide (0 < (IntKind.wrap .i64 ((x0.d6.E2.n : Int) + (x0.d6.E3.n : Int))))))) && (decide ((m7.mk (x0.d6.g5.n : Int) (x0.d6.o3.n : Int)).fexprs = 0 ∧ (m7.mk (x0.d6.g5.n : Int) (x0.d6.o3.n : Int)).fconds = 1))), rfl, rfl, h⟩
      ·refine c5 (f9 _ _ _ _ _ _) ?_
       refine d7 h (fun _ h => ?_) (fun _ h => ?_)
       ·refine d3 (Ld.g fun hb => by have a := hb; exact (ldA Tryd.isAgg175 Tryd.sizeOf175 rfl (I.at1 (o := 0) (vs := [(vi (m7.mk (x0.d6.g5.n : Int) (x0.d6.o3.n : Int)).fexprs), (vi (m7.mk (x0.d6.g5.n : Int) (x0.d6.o3.n : Int)).fconds)]) (nb rfl) rfl))) ?_
        refine c5 (Pu.g fun hb => by have a := hb; with_reducible exact (b1d )) ?_
        refine c5 (Pu.g fun hb => by have a := hb; simp only [m6 a]; with_reducible exact (a1L _ _ _ _ _ _)) ?_
        refine c5 (E6 _ _) ?_
        exact hR _ H _ _ I.drop.drop ⟨(((decide (x0.d6.f0 = ⟨#[]⟩)) && (!(decide (0 < (IntKind.wrap .i64 ((x0.d6.E2.n : Int) + (x0.d6.E3.n : Int))))))) && (decide ((m7.mk (x0.d6.g5.n : Int) (x0.d6.o3.n : Int)).fexprs = 0 ∧ (m7.mk (x0.d6.g5.n : Int) (x0.d6.o3.n : Int)).fconds = 0))), rfl, rfl, h⟩
       ·exact hR _ H _ _ I.drop.drop ⟨false, rfl, rfl, h⟩
     refine s7 fun j1 hx1 => ?_
     refine c5 (f9 _ _ _ _ _ _) ?_
     refine d7 h (fun _ h => ?_) (fun _ h => ?_)
     ·exact hx1 _ _ (hj1 (decide (x0.d6.d5 = 5)) H _ ((b.bring 1).bring 1) h)
     ·refine c5 (f9 _ _ _ _ _ _) ?_
      exact hx1 _ _ (hj1 (decide (x0.d6.d5 = 6)) H _ ((b.bring 1).bring 1) h)
def a0l (x0 : m2) (H : Hp) (K : c7 → Hp → Prop) : Prop :=
 K (c7.B3 (E5.mk x0)) H
theorem a5m (x0 : m2) {H : Hp} {K : c7 → Hp → Prop} (h : a0l x0 H K) : a2b x0 H K := by
 refine Ct.of fun w0 w ps0 H0 R E I hR => b6G ?_
 unfold a0l at h
 unfold F96
 refine B8 I (cs := (i4 x0)) rfl fun b c a d => ?_
 refine d3 (lW Tryd.isAgg89 Tryd.sizeOf89 rfl a) ?_
 refine c5 (a9k _ _ _ _ _ _ _ _) ?_
 refine c5 (a7S (E5.mk x0)) ?_
 exact hR _ H _ _ a.drop ⟨(c7.B3 (E5.mk x0)), rfl, rfl, h⟩
def p7 (N6 : (List c7)) (H : Hp) (K : Sl → Hp → Prop) : Prop :=
 ∀ (z7 : Sl) (a : Hp), Hle H a → SlH a 1 j8 z7 N6 → z7.n ≤ z7.c →
 K z7 a
def p8 (T8 : Sl) (V4 : Int) (o6 : (List c7)) (m4 : Int) (H : Hp) (n2 : ((List c7) × Int) → Hp → Prop) (K : Sl → Hp → Prop) : Prop :=
 (m4 < V4 →
 (0 : Int) ≤ m4 ∧ (m4 : Int) < T8.n ∧ ∃ a : m2, EltH H T8 m4 4 (i4 a) ∧
 a2b a H (fun b c =>
 (o6.length + ([b] : List c7).length) * 17 ≤ 140737488355328 ∧
 n2 ((o6 ++ [b]), (IntKind.wrap .i64 (m4 + 1))) c)) ∧
 (¬ (m4 < V4) →
 p7 o6 H K)
def y5 (x0 : Sl) (H : Hp) (K : Sl → Hp → Prop) : Prop :=
 TL (([], 0) : (List c7) × Int) H fun (s : (List c7) × Int) H n2 => p8 x0 (x0.n : Int) s.1 s.2 H n2 K
theorem O9 (x0 : Sl) {H : Hp} {K : Sl → Hp → Prop} (h : y5 x0 H K) : r8 x0 H K := by
 refine Ct.of fun w0 w ps0 H0 R E I hR => b6F ?_
 unfold y5 at h
 unfold F95
 have hj1 : ∀ (N6 : (List c7)) (z7 : Sl) (Fs5j1 : Frag) (H : Hp) (w : World) (_ : RowL 126 1 j8 z7 N6 Fs5j1) (_ : Inv w0 ps0 H0 H [Fs5j1] w) (_ : p7 N6 H K), a9Q (vs z7) w R E := by
  intro N6 z7 Fs5j1 H w a5n I h
  unfold a9Q
  intro _
  unfold p7 at h
  obtain ⟨j, q, r, t, u⟩ := Inv.freezeC I a5n (by decide)
  replace h := h z7 j r t u
  exact hR _ j _ _ q ⟨z7, rfl, rfl, h⟩
 refine s7 fun j1 hx1 => ?_
 refine c5 (a2H _ _ _) ?_
 obtain ⟨f, d, v, y⟩ := h
 refine E0 (J := fun n l w => ∃ (s : (List c7) × Int) (H : Hp) (N7 : Sl) (Fs5l2 : Frag) , n = d s ∧ l = (match s with | (o6, m4) => [(vs N7), (vi m4)]) ∧ (match s with | (o6, m4) => RowL 126 1 j8 N7 o6 Fs5l2) ∧ (match s with | (o6, m4) => Inv w0 ps0 H0 H [Fs5l2] w) ∧ f s H) ⟨_, ([], 0), H, (Sl.mk none 0 0), [], rfl, rfl, (RowL.nil D4 G1), I.nil, v⟩ ?_
 rintro am an w next2 ⟨⟨o6, m4⟩, H, N7, Fs5l2, rfl, g, a0m, I, z⟩ hn2
 dsimp only at g I a0m
 simp only [List.map_cons, List.map_nil, List.cons.injEq, and_true] at g
 obtain ⟨e5, e10⟩ := g
 simp only [e5, e10]
 obtain ⟨n2, hm2, h⟩ : ∃ n2 : ((List c7) × Int) → Hp → Prop, (∀ s' H', n2 s' H' → f s' H' ∧ d s' < d (o6, m4)) ∧ p8 x0 (x0.n : Int) o6 m4 H n2 K := ⟨_, fun _ _ h => h, y (o6, m4) H (fun s' H' => f s' H' ∧ d s' < d (o6, m4)) z (fun _ _ a b => ⟨a, b⟩)⟩
 unfold b2y
 unfold p8 at h
 refine c5 (B7 _ _ _ _ _ _) ?_
 refine d7 h (fun _ h => ?_) (fun _ h => ?_)
 ·obtain ⟨aa, ab, k, i, h⟩ := h
  obtain ⟨ao, ap, ac, i⟩ := i
  refine c5 (R5 ac _ _ _ _ aa ab) ?_
  refine d3 (ldA (vs := (i4 k)) Tryd.isAgg89 Tryd.sizeOf89 rfl (I.atH i)) ?_
  refine o9 I Tryd.zeroValue89 (cs := [(vi 0), (vi 0), (Value.slice none 0 0), (Value.slice none 0 0)]) rfl fun aq ar ad au => ?_
  refine s8 ad Tryd.sizeOf89 (vs := (i4 k)) fun av m aw => ?_
  refine d3 (lW Tryd.isAgg89 Tryd.sizeOf89 rfl m) ?_
  refine f5 Tryd.call96 h m ?_
  rintro _ ae _ ax af _ _ ⟨o, rfl, rfl, h⟩
  refine V2 (e := 126) (c := j8) (xs := [o]) af (a5h _) rfl rfl D4 G1 (nb rfl) fun ay az ba ag p bb => ?_
  obtain ⟨ah, h⟩ := h
  refine a4I (s := N7) (xs := o6) (p.bring 2) a0m (ag.srcO ((p.bring 2).bring 1)) ah fun ai aj bc ak al bd => ?_
  refine c5 (v2 _ _ _ _ _ _) ?_
  exact hn2 _ _ _ (hm2 _ _ h).2 ⟨((o6 ++ [o]), (IntKind.wrap .i64 (m4 + 1))), ae, ai, aj, rfl, rfl, ak, ((al.bring 1).drop.bring 1).drop, (hm2 _ _ h).1⟩
 ·exact hx1 _ _ (hj1 o6 N7 Fs5l2 H _ a0m I h)
def V5 (x0 : E4) (H : Hp) (K : Sl → Hp → Prop) : Prop :=
 r8 x0.d6.o3 H (fun d e =>
 m9 x0.d6.g5 e (fun f g =>
 m8 x0.d6.E2 g (fun i j =>
 m8 x0.d6.E3 j (fun k l =>
 ∀ (a : Sl) (b : Hp), Hle l b → SlH b 1 csl a [d, f, i, k] → a.n ≤ a.c →
 r5 a b (fun m o =>
 K m o)))))
theorem a3S (x0 : E4) {H : Hp} {K : Sl → Hp → Prop} (h : V5 x0 H K) : a0M x0 H K := by
 refine Ct.of fun w0 w ps0 H0 R E I hR => b6E ?_
 unfold V5 at h
 unfold F94
 refine B8 I (cs := (l0 x0.d6)) rfl fun ad ae i af => ?_
 refine M9 i fun ag a => ?_
 refine f6 B6 ?_
 refine f6 a0g ?_
 refine f6 B6 ?_
 refine f6 a1U ?_
 refine f6 B6 ?_
 refine f6 a0f ?_
 refine f6 B6 ?_
 refine f6 a1d ?_
 refine p5 (l1 Tryd.isAgg36 a rfl) ?_
 refine p5 (l1 Tryd.isAgg23 a rfl) ?_
 refine p5 (l1 Tryd.isAgg37 a rfl) ?_
 refine p5 (l1 Tryd.isAgg37 a rfl) ?_
 refine f5 Tryd.call95 h a ?_
 rintro _ _ _ ah b _ d ⟨j, rfl, rfl, h⟩
 refine ⟨(d _ a.lt1 (Inv.a1Q (Fi := []) a)), (d _ a.lt1 (Inv.a1Q (Fi := []) a)), (d _ a.lt1 (Inv.a1Q (Fi := []) a)), ?_⟩
 refine f5 Tryd.call97 h b ?_
 rintro _ _ _ ai f _ g ⟨k, rfl, rfl, h⟩
 refine ⟨(g _ b.lt1 (Inv.a1Q (Fi := []) b)), (g _ b.lt1 (Inv.a1Q (Fi := []) b)), ?_⟩
 refine f5 Tryd.call58 h f ?_
 rintro _ _ _ aj l _ m ⟨n, rfl, rfl, h⟩
 refine ⟨(m _ f.lt1 (Inv.a1Q (Fi := []) f)), ?_⟩
 refine f5 Tryd.call58 h l ?_
 rintro _ _ _ ak o _ _ ⟨p, rfl, rfl, h⟩
 refine V2 (e := 123) (c := csl) (xs := [j, k, n, p]) o (b3f _ _ _ _ _ _ _ _ _ _ _ _) rfl rfl a8H a8I (nb rfl) fun q al am r s an => ?_
 obtain ⟨t, u, v, y, z⟩ := Inv.freezeC s r (by decide)
 replace h := h q t v y z
 refine f5 Tryd.call55 h u ?_
 rintro _ aa _ ao ab _ _ ⟨ac, rfl, rfl, h⟩
 exact hR _ aa _ _ ab.drop ⟨ac, rfl, rfl, h⟩
def V6 (x0 : B2) (H : Hp) (K : Sl → Hp → Prop) : Prop :=
 m9 x0.j9.u5 H (fun a b =>
 K a b)
theorem a3T (x0 : B2) {H : Hp} {K : Sl → Hp → Prop} (h : V6 x0 H K) : a0N x0 H K := by
 refine Ct.of fun w0 w ps0 H0 R E I hR => b4J ?_
 unfold V6 at h
 unfold b6K
 refine B8 I (cs := (d9 x0.j9)) rfl fun e f a g => ?_
 refine c5 M7 ?_
 refine c5 X8 ?_
 refine d3 (l1 Tryd.isAgg23 a rfl) ?_
 refine f5 Tryd.call97 h a ?_
 rintro _ b _ i c _ _ ⟨d, rfl, rfl, h⟩
 exact hR _ b _ _ c.drop ⟨d, rfl, rfl, h⟩
end Go.Proofs.YtaokfhdinhimfaaDoor
