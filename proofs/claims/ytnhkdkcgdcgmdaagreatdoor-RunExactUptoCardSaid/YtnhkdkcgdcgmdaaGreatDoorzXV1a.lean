/- Typed formulas of the program's functions, and the theorems that the contracts follow from them; printed by lift.py off the code. -/
import Derived.Test.YtnhkdkcgdcgmdaaGreatDoorzXV1
namespace Go.Proofs.YtnhkdkcgdcgmdaaGreatDoor
open Go.RowKit
set_option maxRecDepth 100000
set_option maxHeartbeats 2000000
def a6c (H : Hp) (K : Bool → Hp → Prop) : Prop :=
 K true H
def R7 (b : ByteArray) (a : Nat) (H : Hp) (n2 : Nat → Hp → Prop) (K : Bool → Hp → Prop) : Prop :=
 (a < b.size →
 a6E ((Utf8.decode b a).1 : Int) H (fun c d =>
 TG ((!(!c) && (decide (((a : Nat) : Int) = 0))) = true) (a4M ((Utf8.decode b a).1 : Int) d) 0 d (fun (e : Int) (f : Hp) =>
 (((!c) || ((decide (((a : Nat) : Int) = 0)) && (!decide (e = 3)))) = true →
 K false f) ∧
 (((!c) || ((decide (((a : Nat) : Int) = 0)) && (!decide (e = 3)))) = false →
 n2 (a + (Utf8.decode b a).2) f)))) ∧
 (¬ (a < b.size) →
 a6c H K)
def a7D (x0 : ByteArray) (H : Hp) (K : Bool → Hp → Prop) : Prop :=
 TG ((decide (x0 = ⟨#[]⟩)) = false) (a6w x0 H) false H (fun (a : Bool) (c : Hp) =>
 TG (((decide (x0 = ⟨#[]⟩)) || (!a)) = false) (a5E x0 c) false c (fun (b : Bool) (d : Hp) =>
 TG ((((decide (x0 = ⟨#[]⟩)) || (!a)) || b) = false) (a3W x0 d) false d (fun (e : Bool) (f : Hp) =>
 (((((decide (x0 = ⟨#[]⟩)) || (!a)) || b) || e) = true →
 K false f) ∧
 (((((decide (x0 = ⟨#[]⟩)) || (!a)) || b) || e) = false →
 TL (0 : Nat) f fun (s : Nat) H n2 => R7 x0 s H n2 K))))
theorem b5k (x0) {H K} (h : a7D x0 H K) : a5F x0 H K := by
 refine Ct.of fun w0 w ps0 H0 R E I hR => c8s ?_
 unfold a7D at h
 unfold d1t
 refine a8 (Q3 _ _ _ _ _) ?_
 simp only [t8]
 refine a0i (D := fun am z => ∃ (d : Bool) (p : Hp) , am = (gv (decide (x0 = ⟨#[]⟩)) false (vB d)) ∧ (Inv w0 ps0 H0 p [] z) ∧ (∀ i, i < w.heap.size → ¬ inF [] i → z.heap[i]? = w.heap[i]?) ∧ Hle H p ∧ (TG (((decide (x0 = ⟨#[]⟩)) || (!d)) = false) (a5E x0 p) false p (fun (k : Bool) (m : Hp) =>
 TG ((((decide (x0 = ⟨#[]⟩)) || (!d)) || k) = false) (a3W x0 m) false m (fun (o : Bool) (f : Hp) =>
 (((((decide (x0 = ⟨#[]⟩)) || (!d)) || k) || o) = true →
 K false f) ∧
 (((((decide (x0 = ⟨#[]⟩)) || (!d)) || k) || o) = false →
 TL (0 : Nat) f fun (s : Nat) H n2 => R7 x0 s H n2 K))))) (fun t => ?_) (fun t => ?_) ?_
 ·replace h := h.1 t
  have c := t
  simp only [g7 c]
  refine i6 Tryz.call162 h I ?_
  rintro _ p _ z ad an ao ⟨d, rfl, rfl, h⟩
  exact ⟨d, p, by rfl, ad, ao, an, h⟩
 ·exact ⟨false, H, by rw [a3E t], I, fun _ _ _ => rfl, Hle.refl _, h.2 t⟩
 ·clear h
  rintro am z ⟨d, p, rfl, ad, ao, an, h⟩
  refine a8 (Pu.g fun c => by simp only [g7 c]; exact (G3 _)) ?_
  refine a8 (E8 _ _) ?_
  simp only [t8]
  refine a0i (D := fun ap aa => ∃ (k : Bool) (m : Hp) , ap = (gv ((decide (x0 = ⟨#[]⟩)) || (!d)) false (vB k)) ∧ (Inv w0 ps0 H0 m [] aa) ∧ (∀ i, i < z.heap.size → ¬ inF [] i → aa.heap[i]? = z.heap[i]?) ∧ Hle p m ∧ (TG ((((decide (x0 = ⟨#[]⟩)) || (!d)) || k) = false) (a3W x0 m) false m (fun (o : Bool) (f : Hp) =>
 (((((decide (x0 = ⟨#[]⟩)) || (!d)) || k) || o) = true →
 K false f) ∧
 (((((decide (x0 = ⟨#[]⟩)) || (!d)) || k) || o) = false →
 TL (0 : Nat) f fun (s : Nat) H n2 => R7 x0 s H n2 K)))) (fun u => ?_) (fun u => ?_) ?_
  ·replace h := h.1 u
   have c := u
   simp only [g7 c]
   refine i6 Tryz.call163 h ad ?_
   rintro _ m _ aa ae aq ar ⟨k, rfl, rfl, h⟩
   exact ⟨k, m, by rfl, ae, ar, aq, h⟩
  ·exact ⟨false, p, by rw [a3E u], ad, fun _ _ _ => rfl, Hle.refl _, h.2 u⟩
  ·clear h
   rintro ap aa ⟨k, m, rfl, ae, ar, aq, h⟩
   refine a8 (E8 _ _) ?_
   simp only [t8]
   refine a0i (D := fun au af => ∃ (o : Bool) (f : Hp) , au = (gv (((decide (x0 = ⟨#[]⟩)) || (!d)) || k) false (vB o)) ∧ (Inv w0 ps0 H0 f [] af) ∧ (∀ i, i < aa.heap.size → ¬ inF [] i → af.heap[i]? = aa.heap[i]?) ∧ Hle m f ∧ ((((((decide (x0 = ⟨#[]⟩)) || (!d)) || k) || o) = true →
 K false f) ∧
 (((((decide (x0 = ⟨#[]⟩)) || (!d)) || k) || o) = false →
 TL (0 : Nat) f fun (s : Nat) H n2 => R7 x0 s H n2 K))) (fun v => ?_) (fun v => ?_) ?_
   ·replace h := h.1 v
    have c := v
    simp only [g7 c]
    refine i6 Tryz.call164 h ae ?_
    rintro _ f _ af ag av aw ⟨o, rfl, rfl, h⟩
    exact ⟨o, f, by rfl, ag, aw, av, h⟩
   ·exact ⟨false, m, by rw [a3E v], ae, fun _ _ _ => rfl, Hle.refl _, h.2 v⟩
   ·clear h
    rintro au af ⟨o, f, rfl, ag, aw, av, h⟩
    refine a8 (E8 _ _) ?_
    refine m5 h (fun _ h => ?_) (fun _ h => ?_)
    ·exact hR _ f _ _ ag ⟨false, rfl, rfl, h⟩
    ·have hj1 : ∀ H w (_ : Inv w0 ps0 H0 H [] w) (_ : a6c H K), b7m w R E := by
      intro H w I h
      unfold b7m
      intro _
      unfold a6c at h
      exact hR _ H _ _ I ⟨true, rfl, rfl, h⟩
     refine r5 fun j1 hx1 => ?_
     refine c2c Tryz.underlying9 x0 ag fun ax bk be bl => ?_
     obtain ⟨aj, ac, bf, bg⟩ := h
     refine y7 (J := fun n l w => ∃ (s : Nat) (H : Hp) , n = ac s ∧ l = [] ∧ Inv w0 ps0 H0 H [itf ax x0 s] w ∧ aj s H) ⟨_, 0, f, rfl, rfl, be, bf⟩ ?_
     rintro bm bn w next2 ⟨j, H, rfl, bh, I, bi⟩ hn2
     clear bh
     obtain ⟨n2, hm2, h⟩ : ∃ n2 : Nat → Hp → Prop, (∀ s' H', n2 s' H' → aj s' H' ∧ ac s' < ac j) ∧ R7 x0 j H n2 K := ⟨_, fun _ _ h => h, bg j H (fun s' H' => aj s' H' ∧ ac s' < ac j) bi (fun _ _ a b => ⟨a, b⟩)⟩
     unfold c2o
     unfold R7 at h
     refine c4x I (fun ak bo bj bp => ?_) (fun ak => ?_)
     ·replace h := h.1 ak
      refine a8 (m8 _ _ (vB true) rfl) ?_
      refine V3 (fun e => ?_) (fun e => by cases e)
      refine a8 (m8 _ _ (vi ((j : Nat) : Int)) rfl) (a8 (m8 _ _ (Value.int .i32 ((Utf8.decode x0 j).1 : Int)) rfl) ?_)
      refine i6 Tryz.call165 h bj ?_
      rintro _ ay _ az ba _ _ ⟨al, rfl, rfl, h⟩
      refine a8 (G3 _) ?_
      simp only [t8]
      refine a8 (Pu.g fun c => by simp only [g7 c]; exact pEq) ?_
      simp only [a5t, a8I]
      refine b0f (a0f _ _ _) ?_
      refine a0i (D := fun bb ah => ∃ (ab : Int) (q : Hp) , bb = (gv (!(!al) && (decide (((j : Nat) : Int) = 0))) true (vi ab)) ∧ (Inv w0 ps0 H0 q [itf ax x0 (j + (Utf8.decode x0 j).2)] ah) ∧ (∀ i, i < az.heap.size → ¬ inF [] i → ah.heap[i]? = az.heap[i]?) ∧ Hle ay q ∧ ((((!al) || ((decide (((j : Nat) : Int) = 0)) && (!decide (ab = 3)))) = true →
 K false q) ∧
 (((!al) || ((decide (((j : Nat) : Int) = 0)) && (!decide (ab = 3)))) = false →
 n2 (j + (Utf8.decode x0 j).2) q))) (fun y => ?_) (fun y => ?_) ?_
      ·replace h := h.1 y
       obtain ⟨c, r⟩ := a2T y
       simp only [g7 y]
       refine i6 Tryz.call166 h ba ?_
       rintro _ q _ ah ai bc bd ⟨ab, rfl, rfl, h⟩
       exact ⟨ab, q, by rfl, ai, bd, bc, h⟩
      ·exact ⟨0, ay, by rw [a3E y], ba, fun _ _ _ => rfl, Hle.refl _, h.2 y⟩
      ·clear h
       rintro bb ah ⟨ab, q, rfl, ai, bd, bc, h⟩
       refine a8 (Pu.e (a0f _ _ _) (Pu.g fun hb => by obtain ⟨c, r⟩ := a2T hb; simp only [g7 hb]; exact pNe)) ?_
       refine a8 (Pu.g fun c => by simp only [g7 c, a7O c]; exact (v7 _ _)) ?_
       refine a8 (E8 _ _) ?_
       refine m5 h (fun _ h => ?_) (fun _ h => ?_)
       ·exact hR _ q _ _ ai.drop ⟨false, rfl, rfl, h⟩
       ·exact hn2 _ _ _ (hm2 _ _ h).2 ⟨(j + (Utf8.decode x0 j).2), q, rfl, rfl, ai, (hm2 _ _ h).1⟩
     ·replace h := h.2 ak
      refine a8 (m8 _ _ (vB false) rfl) ?_
      refine V3 (fun e => by cases e) (fun e => ?_)
      exact hx1 _ _ (hj1 H _ I.drop h)
def D1 (a2w : (List f7)) (H : Hp) (K : Sl → Hp → Prop) : Prop :=
 ∀ (N6 : Sl) (a : Hp), Hle H a → SlH a 1 z7 N6 a2w → N6.n ≤ N6.c →
 K N6 a
def D2 (a3I : Sl) (a3d : Int) (B3 : (List f7)) (A9 : Int) (H : Hp) (n2 : ((List f7) × Int) → Hp → Prop) (K : Sl → Hp → Prop) : Prop :=
 (A9 < a3d →
 (0 : Int) ≤ A9 ∧ (A9 : Int) < a3I.n ∧ ∃ a : i8, EltH H a3I A9 2 (o7 a) ∧
 a8M a H (fun b c =>
 (B3.length + ([b] : List f7).length) * 17 ≤ 140737488355328 ∧
 n2 ((B3 ++ [b]), (IntKind.wrap .i64 (A9 + 1))) c)) ∧
 (¬ (A9 < a3d) →
 D1 B3 H K)
def M6 (x0 : Sl) (H : Hp) (K : Sl → Hp → Prop) : Prop :=
 TL (([], 0) : (List f7) × Int) H fun (s : (List f7) × Int) H n2 => D2 x0 (x0.n : Int) s.1 s.2 H n2 K
theorem a3e (x0) {H K} (h : M6 x0 H K) : M5 x0 H K := by
 refine Ct.of fun w0 w ps0 H0 R E I hR => d1h ?_
 unfold M6 at h
 unfold F76
 have hj1 : ∀ (a2w : (List f7)) (N6 : Sl) (Fs5j1 : Frag) H w (_ : RowL 150 1 z7 N6 a2w Fs5j1) (_ : Inv w0 ps0 H0 H [Fs5j1] w) (_ : D1 a2w H K), b9X (vs N6) w R E := by
  intro a2w N6 Fs5j1 H w b3t I h
  unfold b9X
  intro _
  unfold D1 at h
  obtain ⟨k, q, r, t, u⟩ := Inv.freezeC I b3t (by decide)
  replace h := h N6 k r t u
  exact hR _ k _ _ q ⟨N6, rfl, rfl, h⟩
 refine r5 fun j1 hx1 => ?_
 refine a8 (a3w _ _ _) ?_
 obtain ⟨f, d, v, y⟩ := h
 refine y7 (J := fun n l w => ∃ (s : (List f7) × Int) (H : Hp) (a2x : Sl) (Fs5l2 : Frag) , n = d s ∧ l = (match s with | (B3, A9) => [(vs a2x), (vi A9)]) ∧ (match s with | (B3, A9) => RowL 150 1 z7 a2x B3 Fs5l2) ∧ (match s with | (B3, A9) => Inv w0 ps0 H0 H [Fs5l2] w) ∧ f s H) ⟨_, ([], 0), H, (Sl.mk none 0 0), [], rfl, rfl, (RowL.nil U1 a0g), I.nil, v⟩ ?_
 rintro am an w next2 ⟨⟨B3, A9⟩, H, a2x, Fs5l2, rfl, g, a6d, I, z⟩ hn2
 dsimp only at g I a6d
 simp only [List.map_cons, List.map_nil, List.cons.injEq, and_true] at g
 obtain ⟨e5, e10⟩ := g
 simp only [e5, e10]
 obtain ⟨n2, hm2, h⟩ : ∃ n2 : ((List f7) × Int) → Hp → Prop, (∀ s' H', n2 s' H' → f s' H' ∧ d s' < d (B3, A9)) ∧ D2 x0 (x0.n : Int) B3 A9 H n2 K := ⟨_, fun _ _ h => h, y (B3, A9) H (fun s' H' => f s' H' ∧ d s' < d (B3, A9)) z (fun _ _ a b => ⟨a, b⟩)⟩
 unfold c4G
 unfold D2 at h
 refine a8 pLs ?_
 refine f6 h (fun _ h => ?_) (fun _ h => ?_)
 ·obtain ⟨aa, ab, i, j, h⟩ := h
  obtain ⟨ao, ap, ac, j⟩ := j
  refine a8 (a1x ac _ _ _ _ aa ab) (b6 (ldA (vs := (o7 i)) Tryz.isAgg71 Tryz.sizeOf71 rfl (I.atH j)) ?_)
  refine B9 I Tryz.zeroValue71 (cs := [(eS), (vi 0)]) rfl fun aq ar ad au => ?_
  refine o4 ad Tryz.sizeOf71 (vs := (o7 i)) (cs' := (o7 i)) rfl rfl (nb rfl) rfl rfl fun av m aw => ?_
  refine b6 (lW Tryz.isAgg71 Tryz.sizeOf71 rfl m) ?_
  refine i6 Tryz.call77 h m ?_
  rintro _ ae _ ax af _ _ ⟨o, rfl, rfl, h⟩
  refine a2l (e := 150) (c := z7) (xs := [o]) af (b3o _) rfl rfl U1 a0g (nb rfl) fun ay az ba ag p bb => ?_
  obtain ⟨ah, h⟩ := h
  refine b2I (s := a2x) (xs := B3) (p.bring 2) a6d (ag.srcO ((p.bring 2).bring 1)) ah fun ai aj bc ak al bd => ?_
  refine a8 pAd ?_
  exact hn2 _ _ _ (hm2 _ _ h).2 ⟨((B3 ++ [o]), (IntKind.wrap .i64 (A9 + 1))), ae, ai, aj, rfl, rfl, ak, ((al.bring 1).drop.bring 1).drop, (hm2 _ _ h).1⟩
 ·exact hx1 _ _ (hj1 B3 a2x Fs5l2 H _ a6d I h)
def D3 (a2w : (List f7)) (H : Hp) (K : Sl → Hp → Prop) : Prop :=
 ∀ (N6 : Sl) (a : Hp), Hle H a → SlH a 1 z7 N6 a2w → N6.n ≤ N6.c →
 K N6 a
def D4 (a3I : Sl) (a3d : Int) (B3 : (List f7)) (A9 : Int) (H : Hp) (n2 : ((List f7) × Int) → Hp → Prop) (K : Sl → Hp → Prop) : Prop :=
 (A9 < a3d →
 (0 : Int) ≤ A9 ∧ (A9 : Int) < a3I.n ∧ ∃ a : m7, EltH H a3I A9 6 (f8 a) ∧
 a8N a H (fun b c =>
 (B3.length + ([b] : List f7).length) * 17 ≤ 140737488355328 ∧
 n2 ((B3 ++ [b]), (IntKind.wrap .i64 (A9 + 1))) c)) ∧
 (¬ (A9 < a3d) →
 D3 B3 H K)
def M7 (x0 : Sl) (H : Hp) (K : Sl → Hp → Prop) : Prop :=
 TL (([], 0) : (List f7) × Int) H fun (s : (List f7) × Int) H n2 => D4 x0 (x0.n : Int) s.1 s.2 H n2 K
theorem a3f (x0) {H K} (h : M7 x0 H K) : B1 x0 H K := by
 refine Ct.of fun w0 w ps0 H0 R E I hR => d1j ?_
 unfold M7 at h
 unfold F78
 have hj1 : ∀ (a2w : (List f7)) (N6 : Sl) (Fs5j1 : Frag) H w (_ : RowL 150 1 z7 N6 a2w Fs5j1) (_ : Inv w0 ps0 H0 H [Fs5j1] w) (_ : D3 a2w H K), b9Y (vs N6) w R E := by
  intro a2w N6 Fs5j1 H w b3t I h
  unfold b9Y
  intro _
  unfold D3 at h
  obtain ⟨k, q, r, t, u⟩ := Inv.freezeC I b3t (by decide)
  replace h := h N6 k r t u
  exact hR _ k _ _ q ⟨N6, rfl, rfl, h⟩
 refine r5 fun j1 hx1 => ?_
 refine a8 (a0h _ _ _) ?_
 obtain ⟨f, d, v, y⟩ := h
 refine y7 (J := fun n l w => ∃ (s : (List f7) × Int) (H : Hp) (a2x : Sl) (Fs5l2 : Frag) , n = d s ∧ l = (match s with | (B3, A9) => [(vs a2x), (vi A9)]) ∧ (match s with | (B3, A9) => RowL 150 1 z7 a2x B3 Fs5l2) ∧ (match s with | (B3, A9) => Inv w0 ps0 H0 H [Fs5l2] w) ∧ f s H) ⟨_, ([], 0), H, (Sl.mk none 0 0), [], rfl, rfl, (RowL.nil U1 a0g), I.nil, v⟩ ?_
 rintro am an w next2 ⟨⟨B3, A9⟩, H, a2x, Fs5l2, rfl, g, a6d, I, z⟩ hn2
 dsimp only at g I a6d
 simp only [List.map_cons, List.map_nil, List.cons.injEq, and_true] at g
 obtain ⟨e5, e10⟩ := g
 simp only [e5, e10]
 obtain ⟨n2, hm2, h⟩ : ∃ n2 : ((List f7) × Int) → Hp → Prop, (∀ s' H', n2 s' H' → f s' H' ∧ d s' < d (B3, A9)) ∧ D4 x0 (x0.n : Int) B3 A9 H n2 K := ⟨_, fun _ _ h => h, y (B3, A9) H (fun s' H' => f s' H' ∧ d s' < d (B3, A9)) z (fun _ _ a b => ⟨a, b⟩)⟩
 unfold c4H
 unfold D4 at h
 refine a8 pLs ?_
 refine f6 h (fun _ h => ?_) (fun _ h => ?_)
 ·obtain ⟨aa, ab, i, j, h⟩ := h
  obtain ⟨ao, ap, ac, j⟩ := j
  refine a8 (a4s ac _ _ _ _ aa ab) (b6 (ldA (vs := (f8 i)) Tryz.isAgg73 Tryz.sizeOf73 rfl (I.atH j)) ?_)
  refine B9 I Tryz.zeroValue73 (cs := [(vi 0), (eS), (nS), (nS), (nS), (nS)]) rfl fun aq ar ad au => ?_
  refine o4 ad Tryz.sizeOf73 (vs := (f8 i)) (cs' := (f8 i)) rfl rfl (nb rfl) rfl rfl fun av m aw => ?_
  refine b6 (lW Tryz.isAgg73 Tryz.sizeOf73 rfl m) ?_
  refine i6 Tryz.call79 h m ?_
  rintro _ ae _ ax af _ _ ⟨o, rfl, rfl, h⟩
  refine a2l (e := 150) (c := z7) (xs := [o]) af (b3o _) rfl rfl U1 a0g (nb rfl) fun ay az ba ag p bb => ?_
  obtain ⟨ah, h⟩ := h
  refine b2I (s := a2x) (xs := B3) (p.bring 2) a6d (ag.srcO ((p.bring 2).bring 1)) ah fun ai aj bc ak al bd => ?_
  refine a8 pAd ?_
  exact hn2 _ _ _ (hm2 _ _ h).2 ⟨((B3 ++ [o]), (IntKind.wrap .i64 (A9 + 1))), ae, ai, aj, rfl, rfl, ak, ((al.bring 1).drop.bring 1).drop, (hm2 _ _ h).1⟩
 ·exact hx1 _ _ (hj1 B3 a2x Fs5l2 H _ a6d I h)
def a7E (x0 : o3) (H : Hp) (K : p8 → Hp → Prop) : Prop :=
 M5 x0.D9 H (fun d e =>
 B1 x0.a2f e (fun f g =>
 ∀ (a : Sl) (b : Hp), Hle g b → SlH b 1 csl a [d, f] → a.n ≤ a.c →
 E1 a b (fun i j =>
 a6a i j (fun k l =>
 K k l))))
theorem b5l (x0) {H K} (h : a7E x0 H K) : a7C x0 H K := by
 refine Ct.of fun w0 w ps0 H0 R E I hR => d1d ?_
 unfold a7E at h
 unfold F43
 refine F0 I (cs := (q7 x0)) rfl fun z aa b ab => ?_
 refine U6 b fun ac a => ?_
 refine j8 O1 ?_
 refine j8 a3X ?_
 refine u7 (l1 Tryz.isAgg22 a rfl) ?_
 refine u7 (l1 Tryz.isAgg23 a rfl) ?_
 refine i6 Tryz.call76 h a ?_
 rintro _ _ _ ad d _ f ⟨g, rfl, rfl, h⟩
 refine ⟨(f _ a.lt1 (Inv.a5M (Fi := []) a)), ?_⟩
 refine i6 Tryz.call78 h d ?_
 rintro _ _ _ ae i _ _ ⟨j, rfl, rfl, h⟩
 refine a2l (e := 137) (c := csl) (xs := [g, j]) i (b9M _ _ _ _ _ _) rfl rfl b3e b3f (nb rfl) fun k af ag l m ah => ?_
 obtain ⟨n, o, p, q, r⟩ := Inv.freezeC m l (by decide)
 replace h := h k n p q r
 refine i6 Tryz.call75 h o ?_
 rintro _ _ _ ai s _ _ ⟨aj, rfl, rfl, h⟩
 refine i6 Tryz.call65 h s ?_
 rintro _ t _ ak u _ _ ⟨v, y, rfl, rfl, h⟩
 exact hR _ t _ _ (u.bring 1).drop ⟨v, y, rfl, rfl, h⟩
def W0 (a8Q : Int) (a : o0) (a1W : Int) (a0S : d6) (H : Hp) (n2 : (Int × d6) → Hp → Prop) (K : d6 → Hp → Prop) : Prop :=
 (((decide (a1W < (a.v8.n : Int))) && (decide (a0S.fbad = 0))) = true →
 (0 : Int) ≤ a1W ∧ (a1W : Int) < a.v8.n ∧ ∃ b : o0, EltH H a.v8 a1W 4 (h9 b) ∧
 a0w a0S b (IntKind.wrap .i64 (a8Q + 1)) H (fun c d =>
 n2 ((IntKind.wrap .i64 (a1W + 1)), c) d)) ∧
 (((decide (a1W < (a.v8.n : Int))) && (decide (a0S.fbad = 0))) = false →
 K a0S H)
def W2 (b2v : Int) (P7 : d6) (a : o0) (H : Hp) (K : d6 → Hp → Prop) : Prop :=
 TL ((0, P7) : Int × d6) H fun (s : Int × d6) H n2 => W0 b2v a s.1 s.2 H n2 K
def W3 (d1O : Int) (a : o0) (G6 : Int) (a7e : d6) (H : Hp) (n3 : (Int × d6) → Hp → Prop) (K : d6 → Hp → Prop) : Prop :=
 (((decide (G6 < (a.m6.n : Int))) && (decide (a7e.fbad = 0))) = true →
 (0 : Int) ≤ G6 ∧ (G6 : Int) < a.m6.n ∧ ∃ b : m2, EltH H a.m6 G6 4 (f4 b) ∧
 T7 a7e b (IntKind.wrap .i64 (d1O + 1)) H (fun c d =>
 n3 ((IntKind.wrap .i64 (G6 + 1)), c) d)) ∧
 (((decide (G6 < (a.m6.n : Int))) && (decide (a7e.fbad = 0))) = false →
 W2 d1O a7e a H K)
def a2F (x0 : d6) (x1 : o0) (x2 : Int) (H : Hp) (K : d6 → Hp → Prop) : Prop :=
 P0 x0 x2 H (fun a b c =>
 ((!a) = true →
 K b c) ∧
 ((!a) = false →
 TL ((0, b) : Int × d6) c fun (s : Int × d6) H n3 => W3 x2 x1 s.1 s.2 H n3 K))
theorem a8Z (x0 x1 x2) {H K} (h : a2F x0 x1 x2 H K) : a0w x0 x1 x2 H K := by
 intro g0
 refine Ct.of fun w0 w ps0 H0 R E I hR => c8p ?_
 unfold a2F at h
 unfold d1q
 refine F0 I (cs := (h9 x1)) rfl fun f ar u au => ?_
 refine i6 Tryz.call84 (h g0) (u.bring 1) ?_
 rintro _ q _ av r _ _ ⟨aw, t, rfl, rfl, h⟩
 refine a8 (G3 _) ?_
 refine m5 h (fun _ h => ?_) (fun _ h => ?_)
 ·exact hR _ q _ _ (r.bring 1).drop ⟨t, rfl, rfl, h⟩
 ·have hj1 : ∀ (P7 : d6) H w (_ : Inv w0 ps0 H0 H [bx g0 108 (p5 P7), bx f 59 (h9 x1)] w) (_ : W2 x2 P7 x1 H K), b7l (Value.pointer (some ⟨g0, 0, none⟩)) (vi x2) (Value.pointer (some ⟨f, 0, none⟩)) w R E := by
   intro P7 H w I h
   unfold b7l
   intro _
   unfold W2 at h
   obtain ⟨i, d, v, y⟩ := h
   refine y7 (J := fun n l w => ∃ (s : Int × d6) (H : Hp) , n = d s ∧ l = (match s with | (a1W, a0S) => [(vi a1W)]) ∧ (match s with | (a1W, a0S) => Inv w0 ps0 H0 H [bx g0 108 (p5 a0S), bx f 59 (h9 x1)] w) ∧ i s H) ⟨_, (0, P7), H, rfl, rfl, ((I.bring 1).bring 1), v⟩ ?_
   rintro ax ay w next2 ⟨⟨a1W, a0S⟩, H, rfl, j, I, z⟩ hn2
   dsimp only at j I
   simp only [List.map_cons, List.map_nil, List.cons.injEq, and_true] at j
   have e7 := j
   simp only [e7]
   obtain ⟨n2, hm2, h⟩ : ∃ n2 : (Int × d6) → Hp → Prop, (∀ s' H', n2 s' H' → i s' H' ∧ d s' < d (a1W, a0S)) ∧ W0 x2 x1 a1W a0S H n2 K := ⟨_, fun _ _ h => h, y (a1W, a0S) H (fun s' H' => i s' H' ∧ d s' < d (a1W, a0S)) z (fun _ _ a b => ⟨a, b⟩)⟩
   unfold c2l
   unfold W0 at h
   refine a8 O3 (b6 (l1 Tryz.isAgg57 (I.bring 1) rfl) (a8 (a1Z _ _ _) (a8 pLs ?_)))
   simp only [t8]
   refine a8 (Pu.g fun c => by simp only [g7 c]; exact (m3 _)) ?_
   refine a8 (Pu.g fun c => by simp only [g7 c]; exact U5) ?_
   refine b6 (Ld.g fun c => by simp only [g7 c]; exact (l1 Tryz.isAgg3 I rfl)) ?_
   refine a8 (Pu.g fun c => by simp only [g7 c]; exact pEq) ?_
   refine a8 (v7 _ _) ?_
   refine m5 h (fun _ h => ?_) (fun _ h => ?_)
   ·refine a8 O3 (b6 (l1 Tryz.isAgg57 (I.bring 1) rfl) ?_)
    obtain ⟨aa, ab, ac, k, h⟩ := h
    obtain ⟨az, ba, ad, k⟩ := k
    refine a8 (P6 ad _ _ _ _ aa ab) (b6 (ldA (vs := (h9 ac)) Tryz.isAgg59 Tryz.sizeOf59 rfl (I.atH k)) (a8 pAd ?_))
    refine i6 Tryz.call120 (h g0) I ?_
    rintro _ ae _ bb af _ _ ⟨ag, rfl, rfl, h⟩
    refine a8 pAd ?_
    exact hn2 _ _ _ (hm2 _ _ h).2 ⟨((IntKind.wrap .i64 (a1W + 1)), ag), ae, rfl, rfl, ((af.bring 1).bring 1), (hm2 _ _ h).1⟩
   ·exact hR _ H _ _ (I.bring 1).drop ⟨a0S, rfl, rfl, h⟩
  refine r5 fun j1 hx1 => ?_
  obtain ⟨m, e, ah, ai⟩ := h
  refine y7 (J := fun n l w => ∃ (s : Int × d6) (H : Hp) , n = e s ∧ l = (match s with | (G6, a7e) => [(vi G6)]) ∧ (match s with | (G6, a7e) => Inv w0 ps0 H0 H [bx g0 108 (p5 a7e), bx f 59 (h9 x1)] w) ∧ m s H) ⟨_, (0, t), q, rfl, rfl, ((r.bring 1).bring 1), ah⟩ ?_
  rintro bc bd w next3 ⟨⟨G6, a7e⟩, H, rfl, o, I, aj⟩ hn3
  dsimp only at o I
  simp only [List.map_cons, List.map_nil, List.cons.injEq, and_true] at o
  have e6 := o
  simp only [e6]
  obtain ⟨n3, hm3, h⟩ : ∃ n3 : (Int × d6) → Hp → Prop, (∀ s' H', n3 s' H' → m s' H' ∧ e s' < e (G6, a7e)) ∧ W3 x2 x1 G6 a7e H n3 K := ⟨_, fun _ _ h => h, ai (G6, a7e) H (fun s' H' => m s' H' ∧ e s' < e (G6, a7e)) aj (fun _ _ a b => ⟨a, b⟩)⟩
  unfold c2m
  unfold W3 at h
  refine a8 a0k (b6 (l1 Tryz.isAgg51 (I.bring 1) rfl) (a8 (P9 _ _ _) (a8 pLs ?_)))
  simp only [t8]
  refine a8 (Pu.g fun c => by simp only [g7 c]; exact (m3 _)) ?_
  refine a8 (Pu.g fun c => by simp only [g7 c]; exact U5) ?_
  refine b6 (Ld.g fun c => by simp only [g7 c]; exact (l1 Tryz.isAgg3 I rfl)) ?_
  refine a8 (Pu.g fun c => by simp only [g7 c]; exact pEq) ?_
  refine a8 (v7 _ _) ?_
  refine m5 h (fun _ h => ?_) (fun _ h => ?_)
  ·refine a8 a0k (b6 (l1 Tryz.isAgg51 (I.bring 1) rfl) ?_)
   obtain ⟨ak, al, am, p, h⟩ := h
   obtain ⟨be, bf, an, p⟩ := p
   refine a8 (K9 an _ _ _ _ ak al) (b6 (ldA (vs := (f4 am)) Tryz.isAgg53 Tryz.sizeOf53 rfl (I.atH p)) (a8 pAd ?_))
   refine i6 Tryz.call121 (h g0) I ?_
   rintro _ ao _ bg ap _ _ ⟨aq, rfl, rfl, h⟩
   refine a8 pAd ?_
   exact hn3 _ _ _ (hm3 _ _ h).2 ⟨((IntKind.wrap .i64 (G6 + 1)), aq), ao, rfl, rfl, ((ap.bring 1).bring 1), (hm3 _ _ h).1⟩
  ·exact hx1 _ _ (hj1 a7e H _ ((I.bring 1).bring 1) h)
def a6e (x0 : m2) (H : Hp) (K : f7 → Hp → Prop) : Prop :=
 K (f7.L1 (P3.mk x0)) H
theorem b3u (x0) {H K} (h : a6e x0 H K) : a8O x0 H K := by
 refine Ct.of fun w0 w ps0 H0 R E I hR => c8E ?_
 unfold a6e at h
 unfold d1F
 refine F0 I (cs := (f4 x0)) rfl fun b c a d => ?_
 refine b6 (lW Tryz.isAgg53 Tryz.sizeOf53 rfl a) (a8 (b9K _ _ _ _ _ _) (a8 (b2H (P3.mk x0)) ?_))
 exact hR _ H _ _ a.drop ⟨(f7.L1 (P3.mk x0)), rfl, rfl, h⟩
def a4x (x0 : a0N) (H : Hp) (K : Sl → Hp → Prop) : Prop :=
 K (Sl.mk none 0 0) H
theorem b1e (x0) {H K} (h : a4x x0 H K) : a6Q x0 H K := by
 refine Ct.of fun w0 w ps0 H0 R E I hR => c8K ?_
 unfold a4x at h
 unfold d1L
 refine F0 I (cs := (o7 x0.a1y)) rfl fun b c a d => ?_
 exact hR _ H _ _ a.drop ⟨(Sl.mk none 0 0), rfl, rfl, h⟩
end Go.Proofs.YtnhkdkcgdcgmdaaGreatDoor
