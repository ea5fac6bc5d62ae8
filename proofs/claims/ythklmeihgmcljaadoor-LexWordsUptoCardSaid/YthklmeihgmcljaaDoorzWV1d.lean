/- Typed formulas of the program's functions, and the theorems that the contracts follow from them; printed by lift.py off the code. -/
import Derived.Test.YthklmeihgmcljaaDoorzWV1
namespace Go.Proofs.YthklmeihgmcljaaDoor
open Go.RowKit
set_option maxRecDepth 100000
set_option maxHeartbeats 2000000
def C5 (H : Hp) (K : Bool → Hp → Prop) : Prop :=
 J5 ⟨#[120, 49, 60, 61, 45, 53, 35, 99]⟩ H (fun a k b i =>
 J5 ⟨#[97, 32, 38, 32, 98]⟩ i (fun l g j c =>
 ∃ d : a6, (((decide (b = 0)) && (decide ((a.n : Int) = 5))) = true → (0 : Int) ≤ 1 ∧ (1 : Int) < a.n ∧ EltH c a 1 5 (b6 d)) ∧
 ∃ e : a6, ((((decide (b = 0)) && (decide ((a.n : Int) = 5))) && (decide (d.U7 = ⟨#[60, 61]⟩))) = true → (0 : Int) ≤ 3 ∧ (3 : Int) < a.n ∧ EltH c a 3 5 (b6 e)) ∧
 ∃ f : a6, (((((decide (b = 0)) && (decide ((a.n : Int) = 5))) && (decide (d.U7 = ⟨#[60, 61]⟩))) && (decide (e.a0C = 5))) = true → (0 : Int) ≤ 4 ∧ (4 : Int) < a.n ∧ EltH c a 4 5 (b6 f)) ∧
 K (((((((decide (b = 0)) && (decide ((a.n : Int) = 5))) && (decide (d.U7 = ⟨#[60, 61]⟩))) && (decide (e.a0C = 5))) && (decide (f.fAt.r8 = 1 ∧ f.fAt.y2 = 9))) && (decide (j = 20))) && (decide (g.r8 = 1 ∧ g.y2 = 3))) c))
theorem R0 {H : Hp} {K : Bool → Hp → Prop} (h : C5 H K) : C2 H K := by
 refine Ct.of fun w0 w ps0 H0 R E I hR => a7N ?_
 unfold C5 at h
 unfold F8
 refine f9 Tryd.call9 h I ?_
 rintro _ _ _ aa q _ _ ⟨r, m, o, rfl, rfl, h⟩
 refine a7 (d7 _ _ _ rfl) ?_
 refine a7 (d7 _ _ _ rfl) ?_
 refine a7 (d7 _ _ (vi o) rfl) ?_
 refine E6 q Tryd.zeroValue25 (cs := [(vi 0), (vi 0)]) rfl fun ab ac s ad => ?_
 refine o8 s Tryd.sizeOf25 (vs := (B3 m)) (cs' := (B3 m)) rfl rfl (nb rfl) rfl rfl fun ae t af => ?_
 refine f9 Tryd.call9 h t ?_
 rintro _ u _ ag y _ _ ⟨ah, i, p, rfl, rfl, h⟩
 refine a7 (d7 _ _ _ rfl) ?_
 refine a7 (d7 _ _ _ rfl) ?_
 refine a7 (d7 _ _ (vi p) rfl) ?_
 refine E6 y Tryd.zeroValue25 (cs := [(vi 0), (vi 0)]) rfl fun ai aj z ak => ?_
 refine o8 z Tryd.sizeOf25 (vs := (B3 i)) (cs' := (B3 i)) rfl rfl (nb rfl) rfl rfl fun al e am => ?_
 refine a7 (l0 _ _ _ _ _ _) ?_
 simp only [m5]
 refine a7 (Pu.g fun hb => by have a := hb; simp only [j7 a]; exact (a3t _ _ _)) ?_
 refine a7 (Pu.g fun hb => by have a := hb; simp only [j7 a]; with_reducible exact (l0 _ _ _ _ _ _)) ?_
 refine a7 (r9 _ _) ?_
 simp only [m5]
 obtain ⟨j, b, h⟩ := h
 obtain ⟨an, ao, b⟩ := a2T b
 refine a7 (Pu.g fun hb => by have a := hb; simp only [j7 a]; exact (Z7 (b hb).2.2.1 _ _ _ _ (b hb).1 (b hb).2.1)) ?_
 refine a7 (Pu.g fun hb => by have a := hb; simp only [j7 a]; with_reducible exact K6) ?_
 refine q9 (Ld.g fun hb => by have a := hb; simp only [j7 a]; exact (ld1 (v := (Value.string j.U7)) Tryd.isAgg9 ((e.atH (b hb).2.2.2).sub (k := 1) (n := 1) (nb rfl)))) ?_
 refine a7 (Pu.g fun hb => by have a := hb; simp only [j7 a]; with_reducible exact (r3 _ _ _ _ _)) ?_
 refine a7 (r9 _ _) ?_
 simp only [m5]
 obtain ⟨l, c, h⟩ := h
 obtain ⟨ap, aq, c⟩ := a2T c
 refine a7 (Pu.g fun hb => by have a := hb; simp only [j7 a]; exact (Z7 (c hb).2.2.1 _ _ _ _ (c hb).1 (c hb).2.1)) ?_
 refine a7 (Pu.g fun hb => by have a := hb; simp only [j7 a]; with_reducible exact a0k) ?_
 refine q9 (Ld.g fun hb => by have a := hb; simp only [j7 a]; exact (ld1 (v := (vi l.a0C)) Tryd.isAgg2 ((e.atH (c hb).2.2.2).sub (k := 2) (n := 1) (nb rfl)))) ?_
 refine a7 (Pu.g fun hb => by have a := hb; simp only [j7 a]; with_reducible exact (l0 _ _ _ _ _ _)) ?_
 refine a7 (r9 _ _) ?_
 simp only [m5]
 obtain ⟨f, d, h⟩ := h
 obtain ⟨ar, au, d⟩ := a2T d
 refine a7 (Pu.g fun hb => by have a := hb; simp only [j7 a]; exact (Z7 (d hb).2.2.1 _ _ _ _ (d hb).1 (d hb).2.1)) ?_
 refine a7 (Pu.g fun hb => by have a := hb; simp only [j7 a]; with_reducible exact a0l) ?_
 refine q9 (Ld.g fun hb => by have a := hb; simp only [j7 a]; exact (ldA (vs := (B3 f.fAt)) Tryd.isAgg25 Tryd.sizeOf25 rfl ((e.atH (d hb).2.2.2).sub (k := 3) (n := 2) (nb rfl)))) ?_
 refine a7 (Pu.g fun hb => by have a := hb; with_reducible exact (Q1 _ _)) ?_
 refine a7 (Pu.g fun hb => by have a := hb; simp only [j7 a]; with_reducible exact (a1y _ _ _ _ _ _)) ?_
 refine a7 (r9 _ _) ?_
 simp only [m5]
 refine a7 (Pu.g fun hb => by have a := hb; simp only [j7 a]; with_reducible exact (l0 _ _ _ _ _ _)) ?_
 refine a7 (r9 _ _) ?_
 refine q9 (Ld.g fun hb => by have a := hb; exact (lW Tryd.isAgg25 Tryd.sizeOf25 rfl e)) ?_
 refine a7 (Pu.g fun hb => by have a := hb; with_reducible exact (Q1 _ _)) ?_
 refine a7 (Pu.g fun hb => by have a := hb; simp only [j7 a]; with_reducible exact (a1y _ _ _ _ _ _)) ?_
 refine a7 (r9 _ _) ?_
 exact hR _ u _ _ e.drop.drop ⟨(((((((decide (o = 0)) && (decide ((r.n : Int) = 5))) && (decide (j.U7 = ⟨#[60, 61]⟩))) && (decide (l.a0C = 5))) && (decide (f.fAt.r8 = 1 ∧ f.fAt.y2 = 9))) && (decide (p = 20))) && (decide (i.r8 = 1 ∧ i.y2 = 3))), rfl, rfl, h⟩
def d9 (j6 : Bool) (H : Hp) (K : Bool → Hp → Prop) : Prop :=
 (j6 = true →
 K true H) ∧
 (j6 = false →
 K false H)
def L3 (x0 : ByteArray) (H : Hp) (K : Bool → Hp → Prop) : Prop :=
 (x0 = ⟨#[118, 97, 114]⟩ →
 d9 (decide (x0 = ⟨#[118, 97, 114]⟩)) H K) ∧
 (¬ (x0 = ⟨#[118, 97, 114]⟩) →
 (x0 = ⟨#[97, 114, 114, 97, 121]⟩ →
 d9 (decide (x0 = ⟨#[97, 114, 114, 97, 121]⟩)) H K) ∧
 (¬ (x0 = ⟨#[97, 114, 114, 97, 121]⟩) →
 (x0 = ⟨#[105, 102]⟩ →
 d9 (decide (x0 = ⟨#[105, 102]⟩)) H K) ∧
 (¬ (x0 = ⟨#[105, 102]⟩) →
 (x0 = ⟨#[101, 108, 115, 101]⟩ →
 d9 (decide (x0 = ⟨#[101, 108, 115, 101]⟩)) H K) ∧
 (¬ (x0 = ⟨#[101, 108, 115, 101]⟩) →
 (x0 = ⟨#[119, 104, 105, 108, 101]⟩ →
 d9 (decide (x0 = ⟨#[119, 104, 105, 108, 101]⟩)) H K) ∧
 (¬ (x0 = ⟨#[119, 104, 105, 108, 101]⟩) →
 (x0 = ⟨#[97, 115, 115, 101, 114, 116]⟩ →
 d9 (decide (x0 = ⟨#[97, 115, 115, 101, 114, 116]⟩)) H K) ∧
 (¬ (x0 = ⟨#[97, 115, 115, 101, 114, 116]⟩) →
 (x0 = ⟨#[97, 115, 115, 117, 109, 101]⟩ →
 d9 (decide (x0 = ⟨#[97, 115, 115, 117, 109, 101]⟩)) H K) ∧
 (¬ (x0 = ⟨#[97, 115, 115, 117, 109, 101]⟩) →
 (x0 = ⟨#[115, 107, 105, 112]⟩ →
 d9 (decide (x0 = ⟨#[115, 107, 105, 112]⟩)) H K) ∧
 (¬ (x0 = ⟨#[115, 107, 105, 112]⟩) →
 (x0 = ⟨#[105, 110, 112, 117, 116]⟩ →
 d9 (decide (x0 = ⟨#[105, 110, 112, 117, 116]⟩)) H K) ∧
 (¬ (x0 = ⟨#[105, 110, 112, 117, 116]⟩) →
 (x0 = ⟨#[116, 114, 117, 101]⟩ →
 d9 (decide (x0 = ⟨#[116, 114, 117, 101]⟩)) H K) ∧
 (¬ (x0 = ⟨#[116, 114, 117, 101]⟩) →
 d9 (decide (x0 = ⟨#[102, 97, 108, 115, 101]⟩)) H K))))))))))
theorem Y8 (x0 : ByteArray) {H : Hp} {K : Bool → Hp → Prop} (h : L3 x0 H K) : t6 x0 H K := by
 refine Ct.of fun w0 w ps0 H0 R E I hR => a5Y ?_
 unfold L3 at h
 unfold F13
 have hj1 : ∀ (j6 : Bool) (H : Hp) (w : World) (_ : Inv w0 ps0 H0 H [] w) (_ : d9 j6 H K), a1A (Value.bool j6) w R E := by
  intro j6 H w I h
  unfold a1A
  intro _
  unfold d9 at h
  refine m3 h (fun _ h => ?_) (fun _ h => ?_)
  ·exact hR _ H _ _ I ⟨true, rfl, rfl, h⟩
  ·exact hR _ H _ _ I ⟨false, rfl, rfl, h⟩
 refine u4 fun j1 hx1 => ?_
 refine a7 (r3 _ _ _ _ _) ?_
 refine g5 h (fun _ h => ?_) (fun _ h => ?_)
 ·exact hx1 _ _ (hj1 (decide (x0 = ⟨#[118, 97, 114]⟩)) H _ I h)
 ·refine a7 (r3 _ _ _ _ _) ?_
  refine g5 h (fun _ h => ?_) (fun _ h => ?_)
  ·exact hx1 _ _ (hj1 (decide (x0 = ⟨#[97, 114, 114, 97, 121]⟩)) H _ I h)
  ·refine a7 (r3 _ _ _ _ _) ?_
   refine g5 h (fun _ h => ?_) (fun _ h => ?_)
   ·exact hx1 _ _ (hj1 (decide (x0 = ⟨#[105, 102]⟩)) H _ I h)
   ·refine a7 (r3 _ _ _ _ _) ?_
    refine g5 h (fun _ h => ?_) (fun _ h => ?_)
    ·exact hx1 _ _ (hj1 (decide (x0 = ⟨#[101, 108, 115, 101]⟩)) H _ I h)
    ·refine a7 (r3 _ _ _ _ _) ?_
     refine g5 h (fun _ h => ?_) (fun _ h => ?_)
     ·exact hx1 _ _ (hj1 (decide (x0 = ⟨#[119, 104, 105, 108, 101]⟩)) H _ I h)
     ·refine a7 (r3 _ _ _ _ _) ?_
      refine g5 h (fun _ h => ?_) (fun _ h => ?_)
      ·exact hx1 _ _ (hj1 (decide (x0 = ⟨#[97, 115, 115, 101, 114, 116]⟩)) H _ I h)
      ·refine a7 (r3 _ _ _ _ _) ?_
       refine g5 h (fun _ h => ?_) (fun _ h => ?_)
       ·exact hx1 _ _ (hj1 (decide (x0 = ⟨#[97, 115, 115, 117, 109, 101]⟩)) H _ I h)
       ·refine a7 (r3 _ _ _ _ _) ?_
        refine g5 h (fun _ h => ?_) (fun _ h => ?_)
        ·exact hx1 _ _ (hj1 (decide (x0 = ⟨#[115, 107, 105, 112]⟩)) H _ I h)
        ·refine a7 (r3 _ _ _ _ _) ?_
         refine g5 h (fun _ h => ?_) (fun _ h => ?_)
         ·exact hx1 _ _ (hj1 (decide (x0 = ⟨#[105, 110, 112, 117, 116]⟩)) H _ I h)
         ·refine a7 (r3 _ _ _ _ _) ?_
          refine g5 h (fun _ h => ?_) (fun _ h => ?_)
          ·exact hx1 _ _ (hj1 (decide (x0 = ⟨#[116, 114, 117, 101]⟩)) H _ I h)
          ·refine a7 (r3 _ _ _ _ _) ?_
           exact hx1 _ _ (hj1 (decide (x0 = ⟨#[102, 97, 108, 115, 101]⟩)) H _ I h)
def J8 (x0 : Int) (H : Hp) (K : Bool → Hp → Prop) : Prop :=
 r4 x0 H (fun a b =>
 K ((decide (a = 3)) || (decide (a = 4))) b)
theorem V4 (x0 : Int) {H : Hp} {K : Bool → Hp → Prop} (h : J8 x0 H K) : E1 x0 H K := by
 refine Ct.of fun w0 w ps0 H0 R E I hR => a6h ?_
 unfold J8 at h
 unfold F29
 refine f9 Tryd.call30 h I ?_
 rintro _ c _ e d _ _ ⟨b, rfl, rfl, h⟩
 refine a7 (l0 _ _ _ _ _ _) ?_
 simp only [m5]
 refine a7 (Pu.g fun hb => by have a := hb; simp only [j7 a]; with_reducible exact (l0 _ _ _ _ _ _)) ?_
 refine a7 (v8 _ _) ?_
 exact hR _ c _ _ d ⟨((decide (b = 3)) || (decide (b = 4))), rfl, rfl, h⟩
def H7 (H : Hp) (K : Bool → Hp → Prop) : Prop :=
 K true H
def p7 (b : ByteArray) (a : Nat) (H : Hp) (n2 : Nat → Hp → Prop) (K : Bool → Hp → Prop) : Prop :=
 (a < b.size →
 E1 ((Utf8.decode b a).1 : Int) H (fun c d =>
 TG ((!(!c) && (decide (((a : Nat) : Int) = 0))) = true) (r4 ((Utf8.decode b a).1 : Int) d) 0 d (fun (e : Int) (f : Hp) =>
 (((!c) || ((decide (((a : Nat) : Int) = 0)) && (!decide (e = 3)))) = true →
 K false f) ∧
 (((!c) || ((decide (((a : Nat) : Int) = 0)) && (!decide (e = 3)))) = false →
 n2 (a + (Utf8.decode b a).2) f)))) ∧
 (¬ (a < b.size) →
 H7 H K)
def L4 (x0 : ByteArray) (H : Hp) (K : Bool → Hp → Prop) : Prop :=
 TG ((decide (x0 = ⟨#[]⟩)) = false) (J0 x0 H) false H (fun (a : Bool) (c : Hp) =>
 TG (((decide (x0 = ⟨#[]⟩)) || (!a)) = false) (B9 x0 c) false c (fun (b : Bool) (d : Hp) =>
 TG ((((decide (x0 = ⟨#[]⟩)) || (!a)) || b) = false) (t6 x0 d) false d (fun (e : Bool) (f : Hp) =>
 (((((decide (x0 = ⟨#[]⟩)) || (!a)) || b) || e) = true →
 K false f) ∧
 (((((decide (x0 = ⟨#[]⟩)) || (!a)) || b) || e) = false →
 TL (0 : Nat) f fun (s : Nat) H n2 => p7 x0 s H n2 K))))
theorem Y9 (x0 : ByteArray) {H : Hp} {K : Bool → Hp → Prop} (h : L4 x0 H K) : C0 x0 H K := by
 refine Ct.of fun w0 w ps0 H0 R E I hR => a6a ?_
 unfold L4 at h
 unfold F15
 refine a7 (r3 _ _ _ _ _) ?_
 simp only [m5]
 refine y4 (D := fun am z => ∃ (d : Bool) (q : Hp) , am = (gv (decide (x0 = ⟨#[]⟩)) false (Value.bool d)) ∧ (Inv w0 ps0 H0 q [] z) ∧ (∀ i, i < w.heap.size → ¬ inF [] i → z.heap[i]? = w.heap[i]?) ∧ Hle H q ∧ (TG (((decide (x0 = ⟨#[]⟩)) || (!d)) = false) (B9 x0 q) false q (fun (m : Bool) (o : Hp) =>
 TG ((((decide (x0 = ⟨#[]⟩)) || (!d)) || m) = false) (t6 x0 o) false o (fun (p : Bool) (f : Hp) =>
 (((((decide (x0 = ⟨#[]⟩)) || (!d)) || m) || p) = true →
 K false f) ∧
 (((((decide (x0 = ⟨#[]⟩)) || (!d)) || m) || p) = false →
 TL (0 : Nat) f fun (s : Nat) H n2 => p7 x0 s H n2 K))))) (fun t => ?_) (fun t => ?_) ?_
 ·replace h := h.1 t
  have c := t
  simp only [j7 c]
  refine f9 Tryd.call27 h I ?_
  rintro _ q _ z ad an ao ⟨d, rfl, rfl, h⟩
  exact ⟨d, q, by rfl, ad, ao, an, h⟩
 ·exact ⟨false, H, by rw [J4 t], I, fun _ _ _ => rfl, Hle.refl _, h.2 t⟩
 ·clear h
  rintro am z ⟨d, q, rfl, ad, ao, an, h⟩
  refine a7 (Pu.g fun hb => by have c := hb; simp only [j7 c]; with_reducible exact (a1w _)) ?_
  refine a7 (v8 _ _) ?_
  simp only [m5]
  refine y4 (D := fun ap aa => ∃ (m : Bool) (o : Hp) , ap = (gv ((decide (x0 = ⟨#[]⟩)) || (!d)) false (Value.bool m)) ∧ (Inv w0 ps0 H0 o [] aa) ∧ (∀ i, i < z.heap.size → ¬ inF [] i → aa.heap[i]? = z.heap[i]?) ∧ Hle q o ∧ (TG ((((decide (x0 = ⟨#[]⟩)) || (!d)) || m) = false) (t6 x0 o) false o (fun (p : Bool) (f : Hp) =>
 (((((decide (x0 = ⟨#[]⟩)) || (!d)) || m) || p) = true →
 K false f) ∧
 (((((decide (x0 = ⟨#[]⟩)) || (!d)) || m) || p) = false →
 TL (0 : Nat) f fun (s : Nat) H n2 => p7 x0 s H n2 K)))) (fun u => ?_) (fun u => ?_) ?_
  ·replace h := h.1 u
   have c := u
   simp only [j7 c]
   refine f9 Tryd.call28 h ad ?_
   rintro _ o _ aa ae aq ar ⟨m, rfl, rfl, h⟩
   exact ⟨m, o, by rfl, ae, ar, aq, h⟩
  ·exact ⟨false, q, by rw [J4 u], ad, fun _ _ _ => rfl, Hle.refl _, h.2 u⟩
  ·clear h
   rintro ap aa ⟨m, o, rfl, ae, ar, aq, h⟩
   refine a7 (v8 _ _) ?_
   simp only [m5]
   refine y4 (D := fun au af => ∃ (p : Bool) (f : Hp) , au = (gv (((decide (x0 = ⟨#[]⟩)) || (!d)) || m) false (Value.bool p)) ∧ (Inv w0 ps0 H0 f [] af) ∧ (∀ i, i < aa.heap.size → ¬ inF [] i → af.heap[i]? = aa.heap[i]?) ∧ Hle o f ∧ ((((((decide (x0 = ⟨#[]⟩)) || (!d)) || m) || p) = true →
 K false f) ∧
 (((((decide (x0 = ⟨#[]⟩)) || (!d)) || m) || p) = false →
 TL (0 : Nat) f fun (s : Nat) H n2 => p7 x0 s H n2 K))) (fun v => ?_) (fun v => ?_) ?_
   ·replace h := h.1 v
    have c := v
    simp only [j7 c]
    refine f9 Tryd.call13 h ae ?_
    rintro _ f _ af ag av aw ⟨p, rfl, rfl, h⟩
    exact ⟨p, f, by rfl, ag, aw, av, h⟩
   ·exact ⟨false, o, by rw [J4 v], ae, fun _ _ _ => rfl, Hle.refl _, h.2 v⟩
   ·clear h
    rintro au af ⟨p, f, rfl, ag, aw, av, h⟩
    refine a7 (v8 _ _) ?_
    refine m3 h (fun _ h => ?_) (fun _ h => ?_)
    ·exact hR _ f _ _ ag ⟨false, rfl, rfl, h⟩
    ·have hj1 : ∀ (H : Hp) (w : World) (_ : Inv w0 ps0 H0 H [] w) (_ : H7 H K), a1C w R E := by
      intro H w I h
      unfold a1C
      intro _
      unfold H7 at h
      exact hR _ H _ _ I ⟨true, rfl, rfl, h⟩
     refine u4 fun j1 hx1 => ?_
     refine X7 Tryd.underlying9 x0 ag fun ax bk be bl => ?_
     obtain ⟨aj, ac, bf, bg⟩ := h
     refine B4 (J := fun n l w => ∃ (s : Nat) (H : Hp) , n = ac s ∧ l = [] ∧ Inv w0 ps0 H0 H [itf ax x0 s] w ∧ aj s H) ⟨_, 0, f, rfl, rfl, be, bf⟩ ?_
     rintro bm bn w next2 ⟨j, H, rfl, bh, I, bi⟩ hn2
     clear bh
     obtain ⟨n2, hm2, h⟩ : ∃ n2 : Nat → Hp → Prop, (∀ s' H', n2 s' H' → aj s' H' ∧ ac s' < ac j) ∧ p7 x0 j H n2 K := ⟨_, fun _ _ h => h, bg j H (fun s' H' => aj s' H' ∧ ac s' < ac j) bi (fun _ _ a b => ⟨a, b⟩)⟩
     unfold a3A
     unfold p7 at h
     refine a0j I (fun ak bo bj bp => ?_) (fun ak => ?_)
     ·replace h := h.1 ak
      refine a7 (d7 _ _ (Value.bool true) rfl) ?_
      refine J3 (fun e => ?_) (fun e => by cases e)
      refine a7 (d7 _ _ (vi ((j : Nat) : Int)) rfl) ?_
      refine a7 (d7 _ _ (Value.int .i32 ((Utf8.decode x0 j).1 : Int)) rfl) ?_
      refine f9 Tryd.call29 h bj ?_
      rintro _ ay _ az ba _ _ ⟨al, rfl, rfl, h⟩
      refine a7 (a1w _) ?_
      simp only [m5]
      refine a7 (Pu.g fun hb => by have c := hb; simp only [j7 c]; with_reducible exact (l0 _ _ _ _ _ _)) ?_
      simp only [Q7, R8]
      refine a5e (B5 _ _ _) ?_
      refine y4 (D := fun bb ah => ∃ (ab : Int) (r : Hp) , bb = (gv (!(!al) && (decide (((j : Nat) : Int) = 0))) true (vi ab)) ∧ (Inv w0 ps0 H0 r [itf ax x0 (j + (Utf8.decode x0 j).2)] ah) ∧ (∀ i, i < az.heap.size → ¬ inF [] i → ah.heap[i]? = az.heap[i]?) ∧ Hle ay r ∧ ((((!al) || ((decide (((j : Nat) : Int) = 0)) && (!decide (ab = 3)))) = true →
 K false r) ∧
 (((!al) || ((decide (((j : Nat) : Int) = 0)) && (!decide (ab = 3)))) = false →
 n2 (j + (Utf8.decode x0 j).2) r))) (fun y => ?_) (fun y => ?_) ?_
      ·replace h := h.1 y
       obtain ⟨c, k⟩ := H5 y
       simp only [j7 y]
       refine f9 Tryd.call30 h ba ?_
       rintro _ r _ ah ai bc bd ⟨ab, rfl, rfl, h⟩
       exact ⟨ab, r, by rfl, ai, bd, bc, h⟩
      ·exact ⟨0, ay, by rw [J4 y], ba, fun _ _ _ => rfl, Hle.refl _, h.2 y⟩
      ·clear h
       rintro bb ah ⟨ab, r, rfl, ai, bd, bc, h⟩
       refine a7 (Pu.e (B5 _ _ _) (Pu.g fun hb => by obtain ⟨c, k⟩ := H5 hb; simp only [j7 hb]; with_reducible exact (K2 _ _ _ _ _ _))) ?_
       refine a7 (Pu.g fun hb => by have c := hb; simp only [j7 c, P5 c]; with_reducible exact (r9 _ _)) ?_
       refine a7 (v8 _ _) ?_
       refine m3 h (fun _ h => ?_) (fun _ h => ?_)
       ·exact hR _ r _ _ ai.drop ⟨false, rfl, rfl, h⟩
       ·exact hn2 _ _ _ (hm2 _ _ h).2 ⟨(j + (Utf8.decode x0 j).2), r, rfl, rfl, ai, (hm2 _ _ h).1⟩
     ·replace h := h.2 ak
      refine a7 (d7 _ _ (Value.bool false) rfl) ?_
      refine J3 (fun e => by cases e) (fun e => ?_)
      exact hx1 _ _ (hj1 H _ I.drop h)
def s2 (a8a : Int) (a6z : Int) (K0 : Int) (H : Hp) (K : Int → Int → Bool → Hp → Prop) : Prop :=
 ((((decide (K0 < a6z)) || (decide (1114111 < K0))) || ((decide (55296 ≤ K0)) && (decide (K0 < 57344)))) = true →
 K 65533 1 false H) ∧
 ((((decide (K0 < a6z)) || (decide (1114111 < K0))) || ((decide (55296 ≤ K0)) && (decide (K0 < 57344)))) = false →
 K K0 a8a true H)
def u2 (O1 : ByteArray) (L5 : Int) (a4A : Int) (a8b : Int) (M1 : Int) (s6 : Int) (H : Hp) (n3 : (Int × Int) → Hp → Prop) (K : Int → Int → Bool → Hp → Prop) : Prop :=
 (s6 < a4A →
 ((decide ((O1.size : Int) ≤ (IntKind.wrap .i64 (L5 + s6)))) = false → (0 : Int) ≤ IntKind.wrap .i64 (L5 + s6) ∧ IntKind.wrap .i64 (L5 + s6) < (O1.size : Int)) ∧
 (((decide ((O1.size : Int) ≤ (IntKind.wrap .i64 (L5 + s6)))) || (decide (((O1.get! (IntKind.wrap .i64 (L5 + s6) : Int).toNat).toNat : Int) < 128))) = false → (0 : Int) ≤ IntKind.wrap .i64 (L5 + s6) ∧ IntKind.wrap .i64 (L5 + s6) < (O1.size : Int)) ∧
 ((((decide ((O1.size : Int) ≤ (IntKind.wrap .i64 (L5 + s6)))) || (decide (((O1.get! (IntKind.wrap .i64 (L5 + s6) : Int).toNat).toNat : Int) < 128))) || (decide (192 ≤ ((O1.get! (IntKind.wrap .i64 (L5 + s6) : Int).toNat).toNat : Int)))) = true →
 K 65533 1 false H) ∧
 ((((decide ((O1.size : Int) ≤ (IntKind.wrap .i64 (L5 + s6)))) || (decide (((O1.get! (IntKind.wrap .i64 (L5 + s6) : Int).toNat).toNat : Int) < 128))) || (decide (192 ≤ ((O1.get! (IntKind.wrap .i64 (L5 + s6) : Int).toNat).toNat : Int)))) = false →
 (0 : Int) ≤ IntKind.wrap .i64 (L5 + s6) ∧ IntKind.wrap .i64 (L5 + s6) < (O1.size : Int) ∧
 n3 ((IntKind.wrap .i64 ((IntKind.wrap .i64 ((IntKind.wrap .i64 (64 * M1)) + (IntKind.wrap .i64 ((O1.get! (IntKind.wrap .i64 (L5 + s6) : Int).toNat).toNat : Int)))) - 128)), (IntKind.wrap .i64 (s6 + 1))) H)) ∧
 (¬ (s6 < a4A) →
 s2 a4A a8b M1 H K)
def o3 (a8c : ByteArray) (a8d : Int) (U9 : Int) (W8 : Int) (Y1 : Int) (H : Hp) (K : Int → Int → Bool → Hp → Prop) : Prop :=
 TL ((Y1, 1) : Int × Int) H fun (s : Int × Int) H n3 => u2 a8c a8d U9 W8 s.1 s.2 H n3 K
def D8 (x0 : ByteArray) (x1 : Int) (H : Hp) (K : Int → Int → Bool → Hp → Prop) : Prop :=
 (0 : Int) ≤ x1 ∧ x1 < (x0.size : Int) ∧
 ((IntKind.wrap .i64 ((x0.get! (x1 : Int).toNat).toNat : Int)) < 128 →
 K (IntKind.wrap .i64 ((x0.get! (x1 : Int).toNat).toNat : Int)) 1 true H) ∧
 (¬ ((IntKind.wrap .i64 ((x0.get! (x1 : Int).toNat).toNat : Int)) < 128) →
 (((decide (194 ≤ (IntKind.wrap .i64 ((x0.get! (x1 : Int).toNat).toNat : Int)))) && (decide ((IntKind.wrap .i64 ((x0.get! (x1 : Int).toNat).toNat : Int)) < 224))) = true →
 o3 x0 x1 2 128 (IntKind.wrap .i64 ((IntKind.wrap .i64 ((x0.get! (x1 : Int).toNat).toNat : Int)) - 192)) H K) ∧
 (((decide (194 ≤ (IntKind.wrap .i64 ((x0.get! (x1 : Int).toNat).toNat : Int)))) && (decide ((IntKind.wrap .i64 ((x0.get! (x1 : Int).toNat).toNat : Int)) < 224))) = false →
 (((decide (224 ≤ (IntKind.wrap .i64 ((x0.get! (x1 : Int).toNat).toNat : Int)))) && (decide ((IntKind.wrap .i64 ((x0.get! (x1 : Int).toNat).toNat : Int)) < 240))) = true →
 o3 x0 x1 3 2048 (IntKind.wrap .i64 ((IntKind.wrap .i64 ((x0.get! (x1 : Int).toNat).toNat : Int)) - 224)) H K) ∧
 (((decide (224 ≤ (IntKind.wrap .i64 ((x0.get! (x1 : Int).toNat).toNat : Int)))) && (decide ((IntKind.wrap .i64 ((x0.get! (x1 : Int).toNat).toNat : Int)) < 240))) = false →
 (((decide (240 ≤ (IntKind.wrap .i64 ((x0.get! (x1 : Int).toNat).toNat : Int)))) && (decide ((IntKind.wrap .i64 ((x0.get! (x1 : Int).toNat).toNat : Int)) < 245))) = true →
 o3 x0 x1 4 65536 (IntKind.wrap .i64 ((IntKind.wrap .i64 ((x0.get! (x1 : Int).toNat).toNat : Int)) - 240)) H K) ∧
 (((decide (240 ≤ (IntKind.wrap .i64 ((x0.get! (x1 : Int).toNat).toNat : Int)))) && (decide ((IntKind.wrap .i64 ((x0.get! (x1 : Int).toNat).toNat : Int)) < 245))) = false →
 K 65533 1 false H))))
theorem S7 (x0 : ByteArray) (x1 : Int) {H : Hp} {K : Int → Int → Bool → Hp → Prop} (h : D8 x0 x1 H K) : C9 x0 x1 H K := by
 refine Ct.of fun w0 w ps0 H0 R E I hR => a6j ?_
 unfold D8 at h
 unfold F31
 obtain ⟨o, p, h⟩ := h
 refine a7 (R3 _ _ _ o p) ?_
 refine a7 (W6 _ _) ?_
 have hj1 : ∀ (U9 : Int) (W8 : Int) (Y1 : Int) (H : Hp) (w : World) (_ : Inv w0 ps0 H0 H [] w) (_ : o3 x0 x1 U9 W8 Y1 H K), a1K (Value.string x0) (vi x1) (vi U9) (vi W8) (vi Y1) w R E := by
  intro U9 W8 Y1 H w I h
  unfold a1K
  intro _
  unfold o3 at h
  have hj2 : ∀ (K0 : Int) (H : Hp) (w : World) (_ : Inv w0 ps0 H0 H [] w) (_ : s2 U9 W8 K0 H K), a1J (vi U9) (vi W8) (vi K0) w R E := by
   intro K0 H w I h
   unfold a1J
   intro _
   unfold s2 at h
   refine a7 (I0 _ _ _ _ _ _) ?_
   simp only [m5]
   refine a7 (Pu.g fun hb => by have c := hb; simp only [j7 c]; with_reducible exact (W4 _ _ _ _ _ _)) ?_
   refine a7 (v8 _ _) ?_
   simp only [m5]
   refine a7 (Pu.g fun hb => by have c := hb; simp only [j7 c]; with_reducible exact (P3 _ _ _ _ _ _)) ?_
   simp only [Q7, R8]
   refine a7 (Pu.e (B5 _ _ _) (Pu.g fun hb => by obtain ⟨c, d⟩ := H5 hb; simp only [j7 hb]; with_reducible exact (I0 _ _ _ _ _ _))) ?_
   refine a7 (Pu.g fun hb => by have c := hb; simp only [j7 c, P5 c]; with_reducible exact (r9 _ _)) ?_
   refine a7 (v8 _ _) ?_
   refine m3 h (fun _ h => ?_) (fun _ h => ?_)
   ·exact hR _ H _ _ I ⟨65533, 1, false, rfl, rfl, h⟩
   ·exact hR _ H _ _ I ⟨K0, U9, true, rfl, rfl, h⟩
  refine u4 fun j2 hx2 => ?_
  obtain ⟨k, j, q, r⟩ := h
  refine B4 (J := fun n l w => ∃ (s : Int × Int) (H : Hp) , n = j s ∧ l = (match s with | (M1, s6) => [(vi M1), (vi s6)]) ∧ (match s with | (M1, s6) => Inv w0 ps0 H0 H [] w) ∧ k s H) ⟨_, (Y1, 1), H, rfl, rfl, I, q⟩ ?_
  rintro y z w next3 ⟨⟨M1, s6⟩, H, rfl, m, I, t⟩ hn3
  dsimp only at m I
  simp only [List.map_cons, List.map_nil, List.cons.injEq, and_true] at m
  obtain ⟨e10, e11⟩ := m
  simp only [e10, e11]
  obtain ⟨n3, hm3, h⟩ : ∃ n3 : (Int × Int) → Hp → Prop, (∀ s' H', n3 s' H' → k s' H' ∧ j s' < j (M1, s6)) ∧ u2 x0 x1 U9 W8 M1 s6 H n3 K := ⟨_, fun _ _ h => h, r (M1, s6) H (fun s' H' => k s' H' ∧ j s' < j (M1, s6)) t (fun _ _ a b => ⟨a, b⟩)⟩
  unfold a3G
  unfold u2 at h
  refine a7 (I0 _ _ _ _ _ _) ?_
  refine g5 h (fun _ h => ?_) (fun _ h => ?_)
  ·refine a7 (E8 _ _ _ _ _ _) ?_
   refine a7 (F1 _) ?_
   refine a7 (P3 _ _ _ _ _ _) ?_
   simp only [m5]
   refine a7 (Pu.g fun hb => by have c := hb; simp only [j7 c]; with_reducible exact (E8 _ _ _ _ _ _)) ?_
   obtain ⟨f, h⟩ := h
   refine a7 (Pu.g fun hb => by have c := hb; simp only [j7 c]; with_reducible exact (R3 _ _ _ (f hb).1 (f hb).2)) ?_
   refine a7 (Pu.g fun hb => by have c := hb; simp only [j7 c]; with_reducible exact (I0 _ _ _ _ _ _)) ?_
   refine a7 (v8 _ _) ?_
   simp only [m5]
   refine a7 (Pu.g fun hb => by have c := hb; simp only [j7 c]; with_reducible exact (E8 _ _ _ _ _ _)) ?_
   obtain ⟨i, h⟩ := h
   refine a7 (Pu.g fun hb => by have c := hb; simp only [j7 c]; with_reducible exact (R3 _ _ _ (i hb).1 (i hb).2)) ?_
   refine a7 (Pu.g fun hb => by have c := hb; simp only [j7 c]; with_reducible exact (P3 _ _ _ _ _ _)) ?_
   refine a7 (v8 _ _) ?_
   refine m3 h (fun _ h => ?_) (fun _ h => ?_)
   ·exact hR _ H _ _ I ⟨65533, 1, false, rfl, rfl, h⟩
   ·refine a7 (a5J _ _ _ _ _ _) ?_
    refine a7 (E8 _ _ _ _ _ _) ?_
    obtain ⟨u, v, h⟩ := h
    refine a7 (R3 _ _ _ u v) ?_
    refine a7 (W6 _ _) ?_
    refine a7 (E8 _ _ _ _ _ _) ?_
    refine a7 (a0h _ _ _ _ _ _) ?_
    refine a7 (E8 _ _ _ _ _ _) ?_
    exact hn3 _ _ _ (hm3 _ _ h).2 ⟨((IntKind.wrap .i64 ((IntKind.wrap .i64 ((IntKind.wrap .i64 (64 * M1)) + (IntKind.wrap .i64 ((x0.get! (IntKind.wrap .i64 (x1 + s6) : Int).toNat).toNat : Int)))) - 128)), (IntKind.wrap .i64 (s6 + 1))), H, rfl, rfl, I, (hm3 _ _ h).1⟩
  ·exact hx2 _ _ (hj2 M1 H _ I h)
 refine u4 fun j1 hx1 => ?_
 refine a7 (I0 _ _ _ _ _ _) ?_
 refine g5 h (fun _ h => ?_) (fun _ h => ?_)
 ·exact hR _ H _ _ I ⟨(IntKind.wrap .i64 ((x0.get! (x1 : Int).toNat).toNat : Int)), 1, true, rfl, rfl, h⟩
 ·refine a7 (P3 _ _ _ _ _ _) ?_
  simp only [m5]
  refine a7 (Pu.g fun hb => by have c := hb; simp only [j7 c]; with_reducible exact (I0 _ _ _ _ _ _)) ?_
  refine a7 (r9 _ _) ?_
  refine m3 h (fun _ h => ?_) (fun _ h => ?_)
  ·refine a7 (a0h _ _ _ _ _ _) ?_
   exact hx1 _ _ (hj1 2 128 (IntKind.wrap .i64 ((IntKind.wrap .i64 ((x0.get! (x1 : Int).toNat).toNat : Int)) - 192)) H _ I h)
  ·refine a7 (P3 _ _ _ _ _ _) ?_
   simp only [m5]
   refine a7 (Pu.g fun hb => by have c := hb; simp only [j7 c]; with_reducible exact (I0 _ _ _ _ _ _)) ?_
   refine a7 (r9 _ _) ?_
   refine m3 h (fun _ h => ?_) (fun _ h => ?_)
   ·refine a7 (a0h _ _ _ _ _ _) ?_
    exact hx1 _ _ (hj1 3 2048 (IntKind.wrap .i64 ((IntKind.wrap .i64 ((x0.get! (x1 : Int).toNat).toNat : Int)) - 224)) H _ I h)
   ·refine a7 (P3 _ _ _ _ _ _) ?_
    simp only [m5]
    refine a7 (Pu.g fun hb => by have c := hb; simp only [j7 c]; with_reducible exact (I0 _ _ _ _ _ _)) ?_
    refine a7 (r9 _ _) ?_
    refine m3 h (fun _ h => ?_) (fun _ h => ?_)
    ·refine a7 (a0h _ _ _ _ _ _) ?_
     exact hx1 _ _ (hj1 4 65536 (IntKind.wrap .i64 ((IntKind.wrap .i64 ((x0.get! (x1 : Int).toNat).toNat : Int)) - 240)) H _ I h)
    ·exact hR _ H _ _ I ⟨65533, 1, false, rfl, rfl, h⟩
def G1 (H : Hp) (K : Int → Int → Hp → Prop) : Prop :=
 K 0 0 H
def B0 (T2 : ByteArray) (b : ByteArray) (a : Nat) (H : Hp) (n2 : Nat → Hp → Prop) (K : Int → Int → Hp → Prop) : Prop :=
 (a < b.size →
 (¬ (((Utf8.decode b a).1 : Int) = 65533) →
 n2 (a + (Utf8.decode b a).2) H) ∧
 (((Utf8.decode b a).1 : Int) = 65533 →
 (0 : Int) ≤ ((a : Nat) : Int) ∧ (((a : Nat) : Int) : Int) ≤ T2.size ∧
 u5 (T2.extract (((a : Nat) : Int) : Int).toNat T2.size) H (fun e c d =>
 (c = 1 →
 K ((a : Nat) : Int) 11 d) ∧
 (¬ (c = 1) →
 n2 (a + (Utf8.decode b a).2) d)))) ∧
 (¬ (a < b.size) →
 G1 H K)
def J9 (x0 : ByteArray) (H : Hp) (K : Int → Int → Hp → Prop) : Prop :=
 (65536 < (x0.size : Int) →
 K 0 10 H) ∧
 (¬ (65536 < (x0.size : Int)) →
 TL (0 : Nat) H fun (s : Nat) H n2 => B0 x0 x0 s H n2 K)
theorem V5 (x0 : ByteArray) {H : Hp} {K : Int → Int → Hp → Prop} (h : J9 x0 H K) : N5 x0 H K := by
 refine Ct.of fun w0 w ps0 H0 R E I hR => a6c ?_
 unfold J9 at h
 unfold F17
 refine a7 (F1 _) ?_
 refine a7 (W4 _ _ _ _ _ _) ?_
 refine g5 h (fun _ h => ?_) (fun _ h => ?_)
 ·exact hR _ H _ _ I ⟨0, 10, rfl, rfl, h⟩
 ·have hj1 : ∀ (H : Hp) (w : World) (_ : Inv w0 ps0 H0 H [] w) (_ : G1 H K), a1E w R E := by
   intro H w I h
   unfold a1E
   intro _
   unfold G1 at h
   exact hR _ H _ _ I ⟨0, 0, rfl, rfl, h⟩
  refine u4 fun j1 hx1 => ?_
  refine X7 Tryd.underlying9 x0 I fun m aa o ab => ?_
  obtain ⟨f, d, p, q⟩ := h
  refine B4 (J := fun n l w => ∃ (s : Nat) (H : Hp) , n = d s ∧ l = [] ∧ Inv w0 ps0 H0 H [itf m x0 s] w ∧ f s H) ⟨_, 0, H, rfl, rfl, o, p⟩ ?_
  rintro ac ad w next2 ⟨c, H, rfl, r, I, t⟩ hn2
  clear r
  obtain ⟨n2, hm2, h⟩ : ∃ n2 : Nat → Hp → Prop, (∀ s' H', n2 s' H' → f s' H' ∧ d s' < d c) ∧ B0 x0 x0 c H n2 K := ⟨_, fun _ _ h => h, q c H (fun s' H' => f s' H' ∧ d s' < d c) t (fun _ _ a b => ⟨a, b⟩)⟩
  unfold a3C
  unfold B0 at h
  refine a0j I (fun g ae i af => ?_) (fun g => ?_)
  ·replace h := h.1 g
   refine a7 (d7 _ _ (Value.bool true) rfl) ?_
   refine J3 (fun e => ?_) (fun e => by cases e)
   refine a7 (d7 _ _ (vi ((c : Nat) : Int)) rfl) ?_
   refine a7 (d7 _ _ (Value.int .i32 ((Utf8.decode x0 c).1 : Int)) rfl) ?_
   refine a7 (K2 _ _ _ _ _ _) ?_
   refine a4w h (fun _ h => ?_) (fun _ h => ?_)
   ·exact hn2 _ _ _ (hm2 _ _ h).2 ⟨(c + (Utf8.decode x0 c).2), H, rfl, rfl, i, (hm2 _ _ h).1⟩
   ·obtain ⟨u, v, h⟩ := h
    refine a7 (a2u x0 Tryd.underlying9 u v) ?_
    refine f9 Tryd.call33 h i ?_
    rintro _ j _ ag k _ _ ⟨y, z, rfl, rfl, h⟩
    refine a7 (d7 _ _ (Value.int .i32 y) rfl) ?_
    refine a7 (d7 _ _ (vi z) rfl) ?_
    refine a7 (l0 _ _ _ _ _ _) ?_
    refine g5 h (fun _ h => ?_) (fun _ h => ?_)
    ·exact hR _ j _ _ k.drop ⟨((c : Nat) : Int), 11, rfl, rfl, h⟩
    ·exact hn2 _ _ _ (hm2 _ _ h).2 ⟨(c + (Utf8.decode x0 c).2), j, rfl, rfl, k, (hm2 _ _ h).1⟩
  ·replace h := h.2 g
   refine a7 (d7 _ _ (Value.bool false) rfl) ?_
   refine J3 (fun e => by cases e) (fun e => ?_)
   exact hx1 _ _ (hj1 H _ I.drop h)
def G5 (x0 : Int) (H : Hp) (K : Bool → Hp → Prop) : Prop :=
 K (!decide (x0 = 10)) H
theorem O2 (x0 : Int) {H : Hp} {K : Bool → Hp → Prop} (h : G5 x0 H K) : y9 x0 H K := by
 refine Ct.of fun w0 w ps0 H0 R E I hR => a6o ?_
 unfold G5 at h
 unfold F40
 refine a7 (K2 _ _ _ _ _ _) ?_
 exact hR _ H _ _ I ⟨(!decide (x0 = 10)), rfl, rfl, h⟩
def A5 (x0 : Int) (H : Hp) (K : Bool → Hp → Prop) : Prop :=
 r4 x0 H (fun a b =>
 K (decide (a = 4)) b)
theorem O3 (x0 : Int) {H : Hp} {K : Bool → Hp → Prop} (h : A5 x0 H K) : z6 x0 H K := by
 refine Ct.of fun w0 w ps0 H0 R E I hR => a6y ?_
 unfold A5 at h
 unfold F58
 refine f9 Tryd.call30 h I ?_
 rintro _ a _ d b _ _ ⟨c, rfl, rfl, h⟩
 refine a7 (l0 _ _ _ _ _ _) ?_
 exact hR _ a _ _ b ⟨(decide (c = 4)), rfl, rfl, h⟩
def B8 (x0 : a8) (j : (List a6)) (H : Hp) (K : a6 → Int → a8 → (List a6) → Hp → Prop) : Prop :=
 m8 (f6 x0) j H (fun a c d k =>
 P6 a 10 64 k (fun l b m =>
 i8 (f6 c) d m (fun n e f =>
 okI b ∧
 ((!(!isNilI b) && (decide (1 < (a.size : Int)))) = true → (0 : Int) ≤ 0 ∧ 0 < (a.size : Int)) ∧
 TG ((!((!isNilI b) || ((decide (1 < (a.size : Int))) && (decide (((a.get! (0 : Int).toNat).toNat : Int) = 48)))) && e) = true) (r4 n f) 0 f (fun (g : Int) (i : Hp) =>
 ((((!isNilI b) || ((decide (1 < (a.size : Int))) && (decide (((a.get! (0 : Int).toNat).toNat : Int) = 48)))) || (e && (decide (g = 3)))) = true →
 K (a6.mk 2 a 0 (b5.mk 0 0)) 21 (f6 c) d i) ∧
 ((((!isNilI b) || ((decide (1 < (a.size : Int))) && (decide (((a.get! (0 : Int).toNat).toNat : Int) = 48)))) || (e && (decide (g = 3)))) = false →
 K (a6.mk 2 a l (b5.mk 0 0)) 0 (f6 c) d i)))))
theorem Q4 (x0 : a8) (z : (List a6)) {H : Hp} {K : a6 → Int → a8 → (List a6) → Hp → Prop} (h : B8 x0 z H K) : J1 x0 z H K := by
 intro g0 aj ak al
 refine Ct.of fun w0 w ps0 H0 R E I hR => a6q ?_
 unfold B8 at h
 unfold F42
 refine E6 I Tryd.zeroValue33 (cs := [(vi 0), (Value.string ⟨#[]⟩), (vi 0), (vi 0), (vi 0)]) rfl fun am aw an ax => ?_
 refine f9 Tryd.call37 (h g0 aj ak al) ((an.bring 2).bring 2) ?_
 rintro _ _ _ ay ao _ _ ⟨c, n, q, r, s, rfl, rfl, y, h⟩
 refine a7 (M0 _ _) ?_
 refine E6 ao Tryd.zeroValue33 (cs := [(vi 0), (Value.string ⟨#[]⟩), (vi 0), (vi 0), (vi 0)]) rfl fun ap az aq ba => ?_
 refine o8 aq Tryd.sizeOf33 (vs := [(vi 2), (Value.string c), (vi 0), (vi 0), (vi 0)]) (cs' := [(vi 2), (Value.string c), (vi 0), (vi 0), (vi 0)]) rfl rfl (nb rfl) rfl rfl fun bb aa bc => ?_
 refine a7 K6 ?_
 refine q9 (l1 Tryd.isAgg9 aa rfl) ?_
 refine f9 Tryd.call59 h aa ?_
 rintro _ _ _ bd ar _ _ ⟨f, t, rfl, rfl, h⟩
 refine a7 (d7 _ _ (vi f) rfl) ?_
 refine a7 (d7 _ _ t rfl) ?_
 refine f9 Tryd.call20 (h g0 r s y) ((ar.bring 2).bring 2) ?_
 rintro _ ab _ ac j _ _ ⟨au, u, rfl, rfl, h⟩
 refine a7 (d7 _ _ (Value.int .i32 au) rfl) ?_
 refine a7 (d7 _ _ (Value.bool u) rfl) ?_
 obtain ⟨av, h⟩ := h
 refine a7 (a3y _ av) ?_
 refine a7 (Pu.g fun hb => by have a := hb; with_reducible exact K6) ?_
 refine q9 (Ld.g fun hb => by have a := hb; simp only [j7 a]; exact (l1 Tryd.isAgg9 (j.bring 2) rfl)) ?_
 refine a7 (Pu.g fun hb => by have a := hb; simp only [j7 a]; with_reducible exact (F1 _)) ?_
 refine a7 (Pu.g fun hb => by have a := hb; simp only [j7 a]; with_reducible exact (W4 _ _ _ _ _ _)) ?_
 simp only [m5, Q7]
 refine a7 (Pu.e (B5 _ _ _) (Pu.g fun hb => by obtain ⟨a, b⟩ := H5 hb; with_reducible exact K6)) ?_
 refine q9 (Ld.e (B5 _ _ _) (Ld.g fun hb => by obtain ⟨a, b⟩ := H5 hb; simp only [j7 hb]; exact (l1 Tryd.isAgg9 (j.bring 2) rfl))) ?_
 obtain ⟨d, h⟩ := h
 refine a7 (Pu.e (B5 _ _ _) (Pu.g fun hb => by obtain ⟨a, b⟩ := H5 hb; simp only [j7 hb]; with_reducible exact (R3 _ _ _ (d hb).1 (d hb).2))) ?_
 refine a7 (Pu.e (B5 _ _ _) (Pu.g fun hb => by obtain ⟨a, b⟩ := H5 hb; simp only [j7 hb]; with_reducible exact (l0 _ _ _ _ _ _))) ?_
 refine a7 (Pu.g fun hb => by have a := hb; simp only [j7 a, P5 a]; with_reducible exact (r9 _ _)) ?_
 refine a7 (v8 _ _) ?_
 simp only [m5, Q7, R8]
 refine a5e (B5 _ _ _) ?_
 refine y4 (D := fun ad v => ∃ (m : Int) (k : Hp) , ad = (gv (!((!isNilI t) || ((decide (1 < (c.size : Int))) && (decide (((c.get! (0 : Int).toNat).toNat : Int) = 48)))) && u) true (vi m)) ∧ (Inv w0 ps0 H0 k [bx g0 44 (f8 n r), s, bx ap 33 [(vi 2), (Value.string c), (vi 0), (vi 0), (vi 0)], bx am 33 [(vi 0), (Value.string ⟨#[]⟩), (vi 0), (vi 0), (vi 0)]] v) ∧ (∀ i, i < ac.heap.size → ¬ inF [] i → v.heap[i]? = ac.heap[i]?) ∧ Hle ab k ∧ (((((!isNilI t) || ((decide (1 < (c.size : Int))) && (decide (((c.get! (0 : Int).toNat).toNat : Int) = 48)))) || (u && (decide (m = 3)))) = true →
 K (a6.mk 2 c 0 (b5.mk 0 0)) 21 (f6 n) q k) ∧
 ((((!isNilI t) || ((decide (1 < (c.size : Int))) && (decide (((c.get! (0 : Int).toNat).toNat : Int) = 48)))) || (u && (decide (m = 3)))) = false →
 K (a6.mk 2 c f (b5.mk 0 0)) 0 (f6 n) q k))) (fun l => ?_) (fun l => ?_) ?_
 ·replace h := h.1 l
  obtain ⟨a, b⟩ := H5 l
  simp only [j7 l]
  refine f9 Tryd.call30 h j ?_
  rintro _ k _ v p ae af ⟨m, rfl, rfl, h⟩
  exact ⟨m, k, by rfl, p, af, ae, h⟩
 ·exact ⟨0, ab, by rw [J4 l], j, fun _ _ _ => rfl, Hle.refl _, h.2 l⟩
 ·clear h
  rintro ad v ⟨m, k, rfl, p, af, ae, h⟩
  refine a7 (Pu.e (B5 _ _ _) (Pu.g fun hb => by obtain ⟨a, b⟩ := H5 hb; simp only [j7 hb]; with_reducible exact (l0 _ _ _ _ _ _))) ?_
  refine a7 (Pu.g fun hb => by have a := hb; simp only [j7 a, P5 a]; with_reducible exact (r9 _ _)) ?_
  refine a7 (v8 _ _) ?_
  refine m3 h (fun _ h => ?_) (fun _ h => ?_)
  ·refine q9 (ldA Tryd.isAgg33 Tryd.sizeOf33 rfl ((p.bring 2).at1 (o := 0) (vs := [(vi 2), (Value.string c), (vi 0), (vi 0), (vi 0)]) (nb rfl) rfl)) ?_
   refine o8 (p.bring 3) Tryd.sizeOf33 (vs := [(vi 2), (Value.string c), (vi 0), (vi 0), (vi 0)]) (cs' := [(vi 2), (Value.string c), (vi 0), (vi 0), (vi 0)]) rfl rfl (nb rfl) rfl rfl fun be ag bf => ?_
   refine E5 Tryd.isAgg33 Tryd.sizeOf33 rfl (ag.at1 (o := 0) (vs := [(vi 2), (Value.string c), (vi 0), (vi 0), (vi 0)]) (nb rfl) rfl) ?_
   exact hR _ k _ _ (((ag.drop.bring 2).drop.bring 1).bring 1) ⟨(a6.mk 2 c 0 (b5.mk 0 0)), 21, (f6 n), q, r, s, rfl, rfl, y, h⟩
  ·refine a7 a0k ?_
   refine o8 (p.bring 2) Tryd.sizeOf2 (vs := [(vi f)]) (cs' := [(vi 2), (Value.string c), (vi f), (vi 0), (vi 0)]) rfl rfl (nb rfl) rfl rfl fun bg ah bh => ?_
   refine q9 (ldA Tryd.isAgg33 Tryd.sizeOf33 rfl (ah.at1 (o := 0) (vs := [(vi 2), (Value.string c), (vi f), (vi 0), (vi 0)]) (nb rfl) rfl)) ?_
   refine o8 (ah.bring 3) Tryd.sizeOf33 (vs := [(vi 2), (Value.string c), (vi f), (vi 0), (vi 0)]) (cs' := [(vi 2), (Value.string c), (vi f), (vi 0), (vi 0)]) rfl rfl (nb rfl) rfl rfl fun bi ai bj => ?_
   refine E5 Tryd.isAgg33 Tryd.sizeOf33 rfl (ai.at1 (o := 0) (vs := [(vi 2), (Value.string c), (vi f), (vi 0), (vi 0)]) (nb rfl) rfl) ?_
   exact hR _ k _ _ ((ai.drop.drop.bring 1).bring 1) ⟨(a6.mk 2 c f (b5.mk 0 0)), 0, (f6 n), q, r, s, rfl, rfl, y, h⟩
end Go.Proofs.YthklmeihgmcljaaDoor
