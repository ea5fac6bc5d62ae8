/- Trees: plain ones, how they lie in the frozen heap; whether two are the same, by the program and by the document. Contracts off the printed formulas. -/
import Derived.Test.YthklmeihgmcljaaGreatDoorzTV1a
import Derived.Test.YthklmeihgmcljaaGreatDoorzTV1b
import Derived.Test.YthklmeihgmcljaaGreatDoorzTV1c
import Derived.Test.YthklmeihgmcljaaGreatDoorzTV1d
namespace Go.Proofs.YthklmeihgmcljaaGreatDoor
open Go.RowKit
set_option maxRecDepth 100000
set_option maxHeartbeats 2000000
inductive Lab where
 | decl (size : Int) (name : ByteArray)
 | stmt (kind : Int) (name : ByteArray) (e c t f : Nat)
 | cond (kind op : Int) (e p : Nat)
 | expr (kind num : Int) (name : ByteArray) (n : Nat)
inductive PT where
 | mk (l : Lab) (cs : List PT)
def PT.lab : PT → Lab | .mk l _ => l
def PT.kids : PT → List PT | .mk _ cs => cs
abbrev big : Nat := 1099511627776
inductive EH (H : Hp) : b9 → PT → Prop
 | mk {e : b9} {xs : List b9} {ts : List PT} : SlH H 4 d9 e.P7 xs → xs.length ≤ big → xs.length = ts.length → (∀ (i : Nat) (x : b9) (t : PT), xs[i]? = some x → ts[i]? = some t → EH H x t) → EH H e (.mk (.expr e.c8 e.J5 e.o9 ts.length) ts)
inductive CH (H : Hp) : f8 → PT → Prop
 | mk {c : f8} {xs : List b9} {ts : List PT} {ys : List f8} {us : List PT} : SlH H 4 d9 c.m7 xs → xs.length ≤ big → z6 (EH H) xs ts → SlH H 4 g8 c.E4 ys → ys.length ≤ big → ys.length = us.length → (∀ (i : Nat) (x : f8) (t : PT), ys[i]? = some x → us[i]? = some t → CH H x t) → CH H c (.mk (.cond c.c8 c.fOp ts.length us.length) (ts ++ us))
inductive SH (H : Hp) : g5 → PT → Prop
 | mk {s : g5} {xs : List b9} {ts : List PT} {ys : List f8} {us : List PT} {zs bs : List g5} {vs ws : List PT} : SlH H 4 d9 s.m7 xs → xs.length ≤ big → z6 (EH H) xs ts → SlH H 4 g8 s.A6 ys → ys.length ≤ big → z6 (CH H) ys us →
   SlH H 6 l8 s.L5 zs → zs.length ≤ big → zs.length = vs.length → (∀ (i : Nat) (x : g5) (t : PT), zs[i]? = some x → vs[i]? = some t → SH H x t) →
   SlH H 6 l8 s.I0 bs → bs.length ≤ big → bs.length = ws.length → (∀ (i : Nat) (x : g5) (t : PT), bs[i]? = some x → ws[i]? = some t → SH H x t) →
   SH H s (.mk (.stmt s.c8 s.o9 ts.length us.length vs.length ws.length) (us ++ (ts ++ (vs ++ ws))))
theorem EH.le {H H' : Hp} (l : Hle H H') {e : b9} {t : PT} (h : EH H e t) : EH H' e t := by
 induction h with
 | mk hs hb hl _ ih => exact .mk (hs.le l) hb hl ih
theorem CH.le {H H' : Hp} (l : Hle H H') {e : f8} {t : PT} (h : CH H e t) : CH H' e t := by
 induction h with
 | mk hs hb hr hy hc hl _ ih => exact .mk (hs.le l) hb (hr.mono fun _ _ => EH.le l) (hy.le l) hc hl ih
theorem SH.le {H H' : Hp} (l : Hle H H') {e : g5} {t : PT} (h : SH H e t) : SH H' e t := by
 induction h with
 | mk hs hb hr hy hc hrc ha hab hal _ hbs hbb hbl _ ih1 ih2 => exact .mk (hs.le l) hb (hr.mono fun _ _ => EH.le l) (hy.le l) hc (hrc.mono fun _ _ => CH.le l) (ha.le l) hab hal ih1 (hbs.le l) hbb hbl ih2
structure PP where
 decls : List k7
 body : List PT
structure PH (H : Hp) (p : l7) (q : PP) : Prop where
 d : SlH H 2 y3 p.a1U q.decls
 bd : q.decls.length ≤ big
 b : ∃ xs, SlH H 6 l8 p.a0J xs ∧ xs.length ≤ big ∧ z6 (SH H) xs q.body
theorem PH.le {H H' : Hp} {p : l7} {q : PP} (h : PH H p q) (l : Hle H H') : PH H' p q := by
 obtain ⟨a, b, xs, c, d, e⟩ := h
 exact ⟨a.le l, b, xs, c.le l, d, e.mono fun _ _ => SH.le l⟩
open Classical in
noncomputable def eqT (a b : PT) : Bool := decide (a = b)
open Classical in
noncomputable def eqTs (a b : List PT) : Bool := decide (a = b)
theorem b0h {a b : PT} : eqT a b = true ↔ a = b := by unfold eqT; simp
theorem a6k {a b : List PT} : eqTs a b = true ↔ a = b := by unfold eqTs; simp
theorem c5z {a b : PT} : eqT a b = false ↔ a ≠ b := by unfold eqT; simp
theorem b6z {a b : List PT} : eqTs a b = false ↔ a ≠ b := by unfold eqTs; simp
theorem b0X {a b : List PT} (h : a.length ≠ b.length) : eqTs a b = false := b6z.2 fun e => h (by rw [e])
theorem b2L {a b : List PT} {i : Nat} {x y : PT} (ha : a[i]? = some x) (hb : b[i]? = some y) (h : eqT x y = false) : eqTs a b = false := b6z.2 fun e => by
 rw [e, hb] at ha; cases ha; exact c5z.1 h rfl
theorem b0Y {a b : List PT} (hl : a.length = b.length) (h : ∀ (i : Nat) (x y : PT), a[i]? = some x → b[i]? = some y → eqT x y = true) : eqTs a b = true := a6k.2 (b6g hl fun i x y ha hb => b0h.1 (h i x y ha hb))
theorem b9O {k n : Int} {s : ByteArray} {ts : List PT} {k' n' : Int} {s' : ByteArray} {ts' : List PT} : eqT (.mk (.expr k n s ts.length) ts) (.mk (.expr k' n' s' ts'.length) ts') = (decide (k = k') && decide (n = n') && decide (s = s') && eqTs ts ts') := by
 rw [Bool.eq_iff_iff, b0h]
 simp only [Bool.and_eq_true, decide_eq_true_eq, a6k, PT.mk.injEq, Lab.expr.injEq]
 constructor
 ·rintro ⟨⟨rfl, rfl, rfl, _⟩, rfl⟩; exact ⟨⟨⟨rfl, rfl⟩, rfl⟩, rfl⟩
 ·rintro ⟨⟨⟨rfl, rfl⟩, rfl⟩, rfl⟩; exact ⟨⟨rfl, rfl, rfl, rfl⟩, rfl⟩
theorem b9P {k n : Int} {ts us : List PT} {k' n' : Int} {ts' us' : List PT} : eqT (.mk (.cond k n ts.length us.length) (ts ++ us)) (.mk (.cond k' n' ts'.length us'.length) (ts' ++ us')) = (decide (k = k') && decide (n = n') && eqTs ts ts' && eqTs us us') := by
 rw [Bool.eq_iff_iff, b0h]
 simp only [Bool.and_eq_true, decide_eq_true_eq, a6k, PT.mk.injEq, Lab.cond.injEq]
 constructor
 ·rintro ⟨⟨rfl, rfl, h1, h2⟩, h⟩
  obtain ⟨rfl, rfl⟩ := List.append_inj h h1
  exact ⟨⟨⟨rfl, rfl⟩, rfl⟩, rfl⟩
 ·rintro ⟨⟨⟨rfl, rfl⟩, rfl⟩, rfl⟩; exact ⟨⟨rfl, rfl, rfl, rfl⟩, rfl⟩
theorem b9Q {k : Int} {s : ByteArray} {ts us vs ws : List PT} {k' : Int} {s' : ByteArray} {ts' us' vs' ws' : List PT} : eqT (.mk (.stmt k s ts.length us.length vs.length ws.length) (us ++ (ts ++ (vs ++ ws)))) (.mk (.stmt k' s' ts'.length us'.length vs'.length ws'.length) (us' ++ (ts' ++ (vs' ++ ws')))) = (decide (k = k') && decide (s = s') && eqTs ts ts' && eqTs us us' && eqTs vs vs' && eqTs ws ws') := by
 rw [Bool.eq_iff_iff, b0h]
 simp only [Bool.and_eq_true, decide_eq_true_eq, a6k, PT.mk.injEq, Lab.stmt.injEq]
 constructor
 ·rintro ⟨⟨rfl, rfl, h1, h2, h3, h4⟩, h⟩
  obtain ⟨e1, h5⟩ := List.append_inj h h2
  obtain ⟨e2, h6⟩ := List.append_inj h5 h1
  obtain ⟨e3, e4⟩ := List.append_inj h6 h3
  subst e1; subst e2; subst e3; subst e4
  exact ⟨⟨⟨⟨⟨rfl, rfl⟩, rfl⟩, rfl⟩, rfl⟩, rfl⟩
 ·rintro ⟨⟨⟨⟨⟨rfl, rfl⟩, rfl⟩, rfl⟩, rfl⟩, rfl⟩; exact ⟨⟨rfl, rfl, rfl, rfl, rfl, rfl⟩, rfl⟩
section
variable {H : Hp}
theorem a8U {sx sy : Sl} {xs ys : List b9} {ts us : List PT} (hx : SlH H 4 d9 sx xs) (hy : SlH H 4 d9 sy ys) (hb : xs.length ≤ big) (hl : xs.length = ts.length) (hl' : ys.length = us.length)
  (ih : ∀ (i : Nat) (x y : b9) (t u : PT), xs[i]? = some x → ys[i]? = some y → ts[i]? = some t → us[i]? = some u → ∀ K : Bool → Hp → Prop, K (eqT t u) H → a0N x y H K) {K : Bool → Hp → Prop} (h : K (eqTs ts us) H) : m9 sx sy H K := by
 refine L9 _ _ ?_
 unfold y1
 have n1 := hx.1; have n2 := hy.1
 refine ⟨fun hne => ?_, fun he => ?_⟩
 ·rw [b0X (by omega)] at h; exact h
 refine Q4 (fun (i : Int) H' => 0 ≤ i ∧ i ≤ xs.length ∧ H' = H ∧ ∀ (j : Nat) (t u : PT), (j : Int) < i → ts[j]? = some t → us[j]? = some u → eqT t u = true) (fun i => (xs.length - i).toNat) ⟨by omega, by omega, rfl, fun j t u hj => by omega⟩ ?_
 rintro i H1 next ⟨i0, i1, rfl, hi⟩ hn
 unfold q9
 refine ⟨fun hc => ?_, fun hc => ?_⟩
 ·obtain ⟨x, hxi, hE⟩ := hx.get i0 hc
  obtain ⟨y, hyi, hF⟩ := hy.get i0 (show i < (sy.n : Int) by omega)
  obtain ⟨t, ht⟩ := a4A (l := ts) (i := i.toNat) (by have := W9 hxi; omega)
  obtain ⟨u, hu⟩ := a4A (l := us) (i := i.toNat) (by have := W9 hyi; omega)
  refine ⟨i0, hc, x, hE, i0, by omega, y, hF, ih _ x y t u hxi hyi ht hu _ ⟨fun hq => ?_, fun hq => ?_⟩⟩
  ·have : eqT t u = false := by simpa using hq
   rw [b2L ht hu this] at h; exact h
  ·have he' : eqT t u = true := by simpa using hq
   rw [a2L i0 (by simp only [big] at hb; omega)]
   refine hn _ _ ⟨by omega, by omega, rfl, fun j t' u' hj ht' hu' => ?_⟩ (by omega)
   by_cases ej : j = i.toNat
   ·subst ej
    rw [ht] at ht'; cases ht'
    rw [hu] at hu'; cases hu'
    exact he'
   ·exact hi j t' u' (by omega) ht' hu'
 ·have : eqTs ts us = true := b0Y (by omega) fun j t u ht hu => hi j t u (by have := W9 ht; omega) ht hu
  rw [this] at h; exact h
theorem b1y {sx sy : Sl} {xs ys : List f8} {ts us : List PT} (hx : SlH H 4 g8 sx xs) (hy : SlH H 4 g8 sy ys) (hb : xs.length ≤ big) (hl : xs.length = ts.length) (hl' : ys.length = us.length)
  (ih : ∀ (i : Nat) (x y : f8) (t u : PT), xs[i]? = some x → ys[i]? = some y → ts[i]? = some t → us[i]? = some u → ∀ K : Bool → Hp → Prop, K (eqT t u) H → a0O x y H K) {K : Bool → Hp → Prop} (h : K (eqTs ts us) H) : l0 sx sy H K := by
 refine L8 _ _ ?_
 unfold v8
 have n1 := hx.1; have n2 := hy.1
 refine ⟨fun hne => ?_, fun he => ?_⟩
 ·rw [b0X (by omega)] at h; exact h
 refine Q4 (fun (i : Int) H' => 0 ≤ i ∧ i ≤ xs.length ∧ H' = H ∧ ∀ (j : Nat) (t u : PT), (j : Int) < i → ts[j]? = some t → us[j]? = some u → eqT t u = true) (fun i => (xs.length - i).toNat) ⟨by omega, by omega, rfl, fun j t u hj => by omega⟩ ?_
 rintro i H1 next ⟨i0, i1, rfl, hi⟩ hn
 unfold q8
 refine ⟨fun hc => ?_, fun hc => ?_⟩
 ·obtain ⟨x, hxi, hE⟩ := hx.get i0 hc
  obtain ⟨y, hyi, hF⟩ := hy.get i0 (show i < (sy.n : Int) by omega)
  obtain ⟨t, ht⟩ := a4A (l := ts) (i := i.toNat) (by have := W9 hxi; omega)
  obtain ⟨u, hu⟩ := a4A (l := us) (i := i.toNat) (by have := W9 hyi; omega)
  refine ⟨i0, hc, x, hE, i0, by omega, y, hF, ih _ x y t u hxi hyi ht hu _ ⟨fun hq => ?_, fun hq => ?_⟩⟩
  ·have : eqT t u = false := by simpa using hq
   rw [b2L ht hu this] at h; exact h
  ·have he' : eqT t u = true := by simpa using hq
   rw [a2L i0 (by simp only [big] at hb; omega)]
   refine hn _ _ ⟨by omega, by omega, rfl, fun j t' u' hj ht' hu' => ?_⟩ (by omega)
   by_cases ej : j = i.toNat
   ·subst ej
    rw [ht] at ht'; cases ht'
    rw [hu] at hu'; cases hu'
    exact he'
   ·exact hi j t' u' (by omega) ht' hu'
 ·have : eqTs ts us = true := b0Y (by omega) fun j t u ht hu => hi j t u (by have := W9 ht; omega) ht hu
  rw [this] at h; exact h
theorem a8V {sx sy : Sl} {xs ys : List g5} {ts us : List PT} (hx : SlH H 6 l8 sx xs) (hy : SlH H 6 l8 sy ys) (hb : xs.length ≤ big) (hl : xs.length = ts.length) (hl' : ys.length = us.length)
  (ih : ∀ (i : Nat) (x y : g5) (t u : PT), xs[i]? = some x → ys[i]? = some y → ts[i]? = some t → us[i]? = some u → ∀ K : Bool → Hp → Prop, K (eqT t u) H → a0P x y H K) {K : Bool → Hp → Prop} (h : K (eqTs ts us) H) : d6 sx sy H K := by
 refine M0 _ _ ?_
 unfold y2
 have n1 := hx.1; have n2 := hy.1
 refine ⟨fun hne => ?_, fun he => ?_⟩
 ·rw [b0X (by omega)] at h; exact h
 refine Q4 (fun (i : Int) H' => 0 ≤ i ∧ i ≤ xs.length ∧ H' = H ∧ ∀ (j : Nat) (t u : PT), (j : Int) < i → ts[j]? = some t → us[j]? = some u → eqT t u = true) (fun i => (xs.length - i).toNat) ⟨by omega, by omega, rfl, fun j t u hj => by omega⟩ ?_
 rintro i H1 next ⟨i0, i1, rfl, hi⟩ hn
 unfold r7
 refine ⟨fun hc => ?_, fun hc => ?_⟩
 ·obtain ⟨x, hxi, hE⟩ := hx.get i0 hc
  obtain ⟨y, hyi, hF⟩ := hy.get i0 (show i < (sy.n : Int) by omega)
  obtain ⟨t, ht⟩ := a4A (l := ts) (i := i.toNat) (by have := W9 hxi; omega)
  obtain ⟨u, hu⟩ := a4A (l := us) (i := i.toNat) (by have := W9 hyi; omega)
  refine ⟨i0, hc, x, hE, i0, by omega, y, hF, ih _ x y t u hxi hyi ht hu _ ⟨fun hq => ?_, fun hq => ?_⟩⟩
  ·have : eqT t u = false := by simpa using hq
   rw [b2L ht hu this] at h; exact h
  ·have he' : eqT t u = true := by simpa using hq
   rw [a2L i0 (by simp only [big] at hb; omega)]
   refine hn _ _ ⟨by omega, by omega, rfl, fun j t' u' hj ht' hu' => ?_⟩ (by omega)
   by_cases ej : j = i.toNat
   ·subst ej
    rw [ht] at ht'; cases ht'
    rw [hu] at hu'; cases hu'
    exact he'
   ·exact hi j t' u' (by omega) ht' hu'
 ·have : eqTs ts us = true := b0Y (by omega) fun j t u ht hu => hi j t u (by have := W9 ht; omega) ht hu
  rw [this] at h; exact h
theorem b0F {e e' : b9} {t t' : PT} (he : EH H e t) (he' : EH H e' t') {K : Bool → Hp → Prop} (h : K (eqT t t') H) : a0N e e' H K := by
 induction he generalizing e' t' K with
 | @mk e xs ts hs hb hl _ ih =>
  cases he' with
  | @mk _ xs' ts' hs' hb' hl' hr' =>
   refine a8e _ _ ?_
   unfold a3b
   refine a1i (eqTs ts ts') (fun _ K' hk => a8U hs hs' hb hl hl' (fun i x y t u hx hy ht hu K hK => ih i x t hx ht (hr' i y u hy hu) hK) hk) ?_
   rw [b9O] at h
   generalize (decide (e.c8 = e'.c8) && decide (e.J5 = e'.J5) && decide (e.o9 = e'.o9)) = q at h ⊢
   generalize eqTs ts ts' = a at h ⊢
   cases q <;> cases a <;> exact h
theorem b5P {e e' : f8} {t t' : PT} (he : CH H e t) (he' : CH H e' t') {K : Bool → Hp → Prop} (h : K (eqT t t') H) : a0O e e' H K := by
 induction he generalizing e' t' K with
 | @mk e xs ts ys us hs hb hr hc hcb hcl _ ih =>
  cases he' with
  | @mk _ xs' ts' ys' us' hs' hb' hr' hc' hcb' hcl' hcr' =>
   refine a8d _ _ ?_
   unfold a2Y
   refine a1i (eqTs ts ts') (fun _ K' hk => a8U hs hs' hb hr.1 hr'.1 (fun i x y t u hx hy ht hu K hK => b0F (hr.2 i x t hx ht) (hr'.2 i y u hy hu) hK) hk) ?_
   refine a1i (eqTs us us') (fun _ K' hk => b1y hc hc' hcb hcl hcl' (fun i x y t u hx hy ht hu K hK => ih i x t hx ht (hcr' i y u hy hu) hK) hk) ?_
   rw [b9P] at h
   generalize (decide (e.c8 = e'.c8) && decide (e.fOp = e'.fOp)) = q at h ⊢
   generalize eqTs ts ts' = a at h ⊢
   generalize eqTs us us' = b at h ⊢
   cases q <;> cases a <;> cases b <;> exact h
theorem b5Q {e e' : g5} {t t' : PT} (he : SH H e t) (he' : SH H e' t') {K : Bool → Hp → Prop} (h : K (eqT t t') H) : a0P e e' H K := by
 induction he generalizing e' t' K with
 | @mk e xs ts ys us zs bs vs ws hs hb hr hc hcb hcr ha hab hal _ hbs hbb hbl _ iha ihb =>
  cases he' with
  | @mk _ xs' ts' ys' us' zs' bs' vs' ws' hs' hb' hr' hc' hcb' hcr' ha' hab' hal' har' hbs' hbb' hbl' hbr' =>
   refine a8f _ _ ?_
   unfold a3d
   refine a1i (eqTs ts ts') (fun _ K' hk => a8U hs hs' hb hr.1 hr'.1 (fun i x y t u hx hy ht hu K hK => b0F (hr.2 i x t hx ht) (hr'.2 i y u hy hu) hK) hk) ?_
   refine a1i (eqTs us us') (fun _ K' hk => b1y hc hc' hcb hcr.1 hcr'.1 (fun i x y t u hx hy ht hu K hK => b5P (hcr.2 i x t hx ht) (hcr'.2 i y u hy hu) hK) hk) ?_
   refine a1i (eqTs vs vs') (fun _ K' hk => a8V ha ha' hab hal hal' (fun i x y t u hx hy ht hu K hK => iha i x t hx ht (har' i y u hy hu) hK) hk) ?_
   refine a1i (eqTs ws ws') (fun _ K' hk => a8V hbs hbs' hbb hbl hbl' (fun i x y t u hx hy ht hu K hK => ihb i x t hx ht (hbr' i y u hy hu) hK) hk) ?_
   rw [b9Q] at h
   generalize (decide (e.c8 = e'.c8) && decide (e.o9 = e'.o9)) = q at h ⊢
   generalize eqTs ts ts' = a at h ⊢
   generalize eqTs us us' = b at h ⊢
   generalize eqTs vs vs' = c at h ⊢
   generalize eqTs ws ws' = d at h ⊢
   cases q <;> cases a <;> cases b <;> cases c <;> cases d <;> exact h
theorem b4T {sx sy : Sl} {xs ys : List k7} (hx : SlH H 2 y3 sx xs) (hy : SlH H 2 y3 sy ys) (hb : xs.length ≤ big) {K : Bool → Hp → Prop} (h : (xs = ys → K true H) ∧ (xs ≠ ys → K false H)) : E1 sx sy H K := by
 refine a2B _ _ ?_
 unfold O4
 have n1 := hx.1; have n2 := hy.1
 refine ⟨fun hne => h.2 fun e => by subst e; omega, fun he => ?_⟩
 refine Q4 (fun (i : Int) H' => 0 ≤ i ∧ i ≤ xs.length ∧ H' = H ∧ ∀ (j : Nat) (t u : k7), (j : Int) < i → xs[j]? = some t → ys[j]? = some u → t = u) (fun i => (xs.length - i).toNat) ⟨by omega, by omega, rfl, fun j t u hj => by omega⟩ ?_
 rintro i H1 next ⟨i0, i1, rfl, hi⟩ hn
 unfold G8
 refine ⟨fun hc => ?_, fun hc => ?_⟩
 ·obtain ⟨x, hxi, hE⟩ := hx.get i0 hc
  obtain ⟨y, hyi, hF⟩ := hy.get i0 (show i < (sy.n : Int) by omega)
  refine ⟨i0, hc, x, hE, i0, by omega, y, hF, fun hq => h.2 fun e => ?_, fun hq => ?_⟩
  ·subst e; rw [hxi] at hyi; cases hyi; exact hq ⟨rfl, rfl⟩
  ·rw [a2L i0 (by simp only [big] at hb; omega)]
   refine hn _ _ ⟨by omega, by omega, rfl, fun j t' u' hj ht' hu' => ?_⟩ (by omega)
   by_cases ej : j = i.toNat
   ·subst ej
    rw [hxi] at ht'; cases ht'
    rw [hyi] at hu'; cases hu'
    cases x; cases y; simp_all
   ·exact hi j t' u' (by omega) ht' hu'
 ·exact h.1 (b6g (by omega) fun j t u ht hu => hi j t u (by have := W9 ht; omega) ht hu)
end
section
variable {H : Hp}
abbrev W := b0Q
def wStep (s : W) (d : Int) : W := if s.fbad = 0 then (if s.fn = 4096 then ⟨s.fn, s.fdepth, 33⟩ else if 64 < d then ⟨s.fn, s.fdepth, 32⟩ else ⟨s.fn + 1, if d > s.fdepth then d else s.fdepth, 0⟩) else s
mutual
def wT : PT → Int → W → W
 | .mk _ cs, d, s => wTs cs (d + 1) (wStep s d)
def wTs : List PT → Int → W → W
 | [], _, s => s
 | t :: ts, d, s => wTs ts d (wT t d s)
end
mutual
theorem c5A : ∀ (t : PT) (d : Int) (s : W), s.fbad ≠ 0 → wT t d s = s
 | .mk _ cs, d, s, h => by
  have : wStep s d = s := by unfold wStep; rw [if_neg h]
  rw [wT, this]; exact b0i cs _ _ h
theorem b0i : ∀ (ts : List PT) (d : Int) (s : W), s.fbad ≠ 0 → wTs ts d s = s
 | [], _, s, h => by rw [wTs]
 | t :: ts, d, s, h => by rw [wTs, c5A t d s h]; exact b0i ts d s h
end
def dT (d : k7) : PT := .mk (.decl d.a0o d.o9) []
def PP.nodes (q : PP) : List PT := q.decls.map dT ++ q.body
def w0S : W := ⟨0, 0, 0⟩
end
end Go.Proofs.YthklmeihgmcljaaGreatDoor
