/- Trees: plain ones, how they lie in the frozen heap; whether two are the same, by the program and by the document. Contracts off the printed formulas. -/
import Derived.Test.YthldnpmfelniiaaDoorzDB
import Derived.Test.YthldnpmfelniiaaDoorzDV1a
import Derived.Test.YthldnpmfelniiaaDoorzDV1b
import Derived.Test.YthldnpmfelniiaaDoorzDV1c
import Derived.Test.YthldnpmfelniiaaDoorzDV1d
namespace Go.Proofs.YthldnpmfelniiaaDoor
open Go.RowKit
set_option maxRecDepth 100000
set_option maxHeartbeats 2000000
inductive Lab where
  | decl (size : Int) (name : ByteArray)
  | stmt (kind : Int) (name : ByteArray) (e c t f : Nat)
  | cond (kind op : Int) (e p : Nat)
  | expr (kind num : Int) (name : ByteArray) (n : Nat)
inductive PT where
  | mk (l : Lab) (cs : List PT)
def PT.lab : PT → Lab | .mk l _ => l
def PT.kids : PT → List PT | .mk _ cs => cs
abbrev big : Nat := 1099511627776
inductive EH (H : Hp) : h7 → PT → Prop
  | mk {e : h7} {xs : List h7} {ts : List PT} : SlH H 4 c8 e.m9 xs → xs.length ≤ big → xs.length = ts.length → (∀ (i : Nat) (x : h7) (t : PT), xs[i]? = some x → ts[i]? = some t → EH H x t) → EH H e (.mk (.expr e.d4 e.F9 e.d8 ts.length) ts)
inductive CH (H : Hp) : g9 → PT → Prop
  | mk {c : g9} {xs : List h7} {ts : List PT} {ys : List g9} {us : List PT} : SlH H 4 c8 c.c7 xs → xs.length ≤ big → E0 (EH H) xs ts → SlH H 4 c6 c.j9 ys → ys.length ≤ big → ys.length = us.length → (∀ (i : Nat) (x : g9) (t : PT), ys[i]? = some x → us[i]? = some t → CH H x t) → CH H c (.mk (.cond c.d4 c.fOp ts.length us.length) (ts ++ us))
inductive SH (H : Hp) : g8 → PT → Prop
  | mk {s : g8} {xs : List h7} {ts : List PT} {ys : List g9} {us : List PT} {zs bs : List g8} {vs ws : List PT} : SlH H 4 c8 s.c7 xs → xs.length ≤ big → E0 (EH H) xs ts → SlH H 4 c6 s.f5 ys → ys.length ≤ big → E0 (CH H) ys us →
      SlH H 6 b8 s.r9 zs → zs.length ≤ big → zs.length = vs.length → (∀ (i : Nat) (x : g8) (t : PT), zs[i]? = some x → vs[i]? = some t → SH H x t) →
      SlH H 6 b8 s.o6 bs → bs.length ≤ big → bs.length = ws.length → (∀ (i : Nat) (x : g8) (t : PT), bs[i]? = some x → ws[i]? = some t → SH H x t) →
      SH H s (.mk (.stmt s.d4 s.d8 ts.length us.length vs.length ws.length) (us ++ (ts ++ (vs ++ ws))))
theorem EH.le {H H' : Hp} (l : Hle H H') {e : h7} {t : PT} (h : EH H e t) : EH H' e t := by
  induction h with
  | mk hs hb hl _ ih => exact .mk (hs.le l) hb hl ih
theorem CH.le {H H' : Hp} (l : Hle H H') {e : g9} {t : PT} (h : CH H e t) : CH H' e t := by
  induction h with
  | mk hs hb hr hy hc hl _ ih => exact .mk (hs.le l) hb (hr.mono fun _ _ => EH.le l) (hy.le l) hc hl ih
theorem SH.le {H H' : Hp} (l : Hle H H') {e : g8} {t : PT} (h : SH H e t) : SH H' e t := by
  induction h with
  | mk hs hb hr hy hc hrc ha hab hal _ hbs hbb hbl _ ih1 ih2 => exact .mk (hs.le l) hb (hr.mono fun _ _ => EH.le l) (hy.le l) hc (hrc.mono fun _ _ => CH.le l) (ha.le l) hab hal ih1 (hbs.le l) hbb hbl ih2
structure PP where
  decls : List A4
  body : List PT
structure PH (H : Hp) (p : f6) (q : PP) : Prop where
  d : SlH H 2 k8 p.o7 q.decls
  bd : q.decls.length ≤ big
  b : ∃ xs, SlH H 6 b8 p.K5 xs ∧ xs.length ≤ big ∧ E0 (SH H) xs q.body
theorem PH.le {H H' : Hp} {p : f6} {q : PP} (h : PH H p q) (l : Hle H H') : PH H' p q := by
  obtain ⟨a, b, xs, c, d, e⟩ := h
  exact ⟨a.le l, b, xs, c.le l, d, e.mono fun _ _ => SH.le l⟩
open Classical in
noncomputable def eqT (a b : PT) : Bool := decide (a = b)
open Classical in
noncomputable def eqTs (a b : List PT) : Bool := decide (a = b)
theorem b5b {a b : PT} : eqT a b = true ↔ a = b := by unfold eqT; simp
theorem a9v {a b : List PT} : eqTs a b = true ↔ a = b := by unfold eqTs; simp
theorem e6y {a b : PT} : eqT a b = false ↔ a ≠ b := by unfold eqT; simp
theorem c4d {a b : List PT} : eqTs a b = false ↔ a ≠ b := by unfold eqTs; simp
theorem a3u {a b : List PT} (h : a.length ≠ b.length) : eqTs a b = false := c4d.2 fun e => h (by rw [e])
theorem a4r {a b : List PT} {i : Nat} {x y : PT} (ha : a[i]? = some x) (hb : b[i]? = some y) (h : eqT x y = false) : eqTs a b = false := c4d.2 fun e => by
  rw [e, hb] at ha; cases ha; exact e6y.1 h rfl
theorem b2N {a b : List PT} (hl : a.length = b.length) (h : ∀ (i : Nat) (x y : PT), a[i]? = some x → b[i]? = some y → eqT x y = true) : eqTs a b = true := a9v.2 (b7I hl fun i x y ha hb => b5b.1 (h i x y ha hb))
theorem c2B {k n : Int} {s : ByteArray} {ts : List PT} {k' n' : Int} {s' : ByteArray} {ts' : List PT} : eqT (.mk (.expr k n s ts.length) ts) (.mk (.expr k' n' s' ts'.length) ts') = (decide (k = k') && decide (n = n') && decide (s = s') && eqTs ts ts') := by
  rw [Bool.eq_iff_iff, b5b]
  simp only [Bool.and_eq_true, decide_eq_true_eq, a9v, PT.mk.injEq, Lab.expr.injEq]
  constructor
  · rintro ⟨⟨rfl, rfl, rfl, _⟩, rfl⟩; exact ⟨⟨⟨rfl, rfl⟩, rfl⟩, rfl⟩
  · rintro ⟨⟨⟨rfl, rfl⟩, rfl⟩, rfl⟩; exact ⟨⟨rfl, rfl, rfl, rfl⟩, rfl⟩
theorem c2C {k n : Int} {ts us : List PT} {k' n' : Int} {ts' us' : List PT} : eqT (.mk (.cond k n ts.length us.length) (ts ++ us)) (.mk (.cond k' n' ts'.length us'.length) (ts' ++ us')) = (decide (k = k') && decide (n = n') && eqTs ts ts' && eqTs us us') := by
  rw [Bool.eq_iff_iff, b5b]
  simp only [Bool.and_eq_true, decide_eq_true_eq, a9v, PT.mk.injEq, Lab.cond.injEq]
  constructor
  · rintro ⟨⟨rfl, rfl, h1, h2⟩, h⟩
    obtain ⟨rfl, rfl⟩ := List.append_inj h h1
    exact ⟨⟨⟨rfl, rfl⟩, rfl⟩, rfl⟩
  · rintro ⟨⟨⟨rfl, rfl⟩, rfl⟩, rfl⟩; exact ⟨⟨rfl, rfl, rfl, rfl⟩, rfl⟩
theorem c2D {k : Int} {s : ByteArray} {ts us vs ws : List PT} {k' : Int} {s' : ByteArray} {ts' us' vs' ws' : List PT} : eqT (.mk (.stmt k s ts.length us.length vs.length ws.length) (us ++ (ts ++ (vs ++ ws)))) (.mk (.stmt k' s' ts'.length us'.length vs'.length ws'.length) (us' ++ (ts' ++ (vs' ++ ws')))) = (decide (k = k') && decide (s = s') && eqTs ts ts' && eqTs us us' && eqTs vs vs' && eqTs ws ws') := by
  rw [Bool.eq_iff_iff, b5b]
  simp only [Bool.and_eq_true, decide_eq_true_eq, a9v, PT.mk.injEq, Lab.stmt.injEq]
  constructor
  · rintro ⟨⟨rfl, rfl, h1, h2, h3, h4⟩, h⟩
    obtain ⟨e1, h5⟩ := List.append_inj h h2
    obtain ⟨e2, h6⟩ := List.append_inj h5 h1
    obtain ⟨e3, e4⟩ := List.append_inj h6 h3
    subst e1; subst e2; subst e3; subst e4
    exact ⟨⟨⟨⟨⟨rfl, rfl⟩, rfl⟩, rfl⟩, rfl⟩, rfl⟩
  · rintro ⟨⟨⟨⟨⟨rfl, rfl⟩, rfl⟩, rfl⟩, rfl⟩, rfl⟩; exact ⟨⟨rfl, rfl, rfl, rfl, rfl, rfl⟩, rfl⟩
section
variable {H : Hp}
theorem b2O {sx sy : Sl} {xs ys : List h7} {ts us : List PT} (hx : SlH H 4 c8 sx xs) (hy : SlH H 4 c8 sy ys) (hb : xs.length ≤ big) (hl : xs.length = ts.length) (hl' : ys.length = us.length)
    (ih : ∀ (i : Nat) (x y : h7) (t u : PT), xs[i]? = some x → ys[i]? = some y → ts[i]? = some t → us[i]? = some u → ∀ K : Bool → Hp → Prop, K (eqT t u) H → a0F x y H K) {K : Bool → Hp → Prop} (h : K (eqTs ts us) H) : h8 sx sy H K := by
  refine G5 _ _ ?_
  unfold k3
  have n1 := hx.1; have n2 := hy.1
  refine ⟨fun hne => ?_, fun he => ?_⟩
  · rw [a3u (by omega)] at h; exact h
  refine Z7 (fun (i : Int) H' => 0 ≤ i ∧ i ≤ xs.length ∧ H' = H ∧ ∀ (j : Nat) (t u : PT), (j : Int) < i → ts[j]? = some t → us[j]? = some u → eqT t u = true) (fun i => (xs.length - i).toNat) ⟨by omega, by omega, rfl, fun j t u hj => by omega⟩ ?_
  rintro i H1 next ⟨i0, i1, rfl, hi⟩ hn
  unfold j6
  refine ⟨fun hc => ?_, fun hc => ?_⟩
  · obtain ⟨x, hxi, hE⟩ := hx.get i0 hc
    obtain ⟨y, hyi, hF⟩ := hy.get i0 (show i < (sy.n : Int) by omega)
    obtain ⟨t, ht⟩ := A8 (l := ts) (i := i.toNat) (by have := t6 hxi; omega)
    obtain ⟨u, hu⟩ := A8 (l := us) (i := i.toNat) (by have := t6 hyi; omega)
    refine ⟨i0, hc, x, hE, i0, by omega, y, hF, ih _ x y t u hxi hyi ht hu _ ⟨fun hq => ?_, fun hq => ?_⟩⟩
    · have : eqT t u = false := by simpa using hq
      rw [a4r ht hu this] at h; exact h
    · have he' : eqT t u = true := by simpa using hq
      rw [y6 i0 (by simp only [big] at hb; omega)]
      refine hn _ _ ⟨by omega, by omega, rfl, fun j t' u' hj ht' hu' => ?_⟩ (by omega)
      by_cases ej : j = i.toNat
      · subst ej
        rw [ht] at ht'; cases ht'
        rw [hu] at hu'; cases hu'
        exact he'
      · exact hi j t' u' (by omega) ht' hu'
  · have : eqTs ts us = true := b2N (by omega) fun j t u ht hu => hi j t u (by have := t6 ht; omega) ht hu
    rw [this] at h; exact h
theorem b7o {sx sy : Sl} {xs ys : List g9} {ts us : List PT} (hx : SlH H 4 c6 sx xs) (hy : SlH H 4 c6 sy ys) (hb : xs.length ≤ big) (hl : xs.length = ts.length) (hl' : ys.length = us.length)
    (ih : ∀ (i : Nat) (x y : g9) (t u : PT), xs[i]? = some x → ys[i]? = some y → ts[i]? = some t → us[i]? = some u → ∀ K : Bool → Hp → Prop, K (eqT t u) H → a0G x y H K) {K : Bool → Hp → Prop} (h : K (eqTs ts us) H) : f9 sx sy H K := by
  refine G7 _ _ ?_
  unfold k5
  have n1 := hx.1; have n2 := hy.1
  refine ⟨fun hne => ?_, fun he => ?_⟩
  · rw [a3u (by omega)] at h; exact h
  refine Z7 (fun (i : Int) H' => 0 ≤ i ∧ i ≤ xs.length ∧ H' = H ∧ ∀ (j : Nat) (t u : PT), (j : Int) < i → ts[j]? = some t → us[j]? = some u → eqT t u = true) (fun i => (xs.length - i).toNat) ⟨by omega, by omega, rfl, fun j t u hj => by omega⟩ ?_
  rintro i H1 next ⟨i0, i1, rfl, hi⟩ hn
  unfold j8
  refine ⟨fun hc => ?_, fun hc => ?_⟩
  · obtain ⟨x, hxi, hE⟩ := hx.get i0 hc
    obtain ⟨y, hyi, hF⟩ := hy.get i0 (show i < (sy.n : Int) by omega)
    obtain ⟨t, ht⟩ := A8 (l := ts) (i := i.toNat) (by have := t6 hxi; omega)
    obtain ⟨u, hu⟩ := A8 (l := us) (i := i.toNat) (by have := t6 hyi; omega)
    refine ⟨i0, hc, x, hE, i0, by omega, y, hF, ih _ x y t u hxi hyi ht hu _ ⟨fun hq => ?_, fun hq => ?_⟩⟩
    · have : eqT t u = false := by simpa using hq
      rw [a4r ht hu this] at h; exact h
    · have he' : eqT t u = true := by simpa using hq
      rw [y6 i0 (by simp only [big] at hb; omega)]
      refine hn _ _ ⟨by omega, by omega, rfl, fun j t' u' hj ht' hu' => ?_⟩ (by omega)
      by_cases ej : j = i.toNat
      · subst ej
        rw [ht] at ht'; cases ht'
        rw [hu] at hu'; cases hu'
        exact he'
      · exact hi j t' u' (by omega) ht' hu'
  · have : eqTs ts us = true := b2N (by omega) fun j t u ht hu => hi j t u (by have := t6 ht; omega) ht hu
    rw [this] at h; exact h
theorem b2P {sx sy : Sl} {xs ys : List g8} {ts us : List PT} (hx : SlH H 6 b8 sx xs) (hy : SlH H 6 b8 sy ys) (hb : xs.length ≤ big) (hl : xs.length = ts.length) (hl' : ys.length = us.length)
    (ih : ∀ (i : Nat) (x y : g8) (t u : PT), xs[i]? = some x → ys[i]? = some y → ts[i]? = some t → us[i]? = some u → ∀ K : Bool → Hp → Prop, K (eqT t u) H → a0H x y H K) {K : Bool → Hp → Prop} (h : K (eqTs ts us) H) : c5 sx sy H K := by
  refine G6 _ _ ?_
  unfold k4
  have n1 := hx.1; have n2 := hy.1
  refine ⟨fun hne => ?_, fun he => ?_⟩
  · rw [a3u (by omega)] at h; exact h
  refine Z7 (fun (i : Int) H' => 0 ≤ i ∧ i ≤ xs.length ∧ H' = H ∧ ∀ (j : Nat) (t u : PT), (j : Int) < i → ts[j]? = some t → us[j]? = some u → eqT t u = true) (fun i => (xs.length - i).toNat) ⟨by omega, by omega, rfl, fun j t u hj => by omega⟩ ?_
  rintro i H1 next ⟨i0, i1, rfl, hi⟩ hn
  unfold j7
  refine ⟨fun hc => ?_, fun hc => ?_⟩
  · obtain ⟨x, hxi, hE⟩ := hx.get i0 hc
    obtain ⟨y, hyi, hF⟩ := hy.get i0 (show i < (sy.n : Int) by omega)
    obtain ⟨t, ht⟩ := A8 (l := ts) (i := i.toNat) (by have := t6 hxi; omega)
    obtain ⟨u, hu⟩ := A8 (l := us) (i := i.toNat) (by have := t6 hyi; omega)
    refine ⟨i0, hc, x, hE, i0, by omega, y, hF, ih _ x y t u hxi hyi ht hu _ ⟨fun hq => ?_, fun hq => ?_⟩⟩
    · have : eqT t u = false := by simpa using hq
      rw [a4r ht hu this] at h; exact h
    · have he' : eqT t u = true := by simpa using hq
      rw [y6 i0 (by simp only [big] at hb; omega)]
      refine hn _ _ ⟨by omega, by omega, rfl, fun j t' u' hj ht' hu' => ?_⟩ (by omega)
      by_cases ej : j = i.toNat
      · subst ej
        rw [ht] at ht'; cases ht'
        rw [hu] at hu'; cases hu'
        exact he'
      · exact hi j t' u' (by omega) ht' hu'
  · have : eqTs ts us = true := b2N (by omega) fun j t u ht hu => hi j t u (by have := t6 ht; omega) ht hu
    rw [this] at h; exact h
theorem b5p {e e' : h7} {t t' : PT} (he : EH H e t) (he' : EH H e' t') {K : Bool → Hp → Prop} (h : K (eqT t t') H) : a0F e e' H K := by
  induction he generalizing e' t' K with
  | @mk e xs ts hs hb hl _ ih =>
    cases he' with
    | @mk _ xs' ts' hs' hb' hl' hr' =>
      refine b0w _ _ ?_
      unfold a0I
      refine a1j (eqTs ts ts') (fun _ K' hk => b2O hs hs' hb hl hl' (fun i x y t u hx hy ht hu K hK => ih i x t hx ht (hr' i y u hy hu) hK) hk) ?_
      rw [c2B] at h
      generalize (decide (e.d4 = e'.d4) && decide (e.F9 = e'.F9) && decide (e.d8 = e'.d8)) = q at h ⊢
      generalize eqTs ts ts' = a at h ⊢
      cases q <;> cases a <;> exact h
theorem c3B {e e' : g9} {t t' : PT} (he : CH H e t) (he' : CH H e' t') {K : Bool → Hp → Prop} (h : K (eqT t t') H) : a0G e e' H K := by
  induction he generalizing e' t' K with
  | @mk e xs ts ys us hs hb hr hc hcb hcl _ ih =>
    cases he' with
    | @mk _ xs' ts' ys' us' hs' hb' hr' hc' hcb' hcl' hcr' =>
      refine b0B _ _ ?_
      unfold a0J
      refine a1j (eqTs ts ts') (fun _ K' hk => b2O hs hs' hb hr.1 hr'.1 (fun i x y t u hx hy ht hu K hK => b5p (hr.2 i x t hx ht) (hr'.2 i y u hy hu) hK) hk) ?_
      refine a1j (eqTs us us') (fun _ K' hk => b7o hc hc' hcb hcl hcl' (fun i x y t u hx hy ht hu K hK => ih i x t hx ht (hcr' i y u hy hu) hK) hk) ?_
      rw [c2C] at h
      generalize (decide (e.d4 = e'.d4) && decide (e.fOp = e'.fOp)) = q at h ⊢
      generalize eqTs ts ts' = a at h ⊢
      generalize eqTs us us' = b at h ⊢
      cases q <;> cases a <;> cases b <;> exact h
theorem c3C {e e' : g8} {t t' : PT} (he : SH H e t) (he' : SH H e' t') {K : Bool → Hp → Prop} (h : K (eqT t t') H) : a0H e e' H K := by
  induction he generalizing e' t' K with
  | @mk e xs ts ys us zs bs vs ws hs hb hr hc hcb hcr ha hab hal _ hbs hbb hbl _ iha ihb =>
    cases he' with
    | @mk _ xs' ts' ys' us' zs' bs' vs' ws' hs' hb' hr' hc' hcb' hcr' ha' hab' hal' har' hbs' hbb' hbl' hbr' =>
      refine b0F _ _ ?_
      unfold a0L
      refine a1j (eqTs ts ts') (fun _ K' hk => b2O hs hs' hb hr.1 hr'.1 (fun i x y t u hx hy ht hu K hK => b5p (hr.2 i x t hx ht) (hr'.2 i y u hy hu) hK) hk) ?_
      refine a1j (eqTs us us') (fun _ K' hk => b7o hc hc' hcb hcr.1 hcr'.1 (fun i x y t u hx hy ht hu K hK => c3B (hcr.2 i x t hx ht) (hcr'.2 i y u hy hu) hK) hk) ?_
      refine a1j (eqTs vs vs') (fun _ K' hk => b2P ha ha' hab hal hal' (fun i x y t u hx hy ht hu K hK => iha i x t hx ht (har' i y u hy hu) hK) hk) ?_
      refine a1j (eqTs ws ws') (fun _ K' hk => b2P hbs hbs' hbb hbl hbl' (fun i x y t u hx hy ht hu K hK => ihb i x t hx ht (hbr' i y u hy hu) hK) hk) ?_
      rw [c2D] at h
      generalize (decide (e.d4 = e'.d4) && decide (e.d8 = e'.d8)) = q at h ⊢
      generalize eqTs ts ts' = a at h ⊢
      generalize eqTs us us' = b at h ⊢
      generalize eqTs vs vs' = c at h ⊢
      generalize eqTs ws ws' = d at h ⊢
      cases q <;> cases a <;> cases b <;> cases c <;> cases d <;> exact h
theorem c2E {sx sy : Sl} {xs ys : List A4} (hx : SlH H 2 k8 sx xs) (hy : SlH H 2 k8 sy ys) (hb : xs.length ≤ big) {K : Bool → Hp → Prop} (h : (xs = ys → K true H) ∧ (xs ≠ ys → K false H)) : A6 sx sy H K := by
  refine a2b _ _ ?_
  unfold D9
  have n1 := hx.1; have n2 := hy.1
  refine ⟨fun hne => h.2 fun e => by subst e; omega, fun he => ?_⟩
  refine Z7 (fun (i : Int) H' => 0 ≤ i ∧ i ≤ xs.length ∧ H' = H ∧ ∀ (j : Nat) (t u : A4), (j : Int) < i → xs[j]? = some t → ys[j]? = some u → t = u) (fun i => (xs.length - i).toNat) ⟨by omega, by omega, rfl, fun j t u hj => by omega⟩ ?_
  rintro i H1 next ⟨i0, i1, rfl, hi⟩ hn
  unfold C6
  refine ⟨fun hc => ?_, fun hc => ?_⟩
  · obtain ⟨x, hxi, hE⟩ := hx.get i0 hc
    obtain ⟨y, hyi, hF⟩ := hy.get i0 (show i < (sy.n : Int) by omega)
    refine ⟨i0, hc, x, hE, i0, by omega, y, hF, fun hq => h.2 fun e => ?_, fun hq => ?_⟩
    · subst e; rw [hxi] at hyi; cases hyi; exact hq ⟨rfl, rfl⟩
    · rw [y6 i0 (by simp only [big] at hb; omega)]
      refine hn _ _ ⟨by omega, by omega, rfl, fun j t' u' hj ht' hu' => ?_⟩ (by omega)
      by_cases ej : j = i.toNat
      · subst ej
        rw [hxi] at ht'; cases ht'
        rw [hyi] at hu'; cases hu'
        cases x; cases y; simp_all
      · exact hi j t' u' (by omega) ht' hu'
  · exact h.1 (b7I (by omega) fun j t u ht hu => hi j t u (by have := t6 ht; omega) ht hu)
end
end Go.Proofs.YthldnpmfelniiaaDoor
