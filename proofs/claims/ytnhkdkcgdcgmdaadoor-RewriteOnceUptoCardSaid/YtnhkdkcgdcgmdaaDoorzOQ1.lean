/- Trees: plain ones, how they lie in the frozen heap; whether two are the same, by the program and by the document. Contracts off the printed formulas. -/
import Derived.Test.YtnhkdkcgdcgmdaaDoorzOB
import Derived.Test.YtnhkdkcgdcgmdaaDoorzOV1a
import Derived.Test.YtnhkdkcgdcgmdaaDoorzOV1b
import Derived.Test.YtnhkdkcgdcgmdaaDoorzOV1c
import Derived.Test.YtnhkdkcgdcgmdaaDoorzOV1d
namespace Go.Proofs.YtnhkdkcgdcgmdaaDoor
open Go.RowKit
set_option maxRecDepth 100000
set_option maxHeartbeats 2000000
inductive Lab where
  | decl (size : Int) (name : ByteArray)
  | stmt (kind : Int) (name : ByteArray) (e c t f : Nat)
  | cond (kind op : Int) (e p : Nat)
  | expr (kind num : Int) (name : ByteArray) (n : Nat)
inductive PT where
  | mk (l : Lab) (cs : List PT)
def PT.lab : PT → Lab | .mk l _ => l
def PT.kids : PT → List PT | .mk _ cs => cs
abbrev big : Nat := 1099511627776
inductive EH (H : Hp) : b5 → PT → Prop
  | mk {e : b5} {xs : List b5} {ts : List PT} : SlH H 4 b6 e.m7 xs → xs.length ≤ big → xs.length = ts.length → (∀ (i : Nat) (x : b5) (t : PT), xs[i]? = some x → ts[i]? = some t → EH H x t) → EH H e (.mk (.expr e.a8 e.o2 e.b7 ts.length) ts)
inductive CH (H : Hp) : b8 → PT → Prop
  | mk {c : b8} {xs : List b5} {ts : List PT} {ys : List b8} {us : List PT} : SlH H 4 b6 c.g8 xs → xs.length ≤ big → u4 (EH H) xs ts → SlH H 4 d5 c.q8 ys → ys.length ≤ big → ys.length = us.length → (∀ (i : Nat) (x : b8) (t : PT), ys[i]? = some x → us[i]? = some t → CH H x t) → CH H c (.mk (.cond c.a8 c.fOp ts.length us.length) (ts ++ us))
inductive SH (H : Hp) : b9 → PT → Prop
  | mk {s : b9} {xs : List b5} {ts : List PT} {ys : List b8} {us : List PT} {zs bs : List b9} {vs ws : List PT} : SlH H 4 b6 s.g8 xs → xs.length ≤ big → u4 (EH H) xs ts → SlH H 4 d5 s.o9 ys → ys.length ≤ big → u4 (CH H) ys us →
      SlH H 6 d8 s.v6 zs → zs.length ≤ big → zs.length = vs.length → (∀ (i : Nat) (x : b9) (t : PT), zs[i]? = some x → vs[i]? = some t → SH H x t) →
      SlH H 6 d8 s.t7 bs → bs.length ≤ big → bs.length = ws.length → (∀ (i : Nat) (x : b9) (t : PT), bs[i]? = some x → ws[i]? = some t → SH H x t) →
      SH H s (.mk (.stmt s.a8 s.b7 ts.length us.length vs.length ws.length) (us ++ (ts ++ (vs ++ ws))))
theorem EH.le {H H' : Hp} (l : Hle H H') {e : b5} {t : PT} (h : EH H e t) : EH H' e t := by
  induction h with
  | mk hs hb hl _ ih => exact .mk (hs.le l) hb hl ih
theorem CH.le {H H' : Hp} (l : Hle H H') {e : b8} {t : PT} (h : CH H e t) : CH H' e t := by
  induction h with
  | mk hs hb hr hy hc hl _ ih => exact .mk (hs.le l) hb (hr.mono fun _ _ => EH.le l) (hy.le l) hc hl ih
theorem SH.le {H H' : Hp} (l : Hle H H') {e : b9} {t : PT} (h : SH H e t) : SH H' e t := by
  induction h with
  | mk hs hb hr hy hc hrc ha hab hal _ hbs hbb hbl _ ih1 ih2 => exact .mk (hs.le l) hb (hr.mono fun _ _ => EH.le l) (hy.le l) hc (hrc.mono fun _ _ => CH.le l) (ha.le l) hab hal ih1 (hbs.le l) hbb hbl ih2
structure PP where
  decls : List t1
  body : List PT
structure PH (H : Hp) (p : j6) (q : PP) : Prop where
  d : SlH H 2 p6 p.T9 q.decls
  bd : q.decls.length ≤ big
  b : ∃ xs, SlH H 6 d8 p.a1y xs ∧ xs.length ≤ big ∧ u4 (SH H) xs q.body
theorem PH.le {H H' : Hp} {p : j6} {q : PP} (h : PH H p q) (l : Hle H H') : PH H' p q := by
  obtain ⟨a, b, xs, c, d, e⟩ := h
  exact ⟨a.le l, b, xs, c.le l, d, e.mono fun _ _ => SH.le l⟩
open Classical in
noncomputable def eqT (a b : PT) : Bool := decide (a = b)
open Classical in
noncomputable def eqTs (a b : List PT) : Bool := decide (a = b)
theorem b9U {a b : PT} : eqT a b = true ↔ a = b := by unfold eqT; simp
theorem b2U {a b : List PT} : eqTs a b = true ↔ a = b := by unfold eqTs; simp
theorem f3Y {a b : PT} : eqT a b = false ↔ a ≠ b := by unfold eqT; simp
theorem d1K {a b : List PT} : eqTs a b = false ↔ a ≠ b := by unfold eqTs; simp
theorem c1N {a b : List PT} (h : a.length ≠ b.length) : eqTs a b = false := d1K.2 fun e => h (by rw [e])
theorem c5m {a b : List PT} {i : Nat} {x y : PT} (ha : a[i]? = some x) (hb : b[i]? = some y) (h : eqT x y = false) : eqTs a b = false := d1K.2 fun e => by
  rw [e, hb] at ha; cases ha; exact f3Y.1 h rfl
theorem c1O {a b : List PT} (hl : a.length = b.length) (h : ∀ (i : Nat) (x y : PT), a[i]? = some x → b[i]? = some y → eqT x y = true) : eqTs a b = true := b2U.2 (d1x hl fun i x y ha hb => b9U.1 (h i x y ha hb))
theorem e0N {k n : Int} {s : ByteArray} {ts : List PT} {k' n' : Int} {s' : ByteArray} {ts' : List PT} : eqT (.mk (.expr k n s ts.length) ts) (.mk (.expr k' n' s' ts'.length) ts') = (decide (k = k') && decide (n = n') && decide (s = s') && eqTs ts ts') := by
  rw [Bool.eq_iff_iff, b9U]
  simp only [Bool.and_eq_true, decide_eq_true_eq, b2U, PT.mk.injEq, Lab.expr.injEq]
  constructor
  · rintro ⟨⟨rfl, rfl, rfl, _⟩, rfl⟩; exact ⟨⟨⟨rfl, rfl⟩, rfl⟩, rfl⟩
  · rintro ⟨⟨⟨rfl, rfl⟩, rfl⟩, rfl⟩; exact ⟨⟨rfl, rfl, rfl, rfl⟩, rfl⟩
theorem e0O {k n : Int} {ts us : List PT} {k' n' : Int} {ts' us' : List PT} : eqT (.mk (.cond k n ts.length us.length) (ts ++ us)) (.mk (.cond k' n' ts'.length us'.length) (ts' ++ us')) = (decide (k = k') && decide (n = n') && eqTs ts ts' && eqTs us us') := by
  rw [Bool.eq_iff_iff, b9U]
  simp only [Bool.and_eq_true, decide_eq_true_eq, b2U, PT.mk.injEq, Lab.cond.injEq]
  constructor
  · rintro ⟨⟨rfl, rfl, h1, h2⟩, h⟩
    obtain ⟨rfl, rfl⟩ := List.append_inj h h1
    exact ⟨⟨⟨rfl, rfl⟩, rfl⟩, rfl⟩
  · rintro ⟨⟨⟨rfl, rfl⟩, rfl⟩, rfl⟩; exact ⟨⟨rfl, rfl, rfl, rfl⟩, rfl⟩
theorem e0P {k : Int} {s : ByteArray} {ts us vs ws : List PT} {k' : Int} {s' : ByteArray} {ts' us' vs' ws' : List PT} : eqT (.mk (.stmt k s ts.length us.length vs.length ws.length) (us ++ (ts ++ (vs ++ ws)))) (.mk (.stmt k' s' ts'.length us'.length vs'.length ws'.length) (us' ++ (ts' ++ (vs' ++ ws')))) = (decide (k = k') && decide (s = s') && eqTs ts ts' && eqTs us us' && eqTs vs vs' && eqTs ws ws') := by
  rw [Bool.eq_iff_iff, b9U]
  simp only [Bool.and_eq_true, decide_eq_true_eq, b2U, PT.mk.injEq, Lab.stmt.injEq]
  constructor
  · rintro ⟨⟨rfl, rfl, h1, h2, h3, h4⟩, h⟩
    obtain ⟨e1, h5⟩ := List.append_inj h h2
    obtain ⟨e2, h6⟩ := List.append_inj h5 h1
    obtain ⟨e3, e4⟩ := List.append_inj h6 h3
    subst e1; subst e2; subst e3; subst e4
    exact ⟨⟨⟨⟨⟨rfl, rfl⟩, rfl⟩, rfl⟩, rfl⟩, rfl⟩
  · rintro ⟨⟨⟨⟨⟨rfl, rfl⟩, rfl⟩, rfl⟩, rfl⟩, rfl⟩; exact ⟨⟨rfl, rfl, rfl, rfl, rfl, rfl⟩, rfl⟩
section
variable {H : Hp}
theorem b6X {sx sy : Sl} {xs ys : List b5} {ts us : List PT} (hx : SlH H 4 b6 sx xs) (hy : SlH H 4 b6 sy ys) (hb : xs.length ≤ big) (hl : xs.length = ts.length) (hl' : ys.length = us.length)
    (ih : ∀ (i : Nat) (x y : b5) (t u : PT), xs[i]? = some x → ys[i]? = some y → ts[i]? = some t → us[i]? = some u → ∀ K : Bool → Hp → Prop, K (eqT t u) H → a2s x y H K) {K : Bool → Hp → Prop} (h : K (eqTs ts us) H) : o6 sx sy H K := by
  refine M6 _ _ ?_
  unfold r5
  have n1 := hx.1; have n2 := hy.1
  refine ⟨fun hne => ?_, fun he => ?_⟩
  · rw [c1N (by omega)] at h; exact h
  refine a0O (fun (i : Int) H' => 0 ≤ i ∧ i ≤ xs.length ∧ H' = H ∧ ∀ (j : Nat) (t u : PT), (j : Int) < i → ts[j]? = some t → us[j]? = some u → eqT t u = true) (fun i => (xs.length - i).toNat) ⟨by omega, by omega, rfl, fun j t u hj => by omega⟩ ?_
  rintro i H1 next ⟨i0, i1, rfl, hi⟩ hn
  unfold p8
  refine ⟨fun hc => ?_, fun hc => ?_⟩
  · obtain ⟨x, hxi, hE⟩ := hx.get i0 hc
    obtain ⟨y, hyi, hF⟩ := hy.get i0 (show i < (sy.n : Int) by omega)
    obtain ⟨t, ht⟩ := O2 (l := ts) (i := i.toNat) (by have := J0 hxi; omega)
    obtain ⟨u, hu⟩ := O2 (l := us) (i := i.toNat) (by have := J0 hyi; omega)
    refine ⟨i0, hc, x, hE, i0, by omega, y, hF, ih _ x y t u hxi hyi ht hu _ ⟨fun hq => ?_, fun hq => ?_⟩⟩
    · have : eqT t u = false := by simpa using hq
      rw [c5m ht hu this] at h; exact h
    · have he' : eqT t u = true := by simpa using hq
      rw [P6 i0 (by simp only [big] at hb; omega)]
      refine hn _ _ ⟨by omega, by omega, rfl, fun j t' u' hj ht' hu' => ?_⟩ (by omega)
      by_cases ej : j = i.toNat
      · subst ej
        rw [ht] at ht'; cases ht'
        rw [hu] at hu'; cases hu'
        exact he'
      · exact hi j t' u' (by omega) ht' hu'
  · have : eqTs ts us = true := c1O (by omega) fun j t u ht hu => hi j t u (by have := J0 ht; omega) ht hu
    rw [this] at h; exact h
theorem c3m {sx sy : Sl} {xs ys : List b8} {ts us : List PT} (hx : SlH H 4 d5 sx xs) (hy : SlH H 4 d5 sy ys) (hb : xs.length ≤ big) (hl : xs.length = ts.length) (hl' : ys.length = us.length)
    (ih : ∀ (i : Nat) (x y : b8) (t u : PT), xs[i]? = some x → ys[i]? = some y → ts[i]? = some t → us[i]? = some u → ∀ K : Bool → Hp → Prop, K (eqT t u) H → a2t x y H K) {K : Bool → Hp → Prop} (h : K (eqTs ts us) H) : j9 sx sy H K := by
  refine M7 _ _ ?_
  unfold r6
  have n1 := hx.1; have n2 := hy.1
  refine ⟨fun hne => ?_, fun he => ?_⟩
  · rw [c1N (by omega)] at h; exact h
  refine a0O (fun (i : Int) H' => 0 ≤ i ∧ i ≤ xs.length ∧ H' = H ∧ ∀ (j : Nat) (t u : PT), (j : Int) < i → ts[j]? = some t → us[j]? = some u → eqT t u = true) (fun i => (xs.length - i).toNat) ⟨by omega, by omega, rfl, fun j t u hj => by omega⟩ ?_
  rintro i H1 next ⟨i0, i1, rfl, hi⟩ hn
  unfold p9
  refine ⟨fun hc => ?_, fun hc => ?_⟩
  · obtain ⟨x, hxi, hE⟩ := hx.get i0 hc
    obtain ⟨y, hyi, hF⟩ := hy.get i0 (show i < (sy.n : Int) by omega)
    obtain ⟨t, ht⟩ := O2 (l := ts) (i := i.toNat) (by have := J0 hxi; omega)
    obtain ⟨u, hu⟩ := O2 (l := us) (i := i.toNat) (by have := J0 hyi; omega)
    refine ⟨i0, hc, x, hE, i0, by omega, y, hF, ih _ x y t u hxi hyi ht hu _ ⟨fun hq => ?_, fun hq => ?_⟩⟩
    · have : eqT t u = false := by simpa using hq
      rw [c5m ht hu this] at h; exact h
    · have he' : eqT t u = true := by simpa using hq
      rw [P6 i0 (by simp only [big] at hb; omega)]
      refine hn _ _ ⟨by omega, by omega, rfl, fun j t' u' hj ht' hu' => ?_⟩ (by omega)
      by_cases ej : j = i.toNat
      · subst ej
        rw [ht] at ht'; cases ht'
        rw [hu] at hu'; cases hu'
        exact he'
      · exact hi j t' u' (by omega) ht' hu'
  · have : eqTs ts us = true := c1O (by omega) fun j t u ht hu => hi j t u (by have := J0 ht; omega) ht hu
    rw [this] at h; exact h
theorem b6Y {sx sy : Sl} {xs ys : List b9} {ts us : List PT} (hx : SlH H 6 d8 sx xs) (hy : SlH H 6 d8 sy ys) (hb : xs.length ≤ big) (hl : xs.length = ts.length) (hl' : ys.length = us.length)
    (ih : ∀ (i : Nat) (x y : b9) (t u : PT), xs[i]? = some x → ys[i]? = some y → ts[i]? = some t → us[i]? = some u → ∀ K : Bool → Hp → Prop, K (eqT t u) H → a2u x y H K) {K : Bool → Hp → Prop} (h : K (eqTs ts us) H) : d9 sx sy H K := by
  refine M8 _ _ ?_
  unfold r7
  have n1 := hx.1; have n2 := hy.1
  refine ⟨fun hne => ?_, fun he => ?_⟩
  · rw [c1N (by omega)] at h; exact h
  refine a0O (fun (i : Int) H' => 0 ≤ i ∧ i ≤ xs.length ∧ H' = H ∧ ∀ (j : Nat) (t u : PT), (j : Int) < i → ts[j]? = some t → us[j]? = some u → eqT t u = true) (fun i => (xs.length - i).toNat) ⟨by omega, by omega, rfl, fun j t u hj => by omega⟩ ?_
  rintro i H1 next ⟨i0, i1, rfl, hi⟩ hn
  unfold q7
  refine ⟨fun hc => ?_, fun hc => ?_⟩
  · obtain ⟨x, hxi, hE⟩ := hx.get i0 hc
    obtain ⟨y, hyi, hF⟩ := hy.get i0 (show i < (sy.n : Int) by omega)
    obtain ⟨t, ht⟩ := O2 (l := ts) (i := i.toNat) (by have := J0 hxi; omega)
    obtain ⟨u, hu⟩ := O2 (l := us) (i := i.toNat) (by have := J0 hyi; omega)
    refine ⟨i0, hc, x, hE, i0, by omega, y, hF, ih _ x y t u hxi hyi ht hu _ ⟨fun hq => ?_, fun hq => ?_⟩⟩
    · have : eqT t u = false := by simpa using hq
      rw [c5m ht hu this] at h; exact h
    · have he' : eqT t u = true := by simpa using hq
      rw [P6 i0 (by simp only [big] at hb; omega)]
      refine hn _ _ ⟨by omega, by omega, rfl, fun j t' u' hj ht' hu' => ?_⟩ (by omega)
      by_cases ej : j = i.toNat
      · subst ej
        rw [ht] at ht'; cases ht'
        rw [hu] at hu'; cases hu'
        exact he'
      · exact hi j t' u' (by omega) ht' hu'
  · have : eqTs ts us = true := c1O (by omega) fun j t u ht hu => hi j t u (by have := J0 ht; omega) ht hu
    rw [this] at h; exact h
theorem c0M {e e' : b5} {t t' : PT} (he : EH H e t) (he' : EH H e' t') {K : Bool → Hp → Prop} (h : K (eqT t t') H) : a2s e e' H K := by
  induction he generalizing e' t' K with
  | @mk e xs ts hs hb hl _ ih =>
    cases he' with
    | @mk _ xs' ts' hs' hb' hl' hr' =>
      refine b4N _ _ ?_
      unfold a2z
      refine a2Q (eqTs ts ts') (fun _ K' hk => b6X hs hs' hb hl hl' (fun i x y t u hx hy ht hu K hK => ih i x t hx ht (hr' i y u hy hu) hK) hk) ?_
      rw [e0N] at h
      generalize (decide (e.a8 = e'.a8) && decide (e.o2 = e'.o2) && decide (e.b7 = e'.b7)) = q at h ⊢
      generalize eqTs ts ts' = a at h ⊢
      cases q <;> cases a <;> exact h
theorem d1e {e e' : b8} {t t' : PT} (he : CH H e t) (he' : CH H e' t') {K : Bool → Hp → Prop} (h : K (eqT t t') H) : a2t e e' H K := by
  induction he generalizing e' t' K with
  | @mk e xs ts ys us hs hb hr hc hcb hcl _ ih =>
    cases he' with
    | @mk _ xs' ts' ys' us' hs' hb' hr' hc' hcb' hcl' hcr' =>
      refine b4K _ _ ?_
      unfold a2x
      refine a2Q (eqTs ts ts') (fun _ K' hk => b6X hs hs' hb hr.1 hr'.1 (fun i x y t u hx hy ht hu K hK => c0M (hr.2 i x t hx ht) (hr'.2 i y u hy hu) hK) hk) ?_
      refine a2Q (eqTs us us') (fun _ K' hk => c3m hc hc' hcb hcl hcl' (fun i x y t u hx hy ht hu K hK => ih i x t hx ht (hcr' i y u hy hu) hK) hk) ?_
      rw [e0O] at h
      generalize (decide (e.a8 = e'.a8) && decide (e.fOp = e'.fOp)) = q at h ⊢
      generalize eqTs ts ts' = a at h ⊢
      generalize eqTs us us' = b at h ⊢
      cases q <;> cases a <;> cases b <;> exact h
theorem d1f {e e' : b9} {t t' : PT} (he : SH H e t) (he' : SH H e' t') {K : Bool → Hp → Prop} (h : K (eqT t t') H) : a2u e e' H K := by
  induction he generalizing e' t' K with
  | @mk e xs ts ys us zs bs vs ws hs hb hr hc hcb hcr ha hab hal _ hbs hbb hbl _ iha ihb =>
    cases he' with
    | @mk _ xs' ts' ys' us' zs' bs' vs' ws' hs' hb' hr' hc' hcb' hcr' ha' hab' hal' har' hbs' hbb' hbl' hbr' =>
      refine b4H _ _ ?_
      unfold a2w
      refine a2Q (eqTs ts ts') (fun _ K' hk => b6X hs hs' hb hr.1 hr'.1 (fun i x y t u hx hy ht hu K hK => c0M (hr.2 i x t hx ht) (hr'.2 i y u hy hu) hK) hk) ?_
      refine a2Q (eqTs us us') (fun _ K' hk => c3m hc hc' hcb hcr.1 hcr'.1 (fun i x y t u hx hy ht hu K hK => d1e (hcr.2 i x t hx ht) (hcr'.2 i y u hy hu) hK) hk) ?_
      refine a2Q (eqTs vs vs') (fun _ K' hk => b6Y ha ha' hab hal hal' (fun i x y t u hx hy ht hu K hK => iha i x t hx ht (har' i y u hy hu) hK) hk) ?_
      refine a2Q (eqTs ws ws') (fun _ K' hk => b6Y hbs hbs' hbb hbl hbl' (fun i x y t u hx hy ht hu K hK => ihb i x t hx ht (hbr' i y u hy hu) hK) hk) ?_
      rw [e0P] at h
      generalize (decide (e.a8 = e'.a8) && decide (e.b7 = e'.b7)) = q at h ⊢
      generalize eqTs ts ts' = a at h ⊢
      generalize eqTs us us' = b at h ⊢
      generalize eqTs vs vs' = c at h ⊢
      generalize eqTs ws ws' = d at h ⊢
      cases q <;> cases a <;> cases b <;> cases c <;> cases d <;> exact h
theorem c9j {sx sy : Sl} {xs ys : List t1} (hx : SlH H 2 p6 sx xs) (hy : SlH H 2 p6 sy ys) (hb : xs.length ≤ big) {K : Bool → Hp → Prop} (h : (xs = ys → K true H) ∧ (xs ≠ ys → K false H)) : F1 sx sy H K := by
  refine a4F _ _ ?_
  unfold K9
  have n1 := hx.1; have n2 := hy.1
  refine ⟨fun hne => h.2 fun e => by subst e; omega, fun he => ?_⟩
  refine a0O (fun (i : Int) H' => 0 ≤ i ∧ i ≤ xs.length ∧ H' = H ∧ ∀ (j : Nat) (t u : t1), (j : Int) < i → xs[j]? = some t → ys[j]? = some u → t = u) (fun i => (xs.length - i).toNat) ⟨by omega, by omega, rfl, fun j t u hj => by omega⟩ ?_
  rintro i H1 next ⟨i0, i1, rfl, hi⟩ hn
  unfold J7
  refine ⟨fun hc => ?_, fun hc => ?_⟩
  · obtain ⟨x, hxi, hE⟩ := hx.get i0 hc
    obtain ⟨y, hyi, hF⟩ := hy.get i0 (show i < (sy.n : Int) by omega)
    refine ⟨i0, hc, x, hE, i0, by omega, y, hF, fun hq => h.2 fun e => ?_, fun hq => ?_⟩
    · subst e; rw [hxi] at hyi; cases hyi; exact hq ⟨rfl, rfl⟩
    · rw [P6 i0 (by simp only [big] at hb; omega)]
      refine hn _ _ ⟨by omega, by omega, rfl, fun j t' u' hj ht' hu' => ?_⟩ (by omega)
      by_cases ej : j = i.toNat
      · subst ej
        rw [hxi] at ht'; cases ht'
        rw [hyi] at hu'; cases hu'
        cases x; cases y; simp_all
      · exact hi j t' u' (by omega) ht' hu'
  · exact h.1 (d1x (by omega) fun j t u ht hu => hi j t u (by have := J0 ht; omega) ht hu)
end
end Go.Proofs.YtnhkdkcgdcgmdaaDoor
