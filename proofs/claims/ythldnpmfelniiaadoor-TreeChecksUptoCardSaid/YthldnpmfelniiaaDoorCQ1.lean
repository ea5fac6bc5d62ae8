/- Trees: plain ones, how they lie in the frozen heap; whether two are the same, by the program and by the document. Contracts off the printed formulas. -/
import Derived.Test.YthldnpmfelniiaaDoorCB
import Derived.Test.YthldnpmfelniiaaDoorCV1a
import Derived.Test.YthldnpmfelniiaaDoorCV1b
import Derived.Test.YthldnpmfelniiaaDoorCV1c
import Derived.Test.YthldnpmfelniiaaDoorCV1d
namespace Go.Proofs.YthldnpmfelniiaaDoor
open Go.RowKit
set_option maxRecDepth 100000
set_option maxHeartbeats 2000000
inductive Lab where
  | decl (size : Int) (name : ByteArray)
  | stmt (kind : Int) (name : ByteArray) (e c t f : Nat)
  | cond (kind op : Int) (e p : Nat)
  | expr (kind num : Int) (name : ByteArray) (n : Nat)
inductive PT where
  | mk (l : Lab) (cs : List PT)
def PT.lab : PT → Lab | .mk l _ => l
def PT.kids : PT → List PT | .mk _ cs => cs
abbrev big : Nat := 1099511627776
inductive EH (H : Hp) : h9 → PT → Prop
  | mk {e : h9} {xs : List h9} {ts : List PT} : SlH H 4 f4 e.t1 xs → xs.length ≤ big → xs.length = ts.length → (∀ (i : Nat) (x : h9) (t : PT), xs[i]? = some x → ts[i]? = some t → EH H x t) → EH H e (.mk (.expr e.b9 e.I3 e.g7 ts.length) ts)
inductive CH (H : Hp) : k4 → PT → Prop
  | mk {c : k4} {xs : List h9} {ts : List PT} {ys : List k4} {us : List PT} : SlH H 4 f4 c.f9 xs → xs.length ≤ big → E4 (EH H) xs ts → SlH H 4 f7 c.o5 ys → ys.length ≤ big → ys.length = us.length → (∀ (i : Nat) (x : k4) (t : PT), ys[i]? = some x → us[i]? = some t → CH H x t) → CH H c (.mk (.cond c.b9 c.fOp ts.length us.length) (ts ++ us))
inductive SH (H : Hp) : i4 → PT → Prop
  | mk {s : i4} {xs : List h9} {ts : List PT} {ys : List k4} {us : List PT} {zs bs : List i4} {vs ws : List PT} : SlH H 4 f4 s.f9 xs → xs.length ≤ big → E4 (EH H) xs ts → SlH H 4 f7 s.k3 ys → ys.length ≤ big → E4 (CH H) ys us →
      SlH H 6 d5 s.u0 zs → zs.length ≤ big → zs.length = vs.length → (∀ (i : Nat) (x : i4) (t : PT), zs[i]? = some x → vs[i]? = some t → SH H x t) →
      SlH H 6 d5 s.s7 bs → bs.length ≤ big → bs.length = ws.length → (∀ (i : Nat) (x : i4) (t : PT), bs[i]? = some x → ws[i]? = some t → SH H x t) →
      SH H s (.mk (.stmt s.b9 s.g7 ts.length us.length vs.length ws.length) (us ++ (ts ++ (vs ++ ws))))
theorem EH.le {H H' : Hp} (l : Hle H H') {e : h9} {t : PT} (h : EH H e t) : EH H' e t := by
  induction h with
  | mk hs hb hl _ ih => exact .mk (hs.le l) hb hl ih
theorem CH.le {H H' : Hp} (l : Hle H H') {e : k4} {t : PT} (h : CH H e t) : CH H' e t := by
  induction h with
  | mk hs hb hr hy hc hl _ ih => exact .mk (hs.le l) hb (hr.mono fun _ _ => EH.le l) (hy.le l) hc hl ih
theorem SH.le {H H' : Hp} (l : Hle H H') {e : i4} {t : PT} (h : SH H e t) : SH H' e t := by
  induction h with
  | mk hs hb hr hy hc hrc ha hab hal _ hbs hbb hbl _ ih1 ih2 => exact .mk (hs.le l) hb (hr.mono fun _ _ => EH.le l) (hy.le l) hc (hrc.mono fun _ _ => CH.le l) (ha.le l) hab hal ih1 (hbs.le l) hbb hbl ih2
structure PP where
  decls : List B8
  body : List PT
structure PH (H : Hp) (p : g5) (q : PP) : Prop where
  d : SlH H 2 p7 p.D8 q.decls
  bd : q.decls.length ≤ big
  b : ∃ xs, SlH H 6 d5 p.P1 xs ∧ xs.length ≤ big ∧ E4 (SH H) xs q.body
theorem PH.le {H H' : Hp} {p : g5} {q : PP} (h : PH H p q) (l : Hle H H') : PH H' p q := by
  obtain ⟨a, b, xs, c, d, e⟩ := h
  exact ⟨a.le l, b, xs, c.le l, d, e.mono fun _ _ => SH.le l⟩
open Classical in
noncomputable def eqT (a b : PT) : Bool := decide (a = b)
open Classical in
noncomputable def eqTs (a b : List PT) : Bool := decide (a = b)
theorem b7v {a b : PT} : eqT a b = true ↔ a = b := by unfold eqT; simp
theorem b2b {a b : List PT} : eqTs a b = true ↔ a = b := by unfold eqTs; simp
theorem f1C {a b : PT} : eqT a b = false ↔ a ≠ b := by unfold eqT; simp
theorem c7Z {a b : List PT} : eqTs a b = false ↔ a ≠ b := by unfold eqTs; simp
theorem b9h {a b : List PT} (h : a.length ≠ b.length) : eqTs a b = false := c7Z.2 fun e => h (by rw [e])
theorem c1R {a b : List PT} {i : Nat} {x y : PT} (ha : a[i]? = some x) (hb : b[i]? = some y) (h : eqT x y = false) : eqTs a b = false := c7Z.2 fun e => by
  rw [e, hb] at ha; cases ha; exact f1C.1 h rfl
theorem b9i {a b : List PT} (hl : a.length = b.length) (h : ∀ (i : Nat) (x y : PT), a[i]? = some x → b[i]? = some y → eqT x y = true) : eqTs a b = true := b2b.2 (c7N hl fun i x y ha hb => b7v.1 (h i x y ha hb))
theorem d6B {k n : Int} {s : ByteArray} {ts : List PT} {k' n' : Int} {s' : ByteArray} {ts' : List PT} : eqT (.mk (.expr k n s ts.length) ts) (.mk (.expr k' n' s' ts'.length) ts') = (decide (k = k') && decide (n = n') && decide (s = s') && eqTs ts ts') := by
  rw [Bool.eq_iff_iff, b7v]
  simp only [Bool.and_eq_true, decide_eq_true_eq, b2b, PT.mk.injEq, Lab.expr.injEq]
  constructor
  · rintro ⟨⟨rfl, rfl, rfl, _⟩, rfl⟩; exact ⟨⟨⟨rfl, rfl⟩, rfl⟩, rfl⟩
  · rintro ⟨⟨⟨rfl, rfl⟩, rfl⟩, rfl⟩; exact ⟨⟨rfl, rfl, rfl, rfl⟩, rfl⟩
theorem d6C {k n : Int} {ts us : List PT} {k' n' : Int} {ts' us' : List PT} : eqT (.mk (.cond k n ts.length us.length) (ts ++ us)) (.mk (.cond k' n' ts'.length us'.length) (ts' ++ us')) = (decide (k = k') && decide (n = n') && eqTs ts ts' && eqTs us us') := by
  rw [Bool.eq_iff_iff, b7v]
  simp only [Bool.and_eq_true, decide_eq_true_eq, b2b, PT.mk.injEq, Lab.cond.injEq]
  constructor
  · rintro ⟨⟨rfl, rfl, h1, h2⟩, h⟩
    obtain ⟨rfl, rfl⟩ := List.append_inj h h1
    exact ⟨⟨⟨rfl, rfl⟩, rfl⟩, rfl⟩
  · rintro ⟨⟨⟨rfl, rfl⟩, rfl⟩, rfl⟩; exact ⟨⟨rfl, rfl, rfl, rfl⟩, rfl⟩
theorem d6D {k : Int} {s : ByteArray} {ts us vs ws : List PT} {k' : Int} {s' : ByteArray} {ts' us' vs' ws' : List PT} : eqT (.mk (.stmt k s ts.length us.length vs.length ws.length) (us ++ (ts ++ (vs ++ ws)))) (.mk (.stmt k' s' ts'.length us'.length vs'.length ws'.length) (us' ++ (ts' ++ (vs' ++ ws')))) = (decide (k = k') && decide (s = s') && eqTs ts ts' && eqTs us us' && eqTs vs vs' && eqTs ws ws') := by
  rw [Bool.eq_iff_iff, b7v]
  simp only [Bool.and_eq_true, decide_eq_true_eq, b2b, PT.mk.injEq, Lab.stmt.injEq]
  constructor
  · rintro ⟨⟨rfl, rfl, h1, h2, h3, h4⟩, h⟩
    obtain ⟨e1, h5⟩ := List.append_inj h h2
    obtain ⟨e2, h6⟩ := List.append_inj h5 h1
    obtain ⟨e3, e4⟩ := List.append_inj h6 h3
    subst e1; subst e2; subst e3; subst e4
    exact ⟨⟨⟨⟨⟨rfl, rfl⟩, rfl⟩, rfl⟩, rfl⟩, rfl⟩
  · rintro ⟨⟨⟨⟨⟨rfl, rfl⟩, rfl⟩, rfl⟩, rfl⟩, rfl⟩; exact ⟨⟨rfl, rfl, rfl, rfl, rfl, rfl⟩, rfl⟩
section
variable {H : Hp}
theorem b5g {sx sy : Sl} {xs ys : List h9} {ts us : List PT} (hx : SlH H 4 f4 sx xs) (hy : SlH H 4 f4 sy ys) (hb : xs.length ≤ big) (hl : xs.length = ts.length) (hl' : ys.length = us.length)
    (ih : ∀ (i : Nat) (x y : h9) (t u : PT), xs[i]? = some x → ys[i]? = some y → ts[i]? = some t → us[i]? = some u → ∀ K : Bool → Hp → Prop, K (eqT t u) H → a2m x y H K) {K : Bool → Hp → Prop} (h : K (eqTs ts us) H) : j8 sx sy H K := by
  refine J5 _ _ ?_
  unfold m6
  have n1 := hx.1; have n2 := hy.1
  refine ⟨fun hne => ?_, fun he => ?_⟩
  · rw [b9h (by omega)] at h; exact h
  refine Y4 (fun (i : Int) H' => 0 ≤ i ∧ i ≤ xs.length ∧ H' = H ∧ ∀ (j : Nat) (t u : PT), (j : Int) < i → ts[j]? = some t → us[j]? = some u → eqT t u = true) (fun i => (xs.length - i).toNat) ⟨by omega, by omega, rfl, fun j t u hj => by omega⟩ ?_
  rintro i H1 next ⟨i0, i1, rfl, hi⟩ hn
  unfold m3
  refine ⟨fun hc => ?_, fun hc => ?_⟩
  · obtain ⟨x, hxi, hE⟩ := hx.get i0 hc
    obtain ⟨y, hyi, hF⟩ := hy.get i0 (show i < (sy.n : Int) by omega)
    obtain ⟨t, ht⟩ := E8 (l := ts) (i := i.toNat) (by have := r9 hxi; omega)
    obtain ⟨u, hu⟩ := E8 (l := us) (i := i.toNat) (by have := r9 hyi; omega)
    refine ⟨i0, hc, x, hE, i0, by omega, y, hF, ih _ x y t u hxi hyi ht hu _ ⟨fun hq => ?_, fun hq => ?_⟩⟩
    · have : eqT t u = false := by simpa using hq
      rw [c1R ht hu this] at h; exact h
    · have he' : eqT t u = true := by simpa using hq
      rw [w8 i0 (by simp only [big] at hb; omega)]
      refine hn _ _ ⟨by omega, by omega, rfl, fun j t' u' hj ht' hu' => ?_⟩ (by omega)
      by_cases ej : j = i.toNat
      · subst ej
        rw [ht] at ht'; cases ht'
        rw [hu] at hu'; cases hu'
        exact he'
      · exact hi j t' u' (by omega) ht' hu'
  · have : eqTs ts us = true := b9i (by omega) fun j t u ht hu => hi j t u (by have := r9 ht; omega) ht hu
    rw [this] at h; exact h
theorem c0i {sx sy : Sl} {xs ys : List k4} {ts us : List PT} (hx : SlH H 4 f7 sx xs) (hy : SlH H 4 f7 sy ys) (hb : xs.length ≤ big) (hl : xs.length = ts.length) (hl' : ys.length = us.length)
    (ih : ∀ (i : Nat) (x y : k4) (t u : PT), xs[i]? = some x → ys[i]? = some y → ts[i]? = some t → us[i]? = some u → ∀ K : Bool → Hp → Prop, K (eqT t u) H → a2o x y H K) {K : Bool → Hp → Prop} (h : K (eqTs ts us) H) : h8 sx sy H K := by
  refine J7 _ _ ?_
  unfold m8
  have n1 := hx.1; have n2 := hy.1
  refine ⟨fun hne => ?_, fun he => ?_⟩
  · rw [b9h (by omega)] at h; exact h
  refine Y4 (fun (i : Int) H' => 0 ≤ i ∧ i ≤ xs.length ∧ H' = H ∧ ∀ (j : Nat) (t u : PT), (j : Int) < i → ts[j]? = some t → us[j]? = some u → eqT t u = true) (fun i => (xs.length - i).toNat) ⟨by omega, by omega, rfl, fun j t u hj => by omega⟩ ?_
  rintro i H1 next ⟨i0, i1, rfl, hi⟩ hn
  unfold m5
  refine ⟨fun hc => ?_, fun hc => ?_⟩
  · obtain ⟨x, hxi, hE⟩ := hx.get i0 hc
    obtain ⟨y, hyi, hF⟩ := hy.get i0 (show i < (sy.n : Int) by omega)
    obtain ⟨t, ht⟩ := E8 (l := ts) (i := i.toNat) (by have := r9 hxi; omega)
    obtain ⟨u, hu⟩ := E8 (l := us) (i := i.toNat) (by have := r9 hyi; omega)
    refine ⟨i0, hc, x, hE, i0, by omega, y, hF, ih _ x y t u hxi hyi ht hu _ ⟨fun hq => ?_, fun hq => ?_⟩⟩
    · have : eqT t u = false := by simpa using hq
      rw [c1R ht hu this] at h; exact h
    · have he' : eqT t u = true := by simpa using hq
      rw [w8 i0 (by simp only [big] at hb; omega)]
      refine hn _ _ ⟨by omega, by omega, rfl, fun j t' u' hj ht' hu' => ?_⟩ (by omega)
      by_cases ej : j = i.toNat
      · subst ej
        rw [ht] at ht'; cases ht'
        rw [hu] at hu'; cases hu'
        exact he'
      · exact hi j t' u' (by omega) ht' hu'
  · have : eqTs ts us = true := b9i (by omega) fun j t u ht hu => hi j t u (by have := r9 ht; omega) ht hu
    rw [this] at h; exact h
theorem b5h {sx sy : Sl} {xs ys : List i4} {ts us : List PT} (hx : SlH H 6 d5 sx xs) (hy : SlH H 6 d5 sy ys) (hb : xs.length ≤ big) (hl : xs.length = ts.length) (hl' : ys.length = us.length)
    (ih : ∀ (i : Nat) (x y : i4) (t u : PT), xs[i]? = some x → ys[i]? = some y → ts[i]? = some t → us[i]? = some u → ∀ K : Bool → Hp → Prop, K (eqT t u) H → a2p x y H K) {K : Bool → Hp → Prop} (h : K (eqTs ts us) H) : d4 sx sy H K := by
  refine J6 _ _ ?_
  unfold m7
  have n1 := hx.1; have n2 := hy.1
  refine ⟨fun hne => ?_, fun he => ?_⟩
  · rw [b9h (by omega)] at h; exact h
  refine Y4 (fun (i : Int) H' => 0 ≤ i ∧ i ≤ xs.length ∧ H' = H ∧ ∀ (j : Nat) (t u : PT), (j : Int) < i → ts[j]? = some t → us[j]? = some u → eqT t u = true) (fun i => (xs.length - i).toNat) ⟨by omega, by omega, rfl, fun j t u hj => by omega⟩ ?_
  rintro i H1 next ⟨i0, i1, rfl, hi⟩ hn
  unfold m4
  refine ⟨fun hc => ?_, fun hc => ?_⟩
  · obtain ⟨x, hxi, hE⟩ := hx.get i0 hc
    obtain ⟨y, hyi, hF⟩ := hy.get i0 (show i < (sy.n : Int) by omega)
    obtain ⟨t, ht⟩ := E8 (l := ts) (i := i.toNat) (by have := r9 hxi; omega)
    obtain ⟨u, hu⟩ := E8 (l := us) (i := i.toNat) (by have := r9 hyi; omega)
    refine ⟨i0, hc, x, hE, i0, by omega, y, hF, ih _ x y t u hxi hyi ht hu _ ⟨fun hq => ?_, fun hq => ?_⟩⟩
    · have : eqT t u = false := by simpa using hq
      rw [c1R ht hu this] at h; exact h
    · have he' : eqT t u = true := by simpa using hq
      rw [w8 i0 (by simp only [big] at hb; omega)]
      refine hn _ _ ⟨by omega, by omega, rfl, fun j t' u' hj ht' hu' => ?_⟩ (by omega)
      by_cases ej : j = i.toNat
      · subst ej
        rw [ht] at ht'; cases ht'
        rw [hu] at hu'; cases hu'
        exact he'
      · exact hi j t' u' (by omega) ht' hu'
  · have : eqTs ts us = true := b9i (by omega) fun j t u ht hu => hi j t u (by have := r9 ht; omega) ht hu
    rw [this] at h; exact h
theorem b7W {e e' : h9} {t t' : PT} (he : EH H e t) (he' : EH H e' t') {K : Bool → Hp → Prop} (h : K (eqT t t') H) : a2m e e' H K := by
  induction he generalizing e' t' K with
  | @mk e xs ts hs hb hl _ ih =>
    cases he' with
    | @mk _ xs' ts' hs' hb' hl' hr' =>
      refine b2S _ _ ?_
      unfold a2q
      refine a2k (eqTs ts ts') (fun _ K' hk => b5g hs hs' hb hl hl' (fun i x y t u hx hy ht hu K hK => ih i x t hx ht (hr' i y u hy hu) hK) hk) ?_
      rw [d6B] at h
      generalize (decide (e.b9 = e'.b9) && decide (e.I3 = e'.I3) && decide (e.g7 = e'.g7)) = q at h ⊢
      generalize eqTs ts ts' = a at h ⊢
      cases q <;> cases a <;> exact h
theorem c7y {e e' : k4} {t t' : PT} (he : CH H e t) (he' : CH H e' t') {K : Bool → Hp → Prop} (h : K (eqT t t') H) : a2o e e' H K := by
  induction he generalizing e' t' K with
  | @mk e xs ts ys us hs hb hr hc hcb hcl _ ih =>
    cases he' with
    | @mk _ xs' ts' ys' us' hs' hb' hr' hc' hcb' hcl' hcr' =>
      refine b2Z _ _ ?_
      unfold a2s
      refine a2k (eqTs ts ts') (fun _ K' hk => b5g hs hs' hb hr.1 hr'.1 (fun i x y t u hx hy ht hu K hK => b7W (hr.2 i x t hx ht) (hr'.2 i y u hy hu) hK) hk) ?_
      refine a2k (eqTs us us') (fun _ K' hk => c0i hc hc' hcb hcl hcl' (fun i x y t u hx hy ht hu K hK => ih i x t hx ht (hcr' i y u hy hu) hK) hk) ?_
      rw [d6C] at h
      generalize (decide (e.b9 = e'.b9) && decide (e.fOp = e'.fOp)) = q at h ⊢
      generalize eqTs ts ts' = a at h ⊢
      generalize eqTs us us' = b at h ⊢
      cases q <;> cases a <;> cases b <;> exact h
theorem c7z {e e' : i4} {t t' : PT} (he : SH H e t) (he' : SH H e' t') {K : Bool → Hp → Prop} (h : K (eqT t t') H) : a2p e e' H K := by
  induction he generalizing e' t' K with
  | @mk e xs ts ys us zs bs vs ws hs hb hr hc hcb hcr ha hab hal _ hbs hbb hbl _ iha ihb =>
    cases he' with
    | @mk _ xs' ts' ys' us' zs' bs' vs' ws' hs' hb' hr' hc' hcb' hcr' ha' hab' hal' har' hbs' hbb' hbl' hbr' =>
      refine b3d _ _ ?_
      unfold a2u
      refine a2k (eqTs ts ts') (fun _ K' hk => b5g hs hs' hb hr.1 hr'.1 (fun i x y t u hx hy ht hu K hK => b7W (hr.2 i x t hx ht) (hr'.2 i y u hy hu) hK) hk) ?_
      refine a2k (eqTs us us') (fun _ K' hk => c0i hc hc' hcb hcr.1 hcr'.1 (fun i x y t u hx hy ht hu K hK => c7y (hcr.2 i x t hx ht) (hcr'.2 i y u hy hu) hK) hk) ?_
      refine a2k (eqTs vs vs') (fun _ K' hk => b5h ha ha' hab hal hal' (fun i x y t u hx hy ht hu K hK => iha i x t hx ht (har' i y u hy hu) hK) hk) ?_
      refine a2k (eqTs ws ws') (fun _ K' hk => b5h hbs hbs' hbb hbl hbl' (fun i x y t u hx hy ht hu K hK => ihb i x t hx ht (hbr' i y u hy hu) hK) hk) ?_
      rw [d6D] at h
      generalize (decide (e.b9 = e'.b9) && decide (e.g7 = e'.g7)) = q at h ⊢
      generalize eqTs ts ts' = a at h ⊢
      generalize eqTs us us' = b at h ⊢
      generalize eqTs vs vs' = c at h ⊢
      generalize eqTs ws ws' = d at h ⊢
      cases q <;> cases a <;> cases b <;> cases c <;> cases d <;> exact h
theorem c5D {sx sy : Sl} {xs ys : List B8} (hx : SlH H 2 p7 sx xs) (hy : SlH H 2 p7 sy ys) (hb : xs.length ≤ big) {K : Bool → Hp → Prop} (h : (xs = ys → K true H) ∧ (xs ≠ ys → K false H)) : B9 sx sy H K := by
  refine a3W _ _ ?_
  unfold G3
  have n1 := hx.1; have n2 := hy.1
  refine ⟨fun hne => h.2 fun e => by subst e; omega, fun he => ?_⟩
  refine Y4 (fun (i : Int) H' => 0 ≤ i ∧ i ≤ xs.length ∧ H' = H ∧ ∀ (j : Nat) (t u : B8), (j : Int) < i → xs[j]? = some t → ys[j]? = some u → t = u) (fun i => (xs.length - i).toNat) ⟨by omega, by omega, rfl, fun j t u hj => by omega⟩ ?_
  rintro i H1 next ⟨i0, i1, rfl, hi⟩ hn
  unfold E3
  refine ⟨fun hc => ?_, fun hc => ?_⟩
  · obtain ⟨x, hxi, hE⟩ := hx.get i0 hc
    obtain ⟨y, hyi, hF⟩ := hy.get i0 (show i < (sy.n : Int) by omega)
    refine ⟨i0, hc, x, hE, i0, by omega, y, hF, fun hq => h.2 fun e => ?_, fun hq => ?_⟩
    · subst e; rw [hxi] at hyi; cases hyi; exact hq ⟨rfl, rfl⟩
    · rw [w8 i0 (by simp only [big] at hb; omega)]
      refine hn _ _ ⟨by omega, by omega, rfl, fun j t' u' hj ht' hu' => ?_⟩ (by omega)
      by_cases ej : j = i.toNat
      · subst ej
        rw [hxi] at ht'; cases ht'
        rw [hyi] at hu'; cases hu'
        cases x; cases y; simp_all
      · exact hi j t' u' (by omega) ht' hu'
  · exact h.1 (c7N (by omega) fun j t u ht hu => hi j t u (by have := r9 ht; omega) ht hu)
end
end Go.Proofs.YthldnpmfelniiaaDoor
