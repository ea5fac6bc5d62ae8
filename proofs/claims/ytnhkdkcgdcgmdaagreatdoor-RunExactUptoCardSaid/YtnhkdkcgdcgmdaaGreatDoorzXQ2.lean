/- Trees: plain ones, how they lie in the frozen heap; whether two are the same, by the program and by the document. Contracts off the printed formulas. -/
import Derived.Test.YtnhkdkcgdcgmdaaGreatDoorzXV1a
import Derived.Test.YtnhkdkcgdcgmdaaGreatDoorzXV1b
import Derived.Test.YtnhkdkcgdcgmdaaGreatDoorzXV1c
import Derived.Test.YtnhkdkcgdcgmdaaGreatDoorzXV1d
namespace Go.Proofs.YtnhkdkcgdcgmdaaGreatDoor
open Go.RowKit
set_option maxRecDepth 100000
set_option maxHeartbeats 2000000
inductive Lab where
 | decl (size : Int) (name : ByteArray)
 | stmt (kind : Int) (name : ByteArray) (e c t f : Nat)
 | cond (kind op : Int) (e p : Nat)
 | expr (kind num : Int) (name : ByteArray) (n : Nat)
inductive PT where
 | mk (l : Lab) (cs : List PT)
def PT.lab : PT → Lab | .mk l _ => l
def PT.kids : PT → List PT | .mk _ cs => cs
abbrev big : Nat := 1099511627776
inductive EH (H : Hp) : m2 → PT → Prop
 | mk {e : m2} {xs : List m2} {ts : List PT} : SlH H 4 f4 e.z8 xs → xs.length ≤ big → xs.length = ts.length → (∀ (i : Nat) (x : m2) (t : PT), xs[i]? = some x → ts[i]? = some t → EH H x t) → EH H e (.mk (.expr e.b7 e.C9 e.d9 ts.length) ts)
inductive CH (H : Hp) : o0 → PT → Prop
 | mk {c : o0} {xs : List m2} {ts : List PT} {ys : List o0} {us : List PT} : SlH H 4 f4 c.m6 xs → xs.length ≤ big → C0 (EH H) xs ts → SlH H 4 h9 c.v8 ys → ys.length ≤ big → ys.length = us.length → (∀ (i : Nat) (x : o0) (t : PT), ys[i]? = some x → us[i]? = some t → CH H x t) → CH H c (.mk (.cond c.b7 c.fOp ts.length us.length) (ts ++ us))
inductive SH (H : Hp) : m7 → PT → Prop
 | mk {s : m7} {xs : List m2} {ts : List PT} {ys : List o0} {us : List PT} {zs bs : List m7} {vs ws : List PT} : SlH H 4 f4 s.m6 xs → xs.length ≤ big → C0 (EH H) xs ts → SlH H 4 h9 s.y6 ys → ys.length ≤ big → C0 (CH H) ys us →
   SlH H 6 f8 s.K7 zs → zs.length ≤ big → zs.length = vs.length → (∀ (i : Nat) (x : m7) (t : PT), zs[i]? = some x → vs[i]? = some t → SH H x t) →
   SlH H 6 f8 s.L0 bs → bs.length ≤ big → bs.length = ws.length → (∀ (i : Nat) (x : m7) (t : PT), bs[i]? = some x → ws[i]? = some t → SH H x t) →
   SH H s (.mk (.stmt s.b7 s.d9 ts.length us.length vs.length ws.length) (us ++ (ts ++ (vs ++ ws))))
theorem EH.le {H H' : Hp} (l : Hle H H') {e : m2} {t : PT} (h : EH H e t) : EH H' e t := by
 induction h with
 | mk hs hb hl _ ih => exact .mk (hs.le l) hb hl ih
theorem CH.le {H H' : Hp} (l : Hle H H') {e : o0} {t : PT} (h : CH H e t) : CH H' e t := by
 induction h with
 | mk hs hb hr hy hc hl _ ih => exact .mk (hs.le l) hb (hr.mono fun _ _ => EH.le l) (hy.le l) hc hl ih
theorem SH.le {H H' : Hp} (l : Hle H H') {e : m7} {t : PT} (h : SH H e t) : SH H' e t := by
 induction h with
 | mk hs hb hr hy hc hrc ha hab hal _ hbs hbb hbl _ ih1 ih2 => exact .mk (hs.le l) hb (hr.mono fun _ _ => EH.le l) (hy.le l) hc (hrc.mono fun _ _ => CH.le l) (ha.le l) hab hal ih1 (hbs.le l) hbb hbl ih2
structure PP where
 decls : List i8
 body : List PT
structure PH (H : Hp) (p : o3) (q : PP) : Prop where
 d : SlH H 2 o7 p.D9 q.decls
 bd : q.decls.length ≤ big
 b : ∃ xs, SlH H 6 f8 p.a2f xs ∧ xs.length ≤ big ∧ C0 (SH H) xs q.body
theorem PH.le {H H' : Hp} {p : o3} {q : PP} (h : PH H p q) (l : Hle H H') : PH H' p q := by
 obtain ⟨a, b, xs, c, d, e⟩ := h
 exact ⟨a.le l, b, xs, c.le l, d, e.mono fun _ _ => SH.le l⟩
section
variable {H : Hp}
end
section
variable {H : Hp}
abbrev W := d6
def wStep (s : W) (d : Int) : W := if s.fbad = 0 then (if s.fn = 4096 then ⟨s.fn, s.fdepth, 33⟩ else if 64 < d then ⟨s.fn, s.fdepth, 32⟩ else ⟨s.fn + 1, if d > s.fdepth then d else s.fdepth, 0⟩) else s
mutual
def wT : PT → Int → W → W
 | .mk _ cs, d, s => wTs cs (d + 1) (wStep s d)
def wTs : List PT → Int → W → W
 | [], _, s => s
 | t :: ts, d, s => wTs ts d (wT t d s)
end
def wok (s : W) : Prop := 0 ≤ s.fn ∧ s.fn ≤ 4096
theorem b3C {s : W} {d : Int} (h : wok s) : wok (wStep s d) := by
 unfold wStep
 repeat' split
 all_goals first | exact h | (unfold wok at h ⊢; dsimp only; omega)
mutual
theorem d4i : ∀ (t : PT) (d : Int) (s : W), wok s → wok (wT t d s)
 | .mk _ cs, d, s, h => by rw [wT]; exact b1i cs _ _ (b3C h)
theorem b1i : ∀ (ts : List PT) (d : Int) (s : W), wok s → wok (wTs ts d s)
 | [], _, s, h => by rw [wTs]; exact h
 | t :: ts, d, s, h => by rw [wTs]; exact b1i ts d _ (d4i t d s h)
end
mutual
theorem d1T : ∀ (t : PT) (d : Int) (s : W), s.fbad ≠ 0 → wT t d s = s
 | .mk _ cs, d, s, h => by
  have : wStep s d = s := by unfold wStep; rw [if_neg h]
  rw [wT, this]; exact a4q cs _ _ h
theorem a4q : ∀ (ts : List PT) (d : Int) (s : W), s.fbad ≠ 0 → wTs ts d s = s
 | [], _, s, h => by rw [wTs]
 | t :: ts, d, s, h => by rw [wTs, d1T t d s h]; exact a4q ts d s h
end
theorem a8w : ∀ (a b : List PT) (d : Int) (s : W), wTs (a ++ b) d s = wTs b d (wTs a d s)
 | [], b, d, s => by rw [List.nil_append, wTs]
 | t :: a, b, d, s => by rw [List.cons_append, wTs, wTs, a8w a b]
theorem c0c {ts : List PT} {i : Nat} {t : PT} (h : ts[i]? = some t) (d : Int) (s : W) : wTs (ts.take (i + 1)) d s = wT t d (wTs (ts.take i) d s) := by
 rw [N5 h, a8w, wTs, wTs]
theorem b7F {ts : List PT} {i : Nat} {d : Int} {s : W} (h : ts.length ≤ i ∨ (wTs (ts.take i) d s).fbad ≠ 0) : wTs (ts.take i) d s = wTs ts d s := by
 rcases h with h | h
 ·rw [List.take_of_length_le h]
 ·have := a8w (ts.take i) (ts.drop i) d s
  rw [List.take_append_drop, a4q _ _ _ h] at this
  exact this.symm
theorem b4Q {s : W} {d : Int} (hs : wok s) {K : Bool → W → Hp → Prop} (h : K (decide ((wStep s d).fbad = 0)) (wStep s d) H) : P0 s d H K := by
 refine a9c _ _ ?_
 unfold a2I
 unfold wok at hs
 unfold wStep at h
 refine ⟨fun hb => ?_, fun hb => ⟨fun h4 => ?_, fun h4 => ⟨fun h5 => ?_, fun h5 => ?_⟩⟩⟩
 ·rw [if_neg hb, decide_eq_false hb] at h; exact h
 ·rw [if_pos hb, if_pos h4] at h; exact h
 ·rw [if_pos hb, if_neg h4, if_pos h5] at h; exact h
 ·rw [if_pos hb, if_neg h4, if_neg h5] at h
  rw [y9 (by omega) (by omega), hb]; exact h
theorem b7G {s : W} {d : Int} (h : (wStep s d).fbad = 0) : d ≤ 64 := by
 unfold wStep at h
 split at h
 ·split at h
  ·cases h
  ·split at h
   ·cases h
   ·omega
 ·rename_i hb; exact (hb h).elim
theorem wloop {ts : List PT} {d : Int} {s1 : W} (ok1 : wok s1) {body : Int × W → Hp → (Int × W → Hp → Prop) → Prop}
  (hb : ∀ (i : Int) (s : W) (next : Int × W → Hp → Prop), 0 ≤ i → i ≤ ts.length → wok s → (∀ t, ts[i.toNat]? = some t → next (i + 1, wT t d s) H) → ((ts.length ≤ i ∨ s.fbad ≠ 0) → s = wTs ts d s1) → body (i, s) H next) : TL ((0, s1) : Int × W) H body := by
 refine T9 (fun (q : Int × W) H' => 0 ≤ q.1 ∧ q.1 ≤ ts.length ∧ H' = H ∧ q.2 = wTs (ts.take q.1.toNat) d s1) (fun q => (ts.length - q.1).toNat) ⟨Int.le_refl _, by simp, rfl, by simp [wTs]⟩ ?_
 rintro ⟨i, s⟩ H1 next ⟨i0, i1, rfl, hs⟩ hn
 dsimp only at i0 i1 hs ⊢
 subst hs
 refine hb i _ next i0 i1 (b1i _ _ _ ok1) (fun t ht => ?_) fun he => b7F (by omega)
 have := s8 ht
 refine hn _ _ ⟨by show 0 ≤ i + 1; omega, by show i + 1 ≤ _; omega, rfl, ?_⟩ (by show (ts.length - (i + 1)).toNat < (ts.length - i).toNat; omega)
 show wT t d _ = wTs (ts.take (i + 1).toNat) d s1
 rw [show (i + 1).toNat = i.toNat + 1 by omega, c0c ht]
theorem a8S {i n : Int} {b : Int} : (decide (i < n) && decide (b = 0)) = decide (i < n ∧ b = 0) := by rw [Bool.eq_iff_iff]; simp
theorem b4q {e : m2} {t : PT} (he : EH H e t) {s : W} {d : Int} (hs : wok s) (d0 : 0 ≤ d) (d1 : d ≤ 65) {K : W → Hp → Prop} (h : K (wT t d s) H) : T7 s e d H K := by
 induction he generalizing s d K with
 | @mk e xs ts hsl hb hl _ ih =>
  refine a9a _ _ _ ?_
  unfold a2G
  rw [wT] at h
  refine b4Q hs ⟨fun hq => ?_, fun hq => ?_⟩
  ·rw [a4q _ _ _ (by simpa using hq)] at h; exact h
  have hq' : (wStep s d).fbad = 0 := by simpa using hq
  have d64 := b7G hq'
  have ok1 := b3C (d := d) hs
  refine wloop (ts := ts) (d := d + 1) ok1 fun i s' next i0 i1 hok hn hf => ?_
  unfold W4
  rw [a8S]
  refine ⟨fun hc => ?_, fun hc => ?_⟩
  ·have hc' := of_decide_eq_true hc
   dsimp only at hc'
   obtain ⟨x, hx, hE⟩ := hsl.get i0 hc'.1
   obtain ⟨t, ht⟩ := r6 (l := ts) (i := i.toNat) (by have := s8 hx; omega)
   refine ⟨i0, hc'.1, x, hE, ?_⟩
   rw [y9 (show 0 ≤ d by omega) (by omega), y9 i0 (by simp only [big] at hb; have := s8 hx; omega)]
   exact ih _ x t hx ht hok (by omega) (by omega) (hn t ht)
  ·have hc' := of_decide_eq_false hc
   dsimp only at hc'
   have hfin := hf (by have := hsl.1; omega)
   rw [hfin]; exact h
theorem c0d {e : o0} {t : PT} (he : CH H e t) {s : W} {d : Int} (hs : wok s) (d0 : 0 ≤ d) (d1 : d ≤ 65) {K : W → Hp → Prop} (h : K (wT t d s) H) : a0w s e d H K := by
 induction he generalizing s d K with
 | @mk e xs ts ys us hsl hb hr hcl hcb hcl' _ ih =>
  refine a8Z _ _ _ ?_
  unfold a2F
  rw [wT] at h
  refine b4Q hs ⟨fun hq => ?_, fun hq => ?_⟩
  ·rw [a4q _ _ _ (by simpa using hq)] at h; exact h
  have hq' : (wStep s d).fbad = 0 := by simpa using hq
  have d64 := b7G hq'
  rw [a8w] at h
  have ok1 := b3C (d := d) hs
  refine wloop (ts := ts) (d := d + 1) ok1 fun i s' next i0 i1 hok hn hf => ?_
  unfold W3
  rw [a8S]
  refine ⟨fun hc => ?_, fun hc => ?_⟩
  ·have hc' := of_decide_eq_true hc
   dsimp only at hc'
   obtain ⟨x, hx, hE⟩ := hsl.get i0 hc'.1
   obtain ⟨t, ht⟩ := r6 (l := ts) (i := i.toNat) (by have := s8 hx; have := hr.1; omega)
   refine ⟨i0, hc'.1, x, hE, ?_⟩
   rw [y9 (show 0 ≤ d by omega) (by omega), y9 i0 (by simp only [big] at hb; have := s8 hx; omega)]
   exact b4q (hr.2 _ x t hx ht) hok (by omega) (by omega) (hn t ht)
  ·have hc' := of_decide_eq_false hc
   dsimp only at hc'
   have hfin := hf (by have := hsl.1; have := hr.1; omega)
   clear hn hf next
   rw [← hfin] at h
   clear hfin hc'
   unfold W2
   refine wloop (ts := us) (d := d + 1) hok fun i s' next i0 i1 hok hn hf => ?_
   unfold W0
   rw [a8S]
   refine ⟨fun hc => ?_, fun hc => ?_⟩
   ·have hc' := of_decide_eq_true hc
    dsimp only at hc'
    obtain ⟨x, hx, hE⟩ := hcl.get i0 hc'.1
    obtain ⟨t, ht⟩ := r6 (l := us) (i := i.toNat) (by have := s8 hx; omega)
    refine ⟨i0, hc'.1, x, hE, ?_⟩
    rw [y9 (show 0 ≤ d by omega) (by omega), y9 i0 (by simp only [big] at hcb; have := s8 hx; omega)]
    exact ih _ x t hx ht hok (by omega) (by omega) (hn t ht)
   ·have hc' := of_decide_eq_false hc
    dsimp only at hc'
    have hfin := hf (by have := hcl.1; omega)
    rw [hfin]; exact h
theorem c0e {e : m7} {t : PT} (he : SH H e t) {s : W} {d : Int} (hs : wok s) (d0 : 0 ≤ d) (d1 : d ≤ 65) {K : W → Hp → Prop} (h : K (wT t d s) H) : T8 s e d H K := by
 induction he generalizing s d K with
 | @mk e xs ts ys us zs bs vs ws hsl hb hr hcl hcb hcr ha hab hal _ hbs hbb hbl _ iha ihb =>
  refine a9b _ _ _ ?_
  unfold a2H
  rw [wT] at h
  refine b4Q hs ⟨fun hq => ?_, fun hq => ?_⟩
  ·rw [a4q _ _ _ (by simpa using hq)] at h; exact h
  have hq' : (wStep s d).fbad = 0 := by simpa using hq
  have d64 := b7G hq'
  rw [a8w, a8w, a8w] at h
  have ok1 := b3C (d := d) hs
  refine wloop (ts := us) (d := d + 1) ok1 fun i s' next i0 i1 hok hn hf => ?_
  unfold X1
  rw [a8S]
  refine ⟨fun hc => ?_, fun hc => ?_⟩
  ·have hc' := of_decide_eq_true hc
   dsimp only at hc'
   obtain ⟨x, hx, hE⟩ := hcl.get i0 hc'.1
   obtain ⟨t, ht⟩ := r6 (l := us) (i := i.toNat) (by have := s8 hx; have := hcr.1; omega)
   refine ⟨i0, hc'.1, x, hE, ?_⟩
   rw [y9 (show 0 ≤ d by omega) (by omega), y9 i0 (by simp only [big] at hcb; have := s8 hx; omega)]
   exact c0d (hcr.2 _ x t hx ht) hok (by omega) (by omega) (hn t ht)
  ·have hc' := of_decide_eq_false hc
   dsimp only at hc'
   have hfin := hf (by have := hcl.1; have := hcr.1; skip; omega)
   clear hn hf next
   rw [← hfin] at h
   clear hfin hc'
   unfold X0
   refine wloop (ts := ts) (d := d + 1) hok fun i s' next i0 i1 hok hn hf => ?_
   unfold W9
   rw [a8S]
   refine ⟨fun hc => ?_, fun hc => ?_⟩
   ·have hc' := of_decide_eq_true hc
    dsimp only at hc'
    obtain ⟨x, hx, hE⟩ := hsl.get i0 hc'.1
    obtain ⟨t, ht⟩ := r6 (l := ts) (i := i.toNat) (by have := s8 hx; have := hr.1; omega)
    refine ⟨i0, hc'.1, x, hE, ?_⟩
    rw [y9 (show 0 ≤ d by omega) (by omega), y9 i0 (by simp only [big] at hb; have := s8 hx; omega)]
    exact b4q (hr.2 _ x t hx ht) hok (by omega) (by omega) (hn t ht)
   ·have hc' := of_decide_eq_false hc
    dsimp only at hc'
    have hfin := hf (by have := hsl.1; have := hr.1; skip; omega)
    clear hn hf next
    rw [← hfin] at h
    clear hfin hc'
    unfold W8
    refine wloop (ts := vs) (d := d + 1) hok fun i s' next i0 i1 hok hn hf => ?_
    unfold W7
    rw [a8S]
    refine ⟨fun hc => ?_, fun hc => ?_⟩
    ·have hc' := of_decide_eq_true hc
     dsimp only at hc'
     obtain ⟨x, hx, hE⟩ := ha.get i0 hc'.1
     obtain ⟨t, ht⟩ := r6 (l := vs) (i := i.toNat) (by have := s8 hx; omega)
     refine ⟨i0, hc'.1, x, hE, ?_⟩
     rw [y9 (show 0 ≤ d by omega) (by omega), y9 i0 (by simp only [big] at hab; have := s8 hx; omega)]
     exact iha _ x t hx ht hok (by omega) (by omega) (hn t ht)
    ·have hc' := of_decide_eq_false hc
     dsimp only at hc'
     have hfin := hf (by have := ha.1; skip; omega)
     clear hn hf next
     rw [← hfin] at h
     clear hfin hc'
     unfold W6
     refine wloop (ts := ws) (d := d + 1) hok fun i s' next i0 i1 hok hn hf => ?_
     unfold W5
     rw [a8S]
     refine ⟨fun hc => ?_, fun hc => ?_⟩
     ·have hc' := of_decide_eq_true hc
      dsimp only at hc'
      obtain ⟨x, hx, hE⟩ := hbs.get i0 hc'.1
      obtain ⟨t, ht⟩ := r6 (l := ws) (i := i.toNat) (by have := s8 hx; omega)
      refine ⟨i0, hc'.1, x, hE, ?_⟩
      rw [y9 (show 0 ≤ d by omega) (by omega), y9 i0 (by simp only [big] at hbb; have := s8 hx; omega)]
      exact ihb _ x t hx ht hok (by omega) (by omega) (hn t ht)
     ·have hc' := of_decide_eq_false hc
      dsimp only at hc'
      have hfin := hf (by have := hbs.1; skip; omega)
      rw [hfin]; exact h
def dT (d : i8) : PT := .mk (.decl d.A4 d.d9) []
theorem c8N (d : i8) (n : Int) (s : W) : wT (dT d) n s = wStep s n := by unfold dT; rw [wT, wTs]
def PP.nodes (q : PP) : List PT := q.decls.map dT ++ q.body
def w0S : W := ⟨0, 0, 0⟩
theorem c4N {p : o3} {q : PP} (hp : PH H p q) {K : W → Hp → Prop} (h : K (wTs q.nodes 1 w0S) H) : a3G p H K := by
 refine a9Z _ ?_
 unfold a3J
 obtain ⟨hd, hbd, xs, hsl, hb, hr⟩ := hp
 have n1 := hd.1; have n2 := hsl.1; have r1 := hr.1
 unfold PP.nodes at h
 rw [a8w] at h
 refine T9 (fun (z : Int × W × W) H' => 0 ≤ z.1 ∧ z.1 ≤ q.decls.length ∧ H' = H ∧ z.2.1 = wTs ((q.decls.map dT).take z.1.toNat) 1 w0S) (fun z => (q.decls.length - z.1).toNat) ⟨Int.le_refl _, by simp, rfl, by simp [wTs, w0S]⟩ ?_
 rintro ⟨i, s, s'⟩ H1 next ⟨i0, i1, rfl, hs⟩ hn
 dsimp only at i0 i1 hs ⊢
 subst hs
 unfold a0A
 rw [a8S]
 have ok0 : wok w0S := ⟨by decide, by decide⟩
 refine ⟨fun hc => ?_, fun hc => ?_⟩
 ·have hc' := of_decide_eq_true hc
  refine b4Q (b1i _ _ _ ok0) ?_
  obtain ⟨x, hx⟩ := r6 (l := q.decls) (i := i.toNat) (by omega)
  rw [y9 i0 (by simp only [big] at hbd; omega)]
  refine hn _ _ ⟨by show 0 ≤ i + 1; omega, by show i + 1 ≤ _; omega, rfl, ?_⟩ (by show (q.decls.length - (i + 1)).toNat < (q.decls.length - i).toNat; omega)
  show wStep _ 1 = wTs ((q.decls.map dT).take (i + 1).toNat) 1 w0S
  rw [show (i + 1).toNat = i.toNat + 1 by omega, c0c (t := dT x) (by rw [List.getElem?_map, hx]; rfl), c8N]
 ·have hc' := of_decide_eq_false hc
  have hfin := b7F (ts := q.decls.map dT) (i := i.toNat) (d := 1) (s := w0S) (by
   by_cases h0 : (wTs ((q.decls.map dT).take i.toNat) 1 w0S).fbad = 0
   ·left; rw [List.length_map]; omega
   ·exact .inr h0)
  rw [hfin]
  clear hn hc hc' next
  unfold a0z
  have ok1 := b1i (q.decls.map dT) 1 _ ok0
  refine T9 (fun (z : Int × W × W) H' => 0 ≤ z.1 ∧ z.1 ≤ q.body.length ∧ H' = H1 ∧ z.2.1 = wTs (q.body.take z.1.toNat) 1 (wTs (q.decls.map dT) 1 w0S)) (fun z => (q.body.length - z.1).toNat) ⟨Int.le_refl _, by simp, rfl, by simp [wTs]⟩ ?_
  rintro ⟨j, s2, s3⟩ H2 next ⟨j0, j1, rfl, hs⟩ hn
  dsimp only at j0 j1 hs ⊢
  subst hs
  unfold a0y
  rw [a8S]
  refine ⟨fun hc => ?_, fun hc => ?_⟩
  ·have hc' := of_decide_eq_true hc
   obtain ⟨x, hx, hE⟩ := hsl.get j0 hc'.1
   obtain ⟨t, ht⟩ := r6 (l := q.body) (i := j.toNat) (by have := s8 hx; omega)
   refine ⟨j0, hc'.1, x, hE, c0e (hr.2 _ x t hx ht) (b1i _ _ _ ok1) (by decide) (by decide) ?_⟩
   rw [y9 j0 (by simp only [big] at hb; have := s8 hx; omega)]
   refine hn _ _ ⟨by show 0 ≤ j + 1; omega, by show j + 1 ≤ _; have := s8 ht; omega, rfl, ?_⟩ (by show (q.body.length - (j + 1)).toNat < (q.body.length - j).toNat; have := s8 ht; omega)
   show wT t 1 _ = wTs (q.body.take (j + 1).toNat) 1 _
   rw [show (j + 1).toNat = j.toNat + 1 by omega, c0c ht]
  ·have hc' := of_decide_eq_false hc
   unfold a0x
   rw [b7F (ts := q.body) (i := j.toNat) (by
    by_cases h0 : (wTs (q.body.take j.toNat) 1 (wTs (q.decls.map dT) 1 w0S)).fbad = 0
    ·left; omega
    ·exact .inr h0)]
   exact h
end
end Go.Proofs.YtnhkdkcgdcgmdaaGreatDoor
