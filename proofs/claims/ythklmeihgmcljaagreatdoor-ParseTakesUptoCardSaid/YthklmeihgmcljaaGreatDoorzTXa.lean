/- The document's forms: which trees have theirs, which names are names; what it tells is what the program tells. The law TreeParts. -/
import Derived.Lib.TrimUEq
import Derived.Lib.ValidLaws
import Derived.Test.YthklmeihgmcljaaGreatDoorzTQ6
import Derived.Test.YthklmeihgmcljaaGreatDoorzTX9
namespace Go.Proofs.YthklmeihgmcljaaGreatDoor
open Go.RowKit
set_option maxRecDepth 100000
set_option maxHeartbeats 2000000
def nameOk (l : Lab) : Bool := if (nameL l).2 = true then nameS (nameL l).1 else true
mutual
def formT : PT → Bool
 | .mk l cs => formL l && formTs cs
def formTs : List PT → Bool
 | [] => true
 | t :: ts => formT t && formTs ts
end
mutual
def namesT : PT → Bool
 | .mk l cs => nameOk l && namesTs cs
def namesTs : List PT → Bool
 | [] => true
 | t :: ts => namesT t && namesTs ts
end
theorem b1P : ∀ a b : List PT, formTs (a ++ b) = (formTs a && formTs b)
 | [], b => by rw [List.nil_append, formTs, Bool.true_and]
 | t :: a, b => by rw [List.cons_append, formTs, formTs, b1P a b, Bool.and_assoc]
theorem b0L : ∀ a b : List PT, namesTs (a ++ b) = (namesTs a && namesTs b)
 | [], b => by rw [List.nil_append, namesTs, Bool.true_and]
 | t :: a, b => by rw [List.cons_append, namesTs, namesTs, b0L a b, Bool.and_assoc]
abbrev Fm := b0R
def FR (f : Fm) (a b : Bool) (y : Fm) : Prop := y.fok = (f.fok && a) ∧ (y.fok = true → y.fnames = (f.fnames && b))
theorem FR.refl (f : Fm) : FR f true true f := ⟨(Bool.and_true _).symm, fun _ => (Bool.and_true _).symm⟩
theorem FR.trans {f g y : Fm} {a b a' b' : Bool} (h : FR f a b g) (h' : FR g a' b' y) : FR f (a && a') (b && b') y := by
 refine ⟨by rw [h'.1, h.1, Bool.and_assoc], fun hy => ?_⟩
 have hg : g.fok = true := by rw [h'.1] at hy; exact (Bool.and_eq_true_iff.1 hy).1
 rw [h'.2 hy, h.2 hg, Bool.and_assoc]
section
variable {H : Hp}
def toldS (ts : List PT) : Int := if (wTs ts 1 w0S).fbad = 0 then (if formTs ts = true then (if namesTs ts = true then 0 else 31) else 30) else (wTs ts 1 w0S).fbad
end
def fmR (v : V) (a b : Bool) (r : Bool × V) : Prop := r.1 = true → r.2.f = (v.f || !a) ∧ r.2.m = (v.m || !b)
theorem c3f (v : V) (l : Lab) (d : Int) : fmR v (formL l) (nameOk l) (vMeet v l d) := by
 unfold vMeet fmR nameOk
 intro h
 split at h
 ·cases h
 ·rename_i h1
  rw [if_neg h1]
  split at h
  ·cases h
  ·rename_i h2
   rw [if_neg h2]
   refine ⟨rfl, ?_⟩
   dsimp only
   cases (nameL l).2
   ·simp
   ·simp
mutual
theorem c9a : ∀ (t : PT) (d : Int) (v : V), fmR v (formT t) (namesT t) (vT t d v)
 | .mk l cs, d, v => by
  have hm := c3f v l d
  rw [vT, formT, namesT]
  by_cases hq : (vMeet v l d).1 = true
  ·rw [if_pos hq]
   intro h
   have h1 := hm hq
   have h2 := b7Y cs (d + 1) _ h
   rw [h2.1, h2.2, h1.1, h1.2]
   cases v.f <;> cases v.m <;> cases formL l <;> cases nameOk l <;> cases formTs cs <;> cases namesTs cs <;> exact ⟨rfl, rfl⟩
  ·rw [if_neg hq]; exact fun h => (hq h).elim
theorem b7Y : ∀ (ts : List PT) (d : Int) (v : V), fmR v (formTs ts) (namesTs ts) (vTs ts d v)
 | [], d, v => by
  rw [vTs, formTs, namesTs]
  intro _
  dsimp only
  cases v.f <;> cases v.m <;> exact ⟨rfl, rfl⟩
 | t :: ts, d, v => by
  have hm := c9a t d v
  rw [vTs, formTs, namesTs]
  by_cases hq : (vT t d v).1 = true
  ·rw [if_pos hq]
   intro h
   have h1 := hm hq
   have h2 := b7Y ts d _ h
   rw [h2.1, h2.2, h1.1, h1.2]
   cases v.f <;> cases v.m <;> cases formT t <;> cases namesT t <;> cases formTs ts <;> cases namesTs ts <;> exact ⟨rfl, rfl⟩
  ·rw [if_neg hq]; exact fun h => (hq h).elim
end
theorem b2S (ts : List PT) : vEnd (vTs ts 1 v0) = toldS ts := by
 have hs := c1q ts
 have hf := b7Y ts 1 v0
 unfold toldS vEnd
 generalize vTs ts 1 v0 = r at hs hf ⊢
 generalize wTs ts 1 w0S = s at hs ⊢
 by_cases hq : r.1 = true
 ·obtain ⟨h1, h2, _⟩ := hs.1 hq
  obtain ⟨h3, h4⟩ := hf hq
  rw [if_pos hq, h1, h2, h3, h4, if_pos rfl]
  cases formTs ts <;> cases namesTs ts <;> rfl
 ·obtain ⟨h1, h2⟩ := hs.2 (Bool.eq_false_iff.2 hq)
  rw [if_neg hq, h1, if_neg (by omega)]
section
variable {H : Hp}
end
end Go.Proofs.YthklmeihgmcljaaGreatDoor
namespace Go.Proofs.YthklmeihgmcljaaGreatDoor
open Go.RowKit
set_option maxRecDepth 100000
set_option maxHeartbeats 2000000
structure Us where
 o9 : ByteArray
 c9c : Bool
inductive Nd : PT → Prop
 | mk {l : Lab} {cs : List PT} : (∀ z s, l ≠ .decl z s) → (∀ t ∈ cs, Nd t) → Nd (.mk l cs)
theorem a7H {α : Type} {R : α → PT → Prop} {xs : List α} {ts : List PT} (hl : xs.length = ts.length) (h : ∀ (i : Nat) (x : α) (t : PT), xs[i]? = some x → ts[i]? = some t → Nd t) : ∀ t ∈ ts, Nd t := fun t ht => by
 obtain ⟨i, hi⟩ := List.mem_iff_getElem?.1 ht
 obtain ⟨x, hx⟩ := a4A (l := xs) (i := i) (by rw [hl]; exact W9 hi)
 exact h i x t hx hi
theorem b1Q {a b : List PT} (ha : ∀ t ∈ a, Nd t) (hb : ∀ t ∈ b, Nd t) : ∀ t ∈ a ++ b, Nd t := fun t h => (List.mem_append.1 h).elim (ha t) (hb t)
theorem EH.nd {H : Hp} {e : b9} {t : PT} (h : EH H e t) : Nd t := by
 induction h with
 | mk hs hb hl _ ih => exact .mk (fun z s e => by cases e) (a7H (R := EH H) hl ih)
theorem CH.nd {H : Hp} {e : f8} {t : PT} (h : CH H e t) : Nd t := by
 induction h with
 | mk hs hb hr hc hcb hl _ ih => exact .mk (fun z s e => by cases e) (b1Q (a7H (R := EH H) hr.1 fun i x t a b => (hr.2 i x t a b).nd) (a7H (R := CH H) hl ih))
theorem SH.nd {H : Hp} {e : g5} {t : PT} (h : SH H e t) : Nd t := by
 induction h with
 | mk hs hb hr hc hcb hcr ha hab hal _ hbs hbb hbl _ ih1 ih2 =>
  exact .mk (fun z s e => by cases e) (b1Q (a7H (R := CH H) hcr.1 fun i x t a b => (hcr.2 i x t a b).nd) (b1Q (a7H (R := EH H) hr.1 fun i x t a b => (hr.2 i x t a b).nd) (b1Q (a7H (R := SH H) hal ih1) (a7H (R := SH H) hbl ih2))))
section
variable {H : Hp}
end
def TkOK (t : Tok) : Prop := t.B6.size ≤ 65536 ∧ a2x t.J5
def TkL (r : List Tok) : Prop := ∀ t ∈ r, TkOK t
theorem b6Y : ∀ {l : List Tok} {e : Tok}, (∀ t ∈ l, t.c8 ≠ 5) → e.c8 = 5 → WfT (l ++ [e])
 | [], e, _, he => he
 | [t], e, h, he => ⟨h t (by simp), he⟩
 | t :: u :: l, e, h, he => ⟨h t (by simp), b6Y (l := u :: l) (fun x hx => h x (List.mem_cons_of_mem _ hx)) he⟩
section
variable {s : ByteArray}
theorem b7Z (p q : Nat) : (s.extract p q).size ≤ s.size := by simp only [ByteArray.size_extract]; omega
theorem c3g (hs : s.size ≤ 65536) {p : Nat} (h : (oneO s p).err = 0) : (oneO s p).kind ≠ 5 ∧ (oneO s p).text.size ≤ 65536 ∧ a2x (oneO s p).num := by
 have hx : ∀ p q, (s.extract p q).size ≤ 65536 := fun p q => Nat.le_trans (b7Z p q) hs
 unfold oneO at h ⊢
 split at h
 ·rename_i c
  rw [if_pos c]
  unfold wordO at h ⊢
  split at h
  ·rename_i c2; rw [if_pos c2]; exact ⟨by show (3 : Int) ≠ 5; decide, hx _ _, by show a2x 0; decide⟩
  rename_i c2
  rw [if_neg c2]
  split at h
  ·cases h
  ·rename_i c3; rw [if_neg c3]; exact ⟨by show (1 : Int) ≠ 5; decide, hx _ _, by show a2x 0; decide⟩
 rename_i c
 rw [if_neg c]
 split at h
 ·rename_i c2
  rw [if_pos c2]
  unfold numO at h ⊢
  split at h
  ·cases h
  ·rename_i c3
   rw [if_neg c3]
   refine ⟨by show (2 : Int) ≠ 5; decide, hx _ _, ?_⟩
   show a2x ((dg s p 0).2 : Int)
   unfold a2x
   omega
 rename_i c2
 rw [if_neg c2]
 split at h
 ·rename_i c3
  rw [if_pos c3]
  unfold signO at h ⊢
  split at h
  ·rename_i c4; rw [if_pos c4]; exact ⟨by show (4 : Int) ≠ 5; decide, hx _ _, by show a2x 0; decide⟩
  rename_i c4
  rw [if_neg c4]
  split at h
  ·cases h
  ·rename_i c5; rw [if_neg c5]; exact ⟨by show (4 : Int) ≠ 5; decide, hx _ _, by show a2x 0; decide⟩
 ·cases h
theorem b9x (hs : s.size ≤ 65536) : ∀ (f p : Nat) (a : Int × Int) (out : List Tk), s.size + 1 - p ≤ f → p ≤ s.size → out.length ≤ 32768 → (∀ t ∈ out, t.kind ≠ 5 ∧ t.text.size ≤ 65536 ∧ a2x t.num) → (tkF s f p a out).2.2 = 0 →
  ∃ init last, (tkF s f p a out).1 = init ++ [last] ∧ (∀ t ∈ init, t.kind ≠ 5 ∧ t.text.size ≤ 65536 ∧ a2x t.num) ∧ last.kind = 5 ∧ last.text.size ≤ 65536 ∧ a2x last.num ∧ init.length ≤ 32768
 | 0, p, a, out, hf, hp, _, _, _ => by omega
 | f + 1, p, a, out, hf, hp, hl, ho, he => by
  have hk := b0m hp
  rw [tkF] at he ⊢
  split at he
  ·rename_i c
   rw [if_pos c]
   exact ⟨out, _, rfl, ho, rfl, by show (0 : Nat) ≤ 65536; decide, by show a2x 0; decide, hl⟩
  rename_i c
  rw [if_neg c]
  split at he
  ·cases he
  rename_i c2
  rw [if_neg c2]
  split at he
  ·rename_i c3; exact absurd he c3
  rename_i c3
  rw [if_neg c3]
  have c3' : (oneO s (sk s p)).err = 0 := Classical.byContradiction c3
  have hst := a7D (s := s) (p := sk s p) (by omega) c3'
  refine b9x hs f _ _ _ (by omega) hst.2 (by simp; omega) ?_ he
  intro t ht
  rcases List.mem_append.1 ht with q | q
  ·exact ho t q
  ·rw [List.mem_singleton.1 q]
   exact c3g hs c3'
theorem b1R (h : (tkS s).2.2 = 0) : WfT ((tkS s).1.map tkv) ∧ ((tkS s).1.map tkv).length ≤ big ∧ TkL ((tkS s).1.map tkv) := by
 unfold tkS at h ⊢
 split at h
 ·cases h
 rename_i c
 rw [if_neg c]
 split at h
 ·cases h
 rename_i hc
 obtain ⟨init, last, e, h1, h2, h3, h4, h5⟩ := b9x (s := s) (by omega) _ _ _ [] (by omega) (by omega) (by simp) (by simp) h
 rw [e, List.map_append, List.map_singleton]
 refine ⟨b6Y (fun t ht => ?_) h2, by simp [big]; omega, fun t ht => ?_⟩
 ·obtain ⟨u, hu, rfl⟩ := List.mem_map.1 ht
  exact (h1 u hu).1
 ·rcases List.mem_append.1 ht with q | q
  ·obtain ⟨u, hu, rfl⟩ := List.mem_map.1 q
   exact (h1 u hu).2
  ·rw [List.mem_singleton.1 q]
   exact ⟨h3, h4⟩
end
def SmP {α : Type} (G : α → Prop) (p : PM α) : Prop := ∀ r a r', TkL r → p r = .ok (a, r') → G a ∧ TkL r'
theorem TkL.tail {r : List Tok} (h : TkL r) : TkL r.tail := fun t ht => h t (List.mem_of_mem_tail ht)
theorem TkL.hd {r : List Tok} (h : TkL r) : TkOK (hd r) := by
 cases r with
 | nil => exact ⟨by show (0 : Nat) ≤ 65536; decide, by show a2x 0; decide⟩
 | cons t r => exact h t (by simp)
theorem SmP.bind {α β : Type} {G : α → Prop} {G2 : β → Prop} {p : PM α} {f : α → PM β} (hp : SmP G p) (hf : ∀ a, G a → SmP G2 (f a)) : SmP G2 (bindP p f) := fun r b r' ht h => by
 obtain ⟨a, r1, h1, h2⟩ := bind_ok h
 obtain ⟨ga, t1⟩ := hp _ _ _ ht h1
 exact hf a ga _ _ _ t1 h2
theorem a2I {α : Type} {G : α → Prop} {a : α} (h : G a) : SmP G (pureP a) := fun r b r' ht e => by cases e; exact ⟨h, ht⟩
theorem a3s (s : ByteArray) : SmP (fun _ => True) (mustP s) := fun r b r' ht h => by
 unfold mustP at h
 split at h
 ·cases h; exact ⟨trivial, ht.tail⟩
 ·cases h
theorem b2T {α : Type} {G : α → Prop} (b : List Tok → Bool) : SmP G (deadE (α := α) b) := fun r a r' _ h => by
 unfold deadE at h
 split at h <;> cases h
theorem b0u {k n : Int} {s : ByteArray} {ts : List PT} (hs : s.size ≤ 65536) (hn : a2x n) (h : ∀ t ∈ ts, Sm t) : Sm (eX k n s ts) := .mk ⟨by show s.size ≤ sml; simp only [sml]; omega, hn⟩ h
theorem b1S {k n : Int} {es cs : List PT} (he : ∀ t ∈ es, Sm t) (hc : ∀ t ∈ cs, Sm t) : Sm (cX k n es cs) := .mk ⟨by show (0 : Nat) ≤ sml; simp only [sml]; omega, by show a2x 0; decide⟩ fun t ht => by
 rcases List.mem_append.1 ht with q | q
 ·exact he t q
 ·exact hc t q
theorem a9f {k : Int} {s : ByteArray} {es cs vs ws : List PT} (hs : s.size ≤ 65536) (he : ∀ t ∈ es, Sm t) (hc : ∀ t ∈ cs, Sm t) (hv : ∀ t ∈ vs, Sm t) (hw : ∀ t ∈ ws, Sm t) : Sm (sX k s es cs vs ws) := .mk ⟨by show s.size ≤ sml; simp only [sml]; omega, by show a2x 0; decide⟩ fun t ht => by
 simp only [List.mem_append] at ht
 rcases ht with q | q | q | q
 ·exact hc t q
 ·exact he t q
 ·exact hv t q
 ·exact hw t q
theorem a5U {t : PT} (h : Sm t) : ∀ u ∈ [t], Sm u := fun u hu => by rw [List.mem_singleton.1 hu]; exact h
theorem b5v {t t' : PT} (h : Sm t) (h' : Sm t') : ∀ u ∈ [t, t'], Sm u := fun u hu => by
 simp only [List.mem_cons, List.not_mem_nil, or_false] at hu
 rcases hu with rfl | rfl
 ·exact h
 ·exact h'
theorem N3 : ∀ u ∈ ([] : List PT), Sm u := fun u hu => by cases hu
theorem e0 : (⟨#[]⟩ : ByteArray).size ≤ 65536 := by show (0 : Nat) ≤ 65536; decide
theorem b3u {w : List Tok → Int} {part : PM PT} (hp : SmP Sm part) : ∀ (n : Nat) (e : PT), Sm e → SmP Sm (chainF w part n e)
 | 0, e, he => fun r b r' ht h => by cases h; exact ⟨he, ht⟩
 | n + 1, e, he => fun r b r' ht h => by
  unfold chainF at h
  split at h
  ·cases h; exact ⟨he, ht⟩
  ·exact SmP.bind hp (fun a ha => b3u hp n _ (b0u e0 (by decide) (b5v he ha))) _ _ _ ht.tail h
theorem b3v {s : ByteArray} {k : Int} {part : PM PT} (hp : SmP Sm part) : ∀ (n : Nat) (e : PT), Sm e → SmP Sm (joinsF s k part n e)
 | 0, e, he => fun r b r' ht h => by cases h; exact ⟨he, ht⟩
 | n + 1, e, he => fun r b r' ht h => by
  unfold joinsF at h
  split at h
  ·exact SmP.bind hp (fun a ha => b3v hp n _ (b1S N3 (b5v he ha))) _ _ _ ht.tail h
  ·cases h; exact ⟨he, ht⟩
theorem a7W {w : List Tok → Int} {part : PM PT} (hp : SmP Sm part) : SmP Sm (chainP w part) := hp.bind fun e he r _ _ ht h => b3u hp r.length e he _ _ _ ht h
theorem a7X {s : ByteArray} {k : Int} {part : PM PT} (hp : SmP Sm part) : SmP Sm (joinsP s k part) := hp.bind fun e he r _ _ ht h => b3v hp r.length e he _ _ _ ht h
theorem c0O {f : PM PT} (hf : SmP Sm f) : SmP Sm (factS f) := fun r a r' ht h => by
 have he : SmP Sm (exprOf f) := a7W (a7W hf)
 have t1 := ht.hd
 unfold factS at h
 split at h
 ·cases h
 split at h
 ·exact (hf.bind fun e h => a2I (b0u e0 (by decide) (a5U h))) _ _ _ ht.tail h
 split at h
 ·exact (he.bind fun e h => (a3s _).bind fun _ _ => a2I h) _ _ _ ht.tail h
 split at h
 ·cases h; exact ⟨b0u e0 (by decide) N3, ht.tail⟩
 split at h
 ·cases h; exact ⟨b0u e0 t1.2 N3, ht.tail⟩
 split at h
 ·exact (he.bind fun e h => (a3s _).bind fun _ _ => a2I (b0u t1.1 (by decide) (a5U h))) _ _ _ ht.tail.tail h
 ·cases h; exact ⟨b0u t1.1 (by decide) N3, ht.tail⟩
theorem b5w : ∀ g, SmP Sm (factP g)
 | 0 => b2T _
 | g + 1 => c0O (b5w g)
theorem b1g (g : Nat) : SmP Sm (exprP g) := a7W (a7W (b5w g))
theorem c3h : SmP (fun _ => True) relP := fun r a r' ht h => by
 unfold relP at h
 split at h
 ·cases h
 ·cases h; exact ⟨trivial, ht.tail⟩
theorem c3i {l ex : PM PT} (hl : SmP Sm l) (hx : SmP Sm ex) : SmP Sm (litS l ex) := fun r a r' ht h => by
 have hc : SmP Sm (condOf l) := a7X (a7X hl)
 unfold litS at h
 split at h
 ·cases h
 split at h
 ·cases h; exact ⟨b1S N3 N3, ht.tail⟩
 split at h
 ·cases h; exact ⟨b1S N3 N3, ht.tail⟩
 split at h
 ·exact (hl.bind fun e h => a2I (b1S N3 (a5U h))) _ _ _ ht.tail h
 split at h
 ·exact (hc.bind fun e h => (a3s _).bind fun _ _ => a2I h) _ _ _ ht.tail h
 ·exact (hx.bind fun a ha => c3h.bind fun _ _ => hx.bind fun b hb => a2I (b1S (b5v ha hb) N3)) _ _ _ ht h
theorem b6Z : ∀ g, SmP Sm (litP g)
 | 0 => b2T _
 | g + 1 => c3i (b6Z g) (b1g _)
theorem c0P (g : Nat) : SmP Sm (condP g) := a7X (a7X (b6Z g))
def SmL (l : List PT) : Prop := ∀ t ∈ l, Sm t
theorem a9O {stop : List Tok → Bool} {st : PM PT} (hs : SmP Sm st) : ∀ (n : Nat) (l : List PT), SmL l → SmP SmL (stmtsF stop st n l)
 | 0, l, hl => fun r b r' ht h => by cases h; exact ⟨hl, ht⟩
 | n + 1, l, hl => fun r b r' ht h => by
  unfold stmtsF at h
  split at h
  ·cases h; exact ⟨hl, ht⟩
  ·exact SmP.bind hs (fun a ha => a9O hs n _ fun t ht => by
    rcases List.mem_append.1 ht with q | q
    ·exact hl t q
    ·rw [List.mem_singleton.1 q]; exact ha) _ _ _ ht h
theorem b8a {st : PM PT} (hs : SmP Sm st) : SmP SmL (blockOf st) := (a3s _).bind fun _ _ => SmP.bind (G := SmL) (fun r _ _ ht h => a9O hs r.length [] N3 _ _ _ ht h) fun l hl r _ r' ht h => by
 cases h; exact ⟨hl, ht.tail⟩
theorem b0v {s : PT} (h : Sm s) : SmP Sm (endS s) := (a3s _).bind fun _ _ => a2I h
theorem b7a {k : Int} {s : ByteArray} {es : List PT} {ex : PM PT} (hs : s.size ≤ 65536) (he : SmL es) (hx : SmP Sm ex) : SmP Sm (setS k s es ex) := (a3s _).bind fun _ _ => hx.bind fun e h => b0v (a9f hs (fun t ht => by
 rcases List.mem_append.1 ht with q | q
 ·exact he t q
 ·rw [List.mem_singleton.1 q]; exact h) N3 N3 N3)
theorem c0Q {st sub ex co : PM PT} (hs : SmP Sm st) (hb : SmP Sm sub) (hx : SmP Sm ex) (hc : SmP Sm co) : SmP Sm (stmtS st sub ex co) := fun r a r' ht h => by
 have t1 := ht.hd
 have hbl := b8a hs
 unfold stmtS at h
 split at h
 ·cases h
 split at h
 ·split at h
  ·exact (hb.bind fun e h => (a3s _).bind fun _ _ => b7a t1.1 (a5U h) hx) _ _ _ ht.tail.tail h
  ·exact b7a t1.1 N3 hx _ _ _ ht.tail h
 split at h
 ·refine (hc.bind fun c hc' => hbl.bind fun th hth r1 a1 r2 ht1 h1 => ?_) _ _ _ ht.tail h
  split at h1
  ·exact (hbl.bind fun el hel => a2I (a9f e0 N3 (a5U hc') hth hel)) _ _ _ ht1.tail h1
  ·cases h1; exact ⟨a9f e0 N3 (a5U hc') hth N3, ht1⟩
 split at h
 ·exact (hc.bind fun c hc' => hbl.bind fun th hth => a2I (a9f e0 N3 (a5U hc') hth N3)) _ _ _ ht.tail h
 split at h
 ·exact (hc.bind fun c hc' => b0v (a9f e0 N3 (a5U hc') N3 N3)) _ _ _ ht.tail h
 split at h
 ·exact (hc.bind fun c hc' => b0v (a9f e0 N3 (a5U hc') N3 N3)) _ _ _ ht.tail h
 ·exact b0v (a9f e0 N3 N3 N3 N3) _ _ _ ht.tail h
theorem b5x : ∀ g, SmP Sm (stmtP g)
 | 0 => b2T _
 | g + 1 => c0Q (b5x g) (b1g _) (b1g _) (c0P _)
end Go.Proofs.YthklmeihgmcljaaGreatDoor
