/- Which names a program has; the document's check of a program, its size, its names. The law TreeChecks. -/
import Derived.Test.YtnhkdkcgdcgmdaaGreatDoorzXV1y
namespace Go.Proofs.YtnhkdkcgdcgmdaaGreatDoor
open Go.RowKit
set_option maxRecDepth 100000
set_option maxHeartbeats 2000000
def namL (l : Lab) : List ByteArray := if (nameL l).2 = true then [(nameL l).1] else []
mutual
def nT : PT → List ByteArray
 | .mk l cs => namL l ++ nTs cs
def nTs : List PT → List ByteArray
 | [] => []
 | t :: ts => nT t ++ nTs ts
end
def putAll (l : List ByteArray) (xs : List ByteArray) : List ByteArray := xs.foldl putS l
theorem b6I (l a b : List ByteArray) : putAll l (a ++ b) = putAll (putAll l a) b := by unfold putAll; rw [List.foldl_append]
theorem c6R (v : V) (l : Lab) (d : Int) (h : (vMeet v l d).1 = true) : (vMeet v l d).2.ns = putAll v.ns (namL l) := by
 unfold vMeet at h ⊢
 unfold namL
 split at h
 ·cases h
 ·rename_i h1
  rw [if_neg h1]
  split at h
  ·cases h
  ·rename_i h2
   rw [if_neg h2]
   dsimp only
   split <;> rfl
mutual
theorem d4p : ∀ (t : PT) (d : Int) (v : V), (vT t d v).1 = true → (vT t d v).2.ns = putAll v.ns (nT t)
 | .mk l cs, d, v => by
  rw [vT, nT]
  by_cases hq : (vMeet v l d).1 = true
  ·rw [if_pos hq]
   intro h
   rw [c0G cs (d + 1) _ h, c6R v l d hq, b6I]
  ·rw [if_neg hq]; exact fun h => (hq h).elim
theorem c0G : ∀ (ts : List PT) (d : Int) (v : V), (vTs ts d v).1 = true → (vTs ts d v).2.ns = putAll v.ns (nTs ts)
 | [], d, v => by rw [vTs, nTs]; exact fun _ => rfl
 | t :: ts, d, v => by
  rw [vTs, nTs]
  by_cases hq : (vT t d v).1 = true
  ·rw [if_pos hq]
   intro h
   rw [c0G ts d _ h, d4p t d v hq, b6I]
  ·rw [if_neg hq]; exact fun h => (hq h).elim
end
abbrev Us := d8
def useL : Lab → List Us
 | .decl _ _ => []
 | .cond .. => []
 | .expr k _ s _ => if (decide (k = 2) || decide (k = 4)) = true then [⟨s, decide (k = 4)⟩] else []
 | .stmt k s _ _ _ _ => if (decide (k = 1) || decide (k = 2)) = true then [⟨s, decide (k = 2)⟩] else []
mutual
def uT : PT → List Us
 | .mk l cs => useL l ++ uTs cs
def uTs : List PT → List Us
 | [] => []
 | t :: ts => uT t ++ uTs ts
end
theorem a8y : ∀ a b : List PT, uTs (a ++ b) = uTs a ++ uTs b
 | [], b => by rw [List.nil_append, uTs, List.nil_append]
 | t :: a, b => by rw [List.cons_append, uTs, uTs, a8y a b, List.append_assoc]
theorem c0H {ts : List PT} {i : Nat} {t : PT} (h : ts[i]? = some t) : uTs (ts.take (i + 1)) = uTs (ts.take i) ++ uT t := by
 rw [N5 h, a8y, uTs, uTs, List.append_nil]
theorem d2R (ts : List PT) (i : Nat) : (uTs (ts.take i)).length ≤ (uTs ts).length := by
 have := a8y (ts.take i) (ts.drop i)
 rw [List.take_append_drop] at this
 rw [this, List.length_append]; omega
theorem b3M {ts : List PT} {i : Nat} {t : PT} (h : ts[i]? = some t) : (uTs (ts.take i)).length + (uT t).length ≤ (uTs ts).length := by
 have := d2R ts (i + 1)
 rw [c0H h, List.length_append] at this; exact this
mutual
def cT : PT → Nat
 | .mk _ cs => 1 + cTs cs
def cTs : List PT → Nat
 | [] => 0
 | t :: ts => cT t + cTs ts
end
theorem b2T : ∀ a b : List PT, cTs (a ++ b) = cTs a + cTs b
 | [], b => by rw [List.nil_append, cTs, Nat.zero_add]
 | t :: a, b => by rw [List.cons_append, cTs, cTs, b2T a b, Nat.add_assoc]
theorem c6S (l : Lab) : (useL l).length ≤ 1 := by
 cases l <;> simp only [useL] <;> (try split) <;> simp
mutual
theorem d2S : ∀ t : PT, (uT t).length ≤ cT t
 | .mk l cs => by rw [uT, cT, List.length_append]; have := c6S l; have := b5c cs; omega
theorem b5c : ∀ ts : List PT, (uTs ts).length ≤ cTs ts
 | [] => by rw [uTs, cTs]; exact Nat.le_refl _
 | t :: ts => by rw [uTs, cTs, List.length_append]; have := d2S t; have := b5c ts; omega
end
mutual
theorem c5r : ∀ (t : PT) (d : Int) (s : W), (wT t d s).fbad = 0 → (wT t d s).fn = s.fn + cT t
 | .mk l cs, d, s, h => by
  rw [wT] at h ⊢
  rw [b8a cs _ _ h, cT]
  have hb : (wStep s d).fbad = 0 := by
   by_cases hq : (wStep s d).fbad = 0
   ·exact hq
   ·rw [a4q _ _ _ hq] at h; exact h
  unfold wStep at hb ⊢
  split at hb
  ·rename_i h1
   rw [if_pos h1]
   split at hb
   ·cases hb
   ·rename_i h2
    rw [if_neg h2]
    split at hb
    ·cases hb
    ·rename_i h3
     rw [if_neg h3]; dsimp only; omega
  ·rename_i h1; exact (h1 hb).elim
theorem b8a : ∀ (ts : List PT) (d : Int) (s : W), (wTs ts d s).fbad = 0 → (wTs ts d s).fn = s.fn + cTs ts
 | [], d, s, h => by rw [wTs, cTs]; simp
 | t :: ts, d, s, h => by
  rw [wTs] at h ⊢
  rw [b8a ts _ _ h, cTs]
  have hb : (wT t d s).fbad = 0 := by
   by_cases hq : (wT t d s).fbad = 0
   ·exact hq
   ·rw [a4q _ _ _ hq] at h; exact h
  rw [c5r t d s hb]; omega
end
theorem c2F {ts : List PT} (h : (wTs ts 1 w0S).fbad = 0) : cTs ts ≤ 4096 := by
 have h1 := b8a ts 1 w0S h
 have h2 := (b1i ts 1 w0S d4k).2
 have h3 : w0S.fn = 0 := rfl
 omega
inductive Nd : PT → Prop
 | mk {l : Lab} {cs : List PT} : (∀ z s, l ≠ .decl z s) → (∀ t ∈ cs, Nd t) → Nd (.mk l cs)
theorem b1p {α : Type} {R : α → PT → Prop} {xs : List α} {ts : List PT} (hl : xs.length = ts.length) (h : ∀ (i : Nat) (x : α) (t : PT), xs[i]? = some x → ts[i]? = some t → Nd t) : ∀ t ∈ ts, Nd t := fun t ht => by
 obtain ⟨i, hi⟩ := List.mem_iff_getElem?.1 ht
 obtain ⟨x, hx⟩ := r6 (l := xs) (i := i) (by rw [hl]; exact s8 hi)
 exact h i x t hx hi
theorem b6J {a b : List PT} (ha : ∀ t ∈ a, Nd t) (hb : ∀ t ∈ b, Nd t) : ∀ t ∈ a ++ b, Nd t := fun t h => (List.mem_append.1 h).elim (ha t) (hb t)
theorem EH.nd {H : Hp} {e : m2} {t : PT} (h : EH H e t) : Nd t := by
 induction h with
 | mk hs hb hl _ ih => exact .mk (fun z s e => by cases e) (b1p (R := EH H) hl ih)
theorem CH.nd {H : Hp} {e : o0} {t : PT} (h : CH H e t) : Nd t := by
 induction h with
 | mk hs hb hr hc hcb hl _ ih => exact .mk (fun z s e => by cases e) (b6J (b1p (R := EH H) hr.1 fun i x t a b => (hr.2 i x t a b).nd) (b1p (R := CH H) hl ih))
theorem SH.nd {H : Hp} {e : m7} {t : PT} (h : SH H e t) : Nd t := by
 induction h with
 | mk hs hb hr hc hcb hcr ha hab hal _ hbs hbb hbl _ ih1 ih2 =>
  exact .mk (fun z s e => by cases e) (b6J (b1p (R := CH H) hcr.1 fun i x t a b => (hcr.2 i x t a b).nd) (b6J (b1p (R := EH H) hr.1 fun i x t a b => (hr.2 i x t a b).nd) (b6J (b1p (R := SH H) hal ih1) (b1p (R := SH H) hbl ih2))))
section
variable {H : Hp}
theorem uloop {ts : List PT} {out : List Us} {body : List Us × Int → Hp → (List Us × Int → Hp → Prop) → Prop}
  (hb : ∀ (i : Int) (cs : List Us) (next : List Us × Int → Hp → Prop), 0 ≤ i → i ≤ ts.length → cs = out ++ uTs (ts.take i.toNat) → (∀ t, ts[i.toNat]? = some t → next (cs ++ uT t, i + 1) H) → (ts.length ≤ i → cs = out ++ uTs ts) → body (cs, i) H next) : TL ((out, 0) : List Us × Int) H body := by
 refine T9 (fun (q : List Us × Int) H' => 0 ≤ q.2 ∧ q.2 ≤ ts.length ∧ H' = H ∧ q.1 = out ++ uTs (ts.take q.2.toNat)) (fun q => (ts.length - q.2).toNat) ⟨Int.le_refl _, by simp, rfl, by simp [uTs]⟩ ?_
 rintro ⟨cs, i⟩ H1 next ⟨i0, i1, rfl, hs⟩ hn
 dsimp only at i0 i1 hs ⊢
 refine hb i cs next i0 i1 hs (fun t ht => ?_) fun he => ?_
 ·have := s8 ht
  refine hn _ _ ⟨by dsimp only; omega, by dsimp only; omega, rfl, ?_⟩ (by dsimp only; omega)
  dsimp only
  rw [show (i + 1).toNat = i.toNat + 1 by omega, c0H ht, hs, List.append_assoc]
 ·rw [hs, List.take_of_length_le (by omega)]
theorem b8K {n : Nat} (h : n + 1 ≤ big) {u : Us} : (n + ([u] : List Us).length) * 25 ≤ 140737488355328 := by
 simp only [big] at h; simp only [List.length_cons, List.length_nil]; omega
theorem b5z {e : m2} {t : PT} (he : EH H e t) {out : List Us} (hb : out.length + (uT t).length ≤ big) {K : List Us → Hp → Prop} (h : K (out ++ uT t) H) : U2 out e H K := by
 induction he generalizing out K with
 | @mk e xs ts hs hxb hl _ ih =>
  refine a9A _ _ ?_
  rw [uT] at h hb
  rw [List.length_append] at hb
  have go : ∀ out' : List Us, out' = out ++ useL (.expr e.b7 e.C9 e.d9 ts.length) → N7 out' e H K := by
   rintro out' rfl
   unfold N7
   refine uloop (ts := ts) fun i cs next i0 i1 hcs hn hf => ?_
   unfold Y9
   refine ⟨fun hc => ?_, fun hc => ?_⟩
   ·obtain ⟨x, hx, hE⟩ := hs.get i0 hc
    obtain ⟨t, ht⟩ := r6 (l := ts) (i := i.toNat) (by have := s8 hx; omega)
    have := b3M ht
    refine ⟨i0, hc, x, hE, ih _ x t hx ht (by rw [hcs, List.length_append, List.length_append]; omega) ?_⟩
    rw [y9 i0 (by simp only [big] at hxb; have := s8 hx; omega)]
    exact hn t ht
   ·rw [hf (by have := hs.1; dsimp only at hc; omega)]
    unfold Y8
    rw [List.append_assoc]; exact h
  unfold a3j
  refine ⟨fun hc => ⟨b8K (by simp only [useL, if_pos hc, List.length_cons, List.length_nil] at hb; omega), go _ ?_⟩, fun hc => go _ ?_⟩
  ·simp only [useL, if_pos hc]
  ·simp only [useL]; rw [if_neg (by rw [hc]; decide), List.append_nil]
theorem c1O {e : o0} {t : PT} (he : CH H e t) {out : List Us} (hb : out.length + (uT t).length ≤ big) {K : List Us → Hp → Prop} (h : K (out ++ uT t) H) : a0R out e H K := by
 induction he generalizing out K with
 | @mk e xs ts ys us hs hxb hr hc hcb hcl _ ih =>
  refine a9B _ _ ?_
  rw [uT] at h hb
  change K (out ++ ([] ++ uTs (ts ++ us))) H at h
  change out.length + ([] ++ uTs (ts ++ us)).length ≤ big at hb
  rw [List.nil_append, a8y] at h hb
  rw [List.length_append] at hb
  have r0 := hr.1
  unfold a3k
  refine uloop (ts := ts) fun i cs next i0 i1 hcs hn hf => ?_
  unfold Z4
  refine ⟨fun hq => ?_, fun hq => ?_⟩
  ·obtain ⟨x, hx, hE⟩ := hs.get i0 hq
   obtain ⟨t, ht⟩ := r6 (l := ts) (i := i.toNat) (by have := s8 hx; omega)
   have := b3M ht
   refine ⟨i0, hq, x, hE, b5z (hr.2 _ x t hx ht) (by rw [hcs, List.length_append]; omega) ?_⟩
   rw [y9 i0 (by simp only [big] at hxb; have := s8 hx; omega)]
   exact hn t ht
  ·rw [hf (by have := hs.1; dsimp only at hq; omega)]
   dsimp only
   clear hn hf next hcs hq cs
   unfold Z3
   refine uloop (ts := us) fun i cs next i0 i1 hcs hn hf => ?_
   unfold Z2
   refine ⟨fun hq => ?_, fun hq => ?_⟩
   ·obtain ⟨x, hx, hE⟩ := hc.get i0 hq
    obtain ⟨t, ht⟩ := r6 (l := us) (i := i.toNat) (by have := s8 hx; omega)
    have := b3M ht
    refine ⟨i0, hq, x, hE, ih _ x t hx ht (by rw [hcs, List.length_append, List.length_append]; omega) ?_⟩
    rw [y9 i0 (by simp only [big] at hcb; have := s8 hx; omega)]
    exact hn t ht
   ·rw [hf (by have := hc.1; dsimp only at hq; omega)]
    unfold Z1
    rw [List.append_assoc]; exact h
def StU (H : Hp) (x : m7) (t : PT) : Prop := ∀ (cs : List Us) (s1 : Sl) (i : Int) (n2 : List Us × Int → Hp → Prop) (K : List Us → Hp → Prop), cs.length + (uTs t.kids).length ≤ big → n2 (cs ++ uTs t.kids, IntKind.wrap .i64 (i + 1)) H → N8 cs s1 i x H n2 K
theorem b2C {s : Sl} {xs : List m7} {ts : List PT} (hs : SlH H 6 f8 s xs) (hxb : xs.length ≤ big) (hl : xs.length = ts.length) (hr : ∀ (i : Nat) (x : m7) (t : PT), xs[i]? = some x → ts[i]? = some t → SH H x t) (ih : ∀ (i : Nat) (x : m7) (t : PT), xs[i]? = some x → ts[i]? = some t → StU H x t)
  {out : List Us} (hb : out.length + (uTs ts).length ≤ big) {K : List Us → Hp → Prop} (h : K (out ++ uTs ts) H) : U3 out s H K := by
 refine a9C _ _ ?_
 unfold a3l
 refine uloop (ts := ts) fun i cs next i0 i1 hcs hn hf => ?_
 unfold a0d
 dsimp only
 refine ⟨fun hq => ?_, fun hq => ?_⟩
 ·obtain ⟨x, hx, hE⟩ := hs.get i0 hq
  obtain ⟨t, ht⟩ := r6 (l := ts) (i := i.toNat) (by have := s8 hx; omega)
  have hin := b3M ht
  have hut : uT t = useL t.lab ++ uTs t.kids := by cases t; rw [uT]; rfl
  rw [hut, List.length_append] at hin
  have hlab : useL t.lab = if (decide (x.b7 = 1) || decide (x.b7 = 2)) = true then [⟨x.d9, decide (x.b7 = 2)⟩] else [] := by
   cases hr _ x t hx ht; rfl
  have hcl : cs.length = out.length + (uTs (ts.take i.toNat)).length := by rw [hcs, List.length_append]
  have hnt := hn t ht
  rw [hut, ← y9 i0 (by simp only [big] at hxb; have := s8 hx; omega)] at hnt
  refine ⟨i0, hq, x, hE, fun hc => ⟨b8K (by rw [hlab, if_pos hc] at hin; simp only [List.length_cons, List.length_nil] at hin; omega), ih _ x t hx ht _ _ _ _ _ ?_ ?_⟩, fun hc => ih _ x t hx ht _ _ _ _ _ ?_ ?_⟩
  ·rw [hlab, if_pos hc] at hin
   rw [List.length_append]; simp only [List.length_cons, List.length_nil] at hin ⊢; omega
  ·rw [hlab, if_pos hc, ← List.append_assoc] at hnt; exact hnt
  ·rw [hlab, if_neg (by rw [hc]; decide)] at hin
   simp only [List.length_nil] at hin; omega
  ·rw [hlab, if_neg (by rw [hc]; decide), List.nil_append] at hnt; exact hnt
 ·rw [hf (by have := hs.1; omega)]
  unfold a0b
  exact h
theorem d2T {x : m7} {t : PT} (hx : SH H x t) : StU H x t := by
 induction hx with
 | @mk e xs ts ys us zs bs vs ws hs hb hr hc hcb hcr ha hab hal har hbs hbb hbl hbr iha ihb =>
  intro cs0 s1 i0' n2 K hlen h
  change n2 (cs0 ++ uTs (us ++ (ts ++ (vs ++ ws))), _) H at h
  change cs0.length + (uTs (us ++ (ts ++ (vs ++ ws)))).length ≤ big at hlen
  rw [a8y, a8y, a8y] at h hlen
  simp only [List.length_append] at hlen
  have r0 := hr.1
  have r1 := hcr.1
  unfold N8
  refine uloop (ts := us) fun i cs next i0 i1 hcs hn hf => ?_
  unfold Z9
  refine ⟨fun hq => ?_, fun hq => ?_⟩
  ·obtain ⟨x, hx, hE⟩ := hc.get i0 hq
   obtain ⟨t, ht⟩ := r6 (l := us) (i := i.toNat) (by have := s8 hx; omega)
   have := b3M ht
   refine ⟨i0, hq, x, hE, c1O (hcr.2 _ x t hx ht) (by rw [hcs, List.length_append]; omega) ?_⟩
   rw [y9 i0 (by simp only [big] at hcb; have := s8 hx; omega)]
   exact hn t ht
  ·rw [hf (by have := hc.1; dsimp only at hq; omega)]
   dsimp only
   clear hn hf next hcs hq cs
   unfold Z8
   refine uloop (ts := ts) fun i cs next i0 i1 hcs hn hf => ?_
   unfold Z7
   refine ⟨fun hq => ?_, fun hq => ?_⟩
   ·obtain ⟨x, hx, hE⟩ := hs.get i0 hq
    obtain ⟨t, ht⟩ := r6 (l := ts) (i := i.toNat) (by have := s8 hx; omega)
    have := b3M ht
    refine ⟨i0, hq, x, hE, b5z (hr.2 _ x t hx ht) (by rw [hcs, List.length_append, List.length_append]; omega) ?_⟩
    rw [y9 i0 (by simp only [big] at hb; have := s8 hx; omega)]
    exact hn t ht
   ·rw [hf (by have := hs.1; dsimp only at hq; omega)]
    unfold Z6
    refine b2C ha hab hal har iha (by simp only [List.length_append]; omega) ?_
    refine b2C hbs hbb hbl hbr ihb (by simp only [List.length_append]; omega) ?_
    unfold Z5
    rw [List.append_assoc, List.append_assoc, List.append_assoc]
    exact h
theorem c9Q {p : o3} {q : PP} (hp : PH H p q) (hb : (uTs q.body).length ≤ big) {K : Sl → Hp → Prop} (h : ∀ s H', Hle H H' → SlH H' 2 t7 s (uTs q.body) → K s H') : a4v p H K := by
 refine b1o _ ?_
 unfold a4E
 obtain ⟨hd, hbd, xs, hsl, hxb, hr⟩ := hp
 refine b2C hsl hxb hr.1 hr.2 (fun i x t a b => d2T (hr.2 i x t a b)) (by simpa using hb) ?_
 rw [List.nil_append]
 intro s H1 l1 hS _
 exact h s H1 l1 hS
theorem c6T {e : m7} {t : PT} (he : SH H e t) {f : Fm} {K : Fm → Hp → Prop} (h : ∀ y, FR f (formT t) (namesT t) y → K y H) : T6 f e H K := by
 induction he generalizing f K with
 | @mk e xs ts ys us zs bs vs ws hs hb hr hc hcb hcr ha hab hal har hbs hbb hbl hbr iha ihb =>
  refine a9h _ _ ?_
  have r0 := hr.1
  have r1 := hcr.1
  have n1 : (e.m6.n : Int) = (ts.length : Int) := by have := hs.1; omega
  have n2 : (e.y6.n : Int) = (us.length : Int) := by have := hc.1; omega
  have n3 : (e.K7.n : Int) = (vs.length : Int) := by have := ha.1; omega
  have n4 : (e.L0.n : Int) = (ws.length : Int) := by have := hbs.1; omega
  have fin : ∀ (i : Int) (s : Fm) (n : Int) (m : Nat), n = (m : Int) → (decide (i < n) && s.fok) = false → ((m : Int) ≤ i ∨ s.fok = false) := by
   intro i s n m hn hc
   by_cases hlt : i < n
   ·right
    cases hq : s.fok
    ·rfl
    ·rw [hq, decide_eq_true hlt] at hc; cases hc
   ·left; omega
  have j1 : ∀ (e' c' : Int) (f' : Fm), f'.fnames = f.fnames → (((((f'.fok && ((decide (e.b7 = 1) || decide (e.b7 = 2)) || decide (e.d9 = ⟨#[]⟩))) && decide ((ts.length : Int) = e')) && decide ((us.length : Int) = c')) && ((decide ((vs.length : Int) = 0) || decide (e.b7 = 3)) || decide (e.b7 = 4))) && (decide ((ws.length : Int) = 0) || decide (e.b7 = 3))) = (f.fok && formS e.b7 e.d9 (ts.length : Int) (us.length : Int) (vs.length : Int) (ws.length : Int)) → B6 e' c' e f' H K := by
   intro e' c' f' hf heq
   unfold B6
   refine b5I ?_
   refine floop (ts := us) fun i s next i0 i1 hk hf' => ?_
   unfold Y2
   refine ⟨fun hq => ?_, fun hq => ?_⟩
   ·obtain ⟨hq1, hq2⟩ := a8x.1 hq
    obtain ⟨x, hx, hE⟩ := hc.get i0 hq1
    obtain ⟨t, ht⟩ := r6 (l := us) (i := i.toNat) (by have := s8 hx; omega)
    refine ⟨i0, hq1, x, hE, c6N (hcr.2 _ x t hx ht) fun y hy => ?_⟩
    rw [y9 i0 (by simp only [big] at hcb; have := s8 hx; omega)]
    exact hk t ht hq2 y hy
   ·have hfin := hf' (fin i s _ _ n2 hq)
    have F1 : FR f (formS e.b7 e.d9 (ts.length : Int) (us.length : Int) (vs.length : Int) (ws.length : Int) && formTs us) (nameOk (.stmt e.b7 e.d9 ts.length us.length vs.length ws.length) && namesTs us) s := by
     refine FR.trans (g := ⟨_, _⟩) ⟨?_, fun _ => ?_⟩ hfin
     ·show (((((f'.fok && _) && decide ((e.m6.n : Int) = e')) && decide ((e.y6.n : Int) = c')) && ((decide ((e.K7.n : Int) = 0) || _) || _)) && (decide ((e.L0.n : Int) = 0) || _)) = _
      rw [n1, n2, n3, n4]; exact heq
     ·show (f'.fnames && _) = _
      rw [hf]; rfl
    clear hk hf' next hq hfin
    unfold Y1
    refine floop (ts := ts) fun i s2 next i0 i1 hk hf' => ?_
    unfold Y0
    refine ⟨fun hq => ?_, fun hq => ?_⟩
    ·obtain ⟨hq1, hq2⟩ := a8x.1 hq
     obtain ⟨x, hx, hE⟩ := hs.get i0 hq1
     obtain ⟨t, ht⟩ := r6 (l := ts) (i := i.toNat) (by have := s8 hx; omega)
     refine ⟨i0, hq1, x, hE, c0F (hr.2 _ x t hx ht) fun y hy => ?_⟩
     rw [y9 i0 (by simp only [big] at hb; have := s8 hx; omega)]
     exact hk t ht hq2 y hy
    ·have F2 := F1.trans (hf' (fin i s2 _ _ n1 hq))
     clear hk hf' next hq
     unfold X9
     refine floop (ts := vs) fun i s3 next i0 i1 hk hf' => ?_
     unfold X8
     refine ⟨fun hq => ?_, fun hq => ?_⟩
     ·obtain ⟨hq1, hq2⟩ := a8x.1 hq
      obtain ⟨x, hx, hE⟩ := ha.get i0 hq1
      obtain ⟨t, ht⟩ := r6 (l := vs) (i := i.toNat) (by have := s8 hx; omega)
      refine ⟨i0, hq1, x, hE, iha _ x t hx ht fun y hy => ?_⟩
      rw [y9 i0 (by simp only [big] at hab; have := s8 hx; omega)]
      exact hk t ht hq2 y hy
     ·have F3 := F2.trans (hf' (fin i s3 _ _ n3 hq))
      clear hk hf' next hq
      unfold X7
      refine floop (ts := ws) fun i s4 next i0 i1 hk hf' => ?_
      unfold X6
      refine ⟨fun hq => ?_, fun hq => ?_⟩
      ·obtain ⟨hq1, hq2⟩ := a8x.1 hq
       obtain ⟨x, hx, hE⟩ := hbs.get i0 hq1
       obtain ⟨t, ht⟩ := r6 (l := ws) (i := i.toNat) (by have := s8 hx; omega)
       refine ⟨i0, hq1, x, hE, ihb _ x t hx ht fun y hy => ?_⟩
       rw [y9 i0 (by simp only [big] at hbb; have := s8 hx; omega)]
       exact hk t ht hq2 y hy
      ·have F4 := F3.trans (hf' (fin i s4 _ _ n4 hq))
       refine h _ ?_
       rw [formT, namesT, a2y, a2y, a2y, a4m, a4m, a4m]
       simp only [Bool.and_assoc] at F4 ⊢
       exact F4
  have eqv : ∀ (e' c' : Int), (e.b7 = 1 ∧ e' = 1 ∧ c' = 0 ∨ e.b7 = 2 ∧ e' = 2 ∧ c' = 0 ∨ (e.b7 = 3 ∨ e.b7 = 4 ∨ e.b7 = 5 ∨ e.b7 = 6) ∧ e' = 0 ∧ c' = 1 ∨ e.b7 = 7 ∧ e' = 0 ∧ c' = 0) → (((((f.fok && ((decide (e.b7 = 1) || decide (e.b7 = 2)) || decide (e.d9 = ⟨#[]⟩))) && decide ((ts.length : Int) = e')) && decide ((us.length : Int) = c')) && ((decide ((vs.length : Int) = 0) || decide (e.b7 = 3)) || decide (e.b7 = 4))) && (decide ((ws.length : Int) = 0) || decide (e.b7 = 3))) = (f.fok && formS e.b7 e.d9 (ts.length : Int) (us.length : Int) (vs.length : Int) (ws.length : Int)) := by
   intro e' c' hk
   simp only [Bool.and_assoc]
   congr 1
   rw [Bool.eq_iff_iff]
   generalize (ts.length : Int) = a
   generalize (us.length : Int) = b
   have hv : (0 : Int) ≤ (vs.length : Int) := by omega
   have hw : (0 : Int) ≤ (ws.length : Int) := by omega
   generalize (vs.length : Int) = c at hv ⊢
   generalize (ws.length : Int) = d at hw ⊢
   generalize e.b7 = k at hk ⊢
   by_cases hsn : e.d9 = ⟨#[]⟩
   all_goals
    unfold formS
    rcases hk with ⟨rfl, rfl, rfl⟩ | ⟨rfl, rfl, rfl⟩ | ⟨rfl | rfl | rfl | rfl, rfl, rfl⟩ | ⟨rfl, rfl, rfl⟩ <;> simp [hsn] <;> omega
  have no : ¬ (e.b7 = 1 ∨ e.b7 = 2 ∨ e.b7 = 3 ∨ e.b7 = 4 ∨ e.b7 = 5 ∨ e.b7 = 6 ∨ e.b7 = 7) → formS e.b7 e.d9 (ts.length : Int) (us.length : Int) (vs.length : Int) (ws.length : Int) = false := by
   intro hk
   unfold formS
   rw [if_neg (by omega), if_neg (by omega), if_neg (by omega), if_neg (by omega), if_neg (by omega), if_neg (by omega)]
  have j9 : ∀ b : Bool, (b = true ↔ (e.b7 = 3 ∨ e.b7 = 4 ∨ e.b7 = 5 ∨ e.b7 = 6)) → ¬ (e.b7 = 1 ∨ e.b7 = 2) → E4 0 0 e.b7 b e f H K := by
   intro b hq hno
   unfold E4
   refine ⟨fun q => j1 0 1 f rfl (eqv 0 1 (.inr (.inr (.inl ⟨hq.1 q, rfl, rfl⟩)))), fun q => ⟨fun e7 => j1 0 0 f rfl (eqv 0 0 (.inr (.inr (.inr ⟨e7, rfl, rfl⟩)))), fun e7 => j1 0 0 _ rfl ?_⟩⟩
   have := mt hq.2 (by rw [q]; decide)
   rw [no (by omega), Bool.and_false]; rfl
  unfold a2N
  refine ⟨fun e1 => j1 1 0 f rfl (eqv 1 0 (.inl ⟨e1, rfl, rfl⟩)), fun e1 => ⟨fun e2 => j1 2 0 f rfl (eqv 2 0 (.inr (.inl ⟨e2, rfl, rfl⟩))), fun e2 => ⟨fun e3 => j9 _ ?_ (by omega), fun e3 => ⟨fun e4 => j9 _ ?_ (by omega), fun e4 => ⟨fun e5 => j9 _ ?_ (by omega), fun e5 => j9 _ ?_ (by omega)⟩⟩⟩⟩⟩ <;> (rw [decide_eq_true_eq]; omega)
theorem c5s {p : o3} {q : PP} (hp : PH H p q) {K : Int → Hp → Prop} (h : K (toldS q.nodes) H) : a4b p H K := by
 refine b0p _ ?_
 unfold a4f
 refine c4N hp ⟨fun hb => ?_, fun hb => ?_⟩
 ·unfold toldS at h
  rw [if_neg hb] at h; exact h
 obtain ⟨hd, hbd, xs, hsl, hxb, hr⟩ := hp
 have n1 := hd.1; have n2 := hsl.1; have r0 := hr.1
 refine T9 (fun (z : Int × Fm) H' => 0 ≤ z.1 ∧ z.1 ≤ q.decls.length ∧ H' = H ∧ FR ⟨true, true⟩ (formTs ((q.decls.map dT).take z.1.toNat)) (namesTs ((q.decls.map dT).take z.1.toNat)) z.2) (fun z => (q.decls.length - z.1).toNat) ⟨Int.le_refl _, by simp, rfl, by simpa [formTs, namesTs] using FR.refl ⟨true, true⟩⟩ ?_
 rintro ⟨i, s⟩ H1 next ⟨i0, i1, rfl, hs⟩ hn
 dsimp only at i0 i1 hs ⊢
 unfold a1b
 refine ⟨fun hq => ?_, fun hq => ?_⟩
 ·obtain ⟨x, hx, hE⟩ := hd.get i0 hq
  have hlt := s8 hx
  have hx' : (q.decls.map dT)[i.toNat]? = some (dT x) := by rw [List.getElem?_map, hx]; rfl
  refine ⟨x, fun _ => ⟨i0, hq, hE⟩, x, fun _ => ⟨i0, hq, hE⟩, i0, hq, x, hE, b5I ?_⟩
  rw [y9 i0 (by simp only [big] at hbd; omega)]
  refine hn _ _ ⟨by dsimp only; omega, by dsimp only; omega, rfl, ?_⟩ (by dsimp only; omega)
  dsimp only
  rw [show (i + 1).toNat = i.toNat + 1 by omega, b8J hx', b6A hx']
  refine hs.trans ⟨?_, fun _ => ?_⟩
  ·unfold dT
   rw [formT, formTs]
   show (((s.fok && _) && _) && (true || _)) = (s.fok && ((_ && _) && true))
   simp only [Bool.true_or, Bool.and_true, Bool.and_assoc]
  ·unfold dT
   rw [namesT, namesTs]
   show (s.fnames && (if true = true then nameS x.d9 else true)) = _
   unfold nameOk nameL
   rw [Bool.and_true]
 ·rw [List.take_of_length_le (by rw [List.length_map]; omega)] at hs
  clear hn next
  unfold a0Z
  refine floop (ts := q.body) fun j s2 next j0 j1 hk hf' => ?_
  unfold a0Y
  refine ⟨fun hq => ?_, fun hq => ?_⟩
  ·obtain ⟨hq1, hq2⟩ := a8x.1 hq
   obtain ⟨x, hx, hE⟩ := hsl.get j0 hq1
   obtain ⟨t, ht⟩ := r6 (l := q.body) (i := j.toNat) (by have := s8 hx; omega)
   refine ⟨j0, hq1, x, hE, c6T (hr.2 _ x t hx ht) fun y hy => ?_⟩
   rw [y9 j0 (by simp only [big] at hxb; have := s8 hx; omega)]
   exact hk t ht hq2 y hy
  ·have hfin := hs.trans (hf' (by
    by_cases hlt : j < (p.a2f.n : Int)
    ·right
     cases hqq : s2.fok
     ·rfl
     ·dsimp only at hq; rw [hqq, decide_eq_true hlt] at hq; cases hq
    ·left; omega))
   rw [← a2y, ← a4m] at hfin
   unfold a0X
   refine c6O ?_
   have := c9l (ts := q.nodes) hfin hb
   rw [this]; exact h
theorem c0I {q : PP} (h : toldS q.nodes = 0) : (wTs q.nodes 1 w0S).fbad = 0 ∧ (allV q).1 = true ∧ (allV q).2.n = (wTs q.nodes 1 w0S).fn ∧ (allV q).2.d = (wTs q.nodes 1 w0S).fdepth ∧ (allV q).2.ns = putAll [] (nTs q.nodes) := by
 have hb : (wTs q.nodes 1 w0S).fbad = 0 := by
  unfold toldS at h
  by_cases hq : (wTs q.nodes 1 w0S).fbad = 0
  ·exact hq
  ·rw [if_neg hq] at h; exact h
 have hs := c7E q.nodes
 have hr : (allV q).1 = true := by
  cases hq : (allV q).1
  ·obtain ⟨h1, h2⟩ := hs.2 hq
   omega
  ·rfl
 obtain ⟨h1, _⟩ := hs.1 hr
 exact ⟨hb, hr, by rw [h1]; rfl, by rw [h1]; rfl, c0G q.nodes 1 v0 hr⟩
end
end Go.Proofs.YtnhkdkcgdcgmdaaGreatDoor
