/- Which names a program has; the document's check of a program, its size, its names. The law TreeChecks. -/
import Derived.Test.YthldnpmfelniiaaDoorzLQ8
import Derived.Test.YthldnpmfelniiaaDoorzLV1y
namespace Go.Proofs.YthldnpmfelniiaaDoor
open Go.RowKit
set_option maxRecDepth 100000
set_option maxHeartbeats 2000000
def namL (l : Lab) : List ByteArray := if (nameL l).2 = true then [(nameL l).1] else []
mutual
def nT : PT → List ByteArray
  | .mk l cs => namL l ++ nTs cs
def nTs : List PT → List ByteArray
  | [] => []
  | t :: ts => nT t ++ nTs ts
end
def putAll (l : List ByteArray) (xs : List ByteArray) : List ByteArray := xs.foldl putS l
theorem b1u (l a b : List ByteArray) : putAll l (a ++ b) = putAll (putAll l a) b := by unfold putAll; rw [List.foldl_append]
theorem c4v (v : V) (l : Lab) (d : Int) (h : (vMeet v l d).1 = true) : (vMeet v l d).2.ns = putAll v.ns (namL l) := by
  unfold vMeet at h ⊢
  unfold namL
  split at h
  · cases h
  · rename_i h1
    rw [if_neg h1]
    split at h
    · cases h
    · rename_i h2
      rw [if_neg h2]
      dsimp only
      split <;> rfl
mutual
theorem d8Z : ∀ (t : PT) (d : Int) (v : V), (vT t d v).1 = true → (vT t d v).2.ns = putAll v.ns (nT t)
  | .mk l cs, d, v => by
    rw [vT, nT]
    by_cases hq : (vMeet v l d).1 = true
    · rw [if_pos hq]
      intro h
      rw [b5Q cs (d + 1) _ h, c4v v l d hq, b1u]
    · rw [if_neg hq]; exact fun h => (hq h).elim
theorem b5Q : ∀ (ts : List PT) (d : Int) (v : V), (vTs ts d v).1 = true → (vTs ts d v).2.ns = putAll v.ns (nTs ts)
  | [], d, v => by rw [vTs, nTs]; exact fun _ => rfl
  | t :: ts, d, v => by
    rw [vTs, nTs]
    by_cases hq : (vT t d v).1 = true
    · rw [if_pos hq]
      intro h
      rw [b5Q ts d _ h, d8Z t d v hq, b1u]
    · rw [if_neg hq]; exact fun h => (hq h).elim
end
abbrev Us := a8
def useL : Lab → List Us
  | .decl _ _ => []
  | .cond .. => []
  | .expr k _ s _ => if (decide (k = 2) || decide (k = 4)) = true then [⟨s, decide (k = 4)⟩] else []
  | .stmt k s _ _ _ _ => if (decide (k = 1) || decide (k = 2)) = true then [⟨s, decide (k = 2)⟩] else []
mutual
def uT : PT → List Us
  | .mk l cs => useL l ++ uTs cs
def uTs : List PT → List Us
  | [] => []
  | t :: ts => uT t ++ uTs ts
end
theorem a3E : ∀ a b : List PT, uTs (a ++ b) = uTs a ++ uTs b
  | [], b => by rw [List.nil_append, uTs, List.nil_append]
  | t :: a, b => by rw [List.cons_append, uTs, uTs, a3E a b, List.append_assoc]
theorem c1z {ts : List PT} {i : Nat} {t : PT} (h : ts[i]? = some t) : uTs (ts.take (i + 1)) = uTs (ts.take i) ++ uT t := by
  rw [M8 h, a3E, uTs, uTs, List.append_nil]
theorem d5p (ts : List PT) (i : Nat) : (uTs (ts.take i)).length ≤ (uTs ts).length := by
  have := a3E (ts.take i) (ts.drop i)
  rw [List.take_append_drop] at this
  rw [this, List.length_append]; omega
theorem a9o {ts : List PT} {i : Nat} {t : PT} (h : ts[i]? = some t) : (uTs (ts.take i)).length + (uT t).length ≤ (uTs ts).length := by
  have := d5p ts (i + 1)
  rw [c1z h, List.length_append] at this; exact this
mutual
def cT : PT → Nat
  | .mk _ cs => 1 + cTs cs
def cTs : List PT → Nat
  | [] => 0
  | t :: ts => cT t + cTs ts
end
theorem b6Z : ∀ a b : List PT, cTs (a ++ b) = cTs a + cTs b
  | [], b => by rw [List.nil_append, cTs, Nat.zero_add]
  | t :: a, b => by rw [List.cons_append, cTs, cTs, b6Z a b, Nat.add_assoc]
theorem c4w (l : Lab) : (useL l).length ≤ 1 := by
  cases l <;> simp only [useL] <;> (try split) <;> simp
mutual
theorem d5q : ∀ t : PT, (uT t).length ≤ cT t
  | .mk l cs => by rw [uT, cT, List.length_append]; have := c4w l; have := b2B cs; omega
theorem b2B : ∀ ts : List PT, (uTs ts).length ≤ cTs ts
  | [] => by rw [uTs, cTs]; exact Nat.le_refl _
  | t :: ts => by rw [uTs, cTs, List.length_append]; have := d5q t; have := b2B ts; omega
end
mutual
theorem d5r : ∀ (t : PT) (d : Int) (s : W), (wT t d s).fbad = 0 → (wT t d s).fn = s.fn + cT t
  | .mk l cs, d, s, h => by
    rw [wT] at h ⊢
    rw [a9p cs _ _ h, cT]
    have hb : (wStep s d).fbad = 0 := by
      by_cases hq : (wStep s d).fbad = 0
      · exact hq
      · rw [a4H _ _ _ hq] at h; exact h
    unfold wStep at hb ⊢
    split at hb
    · rename_i h1
      rw [if_pos h1]
      split at hb
      · cases hb
      · rename_i h2
        rw [if_neg h2]
        split at hb
        · cases hb
        · rename_i h3
          rw [if_neg h3]; dsimp only; omega
    · rename_i h1; exact (h1 hb).elim
theorem a9p : ∀ (ts : List PT) (d : Int) (s : W), (wTs ts d s).fbad = 0 → (wTs ts d s).fn = s.fn + cTs ts
  | [], d, s, h => by rw [wTs, cTs]; simp
  | t :: ts, d, s, h => by
    rw [wTs] at h ⊢
    rw [a9p ts _ _ h, cTs]
    have hb : (wT t d s).fbad = 0 := by
      by_cases hq : (wT t d s).fbad = 0
      · exact hq
      · rw [a4H _ _ _ hq] at h; exact h
    rw [d5r t d s hb]; omega
end
theorem b7a {ts : List PT} (h : (wTs ts 1 w0S).fbad = 0) : cTs ts ≤ 4096 := by
  have h1 := a9p ts 1 w0S h
  have h2 := (b5v ts 1 w0S d8H).2
  have h3 : w0S.fn = 0 := rfl
  omega
inductive Nd : PT → Prop
  | mk {l : Lab} {cs : List PT} : (∀ z s, l ≠ .decl z s) → (∀ t ∈ cs, Nd t) → Nd (.mk l cs)
theorem a3Q {α : Type} {R : α → PT → Prop} {xs : List α} {ts : List PT} (hl : xs.length = ts.length) (h : ∀ (i : Nat) (x : α) (t : PT), xs[i]? = some x → ts[i]? = some t → Nd t) : ∀ t ∈ ts, Nd t := fun t ht => by
  obtain ⟨i, hi⟩ := List.mem_iff_getElem?.1 ht
  obtain ⟨x, hx⟩ := P9 (l := xs) (i := i) (by rw [hl]; exact u1 hi)
  exact h i x t hx hi
theorem b1v {a b : List PT} (ha : ∀ t ∈ a, Nd t) (hb : ∀ t ∈ b, Nd t) : ∀ t ∈ a ++ b, Nd t := fun t h => (List.mem_append.1 h).elim (ha t) (hb t)
theorem EH.nd {H : Hp} {e : i6} {t : PT} (h : EH H e t) : Nd t := by
  induction h with
  | mk hs hb hl _ ih => exact .mk (fun z s e => by cases e) (a3Q (R := EH H) hl ih)
theorem CH.nd {H : Hp} {e : i7} {t : PT} (h : CH H e t) : Nd t := by
  induction h with
  | mk hs hb hr hc hcb hl _ ih => exact .mk (fun z s e => by cases e) (b1v (a3Q (R := EH H) hr.1 fun i x t a b => (hr.2 i x t a b).nd) (a3Q (R := CH H) hl ih))
theorem SH.nd {H : Hp} {e : i8} {t : PT} (h : SH H e t) : Nd t := by
  induction h with
  | mk hs hb hr hc hcb hcr ha hab hal _ hbs hbb hbl _ ih1 ih2 =>
    exact .mk (fun z s e => by cases e) (b1v (a3Q (R := CH H) hcr.1 fun i x t a b => (hcr.2 i x t a b).nd) (b1v (a3Q (R := EH H) hr.1 fun i x t a b => (hr.2 i x t a b).nd) (b1v (a3Q (R := SH H) hal ih1) (a3Q (R := SH H) hbl ih2))))
section
variable {H : Hp}
theorem uloop {ts : List PT} {out : List Us} {body : List Us × Int → Hp → (List Us × Int → Hp → Prop) → Prop}
    (hb : ∀ (i : Int) (cs : List Us) (next : List Us × Int → Hp → Prop), 0 ≤ i → i ≤ ts.length → cs = out ++ uTs (ts.take i.toNat) → (∀ t, ts[i.toNat]? = some t → next (cs ++ uT t, i + 1) H) → (ts.length ≤ i → cs = out ++ uTs ts) → body (cs, i) H next) : TL ((out, 0) : List Us × Int) H body := by
  refine Y5 (fun (q : List Us × Int) H' => 0 ≤ q.2 ∧ q.2 ≤ ts.length ∧ H' = H ∧ q.1 = out ++ uTs (ts.take q.2.toNat)) (fun q => (ts.length - q.2).toNat) ⟨Int.le_refl _, by simp, rfl, by simp [uTs]⟩ ?_
  rintro ⟨cs, i⟩ H1 next ⟨i0, i1, rfl, hs⟩ hn
  dsimp only at i0 i1 hs ⊢
  refine hb i cs next i0 i1 hs (fun t ht => ?_) fun he => ?_
  · have := u1 ht
    refine hn _ _ ⟨by dsimp only; omega, by dsimp only; omega, rfl, ?_⟩ (by dsimp only; omega)
    dsimp only
    rw [show (i + 1).toNat = i.toNat + 1 by omega, c1z ht, hs, List.append_assoc]
  · rw [hs, List.take_of_length_le (by omega)]
theorem b2U {n : Nat} (h : n + 1 ≤ big) {u : Us} : (n + ([u] : List Us).length) * 25 ≤ 140737488355328 := by
  simp only [big] at h; simp only [List.length_cons, List.length_nil]; omega
theorem a9D {e : i6} {t : PT} (he : EH H e t) {out : List Us} (hb : out.length + (uT t).length ≤ big) {K : List Us → Hp → Prop} (h : K (out ++ uT t) H) : D1 out e H K := by
  induction he generalizing out K with
  | @mk e xs ts hs hxb hl _ ih =>
    refine a3B _ _ ?_
    rw [uT] at h hb
    rw [List.length_append] at hb
    have go : ∀ out' : List Us, out' = out ++ useL (.expr e.c7 e.W2 e.g8 ts.length) → v2 out' e H K := by
      rintro out' rfl
      unfold v2
      refine uloop (ts := ts) fun i cs next i0 i1 hcs hn hf => ?_
      unfold F0
      refine ⟨fun hc => ?_, fun hc => ?_⟩
      · obtain ⟨x, hx, hE⟩ := hs.get i0 hc
        obtain ⟨t, ht⟩ := P9 (l := ts) (i := i.toNat) (by have := u1 hx; omega)
        have := a9o ht
        refine ⟨i0, hc, x, hE, ih _ x t hx ht (by rw [hcs, List.length_append, List.length_append]; omega) ?_⟩
        rw [C4 i0 (by simp only [big] at hxb; have := u1 hx; omega)]
        exact hn t ht
      · rw [hf (by have := hs.1; dsimp only at hc; omega)]
        unfold E9
        rw [List.append_assoc]; exact h
    unfold I9
    refine ⟨fun hc => ⟨b2U (by simp only [useL, if_pos hc, List.length_cons, List.length_nil] at hb; omega), go _ ?_⟩, fun hc => go _ ?_⟩
    · simp only [useL, if_pos hc]
    · simp only [useL]; rw [if_neg (by rw [hc]; decide), List.append_nil]
theorem b6C {e : i7} {t : PT} (he : CH H e t) {out : List Us} (hb : out.length + (uT t).length ≤ big) {K : List Us → Hp → Prop} (h : K (out ++ uT t) H) : I0 out e H K := by
  induction he generalizing out K with
  | @mk e xs ts ys us hs hxb hr hc hcb hcl _ ih =>
    refine a3C _ _ ?_
    rw [uT] at h hb
    change K (out ++ ([] ++ uTs (ts ++ us))) H at h
    change out.length + ([] ++ uTs (ts ++ us)).length ≤ big at hb
    rw [List.nil_append, a3E] at h hb
    rw [List.length_append] at hb
    have r0 := hr.1
    unfold J0
    refine uloop (ts := ts) fun i cs next i0 i1 hcs hn hf => ?_
    unfold F5
    refine ⟨fun hq => ?_, fun hq => ?_⟩
    · obtain ⟨x, hx, hE⟩ := hs.get i0 hq
      obtain ⟨t, ht⟩ := P9 (l := ts) (i := i.toNat) (by have := u1 hx; omega)
      have := a9o ht
      refine ⟨i0, hq, x, hE, a9D (hr.2 _ x t hx ht) (by rw [hcs, List.length_append]; omega) ?_⟩
      rw [C4 i0 (by simp only [big] at hxb; have := u1 hx; omega)]
      exact hn t ht
    · rw [hf (by have := hs.1; dsimp only at hq; omega)]
      dsimp only
      clear hn hf next hcs hq cs
      unfold F4
      refine uloop (ts := us) fun i cs next i0 i1 hcs hn hf => ?_
      unfold F3
      refine ⟨fun hq => ?_, fun hq => ?_⟩
      · obtain ⟨x, hx, hE⟩ := hc.get i0 hq
        obtain ⟨t, ht⟩ := P9 (l := us) (i := i.toNat) (by have := u1 hx; omega)
        have := a9o ht
        refine ⟨i0, hq, x, hE, ih _ x t hx ht (by rw [hcs, List.length_append, List.length_append]; omega) ?_⟩
        rw [C4 i0 (by simp only [big] at hcb; have := u1 hx; omega)]
        exact hn t ht
      · rw [hf (by have := hc.1; dsimp only at hq; omega)]
        unfold F1
        rw [List.append_assoc]; exact h
def StU (H : Hp) (x : i8) (t : PT) : Prop := ∀ (cs : List Us) (s1 : Sl) (i : Int) (n2 : List Us × Int → Hp → Prop) (K : List Us → Hp → Prop), cs.length + (uTs t.kids).length ≤ big → n2 (cs ++ uTs t.kids, IntKind.wrap .i64 (i + 1)) H → v6 cs s1 i x H n2 K
theorem a6i {s : Sl} {xs : List i8} {ts : List PT} (hs : SlH H 6 d5 s xs) (hxb : xs.length ≤ big) (hl : xs.length = ts.length) (hr : ∀ (i : Nat) (x : i8) (t : PT), xs[i]? = some x → ts[i]? = some t → SH H x t) (ih : ∀ (i : Nat) (x : i8) (t : PT), xs[i]? = some x → ts[i]? = some t → StU H x t)
    {out : List Us} (hb : out.length + (uTs ts).length ≤ big) {K : List Us → Hp → Prop} (h : K (out ++ uTs ts) H) : D2 out s H K := by
  refine a3D _ _ ?_
  unfold J1
  refine uloop (ts := ts) fun i cs next i0 i1 hcs hn hf => ?_
  unfold G4
  dsimp only
  refine ⟨fun hq => ?_, fun hq => ?_⟩
  · obtain ⟨x, hx, hE⟩ := hs.get i0 hq
    obtain ⟨t, ht⟩ := P9 (l := ts) (i := i.toNat) (by have := u1 hx; omega)
    have hin := a9o ht
    have hut : uT t = useL t.lab ++ uTs t.kids := by cases t; rw [uT]; rfl
    rw [hut, List.length_append] at hin
    have hlab : useL t.lab = if (decide (x.c7 = 1) || decide (x.c7 = 2)) = true then [⟨x.g8, decide (x.c7 = 2)⟩] else [] := by
      cases hr _ x t hx ht; rfl
    have hcl : cs.length = out.length + (uTs (ts.take i.toNat)).length := by rw [hcs, List.length_append]
    have hnt := hn t ht
    rw [hut, ← C4 i0 (by simp only [big] at hxb; have := u1 hx; omega)] at hnt
    refine ⟨i0, hq, x, hE, fun hc => ⟨b2U (by rw [hlab, if_pos hc] at hin; simp only [List.length_cons, List.length_nil] at hin; omega), ih _ x t hx ht _ _ _ _ _ ?_ ?_⟩, fun hc => ih _ x t hx ht _ _ _ _ _ ?_ ?_⟩
    · rw [hlab, if_pos hc] at hin
      rw [List.length_append]; simp only [List.length_cons, List.length_nil] at hin ⊢; omega
    · rw [hlab, if_pos hc, ← List.append_assoc] at hnt; exact hnt
    · rw [hlab, if_neg (by rw [hc]; decide)] at hin
      simp only [List.length_nil] at hin; omega
    · rw [hlab, if_neg (by rw [hc]; decide), List.nil_append] at hnt; exact hnt
  · rw [hf (by have := hs.1; omega)]
    unfold G3
    exact h
theorem d5s {x : i8} {t : PT} (hx : SH H x t) : StU H x t := by
  induction hx with
  | @mk e xs ts ys us zs bs vs ws hs hb hr hc hcb hcr ha hab hal har hbs hbb hbl hbr iha ihb =>
    intro cs0 s1 i0' n2 K hlen h
    change n2 (cs0 ++ uTs (us ++ (ts ++ (vs ++ ws))), _) H at h
    change cs0.length + (uTs (us ++ (ts ++ (vs ++ ws)))).length ≤ big at hlen
    rw [a3E, a3E, a3E] at h hlen
    simp only [List.length_append] at hlen
    have r0 := hr.1
    have r1 := hcr.1
    unfold v6
    refine uloop (ts := us) fun i cs next i0 i1 hcs hn hf => ?_
    unfold G2
    refine ⟨fun hq => ?_, fun hq => ?_⟩
    · obtain ⟨x, hx, hE⟩ := hc.get i0 hq
      obtain ⟨t, ht⟩ := P9 (l := us) (i := i.toNat) (by have := u1 hx; omega)
      have := a9o ht
      refine ⟨i0, hq, x, hE, b6C (hcr.2 _ x t hx ht) (by rw [hcs, List.length_append]; omega) ?_⟩
      rw [C4 i0 (by simp only [big] at hcb; have := u1 hx; omega)]
      exact hn t ht
    · rw [hf (by have := hc.1; dsimp only at hq; omega)]
      dsimp only
      clear hn hf next hcs hq cs
      unfold G1
      refine uloop (ts := ts) fun i cs next i0 i1 hcs hn hf => ?_
      unfold F9
      refine ⟨fun hq => ?_, fun hq => ?_⟩
      · obtain ⟨x, hx, hE⟩ := hs.get i0 hq
        obtain ⟨t, ht⟩ := P9 (l := ts) (i := i.toNat) (by have := u1 hx; omega)
        have := a9o ht
        refine ⟨i0, hq, x, hE, a9D (hr.2 _ x t hx ht) (by rw [hcs, List.length_append, List.length_append]; omega) ?_⟩
        rw [C4 i0 (by simp only [big] at hb; have := u1 hx; omega)]
        exact hn t ht
      · rw [hf (by have := hs.1; dsimp only at hq; omega)]
        unfold F7
        refine a6i ha hab hal har iha (by simp only [List.length_append]; omega) ?_
        refine a6i hbs hbb hbl hbr ihb (by simp only [List.length_append]; omega) ?_
        unfold F6
        rw [List.append_assoc, List.append_assoc, List.append_assoc]
        exact h
theorem c7P {p : i5} {q : PP} (hp : PH H p q) (hb : (uTs q.body).length ≤ big) {K : Sl → Hp → Prop} (h : ∀ s H', Hle H H' → SlH H' 2 d6 s (uTs q.body) → K s H') : V0 p H K := by
  refine a5t _ ?_
  unfold N7
  obtain ⟨hd, hbd, xs, hsl, hxb, hr⟩ := hp
  refine a6i hsl hxb hr.1 hr.2 (fun i x t a b => d5s (hr.2 i x t a b)) (by simpa using hb) ?_
  rw [List.nil_append]
  intro s H1 l1 hS _
  exact h s H1 l1 hS
theorem b0s {q : PP} (h : toldS q.nodes = 0) : (wTs q.nodes 1 w0S).fbad = 0 ∧ (allV q).1 = true ∧ (allV q).2.n = (wTs q.nodes 1 w0S).fn ∧ (allV q).2.d = (wTs q.nodes 1 w0S).fdepth ∧ (allV q).2.ns = putAll [] (nTs q.nodes) := by
  have hb : (wTs q.nodes 1 w0S).fbad = 0 := by
    unfold toldS at h
    by_cases hq : (wTs q.nodes 1 w0S).fbad = 0
    · exact hq
    · rw [if_neg hq] at h; exact h
  have hs := c5d q.nodes
  have hr : (allV q).1 = true := by
    cases hq : (allV q).1
    · obtain ⟨h1, h2⟩ := hs.2 hq
      omega
    · rfl
  obtain ⟨h1, _⟩ := hs.1 hr
  exact ⟨hb, hr, by rw [h1]; rfl, by rw [h1]; rfl, b5Q q.nodes 1 v0 hr⟩
end
end Go.Proofs.YthldnpmfelniiaaDoor
