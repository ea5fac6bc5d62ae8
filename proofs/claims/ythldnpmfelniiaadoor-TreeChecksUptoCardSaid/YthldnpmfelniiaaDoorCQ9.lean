/- Which names a program has; the document's check of a program, its size, its names. The law TreeChecks. -/
import Derived.Test.YthldnpmfelniiaaDoorCQ8
import Derived.Test.YthldnpmfelniiaaDoorCV1y
namespace Go.Proofs.YthldnpmfelniiaaDoor
open Go.RowKit
set_option maxRecDepth 100000
set_option maxHeartbeats 2000000
def namL (l : Lab) : List ByteArray := if (nameL l).2 = true then [(nameL l).1] else []
mutual
def nT : PT → List ByteArray
  | .mk l cs => namL l ++ nTs cs
def nTs : List PT → List ByteArray
  | [] => []
  | t :: ts => nT t ++ nTs ts
end
theorem c8w : ∀ a b : List PT, nTs (a ++ b) = nTs a ++ nTs b
  | [], b => by rw [List.nil_append, nTs, List.nil_append]
  | t :: a, b => by rw [List.cons_append, nTs, nTs, c8w a b, List.append_assoc]
def putAll (l : List ByteArray) (xs : List ByteArray) : List ByteArray := xs.foldl putS l
theorem a8v (l a b : List ByteArray) : putAll l (a ++ b) = putAll (putAll l a) b := by unfold putAll; rw [List.foldl_append]
theorem b0C : ∀ (xs l : List ByteArray), (putAll l xs).length ≤ l.length + xs.length
  | [], l => Nat.le_refl _
  | x :: xs, l => by
    have h1 := b0C xs (putS l x)
    have h2 := c5J l x
    show (putAll (putS l x) xs).length ≤ _
    rw [List.length_cons]; omega
theorem d8C (v : V) (l : Lab) (d : Int) (h : (vMeet v l d).1 = true) : (vMeet v l d).2.ns = putAll v.ns (namL l) := by
  unfold vMeet at h ⊢
  unfold namL
  split at h
  · cases h
  · rename_i h1
    rw [if_neg h1]
    split at h
    · cases h
    · rename_i h2
      rw [if_neg h2]
      dsimp only
      split <;> rfl
mutual
theorem g1K : ∀ (t : PT) (d : Int) (v : V), (vT t d v).1 = true → (vT t d v).2.ns = putAll v.ns (nT t)
  | .mk l cs, d, v => by
    rw [vT, nT]
    by_cases hq : (vMeet v l d).1 = true
    · rw [if_pos hq]
      intro h
      rw [c7t cs (d + 1) _ h, d8C v l d hq, a8v]
    · rw [if_neg hq]; exact fun h => (hq h).elim
theorem c7t : ∀ (ts : List PT) (d : Int) (v : V), (vTs ts d v).1 = true → (vTs ts d v).2.ns = putAll v.ns (nTs ts)
  | [], d, v => by rw [vTs, nTs]; exact fun _ => rfl
  | t :: ts, d, v => by
    rw [vTs, nTs]
    by_cases hq : (vT t d v).1 = true
    · rw [if_pos hq]
      intro h
      rw [c7t ts d _ h, g1K t d v hq, a8v]
    · rw [if_neg hq]; exact fun h => (hq h).elim
end
abbrev Us := c5
def useL : Lab → List Us
  | .decl _ _ => []
  | .cond .. => []
  | .expr k _ s _ => if (decide (k = 2) || decide (k = 4)) = true then [⟨s, decide (k = 4)⟩] else []
  | .stmt k s _ _ _ _ => if (decide (k = 1) || decide (k = 2)) = true then [⟨s, decide (k = 2)⟩] else []
mutual
def uT : PT → List Us
  | .mk l cs => useL l ++ uTs cs
def uTs : List PT → List Us
  | [] => []
  | t :: ts => uT t ++ uTs ts
end
theorem a9o : ∀ a b : List PT, uTs (a ++ b) = uTs a ++ uTs b
  | [], b => by rw [List.nil_append, uTs, List.nil_append]
  | t :: a, b => by rw [List.cons_append, uTs, uTs, a9o a b, List.append_assoc]
theorem d4y {ts : List PT} {i : Nat} {t : PT} (h : ts[i]? = some t) : uTs (ts.take (i + 1)) = uTs (ts.take i) ++ uT t := by
  rw [a1g h, a9o, uTs, uTs, List.append_nil]
theorem f7V (ts : List PT) (i : Nat) : (uTs (ts.take i)).length ≤ (uTs ts).length := by
  have := a9o (ts.take i) (ts.drop i)
  rw [List.take_append_drop] at this
  rw [this, List.length_append]; omega
theorem b7L {ts : List PT} {i : Nat} {t : PT} (h : ts[i]? = some t) : (uTs (ts.take i)).length + (uT t).length ≤ (uTs ts).length := by
  have := f7V ts (i + 1)
  rw [d4y h, List.length_append] at this; exact this
mutual
def cT : PT → Nat
  | .mk _ cs => 1 + cTs cs
def cTs : List PT → Nat
  | [] => 0
  | t :: ts => cT t + cTs ts
end
theorem b7M : ∀ a b : List PT, cTs (a ++ b) = cTs a + cTs b
  | [], b => by rw [List.nil_append, cTs, Nat.zero_add]
  | t :: a, b => by rw [List.cons_append, cTs, cTs, b7M a b, Nat.add_assoc]
theorem d8D (l : Lab) : (useL l).length ≤ 1 := by
  cases l <;> simp only [useL] <;> (try split) <;> simp
mutual
theorem f7W : ∀ t : PT, (uT t).length ≤ cT t
  | .mk l cs => by rw [uT, cT, List.length_append]; have := d8D l; have := b7N cs; omega
theorem b7N : ∀ ts : List PT, (uTs ts).length ≤ cTs ts
  | [] => by rw [uTs, cTs]; exact Nat.le_refl _
  | t :: ts => by rw [uTs, cTs, List.length_append]; have := f7W t; have := b7N ts; omega
end
mutual
theorem f7X : ∀ (t : PT) (d : Int) (s : W), (wT t d s).fbad = 0 → (wT t d s).fn = s.fn + cT t
  | .mk l cs, d, s, h => by
    rw [wT] at h ⊢
    rw [c2n cs _ _ h, cT]
    have hb : (wStep s d).fbad = 0 := by
      by_cases hq : (wStep s d).fbad = 0
      · exact hq
      · rw [a5v _ _ _ hq] at h; exact h
    unfold wStep at hb ⊢
    split at hb
    · rename_i h1
      rw [if_pos h1]
      split at hb
      · cases hb
      · rename_i h2
        rw [if_neg h2]
        split at hb
        · cases hb
        · rename_i h3
          rw [if_neg h3]; dsimp only; omega
    · rename_i h1; exact (h1 hb).elim
theorem c2n : ∀ (ts : List PT) (d : Int) (s : W), (wTs ts d s).fbad = 0 → (wTs ts d s).fn = s.fn + cTs ts
  | [], d, s, h => by rw [wTs, cTs]; simp
  | t :: ts, d, s, h => by
    rw [wTs] at h ⊢
    rw [c2n ts _ _ h, cTs]
    have hb : (wT t d s).fbad = 0 := by
      by_cases hq : (wT t d s).fbad = 0
      · exact hq
      · rw [a5v _ _ _ hq] at h; exact h
    rw [f7X t d s hb]; omega
end
theorem c8x {ts : List PT} (h : (wTs ts 1 w0S).fbad = 0) : cTs ts ≤ 4096 := by
  have h1 := c2n ts 1 w0S h
  have h2 := (b2c ts 1 w0S g1n).2
  have h3 : w0S.fn = 0 := rfl
  omega
theorem d8E (l : Lab) : (namL l).length ≤ 1 := by unfold namL; split <;> simp
mutual
theorem f7Y : ∀ {t : PT}, (nT t).length ≤ cT t
  | .mk l cs => by rw [nT, cT, List.length_append]; have := d8E l; have := @c2o cs; omega
theorem c2o : ∀ {ts : List PT}, (nTs ts).length ≤ cTs ts
  | [] => by rw [nTs, cTs]; exact Nat.le_refl _
  | t :: ts => by rw [nTs, cTs, List.length_append]; have := @f7Y t; have := @c2o ts; omega
end
inductive Nd : PT → Prop
  | mk {l : Lab} {cs : List PT} : (∀ z s, l ≠ .decl z s) → (∀ t ∈ cs, Nd t) → Nd (.mk l cs)
theorem e3l {l : Lab} (h : ∀ z s, l ≠ .decl z s) : (useL l).map (·.g7) = namL l := by
  cases l with
  | decl z s => exact (h z s rfl).elim
  | cond k o e p => rfl
  | expr k n s a =>
    unfold useL namL nameL
    dsimp only
    split <;> rfl
  | stmt k s e c t f =>
    unfold useL namL nameL
    dsimp only
    split <;> rfl
mutual
theorem g5t : ∀ t : PT, Nd t → (uT t).map (·.g7) = nT t
  | .mk l cs, h => by
    cases h with
    | mk h1 h2 => rw [uT, nT, List.map_append, e3l h1, d2v cs h2]
theorem d2v : ∀ ts : List PT, (∀ t ∈ ts, Nd t) → (uTs ts).map (·.g7) = nTs ts
  | [], _ => by rw [uTs, nTs]; rfl
  | t :: ts, h => by rw [uTs, nTs, List.map_append, g5t t (h t List.mem_cons_self), d2v ts fun u hu => h u (List.mem_cons_of_mem _ hu)]
end
theorem a9K {α : Type} {R : α → PT → Prop} {xs : List α} {ts : List PT} (hl : xs.length = ts.length) (h : ∀ (i : Nat) (x : α) (t : PT), xs[i]? = some x → ts[i]? = some t → Nd t) : ∀ t ∈ ts, Nd t := fun t ht => by
  obtain ⟨i, hi⟩ := List.mem_iff_getElem?.1 ht
  obtain ⟨x, hx⟩ := E8 (l := xs) (i := i) (by rw [hl]; exact r9 hi)
  exact h i x t hx hi
theorem c0U {a b : List PT} (ha : ∀ t ∈ a, Nd t) (hb : ∀ t ∈ b, Nd t) : ∀ t ∈ a ++ b, Nd t := fun t h => (List.mem_append.1 h).elim (ha t) (hb t)
theorem EH.nd {H : Hp} {e : h9} {t : PT} (h : EH H e t) : Nd t := by
  induction h with
  | mk hs hb hl _ ih => exact .mk (fun z s e => by cases e) (a9K (R := EH H) hl ih)
theorem CH.nd {H : Hp} {e : k4} {t : PT} (h : CH H e t) : Nd t := by
  induction h with
  | mk hs hb hr hc hcb hl _ ih => exact .mk (fun z s e => by cases e) (c0U (a9K (R := EH H) hr.1 fun i x t a b => (hr.2 i x t a b).nd) (a9K (R := CH H) hl ih))
theorem SH.nd {H : Hp} {e : i4} {t : PT} (h : SH H e t) : Nd t := by
  induction h with
  | mk hs hb hr hc hcb hcr ha hab hal _ hbs hbb hbl _ ih1 ih2 =>
    exact .mk (fun z s e => by cases e) (c0U (a9K (R := CH H) hcr.1 fun i x t a b => (hcr.2 i x t a b).nd) (c0U (a9K (R := EH H) hr.1 fun i x t a b => (hr.2 i x t a b).nd) (c0U (a9K (R := SH H) hal ih1) (a9K (R := SH H) hbl ih2))))
section
variable {H : Hp}
theorem uloop {ts : List PT} {out : List Us} {body : List Us × Int → Hp → (List Us × Int → Hp → Prop) → Prop}
    (hb : ∀ (i : Int) (cs : List Us) (next : List Us × Int → Hp → Prop), 0 ≤ i → i ≤ ts.length → cs = out ++ uTs (ts.take i.toNat) → (∀ t, ts[i.toNat]? = some t → next (cs ++ uT t, i + 1) H) → (ts.length ≤ i → cs = out ++ uTs ts) → body (cs, i) H next) : TL ((out, 0) : List Us × Int) H body := by
  refine Y4 (fun (q : List Us × Int) H' => 0 ≤ q.2 ∧ q.2 ≤ ts.length ∧ H' = H ∧ q.1 = out ++ uTs (ts.take q.2.toNat)) (fun q => (ts.length - q.2).toNat) ⟨Int.le_refl _, by simp, rfl, by simp [uTs]⟩ ?_
  rintro ⟨cs, i⟩ H1 next ⟨i0, i1, rfl, hs⟩ hn
  dsimp only at i0 i1 hs ⊢
  refine hb i cs next i0 i1 hs (fun t ht => ?_) fun he => ?_
  · have := r9 ht
    refine hn _ _ ⟨by dsimp only; omega, by dsimp only; omega, rfl, ?_⟩ (by dsimp only; omega)
    dsimp only
    rw [show (i + 1).toNat = i.toNat + 1 by omega, d4y ht, hs, List.append_assoc]
  · rw [hs, List.take_of_length_le (by omega)]
theorem c2G {n : Nat} (h : n + 1 ≤ big) {u : Us} : (n + ([u] : List Us).length) * 25 ≤ 140737488355328 := by
  simp only [big] at h; simp only [List.length_cons, List.length_nil]; omega
theorem b8a {e : h9} {t : PT} (he : EH H e t) {out : List Us} (hb : out.length + (uT t).length ≤ big) {K : List Us → Hp → Prop} (h : K (out ++ uT t) H) : P8 out e H K := by
  induction he generalizing out K with
  | @mk e xs ts hs hxb hl _ ih =>
    refine a9l _ _ ?_
    rw [uT] at h hb
    rw [List.length_append] at hb
    have go : ∀ out' : List Us, out' = out ++ useL (.expr e.b9 e.I3 e.g7 ts.length) → I5 out' e H K := by
      rintro out' rfl
      unfold I5
      refine uloop (ts := ts) fun i cs next i0 i1 hcs hn hf => ?_
      unfold U1
      refine ⟨fun hc => ?_, fun hc => ?_⟩
      · obtain ⟨x, hx, hE⟩ := hs.get i0 hc
        obtain ⟨t, ht⟩ := E8 (l := ts) (i := i.toNat) (by have := r9 hx; omega)
        have := b7L ht
        refine ⟨i0, hc, x, hE, ih _ x t hx ht (by rw [hcs, List.length_append, List.length_append]; omega) ?_⟩
        rw [w8 i0 (by simp only [big] at hxb; have := r9 hx; omega)]
        exact hn t ht
      · rw [hf (by have := hs.1; dsimp only at hc; omega)]
        unfold U0
        rw [List.append_assoc]; exact h
    unfold Z4
    refine ⟨fun hc => ⟨c2G (by simp only [useL, if_pos hc, List.length_cons, List.length_nil] at hb; omega), go _ ?_⟩, fun hc => go _ ?_⟩
    · simp only [useL, if_pos hc]
    · simp only [useL]; rw [if_neg (by rw [hc]; decide), List.append_nil]
theorem c7E {e : k4} {t : PT} (he : CH H e t) {out : List Us} (hb : out.length + (uT t).length ≤ big) {K : List Us → Hp → Prop} (h : K (out ++ uT t) H) : Y7 out e H K := by
  induction he generalizing out K with
  | @mk e xs ts ys us hs hxb hr hc hcb hcl _ ih =>
    refine a9m _ _ ?_
    rw [uT] at h hb
    change K (out ++ ([] ++ uTs (ts ++ us))) H at h
    change out.length + ([] ++ uTs (ts ++ us)).length ≤ big at hb
    rw [List.nil_append, a9o] at h hb
    rw [List.length_append] at hb
    have r0 := hr.1
    unfold Z5
    refine uloop (ts := ts) fun i cs next i0 i1 hcs hn hf => ?_
    unfold U5
    refine ⟨fun hq => ?_, fun hq => ?_⟩
    · obtain ⟨x, hx, hE⟩ := hs.get i0 hq
      obtain ⟨t, ht⟩ := E8 (l := ts) (i := i.toNat) (by have := r9 hx; omega)
      have := b7L ht
      refine ⟨i0, hq, x, hE, b8a (hr.2 _ x t hx ht) (by rw [hcs, List.length_append]; omega) ?_⟩
      rw [w8 i0 (by simp only [big] at hxb; have := r9 hx; omega)]
      exact hn t ht
    · rw [hf (by have := hs.1; dsimp only at hq; omega)]
      dsimp only
      clear hn hf next hcs hq cs
      unfold U4
      refine uloop (ts := us) fun i cs next i0 i1 hcs hn hf => ?_
      unfold U3
      refine ⟨fun hq => ?_, fun hq => ?_⟩
      · obtain ⟨x, hx, hE⟩ := hc.get i0 hq
        obtain ⟨t, ht⟩ := E8 (l := us) (i := i.toNat) (by have := r9 hx; omega)
        have := b7L ht
        refine ⟨i0, hq, x, hE, ih _ x t hx ht (by rw [hcs, List.length_append, List.length_append]; omega) ?_⟩
        rw [w8 i0 (by simp only [big] at hcb; have := r9 hx; omega)]
        exact hn t ht
      · rw [hf (by have := hc.1; dsimp only at hq; omega)]
        unfold U2
        rw [List.append_assoc]; exact h
def StU (H : Hp) (x : i4) (t : PT) : Prop := ∀ (cs : List Us) (s1 : Sl) (i : Int) (n2 : List Us × Int → Hp → Prop) (K : List Us → Hp → Prop), cs.length + (uTs t.kids).length ≤ big → n2 (cs ++ uTs t.kids, IntKind.wrap .i64 (i + 1)) H → I6 cs s1 i x H n2 K
theorem b3j {s : Sl} {xs : List i4} {ts : List PT} (hs : SlH H 6 d5 s xs) (hxb : xs.length ≤ big) (hl : xs.length = ts.length) (hr : ∀ (i : Nat) (x : i4) (t : PT), xs[i]? = some x → ts[i]? = some t → SH H x t) (ih : ∀ (i : Nat) (x : i4) (t : PT), xs[i]? = some x → ts[i]? = some t → StU H x t)
    {out : List Us} (hb : out.length + (uTs ts).length ≤ big) {K : List Us → Hp → Prop} (h : K (out ++ uTs ts) H) : P9 out s H K := by
  refine a9n _ _ ?_
  unfold Z6
  refine uloop (ts := ts) fun i cs next i0 i1 hcs hn hf => ?_
  unfold V2
  dsimp only
  refine ⟨fun hq => ?_, fun hq => ?_⟩
  · obtain ⟨x, hx, hE⟩ := hs.get i0 hq
    obtain ⟨t, ht⟩ := E8 (l := ts) (i := i.toNat) (by have := r9 hx; omega)
    have hin := b7L ht
    have hut : uT t = useL t.lab ++ uTs t.kids := by cases t; rw [uT]; rfl
    rw [hut, List.length_append] at hin
    have hlab : useL t.lab = if (decide (x.b9 = 1) || decide (x.b9 = 2)) = true then [⟨x.g7, decide (x.b9 = 2)⟩] else [] := by
      cases hr _ x t hx ht; rfl
    have hcl : cs.length = out.length + (uTs (ts.take i.toNat)).length := by rw [hcs, List.length_append]
    have hnt := hn t ht
    rw [hut, ← w8 i0 (by simp only [big] at hxb; have := r9 hx; omega)] at hnt
    refine ⟨i0, hq, x, hE, fun hc => ⟨c2G (by rw [hlab, if_pos hc] at hin; simp only [List.length_cons, List.length_nil] at hin; omega), ih _ x t hx ht _ _ _ _ _ ?_ ?_⟩, fun hc => ih _ x t hx ht _ _ _ _ _ ?_ ?_⟩
    · rw [hlab, if_pos hc] at hin
      rw [List.length_append]; simp only [List.length_cons, List.length_nil] at hin ⊢; omega
    · rw [hlab, if_pos hc, ← List.append_assoc] at hnt; exact hnt
    · rw [hlab, if_neg (by rw [hc]; decide)] at hin
      simp only [List.length_nil] at hin; omega
    · rw [hlab, if_neg (by rw [hc]; decide), List.nil_append] at hnt; exact hnt
  · rw [hf (by have := hs.1; omega)]
    unfold V1
    exact h
theorem f7Z {x : i4} {t : PT} (hx : SH H x t) : StU H x t := by
  induction hx with
  | @mk e xs ts ys us zs bs vs ws hs hb hr hc hcb hcr ha hab hal har hbs hbb hbl hbr iha ihb =>
    intro cs0 s1 i0' n2 K hlen h
    change n2 (cs0 ++ uTs (us ++ (ts ++ (vs ++ ws))), _) H at h
    change cs0.length + (uTs (us ++ (ts ++ (vs ++ ws)))).length ≤ big at hlen
    rw [a9o, a9o, a9o] at h hlen
    simp only [List.length_append] at hlen
    have r0 := hr.1
    have r1 := hcr.1
    unfold I6
    refine uloop (ts := us) fun i cs next i0 i1 hcs hn hf => ?_
    unfold V0
    refine ⟨fun hq => ?_, fun hq => ?_⟩
    · obtain ⟨x, hx, hE⟩ := hc.get i0 hq
      obtain ⟨t, ht⟩ := E8 (l := us) (i := i.toNat) (by have := r9 hx; omega)
      have := b7L ht
      refine ⟨i0, hq, x, hE, c7E (hcr.2 _ x t hx ht) (by rw [hcs, List.length_append]; omega) ?_⟩
      rw [w8 i0 (by simp only [big] at hcb; have := r9 hx; omega)]
      exact hn t ht
    · rw [hf (by have := hc.1; dsimp only at hq; omega)]
      dsimp only
      clear hn hf next hcs hq cs
      unfold U9
      refine uloop (ts := ts) fun i cs next i0 i1 hcs hn hf => ?_
      unfold U8
      refine ⟨fun hq => ?_, fun hq => ?_⟩
      · obtain ⟨x, hx, hE⟩ := hs.get i0 hq
        obtain ⟨t, ht⟩ := E8 (l := ts) (i := i.toNat) (by have := r9 hx; omega)
        have := b7L ht
        refine ⟨i0, hq, x, hE, b8a (hr.2 _ x t hx ht) (by rw [hcs, List.length_append, List.length_append]; omega) ?_⟩
        rw [w8 i0 (by simp only [big] at hb; have := r9 hx; omega)]
        exact hn t ht
      · rw [hf (by have := hs.1; dsimp only at hq; omega)]
        unfold U7
        refine b3j ha hab hal har iha (by simp only [List.length_append]; omega) ?_
        refine b3j hbs hbb hbl hbr ihb (by simp only [List.length_append]; omega) ?_
        unfold U6
        rw [List.append_assoc, List.append_assoc, List.append_assoc]
        exact h
theorem e3m {p : g5} {q : PP} (hp : PH H p q) (hb : (uTs q.body).length ≤ big) {K : Sl → Hp → Prop} (h : ∀ s H', Hle H H' → SlH H' 2 i8 s (uTs q.body) → K s H') : a3z p H K := by
  refine b2p _ ?_
  unfold a1z
  obtain ⟨hd, hbd, xs, hsl, hxb, hr⟩ := hp
  refine b3j hsl hxb hr.1 hr.2 (fun i x t a b => f7Z (hr.2 i x t a b)) (by simpa using hb) ?_
  rw [List.nil_append]
  intro s H1 l1 hS _
  exact h s H1 l1 hS
theorem d4z {l : List ByteArray} (hl : l.length + 1 ≤ big) {s : ByteArray} {K : List ByteArray → Hp → Prop} (h : K (putS l s) H) : a1F l s H K := by
  refine b2z _ _ ?_
  unfold a1L
  unfold putS at h
  refine Y4 (fun (i : Int) H' => 0 ≤ i ∧ i ≤ l.length ∧ H' = H ∧ ∀ (j : Nat) (x : ByteArray), (j : Int) < i → l[j]? = some x → x ≠ s) (fun i => (l.length - i).toNat) ⟨Int.le_refl _, by omega, rfl, fun j x hj => by omega⟩ ?_
  rintro i H1 next ⟨i0, i1, rfl, hi⟩ hn
  unfold a0C
  refine ⟨fun hc => ?_, fun hc => ?_⟩
  · obtain ⟨x, hx⟩ := E8 (l := l) (i := i.toNat) (by omega)
    refine ⟨i0, x, hx, fun e => ?_, fun e => ?_⟩
    · subst e
      rw [if_pos (b5l.2 (List.mem_of_getElem? hx))] at h; exact h
    · rw [w8 i0 (by simp only [big] at hl; omega)]
      refine hn _ _ ⟨by omega, by omega, rfl, fun j y hj hy => ?_⟩ (by omega)
      by_cases ej : j = i.toNat
      · subst ej; rw [hx] at hy; cases hy; exact e
      · exact hi j y (by omega) hy
  · unfold a0B
    rw [if_neg (fun e => by
      obtain ⟨j, hj⟩ := List.mem_iff_getElem?.1 (b5l.1 e)
      exact hi j s (by have := r9 hj; omega) hj rfl)] at h
    exact ⟨by simp only [big] at hl; simp only [List.length_cons, List.length_nil]; omega, h⟩
theorem d4A {p : g5} {q : PP} (hp : PH H p q) (hc : cTs q.nodes ≤ 4096) {K : Sl → Hp → Prop} (h : ∀ s H', Hle H H' → SlH H' 1 s8 s (putAll [] (nTs q.nodes)) → K s H') : a3f p H K := by
  refine b0A _ ?_
  unfold a0W
  have hu : (uTs q.body).length ≤ big := by
    have := b7N q.body
    unfold PP.nodes at hc
    rw [b7M] at hc
    simp only [big]; omega
  have hp0 := hp
  obtain ⟨hd, hbd, xs, hsl, hxb, hr⟩ := hp
  have hnd : ∀ t ∈ q.body, Nd t := a9K (R := SH H) hr.1 fun i x t a b => (hr.2 i x t a b).nd
  have n1 := hd.1
  have hdn : ∀ k, nTs ((q.decls.take k).map dT) = (q.decls.take k).map (·.g7) := fun k => by
    generalize q.decls.take k = l
    induction l with
    | nil => rw [List.map_nil, nTs]; rfl
    | cons a l ih => rw [List.map_cons, nTs, ih]; rfl
  have hdc : q.decls.length ≤ 4096 := by
    unfold PP.nodes at hc
    rw [b7M] at hc
    have : ∀ l : List B8, l.length ≤ cTs (l.map dT) := fun l => by
      induction l with
      | nil => exact Nat.zero_le _
      | cons a l ih => rw [List.map_cons, cTs, List.length_cons]; unfold dT at ih ⊢; rw [cT]; omega
    have := this q.decls
    omega
  refine Y4 (fun (z : List ByteArray × Int) H' => 0 ≤ z.2 ∧ z.2 ≤ q.decls.length ∧ H' = H ∧ z.1 = putAll [] ((q.decls.take z.2.toNat).map (·.g7))) (fun z => (q.decls.length - z.2).toNat) ⟨Int.le_refl _, by simp, rfl, by simp [putAll]⟩ ?_
  rintro ⟨l, i⟩ H1 next ⟨i0, i1, rfl, hl⟩ hn
  dsimp only at i0 i1 hl ⊢
  subst hl
  unfold a0b
  have hlen := b0C ((q.decls.take i.toNat).map (·.g7)) []
  rw [List.length_map, List.length_take, List.length_nil] at hlen
  refine ⟨fun hq => ?_, fun hq => ?_⟩
  · obtain ⟨x, hx, hE⟩ := hd.get i0 hq
    have hlt := r9 hx
    refine ⟨i0, hq, x, hE, d4z (by simp only [big]; omega) ?_⟩
    rw [w8 i0 (by omega)]
    refine hn _ _ ⟨by dsimp only; omega, by dsimp only; omega, rfl, ?_⟩ (by dsimp only; omega)
    dsimp only
    rw [show (i + 1).toNat = i.toNat + 1 by omega, a1g hx, List.map_append, a8v]; rfl
  · rw [List.take_of_length_le (by omega)]
    rw [List.take_of_length_le (by omega)] at hlen
    clear hn next
    unfold Z9
    refine e3m hp0 hu fun s2 H2 l2 hS2 => ?_
    have n2 := hS2.1
    have hul := b7N q.body
    have hbc : cTs q.body ≤ 4096 := by unfold PP.nodes at hc; rw [b7M] at hc; omega
    refine Y4 (fun (z : List ByteArray × Int) H' => 0 ≤ z.2 ∧ z.2 ≤ (uTs q.body).length ∧ H' = H2 ∧ z.1 = putAll (putAll [] (q.decls.map (·.g7))) (((uTs q.body).take z.2.toNat).map (·.g7))) (fun z => ((uTs q.body).length - z.2).toNat) ⟨Int.le_refl _, by simp, rfl, by simp [putAll]⟩ ?_
    rintro ⟨l, j⟩ H3 next ⟨j0, j1, rfl, hl⟩ hn
    dsimp only at j0 j1 hl ⊢
    subst hl
    unfold Z8
    have hlen2 := b0C (((uTs q.body).take j.toNat).map (·.g7)) (putAll [] (q.decls.map (·.g7)))
    rw [List.length_map, List.length_take] at hlen2
    refine ⟨fun hq => ?_, fun hq => ?_⟩
    · obtain ⟨x, hx, hE⟩ := hS2.get j0 hq
      have hlt := r9 hx
      refine ⟨j0, hq, x, hE, d4z (by simp only [big]; omega) ?_⟩
      rw [w8 j0 (by omega)]
      refine hn _ _ ⟨by dsimp only; omega, by dsimp only; omega, rfl, ?_⟩ (by dsimp only; omega)
      dsimp only
      rw [show (j + 1).toNat = j.toNat + 1 by omega, a1g hx, List.map_append, a8v]; rfl
    · rw [List.take_of_length_le (by omega), d2v _ hnd, ← a8v]
      unfold Z7
      intro ss H4 l4 hS4 _
      refine h ss H4 (l2.trans l4) ?_
      unfold PP.nodes
      have := hdn q.decls.length
      rw [List.take_of_length_le (Nat.le_refl _)] at this
      rw [c8w, this]; exact hS4
theorem d8F {s s' : Sl} {xs : List ByteArray} (h1 : SlH H 1 s8 s xs) (h2 : SlH H 1 s8 s' xs) (hb : xs.length ≤ big) {K : Bool → Hp → Prop} (h : K true H) : a0P s s' H K := by
  refine b0B _ _ ?_
  unfold a0X
  have n1 := h1.1; have n2 := h2.1
  refine ⟨fun e => by omega, fun _ => ?_⟩
  refine Y4 (fun (i : Int) H' => 0 ≤ i ∧ i ≤ xs.length ∧ H' = H) (fun i => (xs.length - i).toNat) ⟨Int.le_refl _, by omega, rfl⟩ ?_
  rintro i H1 next ⟨i0, i1, rfl⟩ hn
  unfold a0e
  refine ⟨fun hq => ?_, fun hq => ?_⟩
  · obtain ⟨x, hx, hE⟩ := h1.get i0 hq
    obtain ⟨y, hy, hF⟩ := h2.get i0 (show i < (s'.n : Int) by omega)
    rw [hx] at hy; cases hy
    refine ⟨i0, hq, x, hE, i0, by omega, x, hF, fun e => (e rfl).elim, fun _ => ?_⟩
    rw [w8 i0 (by simp only [big] at hb; omega)]
    exact hn _ _ ⟨by omega, by omega, rfl⟩ (by omega)
  · unfold a0d; exact h
theorem d8G {e : i4} {t : PT} (he : SH H e t) {f : Fm} {K : Fm → Hp → Prop} (h : ∀ y, FR f (formT t) (namesT t) y → K y H) : O6 f e H K := by
  induction he generalizing f K with
  | @mk e xs ts ys us zs bs vs ws hs hb hr hc hcb hcr ha hab hal har hbs hbb hbl hbr iha ihb =>
    refine a8F _ _ ?_
    have r0 := hr.1
    have r1 := hcr.1
    have n1 : (e.f9.n : Int) = (ts.length : Int) := by have := hs.1; omega
    have n2 : (e.k3.n : Int) = (us.length : Int) := by have := hc.1; omega
    have n3 : (e.u0.n : Int) = (vs.length : Int) := by have := ha.1; omega
    have n4 : (e.s7.n : Int) = (ws.length : Int) := by have := hbs.1; omega
    have fin : ∀ (i : Int) (s : Fm) (n : Int) (m : Nat), n = (m : Int) → (decide (i < n) && s.fok) = false → ((m : Int) ≤ i ∨ s.fok = false) := by
      intro i s n m hn hc
      by_cases hlt : i < n
      · right
        cases hq : s.fok
        · rfl
        · rw [hq, decide_eq_true hlt] at hc; cases hc
      · left; omega
    have j1 : ∀ (e' c' : Int) (f' : Fm), f'.fnames = f.fnames → (((((f'.fok && ((decide (e.b9 = 1) || decide (e.b9 = 2)) || decide (e.g7 = ⟨#[]⟩))) && decide ((ts.length : Int) = e')) && decide ((us.length : Int) = c')) && ((decide ((vs.length : Int) = 0) || decide (e.b9 = 3)) || decide (e.b9 = 4))) && (decide ((ws.length : Int) = 0) || decide (e.b9 = 3))) = (f.fok && formS e.b9 e.g7 (ts.length : Int) (us.length : Int) (vs.length : Int) (ws.length : Int)) → w6 e' c' e f' H K := by
      intro e' c' f' hf heq
      unfold w6
      refine b9l ?_
      refine floop (ts := us) fun i s next i0 i1 hk hf' => ?_
      unfold T1
      refine ⟨fun hq => ?_, fun hq => ?_⟩
      · obtain ⟨hq1, hq2⟩ := a7v.1 hq
        obtain ⟨x, hx, hE⟩ := hc.get i0 hq1
        obtain ⟨t, ht⟩ := E8 (l := us) (i := i.toNat) (by have := r9 hx; omega)
        refine ⟨i0, hq1, x, hE, d8e (hcr.2 _ x t hx ht) fun y hy => ?_⟩
        rw [w8 i0 (by simp only [big] at hcb; have := r9 hx; omega)]
        exact hk t ht hq2 y hy
      · have hfin := hf' (fin i s _ _ n2 hq)
        have F1 : FR f (formS e.b9 e.g7 (ts.length : Int) (us.length : Int) (vs.length : Int) (ws.length : Int) && formTs us) (nameOk (.stmt e.b9 e.g7 ts.length us.length vs.length ws.length) && namesTs us) s := by
          refine FR.trans (g := ⟨_, _⟩) ⟨?_, fun _ => ?_⟩ hfin
          · show (((((f'.fok && _) && decide ((e.f9.n : Int) = e')) && decide ((e.k3.n : Int) = c')) && ((decide ((e.u0.n : Int) = 0) || _) || _)) && (decide ((e.s7.n : Int) = 0) || _)) = _
            rw [n1, n2, n3, n4]; exact heq
          · show (f'.fnames && _) = _
            rw [hf]; rfl
        clear hk hf' next hq hfin
        unfold T0
        refine floop (ts := ts) fun i s2 next i0 i1 hk hf' => ?_
        unfold S9
        refine ⟨fun hq => ?_, fun hq => ?_⟩
        · obtain ⟨hq1, hq2⟩ := a7v.1 hq
          obtain ⟨x, hx, hE⟩ := hs.get i0 hq1
          obtain ⟨t, ht⟩ := E8 (l := ts) (i := i.toNat) (by have := r9 hx; omega)
          refine ⟨i0, hq1, x, hE, c6T (hr.2 _ x t hx ht) fun y hy => ?_⟩
          rw [w8 i0 (by simp only [big] at hb; have := r9 hx; omega)]
          exact hk t ht hq2 y hy
        · have F2 := F1.trans (hf' (fin i s2 _ _ n1 hq))
          clear hk hf' next hq
          unfold S8
          refine floop (ts := vs) fun i s3 next i0 i1 hk hf' => ?_
          unfold S7
          refine ⟨fun hq => ?_, fun hq => ?_⟩
          · obtain ⟨hq1, hq2⟩ := a7v.1 hq
            obtain ⟨x, hx, hE⟩ := ha.get i0 hq1
            obtain ⟨t, ht⟩ := E8 (l := vs) (i := i.toNat) (by have := r9 hx; omega)
            refine ⟨i0, hq1, x, hE, iha _ x t hx ht fun y hy => ?_⟩
            rw [w8 i0 (by simp only [big] at hab; have := r9 hx; omega)]
            exact hk t ht hq2 y hy
          · have F3 := F2.trans (hf' (fin i s3 _ _ n3 hq))
            clear hk hf' next hq
            unfold S6
            refine floop (ts := ws) fun i s4 next i0 i1 hk hf' => ?_
            unfold S5
            refine ⟨fun hq => ?_, fun hq => ?_⟩
            · obtain ⟨hq1, hq2⟩ := a7v.1 hq
              obtain ⟨x, hx, hE⟩ := hbs.get i0 hq1
              obtain ⟨t, ht⟩ := E8 (l := ws) (i := i.toNat) (by have := r9 hx; omega)
              refine ⟨i0, hq1, x, hE, ihb _ x t hx ht fun y hy => ?_⟩
              rw [w8 i0 (by simp only [big] at hbb; have := r9 hx; omega)]
              exact hk t ht hq2 y hy
            · have F4 := F3.trans (hf' (fin i s4 _ _ n4 hq))
              refine h _ ?_
              rw [formT, namesT, a4o, a4o, a4o, a4x, a4x, a4x]
              simp only [Bool.and_assoc] at F4 ⊢
              exact F4
    have eqv : ∀ (e' c' : Int), (e.b9 = 1 ∧ e' = 1 ∧ c' = 0 ∨ e.b9 = 2 ∧ e' = 2 ∧ c' = 0 ∨ (e.b9 = 3 ∨ e.b9 = 4 ∨ e.b9 = 5 ∨ e.b9 = 6) ∧ e' = 0 ∧ c' = 1 ∨ e.b9 = 7 ∧ e' = 0 ∧ c' = 0) → (((((f.fok && ((decide (e.b9 = 1) || decide (e.b9 = 2)) || decide (e.g7 = ⟨#[]⟩))) && decide ((ts.length : Int) = e')) && decide ((us.length : Int) = c')) && ((decide ((vs.length : Int) = 0) || decide (e.b9 = 3)) || decide (e.b9 = 4))) && (decide ((ws.length : Int) = 0) || decide (e.b9 = 3))) = (f.fok && formS e.b9 e.g7 (ts.length : Int) (us.length : Int) (vs.length : Int) (ws.length : Int)) := by
      intro e' c' hk
      simp only [Bool.and_assoc]
      congr 1
      rw [Bool.eq_iff_iff]
      generalize (ts.length : Int) = a
      generalize (us.length : Int) = b
      have hv : (0 : Int) ≤ (vs.length : Int) := by omega
      have hw : (0 : Int) ≤ (ws.length : Int) := by omega
      generalize (vs.length : Int) = c at hv ⊢
      generalize (ws.length : Int) = d at hw ⊢
      generalize e.b9 = k at hk ⊢
      by_cases hsn : e.g7 = ⟨#[]⟩
      all_goals
        unfold formS
        rcases hk with ⟨rfl, rfl, rfl⟩ | ⟨rfl, rfl, rfl⟩ | ⟨rfl | rfl | rfl | rfl, rfl, rfl⟩ | ⟨rfl, rfl, rfl⟩ <;> simp [hsn] <;> omega
    have no : ¬ (e.b9 = 1 ∨ e.b9 = 2 ∨ e.b9 = 3 ∨ e.b9 = 4 ∨ e.b9 = 5 ∨ e.b9 = 6 ∨ e.b9 = 7) → formS e.b9 e.g7 (ts.length : Int) (us.length : Int) (vs.length : Int) (ws.length : Int) = false := by
      intro hk
      unfold formS
      rw [if_neg (by omega), if_neg (by omega), if_neg (by omega), if_neg (by omega), if_neg (by omega), if_neg (by omega)]
    have j9 : ∀ b : Bool, (b = true ↔ (e.b9 = 3 ∨ e.b9 = 4 ∨ e.b9 = 5 ∨ e.b9 = 6)) → ¬ (e.b9 = 1 ∨ e.b9 = 2) → B1 0 0 e.b9 b e f H K := by
      intro b hq hno
      unfold B1
      refine ⟨fun q => j1 0 1 f rfl (eqv 0 1 (.inr (.inr (.inl ⟨hq.1 q, rfl, rfl⟩)))), fun q => ⟨fun e7 => j1 0 0 f rfl (eqv 0 0 (.inr (.inr (.inr ⟨e7, rfl, rfl⟩)))), fun e7 => j1 0 0 _ rfl ?_⟩⟩
      have := mt hq.2 (by rw [q]; decide)
      rw [no (by omega), Bool.and_false]; rfl
    unfold Y0
    refine ⟨fun e1 => j1 1 0 f rfl (eqv 1 0 (.inl ⟨e1, rfl, rfl⟩)), fun e1 => ⟨fun e2 => j1 2 0 f rfl (eqv 2 0 (.inr (.inl ⟨e2, rfl, rfl⟩))), fun e2 => ⟨fun e3 => j9 _ ?_ (by omega), fun e3 => ⟨fun e4 => j9 _ ?_ (by omega), fun e4 => ⟨fun e5 => j9 _ ?_ (by omega), fun e5 => j9 _ ?_ (by omega)⟩⟩⟩⟩⟩ <;> (rw [decide_eq_true_eq]; omega)
theorem d4B {p : g5} {q : PP} (hp : PH H p q) {K : Int → Hp → Prop} (h : K (toldS q.nodes) H) : a3e p H K := by
  refine b0w _ ?_
  unfold a0V
  refine c2u hp ⟨fun hb => ?_, fun hb => ?_⟩
  · unfold toldS at h
    rw [if_neg hb] at h; exact h
  obtain ⟨hd, hbd, xs, hsl, hxb, hr⟩ := hp
  have n1 := hd.1; have n2 := hsl.1; have r0 := hr.1
  refine Y4 (fun (z : Int × Fm) H' => 0 ≤ z.1 ∧ z.1 ≤ q.decls.length ∧ H' = H ∧ FR ⟨true, true⟩ (formTs ((q.decls.map dT).take z.1.toNat)) (namesTs ((q.decls.map dT).take z.1.toNat)) z.2) (fun z => (q.decls.length - z.1).toNat) ⟨Int.le_refl _, by simp, rfl, by simpa [formTs, namesTs] using FR.refl ⟨true, true⟩⟩ ?_
  rintro ⟨i, s⟩ H1 next ⟨i0, i1, rfl, hs⟩ hn
  dsimp only at i0 i1 hs ⊢
  unfold Z3
  refine ⟨fun hq => ?_, fun hq => ?_⟩
  · obtain ⟨x, hx, hE⟩ := hd.get i0 hq
    have hlt := r9 hx
    have hx' : (q.decls.map dT)[i.toNat]? = some (dT x) := by rw [List.getElem?_map, hx]; rfl
    refine ⟨x, fun _ => ⟨i0, hq, hE⟩, x, fun _ => ⟨i0, hq, hE⟩, i0, hq, x, hE, b9l ?_⟩
    rw [w8 i0 (by simp only [big] at hbd; omega)]
    refine hn _ _ ⟨by dsimp only; omega, by dsimp only; omega, rfl, ?_⟩ (by dsimp only; omega)
    dsimp only
    rw [show (i + 1).toNat = i.toNat + 1 by omega, c2F hx', c0F hx']
    refine hs.trans ⟨?_, fun _ => ?_⟩
    · unfold dT
      rw [formT, formTs]
      show (((s.fok && _) && _) && (true || _)) = (s.fok && ((_ && _) && true))
      simp only [Bool.true_or, Bool.and_true, Bool.and_assoc]
    · unfold dT
      rw [namesT, namesTs]
      show (s.fnames && (if true = true then nameS x.g7 else true)) = _
      unfold nameOk nameL
      rw [Bool.and_true]
  · rw [List.take_of_length_le (by rw [List.length_map]; omega)] at hs
    clear hn next
    unfold Z2
    refine floop (ts := q.body) fun j s2 next j0 j1 hk hf' => ?_
    unfold Z1
    refine ⟨fun hq => ?_, fun hq => ?_⟩
    · obtain ⟨hq1, hq2⟩ := a7v.1 hq
      obtain ⟨x, hx, hE⟩ := hsl.get j0 hq1
      obtain ⟨t, ht⟩ := E8 (l := q.body) (i := j.toNat) (by have := r9 hx; omega)
      refine ⟨j0, hq1, x, hE, d8G (hr.2 _ x t hx ht) fun y hy => ?_⟩
      rw [w8 j0 (by simp only [big] at hxb; have := r9 hx; omega)]
      exact hk t ht hq2 y hy
    · have hfin := hs.trans (hf' (by
        by_cases hlt : j < (p.P1.n : Int)
        · right
          cases hqq : s2.fok
          · rfl
          · dsimp only at hq; rw [hqq, decide_eq_true hlt] at hq; cases hq
        · left; omega))
      rw [← a4o, ← a4x] at hfin
      unfold Z0
      refine d8f ?_
      have := e2Z (ts := q.nodes) hfin hb
      rw [this]; exact h
theorem d8H (hT : TabsH H) {p : g5} {q : PP} (hp : PH H p q) (hsm : q.Sm) {K : Sl → Int → Hp → Prop} (h : ∀ (s : Sl) (H' : Hp), Hle H H' → (vEnd (allV q) = 0 → SlH H' 1 s8 s (allV q).2.ns) → (vEnd (allV q) ≠ 0 → s.n = 0) → K s (vEnd (allV q)) H') : a5z p H K := by
  refine b5F _ ?_
  unfold a3P
  refine c0k hT hp hsm fun sl H' l hS => ?_
  dsimp only
  refine ⟨fun hc => h _ H' l (fun e => (hc e).elim) fun _ => rfl, fun hc => ?_⟩
  have := h sl H' l (fun _ => hS) fun e => (e hc).elim
  rw [hc] at this; exact this
theorem e3n {p : g5} {q : PP} (hp : PH H p q) {K : Int → Int → Hp → Prop} (h : K (wTs q.nodes 1 w0S).fdepth (wTs q.nodes 1 w0S).fn H) : a3y p H K := by
  refine b2m _ ?_
  unfold a1y
  exact c2u hp h
theorem d8I {q : PP} (h : toldS q.nodes = 0) : (wTs q.nodes 1 w0S).fbad = 0 ∧ (allV q).1 = true ∧ (allV q).2.n = (wTs q.nodes 1 w0S).fn ∧ (allV q).2.d = (wTs q.nodes 1 w0S).fdepth ∧ (allV q).2.ns = putAll [] (nTs q.nodes) := by
  have hb : (wTs q.nodes 1 w0S).fbad = 0 := by
    unfold toldS at h
    by_cases hq : (wTs q.nodes 1 w0S).fbad = 0
    · exact hq
    · rw [if_neg hq] at h; exact h
  have hs := d0H q.nodes
  have hr : (allV q).1 = true := by
    cases hq : (allV q).1
    · obtain ⟨h1, h2⟩ := hs.2 hq
      omega
    · rfl
  obtain ⟨h1, _⟩ := hs.1 hr
  exact ⟨hb, hr, by rw [h1]; rfl, by rw [h1]; rfl, c7t q.nodes 1 v0 hr⟩
theorem c2S (hT : TabsH H) {p : g5} {q : PP} (hp : PH H p q) (hsm : q.Sm) {K : Bool → Hp → Prop} (h : ∀ H', Hle H H' → K true H') : a1k p H K := by
  refine a8u _ ?_
  unfold W4
  have te : vEnd (allV q) = toldS q.nodes := e3b _
  refine d6Q hT fun H1 l1 => ⟨fun e => (by cases e), fun _ => d4B (hp.le l1) ?_⟩
  refine c5M (hT.le l1) (hp.le l1) hsm fun H2 l2 => ?_
  have l12 := l1.trans l2
  refine c5N (hT.le l12) (hp.le l12) hsm fun H3 l3 => ?_
  have l13 := l12.trans l3
  refine d8H (hT.le l13) (hp.le l13) hsm fun s4 H4 l4 hg hbad => ?_
  have l14 := l13.trans l4
  refine c5L (hT.le l14) (hp.le l14) hsm fun H5 l5 => ?_
  have l15 := l14.trans l5
  rw [te] at hg hbad ⊢
  rw [decide_eq_true rfl]
  refine ⟨fun e => (by cases e), fun _ => ⟨fun hne => ?_, fun h0 => ?_⟩⟩
  · rw [if_neg hne, if_neg hne, hbad hne]
    exact h H5 l15
  · rw [if_pos h0, if_pos h0]
    obtain ⟨hb, hr, e1, e2, e3⟩ := d8I h0
    refine e3n (hp.le l15) ?_
    rw [e1, e2, decide_eq_true rfl, decide_eq_true rfl]
    refine ⟨fun _ => d4A (hp.le l15) (c8x hb) fun s6 H6 l6 hS6 => ⟨fun _ => ?_, fun e => (e rfl).elim⟩, fun e => (e rfl).elim⟩
    have hS4 := (hg h0).le (l5.trans l6)
    rw [e3] at hS4
    have hlen := b0C (nTs q.nodes) []
    exact d8F hS4 hS6 (by have := hS6.1; have := @c2o q.nodes; have := c8x hb; simp only [big]; simp only [List.length_nil] at hlen; omega) (h H6 (l15.trans l6))
end
end Go.Proofs.YthldnpmfelniiaaDoor
