/- The laws WellExact, WellParts. Contracts off the printed formulas. -/
import Derived.Test.YthldnpmfelniiaaDoorzWQz
namespace Go.Proofs.YthldnpmfelniiaaDoor
open Go.RowKit
set_option maxRecDepth 100000
set_option maxHeartbeats 2000000
theorem drop_at {α : Type} {l : List α} {i : Nat} {x : α} (h : l[i]? = some x) : l.drop i = x :: l.drop (i + 1) := by
  have hlt := p8 h
  rw [List.drop_eq_getElem_cons hlt]; congr 1
  rw [List.getElem?_eq_getElem hlt] at h; exact Option.some.inj h
section
variable {H : Hp}
theorem find_ok {s : Sl} {ds : List i4} (hs : SlH H 2 g9 s ds) (hb : ds.length ≤ big) {nm : ByteArray} {K : Int → Hp → Prop} (h : K (findI ds nm 0) H) : a1L s nm H K := by
  refine b3w _ _ ?_
  unfold a1Z
  have n1 := hs.1
  simp only [big] at hb
  refine W2 (fun (i : Int) H' => 0 ≤ i ∧ i ≤ ds.length ∧ H' = H ∧ findI ds nm 0 = findI (ds.drop i.toNat) nm i) (fun i => (ds.length - i).toNat) ⟨Int.le_refl _, by omega, rfl, rfl⟩ ?_
  rintro i H1 next ⟨i0, i1, rfl, hi⟩ hn
  unfold a0L
  refine ⟨fun c => ?_, fun c => ?_⟩
  · obtain ⟨x, hx, hE⟩ := hs.get i0 c
    have hlt := p8 hx
    rw [drop_at hx, findI] at hi
    refine ⟨i0, c, x, hE, fun e => ?_, fun e => ?_⟩
    · rw [if_pos e] at hi; rw [hi] at h; exact h
    · rw [if_neg e] at hi
      rw [r6 i0 (by omega)]
      exact hn _ _ ⟨by omega, by omega, rfl, by rw [show (i + 1).toNat = i.toNat + 1 by omega]; exact hi⟩ (by omega)
  · unfold a0K
    rw [List.drop_eq_nil_of_le (by omega), findI] at hi
    rw [hi] at h; exact h
theorem e3z {l : List i4} {s : ByteArray} (h : ¬ 0 ≤ findI l s 0) : hasN l s = false := by
  cases e : hasN l s
  · rfl
  · exact (h ((b6N l s 0 (Int.le_refl _)).2 e)).elim
def SzOk (l : List i4) : Prop := ∀ d ∈ l, 0 ≤ d.A5
theorem d1A : ∀ {l : List i4} (_ : formTs (l.map dT) = true), SzOk l
  | [], _ => fun d h => by cases h
  | d :: l, h => by
    rw [List.map_cons, formTs, Bool.and_eq_true] at h
    intro x hx
    rcases List.mem_cons.1 hx with e | hx
    · have h1 := h.1
      unfold dT at h1
      rw [formT, Bool.and_eq_true] at h1
      have h2 : (decide (0 ≤ d.A5) && decide (d.A5 ≤ 2147483647)) = true := h1.1
      simp only [Bool.and_eq_true, decide_eq_true_eq] at h2
      rw [e]; exact h2.1
    · exact d1A h.2 x hx
theorem d1B {q : PP} (h : toldS q.nodes = 0) : SzOk q.decls := by
  have := ((e3w _).1 h).2.2.1
  unfold PP.nodes at this
  rw [a3V, Bool.and_eq_true] at this
  exact d1A this.1
theorem g5Q {pre : List i4} {x : i4} (h1 : nk pre 1 ≤ 32) (h2 : nk pre 2 ≤ 16) : (32 < nk (pre ++ [x]) 1 ∨ 16 < nk (pre ++ [x]) 2) ↔ lim (kindD x) < nk (pre ++ [x]) (kindD x) := by
  rcases a7M x with e | e
  · rw [e]; simp only [a6p, a7e, e, lim]
    simp
    omega
  · rw [e]; simp only [a6p, a7e, e, lim]
    simp
    omega
theorem e9q {ds : List i4} {l : List Us} {i : Nat} (h : ∀ u ∈ l.take i, kOf ds u.f5 = asU u) : useT ds l = useT ds (l.drop i) := by
  have := b8x ds (l.take i) h (l.drop i)
  rwa [List.take_append_drop] at this
theorem d6o {p : i7} {q : PP} (hp : PH H p q) (hcp : p.s8.n ≤ p.s8.c) {K : ByteArray → Int → Hp → Prop} (h : ∀ H', Hle H H' → K (wellS q).1 (wellS q).2 H') : a3L p H K := by
  refine b1H _ ?_
  unfold a1B
  unfold wellS at h
  refine d8i hp ⟨fun hne => ?_, fun h0 => ?_⟩
  · have := h H (Hle.refl _); rw [if_neg hne] at this; exact this
  rw [if_pos h0] at h
  have hsz := d1B h0
  have hcnt := d1p (c9B h0).1
  have hul := b9g q.body
  have hcb : cTs q.body ≤ 4096 := by unfold PP.nodes at hcnt; rw [c4m] at hcnt; omega
  have hp' := hp
  obtain ⟨hd, hbd, _⟩ := hp'
  have n1 := hd.1
  have hbd' := hbd
  simp only [big] at hbd'
  refine W2 (fun (z : Int × Int × Int) H' => 0 ≤ z.2.2 ∧ z.2.2 ≤ q.decls.length ∧ H' = H ∧ z.1 = nk (q.decls.take z.2.2.toNat) 1 ∧ z.2.1 = nk (q.decls.take z.2.2.toNat) 2 ∧ nk (q.decls.take z.2.2.toNat) 1 ≤ 32 ∧ nk (q.decls.take z.2.2.toNat) 2 ≤ 16 ∧ declT [] q.decls = declT (q.decls.take z.2.2.toNat) (q.decls.drop z.2.2.toNat)) (fun z => (q.decls.length - z.2.2).toNat)
    ⟨Int.le_refl _, by dsimp only; omega, rfl, rfl, rfl, Nat.zero_le _, Nat.zero_le _, rfl⟩ ?_
  rintro ⟨a, b, i⟩ H1 next ⟨i0, i1, rfl, ha, hb, ha2, hb2, hdt⟩ hn
  dsimp only at i0 i1 ha hb ha2 hb2 hdt ⊢
  unfold a0z
  refine ⟨fun c => ?_, fun c => ?_⟩
  · obtain ⟨x, hx, hE⟩ := hd.get i0 c
    have hlt := p8 hx
    have htk : q.decls.take (i.toNat + 1) = q.decls.take i.toNat ++ [x] := F6 hx
    rw [drop_at hx, declT] at hdt
    have go : ∀ a' b' : Int, a' = nk (q.decls.take i.toNat ++ [x]) 1 → b' = nk (q.decls.take i.toNat ++ [x]) 2 → M1 a' b' i x p H1 next K := by
      intro a' b' ha' hb'
      unfold M1
      refine ⟨i0, by omega, ?_⟩
      have hcut := hd.cut (l := 0) (h := i.toNat) (m := p.s8.c) (Nat.zero_le _) (by omega) (by omega)
      rw [List.drop_zero] at hcut
      refine find_ok hcut (by rw [List.length_take]; omega) ⟨fun hf => ?_, fun hf => ?_⟩
      · rw [if_pos ((b6N _ _ 0 (Int.le_refl _)).1 hf)] at hdt
        have := h H1 (Hle.refl _); rw [hdt] at this; exact this
      · rw [if_neg (by rw [e3z hf]; decide)] at hdt
        refine ⟨fun hz => ?_, fun hz => ?_⟩
        · rw [if_pos hz] at hdt
          have := h H1 (Hle.refl _); rw [hdt] at this; exact this
        · rw [if_neg hz] at hdt
          have hlo := g5Q (x := x) ha2 hb2
          refine ⟨fun hm => ?_, fun hm => ?_⟩
          · rw [if_pos (hlo.1 (by simp only [Bool.or_eq_true, decide_eq_true_eq] at hm; omega))] at hdt
            have := h H1 (Hle.refl _); rw [hdt] at this; exact this
          · have hm' : ¬ (32 < nk (q.decls.take i.toNat ++ [x]) 1 ∨ 16 < nk (q.decls.take i.toNat ++ [x]) 2) := by
              simp only [Bool.or_eq_false_iff, decide_eq_false_iff_not] at hm; omega
            rw [if_neg (fun e => hm' (hlo.2 e)), ← htk] at hdt
            rw [r6 i0 (by omega)]
            rw [← htk] at ha' hb' hm'
            refine hn _ _ ⟨by dsimp only; omega, by dsimp only; omega, rfl, ?_, ?_, ?_, ?_, ?_⟩ (by dsimp only; omega) <;> (dsimp only; rw [show (i + 1).toNat = i.toNat + 1 by omega])
            · exact ha'
            · exact hb'
            · omega
            · omega
            · exact hdt
    have hx0 := hsz x (List.mem_of_getElem? hx)
    have k1 : nk (q.decls.take i.toNat) 1 ≤ (q.decls.take i.toNat).length := e4I _ _
    have k2 : nk (q.decls.take i.toNat) 2 ≤ (q.decls.take i.toNat).length := e4I _ _
    refine ⟨i0, c, x, hE, fun e => go _ _ ?_ ?_, fun e => go _ _ ?_ ?_⟩
    · have hk : kindD x = 1 := by unfold kindD; rw [if_neg (by omega)]
      rw [a6p, a7e, hk, if_pos rfl, ha, r6 (by omega) (by omega)]; omega
    · have hk : kindD x = 1 := by unfold kindD; rw [if_neg (by omega)]
      rw [a6p, a7e, hk, if_neg (by decide), hb]; omega
    · have hk : kindD x = 2 := by unfold kindD; rw [if_pos (by omega)]
      rw [a6p, a7e, hk, if_neg (by decide), ha]; omega
    · have hk : kindD x = 2 := by unfold kindD; rw [if_pos (by omega)]
      rw [a6p, a7e, hk, if_pos rfl, hb, r6 (by omega) (by omega)]; omega
  · rw [List.drop_eq_nil_of_le (by omega), declT] at hdt
    rw [hdt] at h
    dsimp only at h
    unfold a0y
    refine e8C hp (by simp only [big]; omega) fun s2 H2 l2 hS2 => ?_
    have n2 := hS2.1
    refine W2 (fun (j : Int) H' => 0 ≤ j ∧ j ≤ (uTs q.body).length ∧ H' = H2 ∧ ∀ u ∈ (uTs q.body).take j.toNat, kOf q.decls u.f5 = asU u) (fun j => ((uTs q.body).length - j).toNat) ⟨Int.le_refl _, by omega, rfl, fun u hu => by simp at hu⟩ ?_
    rintro j H3 next ⟨j0, j1, rfl, hj⟩ hk
    have h' := h H3 l2
    rw [e9q hj] at h'
    unfold a0x
    refine ⟨fun hq => ?_, fun hq => ?_⟩
    · obtain ⟨u, hu, hE⟩ := hS2.get j0 hq
      have hlt := p8 hu
      rw [drop_at hu, useT] at h'
      refine ⟨j0, hq, u, hE, find_ok (hd.le l2) hbd ⟨fun hf => ?_, fun hf => ?_⟩⟩
      · have h0k : kOf q.decls u.f5 = 0 := by
          by_cases e : kOf q.decls u.f5 = 0
          · exact e
          · have := (b6N q.decls u.f5 0 (Int.le_refl _)).2 ((c5y _ _).1 e)
            omega
        rw [if_neg (by rw [h0k]; unfold asU; split <;> decide), if_pos h0k] at h'
        exact h'
      · obtain ⟨d, f1, f2, f3⟩ := d9h q.decls u.f5 0 (Int.le_refl _) (by omega)
        rw [Int.sub_zero] at f2
        have hlt2 := p8 f2
        obtain ⟨d', hd', hE'⟩ := (hd.le l2).get (i := findI q.decls u.f5 0) (by omega) (by omega)
        rw [f2] at hd'; cases hd'
        refine ⟨by omega, by omega, d, hE', fun hb' => ?_, fun hb' => ?_⟩
        · have hne : ¬ kOf q.decls u.f5 = asU u := by
            rw [f3]
            unfold kindD asU
            cases hi : u.b5e <;> rw [hi] at hb' <;> simp at hb' ⊢ <;> simp [hb']
          rw [if_neg hne, if_neg (by rw [f3]; rcases a7M d with e | e <;> rw [e] <;> decide)] at h'
          exact h'
        · have he : kOf q.decls u.f5 = asU u := by
            rw [f3]
            unfold kindD asU
            cases hi : u.b5e <;> rw [hi] at hb' <;> simp at hb' ⊢ <;> simp [hb']
          rw [r6 j0 (by omega)]
          refine hk _ _ ⟨by omega, by omega, rfl, fun v hv => ?_⟩ (by omega)
          rw [show (j + 1).toNat = j.toNat + 1 by omega, F6 hu] at hv
          rcases List.mem_append.1 hv with hv | hv
          · exact hj v hv
          · rw [List.mem_singleton.1 hv]; exact he
    · unfold a0w
      rw [List.drop_eq_nil_of_le (by omega), useT] at h'
      exact h'
theorem g5R (q : PP) (k : Int) : (ofS q k).length ≤ q.decls.length := by
  unfold ofS; split
  · exact List.length_filter_le _ _
  · exact Nat.zero_le _
theorem e9r (hT : TabsH H) {p : i7} {q : PP} (hp : PH H p q) (hsm : q.Sm) {K : Sl → Int → Hp → Prop} (h : ∀ s H', Hle H H' → SlH H' 1 u7 s ((ofS q 1).map (·.f5)) → K s (wellS q).2 H') : a6S p H K := by
  refine b8u _ ?_
  unfold a4Y
  have hb := hp.bd
  simp only [big] at hb
  have hle := g5R q 1
  refine e4J hT hp hsm fun s1 H1 l1 hS1 _ => ?_
  have n1 := hS1.1
  refine W2 (fun (z : List ByteArray × Int) H' => 0 ≤ z.2 ∧ z.2 ≤ (ofS q 1).length ∧ H' = H1 ∧ z.1 = ((ofS q 1).take z.2.toNat).map (·.f5)) (fun z => ((ofS q 1).length - z.2).toNat) ⟨Int.le_refl _, by dsimp only; omega, rfl, rfl⟩ ?_
  rintro ⟨cs, i⟩ H2 next ⟨i0, i1, rfl, hcs⟩ hn
  dsimp only at i0 i1 hcs ⊢
  unfold a3j
  refine ⟨fun c => ?_, fun c => ?_⟩
  · obtain ⟨x, hx, hE⟩ := hS1.get i0 (by omega)
    have hlt := p8 hx
    have hcl : cs.length ≤ (ofS q 1).length := by rw [hcs, List.length_map, List.length_take]; omega
    refine ⟨i0, by omega, x, hE, by simp only [List.length_cons, List.length_nil]; omega, ?_⟩
    rw [r6 i0 (by omega)]
    refine hn _ _ ⟨by dsimp only; omega, by dsimp only; omega, rfl, ?_⟩ (by dsimp only; omega)
    dsimp only
    rw [show (i + 1).toNat = i.toNat + 1 by omega, F6 hx, List.map_append, ← hcs]; rfl
  · unfold a3i
    intro s2 H3 l3 hS3 _
    rw [hcs, List.take_of_length_le (by omega)] at hS3
    exact h s2 H3 (l1.trans l3) hS3
theorem d9l (hT : TabsH H) {p : i7} {q : PP} (hp : PH H p q) (hsm : q.Sm) {K : Sl → Int → Hp → Prop} (h : ∀ s H', Hle H H' → SlH H' 2 g9 s (ofS q 2) → K s (wellS q).2 H') : a5S p H K := by
  refine b6L _ ?_
  unfold a3W
  exact e4J hT hp hsm fun s1 H1 l1 hS1 _ => h s1 H1 l1 hS1
theorem e3A {p : i7} {q : PP} (hp : PH H p q) (hz : SzOk q.decls) {K : Sl → Hp → Prop} (h : ∀ s H', Hle H H' → SlH H' 1 u7 s ((kF 1 q.decls).map (·.f5)) → K s H') : a4j p H K := by
  refine b3x _ ?_
  unfold a2b
  obtain ⟨hd, hb, _⟩ := hp
  simp only [big] at hb
  have n1 := hd.1
  refine W2 (fun (z : List ByteArray × Int) H' => 0 ≤ z.2 ∧ z.2 ≤ q.decls.length ∧ H' = H ∧ z.1 = (kF 1 (q.decls.take z.2.toNat)).map (·.f5)) (fun z => (q.decls.length - z.2).toNat) ⟨Int.le_refl _, by dsimp only; omega, rfl, rfl⟩ ?_
  rintro ⟨cs, i⟩ H2 next ⟨i0, i1, rfl, hcs⟩ hn
  dsimp only at i0 i1 hcs ⊢
  unfold a0N
  refine ⟨fun c => ?_, fun c => ?_⟩
  · obtain ⟨x, hx, hE⟩ := hd.get i0 c
    have hlt := p8 hx
    have hx0 := hz x (List.mem_of_getElem? hx)
    have hcl : cs.length ≤ q.decls.length := by
      rw [hcs, List.length_map]
      exact Nat.le_trans (List.length_filter_le _ _) (by rw [List.length_take]; omega)
    refine ⟨i0, by omega, x, hE, fun e => ⟨by simp only [List.length_cons, List.length_nil]; omega, ?_⟩, fun e => ?_⟩
    · unfold M6
      rw [r6 i0 (by omega)]
      refine hn _ _ ⟨by dsimp only; omega, by dsimp only; omega, rfl, ?_⟩ (by dsimp only; omega)
      dsimp only
      rw [show (i + 1).toNat = i.toNat + 1 by omega, F6 hx, b3y, d0l (by unfold kindD; rw [if_neg (by omega)]), List.map_append, ← hcs]; rfl
    · unfold M6
      rw [r6 i0 (by omega)]
      refine hn _ _ ⟨by dsimp only; omega, by dsimp only; omega, rfl, ?_⟩ (by dsimp only; omega)
      dsimp only
      rw [show (i + 1).toNat = i.toNat + 1 by omega, F6 hx, b3y, c5A (by unfold kindD; rw [if_pos (by omega)]; decide), List.append_nil, ← hcs]
  · unfold a0M
    intro s2 H3 l3 hS3 _
    rw [hcs, List.take_of_length_le (by omega)] at hS3
    exact h s2 H3 l3 hS3
theorem d6p {p : i7} {q : PP} (hp : PH H p q) (hz : SzOk q.decls) {K : Sl → Hp → Prop} (h : ∀ s H', Hle H H' → SlH H' 2 g9 s (kF 2 q.decls) → K s H') : a3q p H K := by
  refine b1f _ ?_
  unfold a1i
  obtain ⟨hd, hb, _⟩ := hp
  simp only [big] at hb
  have n1 := hd.1
  refine W2 (fun (z : List i4 × Int) H' => 0 ≤ z.2 ∧ z.2 ≤ q.decls.length ∧ H' = H ∧ z.1 = kF 2 (q.decls.take z.2.toNat)) (fun z => (q.decls.length - z.2).toNat) ⟨Int.le_refl _, by dsimp only; omega, rfl, rfl⟩ ?_
  rintro ⟨cs, i⟩ H2 next ⟨i0, i1, rfl, hcs⟩ hn
  dsimp only at i0 i1 hcs ⊢
  unfold Z4
  refine ⟨fun c => ?_, fun c => ?_⟩
  · obtain ⟨x, hx, hE⟩ := hd.get i0 c
    have hlt := p8 hx
    have hx0 := hz x (List.mem_of_getElem? hx)
    have hcl : cs.length ≤ q.decls.length := by
      rw [hcs]
      exact Nat.le_trans (List.length_filter_le _ _) (by rw [List.length_take]; omega)
    refine ⟨i0, by omega, x, hE, fun e => ⟨by simp only [List.length_cons, List.length_nil]; omega, ?_⟩, fun e => ?_⟩
    · unfold L5
      rw [r6 i0 (by omega)]
      refine hn _ _ ⟨by dsimp only; omega, by dsimp only; omega, rfl, ?_⟩ (by dsimp only; omega)
      dsimp only
      rw [show (i + 1).toNat = i.toNat + 1 by omega, F6 hx, b3y, d0l (by unfold kindD; rw [if_pos (by omega)]), ← hcs]
    · unfold L5
      rw [r6 i0 (by omega)]
      refine hn _ _ ⟨by dsimp only; omega, by dsimp only; omega, rfl, ?_⟩ (by dsimp only; omega)
      dsimp only
      rw [show (i + 1).toNat = i.toNat + 1 by omega, F6 hx, b3y, c5A (by unfold kindD; rw [if_neg (by omega)]; decide), List.append_nil, ← hcs]
  · unfold Z3
    intro s2 H3 l3 hS3 _
    rw [hcs, List.take_of_length_le (by omega)] at hS3
    exact h s2 H3 l3 hS3
theorem e3B {s s' : Sl} {xs : List i4} (h1 : SlH H 2 g9 s xs) (h2 : SlH H 2 g9 s' xs) (hb : xs.length ≤ big) {K : Bool → Hp → Prop} (h : K true H) : a1r s s' H K := by
  refine b1L _ _ ?_
  unfold a1C
  have n1 := h1.1; have n2 := h2.1
  refine ⟨fun e => by omega, fun _ => ?_⟩
  refine W2 (fun (i : Int) H' => 0 ≤ i ∧ i ≤ xs.length ∧ H' = H) (fun i => (xs.length - i).toNat) ⟨Int.le_refl _, by omega, rfl⟩ ?_
  rintro i H1 next ⟨i0, i1, rfl⟩ hn
  unfold a0B
  refine ⟨fun hq => ?_, fun hq => ?_⟩
  · obtain ⟨x, hx, hE⟩ := h1.get i0 hq
    obtain ⟨y, hy, hF⟩ := h2.get i0 (show i < (s'.n : Int) by omega)
    rw [hx] at hy; cases hy
    refine ⟨i0, hq, x, hE, i0, by omega, x, hF, fun e => (e ⟨rfl, rfl⟩).elim, fun _ => ?_⟩
    rw [r6 i0 (by simp only [big] at hb; omega)]
    exact hn _ _ ⟨by omega, by omega, rfl⟩ (by omega)
  · unfold a0A; exact h
theorem e9s {q : PP} (h : ¬ (wellS q).2 = 0) (k : Int) : ofS q k = [] := by unfold ofS; rw [if_neg h]
theorem e3C {q : PP} (h : (wellS q).2 = 0) (k : Int) : ofS q k = kF k q.decls := by unfold ofS; rw [if_pos h]
theorem d0m (hT : TabsH H) {p : i7} {q : PP} (hp : PH H p q) (hsm : q.Sm) (hcp : p.s8.n ≤ p.s8.c ∧ p.Z8.n ≤ p.Z8.c) {K : Bool → Hp → Prop} (h : ∀ H', Hle H H' → K true H') : a2g p H K := by
  refine a9H _ ?_
  unfold Z5
  refine d9f hT fun H1 l1 => ⟨fun e => (by cases e), fun _ => ?_⟩
  refine c4z (hT.le l1) (hp.le l1) hsm fun H2 l2 => ?_
  have l12 := l1.trans l2
  refine d6o (hp.le l12) hcp.1 fun H3 l3 => ?_
  have l13 := l12.trans l3
  refine e9r (hT.le l13) (hp.le l13) hsm fun s4 H4 l4 hS4 => ?_
  have l14 := l13.trans l4
  refine d9l (hT.le l14) (hp.le l14) hsm fun s5 H5 l5 hS5 => ?_
  have l15 := l14.trans l5
  refine ⟨fun e => by simp at e, fun _ => ⟨fun hne => ?_, fun he => ?_⟩⟩
  · have e4 := hS4.1
    have e5 := hS5.1
    rw [e9s hne] at e4 e5
    have : (decide ((s4.n : Int) = 0) && decide ((s5.n : Int) = 0)) = true := by
      simp only [List.map_nil, List.length_nil] at e4 e5
      simp [e4, e5]
    rw [this]; exact h H5 l15
  · have hz := d1B ((e3x q).1 he).1
    have hb := hp.bd
    have k1 : (kF 1 q.decls).length ≤ q.decls.length := List.length_filter_le _ _
    have k2 : (kF 2 q.decls).length ≤ q.decls.length := List.length_filter_le _ _
    rw [e3C he] at hS4 hS5
    refine e3A (hp.le l15) hz fun s6 H6 l6 hS6 => ?_
    refine e2S (hS4.le (l5.trans l6)) hS6 (by rw [List.length_map]; omega) ⟨fun _ => ?_, fun e => (e rfl).elim⟩
    refine d6p (hp.le (l15.trans l6)) hz fun s7 H7 l7 hS7 => ⟨fun _ => ?_, fun e => (e rfl).elim⟩
    exact e3B (hS5.le (l6.trans l7)) hS7 (by omega) (h H7 (l15.trans (l6.trans l7)))
end
end Go.Proofs.YthldnpmfelniiaaDoor
