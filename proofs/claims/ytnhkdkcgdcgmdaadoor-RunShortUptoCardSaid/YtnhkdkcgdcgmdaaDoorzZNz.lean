/- RunShort: the law. Off the reading; a region with many orders by what holds at each set of operations that are done. -/
import Derived.Test.YtnhkdkcgdcgmdaaDoorzZNh
import Derived.Test.YtnhkdkcgdcgmdaaDoorzZN9
namespace Go.Proofs.YtnhkdkcgdcgmdaaDoor
open Go.RowKit
set_option maxRecDepth 100000
set_option maxHeartbeats 4000000
section
variable {H H' H'' : Hp}
def gX (n : Int) : PT := sN 1 xS [plainT n] [] [] []
def iX (t : PT) : PT := sN 3 oS [] [t] [gX 1] [gX 2]
def qX (t : PT) : PP := ⟨[⟨xS, 0⟩], [iX t]⟩
def Fact (c : o8) (t : PT) (H : Hp) : Nat → Value → Prop
  | 0, v => v = .agg (m7 ⟨xS, 0⟩).toArray
  | 1, v => ∃ s, v = vs s ∧ SlH H 2 m7 s [⟨xS, 0⟩]
  | 2, v => v = .agg (g8 c).toArray
  | 3, v => ∃ s, v = vs s ∧ SlH H 4 g8 s [c]
  | 4, v => ∃ e, v = .agg (d5 e).toArray ∧ EH H e (plainT 1)
  | 5, v => ∃ e, v = .agg (i5 e).toArray ∧ SH H e (gX 1)
  | 6, v => ∃ s x, v = vs s ∧ SlH H 6 i5 s [x] ∧ SH H x (gX 1)
  | 7, v => ∃ e, v = .agg (d5 e).toArray ∧ EH H e (plainT 2)
  | 8, v => ∃ e, v = .agg (i5 e).toArray ∧ SH H e (gX 2)
  | 9, v => ∃ s x, v = vs s ∧ SlH H 6 i5 s [x] ∧ SH H x (gX 2)
  | 10, v => ∃ e, v = .agg (i5 e).toArray ∧ SH H e (iX t)
  | 11, v => ∃ s x, v = vs s ∧ SlH H 6 i5 s [x] ∧ SH H x (iX t)
  | 12, v => ∃ p, v = .agg (q9 p).toArray ∧ PH H p (qX t)
  | _, _ => True
theorem Fact.le {c : o8} {t : PT} (l : Hle H H') : ∀ {j : Nat} {v : Value}, Fact c t H j v → Fact c t H' j v := by
  intro j v h
  match j, h with
  | 0, h => exact h
  | 1, ⟨s, e, h⟩ => exact ⟨s, e, h.le l⟩
  | 2, h => exact h
  | 3, ⟨s, e, h⟩ => exact ⟨s, e, h.le l⟩
  | 4, ⟨s, e, h⟩ => exact ⟨s, e, h.le l⟩
  | 5, ⟨s, e, h⟩ => exact ⟨s, e, h.le l⟩
  | 6, ⟨s, x, e, h, k⟩ => exact ⟨s, x, e, h.le l, k.le l⟩
  | 7, ⟨s, e, h⟩ => exact ⟨s, e, h.le l⟩
  | 8, ⟨s, e, h⟩ => exact ⟨s, e, h.le l⟩
  | 9, ⟨s, x, e, h, k⟩ => exact ⟨s, x, e, h.le l, k.le l⟩
  | 10, ⟨s, e, h⟩ => exact ⟨s, e, h.le l⟩
  | 11, ⟨s, x, e, h, k⟩ => exact ⟨s, x, e, h.le l, k.le l⟩
  | 12, ⟨s, e, h⟩ => exact ⟨s, e, h.le l⟩
  | _ + 13, _ => trivial
abbrev Fcts (c : o8) (t : PT) (H : Hp) (L : Nat) (l : List Value) : Prop := ∀ j, L.testBit j = true → Fact c t H j (l.getD j undef)
def Mem (t : PT) (H : Hp) (L : Nat) (l : List Value) (B : Frag) : Prop := (L.testBit 14 = true → L.testBit 13 = true) ∧ (L.testBit 13 = true → ∃ gp pz B', l.getD 13 undef = .pointer (some ⟨gp, 0, none⟩) ∧ B = (gp, Obj.cells (q9 pz).toArray 44 (0, 0)) :: B' ∧ (L.testBit 14 = true → PH H pz (qX t)))
def JS (w : World) (H H1 : Hp) (c : o8) (t : PT) (g : Nat) (L : Nat) (l : List Value) (w' : World) : Prop :=
  l.length = 14 ∧ ∃ H' B, Hle H1 H' ∧ Inv w (inF []) H H' [B, bx g 27 (g8 c)] w' ∧ Fcts c t H' L l ∧ Mem t H' L l B
theorem c1x {l : List Value} {i : Nat} {v : Value} (h : i < l.length) : (l.set i v).getD i undef = v := by
  rw [List.getD_eq_getElem?_getD, List.getElem?_set_self h]; rfl
theorem b4T {l : List Value} {i j : Nat} {v : Value} (h : i ≠ j) : (l.set i v).getD j undef = l.getD j undef := by
  rw [List.getD_eq_getElem?_getD, List.getElem?_set_ne h, ← List.getD_eq_getElem?_getD]
theorem a9F {L i j : Nat} (h : (L ||| (1 <<< i)).testBit j = true) : j = i ∨ L.testBit j = true := by
  rw [Nat.testBit_or, R8, Bool.or_eq_true] at h
  rcases h with h | h
  · exact .inr h
  · exact .inl (of_decide_eq_true h)
theorem c7G {L i j : Nat} (h : L.testBit j = true) : (L ||| (1 <<< i)).testBit j = true := by rw [Nat.testBit_or, h]; rfl
section
variable {w w' : World} {H0 H1 : Hp} {c : o8} {t : PT} {g : Nat} {L : Nat} {l : List Value} {B : Frag} {v : Value} {i : Nat}
theorem Fcts.put (hl : l.length = 14) (hi : i < 14) (hf : Fcts c t H L l) (le : Hle H H') (hv : Fact c t H' i v) : Fcts c t H' (L ||| (1 <<< i)) (l.set i v) := by
  intro j hj
  by_cases e : j = i
  · subst e; rw [c1x (by omega)]; exact hv
  · rw [b4T (fun q => e q.symm)]
    exact (hf j ((a9F hj).resolve_left e)).le le
theorem Mem.put (hm : Mem t H L l B) (hi : i < 13) (le : Hle H H') : Mem t H' (L ||| (1 <<< i)) (l.set i v) B := by
  refine ⟨fun h => c7G (hm.1 ((a9F h).resolve_left (by omega))), fun h13 => ?_⟩
  obtain ⟨gp, pz, B', e1, e2, e3⟩ := hm.2 ((a9F h13).resolve_left (by omega))
  exact ⟨gp, pz, B', by rw [b4T (by omega)]; exact e1, e2, fun h14 => (e3 ((a9F h14).resolve_left (by omega))).le le⟩
theorem JS.put (hl : l.length = 14) (le : Hle H1 H) (hf : Fcts c t H L l) (hm : Mem t H L l B) (hi : i < 13) (le' : Hle H H') (I : Inv w (inF []) H0 H' [B, bx g 27 (g8 c)] w') (hv : Fact c t H' i v) : JS w H0 H1 c t g (L ||| (1 <<< i)) (l.set i v) w' :=
  ⟨by rw [List.length_set]; exact hl, H', B, le.trans le', I, hf.put hl (by omega) le' hv, hm.put hi le'⟩
theorem R6 {ms : List (Nat × Nat × Nat)} {k : Nat} {p : Nat × Nat × Nat} (h : rdyIn L [] 0 ms = true) (hp : nthM ms k = some p) (hd : rdyB p.1 L = true) : L.testBit k = true := by
  cases hb : L.testBit k with
  | true => rfl
  | false =>
    have := b6n ms 0 k p h hp (by rwa [Nat.zero_add]) hd
    cases this
theorem a1G {d : Nat} (ts : List Nat) (hd : d = slotM ts) (h : ∀ t ∈ ts, L.testBit t = true) : rdyB d L = true := b1A.2 fun t ht => h t ((c0X ts t).1 (by rw [← hd]; exact ht))
end
theorem d0Y {a b : Int} {or neg : Bool} (ha : Nn a) (hb : Nn b) : (wellS (shortP a b or neg)).2 = 0 ∧ (shortP a b or neg).Sm := by
  have f1 : Fine 7 3 (cN 3 1 [plainT a, plainT b] []) := (a0N (l := .cond 3 1 2 0) (n := 2) (h := 2) (by decide) (b5P (a3Z ha) (a3Z hb)) (by decide) rfl ⟨b3c, z64⟩).up (by simp) (by decide)
  have f2 : Fine 5 3 (eN 9 0 oS [plainT 1, eN 2 0 xS []]) := c6r (by decide) (by decide) (a3Z n1) (d3Z.up (by decide) (by decide))
  have f3 : Fine 11 4 (cN 3 3 [eN 9 0 oS [plainT 1, eN 2 0 xS []], plainT 0] []) := a0N (l := .cond 3 3 2 0) (n := 5) (h := 3) (by decide) (b5P f2 ((a3Z n0).up (by decide) (by decide))) (by decide) rfl ⟨b3c, z64⟩
  have f4 : Fine 23 5 (cN (if or = true then 6 else 5) 0 [] [cN 3 1 [plainT a, plainT b] [], cN 3 3 [eN 9 0 oS [plainT 1, eN 2 0 xS []], plainT 0] []]) :=
    a0N (l := .cond (if or = true then 6 else 5) 0 0 2) (n := 11) (h := 4) (by decide) (b5P (f1.up (by decide) (by decide)) f3) (by cases or <;> decide) rfl ⟨b3c, z64⟩
  have f5 : Fine 24 6 (notP neg (cN (if or = true then 6 else 5) 0 [] [cN 3 1 [plainT a, plainT b] [], cN 3 3 [eN 9 0 oS [plainT 1, eN 2 0 xS []], plainT 0] []])) := by
    cases neg
    · exact f4.up (by decide) (by decide)
    · exact a0N (l := .cond 4 0 0 1) (n := 23) (h := 5) (by decide) (c0U f4) (by decide) rfl ⟨b3c, z64⟩
  have g1 : Fine 24 6 (sN 1 xS [plainT 1] [] [] []) := (b0k (by decide) (a3Z n1)).up (by decide) (by decide)
  have g2 : Fine 24 6 (sN 1 xS [plainT 2] [] [] []) := (b0k (by decide) (a3Z n2)).up (by decide) (by decide)
  have f6 : Fine (1 + 3 * 24) 7 (sN 3 oS [] [notP neg (cN (if or = true then 6 else 5) 0 [] [cN 3 1 [plainT a, plainT b] [], cN 3 3 [eN 9 0 oS [plainT 1, eN 2 0 xS []], plainT 0] []])] [sN 1 xS [plainT 1] [] [] []] [sN 1 xS [plainT 2] [] [] []]) :=
    a0N (l := .stmt 3 oS 0 1 1 1) (n := 24) (h := 6) (by decide) (fun u hu => by
      have hu' : u ∈ [notP neg (cN (if or = true then 6 else 5) 0 [] [cN 3 1 [plainT a, plainT b] [], cN 3 3 [eN 9 0 oS [plainT 1, eN 2 0 xS []], plainT 0] []]), sN 1 xS [plainT 1] [] [] [], sN 1 xS [plainT 2] [] [] []] := hu
      rcases List.mem_cons.1 hu' with e | hu'
      · rw [e]; exact f5
      rcases List.mem_cons.1 hu' with e | hu'
      · rw [e]; exact g1
      · rw [List.mem_singleton.1 hu']; exact g2) (by decide) rfl ⟨b3c, z64⟩
  refine c1u (n := 1 + 3 * 24) (h := 7) g6K (c0U f6) (by show 1 + 1 * (1 + 3 * 24) ≤ 4096; decide) (by decide) (by decide) g0n (g3S fun u hu => ?_)
  have c1 : uT (cN 3 1 [plainT a, plainT b] []) = [] := by
    unfold cN; rw [uT]
    show [] ++ uTs [plainT a, plainT b] = _
    rw [b9t, b1z, b1z]; rfl
  have c2 : uT (cN 3 3 [eN 9 0 oS [plainT 1, eN 2 0 xS []], plainT 0] []) = [⟨xS, false⟩] := by
    unfold cN; rw [uT]
    show [] ++ uTs [eN 9 0 oS [plainT 1, eN 2 0 xS []], plainT 0] = _
    rw [b9t, g3R _ _ _ _ (by decide) (by decide), b9t, b1z, b1z, g6J]; rfl
  have c3 : uT (cN (if or = true then 6 else 5) 0 [] [cN 3 1 [plainT a, plainT b] [], cN 3 3 [eN 9 0 oS [plainT 1, eN 2 0 xS []], plainT 0] []]) = [⟨xS, false⟩] := by
    unfold cN at c1 c2 ⊢
    rw [uT]
    show [] ++ uTs [_, _] = _
    rw [b9t, c1, c2]; rfl
  have c4 : uT (notP neg (cN (if or = true then 6 else 5) 0 [] [cN 3 1 [plainT a, plainT b] [], cN 3 3 [eN 9 0 oS [plainT 1, eN 2 0 xS []], plainT 0] []])) = [⟨xS, false⟩] := by
    cases neg
    · exact c3
    · rw [notP, if_pos rfl]
      generalize cN (if or = true then 6 else 5) 0 [] [cN 3 1 [plainT a, plainT b] [], cN 3 3 [eN 9 0 oS [plainT 1, eN 2 0 xS []], plainT 0] []] = z at c3
      unfold cN; rw [uT]
      show [] ++ uTs [z] = _
      rw [c2k, c3]; rfl
  have : uTs (shortP a b or neg).body = [⟨xS, false⟩, ⟨xS, false⟩, ⟨xS, false⟩] := by
    unfold shortP
    generalize notP neg (cN (if or = true then 6 else 5) 0 [] [cN 3 1 [plainT a, plainT b] [], cN 3 3 [eN 9 0 oS [plainT 1, eN 2 0 xS []], plainT 0] []]) = z at c4
    show uTs [sN 3 oS [] [z] [sN 1 xS [plainT 1] [] [] []] [sN 1 xS [plainT 2] [] [] []]] = _
    rw [c2k]
    have e : uT (sN 3 oS [] [z] [sN 1 xS [plainT 1] [] [] []] [sN 1 xS [plainT 2] [] [] []]) = uTs [z, sN 1 xS [plainT 1] [] [] [], sN 1 xS [plainT 2] [] [] []] := by
      generalize sN 1 xS [plainT 1] [] [] [] = a1
      generalize sN 1 xS [plainT 2] [] [] [] = a2
      unfold sN; rw [uT]; rfl
    rw [e, uTs, b9t, c4, c7F, c7F, b1z, b1z]; rfl
  rw [this] at hu
  simpa using hu
section
variable {w0 w : World} {H0 H1 : Hp} {c : o8} {t : PT} {g : Nat} {L : Nat} {l : List Value} {i : Nat} {E : Pan} {u u2 u3 : Value}
theorem d4b {n : Int} (hJ : JS w0 H0 H1 c t g L l w) (hi : i < 13) (hv : ∀ y H', EH H' y (plainT n) → Fact c t H' i (.agg (d5 y).toArray)) :
    opK Tryd.prog E (xCall (Value.func (.func 23) #[] #[]) [(Value.int .i64 n)]) w fun v w2 => JS w0 H0 H1 c t g (L ||| (1 <<< i)) (l.set i v) w2 := by
  obtain ⟨hl, H', B, le, I, hf, hm⟩ := hJ
  refine d8 (cap := []) (fun args w => Tryd.call23 args w) ?_
  refine m9 (Fi := []) (Fr := [_, _]) I (a7i (K := fun r H'' => EH H'' r (plainT n)) fun y H2 l2 e => e) (fun v H2 Fo w2 I2 l2 k2 q => ?_) (fun _ _ _ _ _ q => q.elim)
  obtain ⟨y, rfl, rfl, q⟩ := q
  exact JS.put hl le hf hm hi l2 I2 (hv y H2 q)
theorem c7H {n : Int} (hJ : JS w0 H0 H1 c t g L l w) (hi : i < 13) (hk : ∀ H', Fcts c t H' L l → ∃ e, u = .agg (d5 e).toArray ∧ EH H' e (plainT n)) (hv : ∀ y H', SH H' y (gX n) → Fact c t H' i (.agg (i5 y).toArray)) :
    opK Tryd.prog E (xCall (Value.func (.func 24) #[] #[]) [(Value.string xS), u]) w fun v w2 => JS w0 H0 H1 c t g (L ||| (1 <<< i)) (l.set i v) w2 := by
  obtain ⟨hl, H', B, le, I, hf, hm⟩ := hJ
  obtain ⟨e, rfl, he⟩ := hk H' hf
  refine d8 (cap := []) (fun args w => Tryd.call24 args w) ?_
  refine m9 (Fi := []) (Fr := [_, _]) I (e6k (s := xS) he (K := fun r H'' => SH H'' r (gX n)) fun y H2 l2 e => e) (fun v H2 Fo w2 I2 l2 k2 q => ?_) (fun _ _ _ _ _ q => q.elim)
  obtain ⟨y, rfl, rfl, q⟩ := q
  exact JS.put hl le hf hm hi l2 I2 (hv y H2 q)
theorem b7H {x : PT} (hJ : JS w0 H0 H1 c t g L l w) (hi : i < 13) (hk : ∀ H', Fcts c t H' L l → ∃ e, u = .agg (i5 e).toArray ∧ SH H' e x) (hv : ∀ s e H', SlH H' 6 i5 s [e] → SH H' e x → Fact c t H' i (vs s)) :
    opK Tryd.prog E (xV (Instr.buildSlice 42 1 #[(0, u)])) w fun v w2 => JS w0 H0 H1 c t g (L ||| (1 <<< i)) (l.set i v) w2 := by
  obtain ⟨hl, H', B, le, I, hf, hm⟩ := hJ
  obtain ⟨e, rfl, he⟩ := hk H' hf
  refine U6 (e := 63) (c := i5) (xs := [e]) I (e0i _ _ _ _ _ _ _ _ _ _ _ _ _ _) rfl rfl b3f b3g (nb rfl) fun s F w2 hs I2 k2 => ?_
  obtain ⟨H2, I3, l3, hs3⟩ := I2.freezeL hs (by decide)
  exact JS.put hl le hf hm hi l3 I3 (hv s e H2 hs3 (he.le l3))
theorem d8T (hJ : JS w0 H0 H1 c t g L l w) (hk : ∀ H', Fcts c t H' L l → Fact c t H' 0 u) :
    opK Tryd.prog E (xV (Instr.buildSlice 41 1 #[(0, u)])) w fun v w2 => JS w0 H0 H1 c t g (L ||| (1 <<< 1)) (l.set 1 v) w2 := by
  obtain ⟨hl, H', B, le, I, hf, hm⟩ := hJ
  obtain rfl : u = .agg (m7 ⟨xS, 0⟩).toArray := hk H' hf
  refine U6 (e := 58) (c := m7) (xs := [⟨xS, 0⟩]) I (c6O _ _) rfl rfl b3d b3e (nb rfl) fun s F w2 hs I2 k2 => ?_
  obtain ⟨H2, I3, l3, hs3⟩ := I2.freezeL hs (by decide)
  exact JS.put hl le hf hm (by decide) l3 I3 ⟨s, rfl, hs3⟩
theorem e6l (hJ : JS w0 H0 H1 c t g L l w) : opK Tryd.prog E (xV (Instr.loadAt 27 (.pointer (some ⟨g, 0, none⟩)))) w fun v w2 => JS w0 H0 H1 c t g (L ||| (1 <<< 2)) (l.set 2 v) w2 := by
  obtain ⟨hl, H', B, le, I, hf, hm⟩ := hJ
  refine d6 (ldA (vs := g8 c) Tryd.isAgg27 Tryd.sizeOf27 rfl ((I.bring 1).at1 (o := 0) (nb rfl) rfl)) ?_
  exact JS.put hl le hf hm (by decide) (Hle.refl _) I rfl
theorem d8U (hJ : JS w0 H0 H1 c t g L l w) (hk : ∀ H', Fcts c t H' L l → Fact c t H' 2 u) :
    opK Tryd.prog E (xV (Instr.buildSlice 25 1 #[(0, u)])) w fun v w2 => JS w0 H0 H1 c t g (L ||| (1 <<< 3)) (l.set 3 v) w2 := by
  obtain ⟨hl, H', B, le, I, hf, hm⟩ := hJ
  obtain rfl : u = .agg (g8 c).toArray := hk H' hf
  refine U6 (e := 27) (c := g8) (xs := [c]) I (c6P _ _ _ _ _ _ _ _) rfl rfl a7j a7k (nb rfl) fun s F w2 hs I2 k2 => ?_
  obtain ⟨H2, I3, l3, hs3⟩ := I2.freezeL hs (by decide)
  exact JS.put hl le hf hm (by decide) l3 I3 ⟨s, rfl, hs3⟩
theorem g3T {s1 s2 s3 : Sl} : Pu Tryd.prog (xV (Instr.build 63 #[(0, (Value.int .i64 3)), (3, vs s1), (4, vs s2), (5, vs s3)])) (.agg (i5 ⟨3, oS, ⟨none, 0, 0⟩, s1, s2, s3⟩).toArray) := Pu.ok fun w => by kernel_rfl
theorem g3U (hJ : JS w0 H0 H1 c t g L l w) (hc : CH H1 c t) (h3 : ∀ H', Fcts c t H' L l → Fact c t H' 3 u) (h6 : ∀ H', Fcts c t H' L l → Fact c t H' 6 u2) (h9 : ∀ H', Fcts c t H' L l → Fact c t H' 9 u3) :
    opK Tryd.prog E (xV (Instr.build 63 #[(0, (Value.int .i64 3)), (3, u), (4, u2), (5, u3)])) w fun v w2 => JS w0 H0 H1 c t g (L ||| (1 <<< 10)) (l.set 10 v) w2 := by
  obtain ⟨hl, H', B, le, I, hf, hm⟩ := hJ
  obtain ⟨s1, rfl, hs1⟩ := h3 H' hf
  obtain ⟨s2, x2, rfl, hs2, hx2⟩ := h6 H' hf
  obtain ⟨s3, x3, rfl, hs3, hx3⟩ := h9 H' hf
  refine a7 g3T ?_
  exact JS.put hl le hf hm (by decide) (Hle.refl _) I ⟨_, rfl, SH.node (SlH.nil _ _ _) (Nat.zero_le _) s7.nil hs1 (by simp [big]) (s7.one (hc.le le)) hs2 (by simp [big]) (s7.one hx2) hs3 (by simp [big]) (s7.one hx3)⟩
theorem d8V {s1 s2 : Sl} : Pu Tryd.prog (xV (Instr.build 44 #[(0, vs s1), (1, vs s2)])) (.agg (q9 ⟨s1, s2⟩).toArray) := Pu.ok fun w => by kernel_rfl
theorem e6m (hJ : JS w0 H0 H1 c t g L l w) (h1 : ∀ H', Fcts c t H' L l → Fact c t H' 1 u) (h11 : ∀ H', Fcts c t H' L l → Fact c t H' 11 u2) :
    opK Tryd.prog E (xV (Instr.build 44 #[(0, u), (1, u2)])) w fun v w2 => JS w0 H0 H1 c t g (L ||| (1 <<< 12)) (l.set 12 v) w2 := by
  obtain ⟨hl, H', B, le, I, hf, hm⟩ := hJ
  obtain ⟨s1, rfl, hs1⟩ := h1 H' hf
  obtain ⟨s2, x2, rfl, hs2, hx2⟩ := h11 H' hf
  refine a7 d8V ?_
  exact JS.put hl le hf hm (by decide) (Hle.refl _) I ⟨_, rfl, PH.one (q := qX t) hs1 (by show 1 ≤ 4; decide) hs2 (by simp) (s7.one hx2)⟩
theorem d8W (hJ : JS w0 H0 H1 c t g L l w) (hb : L.testBit 13 = false) : opK Tryd.prog E (xV (Instr.alloc 44 true (.tuple #[]))) w fun v w2 => JS w0 H0 H1 c t g (L ||| (1 <<< 13)) (l.set 13 v) w2 := by
  obtain ⟨hl, H', B, le, I, hf, hm⟩ := hJ
  refine u6 I Tryd.zeroValue44 (cs := q9 ⟨⟨none, 0, 0⟩, ⟨none, 0, 0⟩⟩) rfl fun gp w2 I2 _ => ?_
  refine ⟨by rw [List.length_set]; exact hl, H', bx gp 44 (q9 ⟨⟨none, 0, 0⟩, ⟨none, 0, 0⟩⟩) ++ B, le, I2.re [] (fun f f0 fa => by simp only [bx, List.flatten_cons, List.flatten_nil, f0, fa]; omega), fun j hj => ?_, fun _ => by rw [Nat.testBit_or, R8]; simp, fun _ => ⟨gp, _, B, c1x (by omega), rfl, fun h14 => ?_⟩⟩
  · by_cases e : j = 13
    · subst e; trivial
    · rw [b4T (fun q => e q.symm)]
      exact hf j ((a9F hj).resolve_left e)
  · have := hm.1 ((a9F h14).resolve_left (by decide))
    rw [hb] at this; cases this
theorem d8X (hJ : JS w0 H0 H1 c t g L l w) (hb : L.testBit 13 = true) (hu2 : u2 = l.getD 13 undef) (h12 : ∀ H', Fcts c t H' L l → Fact c t H' 12 u) : opK Tryd.prog E (xU (Instr.storeAt 44 u2 u)) w fun _ w2 => JS w0 H0 H1 c t g (L ||| (1 <<< 14)) l w2 := by
  obtain ⟨hl, H', B, le, I, hf, hm⟩ := hJ
  obtain ⟨p, rfl, hp⟩ := h12 H' hf
  obtain ⟨gp, pz, B', e1, rfl, e3⟩ := hm.2 hb
  rw [hu2, e1]
  refine o7 I Tryd.sizeOf44 (vs := q9 p) (cs' := q9 p) rfl rfl (nb rfl) rfl rfl fun w2 I2 _ => ?_
  refine ⟨hl, H', _, le, I2, fun j hj => ?_, fun _ => c7G hb, fun _ => ⟨gp, p, B', e1, rfl, fun _ => hp⟩⟩
  rcases a9F hj with e | e
  · subst e; trivial
  · exact hf j e
end
theorem a0R {d L k : Nat} (h : rdyB d L = true) (hk : d.testBit k = true) : L.testBit k = true := b1A.1 h k hk
theorem d4c {k : Int} {s : Sl} : Pu Tryd.prog (xV (Instr.build 27 #[(0, (Value.int .i64 k)), (3, vs s)])) (.agg (g8 ⟨k, 0, ⟨none, 0, 0⟩, s⟩).toArray) := Pu.ok fun w => by kernel_rfl
theorem g0o (x y : o8) (w : World) : (Instr.buildSlice 25 2 #[(0, (Value.agg (g8 x).toArray)), (1, (Value.agg (g8 y).toArray))]).run Tryd.prog w = .ok (.slice (some ⟨w.heap.size, 0, none⟩) 2 2) (w.alloc (.cells (g8 x ++ g8 y).toArray 27)) := by kernel_rfl
def tX (a b : Int) (or neg : Bool) : PT := notP neg (cN (if or = true then 6 else 5) 0 [] [cN 3 1 [plainT a, plainT b] [], cN 3 3 [eN 9 0 oS [plainT 1, eN 2 0 xS []], plainT 0] []])
section
variable {w w' : World} {H0 H1 : Hp} {R : Value → World → Prop} {E : Pan}
theorem c6s {a b : Int} {or neg : Bool} {g11 : Nat} {c : o8} (hT : TabsH H1) (ha : Nn a) (hb : Nn b) (I : Inv w (inF []) H0 H1 [bx g11 27 (g8 c)] w') (hc : CH H1 c (tX a b or neg))
    (hR : ∀ H' w2, Hle H1 H' → Inv w (inF []) H0 H' [] w2 → R (.bool true) w2) : c9N (vi a) (vi b) (.bool or) (.bool neg) (.pointer (some ⟨g11, 0, none⟩)) w' R E := by
  unfold c9N
  intro _
  refine Z9 I fun w1 I1 => ?_
  refine ⟨fun L l w2 => JS w H0 H1 c (tX a b or neg) g11 L l w2, ?_, ⟨?_, ?_, ?_, ?_, ?_, ?_, ?_, ?_, ?_, ?_, ?_, ?_, ?_, ?_, ?_, trivial⟩, ?_⟩
  · intro q
    exact ⟨rfl, H1, [], Hle.refl _, I1.nil, fun j hj => by simp at hj, fun h => by simp at h, fun h => by simp at h⟩
  · intro L q w2 hJ _ _
    refine a7 (b6f _) ?_
    obtain ⟨hl, H', B, le, I, hf, hm⟩ := hJ
    exact JS.put (i := 0) hl le hf hm (by decide) (Hle.refl _) I rfl
  · intro L q w2 hJ _ hr
    exact d8T hJ fun H' hf => hf 0 (a0R hr (by decide))
  · intro L q w2 hJ _ _
    exact e6l hJ
  · intro L q w2 hJ _ hr
    exact d8U hJ fun H' hf => hf 2 (a0R hr (by decide))
  · intro L q w2 hJ _ _
    exact d4b (i := 4) hJ (by decide) fun y H' e => ⟨y, rfl, e⟩
  · intro L q w2 hJ _ hr
    exact c7H (i := 5) hJ (by decide) (fun H' hf => hf 4 (a0R hr (by decide))) fun y H' e => ⟨y, rfl, e⟩
  · intro L q w2 hJ _ hr
    exact b7H (i := 6) (x := gX 1) hJ (by decide) (fun H' hf => hf 5 (a0R hr (by decide))) fun s e H' h1 h2 => ⟨s, e, rfl, h1, h2⟩
  · intro L q w2 hJ _ hr
    exact d4b (i := 7) hJ (by decide) fun y H' e => ⟨y, rfl, e⟩
  · intro L q w2 hJ _ hr
    exact c7H (i := 8) hJ (by decide) (fun H' hf => hf 7 (a0R hr (by decide))) fun y H' e => ⟨y, rfl, e⟩
  · intro L q w2 hJ _ hr
    exact b7H (i := 9) (x := gX 2) hJ (by decide) (fun H' hf => hf 8 (a0R hr (by decide))) fun s e H' h1 h2 => ⟨s, e, rfl, h1, h2⟩
  · intro L q w2 hJ _ hr
    exact g3U hJ hc (fun H' hf => hf 3 (a0R hr (by decide))) (fun H' hf => hf 6 (a0R hr (by decide))) fun H' hf => hf 9 (a0R hr (by decide))
  · intro L q w2 hJ _ hr
    exact b7H (i := 11) (x := iX (tX a b or neg)) hJ (by decide) (fun H' hf => hf 10 (a0R hr (by decide))) fun s e H' h1 h2 => ⟨s, e, rfl, h1, h2⟩
  · intro L q w2 hJ _ hr
    exact e6m hJ (fun H' hf => hf 1 (a0R hr (by decide))) fun H' hf => hf 11 (a0R hr (by decide))
  · intro L q w2 hJ hb _
    exact d8W hJ hb
  · intro L q w2 hJ _ hr
    exact d8X hJ (a0R hr (by decide)) rfl fun H' hf => hf 12 (a0R hr (by decide))
  · intro L q w2 hJ hr
    have b0 := R6 (k := 0) hr rfl (a1G [] rfl (by simp))
    have b1 := R6 (k := 1) hr rfl (a1G [0] rfl (by simp [b0]))
    have b2 := R6 (k := 2) hr rfl (a1G [] rfl (by simp))
    have b3 := R6 (k := 3) hr rfl (a1G [2] rfl (by simp [b2]))
    have b4 := R6 (k := 4) hr rfl (a1G [] rfl (by simp))
    have b5 := R6 (k := 5) hr rfl (a1G [4] rfl (by simp [b4]))
    have b6 := R6 (k := 6) hr rfl (a1G [5] rfl (by simp [b5]))
    have b7 := R6 (k := 7) hr rfl (a1G [5] rfl (by simp [b5]))
    have b8 := R6 (k := 8) hr rfl (a1G [7] rfl (by simp [b7]))
    have b9 := R6 (k := 9) hr rfl (a1G [8] rfl (by simp [b8]))
    have b10 := R6 (k := 10) hr rfl (a1G [3, 6, 9] rfl (by simp [b3, b6, b9]))
    have b11 := R6 (k := 11) hr rfl (a1G [10] rfl (by simp [b10]))
    have b12 := R6 (k := 12) hr rfl (a1G [1, 11] rfl (by simp [b1, b11]))
    have b13 := R6 (k := 13) hr rfl (a1G [] rfl (by simp))
    have b14 := R6 (k := 14) hr rfl (a1G [0, 1, 2, 3, 4, 5, 6, 7, 8, 9, 10, 11, 12, 13] rfl (by simp [b0, b1, b2, b3, b4, b5, b6, b7, b8, b9, b10, b11, b12, b13]))
    obtain ⟨hl, H2, B, le, I2, hf, hm⟩ := hJ
    obtain ⟨gp, p, B', e1, rfl, e3⟩ := hm.2 b13
    have hp := e3 b14
    have e1 : q 12 = .pointer (some ⟨gp, 0, none⟩) := e1
    simp only [e1]
    have hw := d0Y (or := or) (neg := neg) ha hb
    refine d6 (ldA (vs := q9 p) Tryd.isAgg44 Tryd.sizeOf44 rfl (I2.at1 (o := 0) (nb rfl) rfl)) ?_
    refine d8 (cap := []) (fun args w => Tryd.call18 args w) ?_
    refine m9 (Fi := []) (Fr := [_, _]) I2 (d3X (q := shortP a b or neg) (hT.le le) hp hw.2 c1v (Nat.le_refl _) (fun x hx => by cases hx) (k := 10) (K := fun o e H' => e = 0 ∧ OutH H' o (runQ (shortP a b or neg) [] 10)) (fun hne => (hne (e0a hw.1 (by decide) (by decide) (Nat.zero_le _))).elim) fun _ o H' _ ho => ⟨rfl, ho⟩) (fun v H3 Fo w3 I3 l3 k3 q3 => ?_) (fun _ _ _ _ _ q => q.elim)
    obtain ⟨o, e, rfl, rfl, rfl, ho⟩ := q3
    clear e1 e3 hf hm hr hp b0 b1 b2 b3 b4 b5 b6 b7 b8 b9 b10 b11 b12 b13 b14
    have hle := le.trans l3
    refine a7 (o2 _ _ _ rfl) ?_
    refine a7 (o2 _ _ _ rfl) ?_
    refine u6 I3 Tryd.zeroValue49 (cs := q7 oz) rfl fun g13 w4 I4 _ => ?_
    refine o7 I4 Tryd.sizeOf49 (vs := q7 o) (cs' := q7 o) rfl rfl (nb rfl) rfl rfl fun w5 I5 _ => ?_
    have fin : ∀ {w6}, Inv w (inF []) H0 H3 [bx g13 49 (q7 o), (gp, Obj.cells (q9 p).toArray 44 (0, 0)) :: B', bx g11 27 (g8 c)] w6 → R (.bool true) w6 := fun I6 => hR _ _ hle I6.drop.drop.drop
    refine a7 (a1C _ _ _ _ _ _) ?_
    rw [show (!decide ((0 : Int) = 0)) = false from rfl]
    refine a4u (a7 a4f ?_)
    refine a4u (d6 (ld1 Tryd.isAgg45 (I5.at1 (o := 4) (vs := [vs o.a2o]) (nb rfl) rfl)) ?_)
    refine a4u (a7 (a6V _ _ _) ?_)
    refine a4u (a7 (a1C _ _ _ _ _ _) ?_)
    rw [e2W ha hb] at ho
    have hlen : ((o.a2o.n : Nat) : Int) = 1 := by
      by_cases c1 : decide (a < b) ≠ or
      · rw [if_pos c1] at ho; rw [ho.2.2.2.2.1.1]; rfl
      · rw [if_neg c1] at ho; rw [ho.2.2.2.2.1.1]; rfl
    rw [hlen, show (!decide ((1 : Int) = 1)) = false from rfl]
    refine a7 (a2F _ _ _) ?_
    show xcond (.bool false) _ _
    refine p5 (fun q => by cases q) fun _ => ?_
    refine a7 (C5 _ _ _ _ _ _) ?_
    refine a7 (a6j _ _ _ _) ?_
    refine p5 (fun c1 => ?_) (fun c1 => ?_)
    · rw [if_pos (by simpa using c1)] at ho
      obtain ⟨q1, q2, q3, q4, q5, q6⟩ := ho
      refine a7 b1I ?_
      refine d6 (ld1 Tryd.isAgg3 (I5.at1 (o := 0) (vs := [vi o.a4a]) (nb rfl) rfl)) ?_
      refine a7 (l0 _ _ _ _ _ _) ?_
      rw [q1, show decide ((3 : Int) = 3) = true from rfl]
      refine S4 (a7 c7R ?_)
      refine S4 (d6 (ld1 Tryd.isAgg3 (I5.at1 (o := 1) (vs := [vi o.b7O]) (nb rfl) rfl)) ?_)
      refine S4 (a7 (l0 _ _ _ _ _ _) ?_)
      rw [q2, show decide ((2 : Int) = 2) = true from rfl]
      refine a7 (a2F _ _ _) ?_
      show opK _ _ (gsem (asB (.bool true)) true _) _ _
      refine S4 (a7 b1H ?_)
      refine S4 (d6 (ld1 Tryd.isAgg3 (I5.at1 (o := 2) (vs := [vi o.a5B]) (nb rfl) rfl)) ?_)
      refine S4 (a7 (l0 _ _ _ _ _ _) ?_)
      rw [q3, show decide ((2 : Int) = 2) = true from rfl]
      refine a7 (a2F _ _ _) ?_
      exact fin I5
    · rw [if_neg (by simpa using c1)] at ho
      obtain ⟨q1, q2, q3, q4, q5, q6⟩ := ho
      refine A8 fun j3 hj3 => ?_
      have hJ : ∀ {v : Int}, v = (if or ≠ neg then 1 else 2) → j3 [vi v] w5 := fun {v} hv => by
        refine hj3 _ _ ?_
        unfold d9u
        intro _
        refine a7 b1I ?_
        refine d6 (ld1 Tryd.isAgg3 (I5.at1 (o := 0) (vs := [vi o.a4a]) (nb rfl) rfl)) ?_
        refine a7 (l0 _ _ _ _ _ _) ?_
        rw [q1, show decide ((2 : Int) = 2) = true from rfl]
        refine S4 (a7 b1H ?_)
        refine S4 (d6 (ld1 Tryd.isAgg3 (I5.at1 (o := 2) (vs := [vi o.a5B]) (nb rfl) rfl)) ?_)
        refine S4 (a7 (l0 _ _ _ _ _ _) ?_)
        rw [q3, show decide ((2 : Int) = 2) = true from rfl]
        refine a7 (a2F _ _ _) ?_
        show opK _ _ (gsem (asB (.bool true)) true _) _ _
        refine S4 (a7 a4f ?_)
        refine S4 (d6 (ld1 Tryd.isAgg45 (I5.at1 (o := 4) (vs := [vs o.a2o]) (nb rfl) rfl)) ?_)
        obtain ⟨ga, oa, h1, h2⟩ := q5.2 0 _ rfl
        refine S4 (a7 (T0 h1 _ _ _ _ (Int.le_refl 0) (by omega)) ?_)
        refine S4 (d6 (ld1 (v := vi (if or ≠ neg then 1 else 2)) Tryd.isAgg2 (I5.atH h2)) ?_)
        show opK _ _ (gsem (asB (.bool true)) true (xBin BinOp.eql _ _ _ (vi (if or ≠ neg then 1 else 2)) (vi v))) _ _
        refine S4 (a7 (l0 _ _ _ _ _ _) ?_)
        rw [hv, decide_eq_true rfl]
        refine a7 (a2F _ _ _) ?_
        exact fin I5
      refine a7 (a6j _ _ _ _) ?_
      refine p5 (fun c2 => hJ (v := 1) ?_) (fun c2 => hJ (v := 2) ?_)
      · rw [if_pos (by simpa using c2)]
      · rw [if_neg (by simpa using c2)]
theorem c6t {a b : Int} {or neg : Bool} {g11 : Nat} {c : o8} (hT : TabsH H1) (ha : Nn a) (hb : Nn b) (I : Inv w (inF []) H0 H1 [bx g11 27 (g8 c)] w') (hc : CH H1 c (tX a b or false))
    (hR : ∀ H' w2, Hle H1 H' → Inv w (inF []) H0 H' [] w2 → R (.bool true) w2) : d0l (vi a) (vi b) (.bool or) (.bool neg) (.pointer (some ⟨g11, 0, none⟩)) w' R E := by
  unfold d0l
  intro _
  refine A8 fun j2 hj2 => ?_
  cases neg
  · refine p5 (fun q => by cases q) fun _ => ?_
    exact hj2 _ _ (c6s hT ha hb I hc hR)
  · refine p5 (fun _ => ?_) (fun q => by cases q)
    refine d6 (ldA (vs := g8 c) Tryd.isAgg27 Tryd.sizeOf27 rfl (I.at1 (o := 0) (nb rfl) rfl)) ?_
    refine U6 (e := 27) (c := g8) (xs := [c]) I (c6P _ _ _ _ _ _ _ _) rfl rfl a7j a7k (nb rfl) fun s F w2 hs I2 k2 => ?_
    obtain ⟨H2, I3, l3, hs3⟩ := I2.freezeL hs (by decide)
    refine a7 d4c ?_
    refine o7 I3 Tryd.sizeOf27 (vs := g8 ⟨4, 0, ⟨none, 0, 0⟩, s⟩) (cs' := g8 ⟨4, 0, ⟨none, 0, 0⟩, s⟩) rfl rfl (nb rfl) rfl rfl fun w4 I4 _ => ?_
    refine hj2 _ _ (c6s (hT.le l3) ha hb I4 ?_ fun H' w5 l I5 => hR H' w5 (l3.trans l) I5)
    exact CH.node (SlH.nil _ _ _) (Nat.zero_le _) s7.nil hs3 (by simp [big]) (s7.one (hc.le l3))
theorem c6H {H : Hp} (hT : TabsH H) {a b : Int} (ha : o0 a) (hb : o0 b) {or neg : Bool} {K : Bool → Hp → Prop} (h : ∀ H', Hle H H' → K true H') : a0f a b or neg H K := by
  intro w I
  refine g1R ?_
  unfold F8
  refine d8 (cap := []) (fun args w => Tryd.call17 args w) ?_
  refine m9 (Fi := []) (Fr := []) I (d4a hT (K := fun r H' => r = true) fun H' _ => rfl) (fun v H1 Fo w2 I2 l1 k1 q1 => ?_) (fun _ _ _ _ _ q => q.elim)
  obtain ⟨r0, rfl, rfl, rfl⟩ := q1
  refine a7 (a1b _) ?_
  refine p5 (fun q => by cases q) fun _ => ?_
  refine a7 (l0 _ _ _ _ _ _) ?_
  refine a7 (Pu.g (v := .bool (decide (b = -9223372036854775808))) fun c => (by rw [e6r c]; exact l0 _ _ _ _ _ _)) ?_
  refine a7 (a1X _ _) ?_
  refine p5 (fun _ => ⟨_, _, I2, true, rfl, rfl, h _ l1⟩) fun hn => ?_
  have hab : Nn a ∧ Nn b := by
    rw [Bool.or_eq_false_iff] at hn
    exact ⟨⟨ha, of_decide_eq_false hn.1⟩, ⟨hb, of_decide_eq_false hn.2⟩⟩
  have I2 : Inv w (inF []) H H1 [] w2 := I2
  refine d8 (cap := []) (fun args w => Tryd.call23 args w) ?_
  refine m9 (Fi := []) (Fr := []) I2 (a7i (v := a) (K := fun r H'' => EH H'' r (plainT a)) fun y H2 l2 e => e) (fun v H2 Fo w3 I3 l2 k2 q => ?_) (fun _ _ _ _ _ q => q.elim)
  obtain ⟨y1, rfl, rfl, e1⟩ := q
  refine d8 (cap := []) (fun args w => Tryd.call23 args w) ?_
  refine m9 (Fi := []) (Fr := []) I3 (a7i (v := b) (K := fun r H'' => EH H'' r (plainT b)) fun y H2 l2 e => e) (fun v H3 Fo w4 I4 l3 k3 q => ?_) (fun _ _ _ _ _ q => q.elim)
  obtain ⟨y2, rfl, rfl, e2⟩ := q
  refine d8 (cap := []) (fun args w => Tryd.call21 args w) ?_
  refine m9 (Fi := []) (Fr := []) I4 (d3Y (op := 1) (e1.le l3) e2 (K := fun r H'' => CH H'' r (cN 3 1 [plainT a, plainT b] [])) fun y H2 l2 e => e) (fun v H4 Fo w5 I5 l4 k4 q => ?_) (fun _ _ _ _ _ q => q.elim)
  obtain ⟨y3, rfl, rfl, e3⟩ := q
  refine u6 I5 Tryd.zeroValue27 (cs := g8 ⟨0, 0, ⟨none, 0, 0⟩, ⟨none, 0, 0⟩⟩) rfl fun g9 w6 I6 _ => ?_
  refine o7 I6 Tryd.sizeOf27 (vs := g8 y3) (cs' := g8 y3) rfl rfl (nb rfl) rfl rfl fun w7 I7 _ => ?_
  have I7 : Inv w (inF []) H H4 [bx g9 27 (g8 y3)] w7 := I7
  refine d8 (cap := []) (fun args w => Tryd.call23 args w) ?_
  refine m9 (Fi := []) (Fr := [_]) I7 (a7i (v := 1) (K := fun r H'' => EH H'' r (plainT 1)) fun y H2 l2 e => e) (fun v H5 Fo w8 I8 l5 k5 q => ?_) (fun _ _ _ _ _ q => q.elim)
  obtain ⟨y4, rfl, rfl, e4⟩ := q
  refine d8 (cap := []) (fun args w => Tryd.call22 args w) ?_
  refine m9 (Fi := []) (Fr := [_]) I8 (d8R (s := xS) (K := fun r H'' => EH H'' r (eN 2 0 xS [])) fun y e => e) (fun v H6 Fo w9 I9 l6 k6 q => ?_) (fun _ _ _ _ _ q => q.elim)
  obtain ⟨y5, rfl, rfl, e5⟩ := q
  refine d8 (cap := []) (fun args w => Tryd.call25 args w) ?_
  refine m9 (Fi := []) (Fr := [_]) I9 (g0m (k := 9) (e4.le l6) e5 (K := fun r H'' => EH H'' r (eN 9 0 oS [plainT 1, eN 2 0 xS []])) fun y H2 l2 e => e) (fun v H7 Fo w10 I10 l7 k7 q => ?_) (fun _ _ _ _ _ q => q.elim)
  obtain ⟨y6, rfl, rfl, e6⟩ := q
  refine d8 (cap := []) (fun args w => Tryd.call23 args w) ?_
  refine m9 (Fi := []) (Fr := [_]) I10 (a7i (v := 0) (K := fun r H'' => EH H'' r (plainT 0)) fun y H2 l2 e => e) (fun v H8 Fo w11 I11 l8 k8 q => ?_) (fun _ _ _ _ _ q => q.elim)
  obtain ⟨y7, rfl, rfl, e7⟩ := q
  refine d8 (cap := []) (fun args w => Tryd.call21 args w) ?_
  refine m9 (Fi := []) (Fr := [_]) I11 (d3Y (op := 3) (e6.le l8) e7 (K := fun r H'' => CH H'' r (cN 3 3 [eN 9 0 oS [plainT 1, eN 2 0 xS []], plainT 0] [])) fun y H2 l2 e => e) (fun v H9 Fo w12 I12 l9 k9 q => ?_) (fun _ _ _ _ _ q => q.elim)
  obtain ⟨y8, rfl, rfl, e8⟩ := q
  have I12 : Inv w (inF []) H H9 [bx g9 27 (g8 y3)] w12 := I12
  refine u6 I12 Tryd.zeroValue27 (cs := g8 ⟨0, 0, ⟨none, 0, 0⟩, ⟨none, 0, 0⟩⟩) rfl fun g10 w13 I13 _ => ?_
  refine o7 I13 Tryd.sizeOf27 (vs := g8 y8) (cs' := g8 y8) rfl rfl (nb rfl) rfl rfl fun w14 I14 _ => ?_
  have I14 : Inv w (inF []) H H9 [bx g10 27 (g8 y8), bx g9 27 (g8 y3)] w14 := I14
  refine d6 (ldA (vs := g8 y3) Tryd.isAgg27 Tryd.sizeOf27 rfl ((I14.bring 1).at1 (o := 0) (nb rfl) rfl)) ?_
  refine d6 (ldA (vs := g8 y8) Tryd.isAgg27 Tryd.sizeOf27 rfl (I14.at1 (o := 0) (nb rfl) rfl)) ?_
  refine U6 (e := 27) (c := g8) (xs := [y3, y8]) I14.drop.drop (g0o _ _) rfl rfl a7j a7k (nb rfl) fun s F w15 hs I15 _ => ?_
  obtain ⟨H10, I16, l10, hs10⟩ := I15.freezeL hs (by decide)
  refine a7 d4c ?_
  refine u6 I16 Tryd.zeroValue27 (cs := g8 ⟨0, 0, ⟨none, 0, 0⟩, ⟨none, 0, 0⟩⟩) rfl fun g11 w16 I17 _ => ?_
  refine o7 I17 Tryd.sizeOf27 (vs := g8 ⟨5, 0, ⟨none, 0, 0⟩, s⟩) (cs' := g8 ⟨5, 0, ⟨none, 0, 0⟩, s⟩) rfl rfl (nb rfl) rfl rfl fun w17 I18 _ => ?_
  have I18 : Inv w (inF []) H H10 [bx g11 27 (g8 ⟨5, 0, ⟨none, 0, 0⟩, s⟩)] w17 := I18
  have l110 := l1.trans (l2.trans (l3.trans (l4.trans (l5.trans (l6.trans (l7.trans (l8.trans (l9.trans l10))))))))
  have hrel : s7 (CH H10) [y3, y8] [cN 3 1 [plainT a, plainT b] [], cN 3 3 [eN 9 0 oS [plainT 1, eN 2 0 xS []], plainT 0] []] :=
    (s7.one (e3.le (l5.trans (l6.trans (l7.trans (l8.trans (l9.trans l10))))))).app (s7.one (e8.le l10))
  have hR : ∀ H' w2, Hle H10 H' → Inv w (inF []) H H' [] w2 → ∃ H'' Fo, Inv w (inF []) H H'' Fo w2 ∧ ∃ r0 : Bool, (.bool true : Value) = .bool r0 ∧ Fo = [] ∧ K r0 H'' := fun H' w2 l I => ⟨H', [], I, true, rfl, rfl, h _ (l110.trans l)⟩
  refine A8 fun j1 hj1 => ?_
  cases or
  · refine p5 (fun q => by cases q) fun _ => ?_
    refine hj1 _ _ (c6t (hT.le l110) hab.1 hab.2 I18 ?_ hR)
    exact CH.node (SlH.nil _ _ _) (Nat.zero_le _) s7.nil hs10 (by simp [big]) hrel
  · refine p5 (fun _ => ?_) (fun q => by cases q)
    refine a7 a5C ?_
    refine o7 I18 Tryd.sizeOf3 (vs := [vi 6]) (cs' := g8 ⟨6, 0, ⟨none, 0, 0⟩, s⟩) rfl rfl (nb rfl) rfl rfl fun w19 I19 _ => ?_
    refine hj1 _ _ (c6t (hT.le l110) hab.1 hab.2 I19 ?_ hR)
    exact CH.node (SlH.nil _ _ _) (Nat.zero_le _) s7.nil hs10 (by simp [big]) hrel
theorem c6u {H : Hp} (hT : TabsH H) {a b : Int} (ha : o0 a) (hb : o0 b) {or neg : Bool} {K : Bool → Hp → Prop} (h : ∀ H', Hle H H' → K true H') : a0f a b or neg H K := c6H hT ha hb h
end
end
end Go.Proofs.YtnhkdkcgdcgmdaaDoor
