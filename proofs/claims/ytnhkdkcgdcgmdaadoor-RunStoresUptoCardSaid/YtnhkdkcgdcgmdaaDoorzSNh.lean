/- RunDoes, RunLoops, RunStores: the laws. -/
import Derived.Test.YtnhkdkcgdcgmdaaDoorzSNg
namespace Go.Proofs.YtnhkdkcgdcgmdaaDoor
open Go.RowKit
set_option maxRecDepth 100000
set_option maxHeartbeats 4000000
theorem e5r (s : ByteArray) (e : PT) : uT (sN 1 s [e] [] [] []) = ⟨s, false⟩ :: uT e := by
  unfold sN; rw [uT]
  show [⟨s, false⟩] ++ uTs [e] = _
  rw [c9Y]; rfl
section
variable {H : Hp}
theorem c5L {i j v n : Int} (hi : Nn i) (hj : Nn j) (hv : Nn v) (hn : 1 ≤ n ∧ n ≤ 50) : (wellS (storesP i j v n)).2 = 0 ∧ (storesP i j v n).Sm := by
  have f1 : Fine 9 5 (sN 2 aS [plainT i, plainT v] [] [] []) := (a2u (l := .stmt 2 aS 2 0 0 0) (n := 2) (h := 2) (by decide) (c0r (a9f hi) (a9f hv)) (by decide) (by show (if (false || true) = true then nameS aS else true) = true; exact c5x) ⟨d8x, z64⟩).up (by simp) (by decide)
  have f2 : Fine 3 3 (eN 4 0 aS [plainT j]) := a2u (l := .expr 4 0 aS 1) (n := 2) (h := 2) (by decide) (c6I (a9f hj)) (by decide) (by show (if (false || true) = true then nameS aS else true) = true; exact c5x) ⟨d8x, z64⟩
  have f3 : Fine 9 5 (sN 1 xS [eN 4 0 aS [plainT j]] [] [] []) := (b4r (by decide) f2).up (by decide) (by decide)
  have hne : (xS : ByteArray) ≠ aS := fun e => d9E e.symm
  refine c0N (n := 9) (h := 5) (fun d hd => ?_) (c0r f1 f3) (by show 2 + 2 * 9 ≤ 4096; decide) (by decide) (by decide) ?_ (fun u hu => ?_)
  · rcases List.mem_cons.1 hd with e | hd
    · rw [e]; exact ⟨b7L, c9Z, by decide, by decide⟩
    · rw [List.mem_singleton.1 hd]; exact ⟨c5x, d8x, by show 0 ≤ n; omega, by show n ≤ 1024; omega⟩
  · refine ⟨?_, fun d hd => ?_, ?_, ?_⟩
    · show [xS, aS].Nodup
      simp [hne]
    · rcases List.mem_cons.1 hd with e | hd
      · rw [e]; decide
      · rw [List.mem_singleton.1 hd]; show n ≤ 1024; omega
    · exact Nat.le_trans (d9C _ _) (by show 2 ≤ _; decide)
    · exact Nat.le_trans (d9C _ _) (by show 2 ≤ _; decide)
  · have : uTs (storesP i j v n).body = [⟨aS, true⟩, ⟨xS, false⟩, ⟨aS, true⟩] := by
      show uTs [_, _] = _
      rw [d9D, e5r]
      unfold sN eN
      rw [uT, uT]
      show ([⟨aS, true⟩] ++ uTs [plainT i, plainT v]) ++ (⟨xS, false⟩ :: ([⟨aS, true⟩] ++ uTs [plainT j])) = _
      rw [d9D, c9Y, c5w, c5w, c5w]; rfl
    rw [this] at hu
    have k1 : kOf (storesP i j v n).decls xS = 1 := by show kOf [⟨xS, 0⟩, ⟨aS, n⟩] xS = 1; rw [kOf, if_pos rfl]; rfl
    have k2 : kOf (storesP i j v n).decls aS = 2 := by
      show kOf [⟨xS, 0⟩, ⟨aS, n⟩] aS = 2
      rw [kOf, if_neg hne, kOf, if_pos rfl]
      unfold kindD
      rw [if_pos]
      show 0 < n
      omega
    simp only [List.mem_cons, List.not_mem_nil, or_false] at hu
    rcases hu with e | e | e <;> rw [e]
    · exact k2
    · exact k1
    · exact k2
theorem c5y (hT : TabsH H) {i j v n : Int} (hi : m2 i) (hj : m2 j) (hv : m2 v) {K : Bool → Hp → Prop} (h : ∀ H', Hle H H' → K true H') : Q0 i j v n H K := by
  refine a5P _ _ _ _ ?_
  unfold Q1
  refine d3c hT fun H1 l1 => ⟨(fun q => by cases q), fun _ => ⟨fun _ => h H1 l1, fun hn => ?_⟩⟩
  have hb : i ≠ -9223372036854775808 ∧ j ≠ -9223372036854775808 ∧ v ≠ -9223372036854775808 ∧ 1 ≤ n ∧ n ≤ 50 := by simp at hn; omega
  clear hn
  have hi' : Nn i := ⟨hi, hb.1⟩
  have hj' : Nn j := ⟨hj, hb.2.1⟩
  have hv' : Nn v := ⟨hv, hb.2.2.1⟩
  refine b4q fun y1 H2 l2 e1 => b4q fun y2 H3 l3 e2 => b4q fun y3 H4 l4 e3 => ?_
  intro s5 H5 l5 h5 _
  have e4 : EH H5 ⟨4, 0, aS, s5⟩ (eN 4 0 aS [plainT j]) := EH.node h5 (by simp [big]) (t7.one (e3.le l5))
  refine e5q e4 fun y6 H6 l6 e6 => ?_
  intro s7 H7 l7 h7 _ s8 H8 l8 h8 _ s9 H9 l9 h9 _
  have l69 := l7.trans (l8.trans l9)
  have l49 := l5.trans (l6.trans l69)
  have l19 := l2.trans (l3.trans (l4.trans l49))
  have es : SH H9 ⟨2, aS, s7, ⟨none, 0, 0⟩, ⟨none, 0, 0⟩, ⟨none, 0, 0⟩⟩ (sN 2 aS [plainT i, plainT v] [] [] []) := SH.node (h7.le (l8.trans l9)) (by simp [big]) ((t7.one (e1.le (l3.trans (l4.trans l49)))).app (t7.one (e2.le (l4.trans l49)))) (SlH.nil _ _ _) (Nat.zero_le _) t7.nil (SlH.nil _ _ _) (Nat.zero_le _) t7.nil (SlH.nil _ _ _) (Nat.zero_le _) t7.nil
  have hp : PH H9 ⟨s8, s9⟩ (storesP i j v n) := PH.one (h8.le l9) (by show 2 ≤ 4; decide) h9 (by simp) ((t7.one es).app (t7.one (e6.le l69)))
  have hw := c5L hi' hj' hv' hb.2.2.2
  refine d3b (hT.le (l1.trans l19)) hp hw.2 c0O (Nat.le_refl _) (fun x hx => by cases hx) (k := 10) (fun hne => (hne (d9F hw.1 (by decide) (by decide) (Nat.zero_le _))).elim) fun _ o H10 l10 ho => ?_
  have hK := h H10 ((l1.trans l19).trans l10)
  rw [show (10 : Int).toNat = 10 from rfl, d5A hi' hj' hv' hb.2.2.2.1 d9E] at ho
  have base : ∀ {xs : List Int}, SlHH H10 1 ci o.R4 [xs] → (xs.length : Int) = n → ∃ si : Sl, ((o.R4.n : Nat) : Int) = 1 ∧ EltH H10 o.R4 0 1 [vs si] ∧ ((si.n : Nat) : Int) = n ∧ SlH H10 1 ci si xs := fun {xs} hq hl => by
    obtain ⟨a1, ss, a2, a3⟩ := hq
    obtain ⟨si, hsi⟩ := r9 (l := ss) (i := 0) (by have := a2.1; have : o.R4.n = 1 := a1; omega)
    have a4 := (a3 0 si xs hsi rfl).1
    exact ⟨si, by rw [a1]; rfl, a2.2 0 si hsi, by rw [a4.1]; exact hl, a4⟩
  have hrl : ((List.replicate n.toNat (0 : Int)).length : Int) = n := by rw [List.length_replicate]; omega
  have hsl : (((List.replicate n.toNat (0 : Int)).set i.toNat v).length : Int) = n := by rw [List.length_set]; exact hrl
  by_cases c1 : i < 0 ∨ n ≤ i
  · rw [if_pos c1] at ho
    obtain ⟨q1, q2, q3, q4, q5, q6⟩ := ho
    obtain ⟨si, b1, b2, b3, b4⟩ := base q6 hrl
    have hn' : ((o.V2.n : Nat) : Int) = 1 := by rw [q5.1]; rfl
    have c1' : ((decide (i < 0)) || (decide (n ≤ i))) = true := by simpa using c1
    rw [q1, q2, q3, hn', b1]
    refine ⟨si, fun _ => ⟨Int.le_refl _, by decide, b2⟩, fun q => ?_, fun _ => ⟨fun _ => by simpa using hK, fun q => ?_⟩⟩
    · rw [b3] at q; simp at q
    · rw [c1'] at q; cases q
  rw [if_neg c1] at ho
  have c1' : ((decide (i < 0)) || (decide (n ≤ i))) = false := by simp; omega
  have hc1 : 0 ≤ i ∧ i < n := by omega
  have hset : ((List.replicate n.toNat (0 : Int)).set i.toNat v)[i.toNat]? = some v := by
    rw [List.getElem?_set, if_pos rfl, if_pos (by rw [List.length_replicate]; omega)]
  have fin : ∀ {o : K6}, o.P7 = o.P7 → True := fun _ => trivial
  by_cases c2 : j < 0 ∨ n ≤ j
  · rw [if_pos c2] at ho
    obtain ⟨q1, q2, q3, q4, q5, q6⟩ := ho
    obtain ⟨si, b1, b2, b3, b4⟩ := base q6 hsl
    have hx := b4.2 i.toNat v hset
    rw [Int.toNat_of_nonneg hc1.1] at hx
    have hn' : ((o.V2.n : Nat) : Int) = 1 := by rw [q5.1]; rfl
    have c2' : ((decide (j < 0)) || (decide (n ≤ j))) = true := by simpa using c2
    rw [q1, q2, q3, hn', b1]
    refine ⟨si, fun _ => ⟨Int.le_refl _, by decide, b2⟩, fun q => ?_, fun _ => ⟨fun q => ?_, fun _ => ⟨Int.le_refl _, by decide, si, b2, hc1.1, by omega, v, hx, fun q => (q rfl).elim, fun _ => ⟨fun _ => by simpa using hK, fun q => ?_⟩⟩⟩⟩
    · rw [b3] at q; simp at q
    · rw [c1'] at q; cases q
    · rw [c2'] at q; cases q
  · rw [if_neg c2] at ho
    have c2' : ((decide (j < 0)) || (decide (n ≤ j))) = false := by simp; omega
    obtain ⟨q1, q2, q3, q4, q5, q6⟩ := ho
    obtain ⟨si, b1, b2, b3, b4⟩ := base q6 hsl
    have hx := b4.2 i.toNat v hset
    rw [Int.toNat_of_nonneg hc1.1] at hx
    have hxv := q5.2 0 _ rfl
    have hn' : ((o.V2.n : Nat) : Int) = 1 := by rw [q5.1]; rfl
    have st1 : (decide (o.P7 = 2) && decide (o.Y1 = 2)) = true := by rw [q1, q3]; rfl
    rw [hn', b1]
    refine ⟨si, fun _ => ⟨Int.le_refl _, by decide, b2⟩, fun q => ?_, fun _ => ⟨fun q => ?_, fun _ => ⟨Int.le_refl _, by decide, si, b2, hc1.1, by omega, v, hx, fun q => (q rfl).elim, fun _ => ⟨fun q => ?_, fun _ => ⟨fun e => ?_, fun e => ?_⟩⟩⟩⟩⟩
    · rw [b3] at q; simp at q
    · rw [c1'] at q; cases q
    · rw [c2'] at q; cases q
    · rw [if_pos e] at hxv
      unfold D7
      rw [st1]
      refine ⟨v, fun _ => ⟨Int.le_refl _, by rw [hn']; decide, hxv⟩, ?_⟩
      simpa using hK
    · rw [if_neg e] at hxv
      unfold D7
      rw [st1]
      refine ⟨0, fun _ => ⟨Int.le_refl _, by rw [hn']; decide, hxv⟩, ?_⟩
      simpa using hK
theorem c1a (hT : TabsH H) {i j v n : Int} (hi : m2 i) (hj : m2 j) (hv : m2 v) (_ : m2 n) {K : Bool → Hp → Prop} (h : ∀ H', Hle H H' → K true H') : Q0 i j v n H K := c5y hT hi hj hv h
end
end Go.Proofs.YtnhkdkcgdcgmdaaDoor
