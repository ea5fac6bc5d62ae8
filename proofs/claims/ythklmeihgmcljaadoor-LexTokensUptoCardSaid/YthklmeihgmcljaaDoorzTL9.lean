/- LexTokens: every text's tokens are the document's; the answer may be written over. By hand off the reading. -/
import Derived.Test.YthklmeihgmcljaaDoorzTL7
import Derived.Test.YthklmeihgmcljaaDoorzTS6
namespace Go.Proofs.YthklmeihgmcljaaDoor
open Go.RowKit
set_option maxRecDepth 100000
set_option maxHeartbeats 1000000
theorem a7C {s : ByteArray} : ∀ (f p : Nat) (a : Int × Int) (out : List Tk), out.length ≤ 32768 → (tkF s f p a out).1.length ≤ 32769 := by
  intro f
  induction f with
  | zero => intro p a out h; exact Nat.zero_le _
  | succ f ih =>
    intro p a out h
    rw [tkF]
    split
    · simp only [List.length_append, List.length_singleton]; omega
    · split
      · exact Nat.zero_le _
      · split
        · exact Nat.zero_le _
        · exact ih _ _ _ (by simp only [List.length_append, List.length_singleton]; omega)
theorem a7D {s : ByteArray} : (tkS s).1.length ≤ 32769 := by
  unfold tkS
  split
  · exact Nat.zero_le _
  · split
    · exact Nat.zero_le _
    · exact a7C _ _ _ _ (Nat.zero_le _)
section
variable {H : Hp}
theorem a5d (hT : TabsH H) (hE : ErrH H) {s : ByteArray} (hs : s.size ≤ 1048576) {K : Bool → Hp → Prop} (h : ∀ H', Hle H H' → K true H') : N1 s H K := by
  have hs4 : s.size ≤ 4194304 := by omega
  have hb : s.size ≤ big := by simp only [big]; omega
  refine Ct.of fun w0 w ps0 H0 R E I hR => a9G ?_
  unfold F3
  refine f8 Tryd.call8 (a6R hT hE (K := fun b H' => b = true ∧ Hle H H') fun H' l => ⟨rfl, l⟩) I ?_
  rintro _ H1 _ w1 I1 _ _ ⟨r, rfl, rfl, rfl, l1⟩
  have hT1 := hT.le l1
  have hE1 := hE.le l1
  refine a7 (a2V _) ?_
  refine O5 (fun x => by cases x) (fun _ => ?_)
  refine f8 Tryd.call9 (a2F hT1 hE1 hs4) I1 ?_
  rintro _ _ _ w2 I2 _ _ ⟨e, F, rfl, rfl, rfl, hr⟩
  have hlen : ((tkS s).1.map tkv).length ≤ 32769 := by rw [List.length_map]; exact a7D
  have cR : F6 s H1 (fun e2 p2 x2 H' => Hle H1 H' ∧ SlH H' 5 b6 e2 ((tkS s).1.map tkv) ∧ p2 = plv (tkS s).2.1 ∧ x2 = (tkS s).2.2) := a3I hb fun e2 H' l hsl => ⟨l, hsl, rfl, rfl⟩
  have cP : ∀ H', Hle H1 H' → L0 s H' (fun e3 _ _ H'' => Hle H' H'' ∧ SlH H'' 5 b6 e3 ((tkS s).1.map tkv)) := fun H' l => a1b (hT1.le l) (hE1.le l) hs4 fun e3 H'' l2 hsl => ⟨l2, hsl⟩
  generalize (tkS s).1.map tkv = L at hr hlen cR cP
  generalize (tkS s).2.2 = x at cR ⊢
  generalize (tkS s).2.1 = q at cR ⊢
  have hlb : L.length ≤ big := by simp only [big]; omega
  refine a7 (b8 _ _ (vs e) rfl) ?_
  refine a7 (b8 _ _ (.agg (c8 (plv q)).toArray) rfl) ?_
  refine a7 (b8 _ _ (vi x) rfl) ?_
  obtain ⟨q1, q2⟩ := q
  refine s8 I2 Tryd.zeroValue25 (cs := [(vi 0), (vi 0)]) rfl fun g1 w3 I3 _ => ?_
  refine g8 I3 Tryd.sizeOf25 (vs := [vi q1, vi q2]) (cs' := [vi q1, vi q2]) rfl rfl (nb rfl) rfl rfl fun w4 I4 _ => ?_
  refine f8 (Fi := []) Tryd.call10 cR I4 ?_
  rintro _ H2 _ w5 I5 _ _ ⟨e2, p2, x2, rfl, rfl, l2, hs2, rfl, rfl⟩
  refine a7 (b8 _ _ (vs e2) rfl) ?_
  refine a7 (b8 _ _ (.agg (c8 (plv (q1, q2))).toArray) rfl) ?_
  refine a7 (b8 _ _ (vi x2) rfl) ?_
  refine s8 I5 Tryd.zeroValue25 (cs := [(vi 0), (vi 0)]) rfl fun g2 w6 I6 _ => ?_
  refine g8 I6 Tryd.sizeOf25 (vs := [vi q1, vi q2]) (cs' := [vi q1, vi q2]) rfl rfl (nb rfl) rfl rfl fun w7 I7 _ => ?_
  have I7' : Inv w0 ps0 H0 H2 (F :: [bx g2 25 [vi q1, vi q2], bx g1 25 [vi q1, vi q2]]) w7 := I7.bring 2
  obtain ⟨J7, lF, hF⟩ := I7'.freeze
  have cS : C1 e e2 (addF H2 F) (fun b H' => b = true ∧ addF H2 F = H') := a4x (hr.frozen (by decide) hF) (hs2.le lF) hlb ⟨rfl, rfl⟩
  refine f8 (Fi := []) Tryd.call11 cS J7 ?_
  rintro _ _ _ w8 J8 _ _ ⟨r, rfl, rfl, rfl, rfl⟩
  obtain ⟨I8, l3⟩ := I7'.again J8 (Hle.refl _)
  refine a7 (a2V _) ?_
  refine a1N (s' := xV (Instr.loadAt 25 (.pointer (some ⟨g1, 0, none⟩)))) rfl (o0 (lW Tryd.isAgg25 Tryd.sizeOf25 rfl (I8.bring 2)) ?_)
  refine a1N (s' := xV (Instr.loadAt 25 (.pointer (some ⟨g2, 0, none⟩)))) rfl (o0 (lW Tryd.isAgg25 Tryd.sizeOf25 rfl (I8.bring 1)) ?_)
  have n1 : ∀ x y : Operand, Pu Tryd.prog (xBin .neq 25 x y (.agg #[vi q1, vi q2]) (.agg #[vi q1, vi q2])) (.bool false) := fun x y => by
    have := a6r x y q1 q1 q2 q2
    rw [show (!decide (q1 = q1 ∧ q2 = q2)) = false by simp] at this
    exact this
  refine a1N (s' := xBin .neq 25 _ _ (.agg #[vi q1, vi q2]) (.agg #[vi q1, vi q2])) rfl (a7 (n1 _ _) ?_)
  refine a7 (v := .bool false) (a1d (!true) (.bool true) (.bool false)) ?_
  have n2 : ∀ x y : Operand, Pu Tryd.prog (xBin .neq 3 x y (vi x2) (vi x2)) (.bool false) := fun x y => by
    have := E5 (P := Tryd.prog) 3 x y .i64 x2 x2
    rw [show (!decide (x2 = x2)) = false by simp] at this
    exact this
  refine a1N (s' := xBin .neq 3 _ _ (vi x2) (vi x2)) rfl (a7 (n2 _ _) ?_)
  refine a7 (v := .bool false) (a1d false (.bool true) (.bool false)) ?_
  refine O5 (fun e => by cases e) (fun _ => ?_)
  refine r5 fun j1 hx1 => ?_
  have l13 : Hle H1 (subF (addF H2 F) F) := l2.trans l3
  have hs3 : SlH (subF (addF H2 F) F) 5 b6 e2 L := hs2.le l3
  generalize subF (addF H2 F) F = H3 at I8 l13 hs3
  refine u6 (J := fun n l w' => ∃ (i : Nat) (L' : List a6) (F' : Frag), n = L.length - i ∧ l = [vi (i : Int)] ∧ i ≤ L.length ∧ L'.length = L.length ∧ RowL 33 5 b6 e L' F' ∧ Inv w0 ps0 H0 H3 (F' :: [bx g2 25 [vi q1, vi q2], bx g1 25 [vi q1, vi q2]]) w') ⟨_, 0, L, F, rfl, rfl, Nat.zero_le _, rfl, hr, I8⟩ ?_
  rintro n τ w9 next2 ⟨i, L', F', rfl, hl9, hi, hL', hr', I9⟩ hn3
  simp only [List.map_cons, List.map_nil, List.cons.injEq, and_true] at hl9
  simp only [hl9]
  unfold a6X
  refine a7 (a0t Tryd.underlying23 hr') ?_
  refine a7 (A9 _ _ _ _ _ _) ?_
  refine T4 (fun c => ?_) (fun c => ?_)
  · obtain ⟨t, ht⟩ := a2f (l := L') (i := i) (by omega)
    obtain ⟨g, arr, ha, hF'⟩ := hr'.addr ht
    refine a7 N5 ?_
    refine a7 (T5 ha _ _ _ _ (by omega) (by have := hr'.2.1; omega)) ?_
    rw [Int.toNat_natCast]
    refine a7j (x := a6.mk 0 ⟨#[]⟩ 0 (a8.mk 0 0)) I9 hr' ha (i := i) (by omega) Tryd.sizeOf33 rfl fun F2 w10 hr2 I10 _ => ?_
    refine a7 (q6 _ _ _ _ _ _) ?_
    rw [o4 ⟨by omega, by omega⟩]
    exact hn3 _ _ _ (show L.length - (i + 1) < L.length - i by omega) ⟨i + 1, _, F2, rfl, rfl, by omega, by rw [List.length_set]; exact hL', hr2, I10⟩
  · refine hx1 _ _ ?_
    unfold a6W
    intro _
    refine f8 (Fi := []) Tryd.call9 (cP H3 l13) I9 ?_
    rintro _ H4 _ w10 I10 _ _ ⟨e3, p3, x3, rfl, rfl, l4, hs4'⟩
    refine a7 (b8 _ _ (vs e3) rfl) ?_
    refine a7 (b8 _ _ (.agg (c8 p3).toArray) rfl) ?_
    refine a7 (b8 _ _ (vi x3) rfl) ?_
    refine s8 I10 Tryd.zeroValue25 (cs := [(vi 0), (vi 0)]) rfl fun g3 w11 I11 _ => ?_
    refine g8 I11 Tryd.sizeOf25 (vs := c8 p3) (cs' := c8 p3) rfl rfl (nb rfl) rfl rfl fun w12 I12 _ => ?_
    have cS2 : C1 e3 e2 H4 (fun b H' => b = true ∧ H4 = H') := a4x hs4' (hs3.le l4) hlb ⟨rfl, rfl⟩
    refine f8 (Fi := []) Tryd.call11 cS2 I12 ?_
    rintro _ _ _ w13 I13 _ _ ⟨r, rfl, rfl, rfl, rfl⟩
    exact hR _ H4 [] _ I13.drop.drop.drop.drop ⟨true, rfl, rfl, h _ ((l1.trans l13).trans l4)⟩
end
end Go.Proofs.YthklmeihgmcljaaDoor
