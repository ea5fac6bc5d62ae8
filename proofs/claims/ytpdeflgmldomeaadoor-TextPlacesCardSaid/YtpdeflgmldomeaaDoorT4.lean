/- Whether a text is one. -/
import Derived.Test.YtpdeflgmldomeaaDoorT3
import Derived.Test.YtpdeflgmldomeaaDoorSh
import Derived.Lib.RuneCountTail
namespace Go.Proofs.YtpdeflgmldomeaaDoor
open Go.RowKit

abbrev Tabs (w : World) : Prop := Lib.Utf8Tabs 0 1 w
theorem Tabs.ext {w w' : World} (h : Tabs w) (he : Ext w w') : Tabs w' := Utf8Tabs_below h he

theorem dec_ok (s : ByteArray) (p : Nat) (hp : p < s.size) (w : World) (hT : Tabs w) (R : Value → World → Prop)
    (h : ∀ w', Ext w w' → R (.tuple #[.int .i32 ((Utf8.decode s p).1 : Int), .int .i64 ((Utf8.decode s p).2 : Int)]) w') : Cv Tryd.prog 17 #[.string (s.extract p s.size)] w R := by
  refine Calls.mono (Tryd.utf8_DecodeRuneInString _ w hT) fun e w' ⟨he, hb⟩ => ⟨_, he, ?_⟩
  have hz : ¬ (s.extract p s.size).size = 0 := by rw [ByteArray.size_extract]; omega
  have e : Lib.decodeGo (s.extract p s.size) = Utf8.decode s p := by
    simp only [Lib.decodeGo, hz, if_false]
    rw [Lib.tail_decode]
    rfl
  rw [e]
  exact h w' hb

def checkR (s : ByteArray) : Value :=
  if 65536 < s.size then .tuple #[.int .i64 0, .int .i64 10]
  else match chkAt s 0 with
    | none => .tuple #[.int .i64 0, .int .i64 0]
    | some p => .tuple #[.int .i64 p, .int .i64 11]

theorem refCheck_ok (s : ByteArray) (w : World) (R : Value → World → Prop) (h : R (checkR s) w) : Cv Tryd.prog 10 #[.string s] w R := by
  apply F10_ok
  unfold F10
  unfold checkR at h
  by_cases hs : 65536 < s.size
  · rw [if_pos hs] at h
    simp (disch := omega) only [opK_gtr, xcut, xcond_1, dec_t, o_len_9]
    exact h
  rw [if_neg hs] at h
  simp (disch := omega) only [opK_gtr, xcut, xcond_0, dec_f, o_len_9]
  refine ⟨fun l w' => ∃ p : Nat, l = [.int .i64 p] ∧ w' = w ∧ p ≤ s.size ∧ chkAt s p = chkAt s 0, fun l _ => s.size - (intOf (nth l 0)).toNat, ⟨0, rfl, rfl, by omega, rfl⟩, ?_⟩
  rintro τ w' ⟨p, hl, rfl, hp, hc⟩
  have e1 : τ 4 = .int .i64 p := by simpa using hl
  simp only [e1]
  unfold F10_l2
  by_cases hlt : p < s.size
  · rw [chkAt_step s p hlt] at hc
    simp (disch := omega) only [opK_lss, nth, xcond_1, dec_t, o_len_9]
    refine o_call_16 (rune_ok s p _ _ hlt (by omega) ?_)
    rw [refRune_decode]
    unfold RuneR
    have hd := decode_in s p hlt
    have hd1 := decode_pos s p
    by_cases hb : bad s p
    · rw [if_pos hb] at hc
      rw [← hc] at h
      unfold bad at hb
      simp (disch := first | omega | assumption) only [opK_not, xcond_1, dec_t, Bool.not_true, Bool.not_false, ext3_0, ext3_1, ext3_2]
      exact h
    · rw [if_neg hb] at hc
      unfold bad at hb
      simp (disch := first | omega | assumption) only [opK_not, opK_add, xcond_0, dec_f, Bool.not_true, Bool.not_false, ext3_0, ext3_1, ext3_2]
      exact ⟨⟨p + (Utf8.decode s p).2, by simp, trivial, hd, hc⟩, by simp [intOf, nth, e1]; omega⟩
  · obtain rfl : p = s.size := by omega
    rw [chkAt_end s _ (by omega)] at hc
    rw [← hc] at h
    simp (disch := omega) only [opK_lss, nth, xcond_0, dec_f, o_len_9]
    intro _
    exact h

theorem o_from (s : ByteArray) (k : IntKind) (i : Nat) (w : World) (K : Value → World → Prop) (hi : i ≤ s.size) :
    opK Tryd.prog (xV (Instr.sliceAt 9 (.string s) (some (.int k i)) none none)) w K = K (.string (s.extract i s.size)) w := by
  refine opK_ok ?_
  rw [run_sliceAt_string (P := Tryd.prog) (w := w) _ _ _ _ _ Tryd.underlying9]
  simp [Instr.slice, Instr.sliceBounds, Instr.sliceBound, asIntOf, hi]

theorem check_ok (s : ByteArray) (w : World) (hT : Tabs w) (R : Value → World → Prop) (h : ∀ w', Ext w w' → R (checkR s) w') : Cv Tryd.prog 9 #[.string s] w R := by
  apply F9_ok
  unfold F9
  unfold checkR at h
  by_cases hs : 65536 < s.size
  · rw [if_pos hs] at h
    simp (disch := omega) only [opK_gtr, xcut, xcond_1, dec_t, o_len_9, o_range_9]
    exact h _ (Ext.refl w)
  rw [if_neg hs] at h
  simp (disch := omega) only [opK_gtr, xcut, xcond_0, dec_f, o_len_9, o_range_9]
  refine ⟨fun _ w' => ∃ p : Nat, Ext w w' ∧ w'.heap[w.heap.size]? = some (.stringIter s p) ∧ p ≤ s.size ∧ chkAt s p = chkAt s 0,
    fun _ w' => match w'.heap[w.heap.size]? with | some (.stringIter _ p) => s.size - p | _ => 0, ⟨0, (by repeat' (first | exact Ext.refl _ | assumption | refine Ext.row ?_ (by first | omega | (simp only [sz_alloc, sz_row, sz_obj]; done) | (simp only [sz_alloc, sz_row, sz_obj]; omega)) _ | refine Ext.obj ?_ (by first | omega | (simp only [sz_alloc, sz_row, sz_obj]; done) | (simp only [sz_alloc, sz_row, sz_obj]; omega)) _ | refine Ext.alloc ?_ _)), hp_new rfl, by omega, rfl⟩, ?_⟩
  rintro τ w' ⟨p, he, hi, hp, hc⟩
  have hlt' := hp_lt hi
  unfold F9_l2
  by_cases hlt : p < s.size
  · rw [chkAt_step s p hlt] at hc
    have hd := decode_in s p hlt
    have hd1 := decode_pos s p
    rw [opK_next_more hi hlt]
    have hw1 : Ext w (World.setObjAt w' w.heap.size (.stringIter s (p + (Utf8.decode s p).2))) := he.obj (Nat.le_refl _) _
    have hi1 : (World.setObjAt w' w.heap.size (.stringIter s (p + (Utf8.decode s p).2))).heap[w.heap.size]? = some (.stringIter s (p + (Utf8.decode s p).2)) := hp_obj rfl hlt'
    generalize World.setObjAt w' w.heap.size (.stringIter s (p + (Utf8.decode s p).2)) = w1 at hw1 hi1
    by_cases h1 : (Utf8.decode s p).1 = 65533
    · simp (disch := omega) only [opK_neq, xcond_1, xcond_0, dec_f, ext3_0, ext3_1, ext3_2, o_from]
      refine o_call_17 (dec_ok s p hlt _ (hT.ext hw1) _ fun w2 he2 => ?_)
      by_cases h2 : (Utf8.decode s p).2 = 1
      · rw [if_pos ⟨h1, h2⟩] at hc
        rw [← hc] at h
        simp (disch := omega) only [opK_eql, xcond_1, dec_t, ext2_0, ext2_1]
        exact h _ (hw1.trans he2)
      · rw [if_neg (fun h => h2 h.2)] at hc
        simp (disch := omega) only [opK_eql, xcond_0, dec_f, ext2_0, ext2_1]
        have hi2 : w2.heap[w.heap.size]? = some (.stringIter s (p + (Utf8.decode s p).2)) := (he2.heap (hp_lt hi1)).trans hi1
        exact ⟨⟨_, hw1.trans he2, hi2, hd, hc⟩, by rw [hi2, hi]; show s.size - _ < s.size - _; omega⟩
    · rw [if_neg (fun h => h1 h.1)] at hc
      simp (disch := omega) only [opK_neq, xcond_1, dec_t, ext3_0, ext3_1, ext3_2]
      exact ⟨⟨_, hw1, hi1, hd, hc⟩, by rw [hi1, hi]; show s.size - _ < s.size - _; omega⟩
  · obtain rfl : p = s.size := by omega
    rw [chkAt_end s _ (by omega)] at hc
    rw [← hc] at h
    rw [opK_next_over hi (by omega)]
    simp (disch := omega) only [xcond_0, ext1_0]
    intro _
    exact h _ he
end Go.Proofs.YtpdeflgmldomeaaDoor
