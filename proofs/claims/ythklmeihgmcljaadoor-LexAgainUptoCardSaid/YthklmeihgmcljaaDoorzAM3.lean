/- Tokens: a piece of a text is read as the text is read there. No program in sight. -/
import Derived.Test.YthklmeihgmcljaaDoorzAM2
namespace Go.Proofs.YthklmeihgmcljaaDoor
open Go.RowKit
set_option maxRecDepth 100000
set_option maxHeartbeats 1000000
theorem a1I {n n' b0 b1 b2 b3 c1 c2 c3 : Nat} (h : n' ≤ n) (h0 : 1 ≤ n') (h1 : 1 < n' → c1 = b1) (h2 : 2 < n' → c2 = b2) (h3 : 3 < n' → c3 = b3) (hw : (Lib.decodeN n b0 b1 b2 b3).2 ≤ n') : Lib.decodeN n' b0 c1 c2 c3 = Lib.decodeN n b0 b1 b2 b3 := by
  by_cases a0 : b0 < 128
  · unfold Lib.decodeN; rw [if_pos a0, if_pos a0]
  by_cases k4 : 3 < n'
  · rw [h1 (by omega), h2 (by omega), h3 k4]
    unfold Lib.decodeN
    simp only [show (1 < n') = (1 < n) from propext ⟨fun _ => by omega, fun _ => by omega⟩, show (2 < n') = (2 < n) from propext ⟨fun _ => by omega, fun _ => by omega⟩, show (3 < n') = (3 < n) from propext ⟨fun _ => by omega, fun _ => by omega⟩]
  · have n3 : ¬ 3 < n' := k4
    unfold Lib.decodeN at hw ⊢
    rw [if_neg a0] at hw ⊢
    rw [if_neg a0]
    by_cases k3 : 2 < n'
    · rw [h1 (by omega), h2 k3]
      simp only [show (1 < n') = True from eq_true (by omega), show (2 < n') = True from eq_true k3, show (3 < n') = False from eq_false n3, show (1 < n) = True from eq_true (by omega), show (2 < n) = True from eq_true (by omega), true_and, false_and, and_false, if_false] at hw ⊢
      split
      · rfl
      · rename_i q1
        rw [if_neg q1] at hw
        split
        · rfl
        · rename_i q2
          rw [if_neg q2] at hw
          split
          · rename_i q3
            rw [if_pos q3] at hw
            split
            · rename_i q4; rw [if_pos q4] at hw; dsimp only at hw; omega
            · rfl
          · rfl
    · by_cases k2 : 1 < n'
      · rw [h1 k2]
        simp only [show (1 < n') = True from eq_true k2, show (2 < n') = False from eq_false k3, show (3 < n') = False from eq_false n3, show (1 < n) = True from eq_true (by omega), true_and, false_and, and_false, if_false] at hw ⊢
        split
        · rfl
        · rename_i q1
          rw [if_neg q1] at hw
          split
          · rename_i q2
            rw [if_pos q2] at hw
            split
            · rename_i q4; rw [if_pos q4] at hw; dsimp only at hw; omega
            · rfl
          · rename_i q2
            rw [if_neg q2] at hw
            split
            · rename_i q3
              rw [if_pos q3] at hw
              split
              · rename_i q4; rw [if_pos q4] at hw; dsimp only at hw; omega
              · rfl
            · rfl
      · simp only [show (1 < n') = False from eq_false k2, show (2 < n') = False from eq_false k3, show (3 < n') = False from eq_false n3, false_and, and_false, if_false] at hw ⊢
        split
        · rename_i q1
          rw [if_pos q1] at hw
          split
          · rename_i q4; rw [if_pos q4] at hw; dsimp only at hw; omega
          · rfl
        · rename_i q1
          rw [if_neg q1] at hw
          split
          · rename_i q2
            rw [if_pos q2] at hw
            split
            · rename_i q4; rw [if_pos q4] at hw; dsimp only at hw; omega
            · rfl
          · rename_i q2
            rw [if_neg q2] at hw
            split
            · rename_i q3
              rw [if_pos q3] at hw
              split
              · rename_i q4; rw [if_pos q4] at hw; dsimp only at hw; omega
              · rfl
            · rfl
section
variable {s : ByteArray}
theorem A5 {p e : Nat} (h : p ≤ e) (he : e ≤ s.size) : (s.extract p e).size = e - p := by
  rw [ByteArray.size_extract]; omega
theorem M0 {p e i : Nat} (he : e ≤ s.size) (hi : p + i < e) : (s.extract p e).get! i = s.get! (p + i) := by
  have h1 : i < (s.extract p e).size := by rw [ByteArray.size_extract]; omega
  have h2 : (s.extract p e).data.toList[i]? = some ((s.extract p e).get! i) := N8 h1
  rw [ByteArray.data_extract, Array.toList_extract, List.extract_eq_take_drop, List.getElem?_take_of_lt (by omega), List.getElem?_drop, N8 (by omega)] at h2
  exact (Option.some.inj h2).symm
theorem a0g {p e i : Nat} (he : e ≤ s.size) (hi : p + i < e) (hw : p + i + wd s (p + i) ≤ e) : Utf8.decode (s.extract p e) i = Utf8.decode s (p + i) := by
  have hz : (s.extract p e).size = e - p := A5 (by omega) he
  have hw' : (Utf8.decode s (p + i)).2 ≤ (s.extract p e).size - i := by
    rw [hz]
    have : wd s (p + i) ≤ e - p - i := by omega
    exact this
  rw [Lib.decode_at s (p + i)] at hw' ⊢
  rw [Lib.decode_at (s.extract p e) i]
  rw [M0 he hi]
  refine a1I (by omega) (by omega) (fun q => ?_) (fun q => ?_) (fun q => ?_) hw'
  · rw [show p + i + 1 = p + (i + 1) by omega, M0 he (by omega)]
  · rw [show p + i + 2 = p + (i + 2) by omega, M0 he (by omega)]
  · rw [show p + i + 3 = p + (i + 3) by omega, M0 he (by omega)]
end
end Go.Proofs.YthklmeihgmcljaaDoor
