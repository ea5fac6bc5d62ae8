/- Runes: the reference's reading of one rune is the model's. -/
import Derived.Test.YtpdeflgmldomeaaDoorG1
import Derived.Test.YtpdeflgmldomeaaDoorY1
import Derived.Test.YtpdeflgmldomeaaDoorA0
namespace Go.Proofs.YtpdeflgmldomeaaDoor
open Go.RowKit

theorem byte_lt (s : ByteArray) (i : Nat) : (s.get! i).toNat < 256 := UInt8.toNat_lt (s.get! i)

def RuneR (x : Nat × Nat × Bool) : Value := .tuple #[.int .i64 x.1, .int .i64 x.2.1, .bool x.2.2]

theorem rune_fin (n least : Nat) (v : Nat) (w : World) (R : Value → World → Prop) (_hl : least < 100000)
    (h : R (RuneR (refFin least n (some v))) w) :
    F16_j2 (.int .i64 n) (.int .i64 least) (.int .i64 v) w R := by
  intro _
  by_cases h1 : v < least
  · rw [refFin_bad (by omega)] at h
    simp (disch := omega) only [opK_lss, opK_pick, opK_pure, asB_bool, asB_undef, gsem_10, gsem_n, gval_10, gval_n, xcond_1, dec_t, cond_true]
    exact h
  by_cases h2 : 1114111 < v
  · rw [refFin_bad (by omega)] at h
    simp (disch := omega) only [opK_lss, opK_gtr, opK_pick, opK_pure, asB_bool, asB_undef, gsem_10, gsem_00, gsem_n, gval_10, gval_00, gval_n, xcond_1, dec_t, dec_f, cond_true, cond_false]
    exact h
  by_cases h3 : 55296 ≤ v
  · by_cases h4 : v < 57344
    · rw [refFin_bad (by omega)] at h
      simp (disch := omega) only [opK_lss, opK_gtr, opK_geq, opK_pick, asB_bool, gsem_11, gsem_00, gval_11, gval_00, xcond_1, dec_t, dec_f, cond_true, cond_false]
      exact h
    · rw [refFin_good (by omega)] at h
      simp (disch := omega) only [opK_lss, opK_gtr, opK_geq, opK_pick, asB_bool, gsem_11, gsem_00, gval_11, gval_00, xcond_0, dec_t, dec_f, cond_true, cond_false]
      exact h
  · rw [refFin_good (by omega)] at h
    simp (disch := omega) only [opK_lss, opK_gtr, opK_geq, opK_pick, opK_pure, asB_bool, gsem_01, gsem_00, gval_01, gval_00, xcond_0, dec_f, cond_false]
    exact h

theorem o_index_str (s : ByteArray) (k : IntKind) (i : Int) (h0 : 0 ≤ i) (hi : i < s.size) (w : World) (K : Value → World → Prop) :
    opK Tryd.prog (xV (Instr.index 9 (.string s) (.int k i))) w K = K (.int .u8 ((s.get! i.toNat).toNat : Int)) w := opK_index_str _ s k i Tryd.underlying9 h0 hi
theorem o_len_str (s : ByteArray) (w : World) (K : Value → World → Prop) : opK Tryd.prog (xBuiltin .len #[9] 3 [false] [.string s]) w K = K (.int .i64 (s.size : Int)) w := opK_len_str _ _ s Tryd.underlying9
theorem o_conv_u8 (n : Int) (h1 : 0 ≤ n) (h2 : n < 256) (w : World) (K : Value → World → Prop) : opK Tryd.prog (xV (convert 5 3 (.int .u8 n))) w K = K (.int .i64 n) w :=
  opK_conv64 _ _ _ n (by rw [Tryd.underlying5]; rfl) Tryd.underlying3 (by omega) (by omega)

theorem rune_loop (s : ByteArray) (p n least v0 : Nat) (w : World) (R : Value → World → Prop) (hp : p < s.size) (hs : s.size ≤ 1048576) (hn : 2 ≤ n) (hn4 : n ≤ 4) (hl : least < 100000) (hv : v0 < 64)
    (h : R (RuneR (refFin least n (refTail s p n 3 1 v0))) w) :
    F16_j1 (.string s) (.int .i64 p) (.int .i64 n) (.int .i64 least) (.int .i64 v0) w R := by
  intro _
  refine ⟨fun l w' => ∃ k x : Nat, l = [.int .i64 x, .int .i64 k] ∧ w' = w ∧ 1 ≤ k ∧ k ≤ n ∧ x < 64 ^ (k + 1) ∧ refTail s p n (4 - k) k x = refTail s p n 3 1 v0,
    fun l _ => (4 - intOf (nth l 1)).toNat, ⟨1, v0, rfl, rfl, by omega, by omega, by omega, rfl⟩, ?_⟩
  rintro τ w' ⟨k, x, hl, rfl, hk1, hkn, hx, hr⟩
  obtain ⟨e1, e2⟩ : τ 10 = .int .i64 x ∧ τ 11 = .int .i64 k := by simpa using hl
  have hx2 : x < 64 ^ 5 := Nat.lt_of_lt_of_le hx (Nat.pow_le_pow_right (by omega) (by omega))
  have hb := byte_lt s (p + k)
  simp only [e1, e2]
  unfold F16_l3
  by_cases hk : k < n
  · rw [tail_eq _ _ _ _ _ _ hk (by omega)] at hr
    by_cases h1 : p + k < s.size
    · by_cases h2 : 128 ≤ (s.get! (p + k)).toNat
      · by_cases h3 : (s.get! (p + k)).toNat < 192
        · rw [if_pos ⟨h1, h2, h3⟩] at hr
          simp (disch := omega) only [opK_lss, opK_geq, opK_pick, opK_add, opK_sub, opK_mul, nth, asB_bool, gsem_00, gval_00, xcond_1, xcond_0, dec_t, dec_f, cond_false, toNat_add, o_len_str, o_index_str, o_conv_u8, toNat_add]
          refine ⟨⟨k + 1, 64 * x + (s.get! (p + k)).toNat - 128, ?_, trivial, by omega, by omega, ?_, ?_⟩, ?_⟩
          · simp; omega
          · rw [Nat.pow_succ]; omega
          · rw [← hr]; congr 1
          · simp [intOf, nth, e2]; omega
        · rw [if_neg (by omega)] at hr
          rw [← hr] at h
          simp (disch := omega) only [opK_lss, opK_geq, opK_pick, opK_add, opK_sub, opK_mul, nth, asB_bool, gsem_00, gval_00, xcond_1, dec_t, dec_f, cond_false, toNat_add, o_len_str, o_index_str, o_conv_u8, toNat_add]
          exact h
      · rw [if_neg (by omega)] at hr
        rw [← hr] at h
        simp (disch := omega) only [opK_lss, opK_geq, opK_pick, opK_add, opK_sub, opK_mul, opK_pure, nth, asB_bool, gsem_10, gsem_00, gval_10, gval_00, xcond_1, dec_t, dec_f, cond_true, cond_false, toNat_add, o_len_str, o_index_str, o_conv_u8, toNat_add]
        exact h
    · rw [if_neg (by omega)] at hr
      rw [← hr] at h
      simp (disch := omega) only [opK_lss, opK_geq, opK_pick, opK_add, opK_mul, opK_pure, nth, asB_bool, gsem_10, gval_10, xcond_1, dec_t, cond_true, o_len_str]
      exact h
  · obtain rfl : k = n := by omega
    have e : refTail s p k (4 - k) k x = some x := by
      cases hf : 4 - k with
      | zero => rfl
      | succ f => simp [refTail]
    rw [← hr, e] at h
    simp (disch := omega) only [opK_lss, opK_add, opK_mul, nth, xcond_0, dec_f]
    exact rune_fin _ _ _ _ _ (by omega) h

theorem rune_ok (s : ByteArray) (p : Nat) (w : World) (R : Value → World → Prop) (hp : p < s.size) (hs : s.size ≤ 1048576) (h : R (RuneR (refRune s p)) w) :
    Cv Tryd.prog 16 #[.string s, .int .i64 p] w R := by
  apply F16_ok
  unfold F16
  have hb := byte_lt s p
  unfold refRune at h
  dsimp only at h
  by_cases h1 : (s.get! p).toNat < 128
  · rw [if_pos h1] at h
    simp (disch := omega) only [opK_lss, opK_geq, opK_pick, opK_sub, opK_pure, xcut, nth, asB_bool, gsem_01, gval_01, xcond_1, xcond_0, dec_t, dec_f, cond_false, Int.toNat_natCast, o_index_str, o_conv_u8, Int.toNat_natCast]
    exact h
  rw [if_neg h1] at h
  by_cases h2 : 194 ≤ (s.get! p).toNat
  · by_cases h3 : (s.get! p).toNat < 224
    · rw [if_pos ⟨h2, h3⟩] at h
      simp (disch := omega) only [opK_lss, opK_geq, opK_pick, opK_sub, opK_pure, xcut, nth, asB_bool, gsem_11, gsem_01, gval_11, gval_01, xcond_1, xcond_0, dec_t, dec_f, cond_true, cond_false, Int.toNat_natCast, o_index_str, o_conv_u8, Int.toNat_natCast]
      have := rune_loop s p 2 128 ((s.get! p).toNat - 192) w R hp hs (by omega) (by omega) (by omega) (by omega) h
      rw [show (((s.get! p).toNat - 192 : Nat) : Int) = ((s.get! p).toNat : Int) - 192 by omega] at this
      exact this
    rw [if_neg (by omega)] at h
    by_cases h4 : (s.get! p).toNat < 240
    · rw [if_pos (by omega)] at h
      simp (disch := omega) only [opK_lss, opK_geq, opK_pick, opK_sub, opK_pure, xcut, nth, asB_bool, gsem_11, gsem_01, gval_11, gval_01, xcond_1, xcond_0, dec_t, dec_f, cond_true, cond_false, Int.toNat_natCast, o_index_str, o_conv_u8, Int.toNat_natCast]
      have := rune_loop s p 3 2048 ((s.get! p).toNat - 224) w R hp hs (by omega) (by omega) (by omega) (by omega) h
      rw [show (((s.get! p).toNat - 224 : Nat) : Int) = ((s.get! p).toNat : Int) - 224 by omega] at this
      exact this
    rw [if_neg (by omega)] at h
    by_cases h5 : (s.get! p).toNat < 245
    · rw [if_pos (by omega)] at h
      simp (disch := omega) only [opK_lss, opK_geq, opK_pick, opK_sub, xcut, nth, asB_bool, gsem_11, gval_11, xcond_1, xcond_0, dec_t, dec_f, cond_true, Int.toNat_natCast, o_index_str, o_conv_u8, Int.toNat_natCast]
      have := rune_loop s p 4 65536 ((s.get! p).toNat - 240) w R hp hs (by omega) (by omega) (by omega) (by omega) h
      rw [show (((s.get! p).toNat - 240 : Nat) : Int) = ((s.get! p).toNat : Int) - 240 by omega] at this
      exact this
    rw [if_neg (by omega)] at h
    simp (disch := omega) only [opK_lss, opK_geq, opK_pick, opK_sub, xcut, nth, asB_bool, gsem_11, gval_11, xcond_0, dec_t, dec_f, cond_true, Int.toNat_natCast, o_index_str, o_conv_u8, Int.toNat_natCast]
    exact h
  · rw [if_neg (by omega), if_neg (by omega), if_neg (by omega)] at h
    simp (disch := omega) only [opK_lss, opK_geq, opK_pick, opK_sub, opK_pure, xcut, nth, asB_bool, gsem_01, gval_01, xcond_0, dec_f, cond_false, Int.toNat_natCast, o_index_str, o_conv_u8, Int.toNat_natCast]
    exact h
end Go.Proofs.YtpdeflgmldomeaaDoor
