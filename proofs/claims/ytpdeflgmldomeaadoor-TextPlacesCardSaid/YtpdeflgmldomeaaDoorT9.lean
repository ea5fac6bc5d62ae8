/- The laws TextOn, TextJoins: places begin at 1, 1, and never go back; behind a whole line they go on as in the second text alone. -/
import Derived.Test.YtpdeflgmldomeaaDoorT8
import Derived.Laws.Small
import Derived.Laws.Concat
namespace Go.Proofs.YtpdeflgmldomeaaDoor
open Go.RowKit

section
variable {w : World} {K : Value → World → Prop}
theorem o_min (ty : TypeId) (ts : Array TypeId) (ks : List Bool) (a b : Int) : opK Tryd.prog (xBuiltin .min ts ty ks [.int .i64 a, .int .i64 b]) w K = K (.int .i64 (if b < a then b else a)) w := by
  have : xBuiltin .min ts ty ks [.int .i64 a, .int .i64 b] = xV (Builtin.min_ ts ty #[.int .i64 a, .int .i64 b]) := rfl
  rw [this]
  exact opK_ok (run_min_int2 (P := Tryd.prog) (w := w) ts ty .i64 .i64 a b)
theorem o_max (ty : TypeId) (ts : Array TypeId) (ks : List Bool) (a b : Int) : opK Tryd.prog (xBuiltin .max ts ty ks [.int .i64 a, .int .i64 b]) w K = K (.int .i64 (if b > a then b else a)) w := by
  have : xBuiltin .max ts ty ks [.int .i64 a, .int .i64 b] = xV (Builtin.max_ ts ty #[.int .i64 a, .int .i64 b]) := rfl
  rw [this]
  exact opK_ok (run_max_int2 (P := Tryd.prog) (w := w) ts ty .i64 .i64 a b)
end

/-- of two places the first is not behind the second -/
def leP (q r : Int × Int) : Prop := q.1 < r.1 ∨ (q.1 = r.1 ∧ q.2 ≤ r.2)
theorem leP_refl (q : Int × Int) : leP q q := .inr ⟨rfl, Int.le_refl _⟩
theorem leP_trans {p q r : Int × Int} (h : leP p q) (k : leP q r) : leP p r := by
  unfold leP at *
  omega
theorem leP_next (q : Int × Int) (r : Nat) : leP q (nextP q r) := by
  unfold leP nextP
  split
  · exact .inl (show q.1 < q.1 + 1 by omega)
  · exact .inr ⟨rfl, show q.2 ≤ q.2 + 1 by omega⟩
theorem plc_ge (s : ByteArray) (n : Int) : ∀ (f p : Nat) (q : Int × Int), leP q (plc s n f p q) := by
  intro f
  induction f with
  | zero => intro p q; exact leP_refl q
  | succ f ih =>
    intro p q
    unfold plc
    split
    · exact leP_trans (leP_next q _) (ih _ _)
    · exact leP_refl q
theorem plc_mono (s : ByteArray) (a b : Int) (h : a ≤ b) : ∀ (f p : Nat) (q : Int × Int), leP (plc s a f p q) (plc s b f p q) := by
  intro f
  induction f with
  | zero => intro p q; exact leP_refl q
  | succ f ih =>
    intro p q
    by_cases h1 : p < s.size ∧ (p : Int) < a
    · have h2 : p < s.size ∧ (p : Int) < b := ⟨h1.1, by omega⟩
      simp only [plc, if_pos h1, if_pos h2]
      exact ih _ _
    · have e : plc s a (f + 1) p q = q := by simp only [plc, if_neg h1]
      rw [e]
      exact plc_ge s b (f + 1) p q
theorem atP_mono (s : ByteArray) (a b : Int) (h : a ≤ b) : leP (atP s a) (atP s b) := plc_mono s a b h _ _ _
theorem atP_zero (s : ByteArray) : atP s 0 = (1, 1) := plcAt_end s 0 0 _ (by omega)

set_option maxHeartbeats 1000000 in
theorem on_ok (s : ByteArray) (a b : Int) (hs : s.size ≤ 4194304) (w : World) (hT : Tabs w) (R : Value → World → Prop) (h : ∀ w', Ext w w' → R (.bool true) w') : Cv Tryd.prog 5 #[.string s, .int .i64 a, .int .i64 b] w R := by
  apply F5_ok
  unfold F5
  refine o_call_8 (known_ok w hT _ fun w1 h1 => ?_)
  simp (disch := first | omega | (simp only [sz_alloc, sz_row, sz_obj]; done) | (simp only [sz_alloc, sz_row, sz_obj]; omega)) only [opK_not, xcond_0, Bool.not_true, sz_alloc, o_alloc_33, o_build_33_0_1, o_min, o_max]
  have hle := atP_mono s (if b < a then b else a) (if b > a then b else a) (by split <;> split <;> omega)
  refine o_call_13 (at_ok s _ _ _ hs fun w2 h2 => ?_)
  try simp (disch := first | omega | (simp only [sz_alloc, sz_row, sz_obj]; done) | (simp only [sz_alloc, sz_row, sz_obj]; omega)) only [opK_lss, opK_leq, opK_gtr, opK_geq, opK_eql, opK_neq, opK_not, opK_pick, opK_add, opK_sub, opK_mul, opK_pure, opK_makeFunc, xcut, nth, asB_bool, asB_undef, gsem_11, gsem_10, gsem_01, gsem_00, gsem_n, gval_11, gval_10, gval_01, gval_00, gval_n, xcond_1, xcond_0, dec_t, dec_f, cond_true, cond_false, Bool.not_true, Bool.not_false, ext2_0, ext2_1, ext3_0, ext3_1, ext3_2, ext1_0, opK_nilp, opK_nilf, toNat_add, toNat_add1, Int.toNat_natCast, opK_box, setRow_setRow, hp_new, hp_old, hp_row, hp_far, hp_obj, hp_objfar, rowPut_some, sz_alloc, sz_row, sz_obj, ldH_some, stH_some, spliced, cells_int, cells_bool, cells_string, cells_pointer, cells_slice, cells_map, cells_func, cells_nilFunc, cells_iface, cells_nilIface, cells_agg, List.size_toArray, List.length_cons, List.length_nil, Nat.reduceAdd, Nat.reduceLeDiff, Nat.le_refl, true_and, and_true, and_self, List.drop_zero, List.drop_succ_cons, List.take_succ_cons, List.take_zero, List.drop_nil, List.take_nil, List.cons_append, List.nil_append, List.append_nil, List.all_cons, List.all_nil, Value.oneCell', Bool.and_self, Bool.and_true, Nat.zero_add, Nat.add_zero, Nat.reduceLT, o_alloc_33, o_build_33_0_1, o_fa_33_0, o_fa_33_1, o_min, o_max]
  refine o_call_13 (at_ok s _ _ _ hs fun w3 h3 => ?_)
  generalize atP s (if b < a then b else a) = q at hle
  generalize atP s (if b > a then b else a) = r at hle
  obtain ⟨q1, q2⟩ := q
  obtain ⟨r1, r2⟩ := r
  unfold placeOf place
  repeat' (first | (simp (disch := first | omega | (simp only [sz_alloc, sz_row, sz_obj]; done) | (simp only [sz_alloc, sz_row, sz_obj]; omega)) only [hp_new, hp_old, hp_far, stH_some, spliced, cells_agg, List.size_toArray, List.length_cons, List.length_nil, Nat.reduceAdd, Nat.le_refl, true_and, List.drop_succ_cons, List.take_zero, List.drop_nil, List.nil_append, List.append_nil, List.all_cons, List.all_nil, Value.oneCell', Bool.and_self, Nat.zero_add]) | with_reducible refine o_store_33 rfl ?_ | refine o_load_3 ?_)
  refine o_call_13 (at_ok s _ _ _ hs fun w4 h4 => ?_)
  have f1 : w4.heap[w3.heap.size]? = some (.cells #[.int .i64 q1, .int .i64 q2] 33) := (h4.heap (by simp only [sz_alloc, sz_row]; omega)).trans (by simp (disch := first | omega | (simp only [sz_alloc, sz_row, sz_obj]; done) | (simp only [sz_alloc, sz_row, sz_obj]; omega)) only [hp_new, hp_old, hp_row, hp_far, rowPut_some])
  have f2 : w4.heap[w3.heap.size + 1]? = some (.cells #[.int .i64 r1, .int .i64 r2] 33) := (h4.heap (by simp only [sz_alloc, sz_row]; omega)).trans (by simp (disch := first | omega | (simp only [sz_alloc, sz_row, sz_obj]; done) | (simp only [sz_alloc, sz_row, sz_obj]; omega)) only [hp_new, hp_row, hp_far, rowPut_some])
  have hE : Ext w w4 := by
    have h0 : Ext w3 ((((w3.alloc (.cells #[.int .i64 0, .int .i64 0] 33)).alloc (.cells #[.int .i64 0, .int .i64 0] 33)).setRow w3.heap.size #[.int .i64 q1, .int .i64 q2]).setRow (w3.heap.size + 1) #[.int .i64 r1, .int .i64 r2]) := (by repeat' (first | exact Ext.refl _ | assumption | refine Ext.row ?_ (by first | omega | (simp only [sz_alloc, sz_row, sz_obj]; done) | (simp only [sz_alloc, sz_row, sz_obj]; omega)) _ | refine Ext.obj ?_ (by first | omega | (simp only [sz_alloc, sz_row, sz_obj]; done) | (simp only [sz_alloc, sz_row, sz_obj]; omega)) _ | refine Ext.alloc ?_ _))
    exact ((h1.trans h2).trans h3).trans (h0.trans (h4.mono (by simp only [sz_alloc, sz_row]; omega)))
  clear h4 h1 h2 h3
  rw [atP_zero]
  unfold placeOf place
  unfold leP at hle
  simp only at hle
  have hfin := h w4 hE
  rcases hle with hlt | ⟨heq, hle⟩
  · repeat' (first | (simp (disch := first | omega | (simp only [sz_alloc, sz_row, sz_obj]; done) | (simp only [sz_alloc, sz_row, sz_obj]; omega)) only [opK_lss, opK_pick, opK_pure, nth, asB_bool, asB_undef, gsem_11, gsem_10, gsem_n, gval_11, gval_10, dec_t, cond_true, ldH_some, List.size_toArray, List.length_cons, List.length_nil, Nat.reduceAdd, Nat.reduceLeDiff, true_and, and_self, List.drop_zero, List.take_succ_cons, List.take_zero, Nat.zero_add, o_fa_33_0, o_eqPlace, f1, f2]) | with_reducible refine o_store_33 rfl ?_ | refine o_load_3 ?_)
    exact hfin
  · subst heq
    repeat' (first | (simp (disch := first | omega | (simp only [sz_alloc, sz_row, sz_obj]; done) | (simp only [sz_alloc, sz_row, sz_obj]; omega)) only [opK_lss, opK_leq, opK_eql, opK_pick, nth, asB_bool, gsem_11, gsem_00, gval_11, gval_00, dec_t, dec_f, cond_true, cond_false, ldH_some, List.size_toArray, List.length_cons, List.length_nil, Nat.reduceAdd, Nat.reduceLeDiff, Nat.le_refl, true_and, and_self, List.drop_zero, List.drop_succ_cons, List.take_succ_cons, List.take_zero, List.take_nil, Nat.zero_add, o_fa_33_0, o_fa_33_1, o_eqPlace, f1, f2]) | with_reducible refine o_store_33 rfl ?_ | refine o_load_3 ?_)
    exact hfin

/-! ## two texts, one behind the other -/
theorem get_left (x y : ByteArray) (i : Nat) (h : i < x.size) : (x ++ y).get! i = x.get! i := by
  have h1 : i < (x ++ y).size := by rw [ByteArray.size_append]; omega
  have e1 : (x ++ y).get! i = (x ++ y)[i] := by
    show (x ++ y).data[i]! = _
    exact getElem!_pos (x ++ y).data i h1
  have e2 : x.get! i = x[i] := by
    show x.data[i]! = _
    exact getElem!_pos x.data i h
  rw [e1, e2]
  exact ByteArray.getElem_append_left h
theorem get_right (x y : ByteArray) (i : Nat) : (x ++ y).get! (x.size + i) = y.get! i := by
  by_cases h : i < y.size
  · have h1 : x.size + i < (x ++ y).size := by rw [ByteArray.size_append]; omega
    have e1 : (x ++ y).get! (x.size + i) = (x ++ y)[x.size + i] := by
      show (x ++ y).data[x.size + i]! = _
      exact getElem!_pos (x ++ y).data _ h1
    have e2 : y.get! i = y[i] := by
      show y.data[i]! = _
      exact getElem!_pos y.data i h
    rw [e1, e2, ByteArray.getElem_append_right (by omega)]
    congr 1
    omega
  · have h1 : ¬ x.size + i < (x ++ y).size := by rw [ByteArray.size_append]; omega
    have e1 : (x ++ y).get! (x.size + i) = default := by
      show (x ++ y).data[x.size + i]! = _
      exact getElem!_neg (x ++ y).data _ h1
    have e2 : y.get! i = default := by
      show y.data[i]! = _
      exact getElem!_neg y.data i h
    rw [e1, e2]
theorem decode_right (x y : ByteArray) (p : Nat) : Utf8.decode (x ++ y) (x.size + p) = Utf8.decode y p := by
  rw [decode_N, decode_N, Nat.add_assoc, Nat.add_assoc, Nat.add_assoc, get_right, get_right, get_right, get_right, ByteArray.size_append]
  congr 2 <;> simp only [Nat.add_lt_add_iff_left]

theorem decN_congr (c c1 c2 c3 d1 d2 d3 : Nat) (A1 A2 A3 B1 B2 B3 : Bool) (h1 : A1 = B1) (g1 : A1 = true → c1 = d1 ∧ A2 = B2) (g2 : A1 = true → A2 = true → c2 = d2 ∧ A3 = B3) (g3 : A1 = true → A2 = true → A3 = true → c3 = d3) :
    decN c c1 c2 c3 A1 A2 A3 = decN c d1 d2 d3 B1 B2 B3 := by
  subst h1
  cases A1 with
  | false => simp [decN]
  | true =>
    obtain ⟨rfl, rfl⟩ := g1 rfl
    cases A2 with
    | false => simp [decN]
    | true =>
      obtain ⟨rfl, rfl⟩ := g2 rfl rfl
      cases A3 with
      | false => simp [decN]
      | true =>
        obtain rfl := g3 rfl rfl rfl
        rfl
def lineEnd (x : ByteArray) : Prop := 0 < x.size ∧ x.get! (x.size - 1) = 10
theorem decode_left (x y : ByteArray) (hx : lineEnd x) (p : Nat) (hp : p < x.size) : Utf8.decode (x ++ y) p = Utf8.decode x p := by
  have hnot : ∀ k, k < x.size → 128 ≤ (x.get! k).toNat → k + 1 < x.size := fun k hk hc => by
    rcases Nat.lt_or_ge (k + 1) x.size with h | h
    · exact h
    · have : k = x.size - 1 := by omega
      rw [this, hx.2] at hc
      exact absurd hc (by decide)
  rw [decode_N, decode_N, get_left x y p hp, ByteArray.size_append]
  by_cases hc : (x.get! p).toNat < 128
  · simp only [decN, if_pos hc]
  have h1 := hnot p hp (by omega)
  have e1 := get_left x y (p + 1) h1
  refine decN_congr _ _ _ _ _ _ _ _ _ _ _ _ _ ?_ ?_ ?_ ?_
  · rw [e1]
    congr 1
    simp only [eq_iff_iff]
    constructor
    · rintro ⟨_, h⟩; exact ⟨h1, h⟩
    · rintro ⟨_, h⟩; exact ⟨by omega, h⟩
  · intro a1
    rw [e1] at a1 ⊢
    have a1 := of_decide_eq_true a1
    have h2 := hnot _ h1 a1.2.1
    have e2 := get_left x y (p + 2) h2
    refine ⟨rfl, ?_⟩
    rw [e2]
    congr 1
    simp only [eq_iff_iff]
    constructor
    · rintro ⟨_, h⟩; exact ⟨h2, h⟩
    · rintro ⟨_, h⟩; exact ⟨by omega, h⟩
  · intro a1 a2
    rw [e1] at a1
    have a1 := of_decide_eq_true a1
    have h2 := hnot _ h1 a1.2.1
    have e2 := get_left x y (p + 2) h2
    rw [e2] at a2 ⊢
    have a2 := of_decide_eq_true a2
    have h3 := hnot _ h2 a2.2.1
    have e3 := get_left x y (p + 3) h3
    refine ⟨rfl, ?_⟩
    rw [e3]
    congr 1
    simp only [eq_iff_iff]
    constructor
    · rintro ⟨_, h⟩; exact ⟨h3, h⟩
    · rintro ⟨_, h⟩; exact ⟨by omega, h⟩
  · intro a1 a2 a3
    rw [e1] at a1
    have a1 := of_decide_eq_true a1
    have h2 := hnot _ h1 a1.2.1
    have e2 := get_left x y (p + 2) h2
    rw [e2] at a2
    have a2 := of_decide_eq_true a2
    have h3 := hnot _ h2 a2.2.1
    have e3 := get_left x y (p + 3) h3
    rw [e3]
/-- the last rune of a whole line is a line feed, of one byte -/
theorem decN_conts (c c1 c2 c3 : Nat) (A1 A2 A3 : Bool) : (decN c c1 c2 c3 A1 A2 A3).2 = 1 ∨ ((decN c c1 c2 c3 A1 A2 A3).2 = 2 ∧ A1 = true) ∨ ((decN c c1 c2 c3 A1 A2 A3).2 = 3 ∧ A2 = true) ∨ ((decN c c1 c2 c3 A1 A2 A3).2 = 4 ∧ A3 = true) := decN_width c c1 c2 c3 A1 A2 A3
theorem decode_last (x : ByteArray) (hx : lineEnd x) (p : Nat) (hp : p < x.size) (he : p + (Utf8.decode x p).2 = x.size) : (Utf8.decode x p).1 = 10 := by
  have key : ∀ k, p + k + 1 = x.size → ¬ 128 ≤ (x.get! (p + k)).toNat := fun k hk hc => by
    have : p + k = x.size - 1 := by omega
    rw [this, hx.2] at hc
    exact absurd hc (by decide)
  rw [decode_N] at he ⊢
  rcases decN_width (x.get! p).toNat (x.get! (p + 1)).toNat (x.get! (p + 2)).toNat (x.get! (p + 3)).toNat
    (decide (p + 1 < x.size ∧ 128 ≤ (x.get! (p + 1)).toNat ∧ (x.get! (p + 1)).toNat < 192)) (decide (p + 2 < x.size ∧ 128 ≤ (x.get! (p + 2)).toNat ∧ (x.get! (p + 2)).toNat < 192))
    (decide (p + 3 < x.size ∧ 128 ≤ (x.get! (p + 3)).toNat ∧ (x.get! (p + 3)).toNat < 192)) with h | ⟨h, a⟩ | ⟨h, a⟩ | ⟨h, a⟩
  · rw [h] at he
    have hc : x.get! p = 10 := by rw [show p = x.size - 1 by omega]; exact hx.2
    have hc' : (x.get! p).toNat = 10 := by rw [hc]; rfl
    rw [hc']
    rfl
  · rw [h] at he
    exact absurd (of_decide_eq_true a).2.1 (key 1 (by omega))
  · rw [h] at he
    exact absurd (of_decide_eq_true a).2.1 (key 2 (by omega))
  · rw [h] at he
    exact absurd (of_decide_eq_true a).2.1 (key 3 (by omega))

def shift (k : Int) (q : Int × Int) : Int × Int := (q.1 + k, q.2)
theorem shift_next (k : Int) (q : Int × Int) (r : Nat) : shift k (nextP q r) = nextP (shift k q) r := by
  unfold shift nextP
  split <;> simp <;> omega
/-- behind the first text: as in the second alone, some lines on -/
theorem plc_right (x y : ByteArray) (n : Int) (k : Int) : ∀ (f p : Nat) (q : Int × Int), plc (x ++ y) (x.size + n) f (x.size + p) (shift k q) = shift k (plc y n f p q) := by
  intro f
  induction f with
  | zero => intro p q; rfl
  | succ f ih =>
    intro p q
    by_cases h : p < y.size ∧ (p : Int) < n
    · have h2 : x.size + p < (x ++ y).size ∧ ((x.size + p : Nat) : Int) < x.size + n := by rw [ByteArray.size_append]; omega
      simp only [plc, if_pos h, if_pos h2]
      rw [decode_right, ← shift_next, Nat.add_assoc]
      exact ih _ _
    · have h2 : ¬ (x.size + p < (x ++ y).size ∧ ((x.size + p : Nat) : Int) < x.size + n) := by rw [ByteArray.size_append]; omega
      simp only [plc, if_neg h, if_neg h2]
/-- within the first text: as in it alone; and it ends in column 1 -/
theorem plc_left (x y : ByteArray) (hx : lineEnd x) (n : Int) (hn : 0 ≤ n) : ∀ (m p : Nat) (q : Int × Int), x.size - p = m → p ≤ x.size → (p = x.size → q.2 = 1) →
    plcAt (x ++ y) (x.size + n) p q = plcAt (x ++ y) (x.size + n) x.size (plcAt x x.size p q) ∧ (plcAt x x.size p q).2 = 1 := by
  intro m
  induction m using Nat.strongRecOn with
  | _ m ih =>
    intro p q hm hp hq
    by_cases h : p < x.size
    · have h2 : p < (x ++ y).size := by rw [ByteArray.size_append]; omega
      have hd := decode_in x p h
      have hd1 := decode_pos x p
      rw [plcAt_step (x ++ y) _ p q h2 (by omega), plcAt_step x _ p q h (by omega), decode_left x y hx p h]
      refine ih (x.size - (p + (Utf8.decode x p).2)) (by omega) _ _ rfl hd fun he => ?_
      rw [decode_last x hx p h he]
      rfl
    · obtain rfl : p = x.size := by omega
      rw [plcAt_end x x.size x.size q (by omega)]
      exact ⟨rfl, hq rfl⟩
theorem atP_joins (x y : ByteArray) (hx : lineEnd x) (n : Int) (hn : 0 ≤ n) : (atP x x.size).2 = 1 ∧ atP (x ++ y) (x.size + n) = shift ((atP x x.size).1 - 1) (atP y n) := by
  have hne : ¬ (0 = x.size) := by have := hx.1; omega
  obtain ⟨h1, h2⟩ := plc_left x y hx n hn x.size 0 (1, 1) (by omega) (by omega) (fun h => absurd h hne)
  refine ⟨h2, ?_⟩
  unfold atP
  rw [h1]
  generalize plcAt x x.size 0 (1, 1) = q at h2
  obtain ⟨q1, q2⟩ := q
  simp only at h2
  subst h2
  have e : shift (q1 - 1) (1, 1) = (q1, 1) := by
    unfold shift
    refine Prod.ext ?_ rfl
    show 1 + (q1 - 1) = q1
    omega
  have := plc_right x y n (q1 - 1) (y.size - 0) 0 (1, 1)
  rw [e] at this
  unfold plcAt
  rw [ByteArray.size_append, show x.size + y.size - x.size = y.size - 0 by omega]
  exact this
theorem lineEnd_of (s : ByteArray) : lineEnd (s ++ ⟨#[10]⟩) := by
  have hz : (⟨#[10]⟩ : ByteArray).size = 1 := rfl
  refine ⟨by rw [ByteArray.size_append, hz]; omega, ?_⟩
  have : (s ++ ⟨#[10]⟩).size - 1 = s.size + 0 := by rw [ByteArray.size_append, hz]; omega
  rw [this, get_right]
  rfl
end Go.Proofs.YtpdeflgmldomeaaDoor
