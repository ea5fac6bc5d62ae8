/- Digests: a program's bytes, by the program and by the document; sums. Contracts off the printed formulas. -/
import Derived.Test.YthldnpmfelniiaaDoorzXQ9
import Derived.Test.YthldnpmfelniiaaDoorzXV1w
import Derived.Laws.BytesArg
import Derived.Lib.SlBytesConst
import Derived.Laws.BitsLemmas
namespace Go.Proofs.YthldnpmfelniiaaDoor
open Go.RowKit
set_option maxRecDepth 100000
set_option maxHeartbeats 2000000
def be8 (n : Int) : List Int := (List.range 8).map fun (j : Nat) => IntKind.wrap .u8 (shrI .u64 (IntKind.wrap .u64 n) (56 - 8 * (j : Int)))
theorem a5v (n : Int) : (be8 n).length = 8 := by unfold be8; rw [List.length_map, List.length_range]
def b8M (a b c d : Int) : List Int := [IntKind.wrap .u8 a, IntKind.wrap .u8 b, IntKind.wrap .u8 c, IntKind.wrap .u8 d]
def nodeB (l k n : Int) (s : ByteArray) (a b c d : Int) : List Int := [l, IntKind.wrap .u8 k] ++ be8 n ++ (sbytes s ++ [0]) ++ b8M a b c d
theorem a9L (l k n : Int) (s : ByteArray) (a b c d : Int) : (nodeB l k n s a b c d).length = 15 + s.size := by
  unfold nodeB b8M
  simp only [List.length_append, a5v, a0U, List.length_cons, List.length_nil]; omega
def labB : Lab → List Int
  | .decl z s => nodeB 68 0 z s 0 0 0 0
  | .stmt k s e c t f => nodeB 83 k 0 s c e t f
  | .cond k o e p => nodeB 67 k o ⟨#[]⟩ p e 0 0
  | .expr k n s a => nodeB 69 k n s 0 a 0 0
mutual
def bT : PT → List Int
  | .mk l cs => labB l ++ bTs cs
def bTs : List PT → List Int
  | [] => []
  | t :: ts => bT t ++ bTs ts
end
theorem a0D : ∀ a b : List PT, bTs (a ++ b) = bTs a ++ bTs b
  | [], b => by rw [List.nil_append, bTs, List.nil_append]
  | t :: a, b => by rw [List.cons_append, bTs, bTs, a0D a b, List.append_assoc]
theorem c7H {ts : List PT} {i : Nat} {t : PT} (h : ts[i]? = some t) : bTs (ts.take (i + 1)) = bTs (ts.take i) ++ bT t := by
  rw [V5 h, a0D, bTs, bTs, List.append_nil]
theorem f9D (ts : List PT) (i : Nat) : (bTs (ts.take i)).length ≤ (bTs ts).length := by
  have := a0D (ts.take i) (ts.drop i)
  rw [List.take_append_drop] at this
  rw [this, List.length_append]; omega
theorem a5K {ts : List PT} {i : Nat} {t : PT} (h : ts[i]? = some t) : (bTs (ts.take i)).length + (bT t).length ≤ (bTs ts).length := by
  have := f9D ts (i + 1)
  rw [c7H h, List.length_append] at this; exact this
theorem b1T (l : Lab) : (labB l).length = 15 + (nameL l).1.size := by
  cases l <;> exact a9L _ _ _ _ _ _ _ _
mutual
theorem f9E : ∀ t : PT, Sm t → (bT t).length ≤ 1048591 * cT t
  | .mk l cs, h => by
    cases h with
    | mk h1 h2 =>
      rw [bT, cT, List.length_append, b1T]
      have := c1T cs h2
      simp only [sml] at h1
      omega
theorem c1T : ∀ ts : List PT, (∀ t ∈ ts, Sm t) → (bTs ts).length ≤ 1048591 * cTs ts
  | [], _ => by rw [bTs, cTs]; exact Nat.le_refl _
  | t :: ts, h => by
    rw [bTs, cTs, List.length_append]
    have := f9E t (h t List.mem_cons_self)
    have := c1T ts fun u hu => h u (List.mem_cons_of_mem _ hu)
    omega
end
theorem a5w {n m : Nat} (h : n + m ≤ big) : (n + m) * 2 ≤ 140737488355328 := by simp only [big] at h; omega
section
variable {H : Hp}
theorem gloop {xs : List Int} {out : List Int} {body : Int × List Int → Hp → (Int × List Int → Hp → Prop) → Prop}
    (hb : ∀ (i : Int) (cs : List Int) (next : Int × List Int → Hp → Prop), 0 ≤ i → i ≤ xs.length → cs = out ++ xs.take i.toNat → (∀ x, xs[i.toNat]? = some x → next (i + 1, cs ++ [x]) H) → (xs.length ≤ i → cs = out ++ xs) → body (i, cs) H next) : TL ((0, out) : Int × List Int) H body := by
  refine Z4 (fun (q : Int × List Int) H' => 0 ≤ q.1 ∧ q.1 ≤ xs.length ∧ H' = H ∧ q.2 = out ++ xs.take q.1.toNat) (fun q => (xs.length - q.1).toNat) ⟨Int.le_refl _, by simp, rfl, by simp⟩ ?_
  rintro ⟨i, cs⟩ H1 next ⟨i0, i1, rfl, hs⟩ hn
  dsimp only at i0 i1 hs ⊢
  refine hb i cs next i0 i1 hs (fun x hx => ?_) fun he => ?_
  · have := m9 hx
    refine hn _ _ ⟨by dsimp only; omega, by dsimp only; omega, rfl, ?_⟩ (by dsimp only; omega)
    dsimp only
    rw [show (i + 1).toNat = i.toNat + 1 by omega, V5 hx, hs, List.append_assoc]
  · rw [hs, List.take_of_length_le (by omega)]
theorem gloop' {xs : List Int} {out : List Int} {body : List Int × Int → Hp → (List Int × Int → Hp → Prop) → Prop}
    (hb : ∀ (i : Int) (cs : List Int) (next : List Int × Int → Hp → Prop), 0 ≤ i → i ≤ xs.length → cs = out ++ xs.take i.toNat → (∀ x, xs[i.toNat]? = some x → next (cs ++ [x], i + 1) H) → (xs.length ≤ i → cs = out ++ xs) → body (cs, i) H next) : TL ((out, 0) : List Int × Int) H body := by
  refine Z4 (fun (q : List Int × Int) H' => 0 ≤ q.2 ∧ q.2 ≤ xs.length ∧ H' = H ∧ q.1 = out ++ xs.take q.2.toNat) (fun q => (xs.length - q.2).toNat) ⟨Int.le_refl _, by simp, rfl, by simp⟩ ?_
  rintro ⟨cs, i⟩ H1 next ⟨i0, i1, rfl, hs⟩ hn
  dsimp only at i0 i1 hs ⊢
  refine hb i cs next i0 i1 hs (fun x hx => ?_) fun he => ?_
  · have := m9 hx
    refine hn _ _ ⟨by dsimp only; omega, by dsimp only; omega, rfl, ?_⟩ (by dsimp only; omega)
    dsimp only
    rw [show (i + 1).toNat = i.toNat + 1 by omega, V5 hx, hs, List.append_assoc]
  · rw [hs, List.take_of_length_le (by omega)]
theorem d5z {n : Int} {j : Nat} (hj : j < 8) : (be8 n)[j]? = some (IntKind.wrap .u8 (shrI .u64 (IntKind.wrap .u64 n) (56 - 8 * (j : Int)))) := by
  unfold be8
  rw [List.getElem?_map, List.getElem?_range hj]; rfl
theorem c8G {a b c d : Int} {j : Nat} (hj : j < 4) : (b8M a b c d)[j]? = some (IntKind.wrap .u8 (([a, b, c, d] : List Int).getD j 0)) := by
  match j, hj with
  | 0, _ => rfl
  | 1, _ => rfl
  | 2, _ => rfl
  | 3, _ => rfl
theorem d5A {s : ByteArray} {j : Nat} (hj : j < s.size) : (sbytes s)[j]? = some (((s.get! j).toNat : Nat) : Int) := by
  unfold sbytes
  have hj' : j < s.data.size := hj
  have e : s.get! j = s.data[j] := by
    show s.data[j]! = _
    rw [getElem!_pos s.data j hj']
  rw [List.getElem?_map, Array.getElem?_toList, Array.getElem?_eq_getElem hj', e]
  rfl
theorem b7m {l k n : Int} {s : ByteArray} {a b c d : Int} {z : Sl} {out : List Int} (hb : out.length + (15 + s.size) ≤ big) {K : Sl → List Int → Hp → Prop} (h : ∀ z, K z (out ++ nodeB l k n s a b c d) H) : N6 l k n s ⟨a, b, c, d⟩ z out H K := by
  refine b1Z _ _ _ _ _ _ _ ?_
  unfold a1C
  refine ⟨a5w (by simp only [List.length_cons, List.length_nil]; omega), ?_⟩
  refine gloop (xs := be8 n) fun i cs next i0 i1 hcs hn hf => ?_
  rw [a5v] at i1 hf
  have hl : cs.length = out.length + 2 + i.toNat := by rw [hcs]; simp only [List.length_append, List.length_cons, List.length_nil, List.length_take, a5v]; omega
  unfold a0g
  dsimp only
  refine ⟨fun hc => ?_, fun hc => ?_⟩
  · have e1 : IntKind.wrap .i64 (56 - (IntKind.wrap .i64 (8 * i))) = 56 - 8 * (i.toNat : Int) := by
      rw [J5 (a := 8 * i) ⟨by omega, by omega⟩, J5 ⟨by omega, by omega⟩]; omega
    rw [e1, r5 i0 (by omega)]
    exact ⟨by omega, a5w (by simp only [List.length_cons, List.length_nil]; omega), hn _ (d5z (by omega))⟩
  · rw [hf (by omega)] at hl ⊢
    clear hn hf next hcs cs hc hl
    unfold a0f
    have e0 : ((out ++ [l, IntKind.wrap .u8 k]) ++ be8 n).length = out.length + 10 := by simp only [List.length_append, List.length_cons, List.length_nil, a5v]
    refine ⟨a5w (by rw [e0]; omega), a5w (by rw [List.length_append, e0, a0U]; simp only [List.length_cons, List.length_nil]; omega), ?_⟩
    refine gloop (xs := b8M a b c d) fun i cs next i0 i1 hcs hn hf => ?_
    have e4 : (b8M a b c d).length = 4 := rfl
    rw [e4] at i1 hf
    have hl : cs.length = out.length + 11 + s.size + i.toNat := by rw [hcs]; simp only [List.length_append, List.length_cons, List.length_nil, List.length_take, a5v, a0U, e4]; omega
    unfold a0e
    dsimp only
    refine ⟨fun hc => ⟨i0, hc, a5w (by simp only [List.length_cons, List.length_nil]; omega), ?_⟩, fun hc => ?_⟩
    · rw [r5 i0 (by omega)]
      exact hn _ (c8G (by omega))
    · rw [hf (by omega)]
      have := h (Sl.mk none 0 0)
      unfold nodeB at this
      simp only [List.append_assoc] at this ⊢
      exact this
theorem b4Q {l k n : Int} {s : ByteArray} {a b c d : Nat} {out : List Int} (hb : out.length + (15 + s.size) ≤ big) {K : List Int → Hp → Prop} (h : K (out ++ nodeB l k n s a b c d) H) : L8 out l k (IntKind.wrap .u64 n) s ⟨a, b, c, d⟩ H K := by
  refine b0w _ _ _ _ _ _ ?_
  unfold a0M
  refine ⟨a5w (by simp only [List.length_cons, List.length_nil]; omega), ?_⟩
  refine Z4 (fun (q : List Int × Int) H' => -1 ≤ q.2 ∧ q.2 ≤ 7 ∧ H' = H ∧ q.1 = (out ++ [l, IntKind.wrap .u8 k]) ++ (be8 n).take (7 - q.2).toNat) (fun q => (q.2 + 1).toNat) ⟨by dsimp only; omega, Int.le_refl _, rfl, by simp⟩ ?_
  rintro ⟨cs, i⟩ H1 next ⟨i0, i1, rfl, hcs⟩ hn
  dsimp only at i0 i1 hcs ⊢
  have hl : cs.length = out.length + 2 + (7 - i).toNat := by rw [hcs]; simp only [List.length_append, List.length_cons, List.length_nil, List.length_take, a5v]; omega
  unfold X4
  refine ⟨fun hc => ?_, fun hc => ?_⟩
  · have e1 : IntKind.wrap .i64 (8 * i) = 56 - 8 * (((7 - i).toNat : Nat) : Int) := by rw [J5 ⟨by omega, by omega⟩]; omega
    rw [e1, J5 (a := i - 1) ⟨by omega, by omega⟩]
    refine ⟨by omega, a5w (by simp only [List.length_cons, List.length_nil]; omega), hn _ _ ⟨by dsimp only; omega, by dsimp only; omega, rfl, ?_⟩ (by dsimp only; omega)⟩
    dsimp only
    rw [show (7 - (i - 1)).toNat = (7 - i).toNat + 1 by omega, V5 (d5z (by omega)), hcs, List.append_assoc]
  · have hcs' : cs = (out ++ [l, IntKind.wrap .u8 k]) ++ be8 n := by rw [hcs, List.take_of_length_le (by rw [a5v]; omega)]
    subst hcs'
    clear hn hcs hc next hl
    unfold X2
    refine gloop' (xs := sbytes s) fun i cs next i0 i1 hcs hn hf => ?_
    rw [a0U] at i1 hf
    have hl : cs.length = out.length + 10 + i.toNat := by rw [hcs]; simp only [List.length_append, List.length_cons, List.length_nil, List.length_take, a5v, a0U]; omega
    unfold X1
    dsimp only
    refine ⟨fun hc => ⟨i0, hc, a5w (by simp only [List.length_cons, List.length_nil]; omega), ?_⟩, fun hc => ?_⟩
    · rw [r5 i0 (by simp only [big] at hb; omega)]
      exact hn _ (d5A (by omega))
    · rw [hf (by omega)] at hl ⊢
      clear hn hf next hcs cs hc
      unfold X0
      refine ⟨a5w (by simp only [List.length_append, List.length_cons, List.length_nil, a5v, a0U]; omega), ?_⟩
      refine gloop' (xs := b8M a b c d) fun i cs next i0 i1 hcs hn hf => ?_
      have e4 : (b8M a b c d).length = 4 := rfl
      rw [e4] at i1 hf
      have hl : cs.length = out.length + 11 + s.size + i.toNat := by rw [hcs]; simp only [List.length_append, List.length_cons, List.length_nil, List.length_take, a5v, a0U, e4]; omega
      unfold W9
      dsimp only
      refine ⟨fun hc => ⟨i0, hc, by decide, a5w (by simp only [List.length_cons, List.length_nil]; omega), ?_⟩, fun hc => ?_⟩
      · rw [r5 i0 (by omega)]
        have e : IntKind.wrap .u8 (Int.tmod (([(a : Int), b, c, d] : List Int).getD i.toNat 0) 256) = IntKind.wrap .u8 (([(a : Int), b, c, d] : List Int).getD i.toNat 0) := by
          have h0 : 0 ≤ (([(a : Int), b, c, d] : List Int).getD i.toNat 0) := by
            obtain ⟨j, hj⟩ : ∃ j, i.toNat = j := ⟨_, rfl⟩
            rw [hj]
            match j, (show j < 4 by omega) with
            | 0, _ => exact Int.natCast_nonneg a
            | 1, _ => exact Int.natCast_nonneg b
            | 2, _ => exact Int.natCast_nonneg c
            | 3, _ => exact Int.natCast_nonneg d
          rw [Int.tmod_eq_emod_of_nonneg h0, IntKind.wrap_u8, IntKind.wrap_u8]; omega
        rw [e]
        exact hn _ (c8G (by omega))
      · rw [hf (by omega)]
        unfold W8
        unfold nodeB at h
        simp only [List.append_assoc] at h ⊢
        exact h
theorem bloop {ts : List PT} {out : List Int} {body : Int × List Int → Hp → (Int × List Int → Hp → Prop) → Prop}
    (hb : ∀ (i : Int) (cs : List Int) (next : Int × List Int → Hp → Prop), 0 ≤ i → i ≤ ts.length → cs = out ++ bTs (ts.take i.toNat) → (∀ t, ts[i.toNat]? = some t → next (i + 1, cs ++ bT t) H) → (ts.length ≤ i → cs = out ++ bTs ts) → body (i, cs) H next) : TL ((0, out) : Int × List Int) H body := by
  refine Z4 (fun (q : Int × List Int) H' => 0 ≤ q.1 ∧ q.1 ≤ ts.length ∧ H' = H ∧ q.2 = out ++ bTs (ts.take q.1.toNat)) (fun q => (ts.length - q.1).toNat) ⟨Int.le_refl _, by simp, rfl, by simp [bTs]⟩ ?_
  rintro ⟨i, cs⟩ H1 next ⟨i0, i1, rfl, hs⟩ hn
  dsimp only at i0 i1 hs ⊢
  refine hb i cs next i0 i1 hs (fun t ht => ?_) fun he => ?_
  · have := m9 ht
    refine hn _ _ ⟨by dsimp only; omega, by dsimp only; omega, rfl, ?_⟩ (by dsimp only; omega)
    dsimp only
    rw [show (i + 1).toNat = i.toNat + 1 by omega, c7H ht, hs, List.append_assoc]
  · rw [hs, List.take_of_length_le (by omega)]
theorem bloop' {ts : List PT} {out : List Int} {body : List Int × Int → Hp → (List Int × Int → Hp → Prop) → Prop}
    (hb : ∀ (i : Int) (cs : List Int) (next : List Int × Int → Hp → Prop), 0 ≤ i → i ≤ ts.length → cs = out ++ bTs (ts.take i.toNat) → (∀ t, ts[i.toNat]? = some t → next (cs ++ bT t, i + 1) H) → (ts.length ≤ i → cs = out ++ bTs ts) → body (cs, i) H next) : TL ((out, 0) : List Int × Int) H body := by
  refine Z4 (fun (q : List Int × Int) H' => 0 ≤ q.2 ∧ q.2 ≤ ts.length ∧ H' = H ∧ q.1 = out ++ bTs (ts.take q.2.toNat)) (fun q => (ts.length - q.2).toNat) ⟨Int.le_refl _, by simp, rfl, by simp [bTs]⟩ ?_
  rintro ⟨cs, i⟩ H1 next ⟨i0, i1, rfl, hs⟩ hn
  dsimp only at i0 i1 hs ⊢
  refine hb i cs next i0 i1 hs (fun t ht => ?_) fun he => ?_
  · have := m9 ht
    refine hn _ _ ⟨by dsimp only; omega, by dsimp only; omega, rfl, ?_⟩ (by dsimp only; omega)
    dsimp only
    rw [show (i + 1).toNat = i.toNat + 1 by omega, c7H ht, hs, List.append_assoc]
  · rw [hs, List.take_of_length_le (by omega)]
theorem c7I {e : k6} {t : PT} (he : EH H e t) {z : Sl} {out : List Int} (hb : out.length + (bT t).length ≤ big) {K : Sl → List Int → Hp → Prop} (h : ∀ z, K z (out ++ bT t) H) : Y1 e z out H K := by
  induction he generalizing z out K with
  | @mk e xs ts hs hxb hl _ ih =>
    refine b2a _ _ _ ?_
    have hn : (e.o8.n : Int) = (ts.length : Int) := by have := hs.1; omega
    rw [bT, List.length_append] at hb
    have h15 := b1T (.expr e.c6 e.J6 e.k9 ts.length)
    have hnm : (nameL (.expr e.c6 e.J6 e.k9 ts.length)).1 = e.k9 := rfl
    rw [hnm] at h15
    unfold a1D
    refine b7m (by omega) fun z => ?_
    rw [hn]
    change TL ((0, out ++ labB (.expr e.c6 e.J6 e.k9 ts.length)) : Int × List Int) H _
    refine bloop (ts := ts) fun i cs next i0 i1 hcs hk hf => ?_
    unfold a0h
    dsimp only
    refine ⟨fun hc => ?_, fun hc => ?_⟩
    · obtain ⟨x, hx, hE⟩ := hs.get i0 (show i < (e.o8.n : Int) by omega)
      obtain ⟨t, ht⟩ := C4 (l := ts) (i := i.toNat) (by have := m9 hx; omega)
      have := a5K ht
      refine ⟨i0, by omega, x, hE, ih _ x t hx ht (by rw [hcs, List.length_append, List.length_append]; omega) fun z => ?_⟩
      rw [r5 i0 (by simp only [big] at hxb; have := m9 hx; omega)]
      exact hk t ht
    · rw [hf (by omega), List.append_assoc]
      have := h (Sl.mk none 0 0)
      rw [bT] at this; exact this
theorem d9A {e : k3} {t : PT} (he : CH H e t) {z : Sl} {out : List Int} (hb : out.length + (bT t).length ≤ big) {K : Sl → List Int → Hp → Prop} (h : ∀ z, K z (out ++ bT t) H) : a1v e z out H K := by
  induction he generalizing z out K with
  | @mk e xs ts ys us hs hxb hr hc hcb hcl _ ih =>
    refine b2b _ _ _ ?_
    have r0 := hr.1
    have hn : (e.d7.n : Int) = (ts.length : Int) := by have := hs.1; omega
    have hm : (e.l9.n : Int) = (us.length : Int) := by have := hc.1; omega
    rw [bT, List.length_append, a0D, List.length_append] at hb
    have h15 := b1T (.cond e.c6 e.fOp ts.length us.length)
    have hnm : (nameL (.cond e.c6 e.fOp ts.length us.length)).1 = ⟨#[]⟩ := rfl
    rw [hnm] at h15
    unfold a1E
    refine b7m (by omega) fun z => ?_
    rw [hn, hm]
    change TL ((0, out ++ labB (.cond e.c6 e.fOp ts.length us.length)) : Int × List Int) H _
    refine bloop (ts := ts) fun i cs next i0 i1 hcs hk hf => ?_
    unfold a0k
    dsimp only
    refine ⟨fun hq => ?_, fun hq => ?_⟩
    · obtain ⟨x, hx, hE⟩ := hs.get i0 (show i < (e.d7.n : Int) by omega)
      obtain ⟨t, ht⟩ := C4 (l := ts) (i := i.toNat) (by have := m9 hx; omega)
      have := a5K ht
      refine ⟨i0, by omega, x, hE, c7I (hr.2 _ x t hx ht) (by rw [hcs, List.length_append, List.length_append]; omega) fun z => ?_⟩
      rw [r5 i0 (by simp only [big] at hxb; have := m9 hx; omega)]
      exact hk t ht
    · rw [hf (by omega)]
      clear hk hf next hcs cs hq
      unfold a0j
      rw [hm]
      refine bloop (ts := us) fun i cs next i0 i1 hcs hk hf => ?_
      unfold a0i
      dsimp only
      refine ⟨fun hq => ?_, fun hq => ?_⟩
      · obtain ⟨x, hx, hE⟩ := hc.get i0 (show i < (e.l9.n : Int) by omega)
        obtain ⟨t, ht⟩ := C4 (l := us) (i := i.toNat) (by have := m9 hx; omega)
        have := a5K ht
        refine ⟨i0, by omega, x, hE, ih _ x t hx ht (by rw [hcs, List.length_append, List.length_append, List.length_append]; omega) fun z => ?_⟩
        rw [r5 i0 (by simp only [big] at hcb; have := m9 hx; omega)]
        exact hk t ht
      · rw [hf (by omega), List.append_assoc, List.append_assoc]
        have := h (Sl.mk none 0 0)
        rw [bT, a0D] at this; exact this
def StB (H : Hp) (x : i5) (t : PT) : Prop := ∀ (s12 : Sl) (s13 i : Int) (cs : List Int) (n1 : Int × List Int → Hp → Prop) (K : Sl → List Int → Hp → Prop), cs.length + (bTs t.kids).length ≤ big → n1 (IntKind.wrap .i64 (i + 1), cs ++ bTs t.kids) H →
  TL ((0, cs) : Int × List Int) H fun (s : Int × List Int) H n6 => Q7 s12 s13 i x.i4 (x.i4.n : Int) x s.1 s.2 H n1 n6 K
theorem b6J {s : Sl} {xs : List i5} {ts : List PT} (hs : SlH H 6 d6 s xs) (hxb : xs.length ≤ big) (hl : xs.length = ts.length) (hr : ∀ (i : Nat) (x : i5) (t : PT), xs[i]? = some x → ts[i]? = some t → SH H x t) (ih : ∀ (i : Nat) (x : i5) (t : PT), xs[i]? = some x → ts[i]? = some t → StB H x t)
    {z : Sl} {out : List Int} (hb : out.length + (bTs ts).length ≤ big) {K : Sl → List Int → Hp → Prop} (h : ∀ z, K z (out ++ bTs ts) H) : Y2 s z out H K := by
  refine b2c _ _ _ ?_
  unfold a1F
  have n1 := hs.1
  refine bloop (ts := ts) fun i cs next i0 i1 hcs hk hf => ?_
  unfold a0q
  dsimp only
  refine ⟨fun hq => ?_, fun hq => ?_⟩
  · obtain ⟨x, hx, hE⟩ := hs.get i0 hq
    obtain ⟨t, ht⟩ := C4 (l := ts) (i := i.toNat) (by have := m9 hx; omega)
    have hin := a5K ht
    have hut : bT t = labB t.lab ++ bTs t.kids := by cases t; rw [bT]; rfl
    rw [hut, List.length_append] at hin
    have hlab : labB t.lab = nodeB 83 x.c6 0 x.k9 (x.i4.n : Int) (x.d7.n : Int) (x.s6.n : Int) (x.q8.n : Int) := by
      cases hr _ x t hx ht with
      | mk hs hb hr hc hcb hcr ha hab hal har hbs hbb hbl hbr =>
        have a1 := hs.1; have a2 := hr.1; have a3 := hc.1; have a4 := hcr.1; have a5 := ha.1; have a6 := hbs.1
        show nodeB 83 _ 0 _ _ _ _ _ = _
        congr 1 <;> omega
    have h15 := a9L 83 x.c6 0 x.k9 (x.i4.n : Int) (x.d7.n : Int) (x.s6.n : Int) (x.q8.n : Int)
    rw [← hlab] at h15
    have hcl : cs.length = out.length + (bTs (ts.take i.toNat)).length := by rw [hcs, List.length_append]
    have hkt := hk t ht
    rw [hut, ← List.append_assoc, ← r5 i0 (by simp only [big] at hxb; have := m9 hx; omega)] at hkt
    refine ⟨i0, hq, x, hE, b7m (by omega) fun z => ?_⟩
    rw [← hlab]
    exact ih _ x t hx ht _ _ _ _ _ _ (by rw [List.length_append]; omega) hkt
  · rw [hf (by omega)]
    exact h _
theorem f9F {x : i5} {t : PT} (hx : SH H x t) : StB H x t := by
  induction hx with
  | @mk e xs ts ys us zs bs vs ws hs hb hr hc hcb hcr ha hab hal har hbs hbb hbl hbr iha ihb =>
    intro s12 s13 i9 cs0 n1 K hlen h
    change n1 (_, cs0 ++ bTs (us ++ (ts ++ (vs ++ ws)))) H at h
    change cs0.length + (bTs (us ++ (ts ++ (vs ++ ws)))).length ≤ big at hlen
    rw [a0D, a0D, a0D] at h hlen
    simp only [List.length_append] at hlen
    have r0 := hr.1
    have r1 := hcr.1
    refine bloop (ts := us) fun i cs next i0 i1 hcs hk hf => ?_
    unfold Q7
    dsimp only
    refine ⟨fun hq => ?_, fun hq => ?_⟩
    · obtain ⟨x, hx, hE⟩ := hc.get i0 hq
      obtain ⟨t, ht⟩ := C4 (l := us) (i := i.toNat) (by have := m9 hx; omega)
      have := a5K ht
      refine ⟨i0, hq, x, hE, d9A (hcr.2 _ x t hx ht) (by rw [hcs, List.length_append]; omega) fun z => ?_⟩
      rw [r5 i0 (by simp only [big] at hcb; have := m9 hx; omega)]
      exact hk t ht
    · rw [hf (by have := hc.1; omega)]
      clear hk hf next hcs cs hq
      unfold a0p
      refine bloop (ts := ts) fun i cs next i0 i1 hcs hk hf => ?_
      unfold a0o
      dsimp only
      refine ⟨fun hq => ?_, fun hq => ?_⟩
      · obtain ⟨x, hx, hE⟩ := hs.get i0 hq
        obtain ⟨t, ht⟩ := C4 (l := ts) (i := i.toNat) (by have := m9 hx; omega)
        have := a5K ht
        refine ⟨i0, hq, x, hE, c7I (hr.2 _ x t hx ht) (by rw [hcs, List.length_append, List.length_append]; omega) fun z => ?_⟩
        rw [r5 i0 (by simp only [big] at hb; have := m9 hx; omega)]
        exact hk t ht
      · rw [hf (by have := hs.1; omega)]
        unfold a0m
        refine b6J ha hab hal har iha (by simp only [List.length_append]; omega) fun z => ?_
        refine b6J hbs hbb hbl hbr ihb (by simp only [List.length_append]; omega) fun z => ?_
        unfold a0l
        simp only [List.append_assoc]
        exact h
def bytesOf (q : PP) : List Int := if toldS q.nodes = 0 then bTs q.nodes else []
theorem b8N {q : PP} (hsm : q.Sm) (h : toldS q.nodes = 0) : (bTs q.nodes).length ≤ big := by
  have h1 := c1T q.nodes hsm
  have h2 := e4q (d8X h).1
  simp only [big]; omega
theorem b7y {q : PP} (hsm : q.Sm) : (bytesOf q).length ≤ big := by
  unfold bytesOf
  split
  · rename_i h; exact b8N hsm h
  · exact Nat.zero_le _
theorem c0E (l : List E8) {i : Nat} {x : E8} (h : l[i]? = some x) : (l.map dT)[i]? = some (dT x) := by rw [List.getElem?_map, h]; rfl
theorem d3c (x : E8) : bT (dT x) = nodeB 68 0 x.I8 x.k9 0 0 0 0 := by unfold dT; rw [bT, bTs, List.append_nil]; rfl
theorem b8O (hT : TabsH H) {p : k5} {q : PP} (hp : PH H p q) (hsm : q.Sm) {K : Sl → Int → Hp → Prop} (h : ∀ (s : Sl) (H' : Hp), Hle H H' → SlH H' 1 g8 s (bytesOf q) → K s (toldS q.nodes) H') : a2t p H K := by
  refine b3u _ ?_
  unfold a2y
  refine d7t hT hp hsm fun H1 l1 => ?_
  rw [show vEnd (allV q) = toldS q.nodes from e4p _]
  refine ⟨fun hne => ?_, fun h0 => ?_⟩
  · refine h _ H1 l1 ?_
    unfold bytesOf
    rw [if_neg hne]; exact SlH.nil _ _ _
  have hlen := b8N hsm h0
  unfold PP.nodes at hlen
  rw [a0D, List.length_append] at hlen
  obtain ⟨hd, hbd, xs, hsl, hxb, hr⟩ := hp.le l1
  have n1 := hd.1
  refine bloop (ts := q.decls.map dT) fun i cs next i0 i1 hcs hk hf => ?_
  rw [List.length_map] at i1 hf
  unfold a1k
  dsimp only
  refine ⟨fun hq => ?_, fun hq => ?_⟩
  · obtain ⟨x, hx, hE⟩ := hd.get i0 hq
    have ht := c0E _ hx
    have hin := a5K ht
    have h15 := a9L 68 0 x.I8 x.k9 0 0 0 0
    rw [d3c] at hin
    refine ⟨i0, hq, x, hE, b7m (by rw [hcs, List.nil_append]; omega) fun z => ?_⟩
    rw [r5 i0 (by simp only [big] at hbd; have := m9 hx; omega), ← d3c]
    exact hk _ ht
  · rw [hf (by omega), List.nil_append]
    unfold a1j
    refine b6J hsl hxb hr.1 hr.2 (fun i x t a b => f9F (hr.2 i x t a b)) (by omega) fun z => ?_
    intro s2 H2 l2 hS2 _
    have := h s2 H2 (l1.trans l2) (by
      unfold bytesOf PP.nodes
      rw [if_pos (by exact h0), a0D]; exact hS2)
    rw [h0] at this; exact this
theorem c2l {e : k6} {t : PT} (he : EH H e t) {out : List Int} (hb : out.length + (bT t).length ≤ big) {K : List Int → Hp → Prop} (h : K (out ++ bT t) H) : S2 out e H K := by
  induction he generalizing out K with
  | @mk e xs ts hs hxb hl _ ih =>
    refine b0x _ _ ?_
    have hn : (e.o8.n : Int) = (ts.length : Int) := by have := hs.1; omega
    rw [bT, List.length_append] at hb
    have h15 := b1T (.expr e.c6 e.J6 e.k9 ts.length)
    have hnm : (nameL (.expr e.c6 e.J6 e.k9 ts.length)).1 = e.k9 := rfl
    rw [hnm] at h15
    unfold a0N
    rw [hn]
    refine b4Q (a := 0) (b := ts.length) (c := 0) (d := 0) (by omega) ?_
    change TL ((out ++ labB (.expr e.c6 e.J6 e.k9 ts.length), 0) : List Int × Int) H _
    refine bloop' (ts := ts) fun i cs next i0 i1 hcs hk hf => ?_
    unfold X6
    dsimp only
    refine ⟨fun hc => ?_, fun hc => ?_⟩
    · obtain ⟨x, hx, hE⟩ := hs.get i0 (show i < (e.o8.n : Int) by omega)
      obtain ⟨t, ht⟩ := C4 (l := ts) (i := i.toNat) (by have := m9 hx; omega)
      have := a5K ht
      refine ⟨i0, by omega, x, hE, ih _ x t hx ht (by rw [hcs, List.length_append, List.length_append]; omega) ?_⟩
      rw [r5 i0 (by simp only [big] at hxb; have := m9 hx; omega)]
      exact hk t ht
    · rw [hf (by omega), List.append_assoc]
      unfold X5
      rw [bT] at h; exact h
theorem d5B {e : k3} {t : PT} (he : CH H e t) {out : List Int} (hb : out.length + (bT t).length ≤ big) {K : List Int → Hp → Prop} (h : K (out ++ bT t) H) : a0F out e H K := by
  induction he generalizing out K with
  | @mk e xs ts ys us hs hxb hr hc hcb hcl _ ih =>
    refine b0y _ _ ?_
    have r0 := hr.1
    have hn : (e.d7.n : Int) = (ts.length : Int) := by have := hs.1; omega
    have hm : (e.l9.n : Int) = (us.length : Int) := by have := hc.1; omega
    rw [bT, List.length_append, a0D, List.length_append] at hb
    have h15 := b1T (.cond e.c6 e.fOp ts.length us.length)
    have hnm : (nameL (.cond e.c6 e.fOp ts.length us.length)).1 = ⟨#[]⟩ := rfl
    rw [hnm] at h15
    unfold a0O
    rw [hn, hm]
    refine b4Q (a := us.length) (b := ts.length) (c := 0) (d := 0) (by omega) ?_
    change TL ((out ++ labB (.cond e.c6 e.fOp ts.length us.length), 0) : List Int × Int) H _
    refine bloop' (ts := ts) fun i cs next i0 i1 hcs hk hf => ?_
    unfold Y0
    dsimp only
    refine ⟨fun hq => ?_, fun hq => ?_⟩
    · obtain ⟨x, hx, hE⟩ := hs.get i0 (show i < (e.d7.n : Int) by omega)
      obtain ⟨t, ht⟩ := C4 (l := ts) (i := i.toNat) (by have := m9 hx; omega)
      have := a5K ht
      refine ⟨i0, by omega, x, hE, c2l (hr.2 _ x t hx ht) (by rw [hcs, List.length_append, List.length_append]; omega) ?_⟩
      rw [r5 i0 (by simp only [big] at hxb; have := m9 hx; omega)]
      exact hk t ht
    · rw [hf (by omega)]
      clear hk hf next hcs cs hq
      unfold X9
      refine bloop' (ts := us) fun i cs next i0 i1 hcs hk hf => ?_
      unfold X8
      dsimp only
      refine ⟨fun hq => ?_, fun hq => ?_⟩
      · obtain ⟨x, hx, hE⟩ := hc.get i0 (show i < (e.l9.n : Int) by omega)
        obtain ⟨t, ht⟩ := C4 (l := us) (i := i.toNat) (by have := m9 hx; omega)
        have := a5K ht
        refine ⟨i0, by omega, x, hE, ih _ x t hx ht (by rw [hcs, List.length_append, List.length_append, List.length_append]; omega) ?_⟩
        rw [r5 i0 (by simp only [big] at hcb; have := m9 hx; omega)]
        exact hk t ht
      · rw [hf (by omega), List.append_assoc, List.append_assoc]
        unfold X7
        rw [bT, a0D] at h; exact h
def StR (H : Hp) (x : i5) (t : PT) : Prop := ∀ (s1 : Sl) (i : Int) (cs : List Int) (n2 : List Int × Int → Hp → Prop) (K : List Int → Hp → Prop), cs.length + (bTs t.kids).length ≤ big → n2 (cs ++ bTs t.kids, IntKind.wrap .i64 (i + 1)) H →
  TL ((cs, 0) : List Int × Int) H fun (s : List Int × Int) H n7 => M6 s1 i x s.1 s.2 H n2 n7 K
theorem b4R {s : Sl} {xs : List i5} {ts : List PT} (hs : SlH H 6 d6 s xs) (hxb : xs.length ≤ big) (hl : xs.length = ts.length) (hr : ∀ (i : Nat) (x : i5) (t : PT), xs[i]? = some x → ts[i]? = some t → SH H x t) (ih : ∀ (i : Nat) (x : i5) (t : PT), xs[i]? = some x → ts[i]? = some t → StR H x t)
    {out : List Int} (hb : out.length + (bTs ts).length ≤ big) {K : List Int → Hp → Prop} (h : K (out ++ bTs ts) H) : Q5 out s H K := by
  refine b0a _ _ ?_
  unfold a0r
  have n1 := hs.1
  refine bloop' (ts := ts) fun i cs next i0 i1 hcs hk hf => ?_
  unfold V0
  dsimp only
  refine ⟨fun hq => ?_, fun hq => ?_⟩
  · obtain ⟨x, hx, hE⟩ := hs.get i0 hq
    obtain ⟨t, ht⟩ := C4 (l := ts) (i := i.toNat) (by have := m9 hx; omega)
    have hin := a5K ht
    have hut : bT t = labB t.lab ++ bTs t.kids := by cases t; rw [bT]; rfl
    rw [hut, List.length_append] at hin
    have hlab : labB t.lab = nodeB 83 x.c6 0 x.k9 (x.i4.n : Int) (x.d7.n : Int) (x.s6.n : Int) (x.q8.n : Int) := by
      cases hr _ x t hx ht with
      | mk hs hb hr hc hcb hcr ha hab hal har hbs hbb hbl hbr =>
        have a1 := hs.1; have a2 := hr.1; have a3 := hc.1; have a4 := hcr.1; have a5 := ha.1; have a6 := hbs.1
        show nodeB 83 _ 0 _ _ _ _ _ = _
        congr 1 <;> omega
    have h15 := a9L 83 x.c6 0 x.k9 (x.i4.n : Int) (x.d7.n : Int) (x.s6.n : Int) (x.q8.n : Int)
    rw [← hlab] at h15
    have hcl : cs.length = out.length + (bTs (ts.take i.toNat)).length := by rw [hcs, List.length_append]
    have hkt := hk t ht
    rw [hut, ← List.append_assoc, ← r5 i0 (by simp only [big] at hxb; have := m9 hx; omega)] at hkt
    refine ⟨i0, hq, x, hE, ?_⟩
    rw [show (0 : Int) = IntKind.wrap .u64 0 by decide]
    refine b4Q (by omega) ?_
    rw [← hlab]
    exact ih _ x t hx ht _ _ _ _ _ (by rw [List.length_append]; omega) hkt
  · rw [hf (by omega)]
    unfold U9
    exact h
theorem f9G {x : i5} {t : PT} (hx : SH H x t) : StR H x t := by
  induction hx with
  | @mk e xs ts ys us zs bs vs ws hs hb hr hc hcb hcr ha hab hal har hbs hbb hbl hbr iha ihb =>
    intro s1 i9 cs0 n2 K hlen h
    change n2 (cs0 ++ bTs (us ++ (ts ++ (vs ++ ws))), _) H at h
    change cs0.length + (bTs (us ++ (ts ++ (vs ++ ws)))).length ≤ big at hlen
    rw [a0D, a0D, a0D] at h hlen
    simp only [List.length_append] at hlen
    have r0 := hr.1
    have r1 := hcr.1
    refine bloop' (ts := us) fun i cs next i0 i1 hcs hk hf => ?_
    unfold M6
    dsimp only
    refine ⟨fun hq => ?_, fun hq => ?_⟩
    · obtain ⟨x, hx, hE⟩ := hc.get i0 hq
      obtain ⟨t, ht⟩ := C4 (l := us) (i := i.toNat) (by have := m9 hx; omega)
      have := a5K ht
      refine ⟨i0, hq, x, hE, d5B (hcr.2 _ x t hx ht) (by rw [hcs, List.length_append]; omega) ?_⟩
      rw [r5 i0 (by simp only [big] at hcb; have := m9 hx; omega)]
      exact hk t ht
    · rw [hf (by have := hc.1; omega)]
      clear hk hf next hcs cs hq
      unfold U8
      refine bloop' (ts := ts) fun i cs next i0 i1 hcs hk hf => ?_
      unfold U7
      dsimp only
      refine ⟨fun hq => ?_, fun hq => ?_⟩
      · obtain ⟨x, hx, hE⟩ := hs.get i0 hq
        obtain ⟨t, ht⟩ := C4 (l := ts) (i := i.toNat) (by have := m9 hx; omega)
        have := a5K ht
        refine ⟨i0, hq, x, hE, c2l (hr.2 _ x t hx ht) (by rw [hcs, List.length_append, List.length_append]; omega) ?_⟩
        rw [r5 i0 (by simp only [big] at hb; have := m9 hx; omega)]
        exact hk t ht
      · rw [hf (by have := hs.1; omega)]
        unfold U6
        refine b4R ha hab hal har iha (by simp only [List.length_append]; omega) ?_
        refine b4R hbs hbb hbl hbr ihb (by simp only [List.length_append]; omega) ?_
        unfold U5
        simp only [List.append_assoc]
        exact h
theorem c2m {p : k5} {q : PP} (hp : PH H p q) (hsm : q.Sm) {K : Sl → Int → Hp → Prop} (h : ∀ (s : Sl) (H' : Hp), Hle H H' → SlH H' 1 g8 s (bytesOf q) → K s (toldS q.nodes) H') : Z7 p H K := by
  refine b0b _ ?_
  unfold a0s
  refine d4S hp ⟨fun hne => ?_, fun h0 => ?_⟩
  · refine h _ H (Hle.refl _) ?_
    unfold bytesOf
    rw [if_neg hne]; exact SlH.nil _ _ _
  have hlen := b8N hsm h0
  unfold PP.nodes at hlen
  rw [a0D, List.length_append] at hlen
  obtain ⟨hd, hbd, xs, hsl, hxb, hr⟩ := hp
  have n1 := hd.1
  refine bloop' (ts := q.decls.map dT) fun i cs next i0 i1 hcs hk hf => ?_
  rw [List.length_map] at i1 hf
  unfold V2
  dsimp only
  refine ⟨fun hq => ?_, fun hq => ?_⟩
  · obtain ⟨x, hx, hE⟩ := hd.get i0 hq
    have ht := c0E _ hx
    have hin := a5K ht
    have h15 := a9L 68 0 x.I8 x.k9 0 0 0 0
    rw [d3c] at hin
    refine ⟨i0, hq, x, hE, b4Q (a := 0) (b := 0) (c := 0) (d := 0) (by rw [hcs, List.nil_append]; omega) ?_⟩
    have hkt := hk _ ht
    rw [d3c] at hkt
    rw [r5 i0 (by simp only [big] at hbd; have := m9 hx; omega)]
    exact hkt
  · rw [hf (by omega), List.nil_append]
    unfold V1
    refine b4R hsl hxb hr.1 hr.2 (fun i x t a b => f9G (hr.2 i x t a b)) (by omega) ?_
    intro s2 H2 l2 hS2 _
    have := h s2 H2 l2 (by
      unfold bytesOf PP.nodes
      rw [if_pos (by exact h0), a0D]; exact hS2)
    rw [h0] at this; exact this
def f9H (h x : Int) : Int := IntKind.wrap .u64 ((bxorI .u64 h (IntKind.wrap .u64 x)) * 1099511628211)
def ofS (xs : List Int) : Int := xs.foldl f9H 14695981039346656037
theorem d5C {xs : List Int} {i : Nat} {x : Int} (h : xs[i]? = some x) : ofS (xs.take (i + 1)) = f9H (ofS (xs.take i)) x := by
  unfold ofS
  rw [V5 h, List.foldl_append]; rfl
theorem d3d {s : Sl} {xs : List Int} (hs : SlH H 1 g8 s xs) (hb : xs.length ≤ big) {K : Int → Hp → Prop} (h : K (ofS xs) H) : a2o s H K := by
  refine b6A _ ?_
  unfold a4f
  have n1 := hs.1
  refine Z4 (fun (z : Int × Int) H' => 0 ≤ z.2 ∧ z.2 ≤ xs.length ∧ H' = H ∧ z.1 = ofS (xs.take z.2.toNat)) (fun z => (xs.length - z.2).toNat) ⟨Int.le_refl _, by simp, rfl, rfl⟩ ?_
  rintro ⟨v, i⟩ H1 next ⟨i0, i1, rfl, hv⟩ hn
  dsimp only at i0 i1 hv ⊢
  subst hv
  unfold a2w
  refine ⟨fun hq => ?_, fun hq => ?_⟩
  · obtain ⟨x, hx, hE⟩ := hs.get i0 hq
    refine ⟨i0, hq, x, hE, ?_⟩
    rw [r5 i0 (by simp only [big] at hb; have := m9 hx; omega)]
    refine hn _ _ ⟨by dsimp only; omega, by dsimp only; have := m9 hx; omega, rfl, ?_⟩ (by dsimp only; have := m9 hx; omega)
    dsimp only
    rw [show (i + 1).toNat = i.toNat + 1 by omega, d5C hx]; rfl
  · rw [List.take_of_length_le (by omega)]
    unfold a2v; exact h
theorem d5D {s : Sl} {xs : List Int} (hs : SlH H 1 g8 s xs) (hb : xs.length ≤ big) {K : Int → Hp → Prop} (h : K (ofS xs) H) : N7 s H K := by
  refine b2d _ ?_
  unfold a1G
  have n1 := hs.1
  refine Z4 (fun (z : Int × Int) H' => 0 ≤ z.2 ∧ z.2 ≤ xs.length ∧ H' = H ∧ z.1 = ofS (xs.take z.2.toNat)) (fun z => (xs.length - z.2).toNat) ⟨Int.le_refl _, by simp, rfl, rfl⟩ ?_
  rintro ⟨v, i⟩ H1 next ⟨i0, i1, rfl, hv⟩ hn
  dsimp only at i0 i1 hv ⊢
  subst hv
  unfold a0u
  refine ⟨fun hq => ?_, fun hq => ?_⟩
  · obtain ⟨x, hx, hE⟩ := hs.get i0 hq
    refine ⟨i0, hq, x, hE, ?_⟩
    rw [r5 i0 (by simp only [big] at hb; have := m9 hx; omega)]
    refine hn _ _ ⟨by dsimp only; omega, by dsimp only; have := m9 hx; omega, rfl, ?_⟩ (by dsimp only; have := m9 hx; omega)
    dsimp only
    rw [show (i + 1).toNat = i.toNat + 1 by omega, d5C hx]; rfl
  · rw [List.take_of_length_le (by omega)]
    unfold a0t; exact h
def sumOf (q : PP) : Int := if toldS q.nodes = 0 then ofS (bytesOf q) else 0
theorem f9I (hT : TabsH H) {p : k5} {q : PP} (hp : PH H p q) (hsm : q.Sm) {K : Int → Int → Hp → Prop} (h : ∀ H', Hle H H' → K (sumOf q) (toldS q.nodes) H') : a5B p H K := by
  refine b4Y _ ?_
  unfold a3H
  unfold sumOf at h
  refine b8O hT hp hsm fun s H1 l1 hS => ⟨fun hne => ?_, fun h0 => d3d hS (b7y hsm) ?_⟩
  · have := h H1 l1; rw [if_neg hne] at this; exact this
  · have := h H1 l1; rw [if_pos h0, h0] at this; exact this
theorem e4H {p : k5} {q : PP} (hp : PH H p q) (hsm : q.Sm) {K : Int → Int → Hp → Prop} (h : ∀ H', Hle H H' → K (sumOf q) (toldS q.nodes) H') : a3o p H K := by
  refine b1S _ ?_
  unfold a1l
  unfold sumOf at h
  refine c2m hp hsm fun s H1 l1 hS => ⟨fun hne => ?_, fun h0 => d5D hS (b7y hsm) ?_⟩
  · have := h H1 l1; rw [if_neg hne] at this; exact this
  · have := h H1 l1; rw [if_pos h0, h0] at this; exact this
theorem d3e (w : World) (a : Addr) (c : Nat) : (convert 40 9 (.slice (some a) 0 c)).run Tryd.prog w = .ok (.string (strOfNums [])) w := by
  rw [run_convert_bytes_string w 40 9 5 _ 0 c Tryd.underlying40 Tryd.underlying5 Tryd.underlying9]
  exact run_bytesToString w a 0 c [] (by simp only [loadCells]; rfl)
theorem c8H {s : Sl} {xs : List Int} (hs : SlH H 1 g8 s xs) {w0 w : World} {ps : Nat → Prop} {H0 : Hp} {Fs : List Frag} (I : Inv w0 ps H0 H Fs w) : (convert 40 9 (vs s)).run Tryd.prog w = .ok (.string (strOfNums xs)) w := by
  have n1 := hs.1
  cases xs with
  | nil =>
    have h0 : s.n = 0 := n1
    obtain ⟨a, n, c⟩ := s
    dsimp only at h0
    subst h0
    cases a with
    | none => exact run_convert_bytes_nil w 40 5 Tryd.underlying40 Tryd.underlying5 0 c 9 Tryd.underlying9
    | some a => exact d3e w a c
  | cons x xs =>
    obtain ⟨g, o, ha, hA⟩ := hs.2 0 x rfl
    have hc : ∀ i, i < s.n → w.cell? ⟨g, o + i, none⟩ = some (.int .u8 ((x :: xs).getD i 0)) := fun i hi => by
      obtain ⟨y, hy⟩ := C4 (l := x :: xs) (i := i) (by omega)
      obtain ⟨g', o', ha', hA'⟩ := hs.2 i y hy
      rw [ha] at ha'
      cases ha'
      have := (I.atH hA').get (j := 0) rfl
      rw [Int.toNat_natCast, Nat.mul_one, Nat.add_zero] at this
      rw [this, List.getD_eq_getElem?_getD, hy]; rfl
    have := run_convert_bytes_arg w 40 5 Tryd.underlying40 Tryd.underlying5 g o s.n s.c (x :: xs) n1.symm hc 9 Tryd.underlying9
    show (convert 40 9 (.slice s.a s.n s.c)).run _ w = _
    rw [ha]; exact this
theorem d5E {s s' : Sl} {xs : List Int} (h1 : SlH H 1 g8 s xs) (h2 : SlH H 1 g8 s' xs) {K : Bool → Hp → Prop} (h : K true H) : a5H s s' H K := by
  intro w I
  refine f6t ?_
  unfold F35
  refine a1L (c8H h1 I) ?_
  refine a1L (c8H h2 I) ?_
  refine a7 (G8 _ _ _ _ _) ?_
  refine ⟨H, [], I, _, rfl, rfl, ?_⟩
  rw [decide_eq_true rfl]; exact h
end
end Go.Proofs.YthldnpmfelniiaaDoor
