/- Digests: a program's bytes, by the program and by the document; sums. Contracts off the printed formulas. -/
import Derived.Test.YthldnpmfelniiaaDoorzLQ9
import Derived.Test.YthldnpmfelniiaaDoorzLV1w
import Derived.Laws.BytesArg
import Derived.Lib.SlBytesConst
import Derived.Laws.BitsLemmas
namespace Go.Proofs.YthldnpmfelniiaaDoor
open Go.RowKit
set_option maxRecDepth 100000
set_option maxHeartbeats 2000000
def be8 (n : Int) : List Int := (List.range 8).map fun (j : Nat) => IntKind.wrap .u8 (shrI .u64 (IntKind.wrap .u64 n) (56 - 8 * (j : Int)))
theorem a6A (n : Int) : (be8 n).length = 8 := by unfold be8; rw [List.length_map, List.length_range]
def b6p (a b c d : Int) : List Int := [IntKind.wrap .u8 a, IntKind.wrap .u8 b, IntKind.wrap .u8 c, IntKind.wrap .u8 d]
def nodeB (l k n : Int) (s : ByteArray) (a b c d : Int) : List Int := [l, IntKind.wrap .u8 k] ++ be8 n ++ (sbytes s ++ [0]) ++ b6p a b c d
theorem a8L (l k n : Int) (s : ByteArray) (a b c d : Int) : (nodeB l k n s a b c d).length = 15 + s.size := by
  unfold nodeB b6p
  simp only [List.length_append, a6A, a0j, List.length_cons, List.length_nil]; omega
def labB : Lab → List Int
  | .decl z s => nodeB 68 0 z s 0 0 0 0
  | .stmt k s e c t f => nodeB 83 k 0 s c e t f
  | .cond k o e p => nodeB 67 k o ⟨#[]⟩ p e 0 0
  | .expr k n s a => nodeB 69 k n s 0 a 0 0
mutual
def bT : PT → List Int
  | .mk l cs => labB l ++ bTs cs
def bTs : List PT → List Int
  | [] => []
  | t :: ts => bT t ++ bTs ts
end
theorem a0J : ∀ a b : List PT, bTs (a ++ b) = bTs a ++ bTs b
  | [], b => by rw [List.nil_append, bTs, List.nil_append]
  | t :: a, b => by rw [List.cons_append, bTs, bTs, a0J a b, List.append_assoc]
theorem c1V {ts : List PT} {i : Nat} {t : PT} (h : ts[i]? = some t) : bTs (ts.take (i + 1)) = bTs (ts.take i) ++ bT t := by
  rw [M8 h, a0J, bTs, bTs, List.append_nil]
theorem d7Q (ts : List PT) (i : Nat) : (bTs (ts.take i)).length ≤ (bTs ts).length := by
  have := a0J (ts.take i) (ts.drop i)
  rw [List.take_append_drop] at this
  rw [this, List.length_append]; omega
theorem a7x {ts : List PT} {i : Nat} {t : PT} (h : ts[i]? = some t) : (bTs (ts.take i)).length + (bT t).length ≤ (bTs ts).length := by
  have := d7Q ts (i + 1)
  rw [c1V h, List.length_append] at this; exact this
theorem a7y (l : Lab) : (labB l).length = 15 + (nameL l).1.size := by
  cases l <;> exact a8L _ _ _ _ _ _ _ _
mutual
theorem d7R : ∀ t : PT, Sm t → (bT t).length ≤ 1048591 * cT t
  | .mk l cs, h => by
    cases h with
    | mk h1 h2 =>
      rw [bT, cT, List.length_append, a7y]
      have := b2F cs h2
      simp only [sml] at h1
      omega
theorem b2F : ∀ ts : List PT, (∀ t ∈ ts, Sm t) → (bTs ts).length ≤ 1048591 * cTs ts
  | [], _ => by rw [bTs, cTs]; exact Nat.le_refl _
  | t :: ts, h => by
    rw [bTs, cTs, List.length_append]
    have := d7R t (h t List.mem_cons_self)
    have := b2F ts fun u hu => h u (List.mem_cons_of_mem _ hu)
    omega
end
theorem a6B {n m : Nat} (h : n + m ≤ big) : (n + m) * 2 ≤ 140737488355328 := by simp only [big] at h; omega
section
variable {H : Hp}
theorem gloop {xs : List Int} {out : List Int} {body : Int × List Int → Hp → (Int × List Int → Hp → Prop) → Prop}
    (hb : ∀ (i : Int) (cs : List Int) (next : Int × List Int → Hp → Prop), 0 ≤ i → i ≤ xs.length → cs = out ++ xs.take i.toNat → (∀ x, xs[i.toNat]? = some x → next (i + 1, cs ++ [x]) H) → (xs.length ≤ i → cs = out ++ xs) → body (i, cs) H next) : TL ((0, out) : Int × List Int) H body := by
  refine Y5 (fun (q : Int × List Int) H' => 0 ≤ q.1 ∧ q.1 ≤ xs.length ∧ H' = H ∧ q.2 = out ++ xs.take q.1.toNat) (fun q => (xs.length - q.1).toNat) ⟨Int.le_refl _, by simp, rfl, by simp⟩ ?_
  rintro ⟨i, cs⟩ H1 next ⟨i0, i1, rfl, hs⟩ hn
  dsimp only at i0 i1 hs ⊢
  refine hb i cs next i0 i1 hs (fun x hx => ?_) fun he => ?_
  · have := u1 hx
    refine hn _ _ ⟨by dsimp only; omega, by dsimp only; omega, rfl, ?_⟩ (by dsimp only; omega)
    dsimp only
    rw [show (i + 1).toNat = i.toNat + 1 by omega, M8 hx, hs, List.append_assoc]
  · rw [hs, List.take_of_length_le (by omega)]
theorem d7S {n : Int} {j : Nat} (hj : j < 8) : (be8 n)[j]? = some (IntKind.wrap .u8 (shrI .u64 (IntKind.wrap .u64 n) (56 - 8 * (j : Int)))) := by
  unfold be8
  rw [List.getElem?_map, List.getElem?_range hj]; rfl
theorem c7Y {a b c d : Int} {j : Nat} (hj : j < 4) : (b6p a b c d)[j]? = some (IntKind.wrap .u8 (([a, b, c, d] : List Int).getD j 0)) := by
  match j, hj with
  | 0, _ => rfl
  | 1, _ => rfl
  | 2, _ => rfl
  | 3, _ => rfl
theorem a9r {l k n : Int} {s : ByteArray} {a b c d : Int} {z : Sl} {out : List Int} (hb : out.length + (15 + s.size) ≤ big) {K : Sl → List Int → Hp → Prop} (h : ∀ z, K z (out ++ nodeB l k n s a b c d) H) : D8 l k n s ⟨a, b, c, d⟩ z out H K := by
  refine a5D _ _ _ _ _ _ _ ?_
  unfold P0
  refine ⟨a6B (by simp only [List.length_cons, List.length_nil]; omega), ?_⟩
  refine gloop (xs := be8 n) fun i cs next i0 i1 hcs hn hf => ?_
  rw [a6A] at i1 hf
  have hl : cs.length = out.length + 2 + i.toNat := by rw [hcs]; simp only [List.length_append, List.length_cons, List.length_nil, List.length_take, a6A]; omega
  unfold K7
  dsimp only
  refine ⟨fun hc => ?_, fun hc => ?_⟩
  · have e1 : IntKind.wrap .i64 (56 - (IntKind.wrap .i64 (8 * i))) = 56 - 8 * (i.toNat : Int) := by
      rw [X9 (a := 8 * i) ⟨by omega, by omega⟩, X9 ⟨by omega, by omega⟩]; omega
    rw [e1, C4 i0 (by omega)]
    exact ⟨by omega, a6B (by simp only [List.length_cons, List.length_nil]; omega), hn _ (d7S (by omega))⟩
  · rw [hf (by omega)] at hl ⊢
    clear hn hf next hcs cs hc hl
    unfold K6
    have e0 : ((out ++ [l, IntKind.wrap .u8 k]) ++ be8 n).length = out.length + 10 := by simp only [List.length_append, List.length_cons, List.length_nil, a6A]
    refine ⟨a6B (by rw [e0]; omega), a6B (by rw [List.length_append, e0, a0j]; simp only [List.length_cons, List.length_nil]; omega), ?_⟩
    refine gloop (xs := b6p a b c d) fun i cs next i0 i1 hcs hn hf => ?_
    have e4 : (b6p a b c d).length = 4 := rfl
    rw [e4] at i1 hf
    have hl : cs.length = out.length + 11 + s.size + i.toNat := by rw [hcs]; simp only [List.length_append, List.length_cons, List.length_nil, List.length_take, a6A, a0j, e4]; omega
    unfold K5
    dsimp only
    refine ⟨fun hc => ⟨i0, hc, a6B (by simp only [List.length_cons, List.length_nil]; omega), ?_⟩, fun hc => ?_⟩
    · rw [C4 i0 (by omega)]
      exact hn _ (c7Y (by omega))
    · rw [hf (by omega)]
      have := h (Sl.mk none 0 0)
      unfold nodeB at this
      simp only [List.append_assoc] at this ⊢
      exact this
theorem bloop {ts : List PT} {out : List Int} {body : Int × List Int → Hp → (Int × List Int → Hp → Prop) → Prop}
    (hb : ∀ (i : Int) (cs : List Int) (next : Int × List Int → Hp → Prop), 0 ≤ i → i ≤ ts.length → cs = out ++ bTs (ts.take i.toNat) → (∀ t, ts[i.toNat]? = some t → next (i + 1, cs ++ bT t) H) → (ts.length ≤ i → cs = out ++ bTs ts) → body (i, cs) H next) : TL ((0, out) : Int × List Int) H body := by
  refine Y5 (fun (q : Int × List Int) H' => 0 ≤ q.1 ∧ q.1 ≤ ts.length ∧ H' = H ∧ q.2 = out ++ bTs (ts.take q.1.toNat)) (fun q => (ts.length - q.1).toNat) ⟨Int.le_refl _, by simp, rfl, by simp [bTs]⟩ ?_
  rintro ⟨i, cs⟩ H1 next ⟨i0, i1, rfl, hs⟩ hn
  dsimp only at i0 i1 hs ⊢
  refine hb i cs next i0 i1 hs (fun t ht => ?_) fun he => ?_
  · have := u1 ht
    refine hn _ _ ⟨by dsimp only; omega, by dsimp only; omega, rfl, ?_⟩ (by dsimp only; omega)
    dsimp only
    rw [show (i + 1).toNat = i.toNat + 1 by omega, c1V ht, hs, List.append_assoc]
  · rw [hs, List.take_of_length_le (by omega)]
theorem b6q {e : i6} {t : PT} (he : EH H e t) {z : Sl} {out : List Int} (hb : out.length + (bT t).length ≤ big) {K : Sl → List Int → Hp → Prop} (h : ∀ z, K z (out ++ bT t) H) : J2 e z out H K := by
  induction he generalizing z out K with
  | @mk e xs ts hs hxb hl _ ih =>
    refine a5E _ _ _ ?_
    have hn : (e.p6.n : Int) = (ts.length : Int) := by have := hs.1; omega
    rw [bT, List.length_append] at hb
    have h15 := a7y (.expr e.c7 e.W2 e.g8 ts.length)
    have hnm : (nameL (.expr e.c7 e.W2 e.g8 ts.length)).1 = e.g8 := rfl
    rw [hnm] at h15
    unfold P1
    refine a9r (by omega) fun z => ?_
    rw [hn]
    change TL ((0, out ++ labB (.expr e.c7 e.W2 e.g8 ts.length)) : Int × List Int) H _
    refine bloop (ts := ts) fun i cs next i0 i1 hcs hk hf => ?_
    unfold K8
    dsimp only
    refine ⟨fun hc => ?_, fun hc => ?_⟩
    · obtain ⟨x, hx, hE⟩ := hs.get i0 (show i < (e.p6.n : Int) by omega)
      obtain ⟨t, ht⟩ := P9 (l := ts) (i := i.toNat) (by have := u1 hx; omega)
      have := a7x ht
      refine ⟨i0, by omega, x, hE, ih _ x t hx ht (by rw [hcs, List.length_append, List.length_append]; omega) fun z => ?_⟩
      rw [C4 i0 (by simp only [big] at hxb; have := u1 hx; omega)]
      exact hk t ht
    · rw [hf (by omega), List.append_assoc]
      have := h (Sl.mk none 0 0)
      rw [bT] at this; exact this
theorem c4O {e : i7} {t : PT} (he : CH H e t) {z : Sl} {out : List Int} (hb : out.length + (bT t).length ≤ big) {K : Sl → List Int → Hp → Prop} (h : ∀ z, K z (out ++ bT t) H) : O5 e z out H K := by
  induction he generalizing z out K with
  | @mk e xs ts ys us hs hxb hr hc hcb hcl _ ih =>
    refine a5F _ _ _ ?_
    have r0 := hr.1
    have hn : (e.b9.n : Int) = (ts.length : Int) := by have := hs.1; omega
    have hm : (e.j9.n : Int) = (us.length : Int) := by have := hc.1; omega
    rw [bT, List.length_append, a0J, List.length_append] at hb
    have h15 := a7y (.cond e.c7 e.fOp ts.length us.length)
    have hnm : (nameL (.cond e.c7 e.fOp ts.length us.length)).1 = ⟨#[]⟩ := rfl
    rw [hnm] at h15
    unfold P2
    refine a9r (by omega) fun z => ?_
    rw [hn, hm]
    change TL ((0, out ++ labB (.cond e.c7 e.fOp ts.length us.length)) : Int × List Int) H _
    refine bloop (ts := ts) fun i cs next i0 i1 hcs hk hf => ?_
    unfold L1
    dsimp only
    refine ⟨fun hq => ?_, fun hq => ?_⟩
    · obtain ⟨x, hx, hE⟩ := hs.get i0 (show i < (e.b9.n : Int) by omega)
      obtain ⟨t, ht⟩ := P9 (l := ts) (i := i.toNat) (by have := u1 hx; omega)
      have := a7x ht
      refine ⟨i0, by omega, x, hE, b6q (hr.2 _ x t hx ht) (by rw [hcs, List.length_append, List.length_append]; omega) fun z => ?_⟩
      rw [C4 i0 (by simp only [big] at hxb; have := u1 hx; omega)]
      exact hk t ht
    · rw [hf (by omega)]
      clear hk hf next hcs cs hq
      unfold L0
      rw [hm]
      refine bloop (ts := us) fun i cs next i0 i1 hcs hk hf => ?_
      unfold K9
      dsimp only
      refine ⟨fun hq => ?_, fun hq => ?_⟩
      · obtain ⟨x, hx, hE⟩ := hc.get i0 (show i < (e.j9.n : Int) by omega)
        obtain ⟨t, ht⟩ := P9 (l := us) (i := i.toNat) (by have := u1 hx; omega)
        have := a7x ht
        refine ⟨i0, by omega, x, hE, ih _ x t hx ht (by rw [hcs, List.length_append, List.length_append, List.length_append]; omega) fun z => ?_⟩
        rw [C4 i0 (by simp only [big] at hcb; have := u1 hx; omega)]
        exact hk t ht
      · rw [hf (by omega), List.append_assoc, List.append_assoc]
        have := h (Sl.mk none 0 0)
        rw [bT, a0J] at this; exact this
def StB (H : Hp) (x : i8) (t : PT) : Prop := ∀ (s12 : Sl) (s13 i : Int) (cs : List Int) (n1 : Int × List Int → Hp → Prop) (K : Sl → List Int → Hp → Prop), cs.length + (bTs t.kids).length ≤ big → n1 (IntKind.wrap .i64 (i + 1), cs ++ bTs t.kids) H →
  TL ((0, cs) : Int × List Int) H fun (s : Int × List Int) H n6 => E5 s12 s13 i x.g6 (x.g6.n : Int) x s.1 s.2 H n1 n6 K
theorem a8M {s : Sl} {xs : List i8} {ts : List PT} (hs : SlH H 6 d5 s xs) (hxb : xs.length ≤ big) (hl : xs.length = ts.length) (hr : ∀ (i : Nat) (x : i8) (t : PT), xs[i]? = some x → ts[i]? = some t → SH H x t) (ih : ∀ (i : Nat) (x : i8) (t : PT), xs[i]? = some x → ts[i]? = some t → StB H x t)
    {z : Sl} {out : List Int} (hb : out.length + (bTs ts).length ≤ big) {K : Sl → List Int → Hp → Prop} (h : ∀ z, K z (out ++ bTs ts) H) : J3 s z out H K := by
  refine a5G _ _ _ ?_
  unfold P3
  have n1 := hs.1
  refine bloop (ts := ts) fun i cs next i0 i1 hcs hk hf => ?_
  unfold L6
  dsimp only
  refine ⟨fun hq => ?_, fun hq => ?_⟩
  · obtain ⟨x, hx, hE⟩ := hs.get i0 hq
    obtain ⟨t, ht⟩ := P9 (l := ts) (i := i.toNat) (by have := u1 hx; omega)
    have hin := a7x ht
    have hut : bT t = labB t.lab ++ bTs t.kids := by cases t; rw [bT]; rfl
    rw [hut, List.length_append] at hin
    have hlab : labB t.lab = nodeB 83 x.c7 0 x.g8 (x.g6.n : Int) (x.b9.n : Int) (x.w3.n : Int) (x.t1.n : Int) := by
      cases hr _ x t hx ht with
      | mk hs hb hr hc hcb hcr ha hab hal har hbs hbb hbl hbr =>
        have a1 := hs.1; have a2 := hr.1; have a3 := hc.1; have a4 := hcr.1; have a5 := ha.1; have a6 := hbs.1
        show nodeB 83 _ 0 _ _ _ _ _ = _
        congr 1 <;> omega
    have h15 := a8L 83 x.c7 0 x.g8 (x.g6.n : Int) (x.b9.n : Int) (x.w3.n : Int) (x.t1.n : Int)
    rw [← hlab] at h15
    have hcl : cs.length = out.length + (bTs (ts.take i.toNat)).length := by rw [hcs, List.length_append]
    have hkt := hk t ht
    rw [hut, ← List.append_assoc, ← C4 i0 (by simp only [big] at hxb; have := u1 hx; omega)] at hkt
    refine ⟨i0, hq, x, hE, a9r (by omega) fun z => ?_⟩
    rw [← hlab]
    exact ih _ x t hx ht _ _ _ _ _ _ (by rw [List.length_append]; omega) hkt
  · rw [hf (by omega)]
    exact h _
theorem d7T {x : i8} {t : PT} (hx : SH H x t) : StB H x t := by
  induction hx with
  | @mk e xs ts ys us zs bs vs ws hs hb hr hc hcb hcr ha hab hal har hbs hbb hbl hbr iha ihb =>
    intro s12 s13 i9 cs0 n1 K hlen h
    change n1 (_, cs0 ++ bTs (us ++ (ts ++ (vs ++ ws)))) H at h
    change cs0.length + (bTs (us ++ (ts ++ (vs ++ ws)))).length ≤ big at hlen
    rw [a0J, a0J, a0J] at h hlen
    simp only [List.length_append] at hlen
    have r0 := hr.1
    have r1 := hcr.1
    refine bloop (ts := us) fun i cs next i0 i1 hcs hk hf => ?_
    unfold E5
    dsimp only
    refine ⟨fun hq => ?_, fun hq => ?_⟩
    · obtain ⟨x, hx, hE⟩ := hc.get i0 hq
      obtain ⟨t, ht⟩ := P9 (l := us) (i := i.toNat) (by have := u1 hx; omega)
      have := a7x ht
      refine ⟨i0, hq, x, hE, c4O (hcr.2 _ x t hx ht) (by rw [hcs, List.length_append]; omega) fun z => ?_⟩
      rw [C4 i0 (by simp only [big] at hcb; have := u1 hx; omega)]
      exact hk t ht
    · rw [hf (by have := hc.1; omega)]
      clear hk hf next hcs cs hq
      unfold L5
      refine bloop (ts := ts) fun i cs next i0 i1 hcs hk hf => ?_
      unfold L4
      dsimp only
      refine ⟨fun hq => ?_, fun hq => ?_⟩
      · obtain ⟨x, hx, hE⟩ := hs.get i0 hq
        obtain ⟨t, ht⟩ := P9 (l := ts) (i := i.toNat) (by have := u1 hx; omega)
        have := a7x ht
        refine ⟨i0, hq, x, hE, b6q (hr.2 _ x t hx ht) (by rw [hcs, List.length_append, List.length_append]; omega) fun z => ?_⟩
        rw [C4 i0 (by simp only [big] at hb; have := u1 hx; omega)]
        exact hk t ht
      · rw [hf (by have := hs.1; omega)]
        unfold L3
        refine a8M ha hab hal har iha (by simp only [List.length_append]; omega) fun z => ?_
        refine a8M hbs hbb hbl hbr ihb (by simp only [List.length_append]; omega) fun z => ?_
        unfold L2
        simp only [List.append_assoc]
        exact h
def bytesOf (q : PP) : List Int := if toldS q.nodes = 0 then bTs q.nodes else []
theorem b6r {q : PP} (hsm : q.Sm) (h : toldS q.nodes = 0) : (bTs q.nodes).length ≤ big := by
  have h1 := b2F q.nodes hsm
  have h2 := b7a (b0s h).1
  simp only [big]; omega
theorem b1G (l : List z6) {i : Nat} {x : z6} (h : l[i]? = some x) : (l.map dT)[i]? = some (dT x) := by rw [List.getElem?_map, h]; rfl
theorem d7U (x : z6) : bT (dT x) = nodeB 68 0 x.S1 x.g8 0 0 0 0 := by unfold dT; rw [bT, bTs, List.append_nil]; rfl
theorem b6s (hT : TabsH H) {p : i5} {q : PP} (hp : PH H p q) (hsm : q.Sm) {K : Sl → Int → Hp → Prop} (h : ∀ (s : Sl) (H' : Hp), Hle H H' → SlH H' 1 i4 s (bytesOf q) → K s (toldS q.nodes) H') : a0e p H K := by
  refine a6z _ ?_
  unfold S5
  refine c3U hT hp hsm fun H1 l1 => ?_
  rw [show vEnd (allV q) = toldS q.nodes from b6V _]
  refine ⟨fun hne => ?_, fun h0 => ?_⟩
  · refine h _ H1 l1 ?_
    unfold bytesOf
    rw [if_neg hne]; exact SlH.nil _ _ _
  have hlen := b6r hsm h0
  unfold PP.nodes at hlen
  rw [a0J, List.length_append] at hlen
  obtain ⟨hd, hbd, xs, hsl, hxb, hr⟩ := hp.le l1
  have n1 := hd.1
  refine bloop (ts := q.decls.map dT) fun i cs next i0 i1 hcs hk hf => ?_
  rw [List.length_map] at i1 hf
  unfold N9
  dsimp only
  refine ⟨fun hq => ?_, fun hq => ?_⟩
  · obtain ⟨x, hx, hE⟩ := hd.get i0 hq
    have ht := b1G _ hx
    have hin := a7x ht
    have h15 := a8L 68 0 x.S1 x.g8 0 0 0 0
    rw [d7U] at hin
    refine ⟨i0, hq, x, hE, a9r (by rw [hcs, List.nil_append]; omega) fun z => ?_⟩
    rw [C4 i0 (by simp only [big] at hbd; have := u1 hx; omega), ← d7U]
    exact hk _ ht
  · rw [hf (by omega), List.nil_append]
    unfold N8
    refine a8M hsl hxb hr.1 hr.2 (fun i x t a b => d7T (hr.2 i x t a b)) (by omega) fun z => ?_
    intro s2 H2 l2 hS2 _
    have := h s2 H2 (l1.trans l2) (by
      unfold bytesOf PP.nodes
      rw [if_pos (by exact h0), a0J]; exact hS2)
    rw [h0] at this; exact this
def d7V (h x : Int) : Int := IntKind.wrap .u64 ((bxorI .u64 h (IntKind.wrap .u64 x)) * 1099511628211)
def ofS (xs : List Int) : Int := xs.foldl d7V 14695981039346656037
theorem d7W {xs : List Int} {i : Nat} {x : Int} (h : xs[i]? = some x) : ofS (xs.take (i + 1)) = d7V (ofS (xs.take i)) x := by
  unfold ofS
  rw [M8 h, List.foldl_append]; rfl
theorem e0W {s : Sl} {xs : List Int} (hs : SlH H 1 i4 s xs) (hb : xs.length ≤ big) {K : Int → Hp → Prop} (h : K (ofS xs) H) : a3N s H K := by
  refine a8E _ ?_
  unfold X8
  have n1 := hs.1
  refine Y5 (fun (z : Int × Int) H' => 0 ≤ z.2 ∧ z.2 ≤ xs.length ∧ H' = H ∧ z.1 = ofS (xs.take z.2.toNat)) (fun z => (xs.length - z.2).toNat) ⟨Int.le_refl _, by simp, rfl, rfl⟩ ?_
  rintro ⟨v, i⟩ H1 next ⟨i0, i1, rfl, hv⟩ hn
  dsimp only at i0 i1 hv ⊢
  subst hv
  unfold S4
  refine ⟨fun hq => ?_, fun hq => ?_⟩
  · obtain ⟨x, hx, hE⟩ := hs.get i0 hq
    refine ⟨i0, hq, x, hE, ?_⟩
    rw [C4 i0 (by simp only [big] at hb; have := u1 hx; omega)]
    refine hn _ _ ⟨by dsimp only; omega, by dsimp only; have := u1 hx; omega, rfl, ?_⟩ (by dsimp only; have := u1 hx; omega)
    dsimp only
    rw [show (i + 1).toNat = i.toNat + 1 by omega, d7W hx]; rfl
  · rw [List.take_of_length_le (by omega)]
    unfold S3; exact h
end
end Go.Proofs.YthldnpmfelniiaaDoor
