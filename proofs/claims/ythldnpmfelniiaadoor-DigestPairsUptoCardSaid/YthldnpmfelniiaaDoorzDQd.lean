/- Digests: a program's bytes, by the program and by the document; sums. Contracts off the printed formulas. -/
import Derived.Test.YthldnpmfelniiaaDoorzDQ9
import Derived.Test.YthldnpmfelniiaaDoorzDV1w
import Derived.Laws.BytesArg
import Derived.Lib.SlBytesConst
import Derived.Laws.BitsLemmas
namespace Go.Proofs.YthldnpmfelniiaaDoor
open Go.RowKit
set_option maxRecDepth 100000
set_option maxHeartbeats 2000000
def be8 (n : Int) : List Int := (List.range 8).map fun (j : Nat) => IntKind.wrap .u8 (shrI .u64 (IntKind.wrap .u64 n) (56 - 8 * (j : Int)))
theorem b1x (n : Int) : (be8 n).length = 8 := by unfold be8; rw [List.length_map, List.length_range]
def c3q (a b c d : Int) : List Int := [IntKind.wrap .u8 a, IntKind.wrap .u8 b, IntKind.wrap .u8 c, IntKind.wrap .u8 d]
def nodeB (l k n : Int) (s : ByteArray) (a b c d : Int) : List Int := [l, IntKind.wrap .u8 k] ++ be8 n ++ (sbytes s ++ [0]) ++ c3q a b c d
theorem b4C (l k n : Int) (s : ByteArray) (a b c d : Int) : (nodeB l k n s a b c d).length = 15 + s.size := by
  unfold nodeB c3q
  simp only [List.length_append, b1x, a2U, List.length_cons, List.length_nil]; omega
def labB : Lab → List Int
  | .decl z s => nodeB 68 0 z s 0 0 0 0
  | .stmt k s e c t f => nodeB 83 k 0 s c e t f
  | .cond k o e p => nodeB 67 k o ⟨#[]⟩ p e 0 0
  | .expr k n s a => nodeB 69 k n s 0 a 0 0
mutual
def bT : PT → List Int
  | .mk l cs => labB l ++ bTs cs
def bTs : List PT → List Int
  | [] => []
  | t :: ts => bT t ++ bTs ts
end
theorem a3F : ∀ a b : List PT, bTs (a ++ b) = bTs a ++ bTs b
  | [], b => by rw [List.nil_append, bTs, List.nil_append]
  | t :: a, b => by rw [List.cons_append, bTs, bTs, a3F a b, List.append_assoc]
theorem d0m {ts : List PT} {i : Nat} {t : PT} (h : ts[i]? = some t) : bTs (ts.take (i + 1)) = bTs (ts.take i) ++ bT t := by
  rw [a1k h, a3F, bTs, bTs, List.append_nil]
theorem e8S (ts : List PT) (i : Nat) : (bTs (ts.take i)).length ≤ (bTs ts).length := by
  have := a3F (ts.take i) (ts.drop i)
  rw [List.take_append_drop] at this
  rw [this, List.length_append]; omega
theorem b2T {ts : List PT} {i : Nat} {t : PT} (h : ts[i]? = some t) : (bTs (ts.take i)).length + (bT t).length ≤ (bTs ts).length := by
  have := e8S ts (i + 1)
  rw [d0m h, List.length_append] at this; exact this
theorem b6u (l : Lab) : (labB l).length = 15 + (nameL l).1.size := by
  cases l <;> exact b4C _ _ _ _ _ _ _ _
mutual
theorem e8T : ∀ t : PT, Sm t → (bT t).length ≤ 1048591 * cT t
  | .mk l cs, h => by
    cases h with
    | mk h1 h2 =>
      rw [bT, cT, List.length_append, b6u]
      have := b8K cs h2
      simp only [sml] at h1
      omega
theorem b8K : ∀ ts : List PT, (∀ t ∈ ts, Sm t) → (bTs ts).length ≤ 1048591 * cTs ts
  | [], _ => by rw [bTs, cTs]; exact Nat.le_refl _
  | t :: ts, h => by
    rw [bTs, cTs, List.length_append]
    have := e8T t (h t List.mem_cons_self)
    have := b8K ts fun u hu => h u (List.mem_cons_of_mem _ hu)
    omega
end
theorem b1y {n m : Nat} (h : n + m ≤ big) : (n + m) * 2 ≤ 140737488355328 := by simp only [big] at h; omega
section
variable {H : Hp}
theorem gloop {xs : List Int} {out : List Int} {body : Int × List Int → Hp → (Int × List Int → Hp → Prop) → Prop}
    (hb : ∀ (i : Int) (cs : List Int) (next : Int × List Int → Hp → Prop), 0 ≤ i → i ≤ xs.length → cs = out ++ xs.take i.toNat → (∀ x, xs[i.toNat]? = some x → next (i + 1, cs ++ [x]) H) → (xs.length ≤ i → cs = out ++ xs) → body (i, cs) H next) : TL ((0, out) : Int × List Int) H body := by
  refine Z7 (fun (q : Int × List Int) H' => 0 ≤ q.1 ∧ q.1 ≤ xs.length ∧ H' = H ∧ q.2 = out ++ xs.take q.1.toNat) (fun q => (xs.length - q.1).toNat) ⟨Int.le_refl _, by simp, rfl, by simp⟩ ?_
  rintro ⟨i, cs⟩ H1 next ⟨i0, i1, rfl, hs⟩ hn
  dsimp only at i0 i1 hs ⊢
  refine hb i cs next i0 i1 hs (fun x hx => ?_) fun he => ?_
  · have := t6 hx
    refine hn _ _ ⟨by dsimp only; omega, by dsimp only; omega, rfl, ?_⟩ (by dsimp only; omega)
    dsimp only
    rw [show (i + 1).toNat = i.toNat + 1 by omega, a1k hx, hs, List.append_assoc]
  · rw [hs, List.take_of_length_le (by omega)]
theorem e8U {n : Int} {j : Nat} (hj : j < 8) : (be8 n)[j]? = some (IntKind.wrap .u8 (shrI .u64 (IntKind.wrap .u64 n) (56 - 8 * (j : Int)))) := by
  unfold be8
  rw [List.getElem?_map, List.getElem?_range hj]; rfl
theorem d7n {a b c d : Int} {j : Nat} (hj : j < 4) : (c3q a b c d)[j]? = some (IntKind.wrap .u8 (([a, b, c, d] : List Int).getD j 0)) := by
  match j, hj with
  | 0, _ => rfl
  | 1, _ => rfl
  | 2, _ => rfl
  | 3, _ => rfl
theorem b5g {l k n : Int} {s : ByteArray} {a b c d : Int} {z : Sl} {out : List Int} (hb : out.length + (15 + s.size) ≤ big) {K : Sl → List Int → Hp → Prop} (h : ∀ z, K z (out ++ nodeB l k n s a b c d) H) : N7 l k n s ⟨a, b, c, d⟩ z out H K := by
  refine a9M _ _ _ _ _ _ _ ?_
  unfold a0h
  refine ⟨b1y (by simp only [List.length_cons, List.length_nil]; omega), ?_⟩
  refine gloop (xs := be8 n) fun i cs next i0 i1 hcs hn hf => ?_
  rw [b1x] at i1 hf
  have hl : cs.length = out.length + 2 + i.toNat := by rw [hcs]; simp only [List.length_append, List.length_cons, List.length_nil, List.length_take, b1x]; omega
  unfold V4
  dsimp only
  refine ⟨fun hc => ?_, fun hc => ?_⟩
  · have e1 : IntKind.wrap .i64 (56 - (IntKind.wrap .i64 (8 * i))) = 56 - 8 * (i.toNat : Int) := by
      rw [a4P (a := 8 * i) ⟨by omega, by omega⟩, a4P ⟨by omega, by omega⟩]; omega
    rw [e1, y6 i0 (by omega)]
    exact ⟨by omega, b1y (by simp only [List.length_cons, List.length_nil]; omega), hn _ (e8U (by omega))⟩
  · rw [hf (by omega)] at hl ⊢
    clear hn hf next hcs cs hc hl
    unfold V3
    have e0 : ((out ++ [l, IntKind.wrap .u8 k]) ++ be8 n).length = out.length + 10 := by simp only [List.length_append, List.length_cons, List.length_nil, b1x]
    refine ⟨b1y (by rw [e0]; omega), b1y (by rw [List.length_append, e0, a2U]; simp only [List.length_cons, List.length_nil]; omega), ?_⟩
    refine gloop (xs := c3q a b c d) fun i cs next i0 i1 hcs hn hf => ?_
    have e4 : (c3q a b c d).length = 4 := rfl
    rw [e4] at i1 hf
    have hl : cs.length = out.length + 11 + s.size + i.toNat := by rw [hcs]; simp only [List.length_append, List.length_cons, List.length_nil, List.length_take, b1x, a2U, e4]; omega
    unfold V2
    dsimp only
    refine ⟨fun hc => ⟨i0, hc, b1y (by simp only [List.length_cons, List.length_nil]; omega), ?_⟩, fun hc => ?_⟩
    · rw [y6 i0 (by omega)]
      exact hn _ (d7n (by omega))
    · rw [hf (by omega)]
      have := h (Sl.mk none 0 0)
      unfold nodeB at this
      simp only [List.append_assoc] at this ⊢
      exact this
theorem bloop {ts : List PT} {out : List Int} {body : Int × List Int → Hp → (Int × List Int → Hp → Prop) → Prop}
    (hb : ∀ (i : Int) (cs : List Int) (next : Int × List Int → Hp → Prop), 0 ≤ i → i ≤ ts.length → cs = out ++ bTs (ts.take i.toNat) → (∀ t, ts[i.toNat]? = some t → next (i + 1, cs ++ bT t) H) → (ts.length ≤ i → cs = out ++ bTs ts) → body (i, cs) H next) : TL ((0, out) : Int × List Int) H body := by
  refine Z7 (fun (q : Int × List Int) H' => 0 ≤ q.1 ∧ q.1 ≤ ts.length ∧ H' = H ∧ q.2 = out ++ bTs (ts.take q.1.toNat)) (fun q => (ts.length - q.1).toNat) ⟨Int.le_refl _, by simp, rfl, by simp [bTs]⟩ ?_
  rintro ⟨i, cs⟩ H1 next ⟨i0, i1, rfl, hs⟩ hn
  dsimp only at i0 i1 hs ⊢
  refine hb i cs next i0 i1 hs (fun t ht => ?_) fun he => ?_
  · have := t6 ht
    refine hn _ _ ⟨by dsimp only; omega, by dsimp only; omega, rfl, ?_⟩ (by dsimp only; omega)
    dsimp only
    rw [show (i + 1).toNat = i.toNat + 1 by omega, d0m ht, hs, List.append_assoc]
  · rw [hs, List.take_of_length_le (by omega)]
theorem c3r {e : h7} {t : PT} (he : EH H e t) {z : Sl} {out : List Int} (hb : out.length + (bT t).length ≤ big) {K : Sl → List Int → Hp → Prop} (h : ∀ z, K z (out ++ bT t) H) : U1 e z out H K := by
  induction he generalizing z out K with
  | @mk e xs ts hs hxb hl _ ih =>
    refine a9N _ _ _ ?_
    have hn : (e.m9.n : Int) = (ts.length : Int) := by have := hs.1; omega
    rw [bT, List.length_append] at hb
    have h15 := b6u (.expr e.d4 e.F9 e.d8 ts.length)
    have hnm : (nameL (.expr e.d4 e.F9 e.d8 ts.length)).1 = e.d8 := rfl
    rw [hnm] at h15
    unfold a0i
    refine b5g (by omega) fun z => ?_
    rw [hn]
    change TL ((0, out ++ labB (.expr e.d4 e.F9 e.d8 ts.length)) : Int × List Int) H _
    refine bloop (ts := ts) fun i cs next i0 i1 hcs hk hf => ?_
    unfold V5
    dsimp only
    refine ⟨fun hc => ?_, fun hc => ?_⟩
    · obtain ⟨x, hx, hE⟩ := hs.get i0 (show i < (e.m9.n : Int) by omega)
      obtain ⟨t, ht⟩ := A8 (l := ts) (i := i.toNat) (by have := t6 hx; omega)
      have := b2T ht
      refine ⟨i0, by omega, x, hE, ih _ x t hx ht (by rw [hcs, List.length_append, List.length_append]; omega) fun z => ?_⟩
      rw [y6 i0 (by simp only [big] at hxb; have := t6 hx; omega)]
      exact hk t ht
    · rw [hf (by omega), List.append_assoc]
      have := h (Sl.mk none 0 0)
      rw [bT] at this; exact this
theorem d3s {e : g9} {t : PT} (he : CH H e t) {z : Sl} {out : List Int} (hb : out.length + (bT t).length ≤ big) {K : Sl → List Int → Hp → Prop} (h : ∀ z, K z (out ++ bT t) H) : Z9 e z out H K := by
  induction he generalizing z out K with
  | @mk e xs ts ys us hs hxb hr hc hcb hcl _ ih =>
    refine a9O _ _ _ ?_
    have r0 := hr.1
    have hn : (e.c7.n : Int) = (ts.length : Int) := by have := hs.1; omega
    have hm : (e.j9.n : Int) = (us.length : Int) := by have := hc.1; omega
    rw [bT, List.length_append, a3F, List.length_append] at hb
    have h15 := b6u (.cond e.d4 e.fOp ts.length us.length)
    have hnm : (nameL (.cond e.d4 e.fOp ts.length us.length)).1 = ⟨#[]⟩ := rfl
    rw [hnm] at h15
    unfold a0j
    refine b5g (by omega) fun z => ?_
    rw [hn, hm]
    change TL ((0, out ++ labB (.cond e.d4 e.fOp ts.length us.length)) : Int × List Int) H _
    refine bloop (ts := ts) fun i cs next i0 i1 hcs hk hf => ?_
    unfold V8
    dsimp only
    refine ⟨fun hq => ?_, fun hq => ?_⟩
    · obtain ⟨x, hx, hE⟩ := hs.get i0 (show i < (e.c7.n : Int) by omega)
      obtain ⟨t, ht⟩ := A8 (l := ts) (i := i.toNat) (by have := t6 hx; omega)
      have := b2T ht
      refine ⟨i0, by omega, x, hE, c3r (hr.2 _ x t hx ht) (by rw [hcs, List.length_append, List.length_append]; omega) fun z => ?_⟩
      rw [y6 i0 (by simp only [big] at hxb; have := t6 hx; omega)]
      exact hk t ht
    · rw [hf (by omega)]
      clear hk hf next hcs cs hq
      unfold V7
      rw [hm]
      refine bloop (ts := us) fun i cs next i0 i1 hcs hk hf => ?_
      unfold V6
      dsimp only
      refine ⟨fun hq => ?_, fun hq => ?_⟩
      · obtain ⟨x, hx, hE⟩ := hc.get i0 (show i < (e.j9.n : Int) by omega)
        obtain ⟨t, ht⟩ := A8 (l := us) (i := i.toNat) (by have := t6 hx; omega)
        have := b2T ht
        refine ⟨i0, by omega, x, hE, ih _ x t hx ht (by rw [hcs, List.length_append, List.length_append, List.length_append]; omega) fun z => ?_⟩
        rw [y6 i0 (by simp only [big] at hcb; have := t6 hx; omega)]
        exact hk t ht
      · rw [hf (by omega), List.append_assoc, List.append_assoc]
        have := h (Sl.mk none 0 0)
        rw [bT, a3F] at this; exact this
def StB (H : Hp) (x : g8) (t : PT) : Prop := ∀ (s12 : Sl) (s13 i : Int) (cs : List Int) (n1 : Int × List Int → Hp → Prop) (K : Sl → List Int → Hp → Prop), cs.length + (bTs t.kids).length ≤ big → n1 (IntKind.wrap .i64 (i + 1), cs ++ bTs t.kids) H →
  TL ((0, cs) : Int × List Int) H fun (s : Int × List Int) H n6 => Q0 s12 s13 i x.f5 (x.f5.n : Int) x s.1 s.2 H n1 n6 K
theorem b4D {s : Sl} {xs : List g8} {ts : List PT} (hs : SlH H 6 b8 s xs) (hxb : xs.length ≤ big) (hl : xs.length = ts.length) (hr : ∀ (i : Nat) (x : g8) (t : PT), xs[i]? = some x → ts[i]? = some t → SH H x t) (ih : ∀ (i : Nat) (x : g8) (t : PT), xs[i]? = some x → ts[i]? = some t → StB H x t)
    {z : Sl} {out : List Int} (hb : out.length + (bTs ts).length ≤ big) {K : Sl → List Int → Hp → Prop} (h : ∀ z, K z (out ++ bTs ts) H) : U2 s z out H K := by
  refine a9P _ _ _ ?_
  unfold a0k
  have n1 := hs.1
  refine bloop (ts := ts) fun i cs next i0 i1 hcs hk hf => ?_
  unfold W3
  dsimp only
  refine ⟨fun hq => ?_, fun hq => ?_⟩
  · obtain ⟨x, hx, hE⟩ := hs.get i0 hq
    obtain ⟨t, ht⟩ := A8 (l := ts) (i := i.toNat) (by have := t6 hx; omega)
    have hin := b2T ht
    have hut : bT t = labB t.lab ++ bTs t.kids := by cases t; rw [bT]; rfl
    rw [hut, List.length_append] at hin
    have hlab : labB t.lab = nodeB 83 x.d4 0 x.d8 (x.f5.n : Int) (x.c7.n : Int) (x.r9.n : Int) (x.o6.n : Int) := by
      cases hr _ x t hx ht with
      | mk hs hb hr hc hcb hcr ha hab hal har hbs hbb hbl hbr =>
        have a1 := hs.1; have a2 := hr.1; have a3 := hc.1; have a4 := hcr.1; have a5 := ha.1; have a6 := hbs.1
        show nodeB 83 _ 0 _ _ _ _ _ = _
        congr 1 <;> omega
    have h15 := b4C 83 x.d4 0 x.d8 (x.f5.n : Int) (x.c7.n : Int) (x.r9.n : Int) (x.o6.n : Int)
    rw [← hlab] at h15
    have hcl : cs.length = out.length + (bTs (ts.take i.toNat)).length := by rw [hcs, List.length_append]
    have hkt := hk t ht
    rw [hut, ← List.append_assoc, ← y6 i0 (by simp only [big] at hxb; have := t6 hx; omega)] at hkt
    refine ⟨i0, hq, x, hE, b5g (by omega) fun z => ?_⟩
    rw [← hlab]
    exact ih _ x t hx ht _ _ _ _ _ _ (by rw [List.length_append]; omega) hkt
  · rw [hf (by omega)]
    exact h _
theorem e8V {x : g8} {t : PT} (hx : SH H x t) : StB H x t := by
  induction hx with
  | @mk e xs ts ys us zs bs vs ws hs hb hr hc hcb hcr ha hab hal har hbs hbb hbl hbr iha ihb =>
    intro s12 s13 i9 cs0 n1 K hlen h
    change n1 (_, cs0 ++ bTs (us ++ (ts ++ (vs ++ ws)))) H at h
    change cs0.length + (bTs (us ++ (ts ++ (vs ++ ws)))).length ≤ big at hlen
    rw [a3F, a3F, a3F] at h hlen
    simp only [List.length_append] at hlen
    have r0 := hr.1
    have r1 := hcr.1
    refine bloop (ts := us) fun i cs next i0 i1 hcs hk hf => ?_
    unfold Q0
    dsimp only
    refine ⟨fun hq => ?_, fun hq => ?_⟩
    · obtain ⟨x, hx, hE⟩ := hc.get i0 hq
      obtain ⟨t, ht⟩ := A8 (l := us) (i := i.toNat) (by have := t6 hx; omega)
      have := b2T ht
      refine ⟨i0, hq, x, hE, d3s (hcr.2 _ x t hx ht) (by rw [hcs, List.length_append]; omega) fun z => ?_⟩
      rw [y6 i0 (by simp only [big] at hcb; have := t6 hx; omega)]
      exact hk t ht
    · rw [hf (by have := hc.1; omega)]
      clear hk hf next hcs cs hq
      unfold W2
      refine bloop (ts := ts) fun i cs next i0 i1 hcs hk hf => ?_
      unfold W1
      dsimp only
      refine ⟨fun hq => ?_, fun hq => ?_⟩
      · obtain ⟨x, hx, hE⟩ := hs.get i0 hq
        obtain ⟨t, ht⟩ := A8 (l := ts) (i := i.toNat) (by have := t6 hx; omega)
        have := b2T ht
        refine ⟨i0, hq, x, hE, c3r (hr.2 _ x t hx ht) (by rw [hcs, List.length_append, List.length_append]; omega) fun z => ?_⟩
        rw [y6 i0 (by simp only [big] at hb; have := t6 hx; omega)]
        exact hk t ht
      · rw [hf (by have := hs.1; omega)]
        unfold W0
        refine b4D ha hab hal har iha (by simp only [List.length_append]; omega) fun z => ?_
        refine b4D hbs hbb hbl hbr ihb (by simp only [List.length_append]; omega) fun z => ?_
        unfold V9
        simp only [List.append_assoc]
        exact h
def bytesOf (q : PP) : List Int := if toldS q.nodes = 0 then bTs q.nodes else []
theorem c3s {q : PP} (hsm : q.Sm) (h : toldS q.nodes = 0) : (bTs q.nodes).length ≤ big := by
  have h1 := b8K q.nodes hsm
  have h2 := d7e (d3f h).1
  simp only [big]; omega
theorem c3G {q : PP} (hsm : q.Sm) : (bytesOf q).length ≤ big := by
  unfold bytesOf
  split
  · rename_i h; exact c3s hsm h
  · exact Nat.zero_le _
theorem c7L (l : List A4) {i : Nat} {x : A4} (h : l[i]? = some x) : (l.map dT)[i]? = some (dT x) := by rw [List.getElem?_map, h]; rfl
theorem e8W (x : A4) : bT (dT x) = nodeB 68 0 x.R7 x.d8 0 0 0 0 := by unfold dT; rw [bT, bTs, List.append_nil]; rfl
theorem b2U (hT : TabsH H) {p : f6} {q : PP} (hp : PH H p q) (hsm : q.Sm) {K : Sl → Int → Hp → Prop} (h : ∀ (s : Sl) (H' : Hp), Hle H H' → SlH H' 1 o0 s (bytesOf q) → K s (toldS q.nodes) H') : X1 p H K := by
  refine b1v _ ?_
  unfold a0V
  refine c2M hT hp hsm fun H1 l1 => ?_
  rw [show vEnd (allV q) = toldS q.nodes from d7d _]
  refine ⟨fun hne => ?_, fun h0 => ?_⟩
  · refine h _ H1 l1 ?_
    unfold bytesOf
    rw [if_neg hne]; exact SlH.nil _ _ _
  have hlen := c3s hsm h0
  unfold PP.nodes at hlen
  rw [a3F, List.length_append] at hlen
  obtain ⟨hd, hbd, xs, hsl, hxb, hr⟩ := hp.le l1
  have n1 := hd.1
  refine bloop (ts := q.decls.map dT) fun i cs next i0 i1 hcs hk hf => ?_
  rw [List.length_map] at i1 hf
  unfold Y9
  dsimp only
  refine ⟨fun hq => ?_, fun hq => ?_⟩
  · obtain ⟨x, hx, hE⟩ := hd.get i0 hq
    have ht := c7L _ hx
    have hin := b2T ht
    have h15 := b4C 68 0 x.R7 x.d8 0 0 0 0
    rw [e8W] at hin
    refine ⟨i0, hq, x, hE, b5g (by rw [hcs, List.nil_append]; omega) fun z => ?_⟩
    rw [y6 i0 (by simp only [big] at hbd; have := t6 hx; omega), ← e8W]
    exact hk _ ht
  · rw [hf (by omega), List.nil_append]
    unfold Y8
    refine b4D hsl hxb hr.1 hr.2 (fun i x t a b => e8V (hr.2 i x t a b)) (by omega) fun z => ?_
    intro s2 H2 l2 hS2 _
    have := h s2 H2 (l1.trans l2) (by
      unfold bytesOf PP.nodes
      rw [if_pos (by exact h0), a3F]; exact hS2)
    rw [h0] at this; exact this
def e8X (h x : Int) : Int := IntKind.wrap .u64 ((bxorI .u64 h (IntKind.wrap .u64 x)) * 1099511628211)
def ofS (xs : List Int) : Int := xs.foldl e8X 14695981039346656037
theorem e8Y {xs : List Int} {i : Nat} {x : Int} (h : xs[i]? = some x) : ofS (xs.take (i + 1)) = e8X (ofS (xs.take i)) x := by
  unfold ofS
  rw [a1k h, List.foldl_append]; rfl
theorem d4h {s : Sl} {xs : List Int} (hs : SlH H 1 o0 s xs) (hb : xs.length ≤ big) {K : Int → Hp → Prop} (h : K (ofS xs) H) : a3Z s H K := by
  refine b4v _ ?_
  unfold a2u
  have n1 := hs.1
  refine Z7 (fun (z : Int × Int) H' => 0 ≤ z.2 ∧ z.2 ≤ xs.length ∧ H' = H ∧ z.1 = ofS (xs.take z.2.toNat)) (fun z => (xs.length - z.2).toNat) ⟨Int.le_refl _, by simp, rfl, rfl⟩ ?_
  rintro ⟨v, i⟩ H1 next ⟨i0, i1, rfl, hv⟩ hn
  dsimp only at i0 i1 hv ⊢
  subst hv
  unfold a0U
  refine ⟨fun hq => ?_, fun hq => ?_⟩
  · obtain ⟨x, hx, hE⟩ := hs.get i0 hq
    refine ⟨i0, hq, x, hE, ?_⟩
    rw [y6 i0 (by simp only [big] at hb; have := t6 hx; omega)]
    refine hn _ _ ⟨by dsimp only; omega, by dsimp only; have := t6 hx; omega, rfl, ?_⟩ (by dsimp only; have := t6 hx; omega)
    dsimp only
    rw [show (i + 1).toNat = i.toNat + 1 by omega, e8Y hx]; rfl
  · rw [List.take_of_length_le (by omega)]
    unfold a0T; exact h
def sumOf (q : PP) : Int := if toldS q.nodes = 0 then ofS (bytesOf q) else 0
theorem b7G (hT : TabsH H) {p : f6} {q : PP} (hp : PH H p q) (hsm : q.Sm) {K : Int → Int → Hp → Prop} (h : ∀ H', Hle H H' → K (sumOf q) (toldS q.nodes) H') : U6 p H K := by
  refine b3c _ ?_
  unfold a1T
  unfold sumOf at h
  refine b2U hT hp hsm fun s H1 l1 hS => ⟨fun hne => ?_, fun h0 => d4h hS (c3G hsm) ?_⟩
  · have := h H1 l1; rw [if_neg hne] at this; exact this
  · have := h H1 l1; rw [if_pos h0, h0] at this; exact this
theorem c3t (hT : TabsH H) {p p' : f6} {q q' : PP} (hp : PH H p q) (hsm : q.Sm) (hp' : PH H p' q') (hsm' : q'.Sm) {K : Bool → Hp → Prop} (h : ∀ H', Hle H H' → K ((((decide (toldS q.nodes = 0)) && (decide (toldS q'.nodes = 0))) && (decide (sumOf q = sumOf q'))) && (!eqS q q')) H') : R6 p p' H K := by
  refine b1w _ _ ?_
  unfold a0W
  refine b7G hT hp hsm fun H1 l1 => b7G (hT.le l1) (hp'.le l1) hsm' fun H2 l2 => ?_
  have l12 := l1.trans l2
  refine d3N (eqS q q') (fun _ K' hk => d3d (hT.le l12) (hp.le l12) hsm (hp'.le l12) hsm' hk) fun H3 l3 => ?_
  have h' := h H3 (l12.trans l3)
  generalize (((decide (toldS q.nodes = 0)) && (decide (toldS q'.nodes = 0))) && (decide (sumOf q = sumOf q'))) = a at h' ⊢
  cases a
  · exact h'
  · exact h'
theorem c7M (w : World) (a : Addr) (c : Nat) : (convert 40 9 (.slice (some a) 0 c)).run Tryd.prog w = .ok (.string (strOfNums [])) w := by
  rw [run_convert_bytes_string w 40 9 5 _ 0 c Tryd.underlying40 Tryd.underlying5 Tryd.underlying9]
  exact run_bytesToString w a 0 c [] (by simp only [loadCells]; rfl)
theorem c4h {s : Sl} {xs : List Int} (hs : SlH H 1 o0 s xs) {w0 w : World} {ps : Nat → Prop} {H0 : Hp} {Fs : List Frag} (I : Inv w0 ps H0 H Fs w) : (convert 40 9 (vs s)).run Tryd.prog w = .ok (.string (strOfNums xs)) w := by
  have n1 := hs.1
  cases xs with
  | nil =>
    have h0 : s.n = 0 := n1
    obtain ⟨a, n, c⟩ := s
    dsimp only at h0
    subst h0
    cases a with
    | none => exact run_convert_bytes_nil w 40 5 Tryd.underlying40 Tryd.underlying5 0 c 9 Tryd.underlying9
    | some a => exact c7M w a c
  | cons x xs =>
    obtain ⟨g, o, ha, hA⟩ := hs.2 0 x rfl
    have hc : ∀ i, i < s.n → w.cell? ⟨g, o + i, none⟩ = some (.int .u8 ((x :: xs).getD i 0)) := fun i hi => by
      obtain ⟨y, hy⟩ := A8 (l := x :: xs) (i := i) (by omega)
      obtain ⟨g', o', ha', hA'⟩ := hs.2 i y hy
      rw [ha] at ha'
      cases ha'
      have := (I.atH hA').get (j := 0) rfl
      rw [Int.toNat_natCast, Nat.mul_one, Nat.add_zero] at this
      rw [this, List.getD_eq_getElem?_getD, hy]; rfl
    have := run_convert_bytes_arg w 40 5 Tryd.underlying40 Tryd.underlying5 g o s.n s.c (x :: xs) n1.symm hc 9 Tryd.underlying9
    show (convert 40 9 (.slice s.a s.n s.c)).run _ w = _
    rw [ha]; exact this
theorem d0n {s s' : Sl} {xs : List Int} (h1 : SlH H 1 o0 s xs) (h2 : SlH H 1 o0 s' xs) {K : Bool → Hp → Prop} (h : K true H) : a3P s s' H K := by
  intro w I
  refine e7x ?_
  unfold F35
  refine a0q (c4h h1 I) ?_
  refine a0q (c4h h2 I) ?_
  refine a8 (T0 _ _ _ _ _) ?_
  refine ⟨H, [], I, _, rfl, rfl, ?_⟩
  rw [decide_eq_true rfl]; exact h
end
end Go.Proofs.YthldnpmfelniiaaDoor
