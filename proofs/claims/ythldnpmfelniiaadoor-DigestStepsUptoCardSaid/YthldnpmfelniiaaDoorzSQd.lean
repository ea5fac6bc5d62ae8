/- Digests: a program's bytes, by the program and by the document; sums. Contracts off the printed formulas. -/
import Derived.Test.YthldnpmfelniiaaDoorzSQ9
import Derived.Test.YthldnpmfelniiaaDoorzSV1w
import Derived.Laws.BytesArg
import Derived.Lib.SlBytesConst
import Derived.Laws.BitsLemmas
namespace Go.Proofs.YthldnpmfelniiaaDoor
open Go.RowKit
set_option maxRecDepth 100000
set_option maxHeartbeats 2000000
def be8 (n : Int) : List Int := (List.range 8).map fun (j : Nat) => IntKind.wrap .u8 (shrI .u64 (IntKind.wrap .u64 n) (56 - 8 * (j : Int)))
theorem a4s (n : Int) : (be8 n).length = 8 := by unfold be8; rw [List.length_map, List.length_range]
def b2N (a b c d : Int) : List Int := [IntKind.wrap .u8 a, IntKind.wrap .u8 b, IntKind.wrap .u8 c, IntKind.wrap .u8 d]
def nodeB (l k n : Int) (s : ByteArray) (a b c d : Int) : List Int := [l, IntKind.wrap .u8 k] ++ be8 n ++ (sbytes s ++ [0]) ++ b2N a b c d
theorem a6u (l k n : Int) (s : ByteArray) (a b c d : Int) : (nodeB l k n s a b c d).length = 15 + s.size := by
  unfold nodeB b2N
  simp only [List.length_append, a4s, T7, List.length_cons, List.length_nil]; omega
def labB : Lab → List Int
  | .decl z s => nodeB 68 0 z s 0 0 0 0
  | .stmt k s e c t f => nodeB 83 k 0 s c e t f
  | .cond k o e p => nodeB 67 k o ⟨#[]⟩ p e 0 0
  | .expr k n s a => nodeB 69 k n s 0 a 0 0
mutual
def bT : PT → List Int
  | .mk l cs => labB l ++ bTs cs
def bTs : List PT → List Int
  | [] => []
  | t :: ts => bT t ++ bTs ts
end
theorem W2 : ∀ a b : List PT, bTs (a ++ b) = bTs a ++ bTs b
  | [], b => by rw [List.nil_append, bTs, List.nil_append]
  | t :: a, b => by rw [List.cons_append, bTs, bTs, W2 a b, List.append_assoc]
theorem b7I {ts : List PT} {i : Nat} {t : PT} (h : ts[i]? = some t) : bTs (ts.take (i + 1)) = bTs (ts.take i) ++ bT t := by
  rw [Q7 h, W2, bTs, bTs, List.append_nil]
theorem d0H (ts : List PT) (i : Nat) : (bTs (ts.take i)).length ≤ (bTs ts).length := by
  have := W2 (ts.take i) (ts.drop i)
  rw [List.take_append_drop] at this
  rw [this, List.length_append]; omega
theorem a5q {ts : List PT} {i : Nat} {t : PT} (h : ts[i]? = some t) : (bTs (ts.take i)).length + (bT t).length ≤ (bTs ts).length := by
  have := d0H ts (i + 1)
  rw [b7I h, List.length_append] at this; exact this
theorem a7M (l : Lab) : (labB l).length = 15 + (nameL l).1.size := by
  cases l <;> exact a6u _ _ _ _ _ _ _ _
mutual
theorem d0I : ∀ t : PT, Sm t → (bT t).length ≤ 1048591 * cT t
  | .mk l cs, h => by
    cases h with
    | mk h1 h2 =>
      rw [bT, cT, List.length_append, a7M]
      have := a9K cs h2
      simp only [sml] at h1
      omega
theorem a9K : ∀ ts : List PT, (∀ t ∈ ts, Sm t) → (bTs ts).length ≤ 1048591 * cTs ts
  | [], _ => by rw [bTs, cTs]; exact Nat.le_refl _
  | t :: ts, h => by
    rw [bTs, cTs, List.length_append]
    have := d0I t (h t List.mem_cons_self)
    have := a9K ts fun u hu => h u (List.mem_cons_of_mem _ hu)
    omega
end
theorem a4t {n m : Nat} (h : n + m ≤ big) : (n + m) * 2 ≤ 140737488355328 := by simp only [big] at h; omega
section
variable {H : Hp}
theorem gloop {xs : List Int} {out : List Int} {body : Int × List Int → Hp → (Int × List Int → Hp → Prop) → Prop}
    (hb : ∀ (i : Int) (cs : List Int) (next : Int × List Int → Hp → Prop), 0 ≤ i → i ≤ xs.length → cs = out ++ xs.take i.toNat → (∀ x, xs[i.toNat]? = some x → next (i + 1, cs ++ [x]) H) → (xs.length ≤ i → cs = out ++ xs) → body (i, cs) H next) : TL ((0, out) : Int × List Int) H body := by
  refine Y3 (fun (q : Int × List Int) H' => 0 ≤ q.1 ∧ q.1 ≤ xs.length ∧ H' = H ∧ q.2 = out ++ xs.take q.1.toNat) (fun q => (xs.length - q.1).toNat) ⟨Int.le_refl _, by simp, rfl, by simp⟩ ?_
  rintro ⟨i, cs⟩ H1 next ⟨i0, i1, rfl, hs⟩ hn
  dsimp only at i0 i1 hs ⊢
  refine hb i cs next i0 i1 hs (fun x hx => ?_) fun he => ?_
  · have := B0 hx
    refine hn _ _ ⟨by dsimp only; omega, by dsimp only; omega, rfl, ?_⟩ (by dsimp only; omega)
    dsimp only
    rw [show (i + 1).toNat = i.toNat + 1 by omega, Q7 hx, hs, List.append_assoc]
  · rw [hs, List.take_of_length_le (by omega)]
theorem d0J {n : Int} {j : Nat} (hj : j < 8) : (be8 n)[j]? = some (IntKind.wrap .u8 (shrI .u64 (IntKind.wrap .u64 n) (56 - 8 * (j : Int)))) := by
  unfold be8
  rw [List.getElem?_map, List.getElem?_range hj]; rfl
theorem c3i {a b c d : Int} {j : Nat} (hj : j < 4) : (b2N a b c d)[j]? = some (IntKind.wrap .u8 (([a, b, c, d] : List Int).getD j 0)) := by
  match j, hj with
  | 0, _ => rfl
  | 1, _ => rfl
  | 2, _ => rfl
  | 3, _ => rfl
theorem a6R {l k n : Int} {s : ByteArray} {a b c d : Int} {z : Sl} {out : List Int} (hb : out.length + (15 + s.size) ≤ big) {K : Sl → List Int → Hp → Prop} (h : ∀ z, K z (out ++ nodeB l k n s a b c d) H) : z8 l k n s ⟨a, b, c, d⟩ z out H K := by
  refine a3v _ _ _ _ _ _ _ ?_
  unfold J7
  refine ⟨a4t (by simp only [List.length_cons, List.length_nil]; omega), ?_⟩
  refine gloop (xs := be8 n) fun i cs next i0 i1 hcs hn hf => ?_
  rw [a4s] at i1 hf
  have hl : cs.length = out.length + 2 + i.toNat := by rw [hcs]; simp only [List.length_append, List.length_cons, List.length_nil, List.length_take, a4s]; omega
  unfold D4
  dsimp only
  refine ⟨fun hc => ?_, fun hc => ?_⟩
  · have e1 : IntKind.wrap .i64 (56 - (IntKind.wrap .i64 (8 * i))) = 56 - 8 * (i.toNat : Int) := by
      rw [a0o (a := 8 * i) ⟨by omega, by omega⟩, a0o ⟨by omega, by omega⟩]; omega
    rw [e1, E9 i0 (by omega)]
    exact ⟨by omega, a4t (by simp only [List.length_cons, List.length_nil]; omega), hn _ (d0J (by omega))⟩
  · rw [hf (by omega)] at hl ⊢
    clear hn hf next hcs cs hc hl
    unfold D3
    have e0 : ((out ++ [l, IntKind.wrap .u8 k]) ++ be8 n).length = out.length + 10 := by simp only [List.length_append, List.length_cons, List.length_nil, a4s]
    refine ⟨a4t (by rw [e0]; omega), a4t (by rw [List.length_append, e0, T7]; simp only [List.length_cons, List.length_nil]; omega), ?_⟩
    refine gloop (xs := b2N a b c d) fun i cs next i0 i1 hcs hn hf => ?_
    have e4 : (b2N a b c d).length = 4 := rfl
    rw [e4] at i1 hf
    have hl : cs.length = out.length + 11 + s.size + i.toNat := by rw [hcs]; simp only [List.length_append, List.length_cons, List.length_nil, List.length_take, a4s, T7, e4]; omega
    unfold D2
    dsimp only
    refine ⟨fun hc => ⟨i0, hc, a4t (by simp only [List.length_cons, List.length_nil]; omega), ?_⟩, fun hc => ?_⟩
    · rw [E9 i0 (by omega)]
      exact hn _ (c3i (by omega))
    · rw [hf (by omega)]
      have := h (Sl.mk none 0 0)
      unfold nodeB at this
      simp only [List.append_assoc] at this ⊢
      exact this
theorem bloop {ts : List PT} {out : List Int} {body : Int × List Int → Hp → (Int × List Int → Hp → Prop) → Prop}
    (hb : ∀ (i : Int) (cs : List Int) (next : Int × List Int → Hp → Prop), 0 ≤ i → i ≤ ts.length → cs = out ++ bTs (ts.take i.toNat) → (∀ t, ts[i.toNat]? = some t → next (i + 1, cs ++ bT t) H) → (ts.length ≤ i → cs = out ++ bTs ts) → body (i, cs) H next) : TL ((0, out) : Int × List Int) H body := by
  refine Y3 (fun (q : Int × List Int) H' => 0 ≤ q.1 ∧ q.1 ≤ ts.length ∧ H' = H ∧ q.2 = out ++ bTs (ts.take q.1.toNat)) (fun q => (ts.length - q.1).toNat) ⟨Int.le_refl _, by simp, rfl, by simp [bTs]⟩ ?_
  rintro ⟨i, cs⟩ H1 next ⟨i0, i1, rfl, hs⟩ hn
  dsimp only at i0 i1 hs ⊢
  refine hb i cs next i0 i1 hs (fun t ht => ?_) fun he => ?_
  · have := B0 ht
    refine hn _ _ ⟨by dsimp only; omega, by dsimp only; omega, rfl, ?_⟩ (by dsimp only; omega)
    dsimp only
    rw [show (i + 1).toNat = i.toNat + 1 by omega, b7I ht, hs, List.append_assoc]
  · rw [hs, List.take_of_length_le (by omega)]
theorem b2O {e : o5} {t : PT} (he : EH H e t) {z : Sl} {out : List Int} (hb : out.length + (bT t).length ≤ big) {K : Sl → List Int → Hp → Prop} (h : ∀ z, K z (out ++ bT t) H) : C3 e z out H K := by
  induction he generalizing z out K with
  | @mk e xs ts hs hxb hl _ ih =>
    refine a3w _ _ _ ?_
    have hn : (e.q8.n : Int) = (ts.length : Int) := by have := hs.1; omega
    rw [bT, List.length_append] at hb
    have h15 := a7M (.expr e.c7 e.R5 e.g9 ts.length)
    have hnm : (nameL (.expr e.c7 e.R5 e.g9 ts.length)).1 = e.g9 := rfl
    rw [hnm] at h15
    unfold J8
    refine a6R (by omega) fun z => ?_
    rw [hn]
    change TL ((0, out ++ labB (.expr e.c7 e.R5 e.g9 ts.length)) : Int × List Int) H _
    refine bloop (ts := ts) fun i cs next i0 i1 hcs hk hf => ?_
    unfold D5
    dsimp only
    refine ⟨fun hc => ?_, fun hc => ?_⟩
    · obtain ⟨x, hx, hE⟩ := hs.get i0 (show i < (e.q8.n : Int) by omega)
      obtain ⟨t, ht⟩ := Y4 (l := ts) (i := i.toNat) (by have := B0 hx; omega)
      have := a5q ht
      refine ⟨i0, by omega, x, hE, ih _ x t hx ht (by rw [hcs, List.length_append, List.length_append]; omega) fun z => ?_⟩
      rw [E9 i0 (by simp only [big] at hxb; have := B0 hx; omega)]
      exact hk t ht
    · rw [hf (by omega), List.append_assoc]
      have := h (Sl.mk none 0 0)
      rw [bT] at this; exact this
theorem c0j {e : o9} {t : PT} (he : CH H e t) {z : Sl} {out : List Int} (hb : out.length + (bT t).length ≤ big) {K : Sl → List Int → Hp → Prop} (h : ∀ z, K z (out ++ bT t) H) : J2 e z out H K := by
  induction he generalizing z out K with
  | @mk e xs ts ys us hs hxb hr hc hcb hcl _ ih =>
    refine a3x _ _ _ ?_
    have r0 := hr.1
    have hn : (e.b8.n : Int) = (ts.length : Int) := by have := hs.1; omega
    have hm : (e.j6.n : Int) = (us.length : Int) := by have := hc.1; omega
    rw [bT, List.length_append, W2, List.length_append] at hb
    have h15 := a7M (.cond e.c7 e.fOp ts.length us.length)
    have hnm : (nameL (.cond e.c7 e.fOp ts.length us.length)).1 = ⟨#[]⟩ := rfl
    rw [hnm] at h15
    unfold J9
    refine a6R (by omega) fun z => ?_
    rw [hn, hm]
    change TL ((0, out ++ labB (.cond e.c7 e.fOp ts.length us.length)) : Int × List Int) H _
    refine bloop (ts := ts) fun i cs next i0 i1 hcs hk hf => ?_
    unfold D8
    dsimp only
    refine ⟨fun hq => ?_, fun hq => ?_⟩
    · obtain ⟨x, hx, hE⟩ := hs.get i0 (show i < (e.b8.n : Int) by omega)
      obtain ⟨t, ht⟩ := Y4 (l := ts) (i := i.toNat) (by have := B0 hx; omega)
      have := a5q ht
      refine ⟨i0, by omega, x, hE, b2O (hr.2 _ x t hx ht) (by rw [hcs, List.length_append, List.length_append]; omega) fun z => ?_⟩
      rw [E9 i0 (by simp only [big] at hxb; have := B0 hx; omega)]
      exact hk t ht
    · rw [hf (by omega)]
      clear hk hf next hcs cs hq
      unfold D7
      rw [hm]
      refine bloop (ts := us) fun i cs next i0 i1 hcs hk hf => ?_
      unfold D6
      dsimp only
      refine ⟨fun hq => ?_, fun hq => ?_⟩
      · obtain ⟨x, hx, hE⟩ := hc.get i0 (show i < (e.j6.n : Int) by omega)
        obtain ⟨t, ht⟩ := Y4 (l := us) (i := i.toNat) (by have := B0 hx; omega)
        have := a5q ht
        refine ⟨i0, by omega, x, hE, ih _ x t hx ht (by rw [hcs, List.length_append, List.length_append, List.length_append]; omega) fun z => ?_⟩
        rw [E9 i0 (by simp only [big] at hcb; have := B0 hx; omega)]
        exact hk t ht
      · rw [hf (by omega), List.append_assoc, List.append_assoc]
        have := h (Sl.mk none 0 0)
        rw [bT, W2] at this; exact this
def StB (H : Hp) (x : o6) (t : PT) : Prop := ∀ (s12 : Sl) (s13 i : Int) (cs : List Int) (n1 : Int × List Int → Hp → Prop) (K : Sl → List Int → Hp → Prop), cs.length + (bTs t.kids).length ≤ big → n1 (IntKind.wrap .i64 (i + 1), cs ++ bTs t.kids) H →
  TL ((0, cs) : Int × List Int) H fun (s : Int × List Int) H n6 => A9 s12 s13 i x.f7 (x.f7.n : Int) x s.1 s.2 H n1 n6 K
theorem a6v {s : Sl} {xs : List o6} {ts : List PT} (hs : SlH H 6 f6 s xs) (hxb : xs.length ≤ big) (hl : xs.length = ts.length) (hr : ∀ (i : Nat) (x : o6) (t : PT), xs[i]? = some x → ts[i]? = some t → SH H x t) (ih : ∀ (i : Nat) (x : o6) (t : PT), xs[i]? = some x → ts[i]? = some t → StB H x t)
    {z : Sl} {out : List Int} (hb : out.length + (bTs ts).length ≤ big) {K : Sl → List Int → Hp → Prop} (h : ∀ z, K z (out ++ bTs ts) H) : C4 s z out H K := by
  refine a3y _ _ _ ?_
  unfold K0
  have n1 := hs.1
  refine bloop (ts := ts) fun i cs next i0 i1 hcs hk hf => ?_
  unfold E3
  dsimp only
  refine ⟨fun hq => ?_, fun hq => ?_⟩
  · obtain ⟨x, hx, hE⟩ := hs.get i0 hq
    obtain ⟨t, ht⟩ := Y4 (l := ts) (i := i.toNat) (by have := B0 hx; omega)
    have hin := a5q ht
    have hut : bT t = labB t.lab ++ bTs t.kids := by cases t; rw [bT]; rfl
    rw [hut, List.length_append] at hin
    have hlab : labB t.lab = nodeB 83 x.c7 0 x.g9 (x.f7.n : Int) (x.b8.n : Int) (x.t8.n : Int) (x.r5.n : Int) := by
      cases hr _ x t hx ht with
      | mk hs hb hr hc hcb hcr ha hab hal har hbs hbb hbl hbr =>
        have a1 := hs.1; have a2 := hr.1; have a3 := hc.1; have a4 := hcr.1; have a5 := ha.1; have a6 := hbs.1
        show nodeB 83 _ 0 _ _ _ _ _ = _
        congr 1 <;> omega
    have h15 := a6u 83 x.c7 0 x.g9 (x.f7.n : Int) (x.b8.n : Int) (x.t8.n : Int) (x.r5.n : Int)
    rw [← hlab] at h15
    have hcl : cs.length = out.length + (bTs (ts.take i.toNat)).length := by rw [hcs, List.length_append]
    have hkt := hk t ht
    rw [hut, ← List.append_assoc, ← E9 i0 (by simp only [big] at hxb; have := B0 hx; omega)] at hkt
    refine ⟨i0, hq, x, hE, a6R (by omega) fun z => ?_⟩
    rw [← hlab]
    exact ih _ x t hx ht _ _ _ _ _ _ (by rw [List.length_append]; omega) hkt
  · rw [hf (by omega)]
    exact h _
theorem d0K {x : o6} {t : PT} (hx : SH H x t) : StB H x t := by
  induction hx with
  | @mk e xs ts ys us zs bs vs ws hs hb hr hc hcb hcr ha hab hal har hbs hbb hbl hbr iha ihb =>
    intro s12 s13 i9 cs0 n1 K hlen h
    change n1 (_, cs0 ++ bTs (us ++ (ts ++ (vs ++ ws)))) H at h
    change cs0.length + (bTs (us ++ (ts ++ (vs ++ ws)))).length ≤ big at hlen
    rw [W2, W2, W2] at h hlen
    simp only [List.length_append] at hlen
    have r0 := hr.1
    have r1 := hcr.1
    refine bloop (ts := us) fun i cs next i0 i1 hcs hk hf => ?_
    unfold A9
    dsimp only
    refine ⟨fun hq => ?_, fun hq => ?_⟩
    · obtain ⟨x, hx, hE⟩ := hc.get i0 hq
      obtain ⟨t, ht⟩ := Y4 (l := us) (i := i.toNat) (by have := B0 hx; omega)
      have := a5q ht
      refine ⟨i0, hq, x, hE, c0j (hcr.2 _ x t hx ht) (by rw [hcs, List.length_append]; omega) fun z => ?_⟩
      rw [E9 i0 (by simp only [big] at hcb; have := B0 hx; omega)]
      exact hk t ht
    · rw [hf (by have := hc.1; omega)]
      clear hk hf next hcs cs hq
      unfold E2
      refine bloop (ts := ts) fun i cs next i0 i1 hcs hk hf => ?_
      unfold E1
      dsimp only
      refine ⟨fun hq => ?_, fun hq => ?_⟩
      · obtain ⟨x, hx, hE⟩ := hs.get i0 hq
        obtain ⟨t, ht⟩ := Y4 (l := ts) (i := i.toNat) (by have := B0 hx; omega)
        have := a5q ht
        refine ⟨i0, hq, x, hE, b2O (hr.2 _ x t hx ht) (by rw [hcs, List.length_append, List.length_append]; omega) fun z => ?_⟩
        rw [E9 i0 (by simp only [big] at hb; have := B0 hx; omega)]
        exact hk t ht
      · rw [hf (by have := hs.1; omega)]
        unfold E0
        refine a6v ha hab hal har iha (by simp only [List.length_append]; omega) fun z => ?_
        refine a6v hbs hbb hbl hbr ihb (by simp only [List.length_append]; omega) fun z => ?_
        unfold D9
        simp only [List.append_assoc]
        exact h
def bytesOf (q : PP) : List Int := if toldS q.nodes = 0 then bTs q.nodes else []
theorem c0k {q : PP} (hsm : q.Sm) (h : toldS q.nodes = 0) : (bTs q.nodes).length ≤ big := by
  have h1 := a9K q.nodes hsm
  have h2 := c2Z (b9U h).1
  simp only [big]; omega
theorem b5P (l : List z6) {i : Nat} {x : z6} (h : l[i]? = some x) : (l.map dT)[i]? = some (dT x) := by rw [List.getElem?_map, h]; rfl
theorem d0L (x : z6) : bT (dT x) = nodeB 68 0 x.N2 x.g9 0 0 0 0 := by unfold dT; rw [bT, bTs, List.append_nil]; rfl
theorem c0l (hT : TabsH H) {p : u7} {q : PP} (hp : PH H p q) (hsm : q.Sm) {K : Sl → Int → Hp → Prop} (h : ∀ (s : Sl) (H' : Hp), Hle H H' → SlH H' 1 f9 s (bytesOf q) → K s (toldS q.nodes) H') : a0E p H K := by
  refine a4r _ ?_
  unfold M4
  refine b9Q hT hp hsm fun H1 l1 => ?_
  rw [show vEnd (allV q) = toldS q.nodes from c2Y _]
  refine ⟨fun hne => ?_, fun h0 => ?_⟩
  · refine h _ H1 l1 ?_
    unfold bytesOf
    rw [if_neg hne]; exact SlH.nil _ _ _
  have hlen := c0k hsm h0
  unfold PP.nodes at hlen
  rw [W2, List.length_append] at hlen
  obtain ⟨hd, hbd, xs, hsl, hxb, hr⟩ := hp.le l1
  have n1 := hd.1
  refine bloop (ts := q.decls.map dT) fun i cs next i0 i1 hcs hk hf => ?_
  rw [List.length_map] at i1 hf
  unfold H9
  dsimp only
  refine ⟨fun hq => ?_, fun hq => ?_⟩
  · obtain ⟨x, hx, hE⟩ := hd.get i0 hq
    have ht := b5P _ hx
    have hin := a5q ht
    have h15 := a6u 68 0 x.N2 x.g9 0 0 0 0
    rw [d0L] at hin
    refine ⟨i0, hq, x, hE, a6R (by rw [hcs, List.nil_append]; omega) fun z => ?_⟩
    rw [E9 i0 (by simp only [big] at hbd; have := B0 hx; omega), ← d0L]
    exact hk _ ht
  · rw [hf (by omega), List.nil_append]
    unfold H8
    refine a6v hsl hxb hr.1 hr.2 (fun i x t a b => d0K (hr.2 i x t a b)) (by omega) fun z => ?_
    intro s2 H2 l2 hS2 _
    have := h s2 H2 (l1.trans l2) (by
      unfold bytesOf PP.nodes
      rw [if_pos (by exact h0), W2]; exact hS2)
    rw [h0] at this; exact this
def d0M (h x : Int) : Int := IntKind.wrap .u64 ((bxorI .u64 h (IntKind.wrap .u64 x)) * 1099511628211)
def ofS (xs : List Int) : Int := xs.foldl d0M 14695981039346656037
theorem d0N {xs : List Int} {i : Nat} {x : Int} (h : xs[i]? = some x) : ofS (xs.take (i + 1)) = d0M (ofS (xs.take i)) x := by
  unfold ofS
  rw [Q7 h, List.foldl_append]; rfl
theorem b5Q {s : Sl} {xs : List Int} (hs : SlH H 1 f9 s xs) (hb : xs.length ≤ big) {K : Int → Hp → Prop} (h : K (ofS xs) H) : R1 s H K := by
  refine a6n _ ?_
  unfold R4
  have n1 := hs.1
  refine Y3 (fun (z : Int × Int) H' => 0 ≤ z.2 ∧ z.2 ≤ xs.length ∧ H' = H ∧ z.1 = ofS (xs.take z.2.toNat)) (fun z => (xs.length - z.2).toNat) ⟨Int.le_refl _, by simp, rfl, rfl⟩ ?_
  rintro ⟨v, i⟩ H1 next ⟨i0, i1, rfl, hv⟩ hn
  dsimp only at i0 i1 hv ⊢
  subst hv
  unfold M3
  refine ⟨fun hq => ?_, fun hq => ?_⟩
  · obtain ⟨x, hx, hE⟩ := hs.get i0 hq
    refine ⟨i0, hq, x, hE, ?_⟩
    rw [E9 i0 (by simp only [big] at hb; have := B0 hx; omega)]
    refine hn _ _ ⟨by dsimp only; omega, by dsimp only; have := B0 hx; omega, rfl, ?_⟩ (by dsimp only; have := B0 hx; omega)
    dsimp only
    rw [show (i + 1).toNat = i.toNat + 1 by omega, d0N hx]; rfl
  · rw [List.take_of_length_le (by omega)]
    unfold M2; exact h
end
end Go.Proofs.YthldnpmfelniiaaDoor
