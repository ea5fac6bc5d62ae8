/- Well programs: uses gathered, the check; the law WellTurned. Contracts off the printed formulas. -/
import Derived.Test.YthldnpmfelniiaaDoorzTQw
namespace Go.Proofs.YthldnpmfelniiaaDoor
open Go.RowKit
set_option maxRecDepth 100000
set_option maxHeartbeats 2000000
abbrev Wu := b4
def asU (u : Us) : Int := if u.d4a = true then 2 else 1
def toW (u : Us) : Wu := ⟨u.c6, asU u⟩
def gT (t : PT) : List Wu := (uT t).map toW
def gTs (ts : List PT) : List Wu := (uTs ts).map toW
theorem d3U {ts : List PT} {i : Nat} {t : PT} (h : ts[i]? = some t) : gTs (ts.take (i + 1)) = gTs (ts.take i) ++ gT t := by unfold gTs gT; rw [b8N h, List.map_append]
theorem a7R (a b : List PT) : gTs (a ++ b) = gTs a ++ gTs b := by unfold gTs; rw [a7Q, List.map_append]
theorem d3V (t : PT) : (gT t).length = (uT t).length := by unfold gT; rw [List.length_map]
theorem a7S (ts : List PT) : (gTs ts).length = (uTs ts).length := by unfold gTs; rw [List.length_map]
theorem b1X (l : Lab) (cs : List PT) : gT (.mk l cs) = (useL l).map toW ++ gTs cs := by unfold gT gTs; rw [uT, List.map_append]
theorem a7T {ts : List PT} {i : Nat} {t : PT} (h : ts[i]? = some t) : (gTs (ts.take i)).length + (gT t).length ≤ (gTs ts).length := by
  rw [a7S, d3V, a7S]; exact d4Q h
theorem a6q {n : Nat} (h : n + 1 ≤ big) {u : Wu} : (n + ([u] : List Wu).length) * 25 ≤ 140737488355328 := by
  simp only [big] at h; simp only [List.length_cons, List.length_nil]; omega
section
variable {H : Hp}
theorem vloop {ts : List PT} {out : List Wu} {body : Int × List Wu → Hp → (Int × List Wu → Hp → Prop) → Prop}
    (hb : ∀ (i : Int) (cs : List Wu) (next : Int × List Wu → Hp → Prop), 0 ≤ i → i ≤ ts.length → cs = out ++ gTs (ts.take i.toNat) → (∀ t, ts[i.toNat]? = some t → next (i + 1, cs ++ gT t) H) → (ts.length ≤ i → cs = out ++ gTs ts) → body (i, cs) H next) : TL ((0, out) : Int × List Wu) H body := by
  refine a0r (fun (q : Int × List Wu) H' => 0 ≤ q.1 ∧ q.1 ≤ ts.length ∧ H' = H ∧ q.2 = out ++ gTs (ts.take q.1.toNat)) (fun q => (ts.length - q.1).toNat) ⟨Int.le_refl _, by simp, rfl, by simp [gTs, uTs]⟩ ?_
  rintro ⟨i, cs⟩ H1 next ⟨i0, i1, rfl, hs⟩ hn
  dsimp only at i0 i1 hs ⊢
  refine hb i cs next i0 i1 hs (fun t ht => ?_) fun he => ?_
  · have := E9 ht
    refine hn _ _ ⟨by dsimp only; omega, by dsimp only; omega, rfl, ?_⟩ (by dsimp only; omega)
    dsimp only
    rw [show (i + 1).toNat = i.toNat + 1 by omega, d3U ht, hs, List.append_assoc]
  · rw [hs, List.take_of_length_le (by omega)]
theorem b4c {e : o9} {t : PT} (he : EH H e t) {z : b6} {out : List Wu} (hb : out.length + (gT t).length ≤ big) {K : b6 → List Wu → Hp → Prop} (h : ∀ z, K z (out ++ gT t) H) : E4 z out e H K := by
  induction he generalizing z out K with
  | @mk e xs ts hs hxb hl _ ih =>
    refine a3i _ _ _ ?_
    have hn : (e.u5.n : Int) = (ts.length : Int) := by have := hs.1; omega
    rw [b1X, List.length_append] at hb
    have go : ∀ out' : List Wu, out' = out ++ (useL (.expr e.d4 e.V8 e.c6 ts.length)).map toW → u4 out' e H K := by
      rintro out' rfl
      unfold u4
      rw [hn]
      refine vloop (ts := ts) fun i cs next i0 i1 hcs hk hf => ?_
      unfold G7
      dsimp only
      refine ⟨fun hc => ?_, fun hc => ?_⟩
      · obtain ⟨x, hx, hE⟩ := hs.get i0 (show i < (e.u5.n : Int) by omega)
        obtain ⟨t, ht⟩ := Z4 (l := ts) (i := i.toNat) (by have := E9 hx; omega)
        have := a7T ht
        refine ⟨i0, by omega, x, hE, ih _ x t hx ht (by rw [hcs, List.length_append, List.length_append]; omega) fun z => ?_⟩
        rw [N1 i0 (by simp only [big] at hxb; have := E9 hx; omega)]
        exact hk t ht
      · rw [hf (by omega), List.append_assoc]
        have := h (b6.mk (Sl.mk none 0 0))
        rw [b1X] at this; exact this
    unfold K4
    refine ⟨fun h2 => ?_, fun h2 => ⟨fun h4 => ?_, fun h4 => go _ ?_⟩⟩
    · have e2 : (useL (.expr e.d4 e.V8 e.c6 ts.length)).map toW = [⟨e.c6, 1⟩] := by
        simp only [useL]
        rw [h2]; rfl
      rw [e2] at hb
      exact ⟨a6q (by simp only [List.length_cons, List.length_nil] at hb; omega), go _ (by rw [e2])⟩
    · have e2 : (useL (.expr e.d4 e.V8 e.c6 ts.length)).map toW = [⟨e.c6, 2⟩] := by
        simp only [useL]
        rw [h4]; rfl
      rw [e2] at hb
      exact ⟨a6q (by simp only [List.length_cons, List.length_nil] at hb; omega), go _ (by rw [e2])⟩
    · have e2 : (useL (.expr e.d4 e.V8 e.c6 ts.length)).map toW = [] := by
        simp only [useL]
        rw [decide_eq_false h2, decide_eq_false h4]; rfl
      rw [e2, List.append_nil]
theorem c2j {e : p8} {t : PT} (he : CH H e t) {z : b6} {out : List Wu} (hb : out.length + (gT t).length ≤ big) {K : b6 → List Wu → Hp → Prop} (h : ∀ z, K z (out ++ gT t) H) : K1 z out e H K := by
  induction he generalizing z out K with
  | @mk e xs ts ys us hs hxb hr hc hcb hcl _ ih =>
    refine a3j _ _ _ ?_
    have r0 := hr.1
    have hn : (e.b9.n : Int) = (ts.length : Int) := by have := hs.1; omega
    have hm : (e.m9.n : Int) = (us.length : Int) := by have := hc.1; omega
    have eg : gT (.mk (.cond e.d4 e.fOp ts.length us.length) (ts ++ us)) = gTs ts ++ gTs us := by rw [b1X, a7R]; rfl
    rw [eg, List.length_append] at hb
    unfold K5
    rw [hn]
    refine vloop (ts := ts) fun i cs next i0 i1 hcs hk hf => ?_
    unfold H7
    dsimp only
    refine ⟨fun hq => ?_, fun hq => ?_⟩
    · obtain ⟨x, hx, hE⟩ := hs.get i0 (show i < (e.b9.n : Int) by omega)
      obtain ⟨t, ht⟩ := Z4 (l := ts) (i := i.toNat) (by have := E9 hx; omega)
      have := a7T ht
      refine ⟨i0, by omega, x, hE, b4c (hr.2 _ x t hx ht) (by rw [hcs, List.length_append]; omega) fun z => ?_⟩
      rw [N1 i0 (by simp only [big] at hxb; have := E9 hx; omega)]
      exact hk t ht
    · rw [hf (by omega)]
      clear hk hf next hcs cs hq
      unfold G9
      rw [hm]
      refine vloop (ts := us) fun i cs next i0 i1 hcs hk hf => ?_
      unfold G8
      dsimp only
      refine ⟨fun hq => ?_, fun hq => ?_⟩
      · obtain ⟨x, hx, hE⟩ := hc.get i0 (show i < (e.m9.n : Int) by omega)
        obtain ⟨t, ht⟩ := Z4 (l := us) (i := i.toNat) (by have := E9 hx; omega)
        have := a7T ht
        refine ⟨i0, by omega, x, hE, ih _ x t hx ht (by rw [hcs, List.length_append, List.length_append]; omega) fun z => ?_⟩
        rw [N1 i0 (by simp only [big] at hcb; have := E9 hx; omega)]
        exact hk t ht
      · rw [hf (by omega), List.append_assoc]
        have := h (b6.mk (Sl.mk none 0 0))
        rw [eg] at this; exact this
def StW (H : Hp) (x : p5) (t : PT) : Prop := ∀ (s10 : Sl) (s11 i : Int) (cs : List Wu) (n1 : Int × List Wu → Hp → Prop) (K : b6 → List Wu → Hp → Prop), cs.length + (gTs t.kids).length ≤ big → n1 (IntKind.wrap .i64 (i + 1), cs ++ gTs t.kids) H → t6 s10 s11 i cs x H n1 K
theorem a7s {s : Sl} {xs : List p5} {ts : List PT} (hs : SlH H 6 f6 s xs) (hxb : xs.length ≤ big) (hl : xs.length = ts.length) (hr : ∀ (i : Nat) (x : p5) (t : PT), xs[i]? = some x → ts[i]? = some t → SH H x t) (ih : ∀ (i : Nat) (x : p5) (t : PT), xs[i]? = some x → ts[i]? = some t → StW H x t)
    {z : b6} {out : List Wu} (hb : out.length + (gTs ts).length ≤ big) {K : b6 → List Wu → Hp → Prop} (h : ∀ z, K z (out ++ gTs ts) H) : D7 z out s H K := by
  refine a2V _ _ _ ?_
  unfold J7
  have n1 := hs.1
  refine vloop (ts := ts) fun i cs next i0 i1 hcs hk hf => ?_
  unfold F6
  dsimp only
  refine ⟨fun hq => ?_, fun hq => ?_⟩
  · obtain ⟨x, hx, hE⟩ := hs.get i0 hq
    obtain ⟨t, ht⟩ := Z4 (l := ts) (i := i.toNat) (by have := E9 hx; omega)
    have hin := a7T ht
    have hut : gT t = (useL t.lab).map toW ++ gTs t.kids := by cases t; rw [b1X]; rfl
    rw [hut, List.length_append] at hin
    have hlab : useL t.lab = if (decide (x.d4 = 1) || decide (x.d4 = 2)) = true then [⟨x.c6, decide (x.d4 = 2)⟩] else [] := by
      cases hr _ x t hx ht; rfl
    have hcl : cs.length = out.length + (gTs (ts.take i.toNat)).length := by rw [hcs, List.length_append]
    have hkt := hk t ht
    rw [hut, ← List.append_assoc, ← N1 i0 (by simp only [big] at hxb; have := E9 hx; omega)] at hkt
    refine ⟨i0, hq, x, hE, fun h1 => ?_, fun h1 => ⟨fun h2 => ?_, fun h2 => ?_⟩⟩
    · have e2 : (useL t.lab).map toW = [⟨x.c6, 1⟩] := by rw [hlab, h1]; rfl
      rw [e2] at hin hkt
      simp only [List.length_cons, List.length_nil] at hin
      exact ⟨a6q (by omega), ih _ x t hx ht _ _ _ _ _ _ (by simp only [List.length_append, List.length_cons, List.length_nil]; omega) hkt⟩
    · have e2 : (useL t.lab).map toW = [⟨x.c6, 2⟩] := by rw [hlab, h2]; rfl
      rw [e2] at hin hkt
      simp only [List.length_cons, List.length_nil] at hin
      exact ⟨a6q (by omega), ih _ x t hx ht _ _ _ _ _ _ (by simp only [List.length_append, List.length_cons, List.length_nil]; omega) hkt⟩
    · have e2 : (useL t.lab).map toW = [] := by rw [hlab, decide_eq_false h1, decide_eq_false h2]; rfl
      rw [e2] at hin hkt
      rw [List.append_nil] at hkt
      exact ih _ x t hx ht _ _ _ _ _ _ (by simp only [List.length_nil] at hin; omega) hkt
  · rw [hf (by omega)]
    exact h _
theorem d3W {x : p5} {t : PT} (hx : SH H x t) : StW H x t := by
  induction hx with
  | @mk e xs ts ys us zs bs vs ws hs hb hr hc hcb hcr ha hab hal har hbs hbb hbl hbr iha ihb =>
    intro s10 s11 i9 cs0 n1 K hlen h
    change n1 (_, cs0 ++ gTs (us ++ (ts ++ (vs ++ ws)))) H at h
    change cs0.length + (gTs (us ++ (ts ++ (vs ++ ws)))).length ≤ big at hlen
    rw [a7R, a7R, a7R] at h hlen
    simp only [List.length_append] at hlen
    have r0 := hr.1
    have r1 := hcr.1
    unfold t6
    refine vloop (ts := us) fun i cs next i0 i1 hcs hk hf => ?_
    unfold F5
    dsimp only
    refine ⟨fun hq => ?_, fun hq => ?_⟩
    · obtain ⟨x, hx, hE⟩ := hc.get i0 hq
      obtain ⟨t, ht⟩ := Z4 (l := us) (i := i.toNat) (by have := E9 hx; omega)
      have := a7T ht
      refine ⟨i0, hq, x, hE, c2j (hcr.2 _ x t hx ht) (by rw [hcs, List.length_append]; omega) fun z => ?_⟩
      rw [N1 i0 (by simp only [big] at hcb; have := E9 hx; omega)]
      exact hk t ht
    · rw [hf (by have := hc.1; omega)]
      clear hk hf next hcs cs hq
      unfold F4
      refine vloop (ts := ts) fun i cs next i0 i1 hcs hk hf => ?_
      unfold F3
      dsimp only
      refine ⟨fun hq => ?_, fun hq => ?_⟩
      · obtain ⟨x, hx, hE⟩ := hs.get i0 hq
        obtain ⟨t, ht⟩ := Z4 (l := ts) (i := i.toNat) (by have := E9 hx; omega)
        have := a7T ht
        refine ⟨i0, hq, x, hE, b4c (hr.2 _ x t hx ht) (by rw [hcs, List.length_append, List.length_append]; omega) fun z => ?_⟩
        rw [N1 i0 (by simp only [big] at hb; have := E9 hx; omega)]
        exact hk t ht
      · rw [hf (by have := hs.1; omega)]
        unfold F1
        refine a7s ha hab hal har iha (by simp only [List.length_append]; omega) fun z => ?_
        refine a7s hbs hbb hbl hbr ihb (by simp only [List.length_append]; omega) fun z => ?_
        unfold F0
        simp only [List.append_assoc]
        exact h
end
def useT (ds : List d6) : List Us → ByteArray × Int
  | [] => (⟨#[]⟩, 0)
  | u :: r => if kOf ds u.c6 = asU u then useT ds r else if kOf ds u.c6 = 0 then (u.c6, 63) else (u.c6, 64)
def wellS (q : PP) : ByteArray × Int :=
  if toldS q.nodes = 0 then (match declT [] q.decls with | some r => r | none => useT q.decls (uTs q.body)) else (⟨#[]⟩, toldS q.nodes)
theorem b1C (ds : List d6) (l : List Us) (h : ∀ u ∈ l, kOf ds u.c6 = asU u) (r : List Us) : useT ds (l ++ r) = useT ds r := by
  induction l with
  | nil => rfl
  | cons u l ih =>
    rw [List.cons_append, useT, if_pos (h u List.mem_cons_self)]
    exact ih fun v hv => h v (List.mem_cons_of_mem _ hv)
section
variable {H : Hp}
theorem b1m (hT : TabsH H) {p : o8} {q : PP} (hp : PH H p q) (hsm : q.Sm) {K : ByteArray → Int → Hp → Prop} (h : ∀ H', Hle H H' → K (wellS q).1 (wellS q).2 H') : N2 p H K := by
  refine a6x _ ?_
  unfold T2
  unfold wellS at h
  refine c1x hT hp hsm fun H1 l1 => ?_
  rw [show vEnd (allV q) = toldS q.nodes from c5a _]
  refine ⟨fun hne => by have := h H1 l1; rw [if_neg hne] at this; exact this, fun h0 => ?_⟩
  rw [if_pos h0] at h
  have hcnt := c5b (c1C h0).1
  have hul := b1d q.body
  have hcb : cTs q.body ≤ 4096 := by unfold PP.nodes at hcnt; rw [b4L] at hcnt; omega
  obtain ⟨hd, hbd, xs, hsl, hxb, hr⟩ := hp.le l1
  refine b4p hd hbd (fun n e hde => ⟨fun hne => ?_, fun he0 => ?_⟩) fun hdn x H2 kvs l2 hM hkv => ⟨fun e => (e rfl).elim, fun _ => ?_⟩
  · have := h H1 l1; rw [hde] at this; exact this
  · exfalso
    have : ∀ (l pre : List d6), declT pre l = some (n, e) → e ≠ 0 := by
      intro l
      induction l with
      | nil => intro pre hq; rw [declT] at hq; cases hq
      | cons d l ih =>
        intro pre hq
        rw [declT] at hq
        split at hq
        · cases hq; decide
        · split at hq
          · cases hq; decide
          · split at hq
            · cases hq; decide
            · exact ih _ hq
    exact this _ _ hde he0
  · rw [hdn] at h
    dsimp only at h
    have l12 := l1.trans l2
    refine a7s (hsl.le l2) hxb hr.1 (fun i x t a b => SH.le l2 (hr.2 i x t a b)) (fun i x t a b => d3W (SH.le l2 (hr.2 i x t a b))) (by rw [a7S]; simp only [List.length_nil, big]; omega) fun z => ?_
    rw [List.nil_append]
    have gl := a7S q.body
    refine a0r (fun (z : Int × ByteArray × Int) H' => z.1 = 0 ∧ z.2.1 = ⟨#[]⟩ ∧ 0 ≤ z.2.2 ∧ z.2.2 ≤ (uTs q.body).length ∧ H' = H2 ∧ ∀ u ∈ (uTs q.body).take z.2.2.toNat, kOf q.decls u.c6 = asU u) (fun z => ((uTs q.body).length - z.2.2).toNat) ⟨rfl, rfl, Int.le_refl _, by dsimp only; omega, rfl, fun u hu => by simp at hu⟩ ?_
    rintro ⟨a, b, i⟩ H3 next ⟨ha, hb, i0, i1, rfl, hi⟩ hk
    dsimp only at ha hb i0 i1 hi ⊢
    subst ha; subst hb
    unfold P8
    refine ⟨fun hq => ?_, fun hq => ?_⟩
    · obtain ⟨u, hu⟩ := Z4 (l := uTs q.body) (i := i.toNat) (by omega)
      have hlt := E9 hu
      have hg : (gTs q.body)[i.toNat]? = some (toW u) := by unfold gTs; rw [List.getElem?_map, hu]; rfl
      have hdrop : (uTs q.body).drop i.toNat = u :: (uTs q.body).drop (i.toNat + 1) := by
        rw [List.drop_eq_getElem_cons hlt]; congr 1
        rw [List.getElem?_eq_getElem hlt] at hu; exact Option.some.inj hu
      have hall : useT q.decls (uTs q.body) = useT q.decls (u :: (uTs q.body).drop (i.toNat + 1)) := by
        have := b1C q.decls ((uTs q.body).take i.toNat) hi ((uTs q.body).drop i.toNat)
        rw [List.take_append_drop, hdrop] at this; exact this
      have h' := h H3 l12
      rw [hall, useT] at h'
      refine ⟨i0, toW u, hg, kvs, hM, ?_⟩
      show ((lk u.c6 kvs).getD 0 = asU u → _) ∧ (¬ ((lk u.c6 kvs).getD 0 = asU u) → ((lk u.c6 kvs).getD 0 = 0 → _) ∧ (¬ ((lk u.c6 kvs).getD 0 = 0) → _))
      rw [hkv]
      refine ⟨fun e => ?_, fun e => ⟨fun e2 => ?_, fun e2 => ?_⟩⟩
      · rw [N1 i0 (by omega)]
        refine hk _ _ ⟨rfl, rfl, by dsimp only; omega, by dsimp only; omega, rfl, fun v hv => ?_⟩ (by dsimp only; omega)
        dsimp only at hv
        rw [show (i + 1).toNat = i.toNat + 1 by omega, T9 hu] at hv
        rcases List.mem_append.1 hv with hv | hv
        · exact hi v hv
        · rw [List.mem_singleton.1 hv]; exact e
      · rw [if_neg e, if_pos e2] at h'; exact h'
      · rw [if_neg e, if_neg e2] at h'; exact h'
    · have h' := h H3 l12
      have := b1C q.decls (uTs q.body) (by rw [List.take_of_length_le (by omega)] at hi; exact hi) []
      rw [List.append_nil] at this
      rw [this] at h'
      exact h'
def b7l : PP := ⟨[⟨xS, 0⟩, ⟨xS, 0⟩], []⟩
theorem b9u : wellS b7l = (xS, 60) := by kernel_rfl
theorem c5u : b7l.Sm := by
  intro t ht
  rcases List.mem_cons.1 ht with e | ht
  · rw [e]; exact .mk (by decide) fun t ht => by cases ht
  · rcases List.mem_cons.1 ht with e | ht
    · rw [e]; exact .mk (by decide) fun t ht => by cases ht
    · cases ht
theorem b9v (hT : TabsH H) {K : Bool → Hp → Prop} (h : ∀ H', Hle H H' → K true H') : R0 H K := by
  refine a3k ?_
  unfold K6
  intro s H1 l1 hS _
  refine b1m (hT.le l1) (q := b7l) ⟨hS, by simp [b7l, big], [], SlH.nil _ _ _, Nat.zero_le _, v7.nil⟩ c5u fun H2 l2 => ?_
  rw [b9u]
  exact h H2 (l1.trans l2)
end
theorem b1D : ∀ (l l' : List d6) (s : W), l.length = l'.length → wTs (l.map dT) 1 s = wTs (l'.map dT) 1 s
  | [], [], _, _ => rfl
  | [], _ :: _, _, h => by simp at h
  | _ :: _, [], _, h => by simp at h
  | a :: l, b :: l', s, h => by
    rw [List.map_cons, List.map_cons, wTs, wTs, b4I, b4I]
    exact b1D l l' _ (by simpa using h)
theorem b0e : ∀ l : List PT, formTs l.reverse = formTs l
  | [] => rfl
  | t :: l => by rw [List.reverse_cons, a3h, b0e l, formTs, formTs, formTs, Bool.and_true, Bool.and_comm]
theorem a8g : ∀ l : List PT, namesTs l.reverse = namesTs l
  | [] => rfl
  | t :: l => by rw [List.reverse_cons, a2z, a8g l, namesTs, namesTs, namesTs, Bool.and_true, Bool.and_comm]
def PP.rev (q : PP) : PP := ⟨q.decls.reverse, q.body⟩
theorem c2k (q : PP) : toldS q.rev.nodes = toldS q.nodes := by
  have e1 : wTs q.rev.nodes 1 w0S = wTs q.nodes 1 w0S := by
    unfold PP.nodes PP.rev
    rw [b1c, b1c, b1D q.decls.reverse q.decls _ (by rw [List.length_reverse])]
  have e2 : formTs q.rev.nodes = formTs q.nodes := by
    unfold PP.nodes PP.rev
    rw [a3h, a3h]
    show (formTs (q.decls.reverse.map dT) && _) = _
    rw [List.map_reverse, b0e]
  have e3 : namesTs q.rev.nodes = namesTs q.nodes := by
    unfold PP.nodes PP.rev
    rw [a2z, a2z]
    show (namesTs (q.decls.reverse.map dT) && _) = _
    rw [List.map_reverse, a8g]
  unfold toldS
  rw [e1, e2, e3]
def DeclOk (l : List d6) : Prop := (l.map (·.c6)).Nodup ∧ (∀ d ∈ l, d.K0 ≤ 1024) ∧ nk l 1 ≤ 32 ∧ nk l 2 ≤ 16
theorem b1E : ∀ (r pre : List d6), DeclOk pre → (declT pre r = none ↔ DeclOk (pre ++ r))
  | [], pre, h => by rw [declT, List.append_nil]; exact ⟨fun _ => h, fun _ => rfl⟩
  | d :: r, pre, h => by
    have hd := a4Q d
    obtain ⟨h1, h2, h3, h4⟩ := h
    rw [declT]
    by_cases c1 : hasN pre d.c6 = true
    · rw [if_pos c1]
      refine ⟨(fun e => by cases e), fun e => ?_⟩
      exfalso
      have := e.1
      rw [List.map_append, List.map_cons, List.nodup_append] at this
      exact this.2.2 d.c6 (P2.1 c1) d.c6 List.mem_cons_self rfl
    · rw [if_neg c1]
      by_cases c2 : 1024 < d.K0
      · rw [if_pos c2]
        refine ⟨(fun e => by cases e), fun e => ?_⟩
        have := e.2.1 d (List.mem_append_right _ List.mem_cons_self)
        omega
      · rw [if_neg c2]
        by_cases c3 : lim (kindD d) < nk (pre ++ [d]) (kindD d)
        · rw [if_pos c3]
          refine ⟨(fun e => by cases e), fun e => ?_⟩
          exfalso
          have e' : nk (pre ++ d :: r) (kindD d) ≤ lim (kindD d) := by
            rcases hd with q | q
            · rw [q]; exact e.2.2.1
            · rw [q]; exact e.2.2.2
          rw [show pre ++ d :: r = (pre ++ [d]) ++ r by simp, a5c] at e'
          omega
        · rw [if_neg c3]
          have hpre : DeclOk (pre ++ [d]) := by
            refine ⟨?_, ?_, ?_, ?_⟩
            · rw [List.map_append, List.nodup_append]
              refine ⟨h1, by simp, fun a ha b hb e => ?_⟩
              rw [List.map_cons, List.map_nil, List.mem_singleton] at hb
              rw [e, hb] at ha
              exact c1 (P2.2 ha)
            · intro x hx
              rcases List.mem_append.1 hx with hx | hx
              · exact h2 x hx
              · rw [List.mem_singleton.1 hx]; omega
            · rcases hd with q | q
              · rw [q] at c3; simp only [lim] at c3
                rw [if_neg (by decide)] at c3; omega
              · rw [a5c, a7r, q, if_neg (by decide)]; omega
            · rcases hd with q | q
              · rw [a5c, a7r, q, if_neg (by decide)]; omega
              · rw [q] at c3; simp only [lim] at c3
                rw [if_pos (by decide)] at c3; omega
          rw [b1E r (pre ++ [d]) hpre, show pre ++ d :: r = (pre ++ [d]) ++ r by simp]
theorem a6r (l : List d6) : declT [] l = none ↔ DeclOk l := b1E l [] ⟨List.nodup_nil, (fun d h => by cases h), Nat.zero_le _, Nat.zero_le _⟩
theorem b9w (l : List d6) (k : Int) : nk l.reverse k = nk l k := by unfold nk; rw [List.filter_reverse, List.length_reverse]
theorem b0f {l : List d6} (h : DeclOk l) : DeclOk l.reverse := by
  obtain ⟨h1, h2, h3, h4⟩ := h
  refine ⟨by rw [List.map_reverse]; exact (List.reverse_perm _).nodup_iff.2 h1, fun d hd => h2 d (List.mem_reverse.1 hd), by rw [b9w]; exact h3, by rw [b9w]; exact h4⟩
theorem b1n : ∀ {l : List d6} (_ : (l.map (·.c6)).Nodup) {d : d6} (_ : d ∈ l), kOf l d.c6 = kindD d
  | x :: l, hn, d, hd => by
    rw [kOf]
    rw [List.map_cons, List.nodup_cons] at hn
    rcases List.mem_cons.1 hd with e | hd
    · rw [e, if_pos rfl]
    · rw [if_neg (fun e => hn.1 (by rw [e]; exact List.mem_map.2 ⟨d, hd, rfl⟩))]
      exact b1n hn.2 hd
theorem c5v {l : List d6} (h : (l.map (·.c6)).Nodup) (s : ByteArray) : kOf l.reverse s = kOf l s := by
  have h' : (l.reverse.map (·.c6)).Nodup := by rw [List.map_reverse]; exact (List.reverse_perm _).nodup_iff.2 h
  by_cases hs : hasN l s = true
  · obtain ⟨d, hd, rfl⟩ := List.mem_map.1 (P2.1 hs)
    rw [b1n h hd, b1n h' (List.mem_reverse.2 hd)]
  · have e1 : kOf l s = 0 := by
      by_cases e : kOf l s = 0
      · exact e
      · exact (hs ((b0d _ _).1 e)).elim
    have e2 : kOf l.reverse s = 0 := by
      by_cases e : kOf l.reverse s = 0
      · exact e
      · have := (b0d _ _).1 e
        exact (hs (P2.2 (by have := P2.1 this; rw [List.map_reverse] at this; exact List.mem_reverse.1 this))).elim
    rw [e1, e2]
theorem b4d {ds ds' : List d6} (h : ∀ s, kOf ds s = kOf ds' s) : ∀ l : List Us, useT ds l = useT ds' l
  | [] => rfl
  | u :: l => by rw [useT, useT, h, b4d h l]
theorem nz {n : Int} (h : n ≠ 0) {s : ByteArray} : ((s, n) : ByteArray × Int).2 ≠ 0 := h
theorem b4e {l pre : List d6} {r : ByteArray × Int} (h : declT pre l = some r) : r.2 ≠ 0 := by
  induction l generalizing pre with
  | nil => rw [declT] at h; cases h
  | cons d l ih =>
    rw [declT] at h
    split at h
    · cases h; exact nz (by decide)
    · split at h
      · cases h; exact nz (by decide)
      · split at h
        · cases h; exact nz (by decide)
        · exact ih h
theorem c2l (q : PP) : decide ((wellS q).2 = 0) = decide ((wellS q.rev).2 = 0) := by
  unfold wellS
  rw [c2k]
  by_cases h0 : toldS q.nodes = 0
  · rw [if_pos h0, if_pos h0]
    show _ = decide ((match declT [] q.decls.reverse with | some r => r | none => useT q.decls.reverse (uTs q.body)).2 = 0)
    cases hd : declT [] q.decls with
    | none =>
      have hok := (a6r _).1 hd
      rw [(a6r _).2 (b0f hok)]
      dsimp only
      rw [b4d (c5v hok.1)]
    | some r =>
      cases hd' : declT [] q.decls.reverse with
      | none =>
        exfalso
        have := b0f ((a6r _).1 hd')
        rw [List.reverse_reverse] at this
        rw [(a6r _).2 this] at hd; cases hd
      | some r' =>
        dsimp only
        rw [decide_eq_false (b4e hd), decide_eq_false (b4e hd')]
  · rw [if_neg h0, if_neg h0]
section
variable {H : Hp}
theorem b1J (hT : TabsH H) {p : o8} {q : PP} (hp : PH H p q) (hsm : q.Sm) {K : Bool → Hp → Prop} (h : ∀ H', Hle H H' → K true H') : L3 p H K := by
  refine a1R _ ?_
  unfold E6
  refine b9v hT fun H1 l1 => ⟨fun e => (by cases e), fun _ => ?_⟩
  refine b1m (hT.le l1) (hp.le l1) hsm fun H2 l2 => ?_
  have l12 := l1.trans l2
  refine ⟨fun _ => h H2 l12, fun hlen => ?_⟩
  have hp2 := hp.le l12
  obtain ⟨hd, hbd, xs, hsl, hxb, hr⟩ := hp2
  have n1 := hd.1
  rw [a0f (a := (p.K9.n : Int) - 1) ⟨by omega, by omega⟩]
  refine a0r (fun (z : Int × List d6 × Sl) H' => -1 ≤ z.1 ∧ z.1 < q.decls.length ∧ H' = H2 ∧ z.2.2 = p.W9 ∧ z.2.1 = (q.decls.drop (z.1 + 1).toNat).reverse) (fun z => (z.1 + 1).toNat) ⟨by dsimp only; omega, by dsimp only; omega, rfl, rfl, by
    dsimp only
    rw [List.drop_eq_nil_of_le (by omega)]; rfl⟩ ?_
  rintro ⟨i, ds, b⟩ H3 next ⟨i0, i1, rfl, hb, hds⟩ hk
  dsimp only at i0 i1 hb hds ⊢
  subst hb
  subst hds
  unfold D1
  refine ⟨fun hq => ?_, fun hq => ?_⟩
  · obtain ⟨x, hx, hE⟩ := hd.get hq (show i < (p.K9.n : Int) by omega)
    have hlt := E9 hx
    have hdrop : q.decls.drop i.toNat = x :: q.decls.drop (i.toNat + 1) := by
      rw [List.drop_eq_getElem_cons hlt]; congr 1
      rw [List.getElem?_eq_getElem hlt] at hx; exact Option.some.inj hx
    refine ⟨hq, by omega, x, hE, by simp only [List.length_reverse, List.length_drop, List.length_cons, List.length_nil]; omega, ?_⟩
    rw [a0f (a := i - 1) ⟨by omega, by omega⟩]
    refine hk _ _ ⟨by dsimp only; omega, by dsimp only; omega, rfl, rfl, ?_⟩ (by dsimp only; omega)
    dsimp only
    rw [show (i - 1 + 1).toNat = i.toNat by omega, hdrop, List.reverse_cons, show (i + 1).toNat = i.toNat + 1 by omega]
  · have e0 : (i + 1).toNat = 0 := by omega
    rw [e0, List.drop_zero]
    unfold C9
    intro s4 H4 l4 hS4 _
    have hp4 : PH H4 ⟨s4, p.W9⟩ q.rev := ⟨hS4, by unfold PP.rev; rw [List.length_reverse]; exact hbd, xs, hsl.le l4, hxb, hr.mono fun _ _ => SH.le l4⟩
    have hsm4 : q.rev.Sm := by
      intro t ht
      refine hsm t ?_
      unfold PP.nodes PP.rev at ht
      unfold PP.nodes
      rcases List.mem_append.1 ht with ht | ht
      · refine List.mem_append_left _ ?_
        rw [List.map_reverse] at ht
        exact List.mem_reverse.1 ht
      · exact List.mem_append_right _ ht
    refine b1m (hT.le (l12.trans l4)) hp4 hsm4 fun H5 l5 => ?_
    rw [c2l, beq_self_eq_true]
    exact h H5 (l12.trans (l4.trans l5))
end
end Go.Proofs.YthldnpmfelniiaaDoor
