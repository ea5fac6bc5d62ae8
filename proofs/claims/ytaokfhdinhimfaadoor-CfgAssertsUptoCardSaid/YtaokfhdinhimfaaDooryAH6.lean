/- What is known of graphs; asserts: as many edges pass and fail. Contracts off the printed formulas. -/
import Derived.Test.YtaokfhdinhimfaaDooryAH5
namespace Go.Proofs.YtaokfhdinhimfaaDoor
open Go.RowKit
set_option maxRecDepth 100000
set_option maxHeartbeats 2000000
section
variable {H : Hp}
def sk1 : PT := .mk (.stmt 7 ⟨#[]⟩ 0 0 0 0) []
def kn9 : PP := ⟨[], [sk1]⟩
theorem b7Z : loE kn9 = 0 ∧ loS kn9 = ⟨2, 0, [bareE 0 1 1]⟩ ∧ exS kn9 = 1 := ⟨by kernel_rfl, by kernel_rfl, by kernel_rfl⟩
theorem b8a : kn9.Sm := by
  intro t ht
  rcases List.mem_cons.1 ht with e | ht
  · rw [e]; exact .mk (by decide) fun t ht => by cases ht
  · cases ht
theorem b8b (H : Hp) : SH H (j9.mk 7 ⟨#[]⟩ (Sl.mk none 0 0) (Sl.mk none 0 0) (Sl.mk none 0 0) (Sl.mk none 0 0)) sk1 :=
  SH.mk (ts := []) (us := []) (vs := []) (ws := []) (s := j9.mk 7 ⟨#[]⟩ (Sl.mk none 0 0) (Sl.mk none 0 0) (Sl.mk none 0 0) (Sl.mk none 0 0)) (SlH.nil _ _ _) (Nat.zero_le _) A5.nil (SlH.nil _ _ _) (Nat.zero_le _) A5.nil (SlH.nil _ _ _) (Nat.zero_le _) rfl (fun i x t h => by simp at h) (SlH.nil _ _ _) (Nat.zero_le _) rfl (fun i x t h => by simp at h)
theorem b3T (hT : TabsH H) {K : Bool → Hp → Prop} (h : ∀ H', Hle H H' → K true H') : U1 H K := by
  refine a3S ?_
  unfold U5
  intro s H1 l1 hS _
  obtain ⟨k1, k2, k3⟩ := b7Z
  refine b0T (hT.le l1) (q := kn9) ⟨SlH.nil _ _ _, Nat.zero_le _, _, hS, by simp [big], A5.one (b8b _)⟩ b8a (fun e => (e k1).elim) fun _ c H2 l2 hc => ?_
  obtain ⟨F, hrow, hF, _⟩ := hc.e
  have he := hrow.frozen (by decide) hF
  rw [k2] at he
  have hn : c.Y6.n = 1 := he.1
  refine ⟨bareE 0 1 1, fun _ => ⟨by omega, by omega, he.2 0 _ rfl⟩, ?_⟩
  have e1 : c.A9 = 2 := by rw [hc.p, k2]
  have e2 : c.C2 = 1 := by rw [hc.x, k3]
  have := h H2 (l1.trans l2)
  simpa [e1, e2, hn] using this
def cnt (k : Int) (es : List Ed) : Nat := (es.filter fun e => decide (e.d5 = k)).length
theorem a1E (k : Int) (a b : List Ed) : cnt k (a ++ b) = cnt k a + cnt k b := by unfold cnt; rw [List.filter_append, List.length_append]
theorem a1F (k : Int) (x : Ed) : cnt k [x] = if x.d5 = k then 1 else 0 := by
  unfold cnt
  by_cases h : x.d5 = k <;> simp [h]
theorem b8T (k : Int) : kO k ≤ 10 := by
  unfold kO
  have h : ∀ x ∈ kOs, x ≤ 10 := by decide
  rw [List.getD_eq_getElem?_getD]
  cases hq : kOs[k.toNat]? with
  | none => simp
  | some v => exact h v (List.mem_of_getElem? hq)
structure Sc (g g' : Gr) : Prop where
  e : ∀ k : Int, k = 13 ∨ k = 14 → cnt k g'.es = cnt k g.es
theorem Sc.trans {a b c : Gr} (h : Sc a b) (k : Sc b c) : Sc a c := ⟨fun n hn => (k.e n hn).trans (h.e n hn)⟩
theorem Sc.same {a b : Gr} (h : b.es = a.es) : Sc a b := ⟨fun n _ => by rw [h]⟩
theorem a3i {x : Ed} (g : Gr) (h : x.d5 ≤ 12) : Sc g (edG x g) := ⟨fun k hk => by
  unfold edG; dsimp only
  rw [a1E, a1F, if_neg (by omega)]; rfl⟩
structure Nc (f : Fs) : Prop where
  into : ∀ dst a b d g, Sc g (f.into dst a b d g)
  co : ∀ a b c g, Sc g (f.co a b c g)
theorem b2q {L : En} {f : Fs} (h : Nc f) (a d : Int) (g : Gr) : Sc g (opF L f a d g).2.2 := by
  unfold opF
  split
  · exact Sc.same rfl
  · exact Sc.trans (b := teG d (frG g)) (Sc.same rfl) (h.into ..)
theorem b2r {L : En} {f h : Fs} (hf : Nc f) (hh : Nc h) (a d : Int) (g : Gr) : Sc g (twF L f h a d g).2.2.2 := (b2q hf a d g).trans (b2q hh ..)
theorem b0U (fs : List Fs) (tg : Int) (g : Gr) : Sc g (begG fs tg g).2 := by
  unfold begG
  split <;> exact Sc.same rfl
mutual
theorem a6N (L : En) : ∀ t : PT, Nc (loT L t)
  | .mk l cs => by
    have hs := b5o L cs
    rw [loT]
    cases l with
    | expr k n s a =>
      refine ⟨fun dst a b d g => ?_, fun _ _ _ g => Sc.same rfl⟩
      dsimp only [loN]
      have hk := b8T k
      generalize loTs L cs = fs at hs
      unfold inN
      match fs, hs with
      | [], _ => exact a3i _ (by dsimp only; omega)
      | [f], h => exact (b2q (h f (by simp)) a d g).trans (a3i _ (by dsimp only; omega))
      | [f, h'], h => exact (b2r (h f (by simp)) (h h' (by simp)) a d g).trans (a3i _ (by dsimp only; omega))
      | _ :: _ :: _ :: _, _ => exact Sc.same rfl
    | cond k op a b =>
      refine ⟨fun _ _ _ _ g => Sc.same rfl, fun a b c g => ?_⟩
      dsimp only [loN]
      generalize loTs L cs = fs at hs
      unfold coN
      split
      · exact a3i _ (by dsimp only; omega)
      split
      · exact a3i _ (by dsimp only; omega)
      match fs, hs with
      | [], _ => exact Sc.same rfl
      | [f], h =>
        dsimp only
        split
        · exact (h f (by simp)).co ..
        · exact Sc.same rfl
      | [f, h'], h =>
        have h1 := h f (by simp)
        have h2 := h h' (by simp)
        dsimp only
        split
        · exact (Sc.trans (b := frG g) (Sc.same (a := g) rfl) (h1.co ..)).trans (h2.co ..)
        split
        · exact (Sc.trans (b := frG g) (Sc.same (a := g) rfl) (h1.co ..)).trans (h2.co ..)
        · unfold asN
          exact ((b2r h1 h2 a 0 g).trans (a3i _ (by dsimp only; omega))).trans (a3i _ (by dsimp only; omega))
      | _ :: _ :: _ :: _, _ => exact Sc.same rfl
    | stmt k s a b t f => exact ⟨fun _ _ _ _ g => Sc.same rfl, fun _ _ _ g => Sc.same rfl⟩
    | decl a b => exact ⟨fun _ _ _ _ g => Sc.same rfl, fun _ _ _ g => Sc.same rfl⟩
theorem b5o (L : En) : ∀ ts : List PT, ∀ f ∈ loTs L ts, Nc f
  | [] => by rw [loTs]; intro f h; cases h
  | t :: ts => by
    rw [loTs]
    intro f h
    rcases List.mem_cons.1 h with rfl | h
    · exact a6N L t
    · exact b5o L ts f h
end
def lbA : Lab → Nat
  | .stmt k _ _ _ _ _ => if k = 5 then 1 else 0
  | _ => 0
mutual
def aT : PT → Nat
  | .mk l cs => lbA l + aTs cs
def aTs : List PT → Nat
  | [] => 0
  | t :: ts => aT t + aTs ts
end
theorem a3b : ∀ a b : List PT, aTs (a ++ b) = aTs a + aTs b
  | [], b => by rw [List.nil_append, aTs, Nat.zero_add]
  | t :: a, b => by rw [List.cons_append, aTs, aTs, a3b a b, Nat.add_assoc]
theorem b8c {ts : List PT} {i : Nat} {t : PT} (h : ts[i]? = some t) : aTs (ts.take (i + 1)) = aTs (ts.take i) + aT t := by
  rw [D6 h, a3b, aTs, aTs, Nat.add_zero]
theorem a4M : ∀ {ts : List PT} (_ : ∀ t ∈ ts, aT t = 0), aTs ts = 0
  | [], _ => by rw [aTs]
  | t :: ts, h => by rw [aTs, h t (List.mem_cons_self ..), a4M fun u hu => h u (List.mem_cons_of_mem _ hu)]
theorem a0O {α : Type} {R : α → PT → Prop} {xs : List α} {ts : List PT} {P : PT → Prop} (hl : xs.length = ts.length) (h : ∀ (i : Nat) (x : α) (t : PT), xs[i]? = some x → ts[i]? = some t → P t) : ∀ t ∈ ts, P t := fun t ht => by
  obtain ⟨i, hi, rfl⟩ := List.mem_iff_getElem.1 ht
  exact h i xs[i] _ (List.getElem?_eq_getElem (by omega)) (List.getElem?_eq_getElem hi)
theorem EH.a0 {e : i5} {t : PT} (h : EH H e t) : aT t = 0 := by
  induction h with
  | mk _ _ hl _ ih => rw [aT, a4M (a0O (R := fun _ _ => True) hl ih)]; rfl
theorem CH.a0 {e : m2} {t : PT} (h : CH H e t) : aT t = 0 := by
  induction h with
  | mk _ _ hr _ _ hl _ ih =>
    rw [aT, a3b, a4M (a0O (R := fun _ _ => True) hl ih), a4M (a0O (R := fun _ _ => True) hr.1 fun i x t hx ht => (hr.2 i x t hx ht).a0)]; rfl
mutual
theorem b5p : ∀ t : PT, aT t ≤ cT t
  | .mk l cs => by
    rw [aT, cT]
    have := a6O cs
    have : lbA l ≤ 1 := by cases l <;> simp only [lbA] <;> (try split) <;> omega
    omega
theorem a6O : ∀ ts : List PT, aTs ts ≤ cTs ts
  | [] => by rw [aTs, cTs]; exact Nat.le_refl _
  | t :: ts => by have := b5p t; have := a6O ts; rw [aTs, cTs]; omega
end
structure Ac (n : Nat) (g g' : Gr) : Prop where
  e : ∀ k : Int, k = 13 ∨ k = 14 → cnt k g'.es = cnt k g.es + n
theorem Ac.trans {n m : Nat} {a b c : Gr} (h : Ac n a b) (k : Ac m b c) : Ac (n + m) a c := ⟨fun i hi => by rw [k.e i hi, h.e i hi, Nat.add_assoc]⟩
theorem Sc.ac {a b : Gr} (h : Sc a b) : Ac 0 a b := ⟨fun k hk => by rw [h.e k hk]; rfl⟩
theorem Ac.same {n m : Nat} {a b : Gr} (h : Ac n a b) (e : n = m) : Ac m a b := by rw [← e]; exact h
theorem b5q {L : En} : ∀ (ts : List PT), (∀ t ∈ ts, ∀ a tg g, Ac (aT t) g ((loT L t).st a tg g)) → ∀ (a nx tg : Int) (g : Gr), Ac (aTs ts) g (blG (ts.map (loT L)) a nx tg g)
  | [], _, a, nx, tg, g => by rw [List.map_nil, blG]; exact (Sc.same rfl : Sc g g).ac
  | [t], h, a, nx, tg, g => by rw [List.map_cons, List.map_nil, blG]; exact (h t (by simp) ..).same (by rw [aTs, aTs]; rfl)
  | t :: u :: r, h, a, nx, tg, g => by
    rw [List.map_cons, List.map_cons, blG]
    have ih := b5q (u :: r) (fun v hv => h v (List.mem_cons_of_mem _ hv)) nx (nx + 1) tg ((loT L t).st a nx g)
    rw [List.map_cons] at ih
    exact ((h t (by simp) ..).trans ih).same (by rw [aTs, aTs, aTs])
theorem a8n {L : En} {ts : List PT} (h : ∀ t ∈ ts, ∀ a tg g, Ac (aT t) g ((loT L t).st a tg g)) (a tg : Int) (g : Gr) : Ac (aTs ts) g (blkG (ts.map (loT L)) a tg g) := by
  unfold blkG
  exact ((Sc.same rfl : Sc g ⟨g.p + ((ts.map (loT L)).length - 1 : Nat), g.t, g.es⟩).ac.trans (b5q ts h ..)).same (Nat.zero_add _)
theorem b8U {L : En} {x : j9} {t : PT} (he : SH H x t) : formT t = true → ∀ a tg g, Ac (aT t) g ((loT L t).st a tg g) := by
  induction he with
  | @mk s xs ts ys us zs bs vs ws hs hxb hr hy hyb hry hz1 hzb hzl hzr hw1 hwb hwl hwr ih1 ih2 =>
  intro hf a tg g
  rw [formT, Bool.and_eq_true] at hf
  have hk := fS (by omega) (by omega) hf.1
  have hts : aTs ts = 0 := a4M (a0O (R := fun _ _ => True) hr.1 fun i x t hx ht => (hr.2 i x t hx ht).a0)
  have hus : aTs us = 0 := a4M (a0O (R := fun _ _ => True) hry.1 fun i x t hx ht => (hry.2 i x t hx ht).a0)
  simp only [a3Z, Bool.and_eq_true] at hf
  have hvs : ∀ t ∈ vs, ∀ a tg g, Ac (aT t) g ((loT L t).st a tg g) := a0O (R := fun _ _ => True) hzl fun i x t hx ht => ih1 i x t hx ht (a3A hf.2.2.2.1 ht)
  have hws : ∀ t ∈ ws, ∀ a tg g, Ac (aT t) g ((loT L t).st a tg g) := a0O (R := fun _ _ => True) hwl fun i x t hx ht => ih2 i x t hx ht (a3A hf.2.2.2.2 ht)
  rw [b0O, aT]
  dsimp only
  unfold stN
  simp only [a3b, hts, hus, Nat.zero_add]
  have nop : ∀ m : Nat, m = 0 → Ac m g (edG (bareE a tg 1) g) := fun m hm => (a3i g (by dsimp only; omega)).ac.same hm.symm
  have len0 : ∀ {l : List PT}, l.length = 0 → l = [] := fun h => List.length_eq_zero_iff.1 h
  rcases hk with h | h | h | h | h | h
  · obtain rfl := len0 (l := us) (by omega)
    obtain rfl := len0 (l := vs) (by omega)
    obtain rfl := len0 (l := ws) (by omega)
    obtain ⟨u, rfl⟩ := a1P (l := ts) (by omega)
    simp only [List.nil_append, List.append_nil, List.map_cons, List.map_nil, aTs, lbA, if_neg (show ¬ s.d5 = 5 by omega), if_pos h.1]
    have hn := a6N L u
    cases (loT L u).pl with
    | some o => exact (a3i g (by dsimp only; omega)).ac
    | none => exact (hn.into ..).ac
  · obtain rfl := len0 (l := us) (by omega)
    obtain rfl := len0 (l := vs) (by omega)
    obtain rfl := len0 (l := ws) (by omega)
    obtain ⟨u, v, rfl⟩ := a6h (l := ts) (by omega)
    simp only [List.nil_append, List.append_nil, List.map_cons, List.map_nil, aTs, lbA, if_neg (show ¬ s.d5 = 5 by omega), if_neg (show ¬ s.d5 = 1 by omega), if_pos h.1]
    exact ((b2r (a6N L u) (a6N L v) a 0 g).trans (a3i _ (by dsimp only; omega))).ac
  · obtain rfl := len0 (l := ts) (by omega)
    obtain ⟨u, rfl⟩ := a1P (l := us) (by omega)
    have et : ((vs ++ ws).map (loT L)).take vs.length = vs.map (loT L) := by rw [List.map_append, ← List.length_map (f := loT L), List.take_left']; rfl
    have ed : ((vs ++ ws).map (loT L)).drop vs.length = ws.map (loT L) := by rw [List.map_append, ← List.length_map (f := loT L), List.drop_left']; rfl
    simp only [List.nil_append, List.cons_append, List.map_cons, lbA, if_neg (show ¬ s.d5 = 5 by omega), if_neg (show ¬ s.d5 = 1 by omega), if_neg (show ¬ s.d5 = 2 by omega), if_pos h.1, et, ed]
    exact (((((b0U ..).trans (b0U ..)).trans ((a6N L u).co ..)).ac.trans (a8n hvs ..)).trans (a8n hws ..)).same (by omega)
  · obtain rfl := len0 (l := ts) (by omega)
    obtain rfl := len0 (l := ws) (by omega)
    obtain ⟨u, rfl⟩ := a1P (l := us) (by omega)
    simp only [List.nil_append, List.append_nil, List.cons_append, List.map_cons, lbA, if_neg (show ¬ s.d5 = 5 by omega), if_neg (show ¬ s.d5 = 1 by omega), if_neg (show ¬ s.d5 = 2 by omega), if_neg (show ¬ s.d5 = 3 by omega), if_pos h.1, aTs]
    exact (((b0U ..).trans ((a6N L u).co ..)).ac.trans (a8n hvs ..)).same (by omega)
  · obtain rfl := len0 (l := ts) (by omega)
    obtain rfl := len0 (l := vs) (by omega)
    obtain rfl := len0 (l := ws) (by omega)
    obtain ⟨u, rfl⟩ := a1P (l := us) (by omega)
    rcases h.1 with e | e
    · simp only [List.nil_append, List.append_nil, List.map_cons, List.map_nil, lbA, if_neg (show ¬ s.d5 = 1 by omega), if_neg (show ¬ s.d5 = 2 by omega), if_neg (show ¬ s.d5 = 3 by omega), if_neg (show ¬ s.d5 = 4 by omega), if_pos e, aTs]
      refine ⟨fun k hk => ?_⟩
      have h1 := ((a6N L u).co a g.p (g.p + 1) (frG (frG g))).e k hk
      have h2 : ((frG (frG g)).es) = g.es := rfl
      rw [h2] at h1
      unfold edG
      dsimp only
      rw [a1E, a1E, a1F, a1F, h1]
      rcases hk with rfl | rfl <;> simp
    · simp only [List.nil_append, List.append_nil, List.map_cons, List.map_nil, lbA, if_neg (show ¬ s.d5 = 5 by omega), if_neg (show ¬ s.d5 = 1 by omega), if_neg (show ¬ s.d5 = 2 by omega), if_neg (show ¬ s.d5 = 3 by omega), if_neg (show ¬ s.d5 = 4 by omega), if_pos e, aTs]
      exact ((a6N L u).co ..).ac
  · obtain rfl := len0 (l := us) (by omega)
    obtain rfl := len0 (l := ts) (by omega)
    obtain rfl := len0 (l := vs) (by omega)
    obtain rfl := len0 (l := ws) (by omega)
    exact nop _ (by simp only [lbA, aTs, if_neg (show ¬ s.d5 = 5 by omega)])
def AsC (H : Hp) (x : j9) (t : PT) : Prop := ∀ (s0 : Sl) (i : Nat) (n : Nat) (nx : Int × Int → Hp → Prop) (K : Int → Hp → Prop), s0.n ≤ 4096 → i < s0.n → EltH H s0 (i : Int) 6 (j7 x) → n + cT t ≤ 9000 → nx (((n + (aT t - lbA t.lab) : Nat) : Int), ((i + 1 : Nat) : Int)) H → B1 s0 (n : Int) (i : Int) H nx K
theorem a6k {s : Sl} {xs : List j9} {ts : List PT} (hs : SlH H 6 j7 s xs) (hl : xs.length = ts.length) (hk : ∀ (i : Nat) (x : j9) (t : PT), xs[i]? = some x → ts[i]? = some t → AsC H x t ∧ ∃ k s a b c d cs, t = .mk (.stmt k s a b c d) cs ∧ x.d5 = k) (hc : cTs ts ≤ 4096) {K : Int → Hp → Prop} (h : K (aTs ts : Int) H) : E6 s H K := by
  refine a3r _ ?_
  unfold R5
  have hn := hs.1
  have hlen := a2Z ts
  refine Y5 (fun st H' => H' = H ∧ ∃ i : Nat, i ≤ ts.length ∧ st = ((aTs (ts.take i) : Int), (i : Int))) (fun st => ts.length - st.2.toNat) ⟨rfl, 0, by omega, by rw [List.take_zero, aTs]; rfl⟩ ?_
  rintro st H1 next ⟨rfl, i, hi, rfl⟩ hnx
  dsimp only
  unfold O3
  refine ⟨fun q => ?_, fun q => ?_⟩
  · have hiv : i < ts.length := by omega
    obtain ⟨x, hx⟩ := M2 (l := xs) (i := i) (by omega)
    obtain ⟨t, ht⟩ := M2 (l := ts) (i := i) hiv
    obtain ⟨hA, k, sn, a, b, c, d, cs, e, hkk⟩ := hk i x t hx ht
    have h2 := b8c ht
    have h3 := a6O (ts.take i)
    have h4 := a4g ts i
    have h5 := a6i ht
    have h6 := b5p t
    have hE := hs.2 i x hx
    have hla : t.lab = .stmt k sn a b c d := by rw [e]; rfl
    have hlb : lbA t.lab ≤ aT t := by rw [e, aT]; exact Nat.le_add_right _ _
    refine ⟨by omega, by omega, x, hE, fun q5 => ?_, fun q5 => ?_⟩
    · have e1 : lbA t.lab = 1 := by rw [hla]; simp only [lbA]; rw [if_pos (by omega)]
      rw [show IntKind.wrap .i64 ((aTs (ts.take i) : Int) + 1) = ((aTs (ts.take i) + 1 : Nat) : Int) by rw [y7 (by omega) (by omega)]; omega]
      refine hA s i _ _ _ (by omega) (by omega) hE (by omega) (hnx _ _ ⟨rfl, i + 1, by omega, ?_⟩ (by dsimp only; omega))
      rw [h2, e1]
      simp only [Prod.mk.injEq, and_true]; omega
    · have e1 : lbA t.lab = 0 := by rw [hla]; simp only [lbA]; rw [if_neg (by omega)]
      refine hA s i _ _ _ (by omega) (by omega) hE (by omega) (hnx _ _ ⟨rfl, i + 1, by omega, ?_⟩ (by dsimp only; omega))
      rw [h2, e1]
      simp only [Prod.mk.injEq, and_true]; omega
  · obtain rfl : i = ts.length := by omega
    unfold G8
    rw [List.take_of_length_le (by omega)]
    exact h
theorem b8d {x : j9} {t : PT} (he : SH H x t) : cT t ≤ 4096 → AsC H x t ∧ ∃ k s a b c d cs, t = .mk (.stmt k s a b c d) cs ∧ x.d5 = k := by
  induction he with
  | @mk s xs ts ys us zs bs vs ws hs hxb hr hy hyb hry hz1 hzb hzl hzr hw1 hwb hwl hwr ih1 ih2 =>
  intro hct
  refine ⟨fun s0 i n nx K hs0 hi hE hb h => ?_, _, _, _, _, _, _, _, rfl, rfl⟩
  have hts : aTs ts = 0 := a4M (a0O (R := fun _ _ => True) hr.1 fun i x t hx ht => (hr.2 i x t hx ht).a0)
  have hus : aTs us = 0 := a4M (a0O (R := fun _ _ => True) hry.1 fun i x t hx ht => (hry.2 i x t hx ht).a0)
  rw [aT, PT.lab, Nat.add_sub_cancel_left, a3b, a3b, a3b, hts, hus, Nat.zero_add, Nat.zero_add] at h
  rw [cT, a2l, a2l, a2l] at hct hb
  have hv := a6O vs; have hw := a6O ws
  have in_le : ∀ {l : List PT} {i : Nat} {t : PT}, l[i]? = some t → cT t ≤ cTs l := fun {l} {i} {t} h => by
    have := a4g l i; have := a6i h; omega
  unfold B1
  refine ⟨by omega, by omega, s, hE, a6k hz1 hzl (fun i x t hx ht => ih1 i x t hx ht (by have := in_le ht; omega)) (by omega) (a6k hw1 hwl (fun i x t hx ht => ih2 i x t hx ht (by have := in_le ht; omega)) (by omega) ?_)⟩
  have e1 : IntKind.wrap .i64 ((n : Int) + (aTs vs : Int)) = ((n + aTs vs : Nat) : Int) := by rw [S4 ⟨by omega, by omega⟩]; omega
  have e2 : IntKind.wrap .i64 (((n + aTs vs : Nat) : Int) + (aTs ws : Int)) = ((n + (aTs vs + aTs ws) : Nat) : Int) := by rw [S4 ⟨by omega, by omega⟩]; omega
  rw [e1, e2, show IntKind.wrap .i64 ((i : Int) + 1) = ((i + 1 : Nat) : Int) by rw [y7 (by omega) (by omega)]; omega]
  exact h
theorem a9k (hT : TabsH H) {p : m1} {q : PP} (hp : PH H p q) (hsm : q.Sm) {K : Bool → Hp → Prop} (h : ∀ H', Hle H H' → K true H') : O1 p H K := by
  refine a2D _ ?_
  unfold O4
  refine b3T hT fun H1 l1 => ⟨fun e => (by cases e), fun _ => ?_⟩
  refine b0T (hT.le l1) (hp.le l1) hsm (fun e H2 l2 => ⟨fun _ => h H2 (l1.trans l2), fun e2 => (e e2).elim⟩) fun he c H2 l2 hc => ⟨fun e => (e rfl).elim, fun _ => ?_⟩
  have l12 := l1.trans l2
  have hwell : (wellS q).2 = 0 := by
    unfold loE at he
    by_cases h0 : (wellS q).2 = 0
    · exact h0
    · rw [if_pos h0] at he; exact (h0 he).elim
  obtain ⟨hf, hq, _, _⟩ := b1w hwell
  obtain ⟨xs, hxs, hxb, hr⟩ := (hp.le l12).b
  have hac := a8n (L := enS q) (ts := q.body) (a0O (R := fun _ _ => True) hr.1 fun i x t hx ht => b8U (hr.2 i x t hx ht) (a3A hf ht)) 0 (exS q) ⟨1 + exS q, 0, []⟩
  have hn13 : cnt 13 (loS q).es = aTs q.body := by have := hac.e 13 (.inl rfl); rwa [show cnt 13 ([] : List Ed) = 0 from rfl, Nat.zero_add] at this
  have hn14 : cnt 14 (loS q).es = aTs q.body := by have := hac.e 14 (.inr rfl); rwa [show cnt 14 ([] : List Ed) = 0 from rfl, Nat.zero_add] at this
  obtain ⟨F, hrow, hF, _⟩ := hc.e
  have hes := hrow.frozen (by decide) hF
  have hen := hes.1
  have hgl : Gl (4 * cTs q.body) ⟨1 + exS q, 0, []⟩ (loS q) := a5o (b0P (enS q) q.body) 0 (exS q) _
  have hel : (loS q).es.length ≤ 16384 := by
    obtain ⟨l, e, hl⟩ := hgl.es
    rw [e, List.nil_append]; omega
  have hcl : ∀ (k : Int) (i : Nat), cnt k ((loS q).es.take i) ≤ 16384 := fun k i => by
    have h1 : cnt k ((loS q).es.take i) ≤ ((loS q).es.take i).length := List.length_filter_le _ _
    rw [List.length_take] at h1; omega
  refine Y5 (fun st H' => H' = H2 ∧ ∃ i : Nat, i ≤ (loS q).es.length ∧ st = ((cnt 13 ((loS q).es.take i) : Int), (cnt 14 ((loS q).es.take i) : Int), (i : Int))) (fun st => (loS q).es.length - st.2.2.toNat) ⟨rfl, 0, by omega, rfl⟩ ?_
  rintro st H3 next ⟨rfl, i, hi, rfl⟩ hnx
  dsimp only
  unfold L5
  refine ⟨fun qq => ?_, fun qq => ?_⟩
  · obtain ⟨x, hx⟩ := M2 (l := (loS q).es) (i := i) (by omega)
    have ht : (loS q).es.take (i + 1) = (loS q).es.take i ++ [x] := D6 hx
    have c13 := hcl 13 i; have c14 := hcl 14 i
    have ei : IntKind.wrap .i64 ((i : Int) + 1) = ((i + 1 : Nat) : Int) := by rw [y7 (by omega) (by omega)]; omega
    have fin : ∀ a b : Int, a = (cnt 13 ((loS q).es.take (i + 1)) : Int) → b = (cnt 14 ((loS q).es.take (i + 1)) : Int) → t7 a b (i : Int) c p H3 next K := fun a b ha hb => by
      unfold t7
      rw [ha, hb, ei]
      exact hnx _ _ ⟨rfl, i + 1, by omega, rfl⟩ (by dsimp only; omega)
    refine ⟨by omega, by omega, x, hes.2 i x hx, fun k13 => fin _ _ ?_ ?_, fun k13 => ⟨fun k14 => fin _ _ ?_ ?_, fun k14 => fin _ _ ?_ ?_⟩⟩
    · rw [y7 (by omega) (by omega), ht, a1E, a1F, if_pos k13]; omega
    · rw [ht, a1E, a1F, if_neg (by omega)]; omega
    · rw [ht, a1E, a1F, if_neg k13]; omega
    · rw [y7 (by omega) (by omega), ht, a1E, a1F, if_pos k14]; omega
    · rw [ht, a1E, a1F, if_neg k13]; omega
    · rw [ht, a1E, a1F, if_neg k14]; omega
  · obtain rfl : i = (loS q).es.length := by omega
    unfold E5
    rw [List.take_length, hn13, hn14]
    refine a6k hxs hr.1 (fun i x t hx ht => b8d (hr.2 i x t hx ht) ?_) hq ?_
    · have := a4g q.body i; have := a6i ht; omega
    · simpa using h H3 l12
end
end Go.Proofs.YtaokfhdinhimfaaDoor
