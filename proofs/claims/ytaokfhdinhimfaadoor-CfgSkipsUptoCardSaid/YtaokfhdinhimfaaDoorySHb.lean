/- A row of statements that do nothing: a row of points. -/
import Derived.Test.YtaokfhdinhimfaaDoorySH6
import Derived.Test.YtaokfhdinhimfaaDoorySH8
namespace Go.Proofs.YtaokfhdinhimfaaDoor
open Go.RowKit
set_option maxRecDepth 100000
set_option maxHeartbeats 2000000
def skP (n : Nat) : PP := ⟨[], List.replicate n sk1⟩
theorem b6C : ∀ n : Nat, cTs (List.replicate n sk1) = n
  | 0 => rfl
  | n + 1 => by rw [List.replicate_succ, cTs, b6C n]; show 1 + 0 + n = n + 1; omega
theorem b3S : ∀ n : Nat, formTs (List.replicate n sk1) = true
  | 0 => rfl
  | n + 1 => by rw [List.replicate_succ, formTs, b3S n]; rfl
theorem b3l : ∀ n : Nat, namesTs (List.replicate n sk1) = true
  | 0 => rfl
  | n + 1 => by rw [List.replicate_succ, namesTs, b3l n]; rfl
theorem b8o : ∀ n : Nat, dpTs 64 (List.replicate n sk1) 1
  | 0 => by rw [List.replicate_zero, dpTs]; trivial
  | n + 1 => by
    rw [List.replicate_succ, dpTs]
    refine ⟨?_, b8o n⟩
    unfold sk1; rw [dpT, dpTs]; exact ⟨by decide, trivial⟩
theorem b6D : ∀ n : Nat, uTs (List.replicate n sk1) = []
  | 0 => rfl
  | n + 1 => by rw [List.replicate_succ, uTs, b6D n]; rfl
theorem b3T {n : Nat} (hn : n ≤ 4096) : (wellS (skP n)).2 = 0 := by
  refine (b2Z _).2 ⟨(b2X _).2 ?_, (a9E _).1 rfl, fun u hu => ?_⟩
  · have : (skP n).nodes = List.replicate n sk1 := rfl
    rw [this, b6C]
    exact ⟨hn, b8o n, b3S n, b3l n⟩
  · rw [show uTs (skP n).body = [] from b6D n] at hu; cases hu
abbrev ptS (n k : Nat) : Int := atP 0 1 2 n k
theorem a6Z (n k : Nat) (h1 : 1 ≤ n) (hk : k ≤ n) : ptS n k = if k = 0 then 0 else if k = n then 1 else (k : Int) + 1 := by
  unfold ptS atP
  split
  · rfl
  split
  · rfl
  · omega
def eK (n k : Nat) : Ed := bareE (ptS n k) (ptS n (k + 1)) 1
theorem b8p (L : En) (n : Nat) : ∀ (m i : Nat) (g : Gr), i + m = n → blG ((List.replicate n (loT L sk1)).drop i) (ptS n i) (2 + i) 1 g = ⟨g.p, g.t, g.es ++ (List.range' i m).map (eK n)⟩
  | 0, i, g, h => by
    rw [List.drop_of_length_le (by rw [List.length_replicate]; omega), blG]
    simp
  | m + 1, i, g, h => by
    have hf : (List.replicate n (loT L sk1))[i]? = some (loT L sk1) := by rw [List.getElem?_replicate, if_pos (by omega)]
    have hb := b6t hf 0 1 2 g
    rw [List.length_replicate] at hb
    rw [show ptS n i = atP 0 1 2 n i from rfl, hb]
    have ih := b8p L n m (i + 1) ((loT L sk1).st (ptS n i) (ptS n (i + 1)) g) (by omega)
    rw [ih]
    have hst : (loT L sk1).st (ptS n i) (ptS n (i + 1)) g = edG (eK n i) g := rfl
    rw [hst, List.range'_succ, List.map_cons]
    unfold edG
    simp
def skE (n : Nat) : List Ed := (List.range n).map (eK n)
theorem b8q {n : Nat} (h1 : 1 ≤ n) : loS (skP n) = ⟨(n : Int) + 1, 0, skE n⟩ ∧ exS (skP n) = 1 := by
  have hex : exS (skP n) = 1 := by
    unfold exS
    rw [if_neg]
    intro e
    have : (List.replicate n sk1).length = 0 := by rw [show List.replicate n sk1 = [] from e]; rfl
    rw [List.length_replicate] at this; omega
  refine ⟨?_, hex⟩
  unfold loS
  rw [hex, show (skP n).body = List.replicate n sk1 from rfl, List.map_replicate]
  unfold blkG
  rw [List.length_replicate]
  have := b8p (enS (skP n)) n n 0 ⟨1 + 1 + ((n - 1 : Nat) : Int), 0, []⟩ (by omega)
  rw [List.drop_zero, show ptS n 0 = 0 from rfl] at this
  rw [show (1 : Int) + 1 = 2 + ((0 : Nat) : Int) from rfl]
  rw [show (1 : Int) + 1 = 2 + ((0 : Nat) : Int) from rfl] at this
  rw [this]
  unfold skE
  rw [List.range_eq_range', List.nil_append]
  congr 1
  dsimp only; omega
theorem c2o {n : Nat} (h1 : 1 ≤ n) (h2 : n ≤ 4000) : loE (skP n) = 0 := by
  obtain ⟨e, _⟩ := b8q h1
  have hw := b3T (n := n) (by omega)
  have hv : (enS (skP n)).nv = 0 := by
    show ((vN (skP n)).length : Int) = 0
    unfold vN; rw [a9F hw]; rfl
  unfold loE
  rw [if_neg (fun h => h hw), hv, e, if_neg (by dsimp only; omega), if_neg]
  dsimp only
  have : (skE n).length = n := by unfold skE; simp
  omega
theorem b6E {n k : Nat} (h : k < n) : (skE n)[k]? = some (eK n k) := by unfold skE; rw [List.getElem?_map, List.getElem?_range h]; rfl
theorem b3m {n : Nat} (h1 : 1 ≤ n) (p : Int) : ∀ m, m ≤ n → idxS p 0 ((List.range m).map (eK n)) = if p = 0 ∧ 0 < m then [0] else if 2 ≤ p ∧ p - 1 < m then [p - 1] else []
  | 0, _ => by rw [if_neg (by omega), if_neg (by omega)]; rfl
  | m + 1, hm => by
    have ih := b3m h1 p m (by omega)
    rw [List.range_succ, List.map_append, List.map_cons, List.map_nil, a9H, ih]
    have hp : ptS n m = if m = 0 then 0 else (m : Int) + 1 := by
      rw [a6Z n m h1 (by omega)]
      split
      · rfl
      · rw [if_neg (by omega)]
    have hfr : (eK n m).u9 = ptS n m := rfl
    have hl : ((List.map (eK n) (List.range m)).length : Int) = m := by simp
    rw [hfr, hp, hl]
    by_cases hm0 : m = 0
    · subst hm0
      rw [if_pos rfl, if_neg (by omega), if_neg (by omega)]
      by_cases e : p = 0
      · subst e; rfl
      · rw [if_neg (fun q => e q.symm), if_neg (by omega), if_neg (by omega)]; rfl
    · rw [if_neg hm0]
      by_cases e0 : p = 0
      · rw [if_pos (show p = 0 ∧ 0 < m by omega), if_neg (by omega), if_pos (show p = 0 ∧ 0 < m + 1 by omega), List.append_nil]
      · rw [if_neg (show ¬ (p = 0 ∧ 0 < m) by omega), if_neg (show ¬ (p = 0 ∧ 0 < m + 1) by omega)]
        by_cases e1 : (m : Int) + 1 = p
        · rw [if_neg (show ¬ (2 ≤ p ∧ p - 1 < (m : Int)) by omega), if_pos e1, if_pos (show 2 ≤ p ∧ p - 1 < ((m + 1 : Nat) : Int) by omega), List.nil_append]
          congr 1; omega
        · rw [if_neg e1, List.append_nil]
          by_cases e2 : 2 ≤ p ∧ p - 1 < m
          · rw [if_pos e2, if_pos (by omega)]
          · rw [if_neg e2, if_neg (by omega)]
theorem b8r {n k : Nat} (h1 : 1 ≤ n) (hk : k ≤ n) : idxS (ptS n k) 0 (skE n) = if k < n then [(k : Int)] else [] := by
  unfold skE
  rw [b3m h1 _ n (Nat.le_refl n), a6Z n k h1 hk]
  by_cases h0 : k = 0
  · rw [if_pos h0, if_pos (by omega), if_pos (by omega)]; subst h0; rfl
  · rw [if_neg h0]
    by_cases hn : k = n
    · rw [if_pos hn, if_neg (by omega), if_neg (by omega), if_neg (by omega)]
    · rw [if_neg hn, if_neg (by omega), if_pos (by omega), if_pos (by omega)]
      congr 1; omega
section
variable {H : Hp} {c : m0}
theorem b9g {n k : Nat} (h1 : 1 ≤ n) (hk : k < n) (hp : c.f4 = (n : Int) + 1) (hx : c.s7 = 1) : edgeS c (eK n k) = true := by
  have a := a6Z n k h1 (by omega)
  have b := a6Z n (k + 1) h1 (by omega)
  unfold edgeS
  have r : rightS (allS c) (c.m9.n : Int) (eK n k) = true := rfl
  have kk : kindS (eK n k).d4 = true := rfl
  have w1 : within (eK n k).u9 c.f4 = true := by
    unfold within
    show (decide (0 ≤ ptS n k) && decide (ptS n k < c.f4)) = true
    rw [a, hp]
    simp only [Bool.and_eq_true, decide_eq_true_eq]
    split
    · omega
    split <;> omega
  have w2 : within (eK n k).fTo c.f4 = true := by
    unfold within
    show (decide (0 ≤ ptS n (k + 1)) && decide (ptS n (k + 1) < c.f4)) = true
    rw [b, hp]
    simp only [Bool.and_eq_true, decide_eq_true_eq]
    split
    · omega
    split <;> omega
  have w3 : decide ((eK n k).u9 = c.s7) = false := by
    rw [decide_eq_false_iff_not]
    show ¬ ptS n k = c.s7
    rw [a, hx]
    split
    · omega
    split <;> omega
  rw [r, kk, w1, w2, w3]; rfl
theorem b7B {n : Nat} (h1 : 1 ≤ n) (h2 : n ≤ 4000) (hp : c.f4 = (n : Int) + 1) (hx : c.s7 = 1) (ht : c.r8 = 0) : checkS c [] [] (skE n) = 0 := by
  have hl : (skE n).length = n := by unfold skE; simp
  have v : varsS c [] = true := by unfold varsS; rw [ht]; rfl
  have q : pointsS c (skE n) = true := by unfold pointsS; rw [hl, hp]; simp only [Bool.and_eq_true, decide_eq_true_eq]; omega
  have w : within c.s7 c.f4 = true := by unfold within; rw [hx, hp]; simp only [Bool.and_eq_true, decide_eq_true_eq]; omega
  have al : (skE n).all (edgeS c) = true := by
    rw [List.all_eq_true]
    intro e he
    unfold skE at he
    obtain ⟨k, hk, rfl⟩ := List.mem_map.1 he
    exact b9g h1 (List.mem_range.1 hk) hp hx
  have fk : forksS c (skE n) = true := by
    unfold forksS
    rw [List.all_eq_true]
    intro k _
    have hlen : (fromS (skE n) (k : Int)).length ≤ 1 := by
      rw [← a7V (k : Int) 0 (skE n)]
      unfold skE
      rw [b3m h1 _ n (Nat.le_refl n)]
      split
      · simp
      split <;> simp
    cases hq : fromS (skE n) (k : Int) with
    | nil => rfl
    | cons e r =>
      rw [hq] at hlen
      have hr : r = [] := List.length_eq_zero_iff.1 (by simpa using hlen)
      subst hr
      have he : e ∈ fromS (skE n) (k : Int) := by rw [hq]; exact List.mem_singleton_self _
      unfold fromS skE at he
      obtain ⟨j, _, rfl⟩ := List.mem_map.1 (List.mem_filter.1 he).1
      rfl
  unfold checkS gformS
  rw [v, q, w, al, fk]; rfl
end
def bgS (n k : Nat) : List Bool := (List.range (n + 1)).map fun q => decide ((q = 0 ∧ 0 < k) ∨ (2 ≤ q ∧ q ≤ k) ∨ (q = 1 ∧ n < k))
theorem a9a {n k q : Nat} (h : q ≤ n) : (bgS n k)[q]? = some (decide ((q = 0 ∧ 0 < k) ∨ (2 ≤ q ∧ q ≤ k) ∨ (q = 1 ∧ n < k))) := by
  unfold bgS; rw [List.getElem?_map, List.getElem?_range (by omega)]; rfl
theorem b6F {n k : Nat} (h1 : 1 ≤ n) (hk : k ≤ n) : (ptS n k).toNat = if k = 0 then 0 else if k = n then 1 else k + 1 := by
  rw [a6Z n k h1 hk]
  split
  · rfl
  split
  · rfl
  · omega
theorem b3U {n k : Nat} (h1 : 1 ≤ n) (hk : k ≤ n) : (bgS n k).set (ptS n k).toNat true = bgS n (k + 1) := by
  refine List.ext_getElem? fun q => ?_
  have hl : ∀ k, (bgS n k).length = n + 1 := fun k => by unfold bgS; simp
  by_cases hq : q ≤ n
  · rw [List.getElem?_set, a9a hq, a9a hq, b6F h1 hk, hl]
    by_cases e : (if k = 0 then 0 else if k = n then 1 else k + 1) = q
    · rw [if_pos e, if_pos (by omega)]
      congr 1; symm
      rw [decide_eq_true_eq]
      split at e
      · omega
      split at e <;> omega
    · rw [if_neg e]
      congr 1
      rw [decide_eq_decide]
      split at e
      · omega
      split at e <;> omega
  · rw [List.getElem?_eq_none (by rw [List.length_set, hl]; omega), List.getElem?_eq_none (by rw [hl]; omega)]
theorem c1A {n : Nat} (h1 : 1 ≤ n) : ∀ (m k f : Nat) (d : List Int), k + m = n → m + 1 ≤ f → vis (skE n) f (ptS n k) ⟨bgS n k, d⟩ = ⟨bgS n (n + 1), d ++ ((List.range' k (m + 1)).map (ptS n)).reverse⟩ := by
  intro m
  induction m with
  | zero =>
    intro k f d hk hf
    obtain ⟨f, rfl⟩ : ∃ g, f = g + 1 := ⟨f - 1, by omega⟩
    obtain rfl : k = n := by omega
    rw [vis, b8r h1 (Nat.le_refl k), if_neg (Nat.lt_irrefl k), visL, b3U h1 (Nat.le_refl k)]
    rfl
  | succ m ih =>
    intro k f d hk hf
    obtain ⟨f, rfl⟩ : ∃ g, f = g + 1 := ⟨f - 1, by omega⟩
    rw [vis, b8r h1 (by omega), if_pos (by omega), visL, visL, b3U h1 (by omega)]
    have hto : toS (skE n) (k : Int) = ptS n (k + 1) := by
      unfold toS
      rw [Int.toNat_natCast, b6E (by omega)]; rfl
    have hnb : ¬ (bgS n (k + 1)).getD (ptS n (k + 1)).toNat true = true := by
      rw [b6F h1 (by omega)]
      have hq : (if k + 1 = 0 then 0 else if k + 1 = n then 1 else k + 1 + 1) ≤ n := by
        split
        · omega
        split <;> omega
      rw [List.getD_eq_getElem?_getD, a9a hq]
      simp only [Option.getD_some, decide_eq_true_eq]
      split
      · omega
      split <;> omega
    rw [hto, if_neg hnb, ih (k + 1) f d (by omega) (by omega), List.range'_succ (s := k), List.map_cons, List.reverse_cons, List.append_assoc]
theorem c1B {n : Nat} (h1 : 1 ≤ n) : ordS ((n : Int) + 1) (skE n) = (List.range (n + 1)).map (ptS n) := by
  have hw : wkS ((n : Int) + 1) (skE n) = ⟨bgS n (n + 1), ((List.range' 0 (n + 1)).map (ptS n)).reverse⟩ := by
    unfold wkS
    have hb : List.replicate ((n : Int) + 1).toNat false = bgS n 0 := by
      unfold bgS
      refine List.ext_getElem? fun q => ?_
      rw [List.getElem?_replicate, List.getElem?_map]
      by_cases hq : q < n + 1
      · rw [if_pos (by omega), List.getElem?_range hq]
        simp only [Option.map_some, Option.some.injEq]
        symm; rw [decide_eq_false_iff_not]; omega
      · rw [if_neg (by omega), List.getElem?_eq_none (by rw [List.length_range]; omega)]; rfl
    rw [hb]
    have := c1A h1 n 0 ((n : Int) + 1).toNat [] (by omega) (by omega)
    rw [List.nil_append] at this
    exact this
  unfold ordS
  rw [hw]
  dsimp only
  rw [List.reverse_reverse, ← List.range_eq_range']
  have : newS (bgS n (n + 1)) ((n : Int) + 1).toNat = [] := by
    unfold newS
    rw [List.map_eq_nil_iff, List.filter_eq_nil_iff]
    intro q hq
    have hq' := List.mem_range.1 hq
    rw [List.getD_eq_getElem?_getD, a9a (by omega)]
    simp only [Option.getD_some, Bool.not_eq_true', decide_eq_false_iff_not, Classical.not_not]
    omega
  rw [this, List.append_nil]
section
variable {H : Hp}
theorem c2p (n : Nat) : (skP n).Sm := by
  intro t ht
  have ht' : t ∈ List.replicate n sk1 := ht
  rw [List.eq_of_mem_replicate ht']
  exact .mk (by decide) fun t ht => by cases ht
theorem b3C (hT : TabsH H) {a : Int} {X : Prop} (_ : X) {K : Bool → Hp → Prop} (h : ∀ H', Hle H H' → K true H') : S4 a H K := by
  refine a4u _ ?_
  unfold S8
  refine b6y hT fun H1 l1 => ⟨fun e => (by cases e), fun _ => ⟨fun _ => h H1 l1, fun q => ?_⟩⟩
  simp only [Bool.or_eq_false_iff, decide_eq_false_iff_not] at q
  obtain ⟨n, rfl⟩ := Int.eq_ofNat_of_zero_le (show 0 ≤ a by omega)
  have n1 : 1 ≤ n := by omega
  have n2 : n ≤ 1000 := by omega
  refine P5 (fun st H' => H' = H1 ∧ ∃ i : Nat, i ≤ n ∧ st = ((i : Int), Sl.mk none 0 0, List.replicate i (l0.mk 7 ⟨#[]⟩ (Sl.mk none 0 0) (Sl.mk none 0 0) (Sl.mk none 0 0) (Sl.mk none 0 0)))) (fun st => n - st.1.toNat) ⟨rfl, 0, by omega, rfl⟩ ?_
  rintro st H2 next ⟨rfl, i, hi, rfl⟩ hnx
  dsimp only
  unfold J6
  refine ⟨fun c => ?_, fun c => ?_⟩
  · refine ⟨by simp only [List.length_replicate, List.length_cons, List.length_nil]; omega, ?_⟩
    rw [z6 (by omega) (by omega)]
    refine hnx _ _ ⟨rfl, i + 1, by omega, ?_⟩ (by dsimp only; omega)
    rw [List.replicate_succ']; rfl
  obtain rfl : i = n := by omega
  unfold J5
  intro s3 H3 l3 hs3 _
  obtain ⟨hlo, hex⟩ := b8q n1
  have l13 := l1.trans l3
  have hb : C5 (SH H3) (List.replicate i (l0.mk 7 ⟨#[]⟩ (Sl.mk none 0 0) (Sl.mk none 0 0) (Sl.mk none 0 0) (Sl.mk none 0 0))) (List.replicate i sk1) := ⟨by simp, fun j x t hx ht => by
    rw [List.getElem?_replicate] at hx ht
    split at hx
    · rw [if_pos (by assumption)] at ht; cases hx; cases ht; exact b6x H3
    · cases hx⟩
  have hP : PH H3 (m6.mk (Sl.mk none 0 0) s3) (skP i) := ⟨SlH.nil _ _ _, Nat.zero_le _, _, hs3, by simp [big]; omega, hb⟩
  refine b3g (hT.le l13) hP (c2p i) (fun e => (e (c2o n1 (by omega))).elim) fun _ c H4 l4 hc => ?_
  obtain ⟨F, hrow, hF, _⟩ := hc.e
  have hes := hrow.frozen (by decide) hF
  have hcp := hc.p; have hct := hc.t; have hcx := hc.x
  rw [hlo] at hes hcp hct
  dsimp only at hes hcp hct
  rw [hex] at hcx
  have hel : (skE i).length = i := by unfold skE; simp
  have hen := hes.1
  have l14 := l13.trans l4
  have ew : IntKind.wrap .i64 ((i : Int) + 1) = (i : Int) + 1 := z6 (by omega) (by omega)
  rw [ew]
  have hw := b3T (n := i) (by omega)
  have hv := hc.v
  have hva : vN (skP i) = [] := by unfold vN; rw [a9F hw]; rfl
  have haa : ofS (skP i) 2 = [] := by rw [a9F hw]; rfl
  have G : GH H4 c [] [] (skE i) := ⟨by rw [← hva]; exact hv, by have := hc.a; rw [haa] at this; exact this, hes, by simp, by simp, by omega, by rw [hct]; decide⟩
  have hck := b7B (c := c) n1 (by omega) hcp hcx hct
  refine ⟨fun qq => ?_, fun _ => ?_⟩
  · exfalso
    rw [hcp, hcx, hct] at qq
    simp only [decide_true, Bool.not_true, Bool.false_or, Bool.or_eq_true, Bool.not_eq_true', decide_eq_false_iff_not, Bool.or_false] at qq
    exact qq (by omega)
  refine b7A G (fun e => (e hck).elim) fun _ so H5 l5 hso => ?_
  rw [hcp, c1B n1] at hso
  have hon := hso.1
  simp only [List.length_map, List.length_range] at hon
  have hpt : ∀ k : Nat, k ≤ i → EltH H5 so (k : Int) 1 (C9 (ptS i k)) := fun k hk => hso.2 k _ (by rw [List.getElem?_map, List.getElem?_range (by omega)]; rfl)
  have p0 : ptS i 0 = 0 := rfl
  have pn : ptS i i = 1 := by rw [a6Z i i n1 (Nat.le_refl i), if_neg (by omega), if_pos rfl]
  have G5 := G.le l5
  refine ⟨0, fun _ => ⟨by omega, by omega, by have := hpt 0 (by omega); rw [p0] at this; exact this⟩, 1, fun _ => ⟨by omega, by omega, by have := hpt i (Nat.le_refl i); rw [pn] at this; exact this⟩, fun qq => ?_, fun _ => ?_⟩
  · exfalso
    simp only [decide_true, Bool.not_true, Bool.false_or, Bool.or_false, Bool.not_eq_true', decide_eq_false_iff_not] at qq
    exact qq (by omega)
  refine P5 (fun st H' => H' = H5 ∧ ∃ k : Nat, k ≤ i ∧ st = (k : Int)) (fun st => i - st.toNat) ⟨rfl, 0, by omega, rfl⟩ ?_
  rintro st H6 next2 ⟨rfl, k, hk, rfl⟩ hnx2
  unfold Q3
  refine ⟨fun c2 => ?_, fun c2 => ?_⟩
  · have hed := G5.e.2 k _ (b6E (n := i) (by omega))
    have ek : IntKind.wrap .i64 ((k : Int) + 1) = ((k + 1 : Nat) : Int) := by rw [z6 (by omega) (by omega)]; omega
    rw [ek]
    refine ⟨by omega, by omega, eK i k, hed, ptS i k, fun _ => ⟨by omega, by omega, hpt k (by omega)⟩, ptS i (k + 1), fun _ => ⟨by omega, by omega, hpt (k + 1) (by omega)⟩, fun qq => ?_, fun _ => ?_⟩
    · exfalso
      simp [eK] at qq
    · exact hnx2 _ _ ⟨rfl, k + 1, by omega, rfl⟩ (by omega)
  · unfold J4
    exact h H6 (l14.trans l5)
end
end Go.Proofs.YtaokfhdinhimfaaDoor
