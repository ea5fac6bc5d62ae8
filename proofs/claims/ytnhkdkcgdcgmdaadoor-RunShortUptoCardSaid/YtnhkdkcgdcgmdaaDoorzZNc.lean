/- The walk told by counts and depths; a well program without some of its statements; the document's check of declarations and uses is the program's. Plain. -/
import Derived.Test.YtnhkdkcgdcgmdaaDoorzZQx
import Derived.Test.YtnhkdkcgdcgmdaaDoorzZQl
import Derived.Test.YtnhkdkcgdcgmdaaDoorzZNb
namespace Go.Proofs.YtnhkdkcgdcgmdaaDoor
open Go.RowKit
set_option maxRecDepth 100000
set_option maxHeartbeats 2000000
theorem c6p (ds : List m3) : ∀ l : List Us, (useT ds l).2 = 0 ↔ ∀ u ∈ l, kOf ds u.g7 = asU u
  | [] => by rw [useT]; exact ⟨(fun _ u h => by cases h), fun _ => rfl⟩
  | u :: l => by
    rw [useT]
    by_cases h : kOf ds u.g7 = asU u
    · rw [if_pos h, c6p ds l]
      constructor
      · intro g v hv
        rcases List.mem_cons.1 hv with e | hv
        · rw [e]; exact h
        · exact g v hv
      · exact fun g v hv => g v (List.mem_cons_of_mem _ hv)
    · rw [if_neg h]
      constructor
      · intro e
        split at e
        · exact (by decide : (63 : Int) ≠ 0) e |>.elim
        · exact (by decide : (64 : Int) ≠ 0) e |>.elim
      · exact fun g => (h (g u List.mem_cons_self)).elim
theorem b3b (q : PP) : (wellS q).2 = 0 ↔ toldS q.nodes = 0 ∧ DeclOk q.decls ∧ ∀ u ∈ uTs q.body, kOf q.decls u.g7 = asU u := by
  unfold wellS
  by_cases h0 : toldS q.nodes = 0
  · rw [if_pos h0]
    cases hd : declT [] q.decls with
    | none =>
      dsimp only
      rw [c6p]
      exact ⟨fun h => ⟨h0, (b7F _).1 hd, h⟩, fun h => h.2.2⟩
    | some r =>
      dsimp only
      refine ⟨fun e => (d8K hd e).elim, fun h => ?_⟩
      rw [(b7F _).2 h.2.1] at hd; cases hd
  · rw [if_neg h0]
    exact ⟨fun e => (h0 e).elim, fun e => (h0 e.1).elim⟩
end Go.Proofs.YtnhkdkcgdcgmdaaDoor
namespace Go.Proofs.YtnhkdkcgdcgmdaaDoor
open Go.RowKit
set_option maxRecDepth 100000
set_option maxHeartbeats 4000000
theorem g0d {α : Type} {a b : List α} (h : ∀ f : List α → Nat, f [] = 0 → (∀ x y, f (x ++ y) = f x + f y) → f a = f b) : a.Perm b := by
  classical
  refine List.perm_iff_count.2 fun x => ?_
  exact h (fun l => List.count x l) (by simp) (fun a b => by simp [List.count_append])
theorem Inv.re {w0 w : World} {ps : Nat → Prop} {H0 H : Hp} {Fs Gs : List Frag} (D : Frag) (I : Inv w0 ps H0 H Fs w) (h : ∀ f : Frag → Nat, f [] = 0 → (∀ x y, f (x ++ y) = f x + f y) → f (D :: Gs).flatten = f Fs.flatten) : Inv w0 ps H0 H Gs w := (I.perm (Gs := D :: Gs) (g0d h)).drop
abbrev mB (g : Nat) (es : Array MapEntry) (c : Nat) : Frag := [(g, .map es c)]
abbrev pB (g : Nat) (p : C4) : Frag := bx g 44 (q9 p)
abbrev oB (g : Nat) (o : R2) : Frag := bx g 49 (q7 o)
theorem b7G {ν : Type} (k : ByteArray) (v : ν) : ∀ l : List (ByteArray × ν), k ∉ l.map (·.1) → a0b k v l = l ++ [(k, v)]
  | [], _ => rfl
  | p :: r, h => by
    rw [List.map_cons, List.mem_cons, not_or] at h
    rw [a0b, if_neg h.1, b7G k v r h.2]; rfl
theorem d0W {ν : Type} {k : ByteArray} {v : ν} : ∀ {l : List (ByteArray × ν)} {j : Nat}, (l.map (·.1)).Nodup → l[j]? = some (k, v) → lk k l = some v
  | [], _, _, h => by simp at h
  | p :: r, 0, _, h => by
    simp only [List.getElem?_cons_zero, Option.some.injEq] at h
    subst h
    rw [lk, if_pos rfl]
  | p :: r, j + 1, hn, h => by
    simp only [List.getElem?_cons_succ] at h
    rw [List.map_cons, List.nodup_cons] at hn
    have hm : k ∈ r.map (·.1) := List.mem_map.2 ⟨_, List.mem_of_getElem? h, rfl⟩
    have hne : ¬ k = p.1 := fun e => hn.1 (by rw [← e]; exact hm)
    rw [lk, if_neg hne]
    exact d0W hn.2 h
theorem Boxes.fst {lv : List (ByteArray × Option Addr)} {vs : List (ByteArray × Int)} {F : Frag} (h : Boxes lv vs F) : lv.map (·.1) = vs.map (·.1) := by
  induction h with
  | nil => rfl
  | cons _ ih => rw [List.map_cons, List.map_cons, ih]
theorem Arrs.fst {la : List (ByteArray × Sl)} {rs : List (ByteArray × List Int)} {F : Frag} (h : Arrs la rs F) : la.map (·.1) = rs.map (·.1) := by
  induction h with
  | nil => rfl
  | cons _ _ ih => rw [List.map_cons, List.map_cons, ih]
theorem Boxes.snoc {s : ByteArray} {g : Nat} {v : Int} {lv : List (ByteArray × Option Addr)} {vs : List (ByteArray × Int)} {F : Frag} (h : Boxes lv vs F) : Boxes (lv ++ [(s, some ⟨g, 0, none⟩)]) (vs ++ [(s, v)]) (F ++ bx g 2 [vi v]) := by
  induction h with
  | nil => exact .cons .nil
  | cons _ ih => rw [List.append_assoc]; exact .cons ih
theorem Arrs.snoc {s : ByteArray} {sl : Sl} {xs : List Int} {la : List (ByteArray × Sl)} {rs : List (ByteArray × List Int)} {F G : Frag} (h : Arrs la rs F) (hr : RowL 2 1 ci sl xs G) : Arrs (la ++ [(s, sl)]) (rs ++ [(s, xs)]) (F ++ G) := by
  induction h with
  | nil => have := Arrs.cons (s := s) hr .nil; rw [List.append_nil] at this; exact this
  | cons h1 _ ih => rw [List.append_assoc]; exact .cons h1 ih
theorem Arrs.inners {la : List (ByteArray × Sl)} {rs : List (ByteArray × List Int)} {F : Frag} (h : Arrs la rs F) : Inners 2 1 ci (la.map (·.2)) (rs.map (·.2)) F := by
  induction h with
  | nil => exact .nil
  | cons h1 _ ih => exact .cons h1 ih
theorem c2i {ds : List m3} {i : Nat} {d : m3} (h : ds[i]? = some d) : vD (ds.take (i + 1)) = vD (ds.take i) ++ (if 0 < d.E0 then [] else [(d.g7, 0)]) := by
  rw [V9 h]
  unfold vD
  rw [List.filter_append, List.map_append]
  by_cases c : 0 < d.E0 <;> simp [c]
theorem c2j {ds : List m3} {i : Nat} {d : m3} (h : ds[i]? = some d) : aD (ds.take (i + 1)) = aD (ds.take i) ++ (if 0 < d.E0 then [(d.g7, List.replicate d.E0.toNat 0)] else []) := by
  rw [V9 h]
  unfold aD
  rw [List.filter_append, List.map_append]
  by_cases c : 0 < d.E0 <;> simp [c]
theorem d8L (ds : List m3) (i : Nat) : vD ds = vD (ds.take i) ++ vD (ds.drop i) := by
  unfold vD
  rw [← List.map_append, ← List.filter_append, List.take_append_drop]
theorem d8M (ds : List m3) (i : Nat) : aD ds = aD (ds.take i) ++ aD (ds.drop i) := by
  unfold aD
  rw [← List.map_append, ← List.filter_append, List.take_append_drop]
theorem g0e (ds : List m3) : ∀ s ∈ (vD ds).map (·.1), s ∈ ds.map (·.g7) := by
  intro s hs
  unfold vD at hs
  rw [List.map_map] at hs
  obtain ⟨d, hd, rfl⟩ := List.mem_map.1 hs
  exact List.mem_map.2 ⟨d, (List.mem_filter.1 hd).1, rfl⟩
theorem g0f (ds : List m3) : ∀ s ∈ (aD ds).map (·.1), s ∈ ds.map (·.g7) := by
  intro s hs
  unfold aD at hs
  rw [List.map_map] at hs
  obtain ⟨d, hd, rfl⟩ := List.mem_map.1 hs
  exact List.mem_map.2 ⟨d, (List.mem_filter.1 hd).1, rfl⟩
theorem d8N {ds : List m3} (hn : (ds.map (·.g7)).Nodup) {i : Nat} {d : m3} (h : ds[i]? = some d) : d.g7 ∉ (ds.take i).map (·.g7) := by
  intro hm
  obtain ⟨d', hd', he⟩ := List.mem_map.1 hm
  obtain ⟨j, hj⟩ := List.mem_iff_getElem?.1 hd'
  have hji : j < i := by
    have := D2 hj
    rw [List.length_take] at this
    omega
  rw [List.getElem?_take, if_pos hji] at hj
  have e1 : (ds.map (·.g7))[j]? = some d.g7 := by rw [List.getElem?_map, hj, ← he]; rfl
  have e2 : (ds.map (·.g7))[i]? = some d.g7 := by rw [List.getElem?_map, h]; rfl
  have := (List.getElem?_inj (D2 e1) hn).1 (e1.trans e2.symm)
  omega
theorem d3T {ds : List m3} (hn : (ds.map (·.g7)).Nodup) : ((vD ds).map (·.1)).Nodup ∧ ((aD ds).map (·.1)).Nodup := by
  unfold vD aD
  rw [List.map_map, List.map_map]
  exact ⟨hn.sublist (List.filter_sublist.map _), hn.sublist (List.filter_sublist.map _)⟩
theorem c6q {k : Int} (hk : k ≠ 0) {s : ByteArray} : ∀ {l : List m3}, kOf l s = k → ∃ d ∈ l, d.g7 = s ∧ kindD d = k
  | [], h => (hk h.symm).elim
  | d :: r, h => by
    rw [kOf] at h
    by_cases e : d.g7 = s
    · rw [if_pos e] at h; exact ⟨d, List.mem_cons_self, e, h⟩
    · rw [if_neg e] at h
      obtain ⟨d', h1, h2⟩ := c6q hk h
      exact ⟨d', List.mem_cons_of_mem _ h1, h2⟩
theorem e6h {q : PP} (h : (wellS q).2 = 0) : Nm ((vD q.decls).map (·.1)) ((aD q.decls).map (·.1)) (uTs q.body) := by
  obtain ⟨_, _, hu⟩ := (b3b q).1 h
  intro u hm
  have := hu u hm
  unfold asU at this
  constructor
  · intro hi
    rw [if_pos hi] at this
    obtain ⟨d, h1, h2, h3⟩ := c6q (by decide) this
    have hs : 0 < d.E0 := by unfold kindD at h3; split at h3; assumption; cases h3
    rw [← h2]
    unfold aD
    rw [List.map_map]
    exact List.mem_map.2 ⟨d, List.mem_filter.2 ⟨h1, by simpa using hs⟩, rfl⟩
  · intro hi
    rw [if_neg (by rw [hi]; decide)] at this
    obtain ⟨d, h1, h2, h3⟩ := c6q (by decide) this
    have hs : ¬ 0 < d.E0 := by unfold kindD at h3; split at h3; cases h3; assumption
    rw [← h2]
    unfold vD
    rw [List.map_map]
    exact List.mem_map.2 ⟨d, List.mem_filter.2 ⟨h1, by simpa using hs⟩, rfl⟩
theorem g3O {q : PP} (h : (wellS q).2 = 0) {sc : List Int} (hs : ∀ x ∈ sc, o0 x) (n : Nat) : Okst n n ((vD q.decls).map (·.1)) ((aD q.decls).map (·.1)) (s0 q.decls sc n) := by
  obtain ⟨_, hd, _⟩ := (b3b q).1 h
  refine ⟨by show (0 : Int) + n = n; omega, Int.le_refl 0, by show 0 + n ≤ n; omega, rfl, rfl, ?_, ?_, hs⟩
  · intro p hp
    obtain ⟨d, _, rfl⟩ := List.mem_map.1 hp
    show o0 0
    unfold o0; omega
  · intro p hp
    obtain ⟨d, hd', rfl⟩ := List.mem_map.1 hp
    have := hd.2.1 d (List.mem_filter.1 hd').1
    refine ⟨by rw [List.length_replicate]; omega, fun x hx => ?_⟩
    rw [(List.mem_replicate.1 hx).2]
    unfold o0; omega
def errR (q : PP) (sc : List Int) (k : Int) : Int := if (wellS q).2 ≠ 0 then (wellS q).2 else if k < 0 ∨ 65536 < k ∨ 65536 < (sc.length : Int) then 80 else 0
def oz : R2 := ⟨0, 0, 0, ⟨none, 0, 0⟩, ⟨none, 0, 0⟩, ⟨none, 0, 0⟩⟩
def Oown (o : R2) (c : Oc) (Fo : List Frag) : Prop := o.a4a = c.st ∧ o.b7O = c.wr ∧ o.a5B = c.steps ∧ ∃ Fe Fv Fr, Fo = [Fe, Fv, Fr] ∧ RowL 55 3 T6 o.b0R c.events Fe ∧ RowL 2 1 ci o.a2o c.vars Fv ∧ RowsL 45 2 1 ci o.b0S c.arrs Fr
section
variable {E : Pan} {w0 w : World} {ps : Nat → Prop} {H0 H : Hp} {Fs : List Frag} {F : Frag} {K : Value → World → Prop}
theorem g0g : Tryd.prog.info? 45 = some ((Tryd.prog.info? 45).getD default) := by kernel_rfl
theorem g3P {kl kc : IntKind} {n : Int} (I : Inv w0 ps H0 H Fs w) (hn : 0 ≤ n) (hb : n * 9 ≤ 140737488355328) (h : ∀ (s' : Sl) (F' : Frag) (w' : World), RowL 2 1 ci s' (List.replicate n.toNat 0) F' → Inv w0 ps H0 H (F' :: Fs) w' → (∀ k, k < w.heap.size → w'.heap[k]? = w.heap[k]?) → K (.slice s'.a s'.n s'.c) w') : opK Tryd.prog E (xV (Instr.makeSlice 45 (.int kl n) (.int kc n))) w K :=
  e6y (bytes := 8) (x0 := (0 : Int)) Tryd.underlying45 d9c (z := (Value.int .i64 0)) (by kernel_rfl) (by kernel_rfl) (by kernel_rfl) rfl I c4T c4U (by decide) kl kc n hn hb h
theorem g0h {s : Sl} {xs : List Sl} {t2 : Sl} {ys : List Sl} {ks : List Bool} {ty : TypeId} (I : Inv w0 ps H0 H (F :: Fs) w) (hr : RowL 45 1 csl s xs F) (hs : SrcO w csl t2 ys) (hb : (xs.length + ys.length) * 25 ≤ 140737488355328) (h : ∀ (s' : Sl) (F' : Frag) (w' : World), RowL 45 1 csl s' (xs ++ ys) F' → Inv w0 ps H0 H (F' :: Fs) w' → (∀ k, k < w.heap.size → (∀ p ∈ F, p.1 ≠ k) → w'.heap[k]? = w.heap[k]?) → K (.slice s'.a s'.n s'.c) w') : opK Tryd.prog E (xBuiltin .append #[47, 47] ty ks [.slice s.a s.n s.c, .slice t2.a t2.n t2.c]) w K :=
  b4V (bytes := 24) Tryd.underlying47 g0g (z := (Value.slice none 0 0)) (by kernel_rfl) (by kernel_rfl) (by kernel_rfl) (by kernel_rfl) I hr hs hb h
theorem g3Q (s : Sl) (w : World) : (Instr.buildSlice 47 1 #[(0, vs s)]).run Tryd.prog w = .ok (.slice (some ⟨w.heap.size, 0, none⟩) 1 1) (w.alloc (.cells (csl s).toArray 45)) := by kernel_rfl
end
end Go.Proofs.YtnhkdkcgdcgmdaaDoor
