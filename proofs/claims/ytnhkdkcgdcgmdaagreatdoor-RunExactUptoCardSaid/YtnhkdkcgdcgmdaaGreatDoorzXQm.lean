/- The walk told by counts and depths; a well program without some of its statements; the document's check of declarations and uses is the program's. Plain. -/
import Derived.Test.YtnhkdkcgdcgmdaaGreatDoorzXQx
import Derived.Test.YtnhkdkcgdcgmdaaGreatDoorzXNb
namespace Go.Proofs.YtnhkdkcgdcgmdaaGreatDoor
open Go.RowKit
set_option maxRecDepth 100000
set_option maxHeartbeats 2000000
theorem c1s (ds : List i8) : ∀ l : List Us, (useT ds l).2 = 0 ↔ ∀ u ∈ l, kOf ds u.d9 = asU u
 | [] => by rw [useT]; exact ⟨(fun _ u h => by cases h), fun _ => rfl⟩
 | u :: l => by
  rw [useT]
  by_cases h : kOf ds u.d9 = asU u
  ·rw [if_pos h, c1s ds l]
   constructor
   ·intro g v hv
    rcases List.mem_cons.1 hv with e | hv
    ·rw [e]; exact h
    ·exact g v hv
   ·exact fun g v hv => g v (List.mem_cons_of_mem _ hv)
  ·rw [if_neg h]
   constructor
   ·intro e
    split at e
    ·exact (by decide : (63 : Int) ≠ 0) e |>.elim
    ·exact (by decide : (64 : Int) ≠ 0) e |>.elim
   ·exact fun g => (h (g u List.mem_cons_self)).elim
theorem a9I (q : PP) : (wellS q).2 = 0 ↔ toldS q.nodes = 0 ∧ DeclOk q.decls ∧ ∀ u ∈ uTs q.body, kOf q.decls u.d9 = asU u := by
 unfold wellS
 by_cases h0 : toldS q.nodes = 0
 ·rw [if_pos h0]
  cases hd : declT [] q.decls with
  | none =>
   dsimp only
   rw [c1s]
   exact ⟨fun h => ⟨h0, (b6b _).1 hd, h⟩, fun h => h.2.2⟩
  | some r =>
   dsimp only
   refine ⟨fun e => (c7i hd e).elim, fun h => ?_⟩
   rw [(b6b _).2 h.2.1] at hd; cases hd
 ·rw [if_neg h0]
  exact ⟨fun e => (h0 e).elim, fun e => (h0 e.1).elim⟩
def findI : List i8 → ByteArray → Int → Int
 | [], _, _ => -1
 | d :: r, s, i => if d.d9 = s then i else findI r s (i + 1)
theorem b3X : ∀ (l : List i8) (s : ByteArray) (i : Int), 0 ≤ i → (0 ≤ findI l s i ↔ hasN l s = true)
 | [], s, i, _ => by simp [findI, hasN, memS]
 | d :: r, s, i, h => by
  rw [findI]
  unfold hasN
  rw [a3Q, List.map_cons, List.mem_cons]
  by_cases e : d.d9 = s
  ·rw [if_pos e]; exact ⟨fun _ => .inl e.symm, fun _ => h⟩
  ·rw [if_neg e, b3X r s (i + 1) (by omega)]
   unfold hasN
   rw [a3Q]
   exact ⟨.inr, fun q => q.elim (fun q => (e q.symm).elim) id⟩
theorem c5V : ∀ (l : List i8) (s : ByteArray) (i : Int), 0 ≤ i → 0 ≤ findI l s i → ∃ d, i ≤ findI l s i ∧ l[(findI l s i - i).toNat]? = some d ∧ kOf l s = kindD d
 | [], s, i, _, h => by simp [findI] at h
 | d :: r, s, i, h0, h => by
  rw [findI] at h ⊢
  rw [kOf]
  by_cases e : d.d9 = s
  ·rw [if_pos e, if_pos e]; exact ⟨d, Int.le_refl _, by rw [Int.sub_self]; rfl, rfl⟩
  ·rw [if_neg e] at h ⊢
   rw [if_neg e]
   obtain ⟨x, h1, h2, h3⟩ := c5V r s (i + 1) (by omega) h
   refine ⟨x, by omega, ?_, h3⟩
   rw [show (findI r s (i + 1) - i).toNat = (findI r s (i + 1) - (i + 1)).toNat + 1 by omega]
   exact h2
set_option maxHeartbeats 4000000
theorem d3N {α : Type} {a b : List α} (h : ∀ f : List α → Nat, f [] = 0 → (∀ x y, f (x ++ y) = f x + f y) → f a = f b) : a.Perm b := by
 classical
 refine List.perm_iff_count.2 fun x => ?_
 exact h (fun l => List.count x l) (by simp) (fun a b => by simp [List.count_append])
theorem Inv.re {w0 w : World} {ps : Nat → Prop} {H0 H : Hp} {Fs Gs : List Frag} (D : Frag) (I : Inv w0 ps H0 H Fs w) (h : ∀ f : Frag → Nat, f [] = 0 → (∀ x y, f (x ++ y) = f x + f y) → f (D :: Gs).flatten = f Fs.flatten) : Inv w0 ps H0 H Gs w := (I.perm (Gs := D :: Gs) (d3N h)).drop
abbrev mB (g : Nat) (es : Array MapEntry) (c : Nat) : Frag := [(g, .map es c)]
abbrev pB (g : Nat) (p : o3) : Frag := bx g 25 (q7 p)
abbrev oB (g : Nat) (o : i5) : Frag := bx g 42 (m9 o)
theorem b6c {ν : Type} (k : ByteArray) (v : ν) : ∀ l : List (ByteArray × ν), k ∉ l.map (·.1) → a1w k v l = l ++ [(k, v)]
 | [], _ => rfl
 | p :: r, h => by
  rw [List.map_cons, List.mem_cons, not_or] at h
  rw [a1w, if_neg h.1, b6c k v r h.2]; rfl
theorem c4d {ν : Type} {k : ByteArray} {v : ν} : ∀ {l : List (ByteArray × ν)} {j : Nat}, (l.map (·.1)).Nodup → l[j]? = some (k, v) → lk k l = some v
 | [], _, _, h => by simp at h
 | p :: r, 0, _, h => by
  simp only [List.getElem?_cons_zero, Option.some.injEq] at h
  subst h
  rw [lk, if_pos rfl]
 | p :: r, j + 1, hn, h => by
  simp only [List.getElem?_cons_succ] at h
  rw [List.map_cons, List.nodup_cons] at hn
  have hm : k ∈ r.map (·.1) := List.mem_map.2 ⟨_, List.mem_of_getElem? h, rfl⟩
  have hne : ¬ k = p.1 := fun e => hn.1 (by rw [← e]; exact hm)
  rw [lk, if_neg hne]
  exact c4d hn.2 h
theorem Boxes.fst {lv : List (ByteArray × Option Addr)} {vs : List (ByteArray × Int)} {F : Frag} (h : Boxes lv vs F) : lv.map (·.1) = vs.map (·.1) := by
 induction h with
 | nil => rfl
 | cons _ ih => rw [List.map_cons, List.map_cons, ih]
theorem Arrs.fst {la : List (ByteArray × Sl)} {rs : List (ByteArray × List Int)} {F : Frag} (h : Arrs la rs F) : la.map (·.1) = rs.map (·.1) := by
 induction h with
 | nil => rfl
 | cons _ _ ih => rw [List.map_cons, List.map_cons, ih]
theorem Boxes.snoc {s : ByteArray} {g : Nat} {v : Int} {lv : List (ByteArray × Option Addr)} {vs : List (ByteArray × Int)} {F : Frag} (h : Boxes lv vs F) : Boxes (lv ++ [(s, some ⟨g, 0, none⟩)]) (vs ++ [(s, v)]) (F ++ bx g 2 [vi v]) := by
 induction h with
 | nil => exact .cons .nil
 | cons _ ih => rw [List.append_assoc]; exact .cons ih
theorem Arrs.snoc {s : ByteArray} {sl : Sl} {xs : List Int} {la : List (ByteArray × Sl)} {rs : List (ByteArray × List Int)} {F G : Frag} (h : Arrs la rs F) (hr : RowL 2 1 ci sl xs G) : Arrs (la ++ [(s, sl)]) (rs ++ [(s, xs)]) (F ++ G) := by
 induction h with
 | nil => have := Arrs.cons (s := s) hr .nil; rw [List.append_nil] at this; exact this
 | cons h1 _ ih => rw [List.append_assoc]; exact .cons h1 ih
theorem Arrs.inners {la : List (ByteArray × Sl)} {rs : List (ByteArray × List Int)} {F : Frag} (h : Arrs la rs F) : Inners 2 1 ci (la.map (·.2)) (rs.map (·.2)) F := by
 induction h with
 | nil => exact .nil
 | cons h1 _ ih => exact .cons h1 ih
theorem b9k {ds : List i8} {i : Nat} {d : i8} (h : ds[i]? = some d) : vD (ds.take (i + 1)) = vD (ds.take i) ++ (if 0 < d.A4 then [] else [(d.d9, 0)]) := by
 rw [N5 h]
 unfold vD
 rw [List.filter_append, List.map_append]
 by_cases c : 0 < d.A4 <;> simp [c]
theorem b9l {ds : List i8} {i : Nat} {d : i8} (h : ds[i]? = some d) : aD (ds.take (i + 1)) = aD (ds.take i) ++ (if 0 < d.A4 then [(d.d9, List.replicate d.A4.toNat 0)] else []) := by
 rw [N5 h]
 unfold aD
 rw [List.filter_append, List.map_append]
 by_cases c : 0 < d.A4 <;> simp [c]
theorem c7j (ds : List i8) (i : Nat) : vD ds = vD (ds.take i) ++ vD (ds.drop i) := by
 unfold vD
 rw [← List.map_append, ← List.filter_append, List.take_append_drop]
theorem c7k (ds : List i8) (i : Nat) : aD ds = aD (ds.take i) ++ aD (ds.drop i) := by
 unfold aD
 rw [← List.map_append, ← List.filter_append, List.take_append_drop]
theorem d3O (ds : List i8) : ∀ s ∈ (vD ds).map (·.1), s ∈ ds.map (·.d9) := by
 intro s hs
 unfold vD at hs
 rw [List.map_map] at hs
 obtain ⟨d, hd, rfl⟩ := List.mem_map.1 hs
 exact List.mem_map.2 ⟨d, (List.mem_filter.1 hd).1, rfl⟩
theorem d3P (ds : List i8) : ∀ s ∈ (aD ds).map (·.1), s ∈ ds.map (·.d9) := by
 intro s hs
 unfold aD at hs
 rw [List.map_map] at hs
 obtain ⟨d, hd, rfl⟩ := List.mem_map.1 hs
 exact List.mem_map.2 ⟨d, (List.mem_filter.1 hd).1, rfl⟩
theorem c7l {ds : List i8} (hn : (ds.map (·.d9)).Nodup) {i : Nat} {d : i8} (h : ds[i]? = some d) : d.d9 ∉ (ds.take i).map (·.d9) := by
 intro hm
 obtain ⟨d', hd', he⟩ := List.mem_map.1 hm
 obtain ⟨j, hj⟩ := List.mem_iff_getElem?.1 hd'
 have hji : j < i := by
  have := s8 hj
  rw [List.length_take] at this
  omega
 rw [List.getElem?_take, if_pos hji] at hj
 have e1 : (ds.map (·.d9))[j]? = some d.d9 := by rw [List.getElem?_map, hj, ← he]; rfl
 have e2 : (ds.map (·.d9))[i]? = some d.d9 := by rw [List.getElem?_map, h]; rfl
 have := (List.getElem?_inj (s8 e1) hn).1 (e1.trans e2.symm)
 omega
theorem c5W {ds : List i8} (hn : (ds.map (·.d9)).Nodup) : ((vD ds).map (·.1)).Nodup ∧ ((aD ds).map (·.1)).Nodup := by
 unfold vD aD
 rw [List.map_map, List.map_map]
 exact ⟨hn.sublist (List.filter_sublist.map _), hn.sublist (List.filter_sublist.map _)⟩
theorem c1t {k : Int} (hk : k ≠ 0) {s : ByteArray} : ∀ {l : List i8}, kOf l s = k → ∃ d ∈ l, d.d9 = s ∧ kindD d = k
 | [], h => (hk h.symm).elim
 | d :: r, h => by
  rw [kOf] at h
  by_cases e : d.d9 = s
  ·rw [if_pos e] at h; exact ⟨d, List.mem_cons_self, e, h⟩
  ·rw [if_neg e] at h
   obtain ⟨d', h1, h2⟩ := c1t hk h
   exact ⟨d', List.mem_cons_of_mem _ h1, h2⟩
theorem b8p {q : PP} (h : (wellS q).2 = 0) : Nm ((vD q.decls).map (·.1)) ((aD q.decls).map (·.1)) (uTs q.body) := by
 obtain ⟨_, _, hu⟩ := (a9I q).1 h
 intro u hm
 have := hu u hm
 unfold asU at this
 constructor
 ·intro hi
  rw [if_pos hi] at this
  obtain ⟨d, h1, h2, h3⟩ := c1t (by decide) this
  have hs : 0 < d.A4 := by unfold kindD at h3; split at h3; assumption; cases h3
  rw [← h2]
  unfold aD
  rw [List.map_map]
  exact List.mem_map.2 ⟨d, List.mem_filter.2 ⟨h1, by simpa using hs⟩, rfl⟩
 ·intro hi
  rw [if_neg (by rw [hi]; decide)] at this
  obtain ⟨d, h1, h2, h3⟩ := c1t (by decide) this
  have hs : ¬ 0 < d.A4 := by unfold kindD at h3; split at h3; cases h3; assumption
  rw [← h2]
  unfold vD
  rw [List.map_map]
  exact List.mem_map.2 ⟨d, List.mem_filter.2 ⟨h1, by simpa using hs⟩, rfl⟩
theorem c4e {q : PP} (h : (wellS q).2 = 0) {sc : List Int} (hs : ∀ x ∈ sc, o8 x) (n : Nat) : Okst n n ((vD q.decls).map (·.1)) ((aD q.decls).map (·.1)) (s0 q.decls sc n) := by
 obtain ⟨_, hd, _⟩ := (a9I q).1 h
 refine ⟨by show (0 : Int) + n = n; omega, Int.le_refl 0, by show 0 + n ≤ n; omega, rfl, rfl, ?_, ?_, hs⟩
 ·intro p hp
  obtain ⟨d, _, rfl⟩ := List.mem_map.1 hp
  show o8 0
  unfold o8; omega
 ·intro p hp
  obtain ⟨d, hd', rfl⟩ := List.mem_map.1 hp
  have := hd.2.1 d (List.mem_filter.1 hd').1
  refine ⟨by rw [List.length_replicate]; omega, fun x hx => ?_⟩
  rw [(List.mem_replicate.1 hx).2]
  unfold o8; omega
def errR (q : PP) (sc : List Int) (k : Int) : Int := if (wellS q).2 ≠ 0 then (wellS q).2 else if k < 0 ∨ 65536 < k ∨ 65536 < (sc.length : Int) then 80 else 0
def oz : i5 := ⟨0, 0, 0, ⟨none, 0, 0⟩, ⟨none, 0, 0⟩, ⟨none, 0, 0⟩⟩
def Oown (o : i5) (c : Oc) (Fo : List Frag) : Prop := o.u6 = c.st ∧ o.u1 = c.wr ∧ o.s7 = c.steps ∧ ∃ Fe Fv Fr, Fo = [Fe, Fv, Fr] ∧ RowL 95 3 r8 o.Q6 c.events Fe ∧ RowL 2 1 ci o.a5D c.vars Fv ∧ RowsL 37 2 1 ci o.O9 c.arrs Fr
section
variable {E : Pan} {w0 w : World} {ps : Nat → Prop} {H0 H : Hp} {Fs : List Frag} {F : Frag} {K : Value → World → Prop}
theorem d3Q : Tryz.prog.info? 37 = some ((Tryz.prog.info? 37).getD default) := by kernel_rfl
theorem d4F {kl kc : IntKind} {n : Int} (I : Inv w0 ps H0 H Fs w) (hn : 0 ≤ n) (hb : n * 9 ≤ 140737488355328) (h : ∀ (s' : Sl) (F' : Frag) (w' : World), RowL 2 1 ci s' (List.replicate n.toNat 0) F' → Inv w0 ps H0 H (F' :: Fs) w' → (∀ k, k < w.heap.size → w'.heap[k]? = w.heap[k]?) → K (.slice s'.a s'.n s'.c) w') : opK Tryz.prog E (xV (Instr.makeSlice 37 (.int kl n) (.int kc n))) w K :=
 c4v (bytes := 8) (x0 := (0 : Int)) Tryz.underlying37 c3m (z := (Value.int .i64 0)) (by kernel_rfl) (by kernel_rfl) (by kernel_rfl) rfl I b3N b4y (by decide) kl kc n hn hb h
theorem d3R {s : Sl} {xs : List Sl} {t2 : Sl} {ys : List Sl} {ks : List Bool} {ty : TypeId} (I : Inv w0 ps H0 H (F :: Fs) w) (hr : RowL 37 1 csl s xs F) (hs : SrcO w csl t2 ys) (hb : (xs.length + ys.length) * 25 ≤ 140737488355328) (h : ∀ (s' : Sl) (F' : Frag) (w' : World), RowL 37 1 csl s' (xs ++ ys) F' → Inv w0 ps H0 H (F' :: Fs) w' → (∀ k, k < w.heap.size → (∀ p ∈ F, p.1 ≠ k) → w'.heap[k]? = w.heap[k]?) → K (.slice s'.a s'.n s'.c) w') : opK Tryz.prog E (xBuiltin .append #[40, 40] ty ks [.slice s.a s.n s.c, .slice t2.a t2.n t2.c]) w K :=
 b0g (bytes := 24) Tryz.underlying40 d3Q (z := (Value.slice none 0 0)) (by kernel_rfl) (by kernel_rfl) (by kernel_rfl) (by kernel_rfl) I hr hs hb h
theorem d4G (s : Sl) (w : World) : (Instr.buildSlice 40 1 #[(0, vs s)]).run Tryz.prog w = .ok (.slice (some ⟨w.heap.size, 0, none⟩) 1 1) (w.alloc (.cells (csl s).toArray 37)) := by kernel_rfl
end
section
variable {H : Hp}
theorem c5X {ν : Type} {l : List (ByteArray × ν)} {ks : List ByteArray} (h : l.map (·.1) = ks) {j : Nat} {s : ByteArray} (hs : ks[j]? = some s) : ∃ v, l[j]? = some (s, v) := by
 rw [← h, List.getElem?_map] at hs
 cases hq : l[j]? with
 | none => rw [hq] at hs; cases hs
 | some x =>
  rw [hq] at hs
  obtain ⟨a, b⟩ := x
  cases hs
  exact ⟨b, rfl⟩
theorem drop_at {ds : List i8} {i : Nat} {d : i8} (h : ds[i]? = some d) : ds.drop i = d :: ds.drop (i + 1) := by
 have hi := s8 h
 rw [List.drop_eq_getElem_cons hi]
 congr 1
 rw [List.getElem?_eq_getElem hi] at h
 exact Option.some.inj h
theorem d0z {ds : List i8} {i : Nat} {d : i8} (h : ds[i]? = some d) (c : ¬ 0 < d.A4) : ((vD ds).map (·.1))[(vD (ds.take i)).length]? = some d.d9 := by
 rw [c7j ds i, drop_at h, List.getElem?_map, List.getElem?_append_right (Nat.le_refl _), Nat.sub_self]
 unfold vD
 simp [c]
theorem d0A {ds : List i8} {i : Nat} {d : i8} (h : ds[i]? = some d) (c : 0 < d.A4) : ((aD ds).map (·.1))[(aD (ds.take i)).length]? = some d.d9 := by
 rw [c7k ds i, drop_at h, List.getElem?_map, List.getElem?_append_right (Nat.le_refl _), Nat.sub_self]
 unfold aD
 simp [c]
theorem c5Y (l : List i8) : (vD l).length ≤ l.length := by unfold vD; rw [List.length_map]; exact List.length_filter_le _ _
theorem c5Z (l : List i8) : (aD l).length ≤ l.length := by unfold aD; rw [List.length_map]; exact List.length_filter_le _ _
theorem c6a {α β : Type} {f : α → β} (l : List α) (n : Nat) : ((l.take n).map f).length ≤ n := by rw [List.length_map, List.length_take]; omega
theorem c6b {α β : Type} {f : α → β} {l : List α} {n : Nat} {x : α} (h : l[n]? = some x) : (l.take (n + 1)).map f = (l.take n).map f ++ [f x] := by rw [N5 h, List.map_append]; rfl
theorem c7m {q : PP} {p : o3} (hp : PH H p q) (hn : (q.decls.map (·.d9)).Nodup) {σ : St} {X : Cx} {g3 g6 g10 g14 : Nat} {sc ev : Sl} {Fe Fv Fa : Frag} (W : RnW X σ H sc ev Fe Fv Fa) (hv : σ.vars.map (·.1) = (vD q.decls).map (·.1)) (hr : σ.arrs.map (·.1) = (aD q.decls).map (·.1)) {w0 w : World} {ps : Nat → Prop} {H0 : Hp} {st wr : Int} {R : Value → World → Prop} {E : Pan}
  (I : Inv w0 ps H0 H [oB g14 ⟨st, wr, σ.steps, ev, ⟨none, 0, 0⟩, ⟨none, 0, 0⟩⟩, bx g10 80 (rcs X σ sc ev), Fe, Fv, Fa, oB g6 oz, pB g3 p] w)
  (hR : ∀ (o : i5) (Fo : List Frag) (w' : World), Oown o (ocS (st, wr, σ)) Fo → Inv w0 ps H0 H Fo w' → R (.tuple #[.agg (m9 o).toArray, vi 0]) w') :
  xcut (fun _ d6H => c0Q (rP g6) (rP g14) d6H R E) fun j2 =>
   opK Tryz.prog E (xV (Instr.fieldAt 25 (rP g3) 0)) w fun d3S d6I => opK Tryz.prog E (xV (Instr.loadAt 22 d3S)) d6I fun c6c d6J => opK Tryz.prog E (xBuiltin .len #[22] 3 [false] [c6c]) d6J fun d3T d6K =>
    xloop [91] [(Value.int .i64 0)] d6K fun τ_138 d4H next3 => c0R (rP g6) (rP g10) (rP g14) c6c d3T (τ_138 91) d4H next3 j2 R E := by
 refine r5 fun j2 hx2 => ?_
 have hds := hp.d
 have hdn := hds.1
 have hbd := hp.bd
 simp only [big] at hbd
 have lvf := W.hvs.fst.trans hv
 have laf := W.has.fst.trans hr
 have nd := c5W hn
 refine a8 O1 ?_
 refine b6 (ld1 Tryz.isAgg22 ((I.bring 6).at1 (o := 0) (vs := [vs p.D9]) (nb rfl) rfl)) ?_
 refine a8 (a3w _ _ _) ?_
 refine y7 (J := fun n l w' => ∃ (i : Nat) (sv sr : Sl) (Fvr Fsr : Frag), n = q.decls.length - i ∧ l = [vi (i : Int)] ∧ i ≤ q.decls.length ∧ RowL 2 1 ci sv ((σ.vars.take (vD (q.decls.take i)).length).map (·.2)) Fvr ∧ RowL 37 1 csl sr ((X.la.take (aD (q.decls.take i)).length).map (·.2)) Fsr ∧
  Inv w0 ps H0 H [oB g14 ⟨st, wr, σ.steps, ev, sv, sr⟩, bx g10 80 (rcs X σ sc ev), Fe, Fv, Fa, oB g6 oz, pB g3 p, Fvr, Fsr] w')
  ⟨_, 0, ⟨none, 0, 0⟩, ⟨none, 0, 0⟩, [], [], rfl, rfl, Nat.zero_le _, RowL.nil b3N b4y, RowL.nil b3e b3f, I.re [] (fun f f0 fa => by simp only [pB, oB, bx, List.flatten_cons, List.flatten_nil, f0, fa]; omega)⟩ ?_
 rintro n τ w4 next3 ⟨i, sv, sr, Fvr, Fsr, rfl, hl4, hi, hrv, hrs, I4⟩ hn3
 simp only [List.map_cons, List.map_nil, List.cons.injEq, and_true] at hl4
 simp only [hl4]
 unfold c0R
 refine a8 (r7 _ _ _ _ _ _) ?_
 refine G4 (fun c5 => ?_) (fun c5 => ?_)
 ·obtain ⟨d, hd⟩ := r6 (l := q.decls) (i := i) (by omega)
  obtain ⟨g5, o5, ha5, hA5⟩ := hds.2 i d hd
  have hlv := c5Y (q.decls.take i)
  have hla := c5Z (q.decls.take i)
  rw [List.length_take] at hlv hla
  have hlv2 := c6a (f := fun x : ByteArray × Int => x.2) σ.vars (vD (q.decls.take i)).length
  have hla2 := c6a (f := fun x : ByteArray × Sl => x.2) X.la (aD (q.decls.take i)).length
  refine r5 fun j4 hx4 => ?_
  refine a8 (a1x ha5 _ _ _ _ (by omega) (by omega)) ?_
  refine b6 (ldA (vs := o7 d) Tryz.isAgg71 Tryz.sizeOf71 rfl (I4.atH hA5)) ?_
  refine B9 I4 Tryz.zeroValue71 (cs := [(Value.string ⟨#[]⟩), (vi 0)]) rfl fun g16 w6 I6 _ => ?_
  refine o4 I6 Tryz.sizeOf71 (vs := (o7 d)) (cs' := (o7 d)) rfl rfl (nb rfl) rfl rfl fun w7 I7 _ => ?_
  refine a8 V9 ?_
  refine b6 (ld1 Tryz.isAgg3 (I7.at1 (o := 1) (vs := [vi d.A4]) (nb rfl) rfl)) ?_
  refine a8 (Q2 _ _ _ _ _ _) ?_
  have nxt : ∀ (sv' sr' : Sl) (Fvr' Fsr' : Frag) (w' : World), RowL 2 1 ci sv' ((σ.vars.take (vD (q.decls.take (i + 1))).length).map (·.2)) Fvr' → RowL 37 1 csl sr' ((X.la.take (aD (q.decls.take (i + 1))).length).map (·.2)) Fsr' →
    Inv w0 ps H0 H [oB g14 ⟨st, wr, σ.steps, ev, sv', sr'⟩, bx g10 80 (rcs X σ sc ev), Fe, Fv, Fa, oB g6 oz, pB g3 p, Fvr', Fsr'] w' → j4 [] w' := fun sv' sr' Fvr' Fsr' w' h1 h2 J => by
   refine hx4 _ _ ?_
   unfold c5v
   intro _
   refine a8 (r9 _ _ _ _ _ _) ?_
   rw [y9 (by omega) (by omega)]
   exact hn3 _ _ _ (show q.decls.length - (i + 1) < q.decls.length - i by omega) ⟨i + 1, sv', sr', Fvr', Fsr', rfl, rfl, by omega, h1, h2, J⟩
  refine G4 (fun c => ?_) (fun c => ?_)
  ·obtain ⟨sl, hsl⟩ := c5X laf (d0A hd c)
   have hlk := c4d (by rw [laf]; exact nd.2) hsl
   refine U6 I7 fun w8 I8 => ?_
   refine j8 a0j ?_
   refine j8 (m3 _) ?_
   refine j8 b3s ?_
   refine j8 Q5 ?_
   refine u7 (ld1 Tryz.isAgg40 ((I8.bring 1).at1 (o := 5) (vs := [vs sr]) (nb rfl) rfl)) ?_
   refine u7 (ld1 Tryz.isAgg78 ((I8.bring 2).at1 (o := 5) (vs := [.map X.ma]) (nb rfl) rfl)) ?_
   refine u7 (ld1 Tryz.isAgg9 (I8.at1 (o := 0) (vs := [.string d.d9]) (nb rfl) rfl)) ?_
   refine b2h (keyS Tryz.underlying9) Tryz.underlying78 (z := (⟨none, 0, 0⟩ : Sl)) (fun w => Tryz.zeroValue37 w) I8 W.hma d.d9 ?_
   rw [hlk, Option.getD_some]
   refine a2l (e := 37) (c := csl) (xs := [sl]) I8 (d4G _) rfl rfl b3e b3f (nb rfl) fun s9 F9 w9 hr9 I9 k9 => ?_
   refine ⟨k9 _ (I8.bring 1).lt1, ?_⟩
   refine d3R (s := sr) (I9.bring 10) hrs (hr9.srcO ((I9.bring 10).bring 1)) (by rw [List.length_singleton]; omega) fun s10 F10 w10 hr10 I10 _ => ?_
   refine j8 a0j ?_
   refine o4 (I10.bring 3) Tryz.sizeOf40 (vs := [vs s10]) (cs' := m9 ⟨st, wr, σ.steps, ev, sv, s10⟩) rfl rfl (nb rfl) rfl rfl fun w11 I11 _ => ?_
   refine nxt sv s10 Fvr F10 _ ?_ ?_ (I11.re (F9 ++ bx g16 71 (o7 d)) (fun f f0 fa => by simp only [pB, oB, bx, List.flatten_cons, List.flatten_nil, f0, fa]; omega))
   ·rw [b9k hd, if_pos c, List.append_nil]; exact hrv
   ·rw [b9l hd, if_pos c, List.length_append, List.length_singleton, c6b hsl]; exact hr10
  ·obtain ⟨v, hvv⟩ := c5X hv (d0z hd c)
   have hlk := c4d (by rw [hv]; exact nd.1) hvv
   obtain ⟨g9, Fr, hlv9, hp9, _⟩ := W.hvs.get hlk
   refine U6 I7 fun w8 I8 => ?_
   refine j8 a2s ?_
   refine j8 (m3 _) ?_
   refine j8 b0k ?_
   refine j8 Q5 ?_
   refine u7 (ld1 Tryz.isAgg37 ((I8.bring 1).at1 (o := 4) (vs := [vs sv]) (nb rfl) rfl)) ?_
   refine u7 (ld1 Tryz.isAgg77 ((I8.bring 2).at1 (o := 4) (vs := [.map X.mv]) (nb rfl) rfl)) ?_
   refine u7 (ld1 Tryz.isAgg9 (I8.at1 (o := 0) (vs := [.string d.d9]) (nb rfl) rfl)) ?_
   refine b2h (keyS Tryz.underlying9) Tryz.underlying77 (z := (none : Option Addr)) (fun w => Tryz.zeroValue81 w) I8 W.hmv d.d9 ?_
   rw [hlv9, Option.getD_some]
   refine j8 (m3 _) ?_
   refine u7 (ld1 Tryz.isAgg2 ((((I8.bring 4).p1 hp9).un2).at1 (o := 0) (vs := [vi v]) (nb rfl) rfl)) ?_
   refine a2l (e := 2) (c := ci) (xs := [v]) I8 (c2i _) rfl rfl b3N b4y (nb rfl) fun s9 F9 w9 hr9 I9 k9 => ?_
   refine ⟨k9 _ (I8.bring 1).lt1, ?_⟩
   refine b9F (s := sv) (I9.bring 9) hrv (hr9.srcO ((I9.bring 9).bring 1)) (by rw [List.length_singleton]; omega) fun s10 F10 w10 hr10 I10 _ => ?_
   refine j8 a2s ?_
   refine o4 (I10.bring 3) Tryz.sizeOf37 (vs := [vs s10]) (cs' := m9 ⟨st, wr, σ.steps, ev, s10, sr⟩) rfl rfl (nb rfl) rfl rfl fun w11 I11 _ => ?_
   refine nxt s10 sr F10 Fsr _ ?_ ?_ (I11.re (F9 ++ bx g16 71 (o7 d)) (fun f f0 fa => by simp only [pB, oB, bx, List.flatten_cons, List.flatten_nil, f0, fa]; omega))
   ·rw [b9k hd, if_neg c, List.length_append, List.length_singleton, c6b hvv]; exact hr10
   ·rw [b9l hd, if_neg c, List.append_nil]; exact hrs
 ·refine hx2 _ _ ?_
  have hie : i = q.decls.length := by omega
  subst hie
  rw [List.take_length] at hrv hrs
  have e1 : (vD q.decls).length = σ.vars.length := by rw [← List.length_map (f := (·.1)), ← hv, List.length_map]
  have e2 : (aD q.decls).length = X.la.length := by rw [← List.length_map (f := (·.1)), ← laf, List.length_map]
  rw [e1, List.take_length] at hrv
  rw [e2, List.take_length] at hrs
  unfold c0Q
  intro _
  refine b6 (ldA (vs := m9 ⟨st, wr, σ.steps, ev, sv, sr⟩) Tryz.isAgg42 Tryz.sizeOf42 rfl (I4.at1 (o := 0) (nb rfl) rfl)) ?_
  refine o4 (I4.bring 5) Tryz.sizeOf42 (vs := m9 ⟨st, wr, σ.steps, ev, sv, sr⟩) (cs' := m9 ⟨st, wr, σ.steps, ev, sv, sr⟩) rfl rfl (nb rfl) rfl rfl fun w6 I6 _ => ?_
  refine a6X (vs := m9 ⟨st, wr, σ.steps, ev, sv, sr⟩) Tryz.isAgg42 Tryz.sizeOf42 rfl (I6.at1 (o := 0) (nb rfl) rfl) ?_
  refine hR _ [Fe, Fvr, Fsr ++ Fa] _ ⟨rfl, rfl, rfl, Fe, Fvr, Fsr ++ Fa, rfl, W.hev, hrv, X.la.map (·.2), Fsr, Fa, hrs, W.has.inners, .refl _⟩ ?_
  exact I6.re (oB g6 ⟨st, wr, σ.steps, ev, sv, sr⟩ ++ (oB g14 ⟨st, wr, σ.steps, ev, sv, sr⟩ ++ (bx g10 80 (rcs X σ sc ev) ++ (Fv ++ pB g3 p)))) (fun f f0 fa => by simp only [pB, oB, bx, List.flatten_cons, List.flatten_nil, f0, fa]; omega)
end
abbrev d3U : Nat := 4096
section
variable {H : Hp}
theorem SH.node {k : Int} {nm : ByteArray} {s1 s2 s3 s4 : Sl} {xs : List m2} {ts : List PT} {ys : List o0} {us : List PT} {zs bs : List m7} {vs ws : List PT}
  (h1 : SlH H 4 f4 s1 xs) (b1 : xs.length ≤ big) (r1 : C0 (EH H) xs ts) (h2 : SlH H 4 h9 s2 ys) (b2 : ys.length ≤ big) (r2 : C0 (CH H) ys us) (h3 : SlH H 6 f8 s3 zs) (b3 : zs.length ≤ big) (r3 : C0 (SH H) zs vs) (h4 : SlH H 6 f8 s4 bs) (b4 : bs.length ≤ big) (r4 : C0 (SH H) bs ws) :
  SH H ⟨k, nm, s1, s2, s3, s4⟩ (sN k nm ts us vs ws) := SH.mk (s := ⟨k, nm, s1, s2, s3, s4⟩) h1 b1 r1 h2 b2 r2 h3 b3 r3.1 r3.2 h4 b4 r4.1 r4.2
theorem PH.ars {p : o3} {q : PP} (hp : PH H p q) (hsm : q.Sm) (h : toldS q.nodes = 0) : (∀ t ∈ q.body, ArS t ∧ formT t = true) ∧ cTs q.body ≤ d3U := by
 have hi := (b5R _).1 h
 have hf := hi.2.2.1
 unfold PP.nodes at hf
 rw [a2y, Bool.and_eq_true] at hf
 obtain ⟨_, _, xs, hsl, hxb, hr⟩ := hp
 refine ⟨fun t ht => ?_, ?_⟩
 ·obtain ⟨i, hi⟩ := List.getElem?_of_mem ht
  obtain ⟨x, hx⟩ := r6 (l := xs) (i := i) (by have := s8 hi; have := hr.1; omega)
  have hft := A7 hf.2 ht
  exact ⟨d2U (hr.2 i x t hx hi) hft (hsm t (List.mem_append_right _ ht)), hft⟩
 ·have := hi.1
  unfold PP.nodes at this
  rw [b2T] at this
  simp only [d3U]; omega
end
section
variable {H : Hp}
end
end Go.Proofs.YtnhkdkcgdcgmdaaGreatDoor
