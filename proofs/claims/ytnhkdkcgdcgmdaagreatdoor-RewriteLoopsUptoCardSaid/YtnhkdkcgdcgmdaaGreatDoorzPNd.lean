/- The walk told by counts and depths; a well program without some of its statements; the document's check of declarations and uses is the program's. Plain. -/
import Derived.Test.YtnhkdkcgdcgmdaaGreatDoorzPQx
import Derived.Test.YtnhkdkcgdcgmdaaGreatDoorzPG1x
import Derived.Test.YtnhkdkcgdcgmdaaGreatDoorzPNb
namespace Go.Proofs.YtnhkdkcgdcgmdaaGreatDoor
open Go.RowKit
set_option maxRecDepth 100000
set_option maxHeartbeats 2000000
theorem d3F (ds : List p5) : ∀ l : List Us, (useT ds l).2 = 0 ↔ ∀ u ∈ l, kOf ds u.b8 = asU u
  | [] => by rw [useT]; exact ⟨(fun _ u h => by cases h), fun _ => rfl⟩
  | u :: l => by
    rw [useT]
    by_cases h : kOf ds u.b8 = asU u
    · rw [if_pos h, d3F ds l]
      constructor
      · intro g v hv
        rcases List.mem_cons.1 hv with e | hv
        · rw [e]; exact h
        · exact g v hv
      · exact fun g v hv => g v (List.mem_cons_of_mem _ hv)
    · rw [if_neg h]
      constructor
      · intro e
        split at e
        · exact (by decide : (63 : Int) ≠ 0) e |>.elim
        · exact (by decide : (64 : Int) ≠ 0) e |>.elim
      · exact fun g => (h (g u List.mem_cons_self)).elim
theorem b3T (q : PP) : (wellS q).2 = 0 ↔ toldS q.nodes = 0 ∧ DeclOk q.decls ∧ ∀ u ∈ uTs q.body, kOf q.decls u.b8 = asU u := by
  unfold wellS
  by_cases h0 : toldS q.nodes = 0
  · rw [if_pos h0]
    cases hd : declT [] q.decls with
    | none =>
      dsimp only
      rw [d3F]
      exact ⟨fun h => ⟨h0, (d3E _).1 hd, h⟩, fun h => h.2.2⟩
    | some r =>
      dsimp only
      refine ⟨fun e => (e7E hd e).elim, fun h => ?_⟩
      rw [(d3E _).2 h.2.1] at hd; cases hd
  · rw [if_neg h0]
    exact ⟨fun e => (h0 e).elim, fun e => (h0 e.1).elim⟩
end Go.Proofs.YtnhkdkcgdcgmdaaGreatDoor
namespace Go.Proofs.YtnhkdkcgdcgmdaaGreatDoor
open Go.RowKit
set_option maxRecDepth 100000
set_option maxHeartbeats 4000000
theorem h2p {α : Type} {a b : List α} (h : ∀ f : List α → Nat, f [] = 0 → (∀ x y, f (x ++ y) = f x + f y) → f a = f b) : a.Perm b := by
  classical
  refine List.perm_iff_count.2 fun x => ?_
  exact h (fun l => List.count x l) (by simp) (fun a b => by simp [List.count_append])
theorem Inv.re {w0 w : World} {ps : Nat → Prop} {H0 H : Hp} {Fs Gs : List Frag} (D : Frag) (I : Inv w0 ps H0 H Fs w) (h : ∀ f : Frag → Nat, f [] = 0 → (∀ x y, f (x ++ y) = f x + f y) → f (D :: Gs).flatten = f Fs.flatten) : Inv w0 ps H0 H Gs w := (I.perm (Gs := D :: Gs) (h2p h)).drop
abbrev mB (g : Nat) (es : Array MapEntry) (c : Nat) : Frag := [(g, .map es c)]
abbrev pB (g : Nat) (p : o9) : Frag := bx g 25 (m9 p)
abbrev oB (g : Nat) (o : y8) : Frag := bx g 42 (m8 o)

theorem c3s {ν : Type} (k : ByteArray) (v : ν) : ∀ l : List (ByteArray × ν), k ∉ l.map (·.1) → a2D k v l = l ++ [(k, v)]
  | [], _ => rfl
  | p :: r, h => by
    rw [List.map_cons, List.mem_cons, not_or] at h
    rw [a2D, if_neg h.1, c3s k v r h.2]; rfl
theorem d9k {ν : Type} {k : ByteArray} {v : ν} : ∀ {l : List (ByteArray × ν)} {j : Nat}, (l.map (·.1)).Nodup → l[j]? = some (k, v) → lk k l = some v
  | [], _, _, h => by simp at h
  | p :: r, 0, _, h => by
    simp only [List.getElem?_cons_zero, Option.some.injEq] at h
    subst h
    rw [lk, if_pos rfl]
  | p :: r, j + 1, hn, h => by
    simp only [List.getElem?_cons_succ] at h
    rw [List.map_cons, List.nodup_cons] at hn
    have hm : k ∈ r.map (·.1) := List.mem_map.2 ⟨_, List.mem_of_getElem? h, rfl⟩
    have hne : ¬ k = p.1 := fun e => hn.1 (by rw [← e]; exact hm)
    rw [lk, if_neg hne]
    exact d9k hn.2 h
theorem Boxes.fst {lv : List (ByteArray × Option Addr)} {vs : List (ByteArray × Int)} {F : Frag} (h : Boxes lv vs F) : lv.map (·.1) = vs.map (·.1) := by
  induction h with
  | nil => rfl
  | cons _ ih => rw [List.map_cons, List.map_cons, ih]
theorem Arrs.fst {la : List (ByteArray × Sl)} {rs : List (ByteArray × List Int)} {F : Frag} (h : Arrs la rs F) : la.map (·.1) = rs.map (·.1) := by
  induction h with
  | nil => rfl
  | cons _ _ ih => rw [List.map_cons, List.map_cons, ih]
theorem Boxes.snoc {s : ByteArray} {g : Nat} {v : Int} {lv : List (ByteArray × Option Addr)} {vs : List (ByteArray × Int)} {F : Frag} (h : Boxes lv vs F) : Boxes (lv ++ [(s, some ⟨g, 0, none⟩)]) (vs ++ [(s, v)]) (F ++ bx g 2 [vi v]) := by
  induction h with
  | nil => exact .cons .nil
  | cons _ ih => rw [List.append_assoc]; exact .cons ih
theorem Arrs.snoc {s : ByteArray} {sl : Sl} {xs : List Int} {la : List (ByteArray × Sl)} {rs : List (ByteArray × List Int)} {F G : Frag} (h : Arrs la rs F) (hr : RowL 2 1 ci sl xs G) : Arrs (la ++ [(s, sl)]) (rs ++ [(s, xs)]) (F ++ G) := by
  induction h with
  | nil => have := Arrs.cons (s := s) hr .nil; rw [List.append_nil] at this; exact this
  | cons h1 _ ih => rw [List.append_assoc]; exact .cons h1 ih
theorem Arrs.inners {la : List (ByteArray × Sl)} {rs : List (ByteArray × List Int)} {F : Frag} (h : Arrs la rs F) : Inners 2 1 ci (la.map (·.2)) (rs.map (·.2)) F := by
  induction h with
  | nil => exact .nil
  | cons h1 _ ih => exact .cons h1 ih
theorem c8n {ds : List p5} {i : Nat} {d : p5} (h : ds[i]? = some d) : vD (ds.take (i + 1)) = vD (ds.take i) ++ (if 0 < d.Q3 then [] else [(d.b8, 0)]) := by
  rw [O2 h]
  unfold vD
  rw [List.filter_append, List.map_append]
  by_cases c : 0 < d.Q3 <;> simp [c]
theorem c8o {ds : List p5} {i : Nat} {d : p5} (h : ds[i]? = some d) : aD (ds.take (i + 1)) = aD (ds.take i) ++ (if 0 < d.Q3 then [(d.b8, List.replicate d.Q3.toNat 0)] else []) := by
  rw [O2 h]
  unfold aD
  rw [List.filter_append, List.map_append]
  by_cases c : 0 < d.Q3 <;> simp [c]
theorem e7F (ds : List p5) (i : Nat) : vD ds = vD (ds.take i) ++ vD (ds.drop i) := by
  unfold vD
  rw [← List.map_append, ← List.filter_append, List.take_append_drop]
theorem e7G (ds : List p5) (i : Nat) : aD ds = aD (ds.take i) ++ aD (ds.drop i) := by
  unfold aD
  rw [← List.map_append, ← List.filter_append, List.take_append_drop]
theorem h2q (ds : List p5) : ∀ s ∈ (vD ds).map (·.1), s ∈ ds.map (·.b8) := by
  intro s hs
  unfold vD at hs
  rw [List.map_map] at hs
  obtain ⟨d, hd, rfl⟩ := List.mem_map.1 hs
  exact List.mem_map.2 ⟨d, (List.mem_filter.1 hd).1, rfl⟩
theorem h2r (ds : List p5) : ∀ s ∈ (aD ds).map (·.1), s ∈ ds.map (·.b8) := by
  intro s hs
  unfold aD at hs
  rw [List.map_map] at hs
  obtain ⟨d, hd, rfl⟩ := List.mem_map.1 hs
  exact List.mem_map.2 ⟨d, (List.mem_filter.1 hd).1, rfl⟩
theorem e7H {ds : List p5} (hn : (ds.map (·.b8)).Nodup) {i : Nat} {d : p5} (h : ds[i]? = some d) : d.b8 ∉ (ds.take i).map (·.b8) := by
  intro hm
  obtain ⟨d', hd', he⟩ := List.mem_map.1 hm
  obtain ⟨j, hj⟩ := List.mem_iff_getElem?.1 hd'
  have hji : j < i := by
    have := K3 hj
    rw [List.length_take] at this
    omega
  rw [List.getElem?_take, if_pos hji] at hj
  have e1 : (ds.map (·.b8))[j]? = some d.b8 := by rw [List.getElem?_map, hj, ← he]; rfl
  have e2 : (ds.map (·.b8))[i]? = some d.b8 := by rw [List.getElem?_map, h]; rfl
  have := (List.getElem?_inj (K3 e1) hn).1 (e1.trans e2.symm)
  omega
theorem e3g {ds : List p5} (hn : (ds.map (·.b8)).Nodup) : ((vD ds).map (·.1)).Nodup ∧ ((aD ds).map (·.1)).Nodup := by
  unfold vD aD
  rw [List.map_map, List.map_map]
  exact ⟨hn.sublist (List.filter_sublist.map _), hn.sublist (List.filter_sublist.map _)⟩
theorem d3G {k : Int} (hk : k ≠ 0) {s : ByteArray} : ∀ {l : List p5}, kOf l s = k → ∃ d ∈ l, d.b8 = s ∧ kindD d = k
  | [], h => (hk h.symm).elim
  | d :: r, h => by
    rw [kOf] at h
    by_cases e : d.b8 = s
    · rw [if_pos e] at h; exact ⟨d, List.mem_cons_self, e, h⟩
    · rw [if_neg e] at h
      obtain ⟨d', h1, h2⟩ := d3G hk h
      exact ⟨d', List.mem_cons_of_mem _ h1, h2⟩
theorem c6O {q : PP} (h : (wellS q).2 = 0) : Nm ((vD q.decls).map (·.1)) ((aD q.decls).map (·.1)) (uTs q.body) := by
  obtain ⟨_, _, hu⟩ := (b3T q).1 h
  intro u hm
  have := hu u hm
  unfold asU at this
  constructor
  · intro hi
    rw [if_pos hi] at this
    obtain ⟨d, h1, h2, h3⟩ := d3G (by decide) this
    have hs : 0 < d.Q3 := by unfold kindD at h3; split at h3; assumption; cases h3
    rw [← h2]
    unfold aD
    rw [List.map_map]
    exact List.mem_map.2 ⟨d, List.mem_filter.2 ⟨h1, by simpa using hs⟩, rfl⟩
  · intro hi
    rw [if_neg (by rw [hi]; decide)] at this
    obtain ⟨d, h1, h2, h3⟩ := d3G (by decide) this
    have hs : ¬ 0 < d.Q3 := by unfold kindD at h3; split at h3; cases h3; assumption
    rw [← h2]
    unfold vD
    rw [List.map_map]
    exact List.mem_map.2 ⟨d, List.mem_filter.2 ⟨h1, by simpa using hs⟩, rfl⟩
theorem d9l {q : PP} (h : (wellS q).2 = 0) {sc : List Int} (hs : ∀ x ∈ sc, p6 x) (n : Nat) : Okst n n ((vD q.decls).map (·.1)) ((aD q.decls).map (·.1)) (s0 q.decls sc n) := by
  obtain ⟨_, hd, _⟩ := (b3T q).1 h
  refine ⟨by show (0 : Int) + n = n; omega, Int.le_refl 0, by show 0 + n ≤ n; omega, rfl, rfl, ?_, ?_, hs⟩
  · intro p hp
    obtain ⟨d, _, rfl⟩ := List.mem_map.1 hp
    show p6 0
    unfold p6; omega
  · intro p hp
    obtain ⟨d, hd', rfl⟩ := List.mem_map.1 hp
    have := hd.2.1 d (List.mem_filter.1 hd').1
    refine ⟨by rw [List.length_replicate]; omega, fun x hx => ?_⟩
    rw [(List.mem_replicate.1 hx).2]
    unfold p6; omega
def errR (q : PP) (sc : List Int) (k : Int) : Int := if (wellS q).2 ≠ 0 then (wellS q).2 else if k < 0 ∨ 65536 < k ∨ 65536 < (sc.length : Int) then 80 else 0
def oz : y8 := ⟨0, 0, 0, ⟨none, 0, 0⟩, ⟨none, 0, 0⟩, ⟨none, 0, 0⟩⟩
def Oown (o : y8) (c : Oc) (Fo : List Frag) : Prop := o.a0T = c.st ∧ o.a3t = c.wr ∧ o.a3u = c.steps ∧ ∃ Fe Fv Fr, Fo = [Fe, Fv, Fr] ∧ RowL 95 3 R6 o.N2 c.events Fe ∧ RowL 2 1 ci o.b1Q c.vars Fv ∧ RowsL 37 2 1 ci o.P8 c.arrs Fr
section
variable {E : Pan} {w0 w : World} {ps : Nat → Prop} {H0 H : Hp} {Fs : List Frag} {F : Frag} {K : Value → World → Prop}
theorem h2s : Tryz.prog.info? 37 = some ((Tryz.prog.info? 37).getD default) := by kernel_rfl
theorem h6R {kl kc : IntKind} {n : Int} (I : Inv w0 ps H0 H Fs w) (hn : 0 ≤ n) (hb : n * 9 ≤ 140737488355328) (h : ∀ (s' : Sl) (F' : Frag) (w' : World), RowL 2 1 ci s' (List.replicate n.toNat 0) F' → Inv w0 ps H0 H (F' :: Fs) w' → (∀ k, k < w.heap.size → w'.heap[k]? = w.heap[k]?) → K (.slice s'.a s'.n s'.c) w') : opK Tryz.prog E (xV (Instr.makeSlice 37 (.int kl n) (.int kc n))) w K :=
  f5Z (bytes := 8) (x0 := (0 : Int)) Tryz.underlying37 e7S (z := (Value.int .i64 0)) (by kernel_rfl) (by kernel_rfl) (by kernel_rfl) rfl I d2o d2p (by decide) kl kc n hn hb h
theorem h2t {s : Sl} {xs : List Sl} {t2 : Sl} {ys : List Sl} {ks : List Bool} {ty : TypeId} (I : Inv w0 ps H0 H (F :: Fs) w) (hr : RowL 37 1 csl s xs F) (hs : SrcO w csl t2 ys) (hb : (xs.length + ys.length) * 25 ≤ 140737488355328) (h : ∀ (s' : Sl) (F' : Frag) (w' : World), RowL 37 1 csl s' (xs ++ ys) F' → Inv w0 ps H0 H (F' :: Fs) w' → (∀ k, k < w.heap.size → (∀ p ∈ F, p.1 ≠ k) → w'.heap[k]? = w.heap[k]?) → K (.slice s'.a s'.n s'.c) w') : opK Tryz.prog E (xBuiltin .append #[40, 40] ty ks [.slice s.a s.n s.c, .slice t2.a t2.n t2.c]) w K :=
  b0O (bytes := 24) Tryz.underlying40 h2s (z := (Value.slice none 0 0)) (by kernel_rfl) (by kernel_rfl) (by kernel_rfl) (by kernel_rfl) I hr hs hb h
theorem h6S (s : Sl) (w : World) : (Instr.buildSlice 40 1 #[(0, vs s)]).run Tryz.prog w = .ok (.slice (some ⟨w.heap.size, 0, none⟩) 1 1) (w.alloc (.cells (csl s).toArray 37)) := by kernel_rfl
end
end Go.Proofs.YtnhkdkcgdcgmdaaGreatDoor
namespace Go.Proofs.YtnhkdkcgdcgmdaaGreatDoor
open Go.RowKit
set_option maxRecDepth 100000
set_option maxHeartbeats 4000000
section
variable {H : Hp}
theorem e3h {ν : Type} {l : List (ByteArray × ν)} {ks : List ByteArray} (h : l.map (·.1) = ks) {j : Nat} {s : ByteArray} (hs : ks[j]? = some s) : ∃ v, l[j]? = some (s, v) := by
  rw [← h, List.getElem?_map] at hs
  cases hq : l[j]? with
  | none => rw [hq] at hs; cases hs
  | some x =>
    rw [hq] at hs
    obtain ⟨a, b⟩ := x
    cases hs
    exact ⟨b, rfl⟩
theorem drop_at {ds : List p5} {i : Nat} {d : p5} (h : ds[i]? = some d) : ds.drop i = d :: ds.drop (i + 1) := by
  have hi := K3 h
  rw [List.drop_eq_getElem_cons hi]
  congr 1
  rw [List.getElem?_eq_getElem hi] at h
  exact Option.some.inj h
theorem f5L {ds : List p5} {i : Nat} {d : p5} (h : ds[i]? = some d) (c : ¬ 0 < d.Q3) : ((vD ds).map (·.1))[(vD (ds.take i)).length]? = some d.b8 := by
  rw [e7F ds i, drop_at h, List.getElem?_map, List.getElem?_append_right (Nat.le_refl _), Nat.sub_self]
  unfold vD
  simp [c]
theorem f5M {ds : List p5} {i : Nat} {d : p5} (h : ds[i]? = some d) (c : 0 < d.Q3) : ((aD ds).map (·.1))[(aD (ds.take i)).length]? = some d.b8 := by
  rw [e7G ds i, drop_at h, List.getElem?_map, List.getElem?_append_right (Nat.le_refl _), Nat.sub_self]
  unfold aD
  simp [c]
theorem e3i (l : List p5) : (vD l).length ≤ l.length := by unfold vD; rw [List.length_map]; exact List.length_filter_le _ _
theorem e3j (l : List p5) : (aD l).length ≤ l.length := by unfold aD; rw [List.length_map]; exact List.length_filter_le _ _
theorem e3k {α β : Type} {f : α → β} (l : List α) (n : Nat) : ((l.take n).map f).length ≤ n := by rw [List.length_map, List.length_take]; omega
theorem e3l {α β : Type} {f : α → β} {l : List α} {n : Nat} {x : α} (h : l[n]? = some x) : (l.take (n + 1)).map f = (l.take n).map f ++ [f x] := by rw [O2 h, List.map_append]; rfl
theorem e7I {q : PP} {p : o9} (hp : PH H p q) (hn : (q.decls.map (·.b8)).Nodup) {σ : St} {X : Cx} {g3 g6 g10 g14 : Nat} {sc ev : Sl} {Fe Fv Fa : Frag} (W : RnW X σ H sc ev Fe Fv Fa) (hv : σ.vars.map (·.1) = (vD q.decls).map (·.1)) (hr : σ.arrs.map (·.1) = (aD q.decls).map (·.1)) {w0 w : World} {ps : Nat → Prop} {H0 : Hp} {st wr : Int} {R : Value → World → Prop} {E : Pan}
    (I : Inv w0 ps H0 H [oB g14 ⟨st, wr, σ.steps, ev, ⟨none, 0, 0⟩, ⟨none, 0, 0⟩⟩, bx g10 80 (rcs X σ sc ev), Fe, Fv, Fa, oB g6 oz, pB g3 p] w)
    (hR : ∀ (o : y8) (Fo : List Frag) (w' : World), Oown o (ocS (st, wr, σ)) Fo → Inv w0 ps H0 H Fo w' → R (.tuple #[.agg (m8 o).toArray, vi 0]) w') :
    xcut (fun _ a9O => d2x (rP g6) (rP g14) a9O R E) fun j2 =>
      opK Tryz.prog E (xV (Instr.fieldAt 25 (rP g3) 0)) w fun d2M a5Y => opK Tryz.prog E (xV (Instr.loadAt 22 d2M)) a5Y fun c0k b5l => opK Tryz.prog E (xBuiltin .len #[22] 3 [false] [c0k]) b5l fun d2N b7F =>
        xloop [91] [(Value.int .i64 0)] b7F fun τ_138 d8A next3 => d2y (rP g6) (rP g10) (rP g14) c0k d2N (τ_138 91) d8A next3 j2 R E := by
  refine v8 fun j2 hx2 => ?_
  have hds := hp.d
  have hdn := hds.1
  have hbd := hp.bd
  simp only [big] at hbd
  have lvf := W.hvs.fst.trans hv
  have laf := W.has.fst.trans hr
  have nd := e3g hn
  refine a7 a7O ?_
  refine d6 (ld1 Tryz.isAgg22 ((I.bring 6).at1 (o := 0) (vs := [vs p.a3s]) (nb rfl) rfl)) ?_
  refine a7 (b4n _ _ _) ?_
  refine L6 (J := fun n l w' => ∃ (i : Nat) (sv sr : Sl) (Fvr Fsr : Frag), n = q.decls.length - i ∧ l = [vi (i : Int)] ∧ i ≤ q.decls.length ∧ RowL 2 1 ci sv ((σ.vars.take (vD (q.decls.take i)).length).map (·.2)) Fvr ∧ RowL 37 1 csl sr ((X.la.take (aD (q.decls.take i)).length).map (·.2)) Fsr ∧
    Inv w0 ps H0 H [oB g14 ⟨st, wr, σ.steps, ev, sv, sr⟩, bx g10 80 (rcs X σ sc ev), Fe, Fv, Fa, oB g6 oz, pB g3 p, Fvr, Fsr] w')
    ⟨_, 0, ⟨none, 0, 0⟩, ⟨none, 0, 0⟩, [], [], rfl, rfl, Nat.zero_le _, RowL.nil d2o d2p, RowL.nil c0C c0D, I.re [] (fun f f0 fa => by simp only [mB, pB, oB, bx, List.flatten_cons, List.flatten_nil, f0, fa]; omega)⟩ ?_
  rintro n τ w4 next3 ⟨i, sv, sr, Fvr, Fsr, rfl, hl4, hi, hrv, hrs, I4⟩ hn3
  simp only [List.map_cons, List.map_nil, List.cons.injEq, and_true] at hl4
  simp only [hl4]
  unfold d2y
  refine a7 (C2 _ _ _ _ _ _) ?_
  refine i8 (fun c5 => ?_) (fun c5 => ?_)
  · obtain ⟨d, hd⟩ := z7 (l := q.decls) (i := i) (by omega)
    obtain ⟨g5, o5, ha5, hA5⟩ := hds.2 i d hd
    have hlv := e3i (q.decls.take i)
    have hla := e3j (q.decls.take i)
    rw [List.length_take] at hlv hla
    have hlv2 := e3k (f := fun x : ByteArray × Int => x.2) σ.vars (vD (q.decls.take i)).length
    have hla2 := e3k (f := fun x : ByteArray × Sl => x.2) X.la (aD (q.decls.take i)).length
    refine v8 fun j4 hx4 => ?_
    refine a7 (b6G ha5 _ _ _ _ (by omega) (by omega)) ?_
    refine d6 (ldA (vs := p8 d) Tryz.isAgg71 Tryz.sizeOf71 rfl (I4.atH hA5)) ?_
    refine u1 I4 Tryz.zeroValue71 (cs := [(Value.string ⟨#[]⟩), (vi 0)]) rfl fun g16 w6 I6 _ => ?_
    refine l9 I6 Tryz.sizeOf71 (vs := (p8 d)) (cs' := (p8 d)) rfl rfl (nb rfl) rfl rfl fun w7 I7 _ => ?_
    refine a7 a6k ?_
    refine d6 (ld1 Tryz.isAgg3 (I7.at1 (o := 1) (vs := [vi d.Q3]) (nb rfl) rfl)) ?_
    refine a7 (a3q _ _ _ _ _ _) ?_
    have nxt : ∀ (sv' sr' : Sl) (Fvr' Fsr' : Frag) (w' : World), RowL 2 1 ci sv' ((σ.vars.take (vD (q.decls.take (i + 1))).length).map (·.2)) Fvr' → RowL 37 1 csl sr' ((X.la.take (aD (q.decls.take (i + 1))).length).map (·.2)) Fsr' →
        Inv w0 ps H0 H [oB g14 ⟨st, wr, σ.steps, ev, sv', sr'⟩, bx g10 80 (rcs X σ sc ev), Fe, Fv, Fa, oB g6 oz, pB g3 p, Fvr', Fsr'] w' → j4 [] w' := fun sv' sr' Fvr' Fsr' w' h1 h2 J => by
      refine hx4 _ _ ?_
      unfold e1V
      intro _
      refine a7 (J8 _ _ _ _ _ _) ?_
      rw [P4 (by omega) (by omega)]
      exact hn3 _ _ _ (show q.decls.length - (i + 1) < q.decls.length - i by omega) ⟨i + 1, sv', sr', Fvr', Fsr', rfl, rfl, by omega, h1, h2, J⟩
    refine i8 (fun c => ?_) (fun c => ?_)
    · obtain ⟨sl, hsl⟩ := e3h laf (f5M hd c)
      have hlk := d9k (by rw [laf]; exact nd.2) hsl
      refine V0 I7 fun w8 I8 => ?_
      refine l7 a6j ?_
      refine l7 (u9 _) ?_
      refine l7 b6L ?_
      refine l7 a2W ?_
      refine t6 (ld1 Tryz.isAgg40 ((I8.bring 1).at1 (o := 5) (vs := [vs sr]) (nb rfl) rfl)) ?_
      refine t6 (ld1 Tryz.isAgg78 ((I8.bring 2).at1 (o := 5) (vs := [.map X.ma]) (nb rfl) rfl)) ?_
      refine t6 (ld1 Tryz.isAgg9 (I8.at1 (o := 0) (vs := [.string d.b8]) (nb rfl) rfl)) ?_
      refine b4E (keyS Tryz.underlying9) Tryz.underlying78 (z := (⟨none, 0, 0⟩ : Sl)) (fun w => Tryz.zeroValue37 w) I8 W.hma d.b8 ?_
      rw [hlk, Option.getD_some]
      refine a0m (e := 37) (c := csl) (xs := [sl]) I8 (h6S _) rfl rfl c0C c0D (nb rfl) fun s9 F9 w9 hr9 I9 k9 => ?_
      refine ⟨k9 _ (I8.bring 1).lt1, ?_⟩
      refine h2t (s := sr) (I9.bring 10) hrs (hr9.srcO ((I9.bring 10).bring 1)) (by rw [List.length_singleton]; omega) fun s10 F10 w10 hr10 I10 _ => ?_
      refine l7 a6j ?_
      refine l9 (I10.bring 3) Tryz.sizeOf40 (vs := [vs s10]) (cs' := m8 ⟨st, wr, σ.steps, ev, sv, s10⟩) rfl rfl (nb rfl) rfl rfl fun w11 I11 _ => ?_
      refine nxt sv s10 Fvr F10 _ ?_ ?_ (I11.re (F9 ++ bx g16 71 (p8 d)) (fun f f0 fa => by simp only [mB, pB, oB, bx, List.flatten_cons, List.flatten_nil, f0, fa]; omega))
      · rw [c8n hd, if_pos c, List.append_nil]; exact hrv
      · rw [c8o hd, if_pos c, List.length_append, List.length_singleton, e3l hsl]; exact hr10
    · obtain ⟨v, hvv⟩ := e3h hv (f5L hd c)
      have hlk := d9k (by rw [hv]; exact nd.1) hvv
      obtain ⟨g9, Fr, hlv9, hp9, _⟩ := W.hvs.get hlk
      refine V0 I7 fun w8 I8 => ?_
      refine l7 b1R ?_
      refine l7 (u9 _) ?_
      refine l7 b1S ?_
      refine l7 a2W ?_
      refine t6 (ld1 Tryz.isAgg37 ((I8.bring 1).at1 (o := 4) (vs := [vs sv]) (nb rfl) rfl)) ?_
      refine t6 (ld1 Tryz.isAgg77 ((I8.bring 2).at1 (o := 4) (vs := [.map X.mv]) (nb rfl) rfl)) ?_
      refine t6 (ld1 Tryz.isAgg9 (I8.at1 (o := 0) (vs := [.string d.b8]) (nb rfl) rfl)) ?_
      refine b4E (keyS Tryz.underlying9) Tryz.underlying77 (z := (none : Option Addr)) (fun w => Tryz.zeroValue81 w) I8 W.hmv d.b8 ?_
      rw [hlv9, Option.getD_some]
      refine l7 (u9 _) ?_
      refine t6 (ld1 Tryz.isAgg2 ((((I8.bring 4).p1 hp9).un2).at1 (o := 0) (vs := [vi v]) (nb rfl) rfl)) ?_
      refine a0m (e := 2) (c := ci) (xs := [v]) I8 (d4n _) rfl rfl d2o d2p (nb rfl) fun s9 F9 w9 hr9 I9 k9 => ?_
      refine ⟨k9 _ (I8.bring 1).lt1, ?_⟩
      refine d9A (s := sv) (I9.bring 9) hrv (hr9.srcO ((I9.bring 9).bring 1)) (by rw [List.length_singleton]; omega) fun s10 F10 w10 hr10 I10 _ => ?_
      refine l7 b1R ?_
      refine l9 (I10.bring 3) Tryz.sizeOf37 (vs := [vs s10]) (cs' := m8 ⟨st, wr, σ.steps, ev, s10, sr⟩) rfl rfl (nb rfl) rfl rfl fun w11 I11 _ => ?_
      refine nxt s10 sr F10 Fsr _ ?_ ?_ (I11.re (F9 ++ bx g16 71 (p8 d)) (fun f f0 fa => by simp only [mB, pB, oB, bx, List.flatten_cons, List.flatten_nil, f0, fa]; omega))
      · rw [c8n hd, if_neg c, List.length_append, List.length_singleton, e3l hvv]; exact hr10
      · rw [c8o hd, if_neg c, List.append_nil]; exact hrs
  · refine hx2 _ _ ?_
    have hie : i = q.decls.length := by omega
    subst hie
    rw [List.take_length] at hrv hrs
    have e1 : (vD q.decls).length = σ.vars.length := by rw [← List.length_map (f := (·.1)), ← hv, List.length_map]
    have e2 : (aD q.decls).length = X.la.length := by rw [← List.length_map (f := (·.1)), ← laf, List.length_map]
    rw [e1, List.take_length] at hrv
    rw [e2, List.take_length] at hrs
    unfold d2x
    intro _
    refine d6 (ldA (vs := m8 ⟨st, wr, σ.steps, ev, sv, sr⟩) Tryz.isAgg42 Tryz.sizeOf42 rfl (I4.at1 (o := 0) (nb rfl) rfl)) ?_
    refine l9 (I4.bring 5) Tryz.sizeOf42 (vs := m8 ⟨st, wr, σ.steps, ev, sv, sr⟩) (cs' := m8 ⟨st, wr, σ.steps, ev, sv, sr⟩) rfl rfl (nb rfl) rfl rfl fun w6 I6 _ => ?_
    refine J0 (vs := m8 ⟨st, wr, σ.steps, ev, sv, sr⟩) Tryz.isAgg42 Tryz.sizeOf42 rfl (I6.at1 (o := 0) (nb rfl) rfl) ?_
    refine hR _ [Fe, Fvr, Fsr ++ Fa] _ ⟨rfl, rfl, rfl, Fe, Fvr, Fsr ++ Fa, rfl, W.hev, hrv, X.la.map (·.2), Fsr, Fa, hrs, W.has.inners, .refl _⟩ ?_
    exact I6.re (oB g6 ⟨st, wr, σ.steps, ev, sv, sr⟩ ++ (oB g14 ⟨st, wr, σ.steps, ev, sv, sr⟩ ++ (bx g10 80 (rcs X σ sc ev) ++ (Fv ++ pB g3 p)))) (fun f f0 fa => by simp only [mB, pB, oB, bx, List.flatten_cons, List.flatten_nil, f0, fa]; omega)
end
end Go.Proofs.YtnhkdkcgdcgmdaaGreatDoor
