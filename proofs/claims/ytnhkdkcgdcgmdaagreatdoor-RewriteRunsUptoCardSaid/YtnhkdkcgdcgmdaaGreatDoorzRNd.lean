/- A run's frame: the deferred function takes the panic. Off the code, by the kit's wp. -/
import Derived.Tactics2
import Derived.Defers
import Derived.Recover
import Derived.Test.YtnhkdkcgdcgmdaaGreatDoorzRNa
import Derived.Test.YtnhkdkcgdcgmdaaGreatDoorzRQy
namespace Go.Proofs.YtnhkdkcgdcgmdaaGreatDoor
open Go.RowKit
set_option maxRecDepth 100000
set_option maxHeartbeats 4000000
section
variable {P : Program} {ops : Array Oper} {i : Nat} {rest : List Nat} {a : Act} {w : World} {o : Oper} {s : Sem Next}
theorem wk {Q : Exit → Act → World → Prop} (ho : ops[i]? = some o) (hg : o.guard = none) (hs : execOp a.eval o = s)
    (h : opK P (fun c w' => Q (.panic c) a w') s w fun v w' => wpOps P ops Q rest (a.put o.dst v) w') : wpOps P ops Q (i :: rest) a w := by
  unfold wpOps
  rw [ho]
  have : Region.wanted o (yielded ops a.tmps) = true := by unfold Region.wanted; rw [hg]
  simp only [this, if_true]
  exact .inl (c9t hs h (fun _ _ h => h) fun _ _ h => h)
theorem e9r {Q : Exit → Act → World → Prop} {d : Deferred} (ho : ops[i]? = some o) (hg : o.guard = none) (hr : (execOp a.eval o).run P w = .ok (.defer d) w)
    (h : wpOps P ops Q rest (({ a with defers := d :: a.defers } : Act).put o.dst undef) w) : wpOps P ops Q (i :: rest) a w := by
  unfold wpOps
  rw [ho]
  have : Region.wanted o (yielded ops a.tmps) = true := by unfold Region.wanted; rw [hg]
  simp only [this, if_true]
  refine .inl ?_
  unfold Oper.wp
  rw [hr]
  exact h
theorem b2d (v : Value) : Pu P (pure (.value v)) v := fun w => rfl
end
section
variable {H : Hp}
theorem e4J (ge : Nat) (w : World) : CallsD Tryz.prog 59 #[rP ge] .returning w fun e u' w' => e = .returned (.tuple #[]) ∧ u' = .returning ∧ w' = w := by
  refine callsD_of_wpS Tryz.func59 rfl fun c₀ cs hu => ?_
  apply wpS_seq
  apply wpS_region
  simp [wpOpsS, go_sem, recoverD, hu, Exit.thenS]
  refine wpS_of_wp ?_
  apply wp_seq
  apply wp_seq
  apply wp_region
  refine wk (s := pure (.value .nilIface)) rfl rfl (by kernel_rfl) (a7 (b2d _) ?_)
  refine wk (s := xBin .eql 20 (.tmp 5) (.const .nilIface) .nilIface .nilIface) rfl rfl (by kernel_rfl) (a7 (v := .bool true) (fun w => by kernel_rfl) ?_)
  refine wp_cond (t := true) (by kernel_rfl) ?_
  refine wp_ret ?_
  refine ⟨rfl, .returning, ?_, _, results_none rfl _ _ _, rfl, rfl, rfl⟩
  rw [← hu]
theorem e4K (ge : Nat) (st wr : Int) (w w0 : World) (ps : Nat → Prop) (H0 : Hp) (Fs : List Frag) (I : Inv w0 ps H0 H (bx ge 83 [vi 0, vi 0] :: Fs) w) :
    CallsD Tryz.prog 59 #[rP ge] (.panicking [{ v := endsV st wr, recovered := false }]) w fun e u' w' => e = .returned (.tuple #[]) ∧ u' = .panicking [{ v := endsV st wr, recovered := true }] ∧ Inv w0 ps H0 H (bx ge 83 [vi st, vi wr] :: Fs) w' := by
  refine callsD_of_wpS Tryz.func59 rfl fun c₀ cs hu => ?_
  apply wpS_seq
  apply wpS_region
  simp [wpOpsS, go_sem, recoverD, hu, Exit.thenS]
  refine wpS_of_wp ?_
  apply wp_seq
  apply wp_seq
  apply wp_region
  refine wk (s := pure (.value (endsV st wr))) rfl rfl (by kernel_rfl) (a7 (b2d _) ?_)
  refine wk (s := xBin .eql 20 (.tmp 5) (.const .nilIface) (endsV st wr) .nilIface) rfl rfl (by kernel_rfl) (a7 (v := .bool false) (fun w => by kernel_rfl) ?_)
  refine wp_cond (t := false) (by kernel_rfl) ?_
  refine wp_skip ?_
  apply wp_seq
  apply wp_seq
  apply wp_region
  refine wk (s := pure (.value (endsV st wr))) rfl rfl (by kernel_rfl) (a7 (b2d _) ?_)
  refine wk (s := xV (Instr.typeAssert (endsV st wr) 20 83 true)) rfl rfl (by kernel_rfl) (a7 (v := .tuple #[.agg #[vi st, vi wr], .bool true]) (Pu.ok fun w => by kernel_rfl) ?_)
  refine wk (s := pure (.value (.tuple #[.agg #[vi st, vi wr], .bool true]))) rfl rfl (by kernel_rfl) (a7 (b2d _) ?_)
  refine wk (s := xV (Instr.extract (.tuple #[.agg #[vi st, vi wr], .bool true]) 0)) rfl rfl (by kernel_rfl) (a7 (m9 _ 0 _ rfl) ?_)
  refine wk (s := xV (Instr.extract (.tuple #[.agg #[vi st, vi wr], .bool true]) 1)) rfl rfl (by kernel_rfl) (a7 (m9 _ 1 _ rfl) ?_)
  refine wk (s := xV (Instr.alloc 83 true (.tuple #[]))) rfl rfl (by kernel_rfl) ?_
  refine y9 I Tryz.zeroValue83 (cs := [vi 0, vi 0]) rfl fun g1 w1 I1 _ => ?_
  refine wk (s := xU (Instr.storeAt 83 (rP g1) (.agg #[vi st, vi wr]))) rfl rfl (by kernel_rfl) ?_
  refine m7 I1 Tryz.sizeOf83 (vs := [vi st, vi wr]) (cs' := [vi st, vi wr]) rfl rfl (nb rfl) rfl rfl fun w2 I2 _ => ?_
  refine wk (s := pure (.value (.bool true))) rfl rfl (by kernel_rfl) (a7 (b2d _) ?_)
  apply wp_seq
  apply wp_region
  refine wk (s := pure (.value (.bool true))) rfl rfl (by kernel_rfl) (a7 (b2d _) ?_)
  refine wp_cond (t := true) (by kernel_rfl) ?_
  apply wp_seq
  apply wp_region
  refine wk (s := xV (Instr.loadAt 83 (rP g1))) rfl rfl (by kernel_rfl) (d7 (ldA (vs := [vi st, vi wr]) Tryz.isAgg83 Tryz.sizeOf83 rfl (I2.at1 (o := 0) (nb rfl) rfl)) ?_)
  refine wk (s := xU (Instr.storeAt 83 (rP ge) (.agg #[vi st, vi wr]))) rfl rfl (by kernel_rfl) ?_
  refine m7 (I2.bring 1) Tryz.sizeOf83 (vs := [vi st, vi wr]) (cs' := [vi st, vi wr]) rfl rfl (nb rfl) rfl rfl fun w3 I3 _ => ?_
  refine wp_ret ?_
  exact ⟨rfl, _, rfl, _, results_none rfl _ _ _, rfl, rfl, (I3.bring 1).drop⟩
theorem d4Y {P : Program} {fn : Func} {t : Tmp} {ty : TypeId} (h : fn.results = #[.cell t ty]) {tmps : Array Value} {w : World} {p v0 : Value} (ht : tmps.getD t undef = p) (hx : xcell P ty p w fun v => v = v0) : (results fn tmps).run P w = .ok v0 w := by
  obtain ⟨v, hr, rfl⟩ := hx
  unfold cellAt at hr
  subst ht
  simpa [results, h, Result.andThen] using hr
variable {k0 : Int} {ev0 : Nat} {ns ars : List ByteArray} {g : Nat} {X : Cx}
theorem f7m {s : Sl} {m : M Unit} (hst : CR k0 ev0 ns ars 60 [rP g, vs s] H g X m uE) {σ : St} {F : Frag} (hr : RnF g X σ H F) (ho : Okst k0 ev0 ns ars σ) :
    Ct Tryz.prog 34 [rP g, vs s] H [F] (fun v H' Fo => ∃ F', v = .agg #[vi (endS (m σ)).1, vi (endS (m σ)).2.1] ∧ H' = H ∧ RnF g X (endS (m σ)).2.2 H F' ∧ Fo = [F']) noQE := by
  intro w I
  unfold Cv
  refine calls_of_wp_defers Tryz.func34 rfl ?_
  apply wp_seq
  apply wp_region
  refine wk (s := xV (Instr.alloc 83 true (.tuple #[]))) rfl rfl (by kernel_rfl) ?_
  refine y9 I Tryz.zeroValue83 (cs := [vi 0, vi 0]) rfl fun ge w1 I1 _ => ?_
  apply wp_seq
  apply wp_region
  refine wk (s := xV (Instr.makeFunc (.func 59) #[] #[rP ge])) rfl rfl (by kernel_rfl) (a7 (b1y _ _ _) ?_)
  refine e9r (d := { target := .fn (.func 59) #[rP ge], args := #[] }) rfl rfl (by kernel_rfl) ?_
  have fin : ∀ {H' : Hp} {st wr : Int} {F' : Frag} {σ' : St} {tmps : Array Value} {w' : World}, endS (m σ) = (st, wr, σ') → H' = H → tmps.getD 4 undef = rP ge → RnF g X σ' H F' → Inv w (inF [F]) H H [bx ge 83 [vi st, vi wr], F'] w' →
      ∃ v, (results Tryz.f34 tmps).run Tryz.prog w' = .ok v w' ∧ ∃ H' Fo, Inv w (inF [F]) H H' Fo w' ∧ ∃ F', v = .agg #[vi (endS (m σ)).1, vi (endS (m σ)).2.1] ∧ H' = H ∧ RnF g X (endS (m σ)).2.2 H F' ∧ Fo = [F'] := fun {H'} {st} {wr} {F'} {σ'} {tmps} {w'} e _ ht hr J => by
    rw [e]
    exact ⟨_, d4Y rfl ht (L4 (vs := [vi st, vi wr]) Tryz.isAgg83 Tryz.sizeOf83 rfl (J.at1 (o := 0) (nb rfl) rfl) rfl), _, _, J.drop, F', rfl, rfl, hr, rfl⟩
  apply wp_seq
  apply wp_region
  refine wk (s := pure (.value (rP g))) rfl rfl (by kernel_rfl) (a7 (b2d _) ?_)
  refine wk (s := pure (.value (vs s))) rfl rfl (by kernel_rfl) (a7 (b2d _) ?_)
  refine wk (s := xCall (.func (.func 60) #[] #[]) [rP g, vs s]) rfl rfl (by kernel_rfl) ?_
  refine d8 (cap := []) (fun args w => Tryz.call60 args w) ?_
  refine hst.use hr ho (I1.bring 1) (fun a σ' F' w' e hr' J => ?_) fun st wr σ' F' w' e hr' J => ?_
  · apply wp_seq
    apply wp_region
    refine wk (s := xV (Instr.build 83 #[(0, vi 2)])) rfl rfl (by kernel_rfl) (a7 (v := .agg #[vi 2, vi 0]) (Pu.ok fun w => by kernel_rfl) ?_)
    refine wk (s := xU (Instr.storeAt 83 (rP ge) (.agg #[vi 2, vi 0]))) rfl rfl (by kernel_rfl) ?_
    refine m7 (J.bring 1) Tryz.sizeOf83 (vs := [vi 2, vi 0]) (cs' := [vi 2, vi 0]) rfl rfl (nb rfl) rfl rfl fun w3 I3 _ => ?_
    refine wp_ret ?_
    refine leaves_cons (f := 59) (args := #[rP ge]) (fun h => by cases h) (Tryz.call59 _ w3) ?_
    refine (e4J ge w3).mono fun e1 u' w4 q => ?_
    obtain ⟨rfl, rfl, rfl⟩ := q
    exact fin (by rw [e]; rfl) rfl (by kernel_rfl) hr' I3
  · refine leaves_cons (f := 59) (args := #[rP ge]) (fun h => by cases h) (Tryz.call59 _ w') ?_
    refine (e4K ge st wr w' _ _ _ _ (J.bring 1)).mono fun e1 u' w4 q => ?_
    obtain ⟨rfl, rfl, J4⟩ := q
    exact fin (by rw [e]; rfl) rfl (by kernel_rfl) hr' J4
end
end Go.Proofs.YtnhkdkcgdcgmdaaGreatDoor
namespace Go.Proofs.YtnhkdkcgdcgmdaaGreatDoor
open Go.RowKit
set_option maxRecDepth 100000
set_option maxHeartbeats 4000000
theorem h4g {α : Type} {a b : List α} (h : ∀ f : List α → Nat, f [] = 0 → (∀ x y, f (x ++ y) = f x + f y) → f a = f b) : a.Perm b := by
  classical
  refine List.perm_iff_count.2 fun x => ?_
  exact h (fun l => List.count x l) (by simp) (fun a b => by simp [List.count_append])
theorem Inv.re {w0 w : World} {ps : Nat → Prop} {H0 H : Hp} {Fs Gs : List Frag} (D : Frag) (I : Inv w0 ps H0 H Fs w) (h : ∀ f : Frag → Nat, f [] = 0 → (∀ x y, f (x ++ y) = f x + f y) → f (D :: Gs).flatten = f Fs.flatten) : Inv w0 ps H0 H Gs w := (I.perm (Gs := D :: Gs) (h4g h)).drop
abbrev mB (g : Nat) (es : Array MapEntry) (c : Nat) : Frag := [(g, .map es c)]
abbrev pB (g : Nat) (p : r7) : Frag := bx g 25 (p8 p)
abbrev oB (g : Nat) (o : t8) : Frag := bx g 42 (o3 o)

theorem c4a {ν : Type} (k : ByteArray) (v : ν) : ∀ l : List (ByteArray × ν), k ∉ l.map (·.1) → a2M k v l = l ++ [(k, v)]
  | [], _ => rfl
  | p :: r, h => by
    rw [List.map_cons, List.mem_cons, not_or] at h
    rw [a2M, if_neg h.1, c4a k v r h.2]; rfl
theorem e0T {ν : Type} {k : ByteArray} {v : ν} : ∀ {l : List (ByteArray × ν)} {j : Nat}, (l.map (·.1)).Nodup → l[j]? = some (k, v) → lk k l = some v
  | [], _, _, h => by simp at h
  | p :: r, 0, _, h => by
    simp only [List.getElem?_cons_zero, Option.some.injEq] at h
    subst h
    rw [lk, if_pos rfl]
  | p :: r, j + 1, hn, h => by
    simp only [List.getElem?_cons_succ] at h
    rw [List.map_cons, List.nodup_cons] at hn
    have hm : k ∈ r.map (·.1) := List.mem_map.2 ⟨_, List.mem_of_getElem? h, rfl⟩
    have hne : ¬ k = p.1 := fun e => hn.1 (by rw [← e]; exact hm)
    rw [lk, if_neg hne]
    exact e0T hn.2 h
theorem Boxes.fst {lv : List (ByteArray × Option Addr)} {vs : List (ByteArray × Int)} {F : Frag} (h : Boxes lv vs F) : lv.map (·.1) = vs.map (·.1) := by
  induction h with
  | nil => rfl
  | cons _ ih => rw [List.map_cons, List.map_cons, ih]
theorem Arrs.fst {la : List (ByteArray × Sl)} {rs : List (ByteArray × List Int)} {F : Frag} (h : Arrs la rs F) : la.map (·.1) = rs.map (·.1) := by
  induction h with
  | nil => rfl
  | cons _ _ ih => rw [List.map_cons, List.map_cons, ih]
theorem Boxes.snoc {s : ByteArray} {g : Nat} {v : Int} {lv : List (ByteArray × Option Addr)} {vs : List (ByteArray × Int)} {F : Frag} (h : Boxes lv vs F) : Boxes (lv ++ [(s, some ⟨g, 0, none⟩)]) (vs ++ [(s, v)]) (F ++ bx g 2 [vi v]) := by
  induction h with
  | nil => exact .cons .nil
  | cons _ ih => rw [List.append_assoc]; exact .cons ih
theorem Arrs.snoc {s : ByteArray} {sl : Sl} {xs : List Int} {la : List (ByteArray × Sl)} {rs : List (ByteArray × List Int)} {F G : Frag} (h : Arrs la rs F) (hr : RowL 2 1 ci sl xs G) : Arrs (la ++ [(s, sl)]) (rs ++ [(s, xs)]) (F ++ G) := by
  induction h with
  | nil => have := Arrs.cons (s := s) hr .nil; rw [List.append_nil] at this; exact this
  | cons h1 _ ih => rw [List.append_assoc]; exact .cons h1 ih
theorem Arrs.inners {la : List (ByteArray × Sl)} {rs : List (ByteArray × List Int)} {F : Frag} (h : Arrs la rs F) : Inners 2 1 ci (la.map (·.2)) (rs.map (·.2)) F := by
  induction h with
  | nil => exact .nil
  | cons h1 _ ih => exact .cons h1 ih
theorem c9q {ds : List r6} {i : Nat} {d : r6} (h : ds[i]? = some d) : vD (ds.take (i + 1)) = vD (ds.take i) ++ (if 0 < d.Q6 then [] else [(d.b7, 0)]) := by
  rw [O9 h]
  unfold vD
  rw [List.filter_append, List.map_append]
  by_cases c : 0 < d.Q6 <;> simp [c]
theorem c9r {ds : List r6} {i : Nat} {d : r6} (h : ds[i]? = some d) : aD (ds.take (i + 1)) = aD (ds.take i) ++ (if 0 < d.Q6 then [(d.b7, List.replicate d.Q6.toNat 0)] else []) := by
  rw [O9 h]
  unfold aD
  rw [List.filter_append, List.map_append]
  by_cases c : 0 < d.Q6 <;> simp [c]
theorem e9s (ds : List r6) (i : Nat) : vD ds = vD (ds.take i) ++ vD (ds.drop i) := by
  unfold vD
  rw [← List.map_append, ← List.filter_append, List.take_append_drop]
theorem e9t (ds : List r6) (i : Nat) : aD ds = aD (ds.take i) ++ aD (ds.drop i) := by
  unfold aD
  rw [← List.map_append, ← List.filter_append, List.take_append_drop]
theorem h4h (ds : List r6) : ∀ s ∈ (vD ds).map (·.1), s ∈ ds.map (·.b7) := by
  intro s hs
  unfold vD at hs
  rw [List.map_map] at hs
  obtain ⟨d, hd, rfl⟩ := List.mem_map.1 hs
  exact List.mem_map.2 ⟨d, (List.mem_filter.1 hd).1, rfl⟩
theorem h4i (ds : List r6) : ∀ s ∈ (aD ds).map (·.1), s ∈ ds.map (·.b7) := by
  intro s hs
  unfold aD at hs
  rw [List.map_map] at hs
  obtain ⟨d, hd, rfl⟩ := List.mem_map.1 hs
  exact List.mem_map.2 ⟨d, (List.mem_filter.1 hd).1, rfl⟩
theorem e9u {ds : List r6} (hn : (ds.map (·.b7)).Nodup) {i : Nat} {d : r6} (h : ds[i]? = some d) : d.b7 ∉ (ds.take i).map (·.b7) := by
  intro hm
  obtain ⟨d', hd', he⟩ := List.mem_map.1 hm
  obtain ⟨j, hj⟩ := List.mem_iff_getElem?.1 hd'
  have hji : j < i := by
    have := M1 hj
    rw [List.length_take] at this
    omega
  rw [List.getElem?_take, if_pos hji] at hj
  have e1 : (ds.map (·.b7))[j]? = some d.b7 := by rw [List.getElem?_map, hj, ← he]; rfl
  have e2 : (ds.map (·.b7))[i]? = some d.b7 := by rw [List.getElem?_map, h]; rfl
  have := (List.getElem?_inj (M1 e1) hn).1 (e1.trans e2.symm)
  omega
theorem e4L {ds : List r6} (hn : (ds.map (·.b7)).Nodup) : ((vD ds).map (·.1)).Nodup ∧ ((aD ds).map (·.1)).Nodup := by
  unfold vD aD
  rw [List.map_map, List.map_map]
  exact ⟨hn.sublist (List.filter_sublist.map _), hn.sublist (List.filter_sublist.map _)⟩
theorem d4Z {k : Int} (hk : k ≠ 0) {s : ByteArray} : ∀ {l : List r6}, kOf l s = k → ∃ d ∈ l, d.b7 = s ∧ kindD d = k
  | [], h => (hk h.symm).elim
  | d :: r, h => by
    rw [kOf] at h
    by_cases e : d.b7 = s
    · rw [if_pos e] at h; exact ⟨d, List.mem_cons_self, e, h⟩
    · rw [if_neg e] at h
      obtain ⟨d', h1, h2⟩ := d4Z hk h
      exact ⟨d', List.mem_cons_of_mem _ h1, h2⟩
theorem c7M {q : PP} (h : (wellS q).2 = 0) : Nm ((vD q.decls).map (·.1)) ((aD q.decls).map (·.1)) (uTs q.body) := by
  obtain ⟨_, _, hu⟩ := (b4y q).1 h
  intro u hm
  have := hu u hm
  unfold asU at this
  constructor
  · intro hi
    rw [if_pos hi] at this
    obtain ⟨d, h1, h2, h3⟩ := d4Z (by decide) this
    have hs : 0 < d.Q6 := by unfold kindD at h3; split at h3; assumption; cases h3
    rw [← h2]
    unfold aD
    rw [List.map_map]
    exact List.mem_map.2 ⟨d, List.mem_filter.2 ⟨h1, by simpa using hs⟩, rfl⟩
  · intro hi
    rw [if_neg (by rw [hi]; decide)] at this
    obtain ⟨d, h1, h2, h3⟩ := d4Z (by decide) this
    have hs : ¬ 0 < d.Q6 := by unfold kindD at h3; split at h3; cases h3; assumption
    rw [← h2]
    unfold vD
    rw [List.map_map]
    exact List.mem_map.2 ⟨d, List.mem_filter.2 ⟨h1, by simpa using hs⟩, rfl⟩
theorem e0U {q : PP} (h : (wellS q).2 = 0) {sc : List Int} (hs : ∀ x ∈ sc, o8 x) (n : Nat) : Okst n n ((vD q.decls).map (·.1)) ((aD q.decls).map (·.1)) (s0 q.decls sc n) := by
  obtain ⟨_, hd, _⟩ := (b4y q).1 h
  refine ⟨by show (0 : Int) + n = n; omega, Int.le_refl 0, by show 0 + n ≤ n; omega, rfl, rfl, ?_, ?_, hs⟩
  · intro p hp
    obtain ⟨d, _, rfl⟩ := List.mem_map.1 hp
    show o8 0
    unfold o8; omega
  · intro p hp
    obtain ⟨d, hd', rfl⟩ := List.mem_map.1 hp
    have := hd.2.1 d (List.mem_filter.1 hd').1
    refine ⟨by rw [List.length_replicate]; omega, fun x hx => ?_⟩
    rw [(List.mem_replicate.1 hx).2]
    unfold o8; omega
def errR (q : PP) (sc : List Int) (k : Int) : Int := if (wellS q).2 ≠ 0 then (wellS q).2 else if k < 0 ∨ 65536 < k ∨ 65536 < (sc.length : Int) then 80 else 0
def oz : t8 := ⟨0, 0, 0, ⟨none, 0, 0⟩, ⟨none, 0, 0⟩, ⟨none, 0, 0⟩⟩
def Oown (o : t8) (c : Oc) (Fo : List Frag) : Prop := o.P0 = c.st ∧ o.V1 = c.wr ∧ o.W5 = c.steps ∧ ∃ Fe Fv Fr, Fo = [Fe, Fv, Fr] ∧ RowL 95 3 S5 o.G5 c.events Fe ∧ RowL 2 1 ci o.a4J c.vars Fv ∧ RowsL 37 2 1 ci o.L5 c.arrs Fr
section
variable {E : Pan} {w0 w : World} {ps : Nat → Prop} {H0 H : Hp} {Fs : List Frag} {F : Frag} {K : Value → World → Prop}
theorem h4j : Tryz.prog.info? 37 = some ((Tryz.prog.info? 37).getD default) := by kernel_rfl
theorem h8p {kl kc : IntKind} {n : Int} (I : Inv w0 ps H0 H Fs w) (hn : 0 ≤ n) (hb : n * 9 ≤ 140737488355328) (h : ∀ (s' : Sl) (F' : Frag) (w' : World), RowL 2 1 ci s' (List.replicate n.toNat 0) F' → Inv w0 ps H0 H (F' :: Fs) w' → (∀ k, k < w.heap.size → w'.heap[k]? = w.heap[k]?) → K (.slice s'.a s'.n s'.c) w') : opK Tryz.prog E (xV (Instr.makeSlice 37 (.int kl n) (.int kc n))) w K :=
  f7E (bytes := 8) (x0 := (0 : Int)) Tryz.underlying37 e9G (z := (Value.int .i64 0)) (by kernel_rfl) (by kernel_rfl) (by kernel_rfl) rfl I d3z d3A (by decide) kl kc n hn hb h
theorem h4k {s : Sl} {xs : List Sl} {t2 : Sl} {ys : List Sl} {ks : List Bool} {ty : TypeId} (I : Inv w0 ps H0 H (F :: Fs) w) (hr : RowL 37 1 csl s xs F) (hs : SrcO w csl t2 ys) (hb : (xs.length + ys.length) * 25 ≤ 140737488355328) (h : ∀ (s' : Sl) (F' : Frag) (w' : World), RowL 37 1 csl s' (xs ++ ys) F' → Inv w0 ps H0 H (F' :: Fs) w' → (∀ k, k < w.heap.size → (∀ p ∈ F, p.1 ≠ k) → w'.heap[k]? = w.heap[k]?) → K (.slice s'.a s'.n s'.c) w') : opK Tryz.prog E (xBuiltin .append #[40, 40] ty ks [.slice s.a s.n s.c, .slice t2.a t2.n t2.c]) w K :=
  b1z (bytes := 24) Tryz.underlying40 h4j (z := (Value.slice none 0 0)) (by kernel_rfl) (by kernel_rfl) (by kernel_rfl) (by kernel_rfl) I hr hs hb h
theorem h8q (s : Sl) (w : World) : (Instr.buildSlice 40 1 #[(0, vs s)]).run Tryz.prog w = .ok (.slice (some ⟨w.heap.size, 0, none⟩) 1 1) (w.alloc (.cells (csl s).toArray 37)) := by kernel_rfl
end
end Go.Proofs.YtnhkdkcgdcgmdaaGreatDoor
namespace Go.Proofs.YtnhkdkcgdcgmdaaGreatDoor
open Go.RowKit
set_option maxRecDepth 100000
set_option maxHeartbeats 4000000
section
variable {H : Hp}
theorem e4M {ν : Type} {l : List (ByteArray × ν)} {ks : List ByteArray} (h : l.map (·.1) = ks) {j : Nat} {s : ByteArray} (hs : ks[j]? = some s) : ∃ v, l[j]? = some (s, v) := by
  rw [← h, List.getElem?_map] at hs
  cases hq : l[j]? with
  | none => rw [hq] at hs; cases hs
  | some x =>
    rw [hq] at hs
    obtain ⟨a, b⟩ := x
    cases hs
    exact ⟨b, rfl⟩
theorem drop_at {ds : List r6} {i : Nat} {d : r6} (h : ds[i]? = some d) : ds.drop i = d :: ds.drop (i + 1) := by
  have hi := M1 h
  rw [List.drop_eq_getElem_cons hi]
  congr 1
  rw [List.getElem?_eq_getElem hi] at h
  exact Option.some.inj h
theorem f7n {ds : List r6} {i : Nat} {d : r6} (h : ds[i]? = some d) (c : ¬ 0 < d.Q6) : ((vD ds).map (·.1))[(vD (ds.take i)).length]? = some d.b7 := by
  rw [e9s ds i, drop_at h, List.getElem?_map, List.getElem?_append_right (Nat.le_refl _), Nat.sub_self]
  unfold vD
  simp [c]
theorem f7o {ds : List r6} {i : Nat} {d : r6} (h : ds[i]? = some d) (c : 0 < d.Q6) : ((aD ds).map (·.1))[(aD (ds.take i)).length]? = some d.b7 := by
  rw [e9t ds i, drop_at h, List.getElem?_map, List.getElem?_append_right (Nat.le_refl _), Nat.sub_self]
  unfold aD
  simp [c]
theorem e4N (l : List r6) : (vD l).length ≤ l.length := by unfold vD; rw [List.length_map]; exact List.length_filter_le _ _
theorem e4O (l : List r6) : (aD l).length ≤ l.length := by unfold aD; rw [List.length_map]; exact List.length_filter_le _ _
theorem e4P {α β : Type} {f : α → β} (l : List α) (n : Nat) : ((l.take n).map f).length ≤ n := by rw [List.length_map, List.length_take]; omega
theorem e4Q {α β : Type} {f : α → β} {l : List α} {n : Nat} {x : α} (h : l[n]? = some x) : (l.take (n + 1)).map f = (l.take n).map f ++ [f x] := by rw [O9 h, List.map_append]; rfl
theorem e9v {q : PP} {p : r7} (hp : PH H p q) (hn : (q.decls.map (·.b7)).Nodup) {σ : St} {X : Cx} {g3 g6 g10 g14 : Nat} {sc ev : Sl} {Fe Fv Fa : Frag} (W : RnW X σ H sc ev Fe Fv Fa) (hv : σ.vars.map (·.1) = (vD q.decls).map (·.1)) (hr : σ.arrs.map (·.1) = (aD q.decls).map (·.1)) {w0 w : World} {ps : Nat → Prop} {H0 : Hp} {st wr : Int} {R : Value → World → Prop} {E : Pan}
    (I : Inv w0 ps H0 H [oB g14 ⟨st, wr, σ.steps, ev, ⟨none, 0, 0⟩, ⟨none, 0, 0⟩⟩, bx g10 80 (rcs X σ sc ev), Fe, Fv, Fa, oB g6 oz, pB g3 p] w)
    (hR : ∀ (o : t8) (Fo : List Frag) (w' : World), Oown o (ocS (st, wr, σ)) Fo → Inv w0 ps H0 H Fo w' → R (.tuple #[.agg (o3 o).toArray, vi 0]) w') :
    xcut (fun _ b0r => d4p (rP g6) (rP g14) b0r R E) fun j2 =>
      opK Tryz.prog E (xV (Instr.fieldAt 25 (rP g3) 0)) w fun d4E a7O => opK Tryz.prog E (xV (Instr.loadAt 22 d4E)) a7O fun c0R c7d => opK Tryz.prog E (xBuiltin .len #[22] 3 [false] [c0R]) c7d fun d4F c7e =>
        xloop [91] [(Value.int .i64 0)] c7e fun τ_138 e0M next3 => d4q (rP g6) (rP g10) (rP g14) c0R d4F (τ_138 91) e0M next3 j2 R E := by
  refine A7 fun j2 hx2 => ?_
  have hds := hp.d
  have hdn := hds.1
  have hbd := hp.bd
  simp only [big] at hbd
  have lvf := W.hvs.fst.trans hv
  have laf := W.has.fst.trans hr
  have nd := e4L hn
  refine a7 a9U ?_
  refine d7 (ld1 Tryz.isAgg22 ((I.bring 6).at1 (o := 0) (vs := [vs p.a0C]) (nb rfl) rfl)) ?_
  refine a7 (b4W _ _ _) ?_
  refine M6 (J := fun n l w' => ∃ (i : Nat) (sv sr : Sl) (Fvr Fsr : Frag), n = q.decls.length - i ∧ l = [vi (i : Int)] ∧ i ≤ q.decls.length ∧ RowL 2 1 ci sv ((σ.vars.take (vD (q.decls.take i)).length).map (·.2)) Fvr ∧ RowL 37 1 csl sr ((X.la.take (aD (q.decls.take i)).length).map (·.2)) Fsr ∧
    Inv w0 ps H0 H [oB g14 ⟨st, wr, σ.steps, ev, sv, sr⟩, bx g10 80 (rcs X σ sc ev), Fe, Fv, Fa, oB g6 oz, pB g3 p, Fvr, Fsr] w')
    ⟨_, 0, ⟨none, 0, 0⟩, ⟨none, 0, 0⟩, [], [], rfl, rfl, Nat.zero_le _, RowL.nil d3z d3A, RowL.nil c1a c1b, I.re [] (fun f f0 fa => by simp only [mB, pB, oB, bx, List.flatten_cons, List.flatten_nil, f0, fa]; omega)⟩ ?_
  rintro n τ w4 next3 ⟨i, sv, sr, Fvr, Fsr, rfl, hl4, hi, hrv, hrs, I4⟩ hn3
  simp only [List.map_cons, List.map_nil, List.cons.injEq, and_true] at hl4
  simp only [hl4]
  unfold d4q
  refine a7 (D7 _ _ _ _ _ _) ?_
  refine j8 (fun c5 => ?_) (fun c5 => ?_)
  · obtain ⟨d, hd⟩ := B2 (l := q.decls) (i := i) (by omega)
    obtain ⟨g5, o5, ha5, hA5⟩ := hds.2 i d hd
    have hlv := e4N (q.decls.take i)
    have hla := e4O (q.decls.take i)
    rw [List.length_take] at hlv hla
    have hlv2 := e4P (f := fun x : ByteArray × Int => x.2) σ.vars (vD (q.decls.take i)).length
    have hla2 := e4P (f := fun x : ByteArray × Sl => x.2) X.la (aD (q.decls.take i)).length
    refine A7 fun j4 hx4 => ?_
    refine a7 (b7p ha5 _ _ _ _ (by omega) (by omega)) ?_
    refine d7 (ldA (vs := r9 d) Tryz.isAgg71 Tryz.sizeOf71 rfl (I4.atH hA5)) ?_
    refine y9 I4 Tryz.zeroValue71 (cs := [(Value.string ⟨#[]⟩), (vi 0)]) rfl fun g16 w6 I6 _ => ?_
    refine m7 I6 Tryz.sizeOf71 (vs := (r9 d)) (cs' := (r9 d)) rfl rfl (nb rfl) rfl rfl fun w7 I7 _ => ?_
    refine a7 a6z ?_
    refine d7 (ld1 Tryz.isAgg3 (I7.at1 (o := 1) (vs := [vi d.Q6]) (nb rfl) rfl)) ?_
    refine a7 (a3B _ _ _ _ _ _) ?_
    have nxt : ∀ (sv' sr' : Sl) (Fvr' Fsr' : Frag) (w' : World), RowL 2 1 ci sv' ((σ.vars.take (vD (q.decls.take (i + 1))).length).map (·.2)) Fvr' → RowL 37 1 csl sr' ((X.la.take (aD (q.decls.take (i + 1))).length).map (·.2)) Fsr' →
        Inv w0 ps H0 H [oB g14 ⟨st, wr, σ.steps, ev, sv', sr'⟩, bx g10 80 (rcs X σ sc ev), Fe, Fv, Fa, oB g6 oz, pB g3 p, Fvr', Fsr'] w' → j4 [] w' := fun sv' sr' Fvr' Fsr' w' h1 h2 J => by
      refine hx4 _ _ ?_
      unfold e4b
      intro _
      refine a7 (L6 _ _ _ _ _ _) ?_
      rw [Q1 (by omega) (by omega)]
      exact hn3 _ _ _ (show q.decls.length - (i + 1) < q.decls.length - i by omega) ⟨i + 1, sv', sr', Fvr', Fsr', rfl, rfl, by omega, h1, h2, J⟩
    refine j8 (fun c => ?_) (fun c => ?_)
    · obtain ⟨sl, hsl⟩ := e4M laf (f7o hd c)
      have hlk := e0T (by rw [laf]; exact nd.2) hsl
      refine X7 I7 fun w8 I8 => ?_
      refine m8 a6y ?_
      refine m8 (A0 _) ?_
      refine m8 b7u ?_
      refine m8 a3h ?_
      refine y7 (ld1 Tryz.isAgg40 ((I8.bring 1).at1 (o := 5) (vs := [vs sr]) (nb rfl) rfl)) ?_
      refine y7 (ld1 Tryz.isAgg78 ((I8.bring 2).at1 (o := 5) (vs := [.map X.ma]) (nb rfl) rfl)) ?_
      refine y7 (ld1 Tryz.isAgg9 (I8.at1 (o := 0) (vs := [.string d.b7]) (nb rfl) rfl)) ?_
      refine b5q (keyS Tryz.underlying9) Tryz.underlying78 (z := (⟨none, 0, 0⟩ : Sl)) (fun w => Tryz.zeroValue37 w) I8 W.hma d.b7 ?_
      rw [hlk, Option.getD_some]
      refine a1s (e := 37) (c := csl) (xs := [sl]) I8 (h8q _) rfl rfl c1a c1b (nb rfl) fun s9 F9 w9 hr9 I9 k9 => ?_
      refine ⟨k9 _ (I8.bring 1).lt1, ?_⟩
      refine h4k (s := sr) (I9.bring 10) hrs (hr9.srcO ((I9.bring 10).bring 1)) (by rw [List.length_singleton]; omega) fun s10 F10 w10 hr10 I10 _ => ?_
      refine m8 a6y ?_
      refine m7 (I10.bring 3) Tryz.sizeOf40 (vs := [vs s10]) (cs' := o3 ⟨st, wr, σ.steps, ev, sv, s10⟩) rfl rfl (nb rfl) rfl rfl fun w11 I11 _ => ?_
      refine nxt sv s10 Fvr F10 _ ?_ ?_ (I11.re (F9 ++ bx g16 71 (r9 d)) (fun f f0 fa => by simp only [mB, pB, oB, bx, List.flatten_cons, List.flatten_nil, f0, fa]; omega))
      · rw [c9q hd, if_pos c, List.append_nil]; exact hrv
      · rw [c9r hd, if_pos c, List.length_append, List.length_singleton, e4Q hsl]; exact hr10
    · obtain ⟨v, hvv⟩ := e4M hv (f7n hd c)
      have hlk := e0T (by rw [hv]; exact nd.1) hvv
      obtain ⟨g9, Fr, hlv9, hp9, _⟩ := W.hvs.get hlk
      refine X7 I7 fun w8 I8 => ?_
      refine m8 b2y ?_
      refine m8 (A0 _) ?_
      refine m8 b2z ?_
      refine m8 a3h ?_
      refine y7 (ld1 Tryz.isAgg37 ((I8.bring 1).at1 (o := 4) (vs := [vs sv]) (nb rfl) rfl)) ?_
      refine y7 (ld1 Tryz.isAgg77 ((I8.bring 2).at1 (o := 4) (vs := [.map X.mv]) (nb rfl) rfl)) ?_
      refine y7 (ld1 Tryz.isAgg9 (I8.at1 (o := 0) (vs := [.string d.b7]) (nb rfl) rfl)) ?_
      refine b5q (keyS Tryz.underlying9) Tryz.underlying77 (z := (none : Option Addr)) (fun w => Tryz.zeroValue81 w) I8 W.hmv d.b7 ?_
      rw [hlv9, Option.getD_some]
      refine m8 (A0 _) ?_
      refine y7 (ld1 Tryz.isAgg2 ((((I8.bring 4).p1 hp9).un2).at1 (o := 0) (vs := [vi v]) (nb rfl) rfl)) ?_
      refine a1s (e := 2) (c := ci) (xs := [v]) I8 (d5M _) rfl rfl d3z d3A (nb rfl) fun s9 F9 w9 hr9 I9 k9 => ?_
      refine ⟨k9 _ (I8.bring 1).lt1, ?_⟩
      refine e1l (s := sv) (I9.bring 9) hrv (hr9.srcO ((I9.bring 9).bring 1)) (by rw [List.length_singleton]; omega) fun s10 F10 w10 hr10 I10 _ => ?_
      refine m8 b2y ?_
      refine m7 (I10.bring 3) Tryz.sizeOf37 (vs := [vs s10]) (cs' := o3 ⟨st, wr, σ.steps, ev, s10, sr⟩) rfl rfl (nb rfl) rfl rfl fun w11 I11 _ => ?_
      refine nxt s10 sr F10 Fsr _ ?_ ?_ (I11.re (F9 ++ bx g16 71 (r9 d)) (fun f f0 fa => by simp only [mB, pB, oB, bx, List.flatten_cons, List.flatten_nil, f0, fa]; omega))
      · rw [c9q hd, if_neg c, List.length_append, List.length_singleton, e4Q hvv]; exact hr10
      · rw [c9r hd, if_neg c, List.append_nil]; exact hrs
  · refine hx2 _ _ ?_
    have hie : i = q.decls.length := by omega
    subst hie
    rw [List.take_length] at hrv hrs
    have e1 : (vD q.decls).length = σ.vars.length := by rw [← List.length_map (f := (·.1)), ← hv, List.length_map]
    have e2 : (aD q.decls).length = X.la.length := by rw [← List.length_map (f := (·.1)), ← laf, List.length_map]
    rw [e1, List.take_length] at hrv
    rw [e2, List.take_length] at hrs
    unfold d4p
    intro _
    refine d7 (ldA (vs := o3 ⟨st, wr, σ.steps, ev, sv, sr⟩) Tryz.isAgg42 Tryz.sizeOf42 rfl (I4.at1 (o := 0) (nb rfl) rfl)) ?_
    refine m7 (I4.bring 5) Tryz.sizeOf42 (vs := o3 ⟨st, wr, σ.steps, ev, sv, sr⟩) (cs' := o3 ⟨st, wr, σ.steps, ev, sv, sr⟩) rfl rfl (nb rfl) rfl rfl fun w6 I6 _ => ?_
    refine L4 (vs := o3 ⟨st, wr, σ.steps, ev, sv, sr⟩) Tryz.isAgg42 Tryz.sizeOf42 rfl (I6.at1 (o := 0) (nb rfl) rfl) ?_
    refine hR _ [Fe, Fvr, Fsr ++ Fa] _ ⟨rfl, rfl, rfl, Fe, Fvr, Fsr ++ Fa, rfl, W.hev, hrv, X.la.map (·.2), Fsr, Fa, hrs, W.has.inners, .refl _⟩ ?_
    exact I6.re (oB g6 ⟨st, wr, σ.steps, ev, sv, sr⟩ ++ (oB g14 ⟨st, wr, σ.steps, ev, sv, sr⟩ ++ (bx g10 80 (rcs X σ sc ev) ++ (Fv ++ pB g3 p)))) (fun f f0 fa => by simp only [mB, pB, oB, bx, List.flatten_cons, List.flatten_nil, f0, fa]; omega)
end
end Go.Proofs.YtnhkdkcgdcgmdaaGreatDoor
