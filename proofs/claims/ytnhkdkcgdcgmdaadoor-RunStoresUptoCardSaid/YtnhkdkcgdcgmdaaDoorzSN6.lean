/- How a run's state lies in memory: the runner's box, its events, its variables' boxes, its arrays' rows. The contract of a runner's method. -/
import Derived.Test.YtnhkdkcgdcgmdaaDoorzSN2
namespace Go.Proofs.YtnhkdkcgdcgmdaaDoor
open Go.RowKit
set_option maxRecDepth 100000
set_option maxHeartbeats 2000000
def ci (x : Int) : List Value := [vi x]
theorem c3V (x : Int) : (ci x).length = 1 := rfl
theorem c3W (x : Int) : (ci x).all (·.oneCell') = true := rfl
abbrev kS (s : ByteArray) : Value := Value.string s
abbrev vP (a : Option Addr) : Value := .pointer a
inductive Boxes : List (ByteArray × Option Addr) → List (ByteArray × Int) → Frag → Prop
  | nil : Boxes [] [] []
  | cons {s : ByteArray} {g : Nat} {v : Int} {lv : List (ByteArray × Option Addr)} {vs : List (ByteArray × Int)} {F : Frag} : Boxes lv vs F → Boxes ((s, some ⟨g, 0, none⟩) :: lv) ((s, v) :: vs) (bx g 2 [vi v] ++ F)
theorem Boxes.get {lv : List (ByteArray × Option Addr)} {vs : List (ByteArray × Int)} {F : Frag} (h : Boxes lv vs F) {s : ByteArray} {v : Int} : lk s vs = some v → ∃ g Fr, lk s lv = some (some ⟨g, 0, none⟩) ∧ F.Perm (bx g 2 [vi v] ++ Fr) ∧ ∀ v', ∃ F', Boxes lv (V1 s v' vs) F' ∧ F'.Perm (bx g 2 [vi v'] ++ Fr) := by
  induction h with
  | nil => intro e; cases e
  | @cons s1 g v1 lv vs F hb ih =>
    intro e
    rw [lk] at e
    by_cases hs : s = s1
    · rw [if_pos hs] at e
      cases e
      refine ⟨g, F, by rw [lk, if_pos hs], .refl _, fun v' => ⟨_, by rw [V1, if_pos hs, hs]; exact .cons hb, .refl _⟩⟩
    · rw [if_neg hs] at e
      obtain ⟨g2, Fr, h1, h2, h3⟩ := ih e
      refine ⟨g2, bx g 2 [vi v1] ++ Fr, by rw [lk, if_neg hs]; exact h1, (List.Perm.append_left _ h2).trans (List.perm_append_comm_assoc _ _ _), fun v' => ?_⟩
      obtain ⟨F', k1, k2⟩ := h3 v'
      exact ⟨_, by rw [V1, if_neg hs]; exact .cons k1, (List.Perm.append_left _ k2).trans (List.perm_append_comm_assoc _ _ _)⟩
inductive Arrs : List (ByteArray × Sl) → List (ByteArray × List Int) → Frag → Prop
  | nil : Arrs [] [] []
  | cons {s : ByteArray} {sl : Sl} {xs : List Int} {la : List (ByteArray × Sl)} {ars : List (ByteArray × List Int)} {F G : Frag} : RowL 2 1 ci sl xs F → Arrs la ars G → Arrs ((s, sl) :: la) ((s, xs) :: ars) (F ++ G)
theorem Arrs.get {la : List (ByteArray × Sl)} {ars : List (ByteArray × List Int)} {F : Frag} (h : Arrs la ars F) {s : ByteArray} {xs : List Int} : lk s ars = some xs → ∃ sl F1 Fr, lk s la = some sl ∧ RowL 2 1 ci sl xs F1 ∧ F.Perm (F1 ++ Fr) ∧ ∀ xs' F2, RowL 2 1 ci sl xs' F2 → ∃ F', Arrs la (V1 s xs' ars) F' ∧ F'.Perm (F2 ++ Fr) := by
  induction h with
  | nil => intro e; cases e
  | @cons s1 sl xs1 la ars F G hr hb ih =>
    intro e
    rw [lk] at e
    by_cases hs : s = s1
    · rw [if_pos hs] at e
      cases e
      refine ⟨sl, F, G, by rw [lk, if_pos hs], hr, .refl _, fun xs' F2 h2 => ⟨_, by rw [V1, if_pos hs, hs]; exact .cons h2 hb, .refl _⟩⟩
    · rw [if_neg hs] at e
      obtain ⟨sl2, F1, Fr, h1, h2, h3, h4⟩ := ih e
      refine ⟨sl2, F1, F ++ Fr, by rw [lk, if_neg hs]; exact h1, h2, (List.Perm.append_left _ h3).trans (List.perm_append_comm_assoc _ _ _), fun xs' F2 hr2 => ?_⟩
      obtain ⟨F', k1, k2⟩ := h4 xs' F2 hr2
      exact ⟨_, by rw [V1, if_neg hs]; exact .cons hr k1, (List.Perm.append_left _ k2).trans (List.perm_append_comm_assoc _ _ _)⟩
structure Cx where
  mv : Option Nat
  ma : Option Nat
  lv : List (ByteArray × Option Addr)
  la : List (ByteArray × Sl)
def rcs (X : Cx) (σ : St) (sc ev : Sl) : List Value := [vi (σ.left : Int), vi σ.steps, vs sc, vs ev, .map X.mv, .map X.ma]
structure RnW (X : Cx) (σ : St) (H : Hp) (sc ev : Sl) (Fe Fv Fa : Frag) : Prop where
  hsc : SlH H 1 ci sc σ.script
  cap : sc.n ≤ sc.c
  hev : RowL 55 3 T0 ev σ.events Fe
  hvs : Boxes X.lv σ.vars Fv
  has : Arrs X.la σ.arrs Fa
  hmv : MapH H kS vP X.mv X.lv
  hma : MapH H kS vs X.ma X.la
def RnF (g : Nat) (X : Cx) (σ : St) (H : Hp) (F : Frag) : Prop := ∃ sc ev Fe Fv Fa, RnW X σ H sc ev Fe Fv Fa ∧ F = bx g 90 (rcs X σ sc ev) ++ (Fe ++ (Fv ++ Fa))
section
variable {w0 w : World} {ps : Nat → Prop} {H0 H : Hp} {Fs : List Frag}
theorem Inv.un4 {A B C D : Frag} (I : Inv w0 ps H0 H ((A ++ (B ++ (C ++ D))) :: Fs) w) : Inv w0 ps H0 H (A :: B :: C :: D :: Fs) w := I.perm (by simp only [List.flatten_cons, List.append_assoc]; exact .refl _)
theorem Inv.jn4 {A B C D : Frag} (I : Inv w0 ps H0 H (A :: B :: C :: D :: Fs) w) : Inv w0 ps H0 H ((A ++ (B ++ (C ++ D))) :: Fs) w := I.perm (by simp only [List.flatten_cons, List.append_assoc]; exact .refl _)
theorem Inv.un2 {A B : Frag} (I : Inv w0 ps H0 H ((A ++ B) :: Fs) w) : Inv w0 ps H0 H (A :: B :: Fs) w := I.perm (by simp only [List.flatten_cons, List.append_assoc]; exact .refl _)
end
def endsV (st wr : Int) : Value := .iface 93 (.agg #[vi st, vi wr])
section
variable {k0 : Int} {ev0 : Nat} {ns ars : List ByteArray} {α : Type}
def CR (k0 : Int) (ev0 : Nat) (ns ars : List ByteArray) (f : FuncId) (args : List Value) (H : Hp) (g : Nat) (X : Cx) (m : M α) (enc : α → Value) : Prop :=
  ∀ σ F, RnF g X σ H F → Okst k0 ev0 ns ars σ → Ct Tryd.prog f args H [F]
    (fun v H' Fo => ∃ a σ' F', m σ = .ok a σ' ∧ v = enc a ∧ H' = H ∧ RnF g X σ' H F' ∧ Fo = [F'])
    (fun c H' Fo => ∃ st wr σ' F', m σ = .stop st wr σ' ∧ c = [{ v := endsV st wr, recovered := false }] ∧ H' = H ∧ RnF g X σ' H F' ∧ Fo = [F'])
section
variable {E : Pan} {w0 w : World} {ps : Nat → Prop} {H0 H : Hp} {Fr : List Frag} {K : Value → World → Prop} {g : Nat} {X : Cx} {m : M α} {enc : α → Value} {f : FuncId} {args : List Value}
theorem CR.use {σ : St} {F : Frag} (hc : CR k0 ev0 ns ars f args H g X m enc) (hr : RnF g X σ H F) (ho : Okst k0 ev0 ns ars σ) (I : Inv w0 ps H0 H (F :: Fr) w)
    (hq : ∀ a σ' F' w', m σ = .ok a σ' → RnF g X σ' H F' → Inv w0 ps H0 H (F' :: Fr) w' → K (enc a) w')
    (he : ∀ st wr σ' F' w', m σ = .stop st wr σ' → RnF g X σ' H F' → Inv w0 ps H0 H (F' :: Fr) w' → E [{ v := endsV st wr, recovered := false }] w') : Cv Tryd.prog f args.toArray w K E := by
  refine m6 (Fi := [F]) (Fr := Fr) I (hc σ F hr ho) (fun v H' Fo w' J _ _ q => ?_) fun c H' Fo w' J q => ?_
  · obtain ⟨a, σ', F', h1, rfl, rfl, h2, rfl⟩ := q
    exact hq a σ' F' w' h1 h2 J
  · obtain ⟨st, wr, σ', F', h1, rfl, rfl, h2, rfl⟩ := q
    exact he st wr σ' F' w' h1 h2 J
end
end
end Go.Proofs.YtnhkdkcgdcgmdaaDoor
namespace Go.Proofs.YtnhkdkcgdcgmdaaDoor
open Go.RowKit
set_option maxRecDepth 100000
set_option maxHeartbeats 2000000
structure Oc where
  st : Int
  wr : Int
  steps : Int
  events : List a1A
  vars : List Int
  arrs : List (List Int)
def vD (ds : List j7) : List (ByteArray × Int) := (ds.filter fun d => !decide (0 < d.E4)).map fun d => (d.d5, 0)
def aD (ds : List j7) : List (ByteArray × List Int) := (ds.filter fun d => decide (0 < d.E4)).map fun d => (d.d5, List.replicate d.E4.toNat 0)
def s0 (ds : List j7) (sc : List Int) (k : Nat) : St := ⟨k, 0, sc, [], vD ds, aD ds⟩
def endS : Rs Unit → Int × Int × St
  | .ok _ s => (2, 0, s)
  | .stop a b s => (a, b, s)
def ocS (r : Int × Int × St) : Oc := ⟨r.1, r.2.1, r.2.2.steps, r.2.2.events, r.2.2.vars.map (·.2), r.2.2.arrs.map (·.2)⟩
def runQ (q : PP) (sc : List Int) (k : Nat) : Oc := ocS (endS (seqM (q.body.map rnT) (s0 q.decls sc k)))
theorem d5x {t : PT} {v : Int} (h : cst t = some v) : ∃ k n s a cs, t = .mk (.expr k n s a) cs := by
  unfold cst at h
  split at h
  · exact ⟨_, _, _, _, _, rfl⟩
  · cases h
theorem b9X {t : PT} {v : Int} (h : cst t = some v) : evT t = ret v := by
  obtain ⟨k, n, s, a, cs, rfl⟩ := d5x h
  rw [evT]; unfold evN; rw [h]
theorem d1G {v : Int} (h : m2 v) (hm : v ≠ -9223372036854775808) : cst (plainT v) = some v := by
  unfold plainT
  by_cases hv : v < 0
  · rw [if_pos hv]
    unfold eN
    rw [cst, if_neg (by decide), if_pos rfl]
    show (if (1 : Int) = 1 then some (IntKind.wrap .i64 (0 - IntKind.wrap .i64 (0 - v))) else none) = some v
    rw [if_pos rfl, IntKind.wrap_i64, IntKind.wrap_i64]
    unfold m2 at h
    congr 1
    omega
  · rw [if_neg hv]
    unfold eN
    rw [cst, if_pos rfl]
def Nn (v : Int) : Prop := m2 v ∧ v ≠ -9223372036854775808
theorem b9Y {v : Int} (h : Nn v) : evT (plainT v) = ret v := b9X (d1G h.1 h.2)
theorem b8j {k n : Int} {s : ByteArray} {cs : List PT} (h1 : k ≠ 1) (h5 : k ≠ 5) : cst (eN k n s cs) = none := by
  unfold eN
  rw [cst, if_neg h1, if_neg h5]
theorem e2y {k n : Int} {s : ByteArray} {cs : List PT} (h1 : k ≠ 1) (h5 : k ≠ 5) (h2 : k ≠ 2) : giveM (eN k n s cs) = evT (eN k n s cs) := by
  unfold giveM
  rw [if_neg]
  have := b8j (n := n) (s := s) (cs := cs) h1 h5
  unfold eN at this ⊢
  unfold plainX
  rw [this]
  simp [h2]
theorem d5y {n : Int} {s : ByteArray} {a : PT} : evT (eN 4 n s [a]) = bnd (evT a) fun i => loadM s i := by
  rw [b8h]
  unfold evN
  rw [b8j (by decide) (by decide)]
  dsimp only
  rw [if_neg (by decide), evTs, evTs]
  simp only [a3e, b4V]
  funext s
  congr 1
theorem d5z {s : ByteArray} {e : PT} : rnT (sN 1 s [e] [] [] []) = bnd (giveM e) (setM s) := by rw [b8i]; rfl
theorem d1H {s : ByteArray} {a b : PT} : rnT (sN 2 s [a, b] [] [] []) = bnd (evT a) fun i => bnd (evT b) fun v => storeM s i v := by rw [b8i]; rfl
theorem c3X {n : Nat} {st : Int} {sc : List Int} {ev : List a1A} {v : List (ByteArray × Int)} {a : List (ByteArray × List Int)} : stepM ⟨n + 1, st, sc, ev, v, a⟩ = .ok () ⟨n, st + 1, sc, ev, v, a⟩ := by
  unfold stepM; rw [if_neg (Nat.succ_ne_zero _)]; rfl
abbrev aS : ByteArray := ⟨#[97]⟩
abbrev oS : ByteArray := ⟨#[]⟩
def storesP (i j v n : Int) : PP := ⟨[⟨xS, 0⟩, ⟨aS, n⟩], [sN 2 aS [plainT i, plainT v] [] [] [], sN 1 xS [eN 4 0 aS [plainT j]] [] [] []]⟩
theorem d5A {i j v n : Int} (hi : Nn i) (hj : Nn j) (hv : Nn v) (hn : 1 ≤ n) (hx : aS ≠ xS) : runQ (storesP i j v n) [] 10 =
    if i < 0 ∨ n ≤ i then ⟨3, 3, 1, [], [0], [List.replicate n.toNat 0]⟩
    else if j < 0 ∨ n ≤ j then ⟨3, 3, 2, [], [0], [(List.replicate n.toNat 0).set i.toNat v]⟩
    else ⟨2, 0, 2, [], [if i = j then v else 0], [(List.replicate n.toNat 0).set i.toNat v]⟩ := by
  have hs : s0 [⟨xS, 0⟩, ⟨aS, n⟩] [] 10 = ⟨9 + 1, 0, [], [], [(xS, 0)], [(aS, List.replicate n.toNat 0)]⟩ := by
    unfold s0 vD aD
    simp [show (0 : Int) < n by omega]
  unfold runQ storesP
  simp only [List.map_cons, List.map_nil]
  rw [hs, d1H, d5z, e2y (by decide) (by decide) (by decide), d5y, b9Y hi, b9Y hj, b9Y hv]
  simp only [b4V]
  rw [seqM, seqM, seqM]
  unfold storeM loadM itemM
  rw [a3e, a3e, E3 c3X]
  have hr : ∀ (st : Int) (l : Nat) (xs : List Int) (vs : List (ByteArray × Int)), rowOf aS ⟨l, st, [], [], vs, [(aS, xs)]⟩ = xs := fun st l xs vs => by unfold rowOf; simp [lk]
  have hl : ((List.replicate n.toNat (0 : Int)).length : Int) = n := by rw [List.length_replicate]; omega
  by_cases c1 : i < 0 ∨ n ≤ i
  · rw [if_pos c1]
    have : boundM aS i ⟨9, 0 + 1, [], [], [(xS, 0)], [(aS, List.replicate n.toNat 0)]⟩ = .stop 3 3 ⟨9, 0 + 1, [], [], [(xS, 0)], [(aS, List.replicate n.toNat 0)]⟩ := by
      unfold boundM; rw [hr, hl, if_pos c1]
    rw [M2 this]; rfl
  · rw [if_neg c1]
    have : boundM aS i ⟨9, 0 + 1, [], [], [(xS, 0)], [(aS, List.replicate n.toNat 0)]⟩ = .ok () ⟨9, 0 + 1, [], [], [(xS, 0)], [(aS, List.replicate n.toNat 0)]⟩ := by
      unfold boundM; rw [hr, hl, if_neg c1]
    rw [E3 this]
    have hp : putM aS i v ⟨9, 0 + 1, [], [], [(xS, 0)], [(aS, List.replicate n.toNat 0)]⟩ = .ok () ⟨8 + 1, 0 + 1, [], [], [(xS, 0)], [(aS, (List.replicate n.toNat 0).set i.toNat v)]⟩ := by
      unfold putM; rw [hr]; simp [V1]
    rw [E3 hp, a3e, a3e, a3e, E3 c3X]
    have hl2 : (((List.replicate n.toNat (0 : Int)).set i.toNat v).length : Int) = n := by rw [List.length_set]; exact hl
    by_cases c2 : j < 0 ∨ n ≤ j
    · rw [if_pos c2]
      have : boundM aS j ⟨8, 0 + 1 + 1, [], [], [(xS, 0)], [(aS, (List.replicate n.toNat 0).set i.toNat v)]⟩ = .stop 3 3 ⟨8, 0 + 1 + 1, [], [], [(xS, 0)], [(aS, (List.replicate n.toNat 0).set i.toNat v)]⟩ := by
        unfold boundM; rw [hr, hl2, if_pos c2]
      rw [M2 this]; rfl
    · rw [if_neg c2]
      have : boundM aS j ⟨8, 0 + 1 + 1, [], [], [(xS, 0)], [(aS, (List.replicate n.toNat 0).set i.toNat v)]⟩ = .ok () ⟨8, 0 + 1 + 1, [], [], [(xS, 0)], [(aS, (List.replicate n.toNat 0).set i.toNat v)]⟩ := by
        unfold boundM; rw [hr, hl2, if_neg c2]
      rw [E3 this]
      have hc : cellM aS j ⟨8, 0 + 1 + 1, [], [], [(xS, 0)], [(aS, (List.replicate n.toNat 0).set i.toNat v)]⟩ = .ok (if i = j then v else 0) ⟨8, 0 + 1 + 1, [], [], [(xS, 0)], [(aS, (List.replicate n.toNat 0).set i.toNat v)]⟩ := by
        unfold cellM; rw [hr]
        congr 1
        rw [List.getD_eq_getElem?_getD, List.getElem?_set]
        by_cases e : i = j
        · subst e
          rw [if_pos rfl, if_pos rfl, if_pos (by rw [List.length_replicate]; omega)]; rfl
        · rw [if_neg (by omega), if_neg e, List.getElem?_replicate]
          split <;> rfl
      rw [E3 hc]
      have : setM xS (if i = j then v else 0) ⟨8, 0 + 1 + 1, [], [], [(xS, 0)], [(aS, (List.replicate n.toNat 0).set i.toNat v)]⟩ = .ok () ⟨8, 0 + 1 + 1, [], [], [(xS, if i = j then v else 0)], [(aS, (List.replicate n.toNat 0).set i.toNat v)]⟩ := by
        unfold setM; simp [V1]
      rw [E3 this]; rfl
theorem n0 : Nn 0 := ⟨by unfold m2; omega, by decide⟩
theorem n1 : Nn 1 := ⟨by unfold m2; omega, by decide⟩
theorem n2 : Nn 2 := ⟨by unfold m2; omega, by decide⟩
end Go.Proofs.YtnhkdkcgdcgmdaaDoor
