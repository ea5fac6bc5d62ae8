/- How a run's state lies in memory: the runner's box, its events, its variables' boxes, its arrays' rows. The contract of a runner's method. -/
import Derived.Test.YtnhkdkcgdcgmdaaDoorzZN2
namespace Go.Proofs.YtnhkdkcgdcgmdaaDoor
open Go.RowKit
set_option maxRecDepth 100000
set_option maxHeartbeats 2000000
def ci (x : Int) : List Value := [vi x]
theorem c4T (x : Int) : (ci x).length = 1 := rfl
theorem c4U (x : Int) : (ci x).all (·.oneCell') = true := rfl
abbrev kS (s : ByteArray) : Value := Value.string s
abbrev vP (a : Option Addr) : Value := .pointer a
inductive Boxes : List (ByteArray × Option Addr) → List (ByteArray × Int) → Frag → Prop
  | nil : Boxes [] [] []
  | cons {s : ByteArray} {g : Nat} {v : Int} {lv : List (ByteArray × Option Addr)} {vs : List (ByteArray × Int)} {F : Frag} : Boxes lv vs F → Boxes ((s, some ⟨g, 0, none⟩) :: lv) ((s, v) :: vs) (bx g 2 [vi v] ++ F)
theorem Boxes.get {lv : List (ByteArray × Option Addr)} {vs : List (ByteArray × Int)} {F : Frag} (h : Boxes lv vs F) {s : ByteArray} {v : Int} : lk s vs = some v → ∃ g Fr, lk s lv = some (some ⟨g, 0, none⟩) ∧ F.Perm (bx g 2 [vi v] ++ Fr) ∧ ∀ v', ∃ F', Boxes lv (a0b s v' vs) F' ∧ F'.Perm (bx g 2 [vi v'] ++ Fr) := by
  induction h with
  | nil => intro e; cases e
  | @cons s1 g v1 lv vs F hb ih =>
    intro e
    rw [lk] at e
    by_cases hs : s = s1
    · rw [if_pos hs] at e
      cases e
      refine ⟨g, F, by rw [lk, if_pos hs], .refl _, fun v' => ⟨_, by rw [a0b, if_pos hs, hs]; exact .cons hb, .refl _⟩⟩
    · rw [if_neg hs] at e
      obtain ⟨g2, Fr, h1, h2, h3⟩ := ih e
      refine ⟨g2, bx g 2 [vi v1] ++ Fr, by rw [lk, if_neg hs]; exact h1, (List.Perm.append_left _ h2).trans (List.perm_append_comm_assoc _ _ _), fun v' => ?_⟩
      obtain ⟨F', k1, k2⟩ := h3 v'
      exact ⟨_, by rw [a0b, if_neg hs]; exact .cons k1, (List.Perm.append_left _ k2).trans (List.perm_append_comm_assoc _ _ _)⟩
inductive Arrs : List (ByteArray × Sl) → List (ByteArray × List Int) → Frag → Prop
  | nil : Arrs [] [] []
  | cons {s : ByteArray} {sl : Sl} {xs : List Int} {la : List (ByteArray × Sl)} {ars : List (ByteArray × List Int)} {F G : Frag} : RowL 2 1 ci sl xs F → Arrs la ars G → Arrs ((s, sl) :: la) ((s, xs) :: ars) (F ++ G)
theorem Arrs.get {la : List (ByteArray × Sl)} {ars : List (ByteArray × List Int)} {F : Frag} (h : Arrs la ars F) {s : ByteArray} {xs : List Int} : lk s ars = some xs → ∃ sl F1 Fr, lk s la = some sl ∧ RowL 2 1 ci sl xs F1 ∧ F.Perm (F1 ++ Fr) ∧ ∀ xs' F2, RowL 2 1 ci sl xs' F2 → ∃ F', Arrs la (a0b s xs' ars) F' ∧ F'.Perm (F2 ++ Fr) := by
  induction h with
  | nil => intro e; cases e
  | @cons s1 sl xs1 la ars F G hr hb ih =>
    intro e
    rw [lk] at e
    by_cases hs : s = s1
    · rw [if_pos hs] at e
      cases e
      refine ⟨sl, F, G, by rw [lk, if_pos hs], hr, .refl _, fun xs' F2 h2 => ⟨_, by rw [a0b, if_pos hs, hs]; exact .cons h2 hb, .refl _⟩⟩
    · rw [if_neg hs] at e
      obtain ⟨sl2, F1, Fr, h1, h2, h3, h4⟩ := ih e
      refine ⟨sl2, F1, F ++ Fr, by rw [lk, if_neg hs]; exact h1, h2, (List.Perm.append_left _ h3).trans (List.perm_append_comm_assoc _ _ _), fun xs' F2 hr2 => ?_⟩
      obtain ⟨F', k1, k2⟩ := h4 xs' F2 hr2
      exact ⟨_, by rw [a0b, if_neg hs]; exact .cons hr k1, (List.Perm.append_left _ k2).trans (List.perm_append_comm_assoc _ _ _)⟩
structure Cx where
  mv : Option Nat
  ma : Option Nat
  lv : List (ByteArray × Option Addr)
  la : List (ByteArray × Sl)
def rcs (X : Cx) (σ : St) (sc ev : Sl) : List Value := [vi (σ.left : Int), vi σ.steps, vs sc, vs ev, .map X.mv, .map X.ma]
structure RnW (X : Cx) (σ : St) (H : Hp) (sc ev : Sl) (Fe Fv Fa : Frag) : Prop where
  hsc : SlH H 1 ci sc σ.script
  cap : sc.n ≤ sc.c
  hev : RowL 55 3 T6 ev σ.events Fe
  hvs : Boxes X.lv σ.vars Fv
  has : Arrs X.la σ.arrs Fa
  hmv : MapH H kS vP X.mv X.lv
  hma : MapH H kS vs X.ma X.la
def RnF (g : Nat) (X : Cx) (σ : St) (H : Hp) (F : Frag) : Prop := ∃ sc ev Fe Fv Fa, RnW X σ H sc ev Fe Fv Fa ∧ F = bx g 90 (rcs X σ sc ev) ++ (Fe ++ (Fv ++ Fa))
section
variable {w0 w : World} {ps : Nat → Prop} {H0 H : Hp} {Fs : List Frag}
theorem Inv.un4 {A B C D : Frag} (I : Inv w0 ps H0 H ((A ++ (B ++ (C ++ D))) :: Fs) w) : Inv w0 ps H0 H (A :: B :: C :: D :: Fs) w := I.perm (by simp only [List.flatten_cons, List.append_assoc]; exact .refl _)
theorem Inv.jn4 {A B C D : Frag} (I : Inv w0 ps H0 H (A :: B :: C :: D :: Fs) w) : Inv w0 ps H0 H ((A ++ (B ++ (C ++ D))) :: Fs) w := I.perm (by simp only [List.flatten_cons, List.append_assoc]; exact .refl _)
theorem Inv.un2 {A B : Frag} (I : Inv w0 ps H0 H ((A ++ B) :: Fs) w) : Inv w0 ps H0 H (A :: B :: Fs) w := I.perm (by simp only [List.flatten_cons, List.append_assoc]; exact .refl _)
end
def endsV (st wr : Int) : Value := .iface 93 (.agg #[vi st, vi wr])
section
variable {k0 : Int} {ev0 : Nat} {ns ars : List ByteArray} {α : Type}
def CR (k0 : Int) (ev0 : Nat) (ns ars : List ByteArray) (f : FuncId) (args : List Value) (H : Hp) (g : Nat) (X : Cx) (m : M α) (enc : α → Value) : Prop :=
  ∀ σ F, RnF g X σ H F → Okst k0 ev0 ns ars σ → Ct Tryd.prog f args H [F]
    (fun v H' Fo => ∃ a σ' F', m σ = .ok a σ' ∧ v = enc a ∧ H' = H ∧ RnF g X σ' H F' ∧ Fo = [F'])
    (fun c H' Fo => ∃ st wr σ' F', m σ = .stop st wr σ' ∧ c = [{ v := endsV st wr, recovered := false }] ∧ H' = H ∧ RnF g X σ' H F' ∧ Fo = [F'])
section
variable {E : Pan} {w0 w : World} {ps : Nat → Prop} {H0 H : Hp} {Fr : List Frag} {K : Value → World → Prop} {g : Nat} {X : Cx} {m : M α} {enc : α → Value} {f : FuncId} {args : List Value}
theorem CR.use {σ : St} {F : Frag} (hc : CR k0 ev0 ns ars f args H g X m enc) (hr : RnF g X σ H F) (ho : Okst k0 ev0 ns ars σ) (I : Inv w0 ps H0 H (F :: Fr) w)
    (hq : ∀ a σ' F' w', m σ = .ok a σ' → RnF g X σ' H F' → Inv w0 ps H0 H (F' :: Fr) w' → K (enc a) w')
    (he : ∀ st wr σ' F' w', m σ = .stop st wr σ' → RnF g X σ' H F' → Inv w0 ps H0 H (F' :: Fr) w' → E [{ v := endsV st wr, recovered := false }] w') : Cv Tryd.prog f args.toArray w K E := by
  refine m9 (Fi := [F]) (Fr := Fr) I (hc σ F hr ho) (fun v H' Fo w' J _ _ q => ?_) fun c H' Fo w' J q => ?_
  · obtain ⟨a, σ', F', h1, rfl, rfl, h2, rfl⟩ := q
    exact hq a σ' F' w' h1 h2 J
  · obtain ⟨st, wr, σ', F', h1, rfl, rfl, h2, rfl⟩ := q
    exact he st wr σ' F' w' h1 h2 J
end
end
end Go.Proofs.YtnhkdkcgdcgmdaaDoor
namespace Go.Proofs.YtnhkdkcgdcgmdaaDoor
open Go.RowKit
set_option maxRecDepth 100000
set_option maxHeartbeats 2000000
structure Oc where
  st : Int
  wr : Int
  steps : Int
  events : List a1h
  vars : List Int
  arrs : List (List Int)
def vD (ds : List m3) : List (ByteArray × Int) := (ds.filter fun d => !decide (0 < d.E0)).map fun d => (d.g7, 0)
def aD (ds : List m3) : List (ByteArray × List Int) := (ds.filter fun d => decide (0 < d.E0)).map fun d => (d.g7, List.replicate d.E0.toNat 0)
def s0 (ds : List m3) (sc : List Int) (k : Nat) : St := ⟨k, 0, sc, [], vD ds, aD ds⟩
def endS : Rs Unit → Int × Int × St
  | .ok _ s => (2, 0, s)
  | .stop a b s => (a, b, s)
def ocS (r : Int × Int × St) : Oc := ⟨r.1, r.2.1, r.2.2.steps, r.2.2.events, r.2.2.vars.map (·.2), r.2.2.arrs.map (·.2)⟩
def runQ (q : PP) (sc : List Int) (k : Nat) : Oc := ocS (endS (seqM (q.body.map rnT) (s0 q.decls sc k)))
theorem c4V {t : PT} {v : Int} (h : cst t = some v) : ∃ k n s a cs, t = .mk (.expr k n s a) cs := by
  unfold cst at h
  split at h
  · exact ⟨_, _, _, _, _, rfl⟩
  · cases h
theorem c0B {t : PT} {v : Int} (h : cst t = some v) : evT t = ret v := by
  obtain ⟨k, n, s, a, cs, rfl⟩ := c4V h
  rw [evT]; unfold evN; rw [h]
theorem c1p {v : Int} (h : o0 v) (hm : v ≠ -9223372036854775808) : cst (plainT v) = some v := by
  unfold plainT
  by_cases hv : v < 0
  · rw [if_pos hv]
    unfold eN
    rw [cst, if_neg (by decide), if_pos rfl]
    show (if (1 : Int) = 1 then some (IntKind.wrap .i64 (0 - IntKind.wrap .i64 (0 - v))) else none) = some v
    rw [if_pos rfl, IntKind.wrap_i64, IntKind.wrap_i64]
    unfold o0 at h
    congr 1
    omega
  · rw [if_neg hv]
    unfold eN
    rw [cst, if_pos rfl]
def Nn (v : Int) : Prop := o0 v ∧ v ≠ -9223372036854775808
theorem b5B {v : Int} (h : Nn v) : evT (plainT v) = ret v := c0B (c1p h.1 h.2)
theorem d2C {v : Int} (h : Nn v) : giveM (plainT v) = bnd stepM fun _ => ret v := by
  unfold giveM
  have : plainX (plainT v) = true := by
    have hc := c1p h.1 h.2
    generalize plainT v = t at hc ⊢
    obtain ⟨k, n, s, a, cs, rfl⟩ := c4V hc
    unfold plainX; rw [hc]; rfl
  rw [if_pos this, b5B h]
theorem b8U {k n : Int} {s : ByteArray} {cs : List PT} (h1 : k ≠ 1) (h5 : k ≠ 5) : cst (eN k n s cs) = none := by
  unfold eN
  rw [cst, if_neg h1, if_neg h5]
theorem e2T {k n : Int} {s : ByteArray} {a b : PT} (hk : 6 ≤ k) : evT (eN k n s [a, b]) = bnd (evT a) fun x => bnd (evT b) fun y => bnd stepM fun _ => toldM (opS (k - 2) x y) := by
  rw [b4r]
  unfold evN
  rw [b8U (by omega) (by omega)]
  dsimp only
  rw [if_neg (by omega), evTs, evTs, evTs]
  simp only [E9, a0Q]
  funext s
  congr 1
  funext x
  congr 1
  funext y
  rw [if_neg (by omega), if_neg (by omega)]
  rfl
theorem e2U {n : Int} {s : ByteArray} : evT (eN 2 n s []) = getM s := by
  rw [b4r]
  unfold evN
  rw [b8U (by decide) (by decide)]
  rfl
theorem d6l {s : ByteArray} {e : PT} : rnT (sN 1 s [e] [] [] []) = bnd (giveM e) (setM s) := by rw [b8T]; rfl
theorem f3g {s : ByteArray} {c : PT} {vs ws : List PT} : rnT (sN 3 s [] [c] vs ws) = bnd (cvT c) fun h => if h = true then seqM (vs.map rnT) else seqM (ws.map rnT) := by rw [b8T]; rfl
theorem c7h {op : Int} {a b : PT} : cvT (cN 3 op [a, b] []) = bnd (evT a) fun x => bnd (evT b) fun y => bnd stepM fun _ => ret (cmpS op x y) := by rw [b1l]; rfl
theorem b5C {op : Int} {a : PT} : cvT (cN 4 op [] [a]) = bnd (cvT a) fun b => ret !b := by rw [b1l]; rfl
theorem b5D {op : Int} {a b : PT} : cvT (cN 5 op [] [a, b]) = bnd (cvT a) fun h => if h = true then cvT b else ret false := by rw [b1l]; rfl
theorem b8V {op : Int} {a b : PT} : cvT (cN 6 op [] [a, b]) = bnd (cvT a) fun h => if h = true then ret true else cvT b := by rw [b1l]; rfl
theorem b7m {n : Nat} {st : Int} {sc : List Int} {ev : List a1h} {v : List (ByteArray × Int)} {a : List (ByteArray × List Int)} : stepM ⟨n + 1, st, sc, ev, v, a⟩ = .ok () ⟨n, st + 1, sc, ev, v, a⟩ := by
  unfold stepM; rw [if_neg (Nat.succ_ne_zero _)]; rfl
abbrev oS : ByteArray := ⟨#[]⟩
def notP (neg : Bool) (c : PT) : PT := if neg = true then cN 4 0 [] [c] else c
def shortP (a b : Int) (or neg : Bool) : PP := ⟨[⟨xS, 0⟩], [sN 3 oS [] [notP neg (cN (if or = true then 6 else 5) 0 [] [cN 3 1 [plainT a, plainT b] [], cN 3 3 [eN 9 0 oS [plainT 1, eN 2 0 xS []], plainT 0] []])] [sN 1 xS [plainT 1] [] [] []] [sN 1 xS [plainT 2] [] [] []]]⟩
theorem n0 : Nn 0 := ⟨by unfold o0; omega, by decide⟩
theorem n1 : Nn 1 := ⟨by unfold o0; omega, by decide⟩
theorem n2 : Nn 2 := ⟨by unfold o0; omega, by decide⟩
theorem e2V {α : Type} {x : ByteArray} {v : Int} {k : Int → M α} {l : Nat} {st : Int} {sc : List Int} {ev : List a1h} {vs : List (ByteArray × Int)} {ars : List (ByteArray × List Int)} : bnd (getM x) k ⟨l, st, sc, ev, (x, v) :: vs, ars⟩ = k v ⟨l, st, sc, ev, (x, v) :: vs, ars⟩ := by
  unfold bnd getM
  simp [lk, Rs.andThen]
theorem e2W {a b : Int} {or neg : Bool} (ha : Nn a) (hb : Nn b) : runQ (shortP a b or neg) [] 10 = if decide (a < b) ≠ or then ⟨3, 2, 2, [], [0], []⟩ else ⟨2, 0, 2, [], [if or ≠ neg then 1 else 2], []⟩ := by
  unfold runQ shortP
  simp only [List.map_cons, List.map_nil]
  show ocS (endS (seqM _ ⟨9 + 1, 0, [], [], [(xS, 0)], []⟩)) = _
  have h2 : ∀ (st : Int), cvT (cN 3 3 [eN 9 0 oS [plainT 1, eN 2 0 xS []], plainT 0] []) ⟨9, st, [], [], [(xS, 0)], []⟩ = .stop 3 2 ⟨8, st + 1, [], [], [(xS, 0)], []⟩ := fun st => by
    have : ∀ k : Int → M Bool, bnd (evT (eN 9 0 oS [plainT 1, eN 2 0 xS []])) k ⟨9, st, [], [], [(xS, 0)], []⟩ = .stop 3 2 ⟨8, st + 1, [], [], [(xS, 0)], []⟩ := fun k => by
      rw [e2T (by decide), b5B n1, e2U, a0Q, E9, e2V, E9, G7 b7m]
      exact K0 (m := toldM (opS (9 - 2) 1 0)) rfl
    rw [c7h, this]
  have h1 : ∀ k : Bool → M Unit, bnd (cvT (cN 3 1 [plainT a, plainT b] [])) k ⟨9 + 1, 0, [], [], [(xS, 0)], []⟩ = k (decide (a < b)) ⟨9, 0 + 1, [], [], [(xS, 0)], []⟩ := fun k => by
    rw [c7h, b5B ha, b5B hb, a0Q, a0Q, E9, G7 b7m, a0Q]
    rfl
  have h3 : ∀ (v : Int), Nn v → seqM [rnT (sN 1 xS [plainT v] [] [] [])] ⟨9, 0 + 1, [], [], [(xS, 0)], []⟩ = .ok () ⟨8, 0 + 1 + 1, [], [], [(xS, v)], []⟩ := fun v hv => by
    rw [seqM, seqM, d6l, d2C hv, E9, E9, G7 b7m, a0Q]
    rfl
  have h4 : ∀ (h : Bool), (bnd (fun s => (if h = true then seqM [rnT (sN 1 xS [plainT 1] [] [] [])] else seqM [rnT (sN 1 xS [plainT 2] [] [] [])]) s) fun _ => ret ()) ⟨9, 0 + 1, [], [], [(xS, 0)], []⟩ = .ok () ⟨8, 0 + 1 + 1, [], [], [(xS, if h = true then 1 else 2)], []⟩ := fun h => by
    cases h
    · exact G7 (h3 2 n2)
    · exact G7 (h3 1 n1)
  rw [seqM, seqM, f3g]
  simp only [List.map_cons, List.map_nil]
  by_cases hab : a < b
  · cases or
    · rw [if_pos (show decide (a < b) ≠ false by simp [hab])]
      cases neg
      · rw [notP, if_neg (by decide), if_neg (by decide), b5D, E9, E9, h1, decide_eq_true hab, if_pos rfl, K0 (h2 _)]; rfl
      · rw [notP, if_pos rfl, if_neg (by decide), b5C, b5D, E9, E9, E9, h1, decide_eq_true hab, if_pos rfl, K0 (h2 _)]; rfl
    · rw [if_neg (show ¬ (decide (a < b) ≠ true) by simp [hab])]
      cases neg
      · rw [notP, if_neg (by decide), if_pos rfl, b8V, E9, E9, h1, decide_eq_true hab, if_pos rfl, a0Q]
        exact congrArg (fun r => ocS (endS r)) (h4 true)
      · rw [notP, if_pos rfl, if_pos rfl, b5C, b8V, E9, E9, E9, h1, decide_eq_true hab, if_pos rfl, a0Q, a0Q]
        exact congrArg (fun r => ocS (endS r)) (h4 false)
  · cases or
    · rw [if_neg (show ¬ (decide (a < b) ≠ false) by simp [hab])]
      cases neg
      · rw [notP, if_neg (by decide), if_neg (by decide), b5D, E9, E9, h1, decide_eq_false hab, if_neg (by decide), a0Q]
        exact congrArg (fun r => ocS (endS r)) (h4 false)
      · rw [notP, if_pos rfl, if_neg (by decide), b5C, b5D, E9, E9, E9, h1, decide_eq_false hab, if_neg (by decide), a0Q, a0Q]
        exact congrArg (fun r => ocS (endS r)) (h4 true)
    · rw [if_pos (show decide (a < b) ≠ true by simp [hab])]
      cases neg
      · rw [notP, if_neg (by decide), if_pos rfl, b8V, E9, E9, h1, decide_eq_false hab, if_neg (by decide), K0 (h2 _)]; rfl
      · rw [notP, if_pos rfl, if_pos rfl, b5C, b8V, E9, E9, E9, h1, decide_eq_false hab, if_neg (by decide), K0 (h2 _)]; rfl
end Go.Proofs.YtnhkdkcgdcgmdaaDoor
