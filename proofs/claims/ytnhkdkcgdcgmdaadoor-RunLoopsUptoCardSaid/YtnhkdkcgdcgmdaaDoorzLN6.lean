/- How a run's state lies in memory: the runner's box, its events, its variables' boxes, its arrays' rows. The contract of a runner's method. -/
import Derived.Test.YtnhkdkcgdcgmdaaDoorzLN2
namespace Go.Proofs.YtnhkdkcgdcgmdaaDoor
open Go.RowKit
set_option maxRecDepth 100000
set_option maxHeartbeats 2000000
def ci (x : Int) : List Value := [vi x]
theorem c3R (x : Int) : (ci x).length = 1 := rfl
theorem c3S (x : Int) : (ci x).all (·.oneCell') = true := rfl
abbrev kS (s : ByteArray) : Value := Value.string s
abbrev vP (a : Option Addr) : Value := .pointer a
inductive Boxes : List (ByteArray × Option Addr) → List (ByteArray × Int) → Frag → Prop
  | nil : Boxes [] [] []
  | cons {s : ByteArray} {g : Nat} {v : Int} {lv : List (ByteArray × Option Addr)} {vs : List (ByteArray × Int)} {F : Frag} : Boxes lv vs F → Boxes ((s, some ⟨g, 0, none⟩) :: lv) ((s, v) :: vs) (bx g 2 [vi v] ++ F)
theorem Boxes.get {lv : List (ByteArray × Option Addr)} {vs : List (ByteArray × Int)} {F : Frag} (h : Boxes lv vs F) {s : ByteArray} {v : Int} : lk s vs = some v → ∃ g Fr, lk s lv = some (some ⟨g, 0, none⟩) ∧ F.Perm (bx g 2 [vi v] ++ Fr) ∧ ∀ v', ∃ F', Boxes lv (W4 s v' vs) F' ∧ F'.Perm (bx g 2 [vi v'] ++ Fr) := by
  induction h with
  | nil => intro e; cases e
  | @cons s1 g v1 lv vs F hb ih =>
    intro e
    rw [lk] at e
    by_cases hs : s = s1
    · rw [if_pos hs] at e
      cases e
      refine ⟨g, F, by rw [lk, if_pos hs], .refl _, fun v' => ⟨_, by rw [W4, if_pos hs, hs]; exact .cons hb, .refl _⟩⟩
    · rw [if_neg hs] at e
      obtain ⟨g2, Fr, h1, h2, h3⟩ := ih e
      refine ⟨g2, bx g 2 [vi v1] ++ Fr, by rw [lk, if_neg hs]; exact h1, (List.Perm.append_left _ h2).trans (List.perm_append_comm_assoc _ _ _), fun v' => ?_⟩
      obtain ⟨F', k1, k2⟩ := h3 v'
      exact ⟨_, by rw [W4, if_neg hs]; exact .cons k1, (List.Perm.append_left _ k2).trans (List.perm_append_comm_assoc _ _ _)⟩
inductive Arrs : List (ByteArray × Sl) → List (ByteArray × List Int) → Frag → Prop
  | nil : Arrs [] [] []
  | cons {s : ByteArray} {sl : Sl} {xs : List Int} {la : List (ByteArray × Sl)} {ars : List (ByteArray × List Int)} {F G : Frag} : RowL 2 1 ci sl xs F → Arrs la ars G → Arrs ((s, sl) :: la) ((s, xs) :: ars) (F ++ G)
theorem Arrs.get {la : List (ByteArray × Sl)} {ars : List (ByteArray × List Int)} {F : Frag} (h : Arrs la ars F) {s : ByteArray} {xs : List Int} : lk s ars = some xs → ∃ sl F1 Fr, lk s la = some sl ∧ RowL 2 1 ci sl xs F1 ∧ F.Perm (F1 ++ Fr) ∧ ∀ xs' F2, RowL 2 1 ci sl xs' F2 → ∃ F', Arrs la (W4 s xs' ars) F' ∧ F'.Perm (F2 ++ Fr) := by
  induction h with
  | nil => intro e; cases e
  | @cons s1 sl xs1 la ars F G hr hb ih =>
    intro e
    rw [lk] at e
    by_cases hs : s = s1
    · rw [if_pos hs] at e
      cases e
      refine ⟨sl, F, G, by rw [lk, if_pos hs], hr, .refl _, fun xs' F2 h2 => ⟨_, by rw [W4, if_pos hs, hs]; exact .cons h2 hb, .refl _⟩⟩
    · rw [if_neg hs] at e
      obtain ⟨sl2, F1, Fr, h1, h2, h3, h4⟩ := ih e
      refine ⟨sl2, F1, F ++ Fr, by rw [lk, if_neg hs]; exact h1, h2, (List.Perm.append_left _ h3).trans (List.perm_append_comm_assoc _ _ _), fun xs' F2 hr2 => ?_⟩
      obtain ⟨F', k1, k2⟩ := h4 xs' F2 hr2
      exact ⟨_, by rw [W4, if_neg hs]; exact .cons hr k1, (List.Perm.append_left _ k2).trans (List.perm_append_comm_assoc _ _ _)⟩
structure Cx where
  mv : Option Nat
  ma : Option Nat
  lv : List (ByteArray × Option Addr)
  la : List (ByteArray × Sl)
def rcs (X : Cx) (σ : St) (sc ev : Sl) : List Value := [vi (σ.left : Int), vi σ.steps, vs sc, vs ev, .map X.mv, .map X.ma]
structure RnW (X : Cx) (σ : St) (H : Hp) (sc ev : Sl) (Fe Fv Fa : Frag) : Prop where
  hsc : SlH H 1 ci sc σ.script
  cap : sc.n ≤ sc.c
  hev : RowL 55 3 S3 ev σ.events Fe
  hvs : Boxes X.lv σ.vars Fv
  has : Arrs X.la σ.arrs Fa
  hmv : MapH H kS vP X.mv X.lv
  hma : MapH H kS vs X.ma X.la
def RnF (g : Nat) (X : Cx) (σ : St) (H : Hp) (F : Frag) : Prop := ∃ sc ev Fe Fv Fa, RnW X σ H sc ev Fe Fv Fa ∧ F = bx g 90 (rcs X σ sc ev) ++ (Fe ++ (Fv ++ Fa))
section
variable {w0 w : World} {ps : Nat → Prop} {H0 H : Hp} {Fs : List Frag}
theorem Inv.un4 {A B C D : Frag} (I : Inv w0 ps H0 H ((A ++ (B ++ (C ++ D))) :: Fs) w) : Inv w0 ps H0 H (A :: B :: C :: D :: Fs) w := I.perm (by simp only [List.flatten_cons, List.append_assoc]; exact .refl _)
theorem Inv.jn4 {A B C D : Frag} (I : Inv w0 ps H0 H (A :: B :: C :: D :: Fs) w) : Inv w0 ps H0 H ((A ++ (B ++ (C ++ D))) :: Fs) w := I.perm (by simp only [List.flatten_cons, List.append_assoc]; exact .refl _)
theorem Inv.un2 {A B : Frag} (I : Inv w0 ps H0 H ((A ++ B) :: Fs) w) : Inv w0 ps H0 H (A :: B :: Fs) w := I.perm (by simp only [List.flatten_cons, List.append_assoc]; exact .refl _)
end
def endsV (st wr : Int) : Value := .iface 93 (.agg #[vi st, vi wr])
section
variable {k0 : Int} {ev0 : Nat} {ns ars : List ByteArray} {α : Type}
def CR (k0 : Int) (ev0 : Nat) (ns ars : List ByteArray) (f : FuncId) (args : List Value) (H : Hp) (g : Nat) (X : Cx) (m : M α) (enc : α → Value) : Prop :=
  ∀ σ F, RnF g X σ H F → Okst k0 ev0 ns ars σ → Ct Tryd.prog f args H [F]
    (fun v H' Fo => ∃ a σ' F', m σ = .ok a σ' ∧ v = enc a ∧ H' = H ∧ RnF g X σ' H F' ∧ Fo = [F'])
    (fun c H' Fo => ∃ st wr σ' F', m σ = .stop st wr σ' ∧ c = [{ v := endsV st wr, recovered := false }] ∧ H' = H ∧ RnF g X σ' H F' ∧ Fo = [F'])
section
variable {E : Pan} {w0 w : World} {ps : Nat → Prop} {H0 H : Hp} {Fr : List Frag} {K : Value → World → Prop} {g : Nat} {X : Cx} {m : M α} {enc : α → Value} {f : FuncId} {args : List Value}
theorem CR.use {σ : St} {F : Frag} (hc : CR k0 ev0 ns ars f args H g X m enc) (hr : RnF g X σ H F) (ho : Okst k0 ev0 ns ars σ) (I : Inv w0 ps H0 H (F :: Fr) w)
    (hq : ∀ a σ' F' w', m σ = .ok a σ' → RnF g X σ' H F' → Inv w0 ps H0 H (F' :: Fr) w' → K (enc a) w')
    (he : ∀ st wr σ' F' w', m σ = .stop st wr σ' → RnF g X σ' H F' → Inv w0 ps H0 H (F' :: Fr) w' → E [{ v := endsV st wr, recovered := false }] w') : Cv Tryd.prog f args.toArray w K E := by
  refine m5 (Fi := [F]) (Fr := Fr) I (hc σ F hr ho) (fun v H' Fo w' J _ _ q => ?_) fun c H' Fo w' J q => ?_
  · obtain ⟨a, σ', F', h1, rfl, rfl, h2, rfl⟩ := q
    exact hq a σ' F' w' h1 h2 J
  · obtain ⟨st, wr, σ', F', h1, rfl, rfl, h2, rfl⟩ := q
    exact he st wr σ' F' w' h1 h2 J
end
end
end Go.Proofs.YtnhkdkcgdcgmdaaDoor
namespace Go.Proofs.YtnhkdkcgdcgmdaaDoor
open Go.RowKit
set_option maxRecDepth 100000
set_option maxHeartbeats 2000000
structure Oc where
  st : Int
  wr : Int
  steps : Int
  events : List a0H
  vars : List Int
  arrs : List (List Int)
def vD (ds : List j7) : List (ByteArray × Int) := (ds.filter fun d => !decide (0 < d.D3)).map fun d => (d.d6, 0)
def aD (ds : List j7) : List (ByteArray × List Int) := (ds.filter fun d => decide (0 < d.D3)).map fun d => (d.d6, List.replicate d.D3.toNat 0)
def s0 (ds : List j7) (sc : List Int) (k : Nat) : St := ⟨k, 0, sc, [], vD ds, aD ds⟩
def endS : Rs Unit → Int × Int × St
  | .ok _ s => (2, 0, s)
  | .stop a b s => (a, b, s)
def ocS (r : Int × Int × St) : Oc := ⟨r.1, r.2.1, r.2.2.steps, r.2.2.events, r.2.2.vars.map (·.2), r.2.2.arrs.map (·.2)⟩
def runQ (q : PP) (sc : List Int) (k : Nat) : Oc := ocS (endS (seqM (q.body.map rnT) (s0 q.decls sc k)))
theorem d5a {t : PT} {v : Int} (h : cst t = some v) : ∃ k n s a cs, t = .mk (.expr k n s a) cs := by
  unfold cst at h
  split at h
  · exact ⟨_, _, _, _, _, rfl⟩
  · cases h
theorem b9U {t : PT} {v : Int} (h : cst t = some v) : evT t = ret v := by
  obtain ⟨k, n, s, a, cs, rfl⟩ := d5a h
  rw [evT]; unfold evN; rw [h]
theorem d1n {v : Int} (h : m3 v) (hm : v ≠ -9223372036854775808) : cst (plainT v) = some v := by
  unfold plainT
  by_cases hv : v < 0
  · rw [if_pos hv]
    unfold eN
    rw [cst, if_neg (by decide), if_pos rfl]
    show (if (1 : Int) = 1 then some (IntKind.wrap .i64 (0 - IntKind.wrap .i64 (0 - v))) else none) = some v
    rw [if_pos rfl, IntKind.wrap_i64, IntKind.wrap_i64]
    unfold m3 at h
    congr 1
    omega
  · rw [if_neg hv]
    unfold eN
    rw [cst, if_pos rfl]
def Nn (v : Int) : Prop := m3 v ∧ v ≠ -9223372036854775808
theorem c6f {v : Int} (h : Nn v) : evT (plainT v) = ret v := b9U (d1n h.1 h.2)
theorem b3U {k n : Int} {s : ByteArray} {cs : List PT} (h1 : k ≠ 1) (h5 : k ≠ 5) : cst (eN k n s cs) = none := by
  unfold eN
  rw [cst, if_neg h1, if_neg h5]
theorem e1B {k n : Int} {s : ByteArray} {cs : List PT} (h1 : k ≠ 1) (h5 : k ≠ 5) (h2 : k ≠ 2) : giveM (eN k n s cs) = evT (eN k n s cs) := by
  unfold giveM
  rw [if_neg]
  have := b3U (n := n) (s := s) (cs := cs) h1 h5
  unfold eN at this ⊢
  unfold plainX
  rw [this]
  simp [h2]
theorem e1C {k n : Int} {s : ByteArray} {a b : PT} (hk : 6 ≤ k) : evT (eN k n s [a, b]) = bnd (evT a) fun x => bnd (evT b) fun y => bnd stepM fun _ => toldM (opS (k - 2) x y) := by
  rw [b3Q]
  unfold evN
  rw [b3U (by omega) (by omega)]
  dsimp only
  rw [if_neg (by omega), evTs, evTs, evTs]
  simp only [a6g, b0N]
  funext s
  congr 1
  funext x
  congr 1
  funext y
  rw [if_neg (by omega), if_neg (by omega)]
  rfl
theorem c6g {n : Int} {s : ByteArray} : evT (eN 2 n s []) = getM s := by
  rw [b3Q]
  unfold evN
  rw [b3U (by decide) (by decide)]
  rfl
theorem d5b {s : ByteArray} {e : PT} : rnT (sN 1 s [e] [] [] []) = bnd (giveM e) (setM s) := by rw [b8r]; rfl
theorem d1o {s : ByteArray} {c : PT} {vs : List PT} : rnT (sN 4 s [] [c] vs []) = loopW (cvT c) (seqM (vs.map rnT)) := by rw [b8r]; rfl
theorem e1D {op : Int} {a b : PT} : cvT (cN 3 op [a, b] []) = bnd (evT a) fun x => bnd (evT b) fun y => bnd stepM fun _ => ret (cmpS op x y) := by rw [c3P]; rfl
theorem c3T {n : Nat} {st : Int} {sc : List Int} {ev : List a0H} {v : List (ByteArray × Int)} {a : List (ByteArray × List Int)} : stepM ⟨n + 1, st, sc, ev, v, a⟩ = .ok () ⟨n, st + 1, sc, ev, v, a⟩ := by
  unfold stepM; rw [if_neg (Nat.succ_ne_zero _)]; rfl
abbrev oS : ByteArray := ⟨#[]⟩
theorem n0 : Nn 0 := ⟨by unfold m3; omega, by decide⟩
theorem n1 : Nn 1 := ⟨by unfold m3; omega, by decide⟩
theorem n2 : Nn 2 := ⟨by unfold m3; omega, by decide⟩
theorem b5c {α : Type} {x : ByteArray} {v : Int} {k : Int → M α} {l : Nat} {st : Int} {sc : List Int} {ev : List a0H} {vs : List (ByteArray × Int)} {ars : List (ByteArray × List Int)} : bnd (getM x) k ⟨l, st, sc, ev, (x, v) :: vs, ars⟩ = k v ⟨l, st, sc, ev, (x, v) :: vs, ars⟩ := by
  unfold bnd getM
  simp [lk, Rs.andThen]
def loopsP (n : Int) : PP := ⟨[⟨xS, 0⟩], [sN 4 oS [] [cN 3 1 [eN 2 0 xS [], plainT n] []] [sN 1 xS [eN 6 0 oS [eN 2 0 xS [], plainT 1]] [] [] []] []]⟩
theorem c3U {n : Int} {c : M Bool} {b : M Unit}
    (c0 : ∀ (i st : Int), c ⟨0, st, [], [], [(xS, i)], []⟩ = .stop 1 0 ⟨0, st, [], [], [(xS, i)], []⟩)
    (c1 : ∀ (i st : Int) (l : Nat), c ⟨l + 1, st, [], [], [(xS, i)], []⟩ = .ok (decide (i < n)) ⟨l, st + 1, [], [], [(xS, i)], []⟩)
    (b0 : ∀ (i st : Int), b ⟨0, st, [], [], [(xS, i)], []⟩ = .stop 1 0 ⟨0, st, [], [], [(xS, i)], []⟩)
    (b1 : ∀ (i st : Int) (l : Nat), 0 ≤ i → i < n → b ⟨l + 1, st, [], [], [(xS, i)], []⟩ = .ok () ⟨l, st + 1, [], [], [(xS, i + 1)], []⟩) : ∀ (f : Nat) (i : Int) (l : Nat) (st : Int), 0 ≤ i → i ≤ n → l < f →
    loopM c b f ⟨l, st, [], [], [(xS, i)], []⟩ =
      if 2 * (n - i) + 1 ≤ l then .ok () ⟨l - (2 * (n - i) + 1).toNat, st + (2 * (n - i) + 1), [], [], [(xS, n)], []⟩ else .stop 1 0 ⟨0, st + l, [], [], [(xS, i + l / 2)], []⟩
  | 0, _, _, _, _, _, h => by omega
  | f + 1, i, l, st, h0, hi, hl => by
    rw [loopM]
    cases l with
    | zero =>
      rw [if_neg (by omega), L4 (c0 i st)]
      simp
    | succ m =>
      rw [G4 (c1 i st m)]
      by_cases c : i < n
      · rw [decide_eq_true c, if_pos rfl]
        cases m with
        | zero =>
          rw [if_neg (by omega), L4 (b0 i _)]
          simp
        | succ p =>
          rw [G4 (b1 i _ p h0 c), c3U c0 c1 b0 b1 f (i + 1) p (st + 1 + 1) (by omega) (by omega) (by omega)]
          by_cases c2 : 2 * (n - i) + 1 ≤ ((p + 1 + 1 : Nat) : Int)
          · rw [if_pos c2, if_pos (by omega)]
            congr 2 <;> omega
          · rw [if_neg c2, if_neg (by omega)]
            congr 2
            · omega
            · congr 2
              omega
      · have e : i = n := by omega
        subst e
        rw [decide_eq_false c, if_neg (by decide), if_pos (by omega)]
        show Rs.ok () _ = _
        congr 2 <;> omega
theorem e1E {n : Int} {k : Nat} (hn : Nn n) (h0 : 0 ≤ n) : runQ (loopsP n) [] k = if 2 * n + 1 ≤ k then ⟨2, 0, 2 * n + 1, [], [n], []⟩ else ⟨1, 0, k, [], [(k : Int) / 2], []⟩ := by
  unfold runQ loopsP
  simp only [List.map_cons, List.map_nil]
  show ocS (endS (seqM _ ⟨k, 0, [], [], [(xS, 0)], []⟩)) = _
  rw [seqM, seqM, d1o, b9S]
  unfold loopW
  simp only [List.map_cons, List.map_nil]
  have hc : cvT (cN 3 1 [eN 2 0 xS [], plainT n] []) = bnd (getM xS) fun x => bnd stepM fun _ => ret (decide (x < n)) := by rw [e1D, c6g, c6f hn]; rfl
  have hb : seqM [rnT (sN 1 xS [eN 6 0 oS [eN 2 0 xS [], plainT 1]] [] [] [])] = bnd (getM xS) fun x => bnd stepM fun _ => bnd (toldM (opS 4 x 1)) (setM xS) := by
    rw [seqM, seqM, d5b, e1B (by decide) (by decide) (by decide), e1C (by decide), c6g, c6f n1, b9S, a6g]
    simp only [b0N, a6g]
    rfl
  rw [hc, hb, c3U (n := n) (fun i st => by rw [b5c]; rfl) (fun i st l => by rw [b5c, G4 c3T]; rfl) (fun i st => by rw [b5c]; rfl) (fun i st l h1 h2 => by
    have hf : opS 4 i 1 = (i + 1, 0) := by
      show fit (i + 1) = _
      have := hn.1
      rw [b4V (by unfold m3 at this ⊢; omega)]
    rw [b5c, G4 c3T, hf, toldM, if_pos rfl, b0N]
    unfold setM
    simp [W4]) (k + 1) 0 k 0 (Int.le_refl 0) h0 (Nat.lt_succ_self _)]
  simp only [Int.sub_zero, Int.zero_add]
  by_cases c : 2 * n + 1 ≤ k
  · rw [if_pos c, if_pos c]; rfl
  · rw [if_neg c, if_neg c]; rfl
end Go.Proofs.YtnhkdkcgdcgmdaaDoor
