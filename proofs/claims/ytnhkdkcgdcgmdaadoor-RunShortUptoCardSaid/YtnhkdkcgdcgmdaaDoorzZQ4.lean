/- Nodes: a list's nodes, lists put together; a node's own form, its name, its parts. Contracts off the printed formulas. -/
import Derived.Test.YtnhkdkcgdcgmdaaDoorzZQ3
namespace Go.Proofs.YtnhkdkcgdcgmdaaDoor
open Go.RowKit
set_option maxRecDepth 100000
set_option maxHeartbeats 2000000
def NH (H : Hp) : a8 → PT → Prop
  | .G2 y, t => t = dT y.N8
  | .D5 y, t => SH H y.i2 t
  | .J8 y, t => CH H y.m5 t
  | .C9 y, t => EH H y.m8 t
  | .nil, _ => False
theorem NH.le {H H' : Hp} (l : Hle H H') {x : a8} {t : PT} (h : NH H x t) : NH H' x t := by
  cases x with
  | nil => exact h
  | G2 y => exact h
  | D5 y => exact SH.le l h
  | J8 y => exact CH.le l h
  | C9 y => exact EH.le l h
theorem c1h {α : Type} (l : List (List α)) (i : Nat) : (l.take i).flatten.length ≤ l.flatten.length := by
  have : l.flatten = (l.take i).flatten ++ (l.drop i).flatten := by rw [← List.flatten_append, List.take_append_drop]
  rw [this, List.length_append]; omega
theorem c1i {α : Type} {l : List (List α)} {i : Nat} {x : List α} (h : l[i]? = some x) : (l.take (i + 1)).flatten = (l.take i).flatten ++ x := by
  rw [V9 h, List.flatten_append]; simp
section
variable {H : Hp}
theorem c6B {s : Sl} {xs : List m3} (hs : SlH H 2 m7 s xs) (hb : xs.length ≤ big) {K : Sl → Hp → Prop} (h : ∀ (r : Sl) (H' : Hp), Hle H H' → SlH H' 1 p7 r (xs.map fun x => a8.G2 ⟨x⟩) → K r H') : E3 s H K := by
  refine a0j _ ?_
  unfold B1
  have n1 := hs.1
  refine a4S (fun (z : List a8 × Int) H' => 0 ≤ z.2 ∧ z.2 ≤ xs.length ∧ H' = H ∧ z.1 = (xs.take z.2.toNat).map fun x => a8.G2 ⟨x⟩) (fun z => (xs.length - z.2).toNat) ⟨Int.le_refl _, by simp, rfl, by simp⟩ ?_
  rintro ⟨l, i⟩ H1 next ⟨i0, i1, rfl, hl⟩ hn
  dsimp only at i0 i1 hl ⊢
  unfold y9
  refine ⟨fun hc => ?_, fun hc => ?_⟩
  · obtain ⟨x, hx, hE⟩ := hs.get i0 hc
    have hlt := D2 hx
    refine ⟨i0, hc, x, hE, b2o _ ?_⟩
    unfold a1t
    refine ⟨?_, ?_⟩
    · rw [hl, List.length_map, List.length_take]; simp only [big] at hb; simp only [List.length_cons, List.length_nil]; omega
    · rw [S9 i0 (by simp only [big] at hb; omega)]
      refine hn _ _ ⟨by dsimp only; omega, by dsimp only; omega, rfl, ?_⟩ (by dsimp only; omega)
      dsimp only
      rw [show (i + 1).toNat = i.toNat + 1 by omega, V9 hx, List.map_append, ← hl]; rfl
  · unfold v8
    intro ss H2 l2 hss hc2
    refine h ss H2 l2 ?_
    rw [hl, List.take_of_length_le (by omega)] at hss; exact hss
theorem b0G {s : Sl} {xs : List p6} (hs : SlH H 6 i5 s xs) (hb : xs.length ≤ big) {K : Sl → Hp → Prop} (h : ∀ (r : Sl) (H' : Hp), Hle H H' → SlH H' 1 p7 r (xs.map fun x => a8.D5 ⟨x⟩) → K r H') : t1 s H K := by
  refine a0k _ ?_
  unfold B2
  have n1 := hs.1
  refine a4S (fun (z : List a8 × Int) H' => 0 ≤ z.2 ∧ z.2 ≤ xs.length ∧ H' = H ∧ z.1 = (xs.take z.2.toNat).map fun x => a8.D5 ⟨x⟩) (fun z => (xs.length - z.2).toNat) ⟨Int.le_refl _, by simp, rfl, by simp⟩ ?_
  rintro ⟨l, i⟩ H1 next ⟨i0, i1, rfl, hl⟩ hn
  dsimp only at i0 i1 hl ⊢
  unfold z7
  refine ⟨fun hc => ?_, fun hc => ?_⟩
  · obtain ⟨x, hx, hE⟩ := hs.get i0 hc
    have hlt := D2 hx
    refine ⟨i0, hc, x, hE, b2p _ ?_⟩
    unfold a1u
    refine ⟨?_, ?_⟩
    · rw [hl, List.length_map, List.length_take]; simp only [big] at hb; simp only [List.length_cons, List.length_nil]; omega
    · rw [S9 i0 (by simp only [big] at hb; omega)]
      refine hn _ _ ⟨by dsimp only; omega, by dsimp only; omega, rfl, ?_⟩ (by dsimp only; omega)
      dsimp only
      rw [show (i + 1).toNat = i.toNat + 1 by omega, V9 hx, List.map_append, ← hl]; rfl
  · unfold z6
    intro ss H2 l2 hss hc2
    refine h ss H2 l2 ?_
    rw [hl, List.take_of_length_le (by omega)] at hss; exact hss
theorem b6k {s : Sl} {xs : List o8} (hs : SlH H 4 g8 s xs) (hb : xs.length ≤ big) {K : Sl → Hp → Prop} (h : ∀ (r : Sl) (H' : Hp), Hle H H' → SlH H' 1 p7 r (xs.map fun x => a8.J8 ⟨x⟩) → K r H') : B0 s H K := by
  refine a0l _ ?_
  unfold B3
  have n1 := hs.1
  refine a4S (fun (z : List a8 × Int) H' => 0 ≤ z.2 ∧ z.2 ≤ xs.length ∧ H' = H ∧ z.1 = (xs.take z.2.toNat).map fun x => a8.J8 ⟨x⟩) (fun z => (xs.length - z.2).toNat) ⟨Int.le_refl _, by simp, rfl, by simp⟩ ?_
  rintro ⟨l, i⟩ H1 next ⟨i0, i1, rfl, hl⟩ hn
  dsimp only at i0 i1 hl ⊢
  unfold A0
  refine ⟨fun hc => ?_, fun hc => ?_⟩
  · obtain ⟨x, hx, hE⟩ := hs.get i0 hc
    have hlt := D2 hx
    refine ⟨i0, hc, x, hE, b2m _ ?_⟩
    unfold a1s
    refine ⟨?_, ?_⟩
    · rw [hl, List.length_map, List.length_take]; simp only [big] at hb; simp only [List.length_cons, List.length_nil]; omega
    · rw [S9 i0 (by simp only [big] at hb; omega)]
      refine hn _ _ ⟨by dsimp only; omega, by dsimp only; omega, rfl, ?_⟩ (by dsimp only; omega)
      dsimp only
      rw [show (i + 1).toNat = i.toNat + 1 by omega, V9 hx, List.map_append, ← hl]; rfl
  · unfold z8
    intro ss H2 l2 hss hc2
    refine h ss H2 l2 ?_
    rw [hl, List.take_of_length_le (by omega)] at hss; exact hss
theorem b0H {s : Sl} {xs : List i4} (hs : SlH H 4 d5 s xs) (hb : xs.length ≤ big) {K : Sl → Hp → Prop} (h : ∀ (r : Sl) (H' : Hp), Hle H H' → SlH H' 1 p7 r (xs.map fun x => a8.C9 ⟨x⟩) → K r H') : t6 s H K := by
  refine a0s _ ?_
  unfold B4
  have n1 := hs.1
  refine a4S (fun (z : List a8 × Int) H' => 0 ≤ z.2 ∧ z.2 ≤ xs.length ∧ H' = H ∧ z.1 = (xs.take z.2.toNat).map fun x => a8.C9 ⟨x⟩) (fun z => (xs.length - z.2).toNat) ⟨Int.le_refl _, by simp, rfl, by simp⟩ ?_
  rintro ⟨l, i⟩ H1 next ⟨i0, i1, rfl, hl⟩ hn
  dsimp only at i0 i1 hl ⊢
  unfold A5
  refine ⟨fun hc => ?_, fun hc => ?_⟩
  · obtain ⟨x, hx, hE⟩ := hs.get i0 hc
    have hlt := D2 hx
    refine ⟨i0, hc, x, hE, b2l _ ?_⟩
    unfold a1r
    refine ⟨?_, ?_⟩
    · rw [hl, List.length_map, List.length_take]; simp only [big] at hb; simp only [List.length_cons, List.length_nil]; omega
    · rw [S9 i0 (by simp only [big] at hb; omega)]
      refine hn _ _ ⟨by dsimp only; omega, by dsimp only; omega, rfl, ?_⟩ (by dsimp only; omega)
      dsimp only
      rw [show (i + 1).toNat = i.toNat + 1 by omega, V9 hx, List.map_append, ← hl]; rfl
  · unfold A4
    intro ss H2 l2 hss hc2
    refine h ss H2 l2 ?_
    rw [hl, List.take_of_length_le (by omega)] at hss; exact hss
theorem c1j (a : Option Addr) (n c : Nat) : Pu Tryd.prog (xBuiltin .cap #[124] 3 [false] [.slice a n c]) (.int .i64 (c : Int)) := by
  have e' : Program.elem Tryd.prog 124 = 152 := by simp [Program.elem, Tryd.underlying124]
  have : xBuiltin .cap #[124] 3 [false] [.slice a n c] = xV (Builtin.cap_ #[124] 3 #[.slice a n c]) := rfl
  rw [this]
  exact Pu.ok fun w => run_cap_slice (P := Tryd.prog) (w := w) 124 3 a n c (by rw [e']; exact Tryd.underlying124)
theorem e1W {n : Int} (h0 : 0 ≤ n) (hb : n * 17 ≤ 140737488355328) {K : List a8 → Hp → Prop} (h : K [] H) : N6 n H K := by
  intro w I
  refine e0y ?_
  unfold d4q
  refine A8 fun j1 hx1 => ?_
  refine a7 (C5 _ _ _ _ _ _) ?_
  refine p5 (fun c => ?_) (fun c => ?_)
  · have := of_decide_eq_true c; omega
  refine hx1 _ _ ?_
  unfold c6T
  intro _
  refine A8 fun j2 hx2 => ?_
  refine a7 (c1j _ _ _) ?_
  refine a7 (a7E _ _ _) ?_
  refine a7 (b3s _ _ _ _ _ _) ?_
  refine a7 (b3s _ _ _ _ _ _) ?_
  rw [show IntKind.wrap .i64 (n - IntKind.wrap .i64 (((0 : Nat) : Int) - ((0 : Nat) : Int))) = n by
    rw [show IntKind.wrap .i64 (((0 : Nat) : Int) - ((0 : Nat) : Int)) = 0 by decide, Int.sub_zero]; exact a2Q ⟨by omega, by omega⟩]
  refine a7 (a1W _ _ _ _ _ _) ?_
  refine p5 (fun c => ?_) (fun c => ?_)
  · have hp := of_decide_eq_true c
    refine a7 (c1j _ _ _) ?_
    refine a7 (c2u (e := 152) (sz := 1) Tryd.underlying124 Tryd.sizeOf152 (s := ⟨none, 0, 0⟩) (h := ((0 : Nat) : Int)) (by decide) (by decide)) ?_
    refine e6z (z := Value.nilIface) (bytes := 16) (kn := .i64) Tryd.underlying124 Tryd.underlying3 c6Q (by kernel_rfl) (by kernel_rfl) (by kernel_rfl) (by kernel_rfl) (by decide) M8 P1 I hp hb fun g m F' w' hr I' => ?_
    refine a7 (a7E _ _ _) ?_
    refine a7 (c2u (e := 152) (sz := 1) Tryd.underlying124 Tryd.sizeOf152 (s := ⟨some ⟨g, 0, none⟩, n.toNat, m⟩) (h := ((0 : Nat) : Int)) (by decide) (by simp)) ?_
    refine hx2 _ _ ?_
    unfold b9G
    intro _
    refine ⟨H, _, I', [], ⟨some ⟨g, 0, none⟩, 0, m⟩, F', ?_, rfl, hr, h⟩
    simp [Sl.cut, Addr.add, nth]
  · refine hx2 _ _ ?_
    unfold b9G
    intro _
    exact ⟨H, _, I.nil, [], ⟨none, 0, 0⟩, [], rfl, rfl, RowL.nil M8 P1, h⟩
theorem b4h {s : Sl} {ss : List Sl} {nss : List (List a8)} (hs : SlH H 1 csl s ss) (hr : s7 (SlH H 1 p7) ss nss) (hb : nss.flatten.length * 17 ≤ 140737488355328) (hss : ss.length ≤ big) {K : Sl → Hp → Prop}
    (h : ∀ (r : Sl) (H' : Hp), Hle H H' → SlH H' 1 p7 r nss.flatten → K r H') : A6 s H K := by
  refine a1A _ ?_
  unfold C6
  have n1 := hs.1; have r1 := hr.1
  refine a4S (fun (z : Int × Int) H' => 0 ≤ z.2 ∧ z.2 ≤ ss.length ∧ H' = H ∧ z.1 = ((nss.take z.2.toNat).flatten.length : Int)) (fun z => (ss.length - z.2).toNat) ⟨Int.le_refl _, by simp, rfl, by simp⟩ ?_
  rintro ⟨q, i⟩ H1 next ⟨i0, i1, rfl, hq⟩ hn
  dsimp only at i0 i1 hq ⊢
  subst hq
  unfold C2
  refine ⟨fun hc => ?_, fun hc => ?_⟩
  · obtain ⟨x, hx, hE⟩ := hs.get i0 hc
    obtain ⟨ns, hns, hS⟩ := hr.get hx
    have hlt := D2 hx
    have e1 := c1i hns
    have e2 := c1h nss (i.toNat + 1)
    have e3 : (nss.take (i.toNat + 1)).flatten.length = (nss.take i.toNat).flatten.length + ns.length := by rw [e1, List.length_append]
    have e4 : IntKind.wrap .i64 (((nss.take i.toNat).flatten.length : Int) + (x.n : Int)) = ((nss.take (i.toNat + 1)).flatten.length : Int) := by
      rw [a2Q ⟨by omega, by have := hS.1; omega⟩]
      have := hS.1; omega
    refine ⟨i0, hc, x, hE, ?_⟩
    rw [e4]
    refine ⟨fun hneg => by omega, fun _ => ?_⟩
    unfold B8
    rw [S9 i0 (by simp only [big] at hss; omega)]
    refine hn _ _ ⟨by dsimp only; omega, by dsimp only; omega, rfl, ?_⟩ (by dsimp only; omega)
    dsimp only
    rw [show (i + 1).toNat = i.toNat + 1 by omega]
  · rw [List.take_of_length_le (by omega)]
    clear hn next
    unfold C1
    refine e1W (by omega) (by omega) ?_
    refine a4S (fun (z : List a8 × Int) H' => 0 ≤ z.2 ∧ z.2 ≤ ss.length ∧ H' = H1 ∧ z.1 = (nss.take z.2.toNat).flatten) (fun z => (ss.length - z.2).toNat) ⟨Int.le_refl _, by simp, rfl, by simp⟩ ?_
    rintro ⟨q, j⟩ H2 next ⟨j0, j1, rfl, hq⟩ hn
    dsimp only at j0 j1 hq ⊢
    subst hq
    unfold C0
    refine ⟨fun hc => ?_, fun hc => ?_⟩
    · obtain ⟨x, hx, hE⟩ := hs.get j0 hc
      obtain ⟨ns, hns, hS⟩ := hr.get hx
      have hlt := D2 hx
      have e1 := c1i hns
      have e2 := c1h nss (j.toNat + 1)
      have e3 : (nss.take (j.toNat + 1)).flatten.length = (nss.take j.toNat).flatten.length + ns.length := by rw [e1, List.length_append]
      refine ⟨j0, hc, x, hE, ns, hS, by omega, ?_⟩
      rw [S9 j0 (by simp only [big] at hss; omega), ← e1]
      refine hn _ _ ⟨by dsimp only; omega, by dsimp only; omega, rfl, ?_⟩ (by dsimp only; omega)
      dsimp only
      rw [show (j + 1).toNat = j.toNat + 1 by omega]
    · unfold B9
      intro r H3 l3 hS _
      rw [List.take_of_length_le (by omega)] at hS
      exact h r H3 l3 hS
def nameL : Lab → ByteArray × Bool
  | .decl _ s => (s, true)
  | .stmt k s _ _ _ _ => (s, decide (k = 1) || decide (k = 2))
  | .cond .. => (⟨#[]⟩, false)
  | .expr k _ s _ => (s, decide (k = 2) || decide (k = 4))
theorem c7c {x : a8} {t : PT} (hx : NH H x t) {K : ByteArray → Bool → Hp → Prop} (h : K (nameL t.lab).1 (nameL t.lab).2 H) : a0M x H K := by
  refine b3W _ ?_
  unfold a2e
  cases x with
  | nil => exact hx.elim
  | G2 y =>
    cases (show t = dT y.N8 from hx)
    exact ⟨fun _ => h, fun q => (by cases q)⟩
  | D5 y =>
    cases (show SH H y.i2 t from hx)
    exact ⟨fun q => (by cases q), fun _ => ⟨fun _ => h, fun q => (by cases q)⟩⟩
  | C9 y =>
    cases (show EH H y.m8 t from hx)
    exact ⟨fun q => (by cases q), fun _ => ⟨fun q => (by cases q), fun _ => ⟨fun _ => h, fun q => (by cases q)⟩⟩⟩
  | J8 y =>
    cases (show CH H y.m5 t from hx)
    exact ⟨fun q => (by cases q), fun _ => ⟨fun q => (by cases q), fun _ => ⟨fun q => (by cases q), fun _ => h⟩⟩⟩
def formE (k n : Int) (s : ByteArray) (a : Int) : Bool :=
  if (((!decide (k = 1)) && (!decide (n = 0))) || ((!(decide (k = 2) || decide (k = 4))) && (!decide (s = ⟨#[]⟩)))) = true then false
  else if k = 1 then decide (0 ≤ n) && decide (a = 0)
  else if k = 2 ∨ k = 3 then decide (a = 0)
  else if k = 4 ∨ k = 5 then decide (a = 1)
  else if k = 6 ∨ k = 7 ∨ k = 8 ∨ k = 9 ∨ k = 10 then decide (a = 2) else false
def formC (k op e p : Int) : Bool :=
  if k = 3 then (decide (1 ≤ op) && decide (op ≤ 6)) && decide (e = 2 ∧ p = 0)
  else if op = 0 then
    (if k = 1 ∨ k = 2 then decide (e = 0 ∧ p = 0) else if k = 4 then decide (e = 0 ∧ p = 1) else if k = 5 ∨ k = 6 then decide (e = 0 ∧ p = 2) else false)
  else false
def formS (k : Int) (s : ByteArray) (e c t f : Int) : Bool :=
  if k = 1 then !decide (0 < t + f) && decide (e = 1 ∧ c = 0)
  else if k = 2 then !decide (0 < t + f) && decide (e = 2 ∧ c = 0)
  else if k = 3 then decide (s = ⟨#[]⟩) && decide (e = 0 ∧ c = 1)
  else if k = 4 then decide (s = ⟨#[]⟩) && decide (f = 0) && decide (e = 0 ∧ c = 1)
  else if k = 5 ∨ k = 6 then (decide (s = ⟨#[]⟩) && !decide (0 < t + f)) && decide (e = 0 ∧ c = 1)
  else if k = 7 then (decide (s = ⟨#[]⟩) && !decide (0 < t + f)) && decide (e = 0 ∧ c = 0)
  else false
def formL : Lab → Bool
  | .decl z _ => decide (0 ≤ z) && decide (z ≤ 2147483647)
  | .stmt k s e c t f => formS k s e c t f
  | .cond k op e p => formC k op e p
  | .expr k n s a => formE k n s a
theorem b5s {α : Type} {b : Bool} {q : Prop} [Decidable q] (hb : b = true ↔ q) (x y : α) : (if b = true then x else y) = if q then x else y := by
  by_cases hq : q
  · rw [if_pos (hb.2 hq), if_pos hq]
  · rw [if_neg (fun e => hq (hb.1 e)), if_neg hq]
theorem ej3 {a : Int} {b : Bool} {x : E5} {K : Bool → Hp → Prop} (h : K (if b = true then decide (a = 2) else false) H) : B7 a b x H K := by
  unfold B7
  cases b
  · exact ⟨fun q => (by cases q), fun _ => h⟩
  · exact ⟨fun _ => h, fun q => (by cases q)⟩
theorem ej2 {a k : Int} {b : Bool} {x : E5} {K : Bool → Hp → Prop} (h : K (if b = true then decide (a = 1) else if k = 6 ∨ k = 7 ∨ k = 8 ∨ k = 9 ∨ k = 10 then decide (a = 2) else false) H) : K6 a k b x H K := by
  unfold K6
  cases b
  · refine ⟨fun q => (by cases q), fun _ => ?_⟩
    rw [if_neg (by decide)] at h
    refine ⟨fun e => ej3 ?_, fun e1 => ⟨fun e => ej3 ?_, fun e2 => ⟨fun e => ej3 ?_, fun e3 => ⟨fun e => ej3 ?_, fun e4 => ej3 ?_⟩⟩⟩⟩ <;>
      (rw [b5s (q := k = 6 ∨ k = 7 ∨ k = 8 ∨ k = 9 ∨ k = 10) (by rw [decide_eq_true_eq]; omega)]; exact h)
  · exact ⟨fun _ => h, fun q => (by cases q)⟩
theorem ej1 {a k : Int} {b : Bool} {x : E5} {K : Bool → Hp → Prop} (h : K (if b = true then decide (a = 0) else if k = 4 ∨ k = 5 then decide (a = 1) else if k = 6 ∨ k = 7 ∨ k = 8 ∨ k = 9 ∨ k = 10 then decide (a = 2) else false) H) : K7 a k b x H K := by
  unfold K7
  cases b
  · refine ⟨fun q => (by cases q), fun _ => ?_⟩
    rw [if_neg (by decide)] at h
    refine ⟨fun e => ej2 ?_, fun e1 => ej2 ?_⟩ <;>
      (rw [b5s (q := k = 4 ∨ k = 5) (by rw [decide_eq_true_eq]; omega)]; exact h)
  · exact ⟨fun _ => h, fun q => (by cases q)⟩
theorem d5P {e : i4} {t : PT} (he : EH H e t) {K : Bool → Hp → Prop} (h : K (formL t.lab) H) : a1Q ⟨e⟩ H K := by
  refine a9G _ ?_
  unfold Y2
  refine c7c (x := .C9 ⟨e⟩) (t := t) he ?_
  cases he with
  | @mk e xs ts hs hb hl hr =>
    have hn : e.A7.n = ts.length := by have := hs.1; omega
    change K (formE e.d9 e.K2 e.g7 (ts.length : Int)) H at h
    unfold formE at h
    dsimp only [PT.lab, nameL]
    rw [hn]
    generalize (ts.length : Int) = a at h ⊢
    refine ⟨fun hg => by rw [if_pos hg] at h; exact h, fun hg => ?_⟩
    rw [if_neg (by rw [hg]; decide)] at h
    refine ⟨fun e1 => by rw [if_pos e1] at h; exact h, fun e1 => ?_⟩
    rw [if_neg e1] at h
    refine ⟨fun e2 => ej1 ?_, fun e2 => ej1 ?_⟩ <;>
      (rw [b5s (q := e.d9 = 2 ∨ e.d9 = 3) (by rw [decide_eq_true_eq]; omega)]; exact h)
theorem cj2 {b : Bool} {y : E1} {x : L1} {K : Bool → Hp → Prop} (h : K (if b = true then decide (y.fexprs = 0 ∧ y.fparts = 2) else false) H) : K8 b y x H K := by
  unfold K8
  cases b
  · exact ⟨fun q => (by cases q), fun _ => h⟩
  · exact ⟨fun _ => h, fun q => (by cases q)⟩
theorem cj1 {k : Int} {b : Bool} {y : E1} {x : L1} {K : Bool → Hp → Prop} (h : K (if b = true then decide (y.fexprs = 0 ∧ y.fparts = 0) else if k = 4 then decide (y.fexprs = 0 ∧ y.fparts = 1) else if k = 5 ∨ k = 6 then decide (y.fexprs = 0 ∧ y.fparts = 2) else false) H) : K9 k b y x H K := by
  unfold K9
  cases b
  · refine ⟨fun q => (by cases q), fun _ => ?_⟩
    rw [if_neg (by decide)] at h
    refine ⟨fun e => by rw [if_pos e] at h; exact h, fun e => ?_⟩
    rw [if_neg e] at h
    refine ⟨fun e2 => cj2 ?_, fun e2 => cj2 ?_⟩ <;>
      (rw [b5s (q := k = 5 ∨ k = 6) (by rw [decide_eq_true_eq]; omega)]; exact h)
  · exact ⟨fun _ => h, fun q => (by cases q)⟩
theorem d5Q {e : o8} {t : PT} (he : CH H e t) {K : Bool → Hp → Prop} (h : K (formL t.lab) H) : a1R ⟨e⟩ H K := by
  refine a9H _ ?_
  unfold Y3
  cases he with
  | @mk e xs ts ys us hs hb hr hc hcb hcl hcr =>
    have hn : e.m2.n = ts.length := by have := hs.1; have := hr.1; omega
    have hm : e.u5.n = us.length := by have := hc.1; omega
    change K (formC e.d9 e.fOp (ts.length : Int) (us.length : Int)) H at h
    unfold formC at h
    dsimp only
    rw [hn, hm]
    generalize (ts.length : Int) = a at h ⊢
    generalize (us.length : Int) = b at h ⊢
    refine ⟨fun e1 => by rw [if_pos e1] at h; exact h, fun e1 => ?_⟩
    rw [if_neg e1] at h
    refine ⟨fun e2 => by rw [if_neg e2] at h; exact h, fun e2 => ?_⟩
    rw [if_pos e2] at h
    refine ⟨fun e3 => cj1 ?_, fun e3 => cj1 ?_⟩ <;>
      (rw [b5s (q := e.d9 = 1 ∨ e.d9 = 2) (by rw [decide_eq_true_eq]; omega)]; exact h)
theorem sj1 {v : Bool} {k : Int} {b : Bool} {y : L5} {x : L2} {K : Bool → Hp → Prop} (h : K (if b = true then v && decide (y.fexprs = 0 ∧ y.fconds = 1) else if k = 7 then v && decide (y.fexprs = 0 ∧ y.fconds = 0) else false) H) : L0 v k b y x H K := by
  unfold L0
  cases b
  · refine ⟨fun q => (by cases q), fun _ => ?_⟩
    rw [if_neg (by decide)] at h
    exact ⟨fun e => by rw [if_pos e] at h; exact h, fun e => by rw [if_neg e] at h; exact h⟩
  · exact ⟨fun _ => h, fun q => (by cases q)⟩
theorem d5R {e : p6} {t : PT} (he : SH H e t) {K : Bool → Hp → Prop} (h : K (formL t.lab) H) : a1S ⟨e⟩ H K := by
  refine a9J _ ?_
  unfold Y5
  cases he with
  | @mk e xs ts ys us zs bs vs ws hs hb hr hc hcb hcr ha hab hal har hbs hbb hbl hbr =>
    have n1 : e.m2.n = ts.length := by have := hs.1; have := hr.1; omega
    have n2 : e.s8.n = us.length := by have := hc.1; have := hcr.1; omega
    have n3 : e.K1.n = vs.length := by have := ha.1; omega
    have n4 : e.G8.n = ws.length := by have := hbs.1; omega
    change K (formS e.d9 e.g7 (ts.length : Int) (us.length : Int) (vs.length : Int) (ws.length : Int)) H at h
    unfold formS at h
    dsimp only
    rw [n1, n2, n3, n4, a2Q (a := (vs.length : Int) + (ws.length : Int)) ⟨by omega, by simp only [big] at hab hbb; omega⟩]
    generalize (ts.length : Int) = a at h ⊢
    generalize (us.length : Int) = b at h ⊢
    generalize (vs.length : Int) = c at h ⊢
    generalize (ws.length : Int) = d at h ⊢
    refine ⟨fun e1 => by rw [if_pos e1] at h; exact h, fun e1 => ?_⟩
    rw [if_neg e1] at h
    refine ⟨fun e1 => by rw [if_pos e1] at h; exact h, fun e2 => ?_⟩
    rw [if_neg e2] at h
    refine ⟨fun e1 => by rw [if_pos e1] at h; exact h, fun e3 => ?_⟩
    rw [if_neg e3] at h
    refine ⟨fun e1 => by rw [if_pos e1] at h; exact h, fun e4 => ?_⟩
    rw [if_neg e4] at h
    refine ⟨fun e5 => sj1 ?_, fun e5 => sj1 ?_⟩ <;>
      (rw [b5s (q := e.d9 = 5 ∨ e.d9 = 6) (by rw [decide_eq_true_eq]; omega)]; exact h)
theorem e1X {x : a8} {t : PT} (hx : NH H x t) {K : Bool → Hp → Prop} (h : K (formL t.lab) H) : a3e x H K := by
  cases x with
  | nil => exact hx.elim
  | C9 y => exact d5P hx h
  | J8 y => exact d5Q hx h
  | D5 y => exact d5R hx h
  | G2 y =>
    cases (show t = dT y.N8 from hx)
    refine a9I _ ?_
    unfold Y4
    exact h
theorem d5S {x : a8} {t : PT} (hx : NH H x t) {K : Sl → Hp → Prop} (h : ∀ (r : Sl) (H' : Hp) (ns : List a8), Hle H H' → SlH H' 1 p7 r ns → s7 (NH H') ns t.kids → t.kids.length ≤ 4 * big → K r H') : a2K x H K := by
  cases x with
  | nil => exact hx.elim
  | G2 y =>
    cases (show t = dT y.N8 from hx)
    refine a9a _ ?_
    unfold X1
    exact h _ _ [] (Hle.refl _) (SlH.nil _ _ _) s7.nil (Nat.zero_le _)
  | C9 y =>
    have hx : EH H y.m8 t := hx
    refine a8Z _ ?_
    unfold X0
    obtain ⟨e⟩ := y
    cases hx with
    | @mk e xs ts hs hb hl hr =>
      refine b0H hs hb fun r H' l hS => h r H' _ l hS ?_ ?_
      · exact s7.map ⟨hl, fun i a b ha hb => EH.le l (hr i a b ha hb)⟩
      · show ts.length ≤ _; omega
  | J8 y =>
    have hx : CH H y.m5 t := hx
    refine a8M _ ?_
    unfold W8
    obtain ⟨e⟩ := y
    cases hx with
    | @mk e xs ts ys us hs hb hr hc hcb hcl hcr =>
      refine b0H hs hb fun r1 H1 l1 hS1 => ?_
      refine b6k (hc.le l1) hcb fun r2 H2 l2 hS2 => ?_
      intro s H3 l3 hS hcap
      have r0 := hr.1
      refine b4h hS (nss := [_, _]) ((s7.one (hS1.le (l2.trans l3))).app (s7.one (hS2.le l3))) ?_ (by simp [big]) fun r H4 l4 hS4 => ?_
      · simp only [List.flatten_cons, List.flatten_nil, List.append_nil, List.length_append, List.length_map]; simp only [big] at hb hcb; omega
      simp only [List.flatten_cons, List.flatten_nil, List.append_nil] at hS4
      have l14 := l1.trans (l2.trans (l3.trans l4))
      refine h r H4 _ l14 hS4 ?_ ?_
      · exact (s7.map (R := NH H4) (f := fun x => .C9 ⟨x⟩) (hr.mono fun _ _ => EH.le l14)).app (s7.map (R := NH H4) (f := fun x => .J8 ⟨x⟩) ⟨hcl, fun i a b ha hb => CH.le l14 (hcr i a b ha hb)⟩)
      · show (ts ++ us).length ≤ _; rw [List.length_append]; omega
  | D5 y =>
    have hx : SH H y.i2 t := hx
    refine a9d _ ?_
    unfold X2
    obtain ⟨e⟩ := y
    cases hx with
    | @mk e xs ts ys us zs bs vs ws hs hb hr hc hcb hcr ha hab hal har hbs hbb hbl hbr =>
      refine b6k hc hcb fun r1 H1 l1 hS1 => ?_
      refine b0H (hs.le l1) hb fun r2 H2 l2 hS2 => ?_
      refine b0G (ha.le (l1.trans l2)) hab fun r3 H3 l3 hS3 => ?_
      refine b0G (hbs.le (l1.trans (l2.trans l3))) hbb fun r4 H4 l4 hS4 => ?_
      intro s H5 l5 hS hcap
      have r0 := hr.1
      have r0' := hcr.1
      refine b4h hS (nss := [_, _, _, _]) ((s7.one (hS1.le (l2.trans (l3.trans (l4.trans l5))))).app ((s7.one (hS2.le (l3.trans (l4.trans l5)))).app ((s7.one (hS3.le (l4.trans l5))).app (s7.one (hS4.le l5))))) ?_ (by simp [big]) fun r H6 l6 hS6 => ?_
      · simp only [List.flatten_cons, List.flatten_nil, List.append_nil, List.length_append, List.length_map]; simp only [big] at hb hcb hab hbb; omega
      simp only [List.flatten_cons, List.flatten_nil, List.append_nil] at hS6
      have l16 := l1.trans (l2.trans (l3.trans (l4.trans (l5.trans l6))))
      refine h r H6 _ l16 hS6 ?_ ?_
      · exact (s7.map (R := NH H6) (f := fun x => .J8 ⟨x⟩) (hcr.mono fun _ _ => CH.le l16)).app ((s7.map (R := NH H6) (f := fun x => .C9 ⟨x⟩) (hr.mono fun _ _ => EH.le l16)).app ((s7.map (R := NH H6) (f := fun x => .D5 ⟨x⟩) ⟨hal, fun i a b ha hb => SH.le l16 (har i a b ha hb)⟩).app (s7.map (R := NH H6) (f := fun x => .D5 ⟨x⟩) ⟨hbl, fun i a b ha hb => SH.le l16 (hbr i a b ha hb)⟩)))
      · show (us ++ (ts ++ (vs ++ ws))).length ≤ _; simp only [List.length_append]; omega
end
end Go.Proofs.YtnhkdkcgdcgmdaaDoor
