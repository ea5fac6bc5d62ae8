/- Nodes: a list's nodes, lists put together; a node's own form, its name, its parts. Contracts off the printed formulas. -/
import Derived.Test.YthklmeihgmcljaaGreatDoorzNQ3
namespace Go.Proofs.YthklmeihgmcljaaGreatDoor
open Go.RowKit
set_option maxRecDepth 100000
set_option maxHeartbeats 2000000
def NH (H : Hp) : d8 → PT → Prop
 | .K0 y, t => t = dT y.V1
 | .F0 y, t => SH H y.i8 t
 | .L1 y, t => CH H y.q7 t
 | .E4 y, t => EH H y.t6 t
 | .nil, _ => False
theorem NH.le {H H' : Hp} (l : Hle H H') {x : d8} {t : PT} (h : NH H x t) : NH H' x t := by
 cases x with
 | nil => exact h
 | K0 y => exact h
 | F0 y => exact SH.le l h
 | L1 y => exact CH.le l h
 | E4 y => exact EH.le l h
theorem b2C {α : Type} (l : List (List α)) (i : Nat) : (l.take i).flatten.length ≤ l.flatten.length := by
 have : l.flatten = (l.take i).flatten ++ (l.drop i).flatten := by rw [← List.flatten_append, List.take_append_drop]
 rw [this, List.length_append]; omega
theorem b2D {α : Type} {l : List (List α)} {i : Nat} {x : List α} (h : l[i]? = some x) : (l.take (i + 1)).flatten = (l.take i).flatten ++ x := by
 rw [a4V h, List.flatten_append]; simp
section
variable {H : Hp}
theorem b5a {s : Sl} {xs : List l8} (hs : SlH H 2 A0 s xs) (hb : xs.length ≤ big) {K : Sl → Hp → Prop} (h : ∀ (r : Sl) (H' : Hp), Hle H H' → SlH H' 1 u0 r (xs.map fun x => d8.K0 ⟨x⟩) → K r H') : G1 s H K := by
 refine a0i _ ?_
 unfold G5
 have n1 := hs.1
 refine Q4 (fun (z : List d8 × Int) H' => 0 ≤ z.2 ∧ z.2 ≤ xs.length ∧ H' = H ∧ z.1 = (xs.take z.2.toNat).map fun x => d8.K0 ⟨x⟩) (fun z => (xs.length - z.2).toNat) ⟨Int.le_refl _, by simp, rfl, by simp⟩ ?_
 rintro ⟨l, i⟩ H1 next ⟨i0, i1, rfl, hl⟩ hn
 dsimp only at i0 i1 hl ⊢
 unfold B7
 refine ⟨fun hc => ?_, fun hc => ?_⟩
 ·obtain ⟨x, hx, hE⟩ := hs.get i0 hc
  have hlt := a2y hx
  refine ⟨i0, hc, x, hE, a8a _ ?_⟩
  unfold a2P
  refine ⟨?_, ?_⟩
  ·rw [hl, List.length_map, List.length_take]; simp only [big] at hb; simp only [List.length_cons, List.length_nil]; omega
  ·rw [a4o i0 (by simp only [big] at hb; omega)]
   refine hn _ _ ⟨by dsimp only; omega, by dsimp only; omega, rfl, ?_⟩ (by dsimp only; omega)
   dsimp only
   rw [show (i + 1).toNat = i.toNat + 1 by omega, a4V hx, List.map_append, ← hl]; rfl
 ·unfold B6
  intro ss H2 l2 hss hc2
  refine h ss H2 l2 ?_
  rw [hl, List.take_of_length_le (by omega)] at hss; exact hss
theorem a7x {s : Sl} {xs : List g5} (hs : SlH H 6 t7 s xs) (hb : xs.length ≤ big) {K : Sl → Hp → Prop} (h : ∀ (r : Sl) (H' : Hp), Hle H H' → SlH H' 1 u0 r (xs.map fun x => d8.F0 ⟨x⟩) → K r H') : y9 s H K := by
 refine a0j _ ?_
 unfold G6
 have n1 := hs.1
 refine Q4 (fun (z : List d8 × Int) H' => 0 ≤ z.2 ∧ z.2 ≤ xs.length ∧ H' = H ∧ z.1 = (xs.take z.2.toNat).map fun x => d8.F0 ⟨x⟩) (fun z => (xs.length - z.2).toNat) ⟨Int.le_refl _, by simp, rfl, by simp⟩ ?_
 rintro ⟨l, i⟩ H1 next ⟨i0, i1, rfl, hl⟩ hn
 dsimp only at i0 i1 hl ⊢
 unfold B9
 refine ⟨fun hc => ?_, fun hc => ?_⟩
 ·obtain ⟨x, hx, hE⟩ := hs.get i0 hc
  have hlt := a2y hx
  refine ⟨i0, hc, x, hE, a8b _ ?_⟩
  unfold a2Q
  refine ⟨?_, ?_⟩
  ·rw [hl, List.length_map, List.length_take]; simp only [big] at hb; simp only [List.length_cons, List.length_nil]; omega
  ·rw [a4o i0 (by simp only [big] at hb; omega)]
   refine hn _ _ ⟨by dsimp only; omega, by dsimp only; omega, rfl, ?_⟩ (by dsimp only; omega)
   dsimp only
   rw [show (i + 1).toNat = i.toNat + 1 by omega, a4V hx, List.map_append, ← hl]; rfl
 ·unfold B8
  intro ss H2 l2 hss hc2
  refine h ss H2 l2 ?_
  rw [hl, List.take_of_length_le (by omega)] at hss; exact hss
theorem a9O {s : Sl} {xs : List f7} (hs : SlH H 4 i6 s xs) (hb : xs.length ≤ big) {K : Sl → Hp → Prop} (h : ∀ (r : Sl) (H' : Hp), Hle H H' → SlH H' 1 u0 r (xs.map fun x => d8.L1 ⟨x⟩) → K r H') : C8 s H K := by
 refine a0l _ ?_
 unfold G7
 have n1 := hs.1
 refine Q4 (fun (z : List d8 × Int) H' => 0 ≤ z.2 ∧ z.2 ≤ xs.length ∧ H' = H ∧ z.1 = (xs.take z.2.toNat).map fun x => d8.L1 ⟨x⟩) (fun z => (xs.length - z.2).toNat) ⟨Int.le_refl _, by simp, rfl, by simp⟩ ?_
 rintro ⟨l, i⟩ H1 next ⟨i0, i1, rfl, hl⟩ hn
 dsimp only at i0 i1 hl ⊢
 unfold C1
 refine ⟨fun hc => ?_, fun hc => ?_⟩
 ·obtain ⟨x, hx, hE⟩ := hs.get i0 hc
  have hlt := a2y hx
  refine ⟨i0, hc, x, hE, a8d _ ?_⟩
  unfold a2T
  refine ⟨?_, ?_⟩
  ·rw [hl, List.length_map, List.length_take]; simp only [big] at hb; simp only [List.length_cons, List.length_nil]; omega
  ·rw [a4o i0 (by simp only [big] at hb; omega)]
   refine hn _ _ ⟨by dsimp only; omega, by dsimp only; omega, rfl, ?_⟩ (by dsimp only; omega)
   dsimp only
   rw [show (i + 1).toNat = i.toNat + 1 by omega, a4V hx, List.map_append, ← hl]; rfl
 ·unfold C0
  intro ss H2 l2 hss hc2
  refine h ss H2 l2 ?_
  rw [hl, List.take_of_length_le (by omega)] at hss; exact hss
theorem a7y {s : Sl} {xs : List d7} (hs : SlH H 4 f9 s xs) (hb : xs.length ≤ big) {K : Sl → Hp → Prop} (h : ∀ (r : Sl) (H' : Hp), Hle H H' → SlH H' 1 u0 r (xs.map fun x => d8.E4 ⟨x⟩) → K r H') : z7 s H K := by
 refine a0h _ ?_
 unfold G4
 have n1 := hs.1
 refine Q4 (fun (z : List d8 × Int) H' => 0 ≤ z.2 ∧ z.2 ≤ xs.length ∧ H' = H ∧ z.1 = (xs.take z.2.toNat).map fun x => d8.E4 ⟨x⟩) (fun z => (xs.length - z.2).toNat) ⟨Int.le_refl _, by simp, rfl, by simp⟩ ?_
 rintro ⟨l, i⟩ H1 next ⟨i0, i1, rfl, hl⟩ hn
 dsimp only at i0 i1 hl ⊢
 unfold B5
 refine ⟨fun hc => ?_, fun hc => ?_⟩
 ·obtain ⟨x, hx, hE⟩ := hs.get i0 hc
  have hlt := a2y hx
  refine ⟨i0, hc, x, hE, a8i _ ?_⟩
  unfold a2W
  refine ⟨?_, ?_⟩
  ·rw [hl, List.length_map, List.length_take]; simp only [big] at hb; simp only [List.length_cons, List.length_nil]; omega
  ·rw [a4o i0 (by simp only [big] at hb; omega)]
   refine hn _ _ ⟨by dsimp only; omega, by dsimp only; omega, rfl, ?_⟩ (by dsimp only; omega)
   dsimp only
   rw [show (i + 1).toNat = i.toNat + 1 by omega, a4V hx, List.map_append, ← hl]; rfl
 ·unfold B4
  intro ss H2 l2 hss hc2
  refine h ss H2 l2 ?_
  rw [hl, List.take_of_length_le (by omega)] at hss; exact hss
theorem b2E (a : Option Addr) (n c : Nat) : Pu Tryz.prog (xBuiltin .cap #[128] 3 [false] [.slice a n c]) (.int .i64 (c : Int)) := by
 have e' : Program.elem Tryz.prog 128 = 131 := by simp [Program.elem, Tryz.underlying128]
 have : xBuiltin .cap #[128] 3 [false] [.slice a n c] = xV (Builtin.cap_ #[128] 3 #[.slice a n c]) := rfl
 rw [this]
 exact Pu.ok fun w => run_cap_slice (P := Tryz.prog) (w := w) 128 3 a n c (by rw [e']; exact Tryz.underlying128)
theorem c1L {n : Int} (h0 : 0 ≤ n) (hb : n * 17 ≤ 140737488355328) {K : List d8 → Hp → Prop} (h : K [] H) : Q8 n H K := by
 intro w I
 refine c0x ?_
 unfold c3i
 refine v8 fun j1 hx1 => ?_
 refine b5 (Z1 _ _ _ _ _ _) ?_
 refine a0H (fun c => ?_) (fun c => ?_)
 ·have := of_decide_eq_true c; omega
 refine hx1 _ _ ?_
 unfold b5p
 intro _
 refine v8 fun j2 hx2 => ?_
 refine b5 (b2E _ _ _) ?_
 refine b5 (a6v _ _ _) ?_
 refine b5 (b7h _ _ _ _ _ _) ?_
 refine b5 (b7h _ _ _ _ _ _) ?_
 rw [show IntKind.wrap .i64 (n - IntKind.wrap .i64 (((0 : Nat) : Int) - ((0 : Nat) : Int))) = n by
  rw [show IntKind.wrap .i64 (((0 : Nat) : Int) - ((0 : Nat) : Int)) = 0 by decide, Int.sub_zero]; exact R1 ⟨by omega, by omega⟩]
 refine b5 (a3z _ _ _ _ _ _) ?_
 refine a0H (fun c => ?_) (fun c => ?_)
 ·have hp := of_decide_eq_true c
  refine b5 (b2E _ _ _) ?_
  refine b5 (b3f (e := 131) (sz := 1) Tryz.underlying128 Tryz.sizeOf131 (s := ⟨none, 0, 0⟩) (h := ((0 : Nat) : Int)) (by decide) (by decide)) ?_
  refine c2e (z := Value.nilIface) (bytes := 16) (kn := .i64) Tryz.underlying128 Tryz.underlying3 b5k (by kernel_rfl) (by kernel_rfl) (by kernel_rfl) (by kernel_rfl) (by decide) Q0 S5 I hp hb fun g m F' w' hr I' => ?_
  refine b5 (a6v _ _ _) ?_
  refine b5 (b3f (e := 131) (sz := 1) Tryz.underlying128 Tryz.sizeOf131 (s := ⟨some ⟨g, 0, none⟩, n.toNat, m⟩) (h := ((0 : Nat) : Int)) (by decide) (by simp)) ?_
  refine hx2 _ _ ?_
  unfold b1s
  intro _
  refine ⟨H, _, I', [], ⟨some ⟨g, 0, none⟩, 0, m⟩, F', ?_, rfl, hr, h⟩
  simp [Sl.cut, Addr.add, nth]
 ·refine hx2 _ _ ?_
  unfold b1s
  intro _
  exact ⟨H, _, I.nil, [], ⟨none, 0, 0⟩, [], rfl, rfl, RowL.nil Q0 S5, h⟩
theorem a8V {s : Sl} {ss : List Sl} {nss : List (List d8)} (hs : SlH H 1 csl s ss) (hr : v6 (SlH H 1 u0) ss nss) (hb : nss.flatten.length * 17 ≤ 140737488355328) (hss : ss.length ≤ big) {K : Sl → Hp → Prop}
  (h : ∀ (r : Sl) (H' : Hp), Hle H H' → SlH H' 1 u0 r nss.flatten → K r H') : C3 s H K := by
 refine a1k _ ?_
 unfold L4
 have n1 := hs.1; have r1 := hr.1
 refine Q4 (fun (z : Int × Int) H' => 0 ≤ z.2 ∧ z.2 ≤ ss.length ∧ H' = H ∧ z.1 = ((nss.take z.2.toNat).flatten.length : Int)) (fun z => (ss.length - z.2).toNat) ⟨Int.le_refl _, by simp, rfl, by simp⟩ ?_
 rintro ⟨q, i⟩ H1 next ⟨i0, i1, rfl, hq⟩ hn
 dsimp only at i0 i1 hq ⊢
 subst hq
 unfold E0
 refine ⟨fun hc => ?_, fun hc => ?_⟩
 ·obtain ⟨x, hx, hE⟩ := hs.get i0 hc
  obtain ⟨ns, hns, hS⟩ := hr.get hx
  have hlt := a2y hx
  have e1 := b2D hns
  have e2 := b2C nss (i.toNat + 1)
  have e3 : (nss.take (i.toNat + 1)).flatten.length = (nss.take i.toNat).flatten.length + ns.length := by rw [e1, List.length_append]
  have e4 : IntKind.wrap .i64 (((nss.take i.toNat).flatten.length : Int) + (x.n : Int)) = ((nss.take (i.toNat + 1)).flatten.length : Int) := by
   rw [R1 ⟨by omega, by have := hS.1; omega⟩]
   have := hS.1; omega
  refine ⟨i0, hc, x, hE, ?_⟩
  rw [e4]
  refine ⟨fun hneg => by omega, fun _ => ?_⟩
  unfold D6
  rw [a4o i0 (by simp only [big] at hss; omega)]
  refine hn _ _ ⟨by dsimp only; omega, by dsimp only; omega, rfl, ?_⟩ (by dsimp only; omega)
  dsimp only
  rw [show (i + 1).toNat = i.toNat + 1 by omega]
 ·rw [List.take_of_length_le (by omega)]
  clear hn next
  unfold D9
  refine c1L (by omega) (by omega) ?_
  refine Q4 (fun (z : List d8 × Int) H' => 0 ≤ z.2 ∧ z.2 ≤ ss.length ∧ H' = H1 ∧ z.1 = (nss.take z.2.toNat).flatten) (fun z => (ss.length - z.2).toNat) ⟨Int.le_refl _, by simp, rfl, by simp⟩ ?_
  rintro ⟨q, j⟩ H2 next ⟨j0, j1, rfl, hq⟩ hn
  dsimp only at j0 j1 hq ⊢
  subst hq
  unfold D8
  refine ⟨fun hc => ?_, fun hc => ?_⟩
  ·obtain ⟨x, hx, hE⟩ := hs.get j0 hc
   obtain ⟨ns, hns, hS⟩ := hr.get hx
   have hlt := a2y hx
   have e1 := b2D hns
   have e2 := b2C nss (j.toNat + 1)
   have e3 : (nss.take (j.toNat + 1)).flatten.length = (nss.take j.toNat).flatten.length + ns.length := by rw [e1, List.length_append]
   refine ⟨j0, hc, x, hE, ns, hS, by omega, ?_⟩
   rw [a4o j0 (by simp only [big] at hss; omega), ← e1]
   refine hn _ _ ⟨by dsimp only; omega, by dsimp only; omega, rfl, ?_⟩ (by dsimp only; omega)
   dsimp only
   rw [show (j + 1).toNat = j.toNat + 1 by omega]
  ·unfold D7
   intro r H3 l3 hS _
   rw [List.take_of_length_le (by omega)] at hS
   exact h r H3 l3 hS
def nameL : Lab → ByteArray × Bool
 | .decl _ s => (s, true)
 | .stmt k s _ _ _ _ => (s, decide (k = 1) || decide (k = 2))
 | .cond .. => (⟨#[]⟩, false)
 | .expr k _ s _ => (s, decide (k = 2) || decide (k = 4))
theorem b5V {x : d8} {t : PT} (hx : NH H x t) {K : ByteArray → Bool → Hp → Prop} (h : K (nameL t.lab).1 (nameL t.lab).2 H) : a0B x H K := by
 refine a8L _ ?_
 unfold a3K
 cases x with
 | nil => exact hx.elim
 | K0 y =>
  cases (show t = dT y.V1 from hx)
  exact ⟨fun _ => h, fun q => (by cases q)⟩
 | F0 y =>
  cases (show SH H y.i8 t from hx)
  exact ⟨fun q => (by cases q), fun _ => ⟨fun _ => h, fun q => (by cases q)⟩⟩
 | E4 y =>
  cases (show EH H y.t6 t from hx)
  exact ⟨fun q => (by cases q), fun _ => ⟨fun q => (by cases q), fun _ => ⟨fun _ => h, fun q => (by cases q)⟩⟩⟩
 | L1 y =>
  cases (show CH H y.q7 t from hx)
  exact ⟨fun q => (by cases q), fun _ => ⟨fun q => (by cases q), fun _ => ⟨fun q => (by cases q), fun _ => h⟩⟩⟩
def formE (k n : Int) (s : ByteArray) (a : Int) : Bool :=
 if (((!decide (k = 1)) && (!decide (n = 0))) || ((!(decide (k = 2) || decide (k = 4))) && (!decide (s = ⟨#[]⟩)))) = true then false
 else if k = 1 then decide (0 ≤ n) && decide (a = 0)
 else if k = 2 ∨ k = 3 then decide (a = 0)
 else if k = 4 ∨ k = 5 then decide (a = 1)
 else if k = 6 ∨ k = 7 ∨ k = 8 ∨ k = 9 ∨ k = 10 then decide (a = 2) else false
def formC (k op e p : Int) : Bool :=
 if k = 3 then (decide (1 ≤ op) && decide (op ≤ 6)) && decide (e = 2 ∧ p = 0)
 else if op = 0 then
  (if k = 1 ∨ k = 2 then decide (e = 0 ∧ p = 0) else if k = 4 then decide (e = 0 ∧ p = 1) else if k = 5 ∨ k = 6 then decide (e = 0 ∧ p = 2) else false)
 else false
def formS (k : Int) (s : ByteArray) (e c t f : Int) : Bool :=
 if k = 1 then !decide (0 < t + f) && decide (e = 1 ∧ c = 0)
 else if k = 2 then !decide (0 < t + f) && decide (e = 2 ∧ c = 0)
 else if k = 3 then decide (s = ⟨#[]⟩) && decide (e = 0 ∧ c = 1)
 else if k = 4 then decide (s = ⟨#[]⟩) && decide (f = 0) && decide (e = 0 ∧ c = 1)
 else if k = 5 ∨ k = 6 then (decide (s = ⟨#[]⟩) && !decide (0 < t + f)) && decide (e = 0 ∧ c = 1)
 else if k = 7 then (decide (s = ⟨#[]⟩) && !decide (0 < t + f)) && decide (e = 0 ∧ c = 0)
 else false
def formL : Lab → Bool
 | .decl z _ => decide (0 ≤ z) && decide (z ≤ 2147483647)
 | .stmt k s e c t f => formS k s e c t f
 | .cond k op e p => formC k op e p
 | .expr k n s a => formE k n s a
theorem a9C {α : Type} {b : Bool} {q : Prop} [Decidable q] (hb : b = true ↔ q) (x y : α) : (if b = true then x else y) = if q then x else y := by
 by_cases hq : q
 ·rw [if_pos (hb.2 hq), if_pos hq]
 ·rw [if_neg (fun e => hq (hb.1 e)), if_neg hq]
theorem ej3 {a : Int} {b : Bool} {x : K9} {K : Bool → Hp → Prop} (h : K (if b = true then decide (a = 2) else false) H) : D5 a b x H K := by
 unfold D5
 cases b
 ·exact ⟨fun q => (by cases q), fun _ => h⟩
 ·exact ⟨fun _ => h, fun q => (by cases q)⟩
theorem ej2 {a k : Int} {b : Bool} {x : K9} {K : Bool → Hp → Prop} (h : K (if b = true then decide (a = 1) else if k = 6 ∨ k = 7 ∨ k = 8 ∨ k = 9 ∨ k = 10 then decide (a = 2) else false) H) : N0 a k b x H K := by
 unfold N0
 cases b
 ·refine ⟨fun q => (by cases q), fun _ => ?_⟩
  rw [if_neg (by decide)] at h
  refine ⟨fun e => ej3 ?_, fun e1 => ⟨fun e => ej3 ?_, fun e2 => ⟨fun e => ej3 ?_, fun e3 => ⟨fun e => ej3 ?_, fun e4 => ej3 ?_⟩⟩⟩⟩ <;>
   (rw [a9C (q := k = 6 ∨ k = 7 ∨ k = 8 ∨ k = 9 ∨ k = 10) (by rw [decide_eq_true_eq]; omega)]; exact h)
 ·exact ⟨fun _ => h, fun q => (by cases q)⟩
theorem ej1 {a k : Int} {b : Bool} {x : K9} {K : Bool → Hp → Prop} (h : K (if b = true then decide (a = 0) else if k = 4 ∨ k = 5 then decide (a = 1) else if k = 6 ∨ k = 7 ∨ k = 8 ∨ k = 9 ∨ k = 10 then decide (a = 2) else false) H) : N1 a k b x H K := by
 unfold N1
 cases b
 ·refine ⟨fun q => (by cases q), fun _ => ?_⟩
  rw [if_neg (by decide)] at h
  refine ⟨fun e => ej2 ?_, fun e1 => ej2 ?_⟩ <;>
   (rw [a9C (q := k = 4 ∨ k = 5) (by rw [decide_eq_true_eq]; omega)]; exact h)
 ·exact ⟨fun _ => h, fun q => (by cases q)⟩
theorem b9v {e : d7} {t : PT} (he : EH H e t) {K : Bool → Hp → Prop} (h : K (formL t.lab) H) : a1Q ⟨e⟩ H K := by
 refine a7a _ ?_
 unfold a1U
 refine b5V (x := .E4 ⟨e⟩) (t := t) he ?_
 cases he with
 | @mk e xs ts hs hb hl hr =>
  have hn : e.P0.n = ts.length := by have := hs.1; omega
  change K (formE e.g6 e.T4 e.B0 (ts.length : Int)) H at h
  unfold formE at h
  dsimp only [PT.lab, nameL]
  rw [hn]
  generalize (ts.length : Int) = a at h ⊢
  refine ⟨fun hg => by rw [if_pos hg] at h; exact h, fun hg => ?_⟩
  rw [if_neg (by rw [hg]; decide)] at h
  refine ⟨fun e1 => by rw [if_pos e1] at h; exact h, fun e1 => ?_⟩
  rw [if_neg e1] at h
  refine ⟨fun e2 => ej1 ?_, fun e2 => ej1 ?_⟩ <;>
   (rw [a9C (q := e.g6 = 2 ∨ e.g6 = 3) (by rw [decide_eq_true_eq]; omega)]; exact h)
theorem cj2 {b : Bool} {y : F7} {x : R3} {K : Bool → Hp → Prop} (h : K (if b = true then decide (y.fexprs = 0 ∧ y.fparts = 2) else false) H) : N2 b y x H K := by
 unfold N2
 cases b
 ·exact ⟨fun q => (by cases q), fun _ => h⟩
 ·exact ⟨fun _ => h, fun q => (by cases q)⟩
theorem cj1 {k : Int} {b : Bool} {y : F7} {x : R3} {K : Bool → Hp → Prop} (h : K (if b = true then decide (y.fexprs = 0 ∧ y.fparts = 0) else if k = 4 then decide (y.fexprs = 0 ∧ y.fparts = 1) else if k = 5 ∨ k = 6 then decide (y.fexprs = 0 ∧ y.fparts = 2) else false) H) : N3 k b y x H K := by
 unfold N3
 cases b
 ·refine ⟨fun q => (by cases q), fun _ => ?_⟩
  rw [if_neg (by decide)] at h
  refine ⟨fun e => by rw [if_pos e] at h; exact h, fun e => ?_⟩
  rw [if_neg e] at h
  refine ⟨fun e2 => cj2 ?_, fun e2 => cj2 ?_⟩ <;>
   (rw [a9C (q := k = 5 ∨ k = 6) (by rw [decide_eq_true_eq]; omega)]; exact h)
 ·exact ⟨fun _ => h, fun q => (by cases q)⟩
theorem b9w {e : f7} {t : PT} (he : CH H e t) {K : Bool → Hp → Prop} (h : K (formL t.lab) H) : a1R ⟨e⟩ H K := by
 refine a7c _ ?_
 unfold a1W
 cases he with
 | @mk e xs ts ys us hs hb hr hc hcb hcl hcr =>
  have hn : e.m5.n = ts.length := by have := hs.1; have := hr.1; omega
  have hm : e.E3.n = us.length := by have := hc.1; omega
  change K (formC e.g6 e.fOp (ts.length : Int) (us.length : Int)) H at h
  unfold formC at h
  dsimp only
  rw [hn, hm]
  generalize (ts.length : Int) = a at h ⊢
  generalize (us.length : Int) = b at h ⊢
  refine ⟨fun e1 => by rw [if_pos e1] at h; exact h, fun e1 => ?_⟩
  rw [if_neg e1] at h
  refine ⟨fun e2 => by rw [if_neg e2] at h; exact h, fun e2 => ?_⟩
  rw [if_pos e2] at h
  refine ⟨fun e3 => cj1 ?_, fun e3 => cj1 ?_⟩ <;>
   (rw [a9C (q := e.g6 = 1 ∨ e.g6 = 2) (by rw [decide_eq_true_eq]; omega)]; exact h)
theorem sj1 {v : Bool} {k : Int} {b : Bool} {y : N9} {x : R4} {K : Bool → Hp → Prop} (h : K (if b = true then v && decide (y.fexprs = 0 ∧ y.fconds = 1) else if k = 7 then v && decide (y.fexprs = 0 ∧ y.fconds = 0) else false) H) : N4 v k b y x H K := by
 unfold N4
 cases b
 ·refine ⟨fun q => (by cases q), fun _ => ?_⟩
  rw [if_neg (by decide)] at h
  exact ⟨fun e => by rw [if_pos e] at h; exact h, fun e => by rw [if_neg e] at h; exact h⟩
 ·exact ⟨fun _ => h, fun q => (by cases q)⟩
theorem b9x {e : g5} {t : PT} (he : SH H e t) {K : Bool → Hp → Prop} (h : K (formL t.lab) H) : a1S ⟨e⟩ H K := by
 refine a7d _ ?_
 unfold a1X
 cases he with
 | @mk e xs ts ys us zs bs vs ws hs hb hr hc hcb hcr ha hab hal har hbs hbb hbl hbr =>
  have n1 : e.m5.n = ts.length := by have := hs.1; have := hr.1; omega
  have n2 : e.A4.n = us.length := by have := hc.1; have := hcr.1; omega
  have n3 : e.M2.n = vs.length := by have := ha.1; omega
  have n4 : e.L5.n = ws.length := by have := hbs.1; omega
  change K (formS e.g6 e.B0 (ts.length : Int) (us.length : Int) (vs.length : Int) (ws.length : Int)) H at h
  unfold formS at h
  dsimp only
  rw [n1, n2, n3, n4, R1 (a := (vs.length : Int) + (ws.length : Int)) ⟨by omega, by simp only [big] at hab hbb; omega⟩]
  generalize (ts.length : Int) = a at h ⊢
  generalize (us.length : Int) = b at h ⊢
  generalize (vs.length : Int) = c at h ⊢
  generalize (ws.length : Int) = d at h ⊢
  refine ⟨fun e1 => by rw [if_pos e1] at h; exact h, fun e1 => ?_⟩
  rw [if_neg e1] at h
  refine ⟨fun e1 => by rw [if_pos e1] at h; exact h, fun e2 => ?_⟩
  rw [if_neg e2] at h
  refine ⟨fun e1 => by rw [if_pos e1] at h; exact h, fun e3 => ?_⟩
  rw [if_neg e3] at h
  refine ⟨fun e1 => by rw [if_pos e1] at h; exact h, fun e4 => ?_⟩
  rw [if_neg e4] at h
  refine ⟨fun e5 => sj1 ?_, fun e5 => sj1 ?_⟩ <;>
   (rw [a9C (q := e.g6 = 5 ∨ e.g6 = 6) (by rw [decide_eq_true_eq]; omega)]; exact h)
theorem c1M {x : d8} {t : PT} (hx : NH H x t) {K : Bool → Hp → Prop} (h : K (formL t.lab) H) : a2O x H K := by
 cases x with
 | nil => exact hx.elim
 | E4 y => exact b9v hx h
 | L1 y => exact b9w hx h
 | F0 y => exact b9x hx h
 | K0 y =>
  cases (show t = dT y.V1 from hx)
  refine a7b _ ?_
  unfold a1V
  exact h
theorem b9y {x : d8} {t : PT} (hx : NH H x t) {K : Sl → Hp → Prop} (h : ∀ (r : Sl) (H' : Hp) (ns : List d8), Hle H H' → SlH H' 1 u0 r ns → v6 (NH H') ns t.kids → t.kids.length ≤ 4 * big → K r H') : a2C x H K := by
 cases x with
 | nil => exact hx.elim
 | K0 y =>
  cases (show t = dT y.V1 from hx)
  refine a6V _ ?_
  unfold a1A
  exact h _ _ [] (Hle.refl _) (SlH.nil _ _ _) v6.nil (Nat.zero_le _)
 | E4 y =>
  have hx : EH H y.t6 t := hx
  refine a6T _ ?_
  unfold a1y
  obtain ⟨e⟩ := y
  cases hx with
  | @mk e xs ts hs hb hl hr =>
   refine a7y hs hb fun r H' l hS => h r H' _ l hS ?_ ?_
   ·exact v6.map ⟨hl, fun i a b ha hb => EH.le l (hr i a b ha hb)⟩
   ·show ts.length ≤ _; omega
 | L1 y =>
  have hx : CH H y.q7 t := hx
  refine a6U _ ?_
  unfold a1z
  obtain ⟨e⟩ := y
  cases hx with
  | @mk e xs ts ys us hs hb hr hc hcb hcl hcr =>
   refine a7y hs hb fun r1 H1 l1 hS1 => ?_
   refine a9O (hc.le l1) hcb fun r2 H2 l2 hS2 => ?_
   intro s H3 l3 hS hcap
   have r0 := hr.1
   refine a8V hS (nss := [_, _]) ((v6.one (hS1.le (l2.trans l3))).app (v6.one (hS2.le l3))) ?_ (by simp [big]) fun r H4 l4 hS4 => ?_
   ·simp only [List.flatten_cons, List.flatten_nil, List.append_nil, List.length_append, List.length_map]; simp only [big] at hb hcb; omega
   simp only [List.flatten_cons, List.flatten_nil, List.append_nil] at hS4
   have l14 := l1.trans (l2.trans (l3.trans l4))
   refine h r H4 _ l14 hS4 ?_ ?_
   ·exact (v6.map (R := NH H4) (f := fun x => .E4 ⟨x⟩) (hr.mono fun _ _ => EH.le l14)).app (v6.map (R := NH H4) (f := fun x => .L1 ⟨x⟩) ⟨hcl, fun i a b ha hb => CH.le l14 (hcr i a b ha hb)⟩)
   ·show (ts ++ us).length ≤ _; rw [List.length_append]; omega
 | F0 y =>
  have hx : SH H y.i8 t := hx
  refine a6Q _ ?_
  unfold a1u
  obtain ⟨e⟩ := y
  cases hx with
  | @mk e xs ts ys us zs bs vs ws hs hb hr hc hcb hcr ha hab hal har hbs hbb hbl hbr =>
   refine a9O hc hcb fun r1 H1 l1 hS1 => ?_
   refine a7y (hs.le l1) hb fun r2 H2 l2 hS2 => ?_
   refine a7x (ha.le (l1.trans l2)) hab fun r3 H3 l3 hS3 => ?_
   refine a7x (hbs.le (l1.trans (l2.trans l3))) hbb fun r4 H4 l4 hS4 => ?_
   intro s H5 l5 hS hcap
   have r0 := hr.1
   have r0' := hcr.1
   refine a8V hS (nss := [_, _, _, _]) ((v6.one (hS1.le (l2.trans (l3.trans (l4.trans l5))))).app ((v6.one (hS2.le (l3.trans (l4.trans l5)))).app ((v6.one (hS3.le (l4.trans l5))).app (v6.one (hS4.le l5))))) ?_ (by simp [big]) fun r H6 l6 hS6 => ?_
   ·simp only [List.flatten_cons, List.flatten_nil, List.append_nil, List.length_append, List.length_map]; simp only [big] at hb hcb hab hbb; omega
   simp only [List.flatten_cons, List.flatten_nil, List.append_nil] at hS6
   have l16 := l1.trans (l2.trans (l3.trans (l4.trans (l5.trans l6))))
   refine h r H6 _ l16 hS6 ?_ ?_
   ·exact (v6.map (R := NH H6) (f := fun x => .L1 ⟨x⟩) (hcr.mono fun _ _ => CH.le l16)).app ((v6.map (R := NH H6) (f := fun x => .E4 ⟨x⟩) (hr.mono fun _ _ => EH.le l16)).app ((v6.map (R := NH H6) (f := fun x => .F0 ⟨x⟩) ⟨hal, fun i a b ha hb => SH.le l16 (har i a b ha hb)⟩).app (v6.map (R := NH H6) (f := fun x => .F0 ⟨x⟩) ⟨hbl, fun i a b ha hb => SH.le l16 (hbr i a b ha hb)⟩)))
   ·show (us ++ (ts ++ (vs ++ ws))).length ≤ _; simp only [List.length_append]; omega
end
end Go.Proofs.YthklmeihgmcljaaGreatDoor
