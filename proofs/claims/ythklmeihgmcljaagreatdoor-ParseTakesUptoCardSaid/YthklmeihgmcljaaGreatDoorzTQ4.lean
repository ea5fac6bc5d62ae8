/- Nodes: a list's nodes, lists put together; a node's own form, its name, its parts. Contracts off the printed formulas. -/
import Derived.Test.YthklmeihgmcljaaGreatDoorzTQ3
namespace Go.Proofs.YthklmeihgmcljaaGreatDoor
open Go.RowKit
set_option maxRecDepth 100000
set_option maxHeartbeats 2000000
def NH (H : Hp) : d8 → PT → Prop
 | .M3 y, t => t = dT y.X0
 | .J0 y, t => SH H y.i8 t
 | .N2 y, t => CH H y.r9 t
 | .G9 y, t => EH H y.u4 t
 | .nil, _ => False
theorem NH.le {H H' : Hp} (l : Hle H H') {x : d8} {t : PT} (h : NH H x t) : NH H' x t := by
 cases x with
 | nil => exact h
 | M3 y => exact h
 | J0 y => exact SH.le l h
 | N2 y => exact CH.le l h
 | G9 y => exact EH.le l h
theorem b3q {α : Type} (l : List (List α)) (i : Nat) : (l.take i).flatten.length ≤ l.flatten.length := by
 have : l.flatten = (l.take i).flatten ++ (l.drop i).flatten := by rw [← List.flatten_append, List.take_append_drop]
 rw [this, List.length_append]; omega
theorem b3r {α : Type} {l : List (List α)} {i : Nat} {x : List α} (h : l[i]? = some x) : (l.take (i + 1)).flatten = (l.take i).flatten ++ x := by
 rw [a5D h, List.flatten_append]; simp
section
variable {H : Hp}
theorem b5X {s : Sl} {xs : List k7} (hs : SlH H 2 y3 s xs) (hb : xs.length ≤ big) {K : Sl → Hp → Prop} (h : ∀ (r : Sl) (H' : Hp), Hle H H' → SlH H' 1 v7 r (xs.map fun x => d8.M3 ⟨x⟩) → K r H') : K3 s H K := by
 refine a0D _ ?_
 unfold K6
 have n1 := hs.1
 refine Q4 (fun (z : List d8 × Int) H' => 0 ≤ z.2 ∧ z.2 ≤ xs.length ∧ H' = H ∧ z.1 = (xs.take z.2.toNat).map fun x => d8.M3 ⟨x⟩) (fun z => (xs.length - z.2).toNat) ⟨Int.le_refl _, by simp, rfl, by simp⟩ ?_
 rintro ⟨l, i⟩ H1 next ⟨i0, i1, rfl, hl⟩ hn
 dsimp only at i0 i1 hl ⊢
 unfold C8
 refine ⟨fun hc => ?_, fun hc => ?_⟩
 ·obtain ⟨x, hx, hE⟩ := hs.get i0 hc
  have hlt := W9 hx
  refine ⟨i0, hc, x, hE, a8L _ ?_⟩
  unfold a3H
  refine ⟨?_, ?_⟩
  ·rw [hl, List.length_map, List.length_take]; simp only [big] at hb; simp only [List.length_cons, List.length_nil]; omega
  ·rw [a2L i0 (by simp only [big] at hb; omega)]
   refine hn _ _ ⟨by dsimp only; omega, by dsimp only; omega, rfl, ?_⟩ (by dsimp only; omega)
   dsimp only
   rw [show (i + 1).toNat = i.toNat + 1 by omega, a5D hx, List.map_append, ← hl]; rfl
 ·unfold C7
  intro ss H2 l2 hss hc2
  refine h ss H2 l2 ?_
  rw [hl, List.take_of_length_le (by omega)] at hss; exact hss
theorem a8g {s : Sl} {xs : List g5} (hs : SlH H 6 l8 s xs) (hb : xs.length ≤ big) {K : Sl → Hp → Prop} (h : ∀ (r : Sl) (H' : Hp), Hle H H' → SlH H' 1 v7 r (xs.map fun x => d8.J0 ⟨x⟩) → K r H') : B2 s H K := by
 refine a0E _ ?_
 unfold K7
 have n1 := hs.1
 refine Q4 (fun (z : List d8 × Int) H' => 0 ≤ z.2 ∧ z.2 ≤ xs.length ∧ H' = H ∧ z.1 = (xs.take z.2.toNat).map fun x => d8.J0 ⟨x⟩) (fun z => (xs.length - z.2).toNat) ⟨Int.le_refl _, by simp, rfl, by simp⟩ ?_
 rintro ⟨l, i⟩ H1 next ⟨i0, i1, rfl, hl⟩ hn
 dsimp only at i0 i1 hl ⊢
 unfold D1
 refine ⟨fun hc => ?_, fun hc => ?_⟩
 ·obtain ⟨x, hx, hE⟩ := hs.get i0 hc
  have hlt := W9 hx
  refine ⟨i0, hc, x, hE, a8M _ ?_⟩
  unfold a3I
  refine ⟨?_, ?_⟩
  ·rw [hl, List.length_map, List.length_take]; simp only [big] at hb; simp only [List.length_cons, List.length_nil]; omega
  ·rw [a2L i0 (by simp only [big] at hb; omega)]
   refine hn _ _ ⟨by dsimp only; omega, by dsimp only; omega, rfl, ?_⟩ (by dsimp only; omega)
   dsimp only
   rw [show (i + 1).toNat = i.toNat + 1 by omega, a5D hx, List.map_append, ← hl]; rfl
 ·unfold C9
  intro ss H2 l2 hss hc2
  refine h ss H2 l2 ?_
  rw [hl, List.take_of_length_le (by omega)] at hss; exact hss
theorem b0K {s : Sl} {xs : List f8} (hs : SlH H 4 g8 s xs) (hb : xs.length ≤ big) {K : Sl → Hp → Prop} (h : ∀ (r : Sl) (H' : Hp), Hle H H' → SlH H' 1 v7 r (xs.map fun x => d8.N2 ⟨x⟩) → K r H') : E0 s H K := by
 refine a0G _ ?_
 unfold K8
 have n1 := hs.1
 refine Q4 (fun (z : List d8 × Int) H' => 0 ≤ z.2 ∧ z.2 ≤ xs.length ∧ H' = H ∧ z.1 = (xs.take z.2.toNat).map fun x => d8.N2 ⟨x⟩) (fun z => (xs.length - z.2).toNat) ⟨Int.le_refl _, by simp, rfl, by simp⟩ ?_
 rintro ⟨l, i⟩ H1 next ⟨i0, i1, rfl, hl⟩ hn
 dsimp only at i0 i1 hl ⊢
 unfold D3
 refine ⟨fun hc => ?_, fun hc => ?_⟩
 ·obtain ⟨x, hx, hE⟩ := hs.get i0 hc
  have hlt := W9 hx
  refine ⟨i0, hc, x, hE, a8O _ ?_⟩
  unfold a3L
  refine ⟨?_, ?_⟩
  ·rw [hl, List.length_map, List.length_take]; simp only [big] at hb; simp only [List.length_cons, List.length_nil]; omega
  ·rw [a2L i0 (by simp only [big] at hb; omega)]
   refine hn _ _ ⟨by dsimp only; omega, by dsimp only; omega, rfl, ?_⟩ (by dsimp only; omega)
   dsimp only
   rw [show (i + 1).toNat = i.toNat + 1 by omega, a5D hx, List.map_append, ← hl]; rfl
 ·unfold D2
  intro ss H2 l2 hss hc2
  refine h ss H2 l2 ?_
  rw [hl, List.take_of_length_le (by omega)] at hss; exact hss
theorem a8h {s : Sl} {xs : List b9} (hs : SlH H 4 d9 s xs) (hb : xs.length ≤ big) {K : Sl → Hp → Prop} (h : ∀ (r : Sl) (H' : Hp), Hle H H' → SlH H' 1 v7 r (xs.map fun x => d8.G9 ⟨x⟩) → K r H') : B4 s H K := by
 refine a0C _ ?_
 unfold K5
 have n1 := hs.1
 refine Q4 (fun (z : List d8 × Int) H' => 0 ≤ z.2 ∧ z.2 ≤ xs.length ∧ H' = H ∧ z.1 = (xs.take z.2.toNat).map fun x => d8.G9 ⟨x⟩) (fun z => (xs.length - z.2).toNat) ⟨Int.le_refl _, by simp, rfl, by simp⟩ ?_
 rintro ⟨l, i⟩ H1 next ⟨i0, i1, rfl, hl⟩ hn
 dsimp only at i0 i1 hl ⊢
 unfold C6
 refine ⟨fun hc => ?_, fun hc => ?_⟩
 ·obtain ⟨x, hx, hE⟩ := hs.get i0 hc
  have hlt := W9 hx
  refine ⟨i0, hc, x, hE, a8T _ ?_⟩
  unfold a3O
  refine ⟨?_, ?_⟩
  ·rw [hl, List.length_map, List.length_take]; simp only [big] at hb; simp only [List.length_cons, List.length_nil]; omega
  ·rw [a2L i0 (by simp only [big] at hb; omega)]
   refine hn _ _ ⟨by dsimp only; omega, by dsimp only; omega, rfl, ?_⟩ (by dsimp only; omega)
   dsimp only
   rw [show (i + 1).toNat = i.toNat + 1 by omega, a5D hx, List.map_append, ← hl]; rfl
 ·unfold C5
  intro ss H2 l2 hss hc2
  refine h ss H2 l2 ?_
  rw [hl, List.take_of_length_le (by omega)] at hss; exact hss
theorem b3s (a : Option Addr) (n c : Nat) : Pu Tryz.prog (xBuiltin .cap #[128] 3 [false] [.slice a n c]) (.int .i64 (c : Int)) := by
 have e' : Program.elem Tryz.prog 128 = 131 := by simp [Program.elem, Tryz.underlying128]
 have : xBuiltin .cap #[128] 3 [false] [.slice a n c] = xV (Builtin.cap_ #[128] 3 #[.slice a n c]) := rfl
 rw [this]
 exact Pu.ok fun w => run_cap_slice (P := Tryz.prog) (w := w) 128 3 a n c (by rw [e']; exact Tryz.underlying128)
theorem c3b {n : Int} (h0 : 0 ≤ n) (hb : n * 17 ≤ 140737488355328) {K : List d8 → Hp → Prop} (h : K [] H) : S6 n H K := by
 intro w I
 refine c1N ?_
 unfold c4J
 refine z8 fun j1 hx1 => ?_
 refine a7 (Z8 _ _ _ _ _ _) ?_
 refine a1h (fun c => ?_) (fun c => ?_)
 ·have := of_decide_eq_true c; omega
 refine hx1 _ _ ?_
 unfold b6o
 intro _
 refine z8 fun j2 hx2 => ?_
 refine a7 (b3s _ _ _) ?_
 refine a7 (a7c _ _ _) ?_
 refine a7 (b8h _ _ _ _ _ _) ?_
 refine a7 (b8h _ _ _ _ _ _) ?_
 rw [show IntKind.wrap .i64 (n - IntKind.wrap .i64 (((0 : Nat) : Int) - ((0 : Nat) : Int))) = n by
  rw [show IntKind.wrap .i64 (((0 : Nat) : Int) - ((0 : Nat) : Int)) = 0 by decide, Int.sub_zero]; exact U4 ⟨by omega, by omega⟩]
 refine a7 (a4n _ _ _ _ _ _) ?_
 refine a1h (fun c => ?_) (fun c => ?_)
 ·have hp := of_decide_eq_true c
  refine a7 (b3s _ _ _) ?_
  refine a7 (b4a (e := 131) (sz := 1) Tryz.underlying128 Tryz.sizeOf131 (s := ⟨none, 0, 0⟩) (h := ((0 : Nat) : Int)) (by decide) (by decide)) ?_
  refine c3v (z := Value.nilIface) (bytes := 16) (kn := .i64) Tryz.underlying128 Tryz.underlying3 b6j (by kernel_rfl) (by kernel_rfl) (by kernel_rfl) (by kernel_rfl) (by decide) S0 U2 I hp hb fun g m F' w' hr I' => ?_
  refine a7 (a7c _ _ _) ?_
  refine a7 (b4a (e := 131) (sz := 1) Tryz.underlying128 Tryz.sizeOf131 (s := ⟨some ⟨g, 0, none⟩, n.toNat, m⟩) (h := ((0 : Nat) : Int)) (by decide) (by simp)) ?_
  refine hx2 _ _ ?_
  unfold b2l
  intro _
  refine ⟨H, _, I', [], ⟨some ⟨g, 0, none⟩, 0, m⟩, F', ?_, rfl, hr, h⟩
  simp [Sl.cut, Addr.add, nth]
 ·refine hx2 _ _ ?_
  unfold b2l
  intro _
  exact ⟨H, _, I.nil, [], ⟨none, 0, 0⟩, [], rfl, rfl, RowL.nil S0 U2, h⟩
theorem a9N {s : Sl} {ss : List Sl} {nss : List (List d8)} (hs : SlH H 1 csl s ss) (hr : z6 (SlH H 1 v7) ss nss) (hb : nss.flatten.length * 17 ≤ 140737488355328) (hss : ss.length ≤ big) {K : Sl → Hp → Prop}
  (h : ∀ (r : Sl) (H' : Hp), Hle H H' → SlH H' 1 v7 r nss.flatten → K r H') : D5 s H K := by
 refine a1P _ ?_
 unfold N6
 have n1 := hs.1; have r1 := hr.1
 refine Q4 (fun (z : Int × Int) H' => 0 ≤ z.2 ∧ z.2 ≤ ss.length ∧ H' = H ∧ z.1 = ((nss.take z.2.toNat).flatten.length : Int)) (fun z => (ss.length - z.2).toNat) ⟨Int.le_refl _, by simp, rfl, by simp⟩ ?_
 rintro ⟨q, i⟩ H1 next ⟨i0, i1, rfl, hq⟩ hn
 dsimp only at i0 i1 hq ⊢
 subst hq
 unfold G1
 refine ⟨fun hc => ?_, fun hc => ?_⟩
 ·obtain ⟨x, hx, hE⟩ := hs.get i0 hc
  obtain ⟨ns, hns, hS⟩ := hr.get hx
  have hlt := W9 hx
  have e1 := b3r hns
  have e2 := b3q nss (i.toNat + 1)
  have e3 : (nss.take (i.toNat + 1)).flatten.length = (nss.take i.toNat).flatten.length + ns.length := by rw [e1, List.length_append]
  have e4 : IntKind.wrap .i64 (((nss.take i.toNat).flatten.length : Int) + (x.n : Int)) = ((nss.take (i.toNat + 1)).flatten.length : Int) := by
   rw [U4 ⟨by omega, by have := hS.1; omega⟩]
   have := hS.1; omega
  refine ⟨i0, hc, x, hE, ?_⟩
  rw [e4]
  refine ⟨fun hneg => by omega, fun _ => ?_⟩
  unfold E9
  rw [a2L i0 (by simp only [big] at hss; omega)]
  refine hn _ _ ⟨by dsimp only; omega, by dsimp only; omega, rfl, ?_⟩ (by dsimp only; omega)
  dsimp only
  rw [show (i + 1).toNat = i.toNat + 1 by omega]
 ·rw [List.take_of_length_le (by omega)]
  clear hn next
  unfold G0
  refine c3b (by omega) (by omega) ?_
  refine Q4 (fun (z : List d8 × Int) H' => 0 ≤ z.2 ∧ z.2 ≤ ss.length ∧ H' = H1 ∧ z.1 = (nss.take z.2.toNat).flatten) (fun z => (ss.length - z.2).toNat) ⟨Int.le_refl _, by simp, rfl, by simp⟩ ?_
  rintro ⟨q, j⟩ H2 next ⟨j0, j1, rfl, hq⟩ hn
  dsimp only at j0 j1 hq ⊢
  subst hq
  unfold F6
  refine ⟨fun hc => ?_, fun hc => ?_⟩
  ·obtain ⟨x, hx, hE⟩ := hs.get j0 hc
   obtain ⟨ns, hns, hS⟩ := hr.get hx
   have hlt := W9 hx
   have e1 := b3r hns
   have e2 := b3q nss (j.toNat + 1)
   have e3 : (nss.take (j.toNat + 1)).flatten.length = (nss.take j.toNat).flatten.length + ns.length := by rw [e1, List.length_append]
   refine ⟨j0, hc, x, hE, ns, hS, by omega, ?_⟩
   rw [a2L j0 (by simp only [big] at hss; omega), ← e1]
   refine hn _ _ ⟨by dsimp only; omega, by dsimp only; omega, rfl, ?_⟩ (by dsimp only; omega)
   dsimp only
   rw [show (j + 1).toNat = j.toNat + 1 by omega]
  ·unfold F0
   intro r H3 l3 hS _
   rw [List.take_of_length_le (by omega)] at hS
   exact h r H3 l3 hS
def nameL : Lab → ByteArray × Bool
 | .decl _ s => (s, true)
 | .stmt k s _ _ _ _ => (s, decide (k = 1) || decide (k = 2))
 | .cond .. => (⟨#[]⟩, false)
 | .expr k _ s _ => (s, decide (k = 2) || decide (k = 4))
theorem b6W {x : d8} {t : PT} (hx : NH H x t) {K : ByteArray → Bool → Hp → Prop} (h : K (nameL t.lab).1 (nameL t.lab).2 H) : a0Y x H K := by
 refine a9C _ ?_
 unfold a4v
 cases x with
 | nil => exact hx.elim
 | M3 y =>
  cases (show t = dT y.X0 from hx)
  exact ⟨fun _ => h, fun q => (by cases q)⟩
 | J0 y =>
  cases (show SH H y.i8 t from hx)
  exact ⟨fun q => (by cases q), fun _ => ⟨fun _ => h, fun q => (by cases q)⟩⟩
 | G9 y =>
  cases (show EH H y.u4 t from hx)
  exact ⟨fun q => (by cases q), fun _ => ⟨fun q => (by cases q), fun _ => ⟨fun _ => h, fun q => (by cases q)⟩⟩⟩
 | N2 y =>
  cases (show CH H y.r9 t from hx)
  exact ⟨fun q => (by cases q), fun _ => ⟨fun q => (by cases q), fun _ => ⟨fun q => (by cases q), fun _ => h⟩⟩⟩
def formE (k n : Int) (s : ByteArray) (a : Int) : Bool :=
 if (((!decide (k = 1)) && (!decide (n = 0))) || ((!(decide (k = 2) || decide (k = 4))) && (!decide (s = ⟨#[]⟩)))) = true then false
 else if k = 1 then decide (0 ≤ n) && decide (a = 0)
 else if k = 2 ∨ k = 3 then decide (a = 0)
 else if k = 4 ∨ k = 5 then decide (a = 1)
 else if k = 6 ∨ k = 7 ∨ k = 8 ∨ k = 9 ∨ k = 10 then decide (a = 2) else false
def formC (k op e p : Int) : Bool :=
 if k = 3 then (decide (1 ≤ op) && decide (op ≤ 6)) && decide (e = 2 ∧ p = 0)
 else if op = 0 then
  (if k = 1 ∨ k = 2 then decide (e = 0 ∧ p = 0) else if k = 4 then decide (e = 0 ∧ p = 1) else if k = 5 ∨ k = 6 then decide (e = 0 ∧ p = 2) else false)
 else false
def formS (k : Int) (s : ByteArray) (e c t f : Int) : Bool :=
 if k = 1 then !decide (0 < t + f) && decide (e = 1 ∧ c = 0)
 else if k = 2 then !decide (0 < t + f) && decide (e = 2 ∧ c = 0)
 else if k = 3 then decide (s = ⟨#[]⟩) && decide (e = 0 ∧ c = 1)
 else if k = 4 then decide (s = ⟨#[]⟩) && decide (f = 0) && decide (e = 0 ∧ c = 1)
 else if k = 5 ∨ k = 6 then (decide (s = ⟨#[]⟩) && !decide (0 < t + f)) && decide (e = 0 ∧ c = 1)
 else if k = 7 then (decide (s = ⟨#[]⟩) && !decide (0 < t + f)) && decide (e = 0 ∧ c = 0)
 else false
def formL : Lab → Bool
 | .decl z _ => decide (0 ≤ z) && decide (z ≤ 2147483647)
 | .stmt k s e c t f => formS k s e c t f
 | .cond k op e p => formC k op e p
 | .expr k n s a => formE k n s a
theorem b0t {α : Type} {b : Bool} {q : Prop} [Decidable q] (hb : b = true ↔ q) (x y : α) : (if b = true then x else y) = if q then x else y := by
 by_cases hq : q
 ·rw [if_pos (hb.2 hq), if_pos hq]
 ·rw [if_neg (fun e => hq (hb.1 e)), if_neg hq]
theorem ej3 {a : Int} {b : Bool} {x : N0} {K : Bool → Hp → Prop} (h : K (if b = true then decide (a = 2) else false) H) : E8 a b x H K := by
 unfold E8
 cases b
 ·exact ⟨fun q => (by cases q), fun _ => h⟩
 ·exact ⟨fun _ => h, fun q => (by cases q)⟩
theorem ej2 {a k : Int} {b : Bool} {x : N0} {K : Bool → Hp → Prop} (h : K (if b = true then decide (a = 1) else if k = 6 ∨ k = 7 ∨ k = 8 ∨ k = 9 ∨ k = 10 then decide (a = 2) else false) H) : P1 a k b x H K := by
 unfold P1
 cases b
 ·refine ⟨fun q => (by cases q), fun _ => ?_⟩
  rw [if_neg (by decide)] at h
  refine ⟨fun e => ej3 ?_, fun e1 => ⟨fun e => ej3 ?_, fun e2 => ⟨fun e => ej3 ?_, fun e3 => ⟨fun e => ej3 ?_, fun e4 => ej3 ?_⟩⟩⟩⟩ <;>
   (rw [b0t (q := k = 6 ∨ k = 7 ∨ k = 8 ∨ k = 9 ∨ k = 10) (by rw [decide_eq_true_eq]; omega)]; exact h)
 ·exact ⟨fun _ => h, fun q => (by cases q)⟩
theorem ej1 {a k : Int} {b : Bool} {x : N0} {K : Bool → Hp → Prop} (h : K (if b = true then decide (a = 0) else if k = 4 ∨ k = 5 then decide (a = 1) else if k = 6 ∨ k = 7 ∨ k = 8 ∨ k = 9 ∨ k = 10 then decide (a = 2) else false) H) : P2 a k b x H K := by
 unfold P2
 cases b
 ·refine ⟨fun q => (by cases q), fun _ => ?_⟩
  rw [if_neg (by decide)] at h
  refine ⟨fun e => ej2 ?_, fun e1 => ej2 ?_⟩ <;>
   (rw [b0t (q := k = 4 ∨ k = 5) (by rw [decide_eq_true_eq]; omega)]; exact h)
 ·exact ⟨fun _ => h, fun q => (by cases q)⟩
theorem c0F {e : b9} {t : PT} (he : EH H e t) {K : Bool → Hp → Prop} (h : K (formL t.lab) H) : a2y ⟨e⟩ H K := by
 refine a7J _ ?_
 unfold a2D
 refine b6W (x := .G9 ⟨e⟩) (t := t) he ?_
 cases he with
 | @mk e xs ts hs hb hl hr =>
  have hn : e.P7.n = ts.length := by have := hs.1; omega
  change K (formE e.c8 e.J5 e.o9 (ts.length : Int)) H at h
  unfold formE at h
  dsimp only [PT.lab, nameL]
  rw [hn]
  generalize (ts.length : Int) = a at h ⊢
  refine ⟨fun hg => by rw [if_pos hg] at h; exact h, fun hg => ?_⟩
  rw [if_neg (by rw [hg]; decide)] at h
  refine ⟨fun e1 => by rw [if_pos e1] at h; exact h, fun e1 => ?_⟩
  rw [if_neg e1] at h
  refine ⟨fun e2 => ej1 ?_, fun e2 => ej1 ?_⟩ <;>
   (rw [b0t (q := e.c8 = 2 ∨ e.c8 = 3) (by rw [decide_eq_true_eq]; omega)]; exact h)
theorem cj2 {b : Bool} {y : K0} {x : S9} {K : Bool → Hp → Prop} (h : K (if b = true then decide (y.fexprs = 0 ∧ y.fparts = 2) else false) H) : P3 b y x H K := by
 unfold P3
 cases b
 ·exact ⟨fun q => (by cases q), fun _ => h⟩
 ·exact ⟨fun _ => h, fun q => (by cases q)⟩
theorem cj1 {k : Int} {b : Bool} {y : K0} {x : S9} {K : Bool → Hp → Prop} (h : K (if b = true then decide (y.fexprs = 0 ∧ y.fparts = 0) else if k = 4 then decide (y.fexprs = 0 ∧ y.fparts = 1) else if k = 5 ∨ k = 6 then decide (y.fexprs = 0 ∧ y.fparts = 2) else false) H) : P4 k b y x H K := by
 unfold P4
 cases b
 ·refine ⟨fun q => (by cases q), fun _ => ?_⟩
  rw [if_neg (by decide)] at h
  refine ⟨fun e => by rw [if_pos e] at h; exact h, fun e => ?_⟩
  rw [if_neg e] at h
  refine ⟨fun e2 => cj2 ?_, fun e2 => cj2 ?_⟩ <;>
   (rw [b0t (q := k = 5 ∨ k = 6) (by rw [decide_eq_true_eq]; omega)]; exact h)
 ·exact ⟨fun _ => h, fun q => (by cases q)⟩
theorem c0G {e : f8} {t : PT} (he : CH H e t) {K : Bool → Hp → Prop} (h : K (formL t.lab) H) : a2z ⟨e⟩ H K := by
 refine a7L _ ?_
 unfold a2F
 cases he with
 | @mk e xs ts ys us hs hb hr hc hcb hcl hcr =>
  have hn : e.m7.n = ts.length := by have := hs.1; have := hr.1; omega
  have hm : e.E4.n = us.length := by have := hc.1; omega
  change K (formC e.c8 e.fOp (ts.length : Int) (us.length : Int)) H at h
  unfold formC at h
  dsimp only
  rw [hn, hm]
  generalize (ts.length : Int) = a at h ⊢
  generalize (us.length : Int) = b at h ⊢
  refine ⟨fun e1 => by rw [if_pos e1] at h; exact h, fun e1 => ?_⟩
  rw [if_neg e1] at h
  refine ⟨fun e2 => by rw [if_neg e2] at h; exact h, fun e2 => ?_⟩
  rw [if_pos e2] at h
  refine ⟨fun e3 => cj1 ?_, fun e3 => cj1 ?_⟩ <;>
   (rw [b0t (q := e.c8 = 1 ∨ e.c8 = 2) (by rw [decide_eq_true_eq]; omega)]; exact h)
theorem sj1 {v : Bool} {k : Int} {b : Bool} {y : Q0} {x : T0} {K : Bool → Hp → Prop} (h : K (if b = true then v && decide (y.fexprs = 0 ∧ y.fconds = 1) else if k = 7 then v && decide (y.fexprs = 0 ∧ y.fconds = 0) else false) H) : P5 v k b y x H K := by
 unfold P5
 cases b
 ·refine ⟨fun q => (by cases q), fun _ => ?_⟩
  rw [if_neg (by decide)] at h
  exact ⟨fun e => by rw [if_pos e] at h; exact h, fun e => by rw [if_neg e] at h; exact h⟩
 ·exact ⟨fun _ => h, fun q => (by cases q)⟩
theorem c0H {e : g5} {t : PT} (he : SH H e t) {K : Bool → Hp → Prop} (h : K (formL t.lab) H) : a2A ⟨e⟩ H K := by
 refine a7M _ ?_
 unfold a2G
 cases he with
 | @mk e xs ts ys us zs bs vs ws hs hb hr hc hcb hcr ha hab hal har hbs hbb hbl hbr =>
  have n1 : e.m7.n = ts.length := by have := hs.1; have := hr.1; omega
  have n2 : e.A6.n = us.length := by have := hc.1; have := hcr.1; omega
  have n3 : e.L5.n = vs.length := by have := ha.1; omega
  have n4 : e.I0.n = ws.length := by have := hbs.1; omega
  change K (formS e.c8 e.o9 (ts.length : Int) (us.length : Int) (vs.length : Int) (ws.length : Int)) H at h
  unfold formS at h
  dsimp only
  rw [n1, n2, n3, n4, U4 (a := (vs.length : Int) + (ws.length : Int)) ⟨by omega, by simp only [big] at hab hbb; omega⟩]
  generalize (ts.length : Int) = a at h ⊢
  generalize (us.length : Int) = b at h ⊢
  generalize (vs.length : Int) = c at h ⊢
  generalize (ws.length : Int) = d at h ⊢
  refine ⟨fun e1 => by rw [if_pos e1] at h; exact h, fun e1 => ?_⟩
  rw [if_neg e1] at h
  refine ⟨fun e1 => by rw [if_pos e1] at h; exact h, fun e2 => ?_⟩
  rw [if_neg e2] at h
  refine ⟨fun e1 => by rw [if_pos e1] at h; exact h, fun e3 => ?_⟩
  rw [if_neg e3] at h
  refine ⟨fun e1 => by rw [if_pos e1] at h; exact h, fun e4 => ?_⟩
  rw [if_neg e4] at h
  refine ⟨fun e5 => sj1 ?_, fun e5 => sj1 ?_⟩ <;>
   (rw [b0t (q := e.c8 = 5 ∨ e.c8 = 6) (by rw [decide_eq_true_eq]; omega)]; exact h)
theorem c3c {x : d8} {t : PT} (hx : NH H x t) {K : Bool → Hp → Prop} (h : K (formL t.lab) H) : a3F x H K := by
 cases x with
 | nil => exact hx.elim
 | G9 y => exact c0F hx h
 | N2 y => exact c0G hx h
 | J0 y => exact c0H hx h
 | M3 y =>
  cases (show t = dT y.X0 from hx)
  refine a7K _ ?_
  unfold a2E
  exact h
theorem c0I {x : d8} {t : PT} (hx : NH H x t) {K : Sl → Hp → Prop} (h : ∀ (r : Sl) (H' : Hp) (ns : List d8), Hle H H' → SlH H' 1 v7 r ns → z6 (NH H') ns t.kids → t.kids.length ≤ 4 * big → K r H') : a3o x H K := by
 cases x with
 | nil => exact hx.elim
 | M3 y =>
  cases (show t = dT y.X0 from hx)
  refine a7C _ ?_
  unfold a2j
  exact h _ _ [] (Hle.refl _) (SlH.nil _ _ _) z6.nil (Nat.zero_le _)
 | G9 y =>
  have hx : EH H y.u4 t := hx
  refine a7A _ ?_
  unfold a2h
  obtain ⟨e⟩ := y
  cases hx with
  | @mk e xs ts hs hb hl hr =>
   refine a8h hs hb fun r H' l hS => h r H' _ l hS ?_ ?_
   ·exact z6.map ⟨hl, fun i a b ha hb => EH.le l (hr i a b ha hb)⟩
   ·show ts.length ≤ _; omega
 | N2 y =>
  have hx : CH H y.r9 t := hx
  refine a7B _ ?_
  unfold a2i
  obtain ⟨e⟩ := y
  cases hx with
  | @mk e xs ts ys us hs hb hr hc hcb hcl hcr =>
   refine a8h hs hb fun r1 H1 l1 hS1 => ?_
   refine b0K (hc.le l1) hcb fun r2 H2 l2 hS2 => ?_
   intro s H3 l3 hS hcap
   have r0 := hr.1
   refine a9N hS (nss := [_, _]) ((z6.one (hS1.le (l2.trans l3))).app (z6.one (hS2.le l3))) ?_ (by simp [big]) fun r H4 l4 hS4 => ?_
   ·simp only [List.flatten_cons, List.flatten_nil, List.append_nil, List.length_append, List.length_map]; simp only [big] at hb hcb; omega
   simp only [List.flatten_cons, List.flatten_nil, List.append_nil] at hS4
   have l14 := l1.trans (l2.trans (l3.trans l4))
   refine h r H4 _ l14 hS4 ?_ ?_
   ·exact (z6.map (R := NH H4) (f := fun x => .G9 ⟨x⟩) (hr.mono fun _ _ => EH.le l14)).app (z6.map (R := NH H4) (f := fun x => .N2 ⟨x⟩) ⟨hcl, fun i a b ha hb => CH.le l14 (hcr i a b ha hb)⟩)
   ·show (ts ++ us).length ≤ _; rw [List.length_append]; omega
 | J0 y =>
  have hx : SH H y.i8 t := hx
  refine a7x _ ?_
  unfold a2d
  obtain ⟨e⟩ := y
  cases hx with
  | @mk e xs ts ys us zs bs vs ws hs hb hr hc hcb hcr ha hab hal har hbs hbb hbl hbr =>
   refine b0K hc hcb fun r1 H1 l1 hS1 => ?_
   refine a8h (hs.le l1) hb fun r2 H2 l2 hS2 => ?_
   refine a8g (ha.le (l1.trans l2)) hab fun r3 H3 l3 hS3 => ?_
   refine a8g (hbs.le (l1.trans (l2.trans l3))) hbb fun r4 H4 l4 hS4 => ?_
   intro s H5 l5 hS hcap
   have r0 := hr.1
   have r0' := hcr.1
   refine a9N hS (nss := [_, _, _, _]) ((z6.one (hS1.le (l2.trans (l3.trans (l4.trans l5))))).app ((z6.one (hS2.le (l3.trans (l4.trans l5)))).app ((z6.one (hS3.le (l4.trans l5))).app (z6.one (hS4.le l5))))) ?_ (by simp [big]) fun r H6 l6 hS6 => ?_
   ·simp only [List.flatten_cons, List.flatten_nil, List.append_nil, List.length_append, List.length_map]; simp only [big] at hb hcb hab hbb; omega
   simp only [List.flatten_cons, List.flatten_nil, List.append_nil] at hS6
   have l16 := l1.trans (l2.trans (l3.trans (l4.trans (l5.trans l6))))
   refine h r H6 _ l16 hS6 ?_ ?_
   ·exact (z6.map (R := NH H6) (f := fun x => .N2 ⟨x⟩) (hcr.mono fun _ _ => CH.le l16)).app ((z6.map (R := NH H6) (f := fun x => .G9 ⟨x⟩) (hr.mono fun _ _ => EH.le l16)).app ((z6.map (R := NH H6) (f := fun x => .J0 ⟨x⟩) ⟨hal, fun i a b ha hb => SH.le l16 (har i a b ha hb)⟩).app (z6.map (R := NH H6) (f := fun x => .J0 ⟨x⟩) ⟨hbl, fun i a b ha hb => SH.le l16 (hbr i a b ha hb)⟩)))
   ·show (us ++ (ts ++ (vs ++ ws))).length ≤ _; simp only [List.length_append]; omega
end
end Go.Proofs.YthklmeihgmcljaaGreatDoor
