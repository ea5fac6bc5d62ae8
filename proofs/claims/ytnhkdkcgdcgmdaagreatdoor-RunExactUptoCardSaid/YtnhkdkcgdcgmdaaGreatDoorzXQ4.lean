/- Nodes: a list's nodes, lists put together; a node's own form, its name, its parts. Contracts off the printed formulas. -/
import Derived.Test.YtnhkdkcgdcgmdaaGreatDoorzXQ3
namespace Go.Proofs.YtnhkdkcgdcgmdaaGreatDoor
open Go.RowKit
set_option maxRecDepth 100000
set_option maxHeartbeats 2000000
def NH (H : Hp) : f7 → PT → Prop
 | .O6 y, t => t = dT y.a1y
 | .L5 y, t => SH H y.m4 t
 | .P8 y, t => CH H y.u9 t
 | .L1 y, t => EH H y.z6 t
 | .nil, _ => False
theorem NH.le {H H' : Hp} (l : Hle H H') {x : f7} {t : PT} (h : NH H x t) : NH H' x t := by
 cases x with
 | nil => exact h
 | O6 y => exact h
 | L5 y => exact SH.le l h
 | P8 y => exact CH.le l h
 | L1 y => exact EH.le l h
theorem b8D {α : Type} (l : List (List α)) (i : Nat) : (l.take i).flatten.length ≤ l.flatten.length := by
 have : l.flatten = (l.take i).flatten ++ (l.drop i).flatten := by rw [← List.flatten_append, List.take_append_drop]
 rw [this, List.length_append]; omega
theorem b8E {α : Type} {l : List (List α)} {i : Nat} {x : List α} (h : l[i]? = some x) : (l.take (i + 1)).flatten = (l.take i).flatten ++ x := by
 rw [N5 h, List.flatten_append]; simp
section
variable {H : Hp}
theorem c1M {s : Sl} {xs : List i8} (hs : SlH H 2 o7 s xs) (hb : xs.length ≤ big) {K : Sl → Hp → Prop} (h : ∀ (r : Sl) (H' : Hp), Hle H H' → SlH H' 1 z7 r (xs.map fun x => f7.O6 ⟨x⟩) → K r H') : M5 s H K := by
 refine a3e _ ?_
 unfold M6
 have n1 := hs.1
 refine T9 (fun (z : List f7 × Int) H' => 0 ≤ z.2 ∧ z.2 ≤ xs.length ∧ H' = H ∧ z.1 = (xs.take z.2.toNat).map fun x => f7.O6 ⟨x⟩) (fun z => (xs.length - z.2).toNat) ⟨Int.le_refl _, by simp, rfl, by simp⟩ ?_
 rintro ⟨l, i⟩ H1 next ⟨i0, i1, rfl, hl⟩ hn
 dsimp only at i0 i1 hl ⊢
 unfold D2
 refine ⟨fun hc => ?_, fun hc => ?_⟩
 ·obtain ⟨x, hx, hE⟩ := hs.get i0 hc
  have hlt := s8 hx
  refine ⟨i0, hc, x, hE, b3B _ ?_⟩
  unfold a6j
  refine ⟨?_, ?_⟩
  ·rw [hl, List.length_map, List.length_take]; simp only [big] at hb; simp only [List.length_cons, List.length_nil]; omega
  ·rw [y9 i0 (by simp only [big] at hb; omega)]
   refine hn _ _ ⟨by dsimp only; omega, by dsimp only; omega, rfl, ?_⟩ (by dsimp only; omega)
   dsimp only
   rw [show (i + 1).toNat = i.toNat + 1 by omega, N5 hx, List.map_append, ← hl]; rfl
 ·unfold D1
  intro ss H2 l2 hss hc2
  refine h ss H2 l2 ?_
  rw [hl, List.take_of_length_le (by omega)] at hss; exact hss
theorem b2x {s : Sl} {xs : List m7} (hs : SlH H 6 f8 s xs) (hb : xs.length ≤ big) {K : Sl → Hp → Prop} (h : ∀ (r : Sl) (H' : Hp), Hle H H' → SlH H' 1 z7 r (xs.map fun x => f7.L5 ⟨x⟩) → K r H') : B1 s H K := by
 refine a3f _ ?_
 unfold M7
 have n1 := hs.1
 refine T9 (fun (z : List f7 × Int) H' => 0 ≤ z.2 ∧ z.2 ≤ xs.length ∧ H' = H ∧ z.1 = (xs.take z.2.toNat).map fun x => f7.L5 ⟨x⟩) (fun z => (xs.length - z.2).toNat) ⟨Int.le_refl _, by simp, rfl, by simp⟩ ?_
 rintro ⟨l, i⟩ H1 next ⟨i0, i1, rfl, hl⟩ hn
 dsimp only at i0 i1 hl ⊢
 unfold D4
 refine ⟨fun hc => ?_, fun hc => ?_⟩
 ·obtain ⟨x, hx, hE⟩ := hs.get i0 hc
  have hlt := s8 hx
  refine ⟨i0, hc, x, hE, b3z _ ?_⟩
  unfold a6i
  refine ⟨?_, ?_⟩
  ·rw [hl, List.length_map, List.length_take]; simp only [big] at hb; simp only [List.length_cons, List.length_nil]; omega
  ·rw [y9 i0 (by simp only [big] at hb; omega)]
   refine hn _ _ ⟨by dsimp only; omega, by dsimp only; omega, rfl, ?_⟩ (by dsimp only; omega)
   dsimp only
   rw [show (i + 1).toNat = i.toNat + 1 by omega, N5 hx, List.map_append, ← hl]; rfl
 ·unfold D3
  intro ss H2 l2 hss hc2
  refine h ss H2 l2 ?_
  rw [hl, List.take_of_length_le (by omega)] at hss; exact hss
theorem b5w {s : Sl} {xs : List o0} (hs : SlH H 4 h9 s xs) (hb : xs.length ≤ big) {K : Sl → Hp → Prop} (h : ∀ (r : Sl) (H' : Hp), Hle H H' → SlH H' 1 z7 r (xs.map fun x => f7.P8 ⟨x⟩) → K r H') : E9 s H K := by
 refine a3i _ ?_
 unfold M9
 have n1 := hs.1
 refine T9 (fun (z : List f7 × Int) H' => 0 ≤ z.2 ∧ z.2 ≤ xs.length ∧ H' = H ∧ z.1 = (xs.take z.2.toNat).map fun x => f7.P8 ⟨x⟩) (fun z => (xs.length - z.2).toNat) ⟨Int.le_refl _, by simp, rfl, by simp⟩ ?_
 rintro ⟨l, i⟩ H1 next ⟨i0, i1, rfl, hl⟩ hn
 dsimp only at i0 i1 hl ⊢
 unfold D8
 refine ⟨fun hc => ?_, fun hc => ?_⟩
 ·obtain ⟨x, hx, hE⟩ := hs.get i0 hc
  have hlt := s8 hx
  refine ⟨i0, hc, x, hE, b3v _ ?_⟩
  unfold a6g
  refine ⟨?_, ?_⟩
  ·rw [hl, List.length_map, List.length_take]; simp only [big] at hb; simp only [List.length_cons, List.length_nil]; omega
  ·rw [y9 i0 (by simp only [big] at hb; omega)]
   refine hn _ _ ⟨by dsimp only; omega, by dsimp only; omega, rfl, ?_⟩ (by dsimp only; omega)
   dsimp only
   rw [show (i + 1).toNat = i.toNat + 1 by omega, N5 hx, List.map_append, ← hl]; rfl
 ·unfold D7
  intro ss H2 l2 hss hc2
  refine h ss H2 l2 ?_
  rw [hl, List.take_of_length_le (by omega)] at hss; exact hss
theorem b2y {s : Sl} {xs : List m2} (hs : SlH H 4 f4 s xs) (hb : xs.length ≤ big) {K : Sl → Hp → Prop} (h : ∀ (r : Sl) (H' : Hp), Hle H H' → SlH H' 1 z7 r (xs.map fun x => f7.L1 ⟨x⟩) → K r H') : B2 s H K := by
 refine a3h _ ?_
 unfold M8
 have n1 := hs.1
 refine T9 (fun (z : List f7 × Int) H' => 0 ≤ z.2 ∧ z.2 ≤ xs.length ∧ H' = H ∧ z.1 = (xs.take z.2.toNat).map fun x => f7.L1 ⟨x⟩) (fun z => (xs.length - z.2).toNat) ⟨Int.le_refl _, by simp, rfl, by simp⟩ ?_
 rintro ⟨l, i⟩ H1 next ⟨i0, i1, rfl, hl⟩ hn
 dsimp only at i0 i1 hl ⊢
 unfold D6
 refine ⟨fun hc => ?_, fun hc => ?_⟩
 ·obtain ⟨x, hx, hE⟩ := hs.get i0 hc
  have hlt := s8 hx
  refine ⟨i0, hc, x, hE, b3u _ ?_⟩
  unfold a6e
  refine ⟨?_, ?_⟩
  ·rw [hl, List.length_map, List.length_take]; simp only [big] at hb; simp only [List.length_cons, List.length_nil]; omega
  ·rw [y9 i0 (by simp only [big] at hb; omega)]
   refine hn _ _ ⟨by dsimp only; omega, by dsimp only; omega, rfl, ?_⟩ (by dsimp only; omega)
   dsimp only
   rw [show (i + 1).toNat = i.toNat + 1 by omega, N5 hx, List.map_append, ← hl]; rfl
 ·unfold D5
  intro ss H2 l2 hss hc2
  refine h ss H2 l2 ?_
  rw [hl, List.take_of_length_le (by omega)] at hss; exact hss
theorem b8F (a : Option Addr) (n c : Nat) : Pu Tryz.prog (xBuiltin .cap #[137] 3 [false] [.slice a n c]) (.int .i64 (c : Int)) := by
 have e' : Program.elem Tryz.prog 137 = 150 := by simp [Program.elem, Tryz.underlying137]
 have : xBuiltin .cap #[137] 3 [false] [.slice a n c] = xV (Builtin.cap_ #[137] 3 #[.slice a n c]) := rfl
 rw [this]
 exact Pu.ok fun w => run_cap_slice (P := Tryz.prog) (w := w) 137 3 a n c (by rw [e']; exact Tryz.underlying137)
theorem c8T {n : Int} (h0 : 0 ≤ n) (hb : n * 17 ≤ 140737488355328) {K : List f7 → Hp → Prop} (h : K [] H) : U8 n H K := by
 intro w I
 refine c8o ?_
 unfold d1p
 refine r5 fun j1 hx1 => ?_
 refine a8 (r7 _ _ _ _ _ _) ?_
 refine V3 (fun c => ?_) (fun c => ?_)
 ·have := of_decide_eq_true c; omega
 refine hx1 _ _ ?_
 unfold c2k
 intro _
 refine r5 fun j2 hx2 => ?_
 refine a8 (b8F _ _ _) ?_
 refine a8 (b0l _ _ _) ?_
 refine a8 (a5s _ _ _ _ _ _) ?_
 refine a8 (a5s _ _ _ _ _ _) ?_
 rw [show IntKind.wrap .i64 (n - IntKind.wrap .i64 (((0 : Nat) : Int) - ((0 : Nat) : Int))) = n by
  rw [show IntKind.wrap .i64 (((0 : Nat) : Int) - ((0 : Nat) : Int)) = 0 by decide, Int.sub_zero]; exact K0 ⟨by omega, by omega⟩]
 refine a8 (Q2 _ _ _ _ _ _) ?_
 refine V3 (fun c => ?_) (fun c => ?_)
 ·have hp := of_decide_eq_true c
  refine a8 (b8F _ _ _) ?_
  refine a8 (b5E (e := 150) (sz := 1) Tryz.underlying137 Tryz.sizeOf150 (s := ⟨none, 0, 0⟩) (h := ((0 : Nat) : Int)) (by decide) (by decide)) ?_
  refine d0R (z := Value.nilIface) (bytes := 16) (kn := .i64) Tryz.underlying137 Tryz.underlying3 c2g (by kernel_rfl) (by kernel_rfl) (by kernel_rfl) (by kernel_rfl) (by decide) U1 a0g I hp hb fun g m F' w' hr I' => ?_
  refine a8 (b0l _ _ _) ?_
  refine a8 (b5E (e := 150) (sz := 1) Tryz.underlying137 Tryz.sizeOf150 (s := ⟨some ⟨g, 0, none⟩, n.toNat, m⟩) (h := ((0 : Nat) : Int)) (by decide) (by simp)) ?_
  refine hx2 _ _ ?_
  unfold b7k
  intro _
  refine ⟨H, _, I', [], ⟨some ⟨g, 0, none⟩, 0, m⟩, F', ?_, rfl, hr, h⟩
  simp [Sl.cut, Addr.add, nth]
 ·refine hx2 _ _ ?_
  unfold b7k
  intro _
  exact ⟨H, _, I.nil, [], ⟨none, 0, 0⟩, [], rfl, rfl, RowL.nil U1 a0g, h⟩
theorem b4s {s : Sl} {ss : List Sl} {nss : List (List f7)} (hs : SlH H 1 csl s ss) (hr : C0 (SlH H 1 z7) ss nss) (hb : nss.flatten.length * 17 ≤ 140737488355328) (hss : ss.length ≤ big) {K : Sl → Hp → Prop}
  (h : ∀ (r : Sl) (H' : Hp), Hle H H' → SlH H' 1 z7 r nss.flatten → K r H') : E1 s H K := by
 refine a4p _ ?_
 unfold Q0
 have n1 := hs.1; have r1 := hr.1
 refine T9 (fun (z : Int × Int) H' => 0 ≤ z.2 ∧ z.2 ≤ ss.length ∧ H' = H ∧ z.1 = ((nss.take z.2.toNat).flatten.length : Int)) (fun z => (ss.length - z.2).toNat) ⟨Int.le_refl _, by simp, rfl, by simp⟩ ?_
 rintro ⟨q, i⟩ H1 next ⟨i0, i1, rfl, hq⟩ hn
 dsimp only at i0 i1 hq ⊢
 subst hq
 unfold J0
 refine ⟨fun hc => ?_, fun hc => ?_⟩
 ·obtain ⟨x, hx, hE⟩ := hs.get i0 hc
  obtain ⟨ns, hns, hS⟩ := hr.get hx
  have hlt := s8 hx
  have e1 := b8E hns
  have e2 := b8D nss (i.toNat + 1)
  have e3 : (nss.take (i.toNat + 1)).flatten.length = (nss.take i.toNat).flatten.length + ns.length := by rw [e1, List.length_append]
  have e4 : IntKind.wrap .i64 (((nss.take i.toNat).flatten.length : Int) + (x.n : Int)) = ((nss.take (i.toNat + 1)).flatten.length : Int) := by
   rw [K0 ⟨by omega, by have := hS.1; omega⟩]
   have := hS.1; omega
  refine ⟨i0, hc, x, hE, ?_⟩
  rw [e4]
  refine ⟨fun hneg => by omega, fun _ => ?_⟩
  unfold G7
  rw [y9 i0 (by simp only [big] at hss; omega)]
  refine hn _ _ ⟨by dsimp only; omega, by dsimp only; omega, rfl, ?_⟩ (by dsimp only; omega)
  dsimp only
  rw [show (i + 1).toNat = i.toNat + 1 by omega]
 ·rw [List.take_of_length_le (by omega)]
  clear hn next
  unfold I0
  refine c8T (by omega) (by omega) ?_
  refine T9 (fun (z : List f7 × Int) H' => 0 ≤ z.2 ∧ z.2 ≤ ss.length ∧ H' = H1 ∧ z.1 = (nss.take z.2.toNat).flatten) (fun z => (ss.length - z.2).toNat) ⟨Int.le_refl _, by simp, rfl, by simp⟩ ?_
  rintro ⟨q, j⟩ H2 next ⟨j0, j1, rfl, hq⟩ hn
  dsimp only at j0 j1 hq ⊢
  subst hq
  unfold G9
  refine ⟨fun hc => ?_, fun hc => ?_⟩
  ·obtain ⟨x, hx, hE⟩ := hs.get j0 hc
   obtain ⟨ns, hns, hS⟩ := hr.get hx
   have hlt := s8 hx
   have e1 := b8E hns
   have e2 := b8D nss (j.toNat + 1)
   have e3 : (nss.take (j.toNat + 1)).flatten.length = (nss.take j.toNat).flatten.length + ns.length := by rw [e1, List.length_append]
   refine ⟨j0, hc, x, hE, ns, hS, by omega, ?_⟩
   rw [y9 j0 (by simp only [big] at hss; omega), ← e1]
   refine hn _ _ ⟨by dsimp only; omega, by dsimp only; omega, rfl, ?_⟩ (by dsimp only; omega)
   dsimp only
   rw [show (j + 1).toNat = j.toNat + 1 by omega]
  ·unfold G8
   intro r H3 l3 hS _
   rw [List.take_of_length_le (by omega)] at hS
   exact h r H3 l3 hS
def nameL : Lab → ByteArray × Bool
 | .decl _ s => (s, true)
 | .stmt k s _ _ _ _ => (s, decide (k = 1) || decide (k = 2))
 | .cond .. => (⟨#[]⟩, false)
 | .expr k _ s _ => (s, decide (k = 2) || decide (k = 4))
theorem c2u {x : f7} {t : PT} (hx : NH H x t) {K : ByteArray → Bool → Hp → Prop} (h : K (nameL t.lab).1 (nameL t.lab).2 H) : a3x x H K := by
 refine b4o _ ?_
 unfold a6S
 cases x with
 | nil => exact hx.elim
 | O6 y =>
  cases (show t = dT y.a1y from hx)
  exact ⟨fun _ => h, fun q => (by cases q)⟩
 | L5 y =>
  cases (show SH H y.m4 t from hx)
  exact ⟨fun q => (by cases q), fun _ => ⟨fun _ => h, fun q => (by cases q)⟩⟩
 | L1 y =>
  cases (show EH H y.z6 t from hx)
  exact ⟨fun q => (by cases q), fun _ => ⟨fun q => (by cases q), fun _ => ⟨fun _ => h, fun q => (by cases q)⟩⟩⟩
 | P8 y =>
  cases (show CH H y.u9 t from hx)
  exact ⟨fun q => (by cases q), fun _ => ⟨fun q => (by cases q), fun _ => ⟨fun q => (by cases q), fun _ => h⟩⟩⟩
def formE (k n : Int) (s : ByteArray) (a : Int) : Bool :=
 if (((!decide (k = 1)) && (!decide (n = 0))) || ((!(decide (k = 2) || decide (k = 4))) && (!decide (s = ⟨#[]⟩)))) = true then false
 else if k = 1 then decide (0 ≤ n) && decide (a = 0)
 else if k = 2 ∨ k = 3 then decide (a = 0)
 else if k = 4 ∨ k = 5 then decide (a = 1)
 else if k = 6 ∨ k = 7 ∨ k = 8 ∨ k = 9 ∨ k = 10 then decide (a = 2) else false
def formC (k op e p : Int) : Bool :=
 if k = 3 then (decide (1 ≤ op) && decide (op ≤ 6)) && decide (e = 2 ∧ p = 0)
 else if op = 0 then
  (if k = 1 ∨ k = 2 then decide (e = 0 ∧ p = 0) else if k = 4 then decide (e = 0 ∧ p = 1) else if k = 5 ∨ k = 6 then decide (e = 0 ∧ p = 2) else false)
 else false
def formS (k : Int) (s : ByteArray) (e c t f : Int) : Bool :=
 if k = 1 then !decide (0 < t + f) && decide (e = 1 ∧ c = 0)
 else if k = 2 then !decide (0 < t + f) && decide (e = 2 ∧ c = 0)
 else if k = 3 then decide (s = ⟨#[]⟩) && decide (e = 0 ∧ c = 1)
 else if k = 4 then decide (s = ⟨#[]⟩) && decide (f = 0) && decide (e = 0 ∧ c = 1)
 else if k = 5 ∨ k = 6 then (decide (s = ⟨#[]⟩) && !decide (0 < t + f)) && decide (e = 0 ∧ c = 1)
 else if k = 7 then (decide (s = ⟨#[]⟩) && !decide (0 < t + f)) && decide (e = 0 ∧ c = 0)
 else false
def formL : Lab → Bool
 | .decl z _ => decide (0 ≤ z) && decide (z ≤ 2147483647)
 | .stmt k s e c t f => formS k s e c t f
 | .cond k op e p => formC k op e p
 | .expr k n s a => formE k n s a
theorem b4R {α : Type} {b : Bool} {q : Prop} [Decidable q] (hb : b = true ↔ q) (x y : α) : (if b = true then x else y) = if q then x else y := by
 by_cases hq : q
 ·rw [if_pos (hb.2 hq), if_pos hq]
 ·rw [if_neg (fun e => hq (hb.1 e)), if_neg hq]
theorem ej3 {a : Int} {b : Bool} {x : P3} {K : Bool → Hp → Prop} (h : K (if b = true then decide (a = 2) else false) H) : J8 a b x H K := by
 unfold J8
 cases b
 ·exact ⟨fun q => (by cases q), fun _ => h⟩
 ·exact ⟨fun _ => h, fun q => (by cases q)⟩
theorem ej2 {a k : Int} {b : Bool} {x : P3} {K : Bool → Hp → Prop} (h : K (if b = true then decide (a = 1) else if k = 6 ∨ k = 7 ∨ k = 8 ∨ k = 9 ∨ k = 10 then decide (a = 2) else false) H) : R2 a k b x H K := by
 unfold R2
 cases b
 ·refine ⟨fun q => (by cases q), fun _ => ?_⟩
  rw [if_neg (by decide)] at h
  refine ⟨fun e => ej3 ?_, fun e1 => ⟨fun e => ej3 ?_, fun e2 => ⟨fun e => ej3 ?_, fun e3 => ⟨fun e => ej3 ?_, fun e4 => ej3 ?_⟩⟩⟩⟩ <;>
   (rw [b4R (q := k = 6 ∨ k = 7 ∨ k = 8 ∨ k = 9 ∨ k = 10) (by rw [decide_eq_true_eq]; omega)]; exact h)
 ·exact ⟨fun _ => h, fun q => (by cases q)⟩
theorem ej1 {a k : Int} {b : Bool} {x : P3} {K : Bool → Hp → Prop} (h : K (if b = true then decide (a = 0) else if k = 4 ∨ k = 5 then decide (a = 1) else if k = 6 ∨ k = 7 ∨ k = 8 ∨ k = 9 ∨ k = 10 then decide (a = 2) else false) H) : R3 a k b x H K := by
 unfold R3
 cases b
 ·refine ⟨fun q => (by cases q), fun _ => ?_⟩
  rw [if_neg (by decide)] at h
  refine ⟨fun e => ej2 ?_, fun e1 => ej2 ?_⟩ <;>
   (rw [b4R (q := k = 4 ∨ k = 5) (by rw [decide_eq_true_eq]; omega)]; exact h)
 ·exact ⟨fun _ => h, fun q => (by cases q)⟩
theorem c6w {e : m2} {t : PT} (he : EH H e t) {K : Bool → Hp → Prop} (h : K (formL t.lab) H) : a4W ⟨e⟩ H K := by
 refine b1H _ ?_
 unfold a5b
 refine c2u (x := .L1 ⟨e⟩) (t := t) he ?_
 cases he with
 | @mk e xs ts hs hb hl hr =>
  have hn : e.z8.n = ts.length := by have := hs.1; omega
  change K (formE e.b7 e.C9 e.d9 (ts.length : Int)) H at h
  unfold formE at h
  dsimp only [PT.lab, nameL]
  rw [hn]
  generalize (ts.length : Int) = a at h ⊢
  refine ⟨fun hg => by rw [if_pos hg] at h; exact h, fun hg => ?_⟩
  rw [if_neg (by rw [hg]; decide)] at h
  refine ⟨fun e1 => by rw [if_pos e1] at h; exact h, fun e1 => ?_⟩
  rw [if_neg e1] at h
  refine ⟨fun e2 => ej1 ?_, fun e2 => ej1 ?_⟩ <;>
   (rw [b4R (q := e.b7 = 2 ∨ e.b7 = 3) (by rw [decide_eq_true_eq]; omega)]; exact h)
theorem cj2 {b : Bool} {y : M4} {x : V4} {K : Bool → Hp → Prop} (h : K (if b = true then decide (y.fexprs = 0 ∧ y.fparts = 2) else false) H) : R4 b y x H K := by
 unfold R4
 cases b
 ·exact ⟨fun q => (by cases q), fun _ => h⟩
 ·exact ⟨fun _ => h, fun q => (by cases q)⟩
theorem cj1 {k : Int} {b : Bool} {y : M4} {x : V4} {K : Bool → Hp → Prop} (h : K (if b = true then decide (y.fexprs = 0 ∧ y.fparts = 0) else if k = 4 then decide (y.fexprs = 0 ∧ y.fparts = 1) else if k = 5 ∨ k = 6 then decide (y.fexprs = 0 ∧ y.fparts = 2) else false) H) : R5 k b y x H K := by
 unfold R5
 cases b
 ·refine ⟨fun q => (by cases q), fun _ => ?_⟩
  rw [if_neg (by decide)] at h
  refine ⟨fun e => by rw [if_pos e] at h; exact h, fun e => ?_⟩
  rw [if_neg e] at h
  refine ⟨fun e2 => cj2 ?_, fun e2 => cj2 ?_⟩ <;>
   (rw [b4R (q := k = 5 ∨ k = 6) (by rw [decide_eq_true_eq]; omega)]; exact h)
 ·exact ⟨fun _ => h, fun q => (by cases q)⟩
theorem c6x {e : o0} {t : PT} (he : CH H e t) {K : Bool → Hp → Prop} (h : K (formL t.lab) H) : a4X ⟨e⟩ H K := by
 refine b1I _ ?_
 unfold a5d
 cases he with
 | @mk e xs ts ys us hs hb hr hc hcb hcl hcr =>
  have hn : e.m6.n = ts.length := by have := hs.1; have := hr.1; omega
  have hm : e.v8.n = us.length := by have := hc.1; omega
  change K (formC e.b7 e.fOp (ts.length : Int) (us.length : Int)) H at h
  unfold formC at h
  dsimp only
  rw [hn, hm]
  generalize (ts.length : Int) = a at h ⊢
  generalize (us.length : Int) = b at h ⊢
  refine ⟨fun e1 => by rw [if_pos e1] at h; exact h, fun e1 => ?_⟩
  rw [if_neg e1] at h
  refine ⟨fun e2 => by rw [if_neg e2] at h; exact h, fun e2 => ?_⟩
  rw [if_pos e2] at h
  refine ⟨fun e3 => cj1 ?_, fun e3 => cj1 ?_⟩ <;>
   (rw [b4R (q := e.b7 = 1 ∨ e.b7 = 2) (by rw [decide_eq_true_eq]; omega)]; exact h)
theorem sj1 {v : Bool} {k : Int} {b : Bool} {y : S4} {x : V5} {K : Bool → Hp → Prop} (h : K (if b = true then v && decide (y.fexprs = 0 ∧ y.fconds = 1) else if k = 7 then v && decide (y.fexprs = 0 ∧ y.fconds = 0) else false) H) : R1 v k b y x H K := by
 unfold R1
 cases b
 ·refine ⟨fun q => (by cases q), fun _ => ?_⟩
  rw [if_neg (by decide)] at h
  exact ⟨fun e => by rw [if_pos e] at h; exact h, fun e => by rw [if_neg e] at h; exact h⟩
 ·exact ⟨fun _ => h, fun q => (by cases q)⟩
theorem c6y {e : m7} {t : PT} (he : SH H e t) {K : Bool → Hp → Prop} (h : K (formL t.lab) H) : a4Y ⟨e⟩ H K := by
 refine b1G _ ?_
 unfold a4Z
 cases he with
 | @mk e xs ts ys us zs bs vs ws hs hb hr hc hcb hcr ha hab hal har hbs hbb hbl hbr =>
  have n1 : e.m6.n = ts.length := by have := hs.1; have := hr.1; omega
  have n2 : e.y6.n = us.length := by have := hc.1; have := hcr.1; omega
  have n3 : e.K7.n = vs.length := by have := ha.1; omega
  have n4 : e.L0.n = ws.length := by have := hbs.1; omega
  change K (formS e.b7 e.d9 (ts.length : Int) (us.length : Int) (vs.length : Int) (ws.length : Int)) H at h
  unfold formS at h
  dsimp only
  rw [n1, n2, n3, n4, K0 (a := (vs.length : Int) + (ws.length : Int)) ⟨by omega, by simp only [big] at hab hbb; omega⟩]
  generalize (ts.length : Int) = a at h ⊢
  generalize (us.length : Int) = b at h ⊢
  generalize (vs.length : Int) = c at h ⊢
  generalize (ws.length : Int) = d at h ⊢
  refine ⟨fun e1 => by rw [if_pos e1] at h; exact h, fun e1 => ?_⟩
  rw [if_neg e1] at h
  refine ⟨fun e1 => by rw [if_pos e1] at h; exact h, fun e2 => ?_⟩
  rw [if_neg e2] at h
  refine ⟨fun e1 => by rw [if_pos e1] at h; exact h, fun e3 => ?_⟩
  rw [if_neg e3] at h
  refine ⟨fun e1 => by rw [if_pos e1] at h; exact h, fun e4 => ?_⟩
  rw [if_neg e4] at h
  refine ⟨fun e5 => sj1 ?_, fun e5 => sj1 ?_⟩ <;>
   (rw [b4R (q := e.b7 = 5 ∨ e.b7 = 6) (by rw [decide_eq_true_eq]; omega)]; exact h)
theorem c8U {x : f7} {t : PT} (hx : NH H x t) {K : Bool → Hp → Prop} (h : K (formL t.lab) H) : a6b x H K := by
 cases x with
 | nil => exact hx.elim
 | L1 y => exact c6w hx h
 | P8 y => exact c6x hx h
 | L5 y => exact c6y hx h
 | O6 y =>
  cases (show t = dT y.a1y from hx)
  refine b1J _ ?_
  unfold a5e
  exact h
theorem c6z {x : f7} {t : PT} (hx : NH H x t) {K : Sl → Hp → Prop} (h : ∀ (r : Sl) (H' : Hp) (ns : List f7), Hle H H' → SlH H' 1 z7 r ns → C0 (NH H') ns t.kids → t.kids.length ≤ 4 * big → K r H') : a5P x H K := by
 cases x with
 | nil => exact hx.elim
 | O6 y =>
  cases (show t = dT y.a1y from hx)
  refine b1e _ ?_
  unfold a4x
  exact h _ _ [] (Hle.refl _) (SlH.nil _ _ _) C0.nil (Nat.zero_le _)
 | L1 y =>
  have hx : EH H y.z6 t := hx
  refine b1h _ ?_
  unfold a4A
  obtain ⟨e⟩ := y
  cases hx with
  | @mk e xs ts hs hb hl hr =>
   refine b2y hs hb fun r H' l hS => h r H' _ l hS ?_ ?_
   ·exact C0.map ⟨hl, fun i a b ha hb => EH.le l (hr i a b ha hb)⟩
   ·show ts.length ≤ _; omega
 | P8 y =>
  have hx : CH H y.u9 t := hx
  refine b1f _ ?_
  unfold a4y
  obtain ⟨e⟩ := y
  cases hx with
  | @mk e xs ts ys us hs hb hr hc hcb hcl hcr =>
   refine b2y hs hb fun r1 H1 l1 hS1 => ?_
   refine b5w (hc.le l1) hcb fun r2 H2 l2 hS2 => ?_
   intro s H3 l3 hS hcap
   have r0 := hr.1
   refine b4s hS (nss := [_, _]) ((C0.one (hS1.le (l2.trans l3))).app (C0.one (hS2.le l3))) ?_ (by simp [big]) fun r H4 l4 hS4 => ?_
   ·simp only [List.flatten_cons, List.flatten_nil, List.append_nil, List.length_append, List.length_map]; simp only [big] at hb hcb; omega
   simp only [List.flatten_cons, List.flatten_nil, List.append_nil] at hS4
   have l14 := l1.trans (l2.trans (l3.trans l4))
   refine h r H4 _ l14 hS4 ?_ ?_
   ·exact (C0.map (R := NH H4) (f := fun x => .L1 ⟨x⟩) (hr.mono fun _ _ => EH.le l14)).app (C0.map (R := NH H4) (f := fun x => .P8 ⟨x⟩) ⟨hcl, fun i a b ha hb => CH.le l14 (hcr i a b ha hb)⟩)
   ·show (ts ++ us).length ≤ _; rw [List.length_append]; omega
 | L5 y =>
  have hx : SH H y.m4 t := hx
  refine b1g _ ?_
  unfold a4z
  obtain ⟨e⟩ := y
  cases hx with
  | @mk e xs ts ys us zs bs vs ws hs hb hr hc hcb hcr ha hab hal har hbs hbb hbl hbr =>
   refine b5w hc hcb fun r1 H1 l1 hS1 => ?_
   refine b2y (hs.le l1) hb fun r2 H2 l2 hS2 => ?_
   refine b2x (ha.le (l1.trans l2)) hab fun r3 H3 l3 hS3 => ?_
   refine b2x (hbs.le (l1.trans (l2.trans l3))) hbb fun r4 H4 l4 hS4 => ?_
   intro s H5 l5 hS hcap
   have r0 := hr.1
   have r0' := hcr.1
   refine b4s hS (nss := [_, _, _, _]) ((C0.one (hS1.le (l2.trans (l3.trans (l4.trans l5))))).app ((C0.one (hS2.le (l3.trans (l4.trans l5)))).app ((C0.one (hS3.le (l4.trans l5))).app (C0.one (hS4.le l5))))) ?_ (by simp [big]) fun r H6 l6 hS6 => ?_
   ·simp only [List.flatten_cons, List.flatten_nil, List.append_nil, List.length_append, List.length_map]; simp only [big] at hb hcb hab hbb; omega
   simp only [List.flatten_cons, List.flatten_nil, List.append_nil] at hS6
   have l16 := l1.trans (l2.trans (l3.trans (l4.trans (l5.trans l6))))
   refine h r H6 _ l16 hS6 ?_ ?_
   ·exact (C0.map (R := NH H6) (f := fun x => .P8 ⟨x⟩) (hcr.mono fun _ _ => CH.le l16)).app ((C0.map (R := NH H6) (f := fun x => .L1 ⟨x⟩) (hr.mono fun _ _ => EH.le l16)).app ((C0.map (R := NH H6) (f := fun x => .L5 ⟨x⟩) ⟨hal, fun i a b ha hb => SH.le l16 (har i a b ha hb)⟩).app (C0.map (R := NH H6) (f := fun x => .L5 ⟨x⟩) ⟨hbl, fun i a b ha hb => SH.le l16 (hbr i a b ha hb)⟩)))
   ·show (us ++ (ts ++ (vs ++ ws))).length ≤ _; simp only [List.length_append]; omega
end
end Go.Proofs.YtnhkdkcgdcgmdaaGreatDoor
