/- Nodes: a list's nodes, lists put together; a node's own form, its name, its parts. Contracts off the printed formulas. -/
import Derived.Test.YtnhkdkcgdcgmdaaGreatDoorzUQ3
namespace Go.Proofs.YtnhkdkcgdcgmdaaGreatDoor
open Go.RowKit
set_option maxRecDepth 100000
set_option maxHeartbeats 2000000
def NH (H : Hp) : g8 → PT → Prop
  | .S2 y, t => t = dT y.a0E
  | .P5 y, t => SH H y.j8 t
  | .R2 y, t => CH H y.r8 t
  | .M0 y, t => EH H y.t7 t
  | .nil, _ => False
theorem NH.le {H H' : Hp} (l : Hle H H') {x : g8} {t : PT} (h : NH H x t) : NH H' x t := by
  cases x with
  | nil => exact h
  | S2 y => exact h
  | P5 y => exact SH.le l h
  | R2 y => exact CH.le l h
  | M0 y => exact EH.le l h
theorem d4k {α : Type} (l : List (List α)) (i : Nat) : (l.take i).flatten.length ≤ l.flatten.length := by
  have : l.flatten = (l.take i).flatten ++ (l.drop i).flatten := by rw [← List.flatten_append, List.take_append_drop]
  rw [this, List.length_append]; omega
theorem d4l {α : Type} {l : List (List α)} {i : Nat} {x : List α} (h : l[i]? = some x) : (l.take (i + 1)).flatten = (l.take i).flatten ++ x := by
  rw [O2 h, List.flatten_append]; simp
section
variable {H : Hp}
theorem e2b {s : Sl} {xs : List E0} (hs : SlH H 2 w6 s xs) (hb : xs.length ≤ big) {K : Sl → Hp → Prop} (h : ∀ (r : Sl) (H' : Hp), Hle H H' → SlH H' 1 v8 r (xs.map fun x => g8.S2 ⟨x⟩) → K r H') : Q4 s H K := by
  refine a5X _ ?_
  unfold K8
  have n1 := hs.1
  refine U4 (fun (z : List g8 × Int) H' => 0 ≤ z.2 ∧ z.2 ≤ xs.length ∧ H' = H ∧ z.1 = (xs.take z.2.toNat).map fun x => g8.S2 ⟨x⟩) (fun z => (xs.length - z.2).toNat) ⟨Int.le_refl _, by simp, rfl, by simp⟩ ?_
  rintro ⟨l, i⟩ H1 next ⟨i0, i1, rfl, hl⟩ hn
  dsimp only at i0 i1 hl ⊢
  unfold I7
  refine ⟨fun hc => ?_, fun hc => ?_⟩
  · obtain ⟨x, hx, hE⟩ := hs.get i0 hc
    have hlt := C1 hx
    refine ⟨i0, hc, x, hE, c2Z _ ?_⟩
    unfold a7t
    refine ⟨?_, ?_⟩
    · rw [hl, List.length_map, List.length_take]; simp only [big] at hb; simp only [List.length_cons, List.length_nil]; omega
    · rw [B5 i0 (by simp only [big] at hb; omega)]
      refine hn _ _ ⟨by dsimp only; omega, by dsimp only; omega, rfl, ?_⟩ (by dsimp only; omega)
      dsimp only
      rw [show (i + 1).toNat = i.toNat + 1 by omega, O2 hx, List.map_append, ← hl]; rfl
  · unfold I6
    intro ss H2 l2 hss hc2
    refine h ss H2 l2 ?_
    rw [hl, List.take_of_length_le (by omega)] at hss; exact hss
theorem c1l {s : Sl} {xs : List d6} (hs : SlH H 6 d9 s xs) (hb : xs.length ≤ big) {K : Sl → Hp → Prop} (h : ∀ (r : Sl) (H' : Hp), Hle H H' → SlH H' 1 v8 r (xs.map fun x => g8.P5 ⟨x⟩) → K r H') : C4 s H K := by
  refine a5Y _ ?_
  unfold K9
  have n1 := hs.1
  refine U4 (fun (z : List g8 × Int) H' => 0 ≤ z.2 ∧ z.2 ≤ xs.length ∧ H' = H ∧ z.1 = (xs.take z.2.toNat).map fun x => g8.P5 ⟨x⟩) (fun z => (xs.length - z.2).toNat) ⟨Int.le_refl _, by simp, rfl, by simp⟩ ?_
  rintro ⟨l, i⟩ H1 next ⟨i0, i1, rfl, hl⟩ hn
  dsimp only at i0 i1 hl ⊢
  unfold I9
  refine ⟨fun hc => ?_, fun hc => ?_⟩
  · obtain ⟨x, hx, hE⟩ := hs.get i0 hc
    have hlt := C1 hx
    refine ⟨i0, hc, x, hE, c3I _ ?_⟩
    unfold a7z
    refine ⟨?_, ?_⟩
    · rw [hl, List.length_map, List.length_take]; simp only [big] at hb; simp only [List.length_cons, List.length_nil]; omega
    · rw [B5 i0 (by simp only [big] at hb; omega)]
      refine hn _ _ ⟨by dsimp only; omega, by dsimp only; omega, rfl, ?_⟩ (by dsimp only; omega)
      dsimp only
      rw [show (i + 1).toNat = i.toNat + 1 by omega, O2 hx, List.map_append, ← hl]; rfl
  · unfold I8
    intro ss H2 l2 hss hc2
    refine h ss H2 l2 ?_
    rw [hl, List.take_of_length_le (by omega)] at hss; exact hss
theorem c8A {s : Sl} {xs : List b7} (hs : SlH H 4 d8 s xs) (hb : xs.length ≤ big) {K : Sl → Hp → Prop} (h : ∀ (r : Sl) (H' : Hp), Hle H H' → SlH H' 1 v8 r (xs.map fun x => g8.R2 ⟨x⟩) → K r H') : K7 s H K := by
  refine a6n _ ?_
  unfold L6
  have n1 := hs.1
  refine U4 (fun (z : List g8 × Int) H' => 0 ≤ z.2 ∧ z.2 ≤ xs.length ∧ H' = H ∧ z.1 = (xs.take z.2.toNat).map fun x => g8.R2 ⟨x⟩) (fun z => (xs.length - z.2).toNat) ⟨Int.le_refl _, by simp, rfl, by simp⟩ ?_
  rintro ⟨l, i⟩ H1 next ⟨i0, i1, rfl, hl⟩ hn
  dsimp only at i0 i1 hl ⊢
  unfold J3
  refine ⟨fun hc => ?_, fun hc => ?_⟩
  · obtain ⟨x, hx, hE⟩ := hs.get i0 hc
    have hlt := C1 hx
    refine ⟨i0, hc, x, hE, c3l _ ?_⟩
    unfold a7x
    refine ⟨?_, ?_⟩
    · rw [hl, List.length_map, List.length_take]; simp only [big] at hb; simp only [List.length_cons, List.length_nil]; omega
    · rw [B5 i0 (by simp only [big] at hb; omega)]
      refine hn _ _ ⟨by dsimp only; omega, by dsimp only; omega, rfl, ?_⟩ (by dsimp only; omega)
      dsimp only
      rw [show (i + 1).toNat = i.toNat + 1 by omega, O2 hx, List.map_append, ← hl]; rfl
  · unfold J2
    intro ss H2 l2 hss hc2
    refine h ss H2 l2 ?_
    rw [hl, List.take_of_length_le (by omega)] at hss; exact hss
theorem c1m {s : Sl} {xs : List a8} (hs : SlH H 4 b8 s xs) (hb : xs.length ≤ big) {K : Sl → Hp → Prop} (h : ∀ (r : Sl) (H' : Hp), Hle H H' → SlH H' 1 v8 r (xs.map fun x => g8.M0 ⟨x⟩) → K r H') : C5 s H K := by
  refine a6i _ ?_
  unfold L0
  have n1 := hs.1
  refine U4 (fun (z : List g8 × Int) H' => 0 ≤ z.2 ∧ z.2 ≤ xs.length ∧ H' = H ∧ z.1 = (xs.take z.2.toNat).map fun x => g8.M0 ⟨x⟩) (fun z => (xs.length - z.2).toNat) ⟨Int.le_refl _, by simp, rfl, by simp⟩ ?_
  rintro ⟨l, i⟩ H1 next ⟨i0, i1, rfl, hl⟩ hn
  dsimp only at i0 i1 hl ⊢
  unfold J1
  refine ⟨fun hc => ?_, fun hc => ?_⟩
  · obtain ⟨x, hx, hE⟩ := hs.get i0 hc
    have hlt := C1 hx
    refine ⟨i0, hc, x, hE, c3R _ ?_⟩
    unfold a7B
    refine ⟨?_, ?_⟩
    · rw [hl, List.length_map, List.length_take]; simp only [big] at hb; simp only [List.length_cons, List.length_nil]; omega
    · rw [B5 i0 (by simp only [big] at hb; omega)]
      refine hn _ _ ⟨by dsimp only; omega, by dsimp only; omega, rfl, ?_⟩ (by dsimp only; omega)
      dsimp only
      rw [show (i + 1).toNat = i.toNat + 1 by omega, O2 hx, List.map_append, ← hl]; rfl
  · unfold J0
    intro ss H2 l2 hss hc2
    refine h ss H2 l2 ?_
    rw [hl, List.take_of_length_le (by omega)] at hss; exact hss
theorem d4m (a : Option Addr) (n c : Nat) : Pu Tryz.prog (xBuiltin .cap #[137] 3 [false] [.slice a n c]) (.int .i64 (c : Int)) := by
  have e' : Program.elem Tryz.prog 137 = 150 := by simp [Program.elem, Tryz.underlying137]
  have : xBuiltin .cap #[137] 3 [false] [.slice a n c] = xV (Builtin.cap_ #[137] 3 #[.slice a n c]) := rfl
  rw [this]
  exact Pu.ok fun w => run_cap_slice (P := Tryz.prog) (w := w) 137 3 a n c (by rw [e']; exact Tryz.underlying137)
theorem g2H {n : Int} (h0 : 0 ≤ n) (hb : n * 17 ≤ 140737488355328) {K : List g8 → Hp → Prop} (h : K [] H) : a0v n H K := by
  intro w I
  refine g1b ?_
  unfold f3w
  refine r9 fun j1 hx1 => ?_
  refine a7 (v7 _ _ _ _ _ _) ?_
  refine o2 (fun c => ?_) (fun c => ?_)
  · have := of_decide_eq_true c; omega
  refine hx1 _ _ ?_
  unfold e2v
  intro _
  refine r9 fun j2 hx2 => ?_
  refine a7 (d4m _ _ _) ?_
  refine a7 (b7v _ _ _) ?_
  refine a7 (b0N _ _ _ _ _ _) ?_
  refine a7 (b0N _ _ _ _ _ _) ?_
  rw [show IntKind.wrap .i64 (n - IntKind.wrap .i64 (((0 : Nat) : Int) - ((0 : Nat) : Int))) = n by
    rw [show IntKind.wrap .i64 (((0 : Nat) : Int) - ((0 : Nat) : Int)) = 0 by decide, Int.sub_zero]; exact O9 ⟨by omega, by omega⟩]
  refine a7 (a7Q _ _ _ _ _ _) ?_
  refine o2 (fun c => ?_) (fun c => ?_)
  · have hp := of_decide_eq_true c
    refine a7 (d4m _ _ _) ?_
    refine a7 (d5Q (e := 150) (sz := 1) Tryz.underlying137 Tryz.sizeOf150 (s := ⟨none, 0, 0⟩) (h := ((0 : Nat) : Int)) (by decide) (by decide)) ?_
    refine g7j (z := Value.nilIface) (bytes := 16) (kn := .i64) Tryz.underlying137 Tryz.underlying3 e2m (by kernel_rfl) (by kernel_rfl) (by kernel_rfl) (by kernel_rfl) (by decide) T5 W0 I hp hb fun g m F' w' hr I' => ?_
    refine a7 (b7v _ _ _) ?_
    refine a7 (d5Q (e := 150) (sz := 1) Tryz.underlying137 Tryz.sizeOf150 (s := ⟨some ⟨g, 0, none⟩, n.toNat, m⟩) (h := ((0 : Nat) : Int)) (by decide) (by simp)) ?_
    refine hx2 _ _ ?_
    unfold d2X
    intro _
    refine ⟨H, _, I', [], ⟨some ⟨g, 0, none⟩, 0, m⟩, F', ?_, rfl, hr, h⟩
    simp [Sl.cut, Addr.add, nth]
  · refine hx2 _ _ ?_
    unfold d2X
    intro _
    exact ⟨H, _, I.nil, [], ⟨none, 0, 0⟩, [], rfl, rfl, RowL.nil T5 W0, h⟩
theorem c6d {s : Sl} {ss : List Sl} {nss : List (List g8)} (hs : SlH H 1 csl s ss) (hr : u4 (SlH H 1 v8) ss nss) (hb : nss.flatten.length * 17 ≤ 140737488355328) (hss : ss.length ≤ big) {K : Sl → Hp → Prop}
    (h : ∀ (r : Sl) (H' : Hp), Hle H H' → SlH H' 1 v8 r nss.flatten → K r H') : J5 s H K := by
  refine a7O _ ?_
  unfold O5
  have n1 := hs.1; have r1 := hr.1
  refine U4 (fun (z : Int × Int) H' => 0 ≤ z.2 ∧ z.2 ≤ ss.length ∧ H' = H ∧ z.1 = ((nss.take z.2.toNat).flatten.length : Int)) (fun z => (ss.length - z.2).toNat) ⟨Int.le_refl _, by simp, rfl, by simp⟩ ?_
  rintro ⟨q, i⟩ H1 next ⟨i0, i1, rfl, hq⟩ hn
  dsimp only at i0 i1 hq ⊢
  subst hq
  unfold N2
  refine ⟨fun hc => ?_, fun hc => ?_⟩
  · obtain ⟨x, hx, hE⟩ := hs.get i0 hc
    obtain ⟨ns, hns, hS⟩ := hr.get hx
    have hlt := C1 hx
    have e1 := d4l hns
    have e2 := d4k nss (i.toNat + 1)
    have e3 : (nss.take (i.toNat + 1)).flatten.length = (nss.take i.toNat).flatten.length + ns.length := by rw [e1, List.length_append]
    have e4 : IntKind.wrap .i64 (((nss.take i.toNat).flatten.length : Int) + (x.n : Int)) = ((nss.take (i.toNat + 1)).flatten.length : Int) := by
      rw [O9 ⟨by omega, by have := hS.1; omega⟩]
      have := hS.1; omega
    refine ⟨i0, hc, x, hE, ?_⟩
    rw [e4]
    refine ⟨fun hneg => by omega, fun _ => ?_⟩
    unfold M8
    rw [B5 i0 (by simp only [big] at hss; omega)]
    refine hn _ _ ⟨by dsimp only; omega, by dsimp only; omega, rfl, ?_⟩ (by dsimp only; omega)
    dsimp only
    rw [show (i + 1).toNat = i.toNat + 1 by omega]
  · rw [List.take_of_length_le (by omega)]
    clear hn next
    unfold N1
    refine g2H (by omega) (by omega) ?_
    refine U4 (fun (z : List g8 × Int) H' => 0 ≤ z.2 ∧ z.2 ≤ ss.length ∧ H' = H1 ∧ z.1 = (nss.take z.2.toNat).flatten) (fun z => (ss.length - z.2).toNat) ⟨Int.le_refl _, by simp, rfl, by simp⟩ ?_
    rintro ⟨q, j⟩ H2 next ⟨j0, j1, rfl, hq⟩ hn
    dsimp only at j0 j1 hq ⊢
    subst hq
    unfold N0
    refine ⟨fun hc => ?_, fun hc => ?_⟩
    · obtain ⟨x, hx, hE⟩ := hs.get j0 hc
      obtain ⟨ns, hns, hS⟩ := hr.get hx
      have hlt := C1 hx
      have e1 := d4l hns
      have e2 := d4k nss (j.toNat + 1)
      have e3 : (nss.take (j.toNat + 1)).flatten.length = (nss.take j.toNat).flatten.length + ns.length := by rw [e1, List.length_append]
      refine ⟨j0, hc, x, hE, ns, hS, by omega, ?_⟩
      rw [B5 j0 (by simp only [big] at hss; omega), ← e1]
      refine hn _ _ ⟨by dsimp only; omega, by dsimp only; omega, rfl, ?_⟩ (by dsimp only; omega)
      dsimp only
      rw [show (j + 1).toNat = j.toNat + 1 by omega]
    · unfold M9
      intro r H3 l3 hS _
      rw [List.take_of_length_le (by omega)] at hS
      exact h r H3 l3 hS
def nameL : Lab → ByteArray × Bool
  | .decl _ s => (s, true)
  | .stmt k s _ _ _ _ => (s, decide (k = 1) || decide (k = 2))
  | .cond .. => (⟨#[]⟩, false)
  | .expr k _ s _ => (s, decide (k = 2) || decide (k = 4))
theorem e2J {x : g8} {t : PT} (hx : NH H x t) {K : ByteArray → Bool → Hp → Prop} (h : K (nameL t.lab).1 (nameL t.lab).2 H) : a6I x H K := by
  refine c5M _ ?_
  unfold a8P
  cases x with
  | nil => exact hx.elim
  | S2 y =>
    cases (show t = dT y.a0E from hx)
    exact ⟨fun _ => h, fun q => (by cases q)⟩
  | P5 y =>
    cases (show SH H y.j8 t from hx)
    exact ⟨fun q => (by cases q), fun _ => ⟨fun _ => h, fun q => (by cases q)⟩⟩
  | M0 y =>
    cases (show EH H y.t7 t from hx)
    exact ⟨fun q => (by cases q), fun _ => ⟨fun q => (by cases q), fun _ => ⟨fun _ => h, fun q => (by cases q)⟩⟩⟩
  | R2 y =>
    cases (show CH H y.r8 t from hx)
    exact ⟨fun q => (by cases q), fun _ => ⟨fun q => (by cases q), fun _ => ⟨fun q => (by cases q), fun _ => h⟩⟩⟩
def formE (k n : Int) (s : ByteArray) (a : Int) : Bool :=
  if (((!decide (k = 1)) && (!decide (n = 0))) || ((!(decide (k = 2) || decide (k = 4))) && (!decide (s = ⟨#[]⟩)))) = true then false
  else if k = 1 then decide (0 ≤ n) && decide (a = 0)
  else if k = 2 ∨ k = 3 then decide (a = 0)
  else if k = 4 ∨ k = 5 then decide (a = 1)
  else if k = 6 ∨ k = 7 ∨ k = 8 ∨ k = 9 ∨ k = 10 then decide (a = 2) else false
def formC (k op e p : Int) : Bool :=
  if k = 3 then (decide (1 ≤ op) && decide (op ≤ 6)) && decide (e = 2 ∧ p = 0)
  else if op = 0 then
    (if k = 1 ∨ k = 2 then decide (e = 0 ∧ p = 0) else if k = 4 then decide (e = 0 ∧ p = 1) else if k = 5 ∨ k = 6 then decide (e = 0 ∧ p = 2) else false)
  else false
def formS (k : Int) (s : ByteArray) (e c t f : Int) : Bool :=
  if k = 1 then !decide (0 < t + f) && decide (e = 1 ∧ c = 0)
  else if k = 2 then !decide (0 < t + f) && decide (e = 2 ∧ c = 0)
  else if k = 3 then decide (s = ⟨#[]⟩) && decide (e = 0 ∧ c = 1)
  else if k = 4 then decide (s = ⟨#[]⟩) && decide (f = 0) && decide (e = 0 ∧ c = 1)
  else if k = 5 ∨ k = 6 then (decide (s = ⟨#[]⟩) && !decide (0 < t + f)) && decide (e = 0 ∧ c = 1)
  else if k = 7 then (decide (s = ⟨#[]⟩) && !decide (0 < t + f)) && decide (e = 0 ∧ c = 0)
  else false
def formL : Lab → Bool
  | .decl z _ => decide (0 ≤ z) && decide (z ≤ 2147483647)
  | .stmt k s e c t f => formS k s e c t f
  | .cond k op e p => formC k op e p
  | .expr k n s a => formE k n s a
theorem c7k {α : Type} {b : Bool} {q : Prop} [Decidable q] (hb : b = true ↔ q) (x y : α) : (if b = true then x else y) = if q then x else y := by
  by_cases hq : q
  · rw [if_pos (hb.2 hq), if_pos hq]
  · rw [if_neg (fun e => hq (hb.1 e)), if_neg hq]
theorem ej3 {a : Int} {b : Bool} {x : O3} {K : Bool → Hp → Prop} (h : K (if b = true then decide (a = 2) else false) H) : N3 a b x H K := by
  unfold N3
  cases b
  · exact ⟨fun q => (by cases q), fun _ => h⟩
  · exact ⟨fun _ => h, fun q => (by cases q)⟩
theorem ej2 {a k : Int} {b : Bool} {x : O3} {K : Bool → Hp → Prop} (h : K (if b = true then decide (a = 1) else if k = 6 ∨ k = 7 ∨ k = 8 ∨ k = 9 ∨ k = 10 then decide (a = 2) else false) H) : W4 a k b x H K := by
  unfold W4
  cases b
  · refine ⟨fun q => (by cases q), fun _ => ?_⟩
    rw [if_neg (by decide)] at h
    refine ⟨fun e => ej3 ?_, fun e1 => ⟨fun e => ej3 ?_, fun e2 => ⟨fun e => ej3 ?_, fun e3 => ⟨fun e => ej3 ?_, fun e4 => ej3 ?_⟩⟩⟩⟩ <;>
      (rw [c7k (q := k = 6 ∨ k = 7 ∨ k = 8 ∨ k = 9 ∨ k = 10) (by rw [decide_eq_true_eq]; omega)]; exact h)
  · exact ⟨fun _ => h, fun q => (by cases q)⟩
theorem ej1 {a k : Int} {b : Bool} {x : O3} {K : Bool → Hp → Prop} (h : K (if b = true then decide (a = 0) else if k = 4 ∨ k = 5 then decide (a = 1) else if k = 6 ∨ k = 7 ∨ k = 8 ∨ k = 9 ∨ k = 10 then decide (a = 2) else false) H) : W5 a k b x H K := by
  unfold W5
  cases b
  · refine ⟨fun q => (by cases q), fun _ => ?_⟩
    rw [if_neg (by decide)] at h
    refine ⟨fun e => ej2 ?_, fun e1 => ej2 ?_⟩ <;>
      (rw [c7k (q := k = 4 ∨ k = 5) (by rw [decide_eq_true_eq]; omega)]; exact h)
  · exact ⟨fun _ => h, fun q => (by cases q)⟩
theorem f5l {e : a8} {t : PT} (he : EH H e t) {K : Bool → Hp → Prop} (h : K (formL t.lab) H) : a8v ⟨e⟩ H K := by
  refine c0d _ ?_
  unfold a5D
  refine e2J (x := .M0 ⟨e⟩) (t := t) he ?_
  cases he with
  | @mk e xs ts hs hb hl hr =>
    have hn : e.k9.n = ts.length := by have := hs.1; omega
    change K (formE e.b6 e.o6 e.f6 (ts.length : Int)) H at h
    unfold formE at h
    dsimp only [PT.lab, nameL]
    rw [hn]
    generalize (ts.length : Int) = a at h ⊢
    refine ⟨fun hg => by rw [if_pos hg] at h; exact h, fun hg => ?_⟩
    rw [if_neg (by rw [hg]; decide)] at h
    refine ⟨fun e1 => by rw [if_pos e1] at h; exact h, fun e1 => ?_⟩
    rw [if_neg e1] at h
    refine ⟨fun e2 => ej1 ?_, fun e2 => ej1 ?_⟩ <;>
      (rw [c7k (q := e.b6 = 2 ∨ e.b6 = 3) (by rw [decide_eq_true_eq]; omega)]; exact h)
theorem cj2 {b : Bool} {y : Q1} {x : R6} {K : Bool → Hp → Prop} (h : K (if b = true then decide (y.fexprs = 0 ∧ y.fparts = 2) else false) H) : W1 b y x H K := by
  unfold W1
  cases b
  · exact ⟨fun q => (by cases q), fun _ => h⟩
  · exact ⟨fun _ => h, fun q => (by cases q)⟩
theorem cj1 {k : Int} {b : Bool} {y : Q1} {x : R6} {K : Bool → Hp → Prop} (h : K (if b = true then decide (y.fexprs = 0 ∧ y.fparts = 0) else if k = 4 then decide (y.fexprs = 0 ∧ y.fparts = 1) else if k = 5 ∨ k = 6 then decide (y.fexprs = 0 ∧ y.fparts = 2) else false) H) : W2 k b y x H K := by
  unfold W2
  cases b
  · refine ⟨fun q => (by cases q), fun _ => ?_⟩
    rw [if_neg (by decide)] at h
    refine ⟨fun e => by rw [if_pos e] at h; exact h, fun e => ?_⟩
    rw [if_neg e] at h
    refine ⟨fun e2 => cj2 ?_, fun e2 => cj2 ?_⟩ <;>
      (rw [c7k (q := k = 5 ∨ k = 6) (by rw [decide_eq_true_eq]; omega)]; exact h)
  · exact ⟨fun _ => h, fun q => (by cases q)⟩
theorem f5m {e : b7} {t : PT} (he : CH H e t) {K : Bool → Hp → Prop} (h : K (formL t.lab) H) : a8w ⟨e⟩ H K := by
  refine c0b _ ?_
  unfold a5B
  cases he with
  | @mk e xs ts ys us hs hb hr hc hcb hcl hcr =>
    have hn : e.f5.n = ts.length := by have := hs.1; have := hr.1; omega
    have hm : e.o3.n = us.length := by have := hc.1; omega
    change K (formC e.b6 e.fOp (ts.length : Int) (us.length : Int)) H at h
    unfold formC at h
    dsimp only
    rw [hn, hm]
    generalize (ts.length : Int) = a at h ⊢
    generalize (us.length : Int) = b at h ⊢
    refine ⟨fun e1 => by rw [if_pos e1] at h; exact h, fun e1 => ?_⟩
    rw [if_neg e1] at h
    refine ⟨fun e2 => by rw [if_neg e2] at h; exact h, fun e2 => ?_⟩
    rw [if_pos e2] at h
    refine ⟨fun e3 => cj1 ?_, fun e3 => cj1 ?_⟩ <;>
      (rw [c7k (q := e.b6 = 1 ∨ e.b6 = 2) (by rw [decide_eq_true_eq]; omega)]; exact h)
theorem sj1 {v : Bool} {k : Int} {b : Bool} {y : X5} {x : W7} {K : Bool → Hp → Prop} (h : K (if b = true then v && decide (y.fexprs = 0 ∧ y.fconds = 1) else if k = 7 then v && decide (y.fexprs = 0 ∧ y.fconds = 0) else false) H) : W3 v k b y x H K := by
  unfold W3
  cases b
  · refine ⟨fun q => (by cases q), fun _ => ?_⟩
    rw [if_neg (by decide)] at h
    exact ⟨fun e => by rw [if_pos e] at h; exact h, fun e => by rw [if_neg e] at h; exact h⟩
  · exact ⟨fun _ => h, fun q => (by cases q)⟩
theorem f5n {e : d6} {t : PT} (he : SH H e t) {K : Bool → Hp → Prop} (h : K (formL t.lab) H) : a8x ⟨e⟩ H K := by
  refine c0c _ ?_
  unfold a5C
  cases he with
  | @mk e xs ts ys us zs bs vs ws hs hb hr hc hcb hcr ha hab hal har hbs hbb hbl hbr =>
    have n1 : e.f5.n = ts.length := by have := hs.1; have := hr.1; omega
    have n2 : e.i4.n = us.length := by have := hc.1; have := hcr.1; omega
    have n3 : e.A5.n = vs.length := by have := ha.1; omega
    have n4 : e.z6.n = ws.length := by have := hbs.1; omega
    change K (formS e.b6 e.f6 (ts.length : Int) (us.length : Int) (vs.length : Int) (ws.length : Int)) H at h
    unfold formS at h
    dsimp only
    rw [n1, n2, n3, n4, O9 (a := (vs.length : Int) + (ws.length : Int)) ⟨by omega, by simp only [big] at hab hbb; omega⟩]
    generalize (ts.length : Int) = a at h ⊢
    generalize (us.length : Int) = b at h ⊢
    generalize (vs.length : Int) = c at h ⊢
    generalize (ws.length : Int) = d at h ⊢
    refine ⟨fun e1 => by rw [if_pos e1] at h; exact h, fun e1 => ?_⟩
    rw [if_neg e1] at h
    refine ⟨fun e1 => by rw [if_pos e1] at h; exact h, fun e2 => ?_⟩
    rw [if_neg e2] at h
    refine ⟨fun e1 => by rw [if_pos e1] at h; exact h, fun e3 => ?_⟩
    rw [if_neg e3] at h
    refine ⟨fun e1 => by rw [if_pos e1] at h; exact h, fun e4 => ?_⟩
    rw [if_neg e4] at h
    refine ⟨fun e5 => sj1 ?_, fun e5 => sj1 ?_⟩ <;>
      (rw [c7k (q := e.b6 = 5 ∨ e.b6 = 6) (by rw [decide_eq_true_eq]; omega)]; exact h)
theorem g2I {x : g8} {t : PT} (hx : NH H x t) {K : Bool → Hp → Prop} (h : K (formL t.lab) H) : b0l x H K := by
  cases x with
  | nil => exact hx.elim
  | M0 y => exact f5l hx h
  | R2 y => exact f5m hx h
  | P5 y => exact f5n hx h
  | S2 y =>
    cases (show t = dT y.a0E from hx)
    refine b9Y _ ?_
    unfold a5z
    exact h
theorem f5o {x : g8} {t : PT} (hx : NH H x t) {K : Sl → Hp → Prop} (h : ∀ (r : Sl) (H' : Hp) (ns : List g8), Hle H H' → SlH H' 1 v8 r ns → u4 (NH H') ns t.kids → t.kids.length ≤ 4 * big → K r H') : a9O x H K := by
  cases x with
  | nil => exact hx.elim
  | S2 y =>
    cases (show t = dT y.a0E from hx)
    refine b9b _ ?_
    unfold a5e
    exact h _ _ [] (Hle.refl _) (SlH.nil _ _ _) u4.nil (Nat.zero_le _)
  | M0 y =>
    have hx : EH H y.t7 t := hx
    refine b8P _ ?_
    unfold a4Z
    obtain ⟨e⟩ := y
    cases hx with
    | @mk e xs ts hs hb hl hr =>
      refine c1m hs hb fun r H' l hS => h r H' _ l hS ?_ ?_
      · exact u4.map ⟨hl, fun i a b ha hb => EH.le l (hr i a b ha hb)⟩
      · show ts.length ≤ _; omega
  | R2 y =>
    have hx : CH H y.r8 t := hx
    refine b8Q _ ?_
    unfold a5a
    obtain ⟨e⟩ := y
    cases hx with
    | @mk e xs ts ys us hs hb hr hc hcb hcl hcr =>
      refine c1m hs hb fun r1 H1 l1 hS1 => ?_
      refine c8A (hc.le l1) hcb fun r2 H2 l2 hS2 => ?_
      intro s H3 l3 hS hcap
      have r0 := hr.1
      refine c6d hS (nss := [_, _]) ((u4.one (hS1.le (l2.trans l3))).app (u4.one (hS2.le l3))) ?_ (by simp [big]) fun r H4 l4 hS4 => ?_
      · simp only [List.flatten_cons, List.flatten_nil, List.append_nil, List.length_append, List.length_map]; simp only [big] at hb hcb; omega
      simp only [List.flatten_cons, List.flatten_nil, List.append_nil] at hS4
      have l14 := l1.trans (l2.trans (l3.trans l4))
      refine h r H4 _ l14 hS4 ?_ ?_
      · exact (u4.map (R := NH H4) (f := fun x => .M0 ⟨x⟩) (hr.mono fun _ _ => EH.le l14)).app (u4.map (R := NH H4) (f := fun x => .R2 ⟨x⟩) ⟨hcl, fun i a b ha hb => CH.le l14 (hcr i a b ha hb)⟩)
      · show (ts ++ us).length ≤ _; rw [List.length_append]; omega
  | P5 y =>
    have hx : SH H y.j8 t := hx
    refine b9m _ ?_
    unfold a5f
    obtain ⟨e⟩ := y
    cases hx with
    | @mk e xs ts ys us zs bs vs ws hs hb hr hc hcb hcr ha hab hal har hbs hbb hbl hbr =>
      refine c8A hc hcb fun r1 H1 l1 hS1 => ?_
      refine c1m (hs.le l1) hb fun r2 H2 l2 hS2 => ?_
      refine c1l (ha.le (l1.trans l2)) hab fun r3 H3 l3 hS3 => ?_
      refine c1l (hbs.le (l1.trans (l2.trans l3))) hbb fun r4 H4 l4 hS4 => ?_
      intro s H5 l5 hS hcap
      have r0 := hr.1
      have r0' := hcr.1
      refine c6d hS (nss := [_, _, _, _]) ((u4.one (hS1.le (l2.trans (l3.trans (l4.trans l5))))).app ((u4.one (hS2.le (l3.trans (l4.trans l5)))).app ((u4.one (hS3.le (l4.trans l5))).app (u4.one (hS4.le l5))))) ?_ (by simp [big]) fun r H6 l6 hS6 => ?_
      · simp only [List.flatten_cons, List.flatten_nil, List.append_nil, List.length_append, List.length_map]; simp only [big] at hb hcb hab hbb; omega
      simp only [List.flatten_cons, List.flatten_nil, List.append_nil] at hS6
      have l16 := l1.trans (l2.trans (l3.trans (l4.trans (l5.trans l6))))
      refine h r H6 _ l16 hS6 ?_ ?_
      · exact (u4.map (R := NH H6) (f := fun x => .R2 ⟨x⟩) (hcr.mono fun _ _ => CH.le l16)).app ((u4.map (R := NH H6) (f := fun x => .M0 ⟨x⟩) (hr.mono fun _ _ => EH.le l16)).app ((u4.map (R := NH H6) (f := fun x => .P5 ⟨x⟩) ⟨hal, fun i a b ha hb => SH.le l16 (har i a b ha hb)⟩).app (u4.map (R := NH H6) (f := fun x => .P5 ⟨x⟩) ⟨hbl, fun i a b ha hb => SH.le l16 (hbr i a b ha hb)⟩)))
      · show (us ++ (ts ++ (vs ++ ws))).length ≤ _; simp only [List.length_append]; omega
end
end Go.Proofs.YtnhkdkcgdcgmdaaGreatDoor
