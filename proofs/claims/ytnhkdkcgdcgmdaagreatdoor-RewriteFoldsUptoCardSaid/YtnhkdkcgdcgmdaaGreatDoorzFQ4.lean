/- Nodes: a list's nodes, lists put together; a node's own form, its name, its parts. Contracts off the printed formulas. -/
import Derived.Test.YtnhkdkcgdcgmdaaGreatDoorzFQ3
namespace Go.Proofs.YtnhkdkcgdcgmdaaGreatDoor
open Go.RowKit
set_option maxRecDepth 100000
set_option maxHeartbeats 2000000
def NH (H : Hp) : i5 → PT → Prop
  | .S6 y, t => t = dT y.a0l
  | .O3 y, t => SH H y.k9 t
  | .Q1 y, t => CH H y.t1 t
  | .J8 y, t => EH H y.u2 t
  | .nil, _ => False
theorem NH.le {H H' : Hp} (l : Hle H H') {x : i5} {t : PT} (h : NH H x t) : NH H' x t := by
  cases x with
  | nil => exact h
  | S6 y => exact h
  | O3 y => exact SH.le l h
  | Q1 y => exact CH.le l h
  | J8 y => exact EH.le l h
theorem d7W {α : Type} (l : List (List α)) (i : Nat) : (l.take i).flatten.length ≤ l.flatten.length := by
  have : l.flatten = (l.take i).flatten ++ (l.drop i).flatten := by rw [← List.flatten_append, List.take_append_drop]
  rw [this, List.length_append]; omega
theorem d7X {α : Type} {l : List (List α)} {i : Nat} {x : List α} (h : l[i]? = some x) : (l.take (i + 1)).flatten = (l.take i).flatten ++ x := by
  rw [N3 h, List.flatten_append]; simp
section
variable {H : Hp}
theorem e6d {s : Sl} {xs : List I3} (hs : SlH H 2 y8 s xs) (hb : xs.length ≤ big) {K : Sl → Hp → Prop} (h : ∀ (r : Sl) (H' : Hp), Hle H H' → SlH H' 1 w8 r (xs.map fun x => i5.S6 ⟨x⟩) → K r H') : P3 s H K := by
  refine a6q _ ?_
  unfold I9
  have n1 := hs.1
  refine Y6 (fun (z : List i5 × Int) H' => 0 ≤ z.2 ∧ z.2 ≤ xs.length ∧ H' = H ∧ z.1 = (xs.take z.2.toNat).map fun x => i5.S6 ⟨x⟩) (fun z => (xs.length - z.2).toNat) ⟨Int.le_refl _, by simp, rfl, by simp⟩ ?_
  rintro ⟨l, i⟩ H1 next ⟨i0, i1, rfl, hl⟩ hn
  dsimp only at i0 i1 hl ⊢
  unfold G8
  refine ⟨fun hc => ?_, fun hc => ?_⟩
  · obtain ⟨x, hx, hE⟩ := hs.get i0 hc
    have hlt := C0 hx
    refine ⟨i0, hc, x, hE, c5K _ ?_⟩
    unfold a8b
    refine ⟨?_, ?_⟩
    · rw [hl, List.length_map, List.length_take]; simp only [big] at hb; simp only [List.length_cons, List.length_nil]; omega
    · rw [B9 i0 (by simp only [big] at hb; omega)]
      refine hn _ _ ⟨by dsimp only; omega, by dsimp only; omega, rfl, ?_⟩ (by dsimp only; omega)
      dsimp only
      rw [show (i + 1).toNat = i.toNat + 1 by omega, N3 hx, List.map_append, ← hl]; rfl
  · unfold G7
    intro ss H2 l2 hss hc2
    refine h ss H2 l2 ?_
    rw [hl, List.take_of_length_le (by omega)] at hss; exact hss
theorem c3P {s : Sl} {xs : List d8} (hs : SlH H 6 g8 s xs) (hb : xs.length ≤ big) {K : Sl → Hp → Prop} (h : ∀ (r : Sl) (H' : Hp), Hle H H' → SlH H' 1 w8 r (xs.map fun x => i5.O3 ⟨x⟩) → K r H') : C2 s H K := by
  refine a6r _ ?_
  unfold J0
  have n1 := hs.1
  refine Y6 (fun (z : List i5 × Int) H' => 0 ≤ z.2 ∧ z.2 ≤ xs.length ∧ H' = H ∧ z.1 = (xs.take z.2.toNat).map fun x => i5.O3 ⟨x⟩) (fun z => (xs.length - z.2).toNat) ⟨Int.le_refl _, by simp, rfl, by simp⟩ ?_
  rintro ⟨l, i⟩ H1 next ⟨i0, i1, rfl, hl⟩ hn
  dsimp only at i0 i1 hl ⊢
  unfold H7
  refine ⟨fun hc => ?_, fun hc => ?_⟩
  · obtain ⟨x, hx, hE⟩ := hs.get i0 hc
    have hlt := C0 hx
    refine ⟨i0, hc, x, hE, c6u _ ?_⟩
    unfold a8g
    refine ⟨?_, ?_⟩
    · rw [hl, List.length_map, List.length_take]; simp only [big] at hb; simp only [List.length_cons, List.length_nil]; omega
    · rw [B9 i0 (by simp only [big] at hb; omega)]
      refine hn _ _ ⟨by dsimp only; omega, by dsimp only; omega, rfl, ?_⟩ (by dsimp only; omega)
      dsimp only
      rw [show (i + 1).toNat = i.toNat + 1 by omega, N3 hx, List.map_append, ← hl]; rfl
  · unfold G9
    intro ss H2 l2 hss hc2
    refine h ss H2 l2 ?_
    rw [hl, List.take_of_length_le (by omega)] at hss; exact hss
theorem d1L {s : Sl} {xs : List b8} (hs : SlH H 4 d6 s xs) (hb : xs.length ≤ big) {K : Sl → Hp → Prop} (h : ∀ (r : Sl) (H' : Hp), Hle H H' → SlH H' 1 w8 r (xs.map fun x => i5.Q1 ⟨x⟩) → K r H') : I8 s H K := by
  refine a6F _ ?_
  unfold J2
  have n1 := hs.1
  refine Y6 (fun (z : List i5 × Int) H' => 0 ≤ z.2 ∧ z.2 ≤ xs.length ∧ H' = H ∧ z.1 = (xs.take z.2.toNat).map fun x => i5.Q1 ⟨x⟩) (fun z => (xs.length - z.2).toNat) ⟨Int.le_refl _, by simp, rfl, by simp⟩ ?_
  rintro ⟨l, i⟩ H1 next ⟨i0, i1, rfl, hl⟩ hn
  dsimp only at i0 i1 hl ⊢
  unfold I1
  refine ⟨fun hc => ?_, fun hc => ?_⟩
  · obtain ⟨x, hx, hE⟩ := hs.get i0 hc
    have hlt := C0 hx
    refine ⟨i0, hc, x, hE, c5W _ ?_⟩
    unfold a8e
    refine ⟨?_, ?_⟩
    · rw [hl, List.length_map, List.length_take]; simp only [big] at hb; simp only [List.length_cons, List.length_nil]; omega
    · rw [B9 i0 (by simp only [big] at hb; omega)]
      refine hn _ _ ⟨by dsimp only; omega, by dsimp only; omega, rfl, ?_⟩ (by dsimp only; omega)
      dsimp only
      rw [show (i + 1).toNat = i.toNat + 1 by omega, N3 hx, List.map_append, ← hl]; rfl
  · unfold I0
    intro ss H2 l2 hss hc2
    refine h ss H2 l2 ?_
    rw [hl, List.take_of_length_le (by omega)] at hss; exact hss
theorem c3Q {s : Sl} {xs : List a8} (hs : SlH H 4 b7 s xs) (hb : xs.length ≤ big) {K : Sl → Hp → Prop} (h : ∀ (r : Sl) (H' : Hp), Hle H H' → SlH H' 1 w8 r (xs.map fun x => i5.J8 ⟨x⟩) → K r H') : C3 s H K := by
  refine a6C _ ?_
  unfold J1
  have n1 := hs.1
  refine Y6 (fun (z : List i5 × Int) H' => 0 ≤ z.2 ∧ z.2 ≤ xs.length ∧ H' = H ∧ z.1 = (xs.take z.2.toNat).map fun x => i5.J8 ⟨x⟩) (fun z => (xs.length - z.2).toNat) ⟨Int.le_refl _, by simp, rfl, by simp⟩ ?_
  rintro ⟨l, i⟩ H1 next ⟨i0, i1, rfl, hl⟩ hn
  dsimp only at i0 i1 hl ⊢
  unfold H9
  refine ⟨fun hc => ?_, fun hc => ?_⟩
  · obtain ⟨x, hx, hE⟩ := hs.get i0 hc
    have hlt := C0 hx
    refine ⟨i0, hc, x, hE, c6C _ ?_⟩
    unfold a8i
    refine ⟨?_, ?_⟩
    · rw [hl, List.length_map, List.length_take]; simp only [big] at hb; simp only [List.length_cons, List.length_nil]; omega
    · rw [B9 i0 (by simp only [big] at hb; omega)]
      refine hn _ _ ⟨by dsimp only; omega, by dsimp only; omega, rfl, ?_⟩ (by dsimp only; omega)
      dsimp only
      rw [show (i + 1).toNat = i.toNat + 1 by omega, N3 hx, List.map_append, ← hl]; rfl
  · unfold H8
    intro ss H2 l2 hss hc2
    refine h ss H2 l2 ?_
    rw [hl, List.take_of_length_le (by omega)] at hss; exact hss
theorem d7Y (a : Option Addr) (n c : Nat) : Pu Tryz.prog (xBuiltin .cap #[137] 3 [false] [.slice a n c]) (.int .i64 (c : Int)) := by
  have e' : Program.elem Tryz.prog 137 = 150 := by simp [Program.elem, Tryz.underlying137]
  have : xBuiltin .cap #[137] 3 [false] [.slice a n c] = xV (Builtin.cap_ #[137] 3 #[.slice a n c]) := rfl
  rw [this]
  exact Pu.ok fun w => run_cap_slice (P := Tryz.prog) (w := w) 137 3 a n c (by rw [e']; exact Tryz.underlying137)
theorem g9B {n : Int} (h0 : 0 ≤ n) (hb : n * 17 ≤ 140737488355328) {K : List i5 → Hp → Prop} (h : K [] H) : a0i n H K := by
  intro w I
  refine g7W ?_
  unfold f8O
  refine t6 fun j1 hx1 => ?_
  refine a7 (w9 _ _ _ _ _ _) ?_
  refine o0 (fun c => ?_) (fun c => ?_)
  · have := of_decide_eq_true c; omega
  refine hx1 _ _ ?_
  unfold e6z
  intro _
  refine t6 fun j2 hx2 => ?_
  refine a7 (d7Y _ _ _) ?_
  refine a7 (b9n _ _ _) ?_
  refine a7 (b2r _ _ _ _ _ _) ?_
  refine a7 (b2r _ _ _ _ _ _) ?_
  rw [show IntKind.wrap .i64 (n - IntKind.wrap .i64 (((0 : Nat) : Int) - ((0 : Nat) : Int))) = n by
    rw [show IntKind.wrap .i64 (((0 : Nat) : Int) - ((0 : Nat) : Int)) = 0 by decide, Int.sub_zero]; exact M5 ⟨by omega, by omega⟩]
  refine a7 (a4M _ _ _ _ _ _) ?_
  refine o0 (fun c => ?_) (fun c => ?_)
  · have hp := of_decide_eq_true c
    refine a7 (d7Y _ _ _) ?_
    refine a7 (d9U (e := 150) (sz := 1) Tryz.underlying137 Tryz.sizeOf150 (s := ⟨none, 0, 0⟩) (h := ((0 : Nat) : Int)) (by decide) (by decide)) ?_
    refine h5C (z := Value.nilIface) (bytes := 16) (kn := .i64) Tryz.underlying137 Tryz.underlying3 e6q (by kernel_rfl) (by kernel_rfl) (by kernel_rfl) (by kernel_rfl) (by decide) T6 V6 I hp hb fun g m F' w' hr I' => ?_
    refine a7 (b9n _ _ _) ?_
    refine a7 (d9U (e := 150) (sz := 1) Tryz.underlying137 Tryz.sizeOf150 (s := ⟨some ⟨g, 0, none⟩, n.toNat, m⟩) (h := ((0 : Nat) : Int)) (by decide) (by simp)) ?_
    refine hx2 _ _ ?_
    unfold d6z
    intro _
    refine ⟨H, _, I', [], ⟨some ⟨g, 0, none⟩, 0, m⟩, F', ?_, rfl, hr, h⟩
    simp [Sl.cut, Addr.add, nth]
  · refine hx2 _ _ ?_
    unfold d6z
    intro _
    exact ⟨H, _, I.nil, [], ⟨none, 0, 0⟩, [], rfl, rfl, RowL.nil T6 V6, h⟩
theorem c9i {s : Sl} {ss : List Sl} {nss : List (List i5)} (hs : SlH H 1 csl s ss) (hr : u6 (SlH H 1 w8) ss nss) (hb : nss.flatten.length * 17 ≤ 140737488355328) (hss : ss.length ≤ big) {K : Sl → Hp → Prop}
    (h : ∀ (r : Sl) (H' : Hp), Hle H H' → SlH H' 1 w8 r nss.flatten → K r H') : I2 s H K := by
  refine a8y _ ?_
  unfold M9
  have n1 := hs.1; have r1 := hr.1
  refine Y6 (fun (z : Int × Int) H' => 0 ≤ z.2 ∧ z.2 ≤ ss.length ∧ H' = H ∧ z.1 = ((nss.take z.2.toNat).flatten.length : Int)) (fun z => (ss.length - z.2).toNat) ⟨Int.le_refl _, by simp, rfl, by simp⟩ ?_
  rintro ⟨q, i⟩ H1 next ⟨i0, i1, rfl, hq⟩ hn
  dsimp only at i0 i1 hq ⊢
  subst hq
  unfold L2
  refine ⟨fun hc => ?_, fun hc => ?_⟩
  · obtain ⟨x, hx, hE⟩ := hs.get i0 hc
    obtain ⟨ns, hns, hS⟩ := hr.get hx
    have hlt := C0 hx
    have e1 := d7X hns
    have e2 := d7W nss (i.toNat + 1)
    have e3 : (nss.take (i.toNat + 1)).flatten.length = (nss.take i.toNat).flatten.length + ns.length := by rw [e1, List.length_append]
    have e4 : IntKind.wrap .i64 (((nss.take i.toNat).flatten.length : Int) + (x.n : Int)) = ((nss.take (i.toNat + 1)).flatten.length : Int) := by
      rw [M5 ⟨by omega, by have := hS.1; omega⟩]
      have := hS.1; omega
    refine ⟨i0, hc, x, hE, ?_⟩
    rw [e4]
    refine ⟨fun hneg => by omega, fun _ => ?_⟩
    unfold K8
    rw [B9 i0 (by simp only [big] at hss; omega)]
    refine hn _ _ ⟨by dsimp only; omega, by dsimp only; omega, rfl, ?_⟩ (by dsimp only; omega)
    dsimp only
    rw [show (i + 1).toNat = i.toNat + 1 by omega]
  · rw [List.take_of_length_le (by omega)]
    clear hn next
    unfold L1
    refine g9B (by omega) (by omega) ?_
    refine Y6 (fun (z : List i5 × Int) H' => 0 ≤ z.2 ∧ z.2 ≤ ss.length ∧ H' = H1 ∧ z.1 = (nss.take z.2.toNat).flatten) (fun z => (ss.length - z.2).toNat) ⟨Int.le_refl _, by simp, rfl, by simp⟩ ?_
    rintro ⟨q, j⟩ H2 next ⟨j0, j1, rfl, hq⟩ hn
    dsimp only at j0 j1 hq ⊢
    subst hq
    unfold L0
    refine ⟨fun hc => ?_, fun hc => ?_⟩
    · obtain ⟨x, hx, hE⟩ := hs.get j0 hc
      obtain ⟨ns, hns, hS⟩ := hr.get hx
      have hlt := C0 hx
      have e1 := d7X hns
      have e2 := d7W nss (j.toNat + 1)
      have e3 : (nss.take (j.toNat + 1)).flatten.length = (nss.take j.toNat).flatten.length + ns.length := by rw [e1, List.length_append]
      refine ⟨j0, hc, x, hE, ns, hS, by omega, ?_⟩
      rw [B9 j0 (by simp only [big] at hss; omega), ← e1]
      refine hn _ _ ⟨by dsimp only; omega, by dsimp only; omega, rfl, ?_⟩ (by dsimp only; omega)
      dsimp only
      rw [show (j + 1).toNat = j.toNat + 1 by omega]
    · unfold K9
      intro r H3 l3 hS _
      rw [List.take_of_length_le (by omega)] at hS
      exact h r H3 l3 hS
def nameL : Lab → ByteArray × Bool
  | .decl _ s => (s, true)
  | .stmt k s _ _ _ _ => (s, decide (k = 1) || decide (k = 2))
  | .cond .. => (⟨#[]⟩, false)
  | .expr k _ s _ => (s, decide (k = 2) || decide (k = 4))
theorem e6N {x : i5} {t : PT} (hx : NH H x t) {K : ByteArray → Bool → Hp → Prop} (h : K (nameL t.lab).1 (nameL t.lab).2 H) : a7f x H K := by
  refine c8R _ ?_
  unfold a9C
  cases x with
  | nil => exact hx.elim
  | S6 y =>
    cases (show t = dT y.a0l from hx)
    exact ⟨fun _ => h, fun q => (by cases q)⟩
  | O3 y =>
    cases (show SH H y.k9 t from hx)
    exact ⟨fun q => (by cases q), fun _ => ⟨fun _ => h, fun q => (by cases q)⟩⟩
  | J8 y =>
    cases (show EH H y.u2 t from hx)
    exact ⟨fun q => (by cases q), fun _ => ⟨fun q => (by cases q), fun _ => ⟨fun _ => h, fun q => (by cases q)⟩⟩⟩
  | Q1 y =>
    cases (show CH H y.t1 t from hx)
    exact ⟨fun q => (by cases q), fun _ => ⟨fun q => (by cases q), fun _ => ⟨fun q => (by cases q), fun _ => h⟩⟩⟩
def formE (k n : Int) (s : ByteArray) (a : Int) : Bool :=
  if (((!decide (k = 1)) && (!decide (n = 0))) || ((!(decide (k = 2) || decide (k = 4))) && (!decide (s = ⟨#[]⟩)))) = true then false
  else if k = 1 then decide (0 ≤ n) && decide (a = 0)
  else if k = 2 ∨ k = 3 then decide (a = 0)
  else if k = 4 ∨ k = 5 then decide (a = 1)
  else if k = 6 ∨ k = 7 ∨ k = 8 ∨ k = 9 ∨ k = 10 then decide (a = 2) else false
def formC (k op e p : Int) : Bool :=
  if k = 3 then (decide (1 ≤ op) && decide (op ≤ 6)) && decide (e = 2 ∧ p = 0)
  else if op = 0 then
    (if k = 1 ∨ k = 2 then decide (e = 0 ∧ p = 0) else if k = 4 then decide (e = 0 ∧ p = 1) else if k = 5 ∨ k = 6 then decide (e = 0 ∧ p = 2) else false)
  else false
def formS (k : Int) (s : ByteArray) (e c t f : Int) : Bool :=
  if k = 1 then !decide (0 < t + f) && decide (e = 1 ∧ c = 0)
  else if k = 2 then !decide (0 < t + f) && decide (e = 2 ∧ c = 0)
  else if k = 3 then decide (s = ⟨#[]⟩) && decide (e = 0 ∧ c = 1)
  else if k = 4 then decide (s = ⟨#[]⟩) && decide (f = 0) && decide (e = 0 ∧ c = 1)
  else if k = 5 ∨ k = 6 then (decide (s = ⟨#[]⟩) && !decide (0 < t + f)) && decide (e = 0 ∧ c = 1)
  else if k = 7 then (decide (s = ⟨#[]⟩) && !decide (0 < t + f)) && decide (e = 0 ∧ c = 0)
  else false
def formL : Lab → Bool
  | .decl z _ => decide (0 ≤ z) && decide (z ≤ 2147483647)
  | .stmt k s e c t f => formS k s e c t f
  | .cond k op e p => formC k op e p
  | .expr k n s a => formE k n s a
theorem d0t {α : Type} {b : Bool} {q : Prop} [Decidable q] (hb : b = true ↔ q) (x y : α) : (if b = true then x else y) = if q then x else y := by
  by_cases hq : q
  · rw [if_pos (hb.2 hq), if_pos hq]
  · rw [if_neg (fun e => hq (hb.1 e)), if_neg hq]
theorem ej3 {a : Int} {b : Bool} {x : M2} {K : Bool → Hp → Prop} (h : K (if b = true then decide (a = 2) else false) H) : L3 a b x H K := by
  unfold L3
  cases b
  · exact ⟨fun q => (by cases q), fun _ => h⟩
  · exact ⟨fun _ => h, fun q => (by cases q)⟩
theorem ej2 {a k : Int} {b : Bool} {x : M2} {K : Bool → Hp → Prop} (h : K (if b = true then decide (a = 1) else if k = 6 ∨ k = 7 ∨ k = 8 ∨ k = 9 ∨ k = 10 then decide (a = 2) else false) H) : W0 a k b x H K := by
  unfold W0
  cases b
  · refine ⟨fun q => (by cases q), fun _ => ?_⟩
    rw [if_neg (by decide)] at h
    refine ⟨fun e => ej3 ?_, fun e1 => ⟨fun e => ej3 ?_, fun e2 => ⟨fun e => ej3 ?_, fun e3 => ⟨fun e => ej3 ?_, fun e4 => ej3 ?_⟩⟩⟩⟩ <;>
      (rw [d0t (q := k = 6 ∨ k = 7 ∨ k = 8 ∨ k = 9 ∨ k = 10) (by rw [decide_eq_true_eq]; omega)]; exact h)
  · exact ⟨fun _ => h, fun q => (by cases q)⟩
theorem ej1 {a k : Int} {b : Bool} {x : M2} {K : Bool → Hp → Prop} (h : K (if b = true then decide (a = 0) else if k = 4 ∨ k = 5 then decide (a = 1) else if k = 6 ∨ k = 7 ∨ k = 8 ∨ k = 9 ∨ k = 10 then decide (a = 2) else false) H) : W1 a k b x H K := by
  unfold W1
  cases b
  · refine ⟨fun q => (by cases q), fun _ => ?_⟩
    rw [if_neg (by decide)] at h
    refine ⟨fun e => ej2 ?_, fun e1 => ej2 ?_⟩ <;>
      (rw [d0t (q := k = 4 ∨ k = 5) (by rw [decide_eq_true_eq]; omega)]; exact h)
  · exact ⟨fun _ => h, fun q => (by cases q)⟩
theorem g0E {e : a8} {t : PT} (he : EH H e t) {K : Bool → Hp → Prop} (h : K (formL t.lab) H) : a9f ⟨e⟩ H K := by
  refine c2l _ ?_
  unfold a5O
  refine e6N (x := .J8 ⟨e⟩) (t := t) he ?_
  cases he with
  | @mk e xs ts hs hb hl hr =>
    have hn : e.i4.n = ts.length := by have := hs.1; omega
    change K (formE e.b6 e.m8 e.g7 (ts.length : Int)) H at h
    unfold formE at h
    dsimp only [PT.lab, nameL]
    rw [hn]
    generalize (ts.length : Int) = a at h ⊢
    refine ⟨fun hg => by rw [if_pos hg] at h; exact h, fun hg => ?_⟩
    rw [if_neg (by rw [hg]; decide)] at h
    refine ⟨fun e1 => by rw [if_pos e1] at h; exact h, fun e1 => ?_⟩
    rw [if_neg e1] at h
    refine ⟨fun e2 => ej1 ?_, fun e2 => ej1 ?_⟩ <;>
      (rw [d0t (q := e.b6 = 2 ∨ e.b6 = 3) (by rw [decide_eq_true_eq]; omega)]; exact h)
theorem cj2 {b : Bool} {y : P2} {x : R7} {K : Bool → Hp → Prop} (h : K (if b = true then decide (y.fexprs = 0 ∧ y.fparts = 2) else false) H) : V7 b y x H K := by
  unfold V7
  cases b
  · exact ⟨fun q => (by cases q), fun _ => h⟩
  · exact ⟨fun _ => h, fun q => (by cases q)⟩
theorem cj1 {k : Int} {b : Bool} {y : P2} {x : R7} {K : Bool → Hp → Prop} (h : K (if b = true then decide (y.fexprs = 0 ∧ y.fparts = 0) else if k = 4 then decide (y.fexprs = 0 ∧ y.fparts = 1) else if k = 5 ∨ k = 6 then decide (y.fexprs = 0 ∧ y.fparts = 2) else false) H) : V8 k b y x H K := by
  unfold V8
  cases b
  · refine ⟨fun q => (by cases q), fun _ => ?_⟩
    rw [if_neg (by decide)] at h
    refine ⟨fun e => by rw [if_pos e] at h; exact h, fun e => ?_⟩
    rw [if_neg e] at h
    refine ⟨fun e2 => cj2 ?_, fun e2 => cj2 ?_⟩ <;>
      (rw [d0t (q := k = 5 ∨ k = 6) (by rw [decide_eq_true_eq]; omega)]; exact h)
  · exact ⟨fun _ => h, fun q => (by cases q)⟩
theorem g0F {e : b8} {t : PT} (he : CH H e t) {K : Bool → Hp → Prop} (h : K (formL t.lab) H) : a9g ⟨e⟩ H K := by
  refine c2j _ ?_
  unfold a5M
  cases he with
  | @mk e xs ts ys us hs hb hr hc hcb hcl hcr =>
    have hn : e.i6.n = ts.length := by have := hs.1; have := hr.1; omega
    have hm : e.p8.n = us.length := by have := hc.1; omega
    change K (formC e.b6 e.fOp (ts.length : Int) (us.length : Int)) H at h
    unfold formC at h
    dsimp only
    rw [hn, hm]
    generalize (ts.length : Int) = a at h ⊢
    generalize (us.length : Int) = b at h ⊢
    refine ⟨fun e1 => by rw [if_pos e1] at h; exact h, fun e1 => ?_⟩
    rw [if_neg e1] at h
    refine ⟨fun e2 => by rw [if_neg e2] at h; exact h, fun e2 => ?_⟩
    rw [if_pos e2] at h
    refine ⟨fun e3 => cj1 ?_, fun e3 => cj1 ?_⟩ <;>
      (rw [d0t (q := e.b6 = 1 ∨ e.b6 = 2) (by rw [decide_eq_true_eq]; omega)]; exact h)
theorem sj1 {v : Bool} {k : Int} {b : Bool} {y : X0} {x : W3} {K : Bool → Hp → Prop} (h : K (if b = true then v && decide (y.fexprs = 0 ∧ y.fconds = 1) else if k = 7 then v && decide (y.fexprs = 0 ∧ y.fconds = 0) else false) H) : V9 v k b y x H K := by
  unfold V9
  cases b
  · refine ⟨fun q => (by cases q), fun _ => ?_⟩
    rw [if_neg (by decide)] at h
    exact ⟨fun e => by rw [if_pos e] at h; exact h, fun e => by rw [if_neg e] at h; exact h⟩
  · exact ⟨fun _ => h, fun q => (by cases q)⟩
theorem g0G {e : d8} {t : PT} (he : SH H e t) {K : Bool → Hp → Prop} (h : K (formL t.lab) H) : a9h ⟨e⟩ H K := by
  refine c2k _ ?_
  unfold a5N
  cases he with
  | @mk e xs ts ys us zs bs vs ws hs hb hr hc hcb hcr ha hab hal har hbs hbb hbl hbr =>
    have n1 : e.i6.n = ts.length := by have := hs.1; have := hr.1; omega
    have n2 : e.m9.n = us.length := by have := hc.1; have := hcr.1; omega
    have n3 : e.v7.n = vs.length := by have := ha.1; omega
    have n4 : e.t7.n = ws.length := by have := hbs.1; omega
    change K (formS e.b6 e.g7 (ts.length : Int) (us.length : Int) (vs.length : Int) (ws.length : Int)) H at h
    unfold formS at h
    dsimp only
    rw [n1, n2, n3, n4, M5 (a := (vs.length : Int) + (ws.length : Int)) ⟨by omega, by simp only [big] at hab hbb; omega⟩]
    generalize (ts.length : Int) = a at h ⊢
    generalize (us.length : Int) = b at h ⊢
    generalize (vs.length : Int) = c at h ⊢
    generalize (ws.length : Int) = d at h ⊢
    refine ⟨fun e1 => by rw [if_pos e1] at h; exact h, fun e1 => ?_⟩
    rw [if_neg e1] at h
    refine ⟨fun e1 => by rw [if_pos e1] at h; exact h, fun e2 => ?_⟩
    rw [if_neg e2] at h
    refine ⟨fun e1 => by rw [if_pos e1] at h; exact h, fun e3 => ?_⟩
    rw [if_neg e3] at h
    refine ⟨fun e1 => by rw [if_pos e1] at h; exact h, fun e4 => ?_⟩
    rw [if_neg e4] at h
    refine ⟨fun e5 => sj1 ?_, fun e5 => sj1 ?_⟩ <;>
      (rw [d0t (q := e.b6 = 5 ∨ e.b6 = 6) (by rw [decide_eq_true_eq]; omega)]; exact h)
theorem g9C {x : i5} {t : PT} (hx : NH H x t) {K : Bool → Hp → Prop} (h : K (formL t.lab) H) : b1o x H K := by
  cases x with
  | nil => exact hx.elim
  | J8 y => exact g0E hx h
  | Q1 y => exact g0F hx h
  | O3 y => exact g0G hx h
  | S6 y =>
    cases (show t = dT y.a0l from hx)
    refine c2g _ ?_
    unfold a5K
    exact h
theorem g0H {x : i5} {t : PT} (hx : NH H x t) {K : Sl → Hp → Prop} (h : ∀ (r : Sl) (H' : Hp) (ns : List i5), Hle H H' → SlH H' 1 w8 r ns → u6 (NH H') ns t.kids → t.kids.length ≤ 4 * big → K r H') : b0J x H K := by
  cases x with
  | nil => exact hx.elim
  | S6 y =>
    cases (show t = dT y.a0l from hx)
    refine c0X _ ?_
    unfold a5i
    exact h _ _ [] (Hle.refl _) (SlH.nil _ _ _) u6.nil (Nat.zero_le _)
  | J8 y =>
    have hx : EH H y.u2 t := hx
    refine c0M _ ?_
    unfold a5f
    obtain ⟨e⟩ := y
    cases hx with
    | @mk e xs ts hs hb hl hr =>
      refine c3Q hs hb fun r H' l hS => h r H' _ l hS ?_ ?_
      · exact u6.map ⟨hl, fun i a b ha hb => EH.le l (hr i a b ha hb)⟩
      · show ts.length ≤ _; omega
  | Q1 y =>
    have hx : CH H y.t1 t := hx
    refine c0P _ ?_
    unfold a5g
    obtain ⟨e⟩ := y
    cases hx with
    | @mk e xs ts ys us hs hb hr hc hcb hcl hcr =>
      refine c3Q hs hb fun r1 H1 l1 hS1 => ?_
      refine d1L (hc.le l1) hcb fun r2 H2 l2 hS2 => ?_
      intro s H3 l3 hS hcap
      have r0 := hr.1
      refine c9i hS (nss := [_, _]) ((u6.one (hS1.le (l2.trans l3))).app (u6.one (hS2.le l3))) ?_ (by simp [big]) fun r H4 l4 hS4 => ?_
      · simp only [List.flatten_cons, List.flatten_nil, List.append_nil, List.length_append, List.length_map]; simp only [big] at hb hcb; omega
      simp only [List.flatten_cons, List.flatten_nil, List.append_nil] at hS4
      have l14 := l1.trans (l2.trans (l3.trans l4))
      refine h r H4 _ l14 hS4 ?_ ?_
      · exact (u6.map (R := NH H4) (f := fun x => .J8 ⟨x⟩) (hr.mono fun _ _ => EH.le l14)).app (u6.map (R := NH H4) (f := fun x => .Q1 ⟨x⟩) ⟨hcl, fun i a b ha hb => CH.le l14 (hcr i a b ha hb)⟩)
      · show (ts ++ us).length ≤ _; rw [List.length_append]; omega
  | O3 y =>
    have hx : SH H y.k9 t := hx
    refine c1i _ ?_
    unfold a5k
    obtain ⟨e⟩ := y
    cases hx with
    | @mk e xs ts ys us zs bs vs ws hs hb hr hc hcb hcr ha hab hal har hbs hbb hbl hbr =>
      refine d1L hc hcb fun r1 H1 l1 hS1 => ?_
      refine c3Q (hs.le l1) hb fun r2 H2 l2 hS2 => ?_
      refine c3P (ha.le (l1.trans l2)) hab fun r3 H3 l3 hS3 => ?_
      refine c3P (hbs.le (l1.trans (l2.trans l3))) hbb fun r4 H4 l4 hS4 => ?_
      intro s H5 l5 hS hcap
      have r0 := hr.1
      have r0' := hcr.1
      refine c9i hS (nss := [_, _, _, _]) ((u6.one (hS1.le (l2.trans (l3.trans (l4.trans l5))))).app ((u6.one (hS2.le (l3.trans (l4.trans l5)))).app ((u6.one (hS3.le (l4.trans l5))).app (u6.one (hS4.le l5))))) ?_ (by simp [big]) fun r H6 l6 hS6 => ?_
      · simp only [List.flatten_cons, List.flatten_nil, List.append_nil, List.length_append, List.length_map]; simp only [big] at hb hcb hab hbb; omega
      simp only [List.flatten_cons, List.flatten_nil, List.append_nil] at hS6
      have l16 := l1.trans (l2.trans (l3.trans (l4.trans (l5.trans l6))))
      refine h r H6 _ l16 hS6 ?_ ?_
      · exact (u6.map (R := NH H6) (f := fun x => .Q1 ⟨x⟩) (hcr.mono fun _ _ => CH.le l16)).app ((u6.map (R := NH H6) (f := fun x => .J8 ⟨x⟩) (hr.mono fun _ _ => EH.le l16)).app ((u6.map (R := NH H6) (f := fun x => .O3 ⟨x⟩) ⟨hal, fun i a b ha hb => SH.le l16 (har i a b ha hb)⟩).app (u6.map (R := NH H6) (f := fun x => .O3 ⟨x⟩) ⟨hbl, fun i a b ha hb => SH.le l16 (hbr i a b ha hb)⟩)))
      · show (us ++ (ts ++ (vs ++ ws))).length ≤ _; simp only [List.length_append]; omega
end
end Go.Proofs.YtnhkdkcgdcgmdaaGreatDoor
