/- Nodes: a list's nodes, lists put together; a node's own form, its name, its parts. Contracts off the printed formulas. -/
import Derived.Test.YtaokfhdinhimfaaDooryTQ3
namespace Go.Proofs.YtaokfhdinhimfaaDoor
open Go.RowKit
set_option maxRecDepth 100000
set_option maxHeartbeats 2000000
def NH (H : Hp) : c7 → PT → Prop
  | .A6 y, t => t = dT y.M0
  | .v7 y, t => SH H y.d6 t
  | .B3 y, t => CH H y.j6 t
  | .u7 y, t => EH H y.j9 t
  | .nil, _ => False
theorem NH.le {H H' : Hp} (l : Hle H H') {x : c7} {t : PT} (h : NH H x t) : NH H' x t := by
  cases x with
  | nil => exact h
  | A6 y => exact h
  | v7 y => exact SH.le l h
  | B3 y => exact CH.le l h
  | u7 y => exact EH.le l h
theorem a8s {α : Type} (l : List (List α)) (i : Nat) : (l.take i).flatten.length ≤ l.flatten.length := by
  have : l.flatten = (l.take i).flatten ++ (l.drop i).flatten := by rw [← List.flatten_append, List.take_append_drop]
  rw [this, List.length_append]; omega
theorem a8t {α : Type} {l : List (List α)} {i : Nat} {x : List α} (h : l[i]? = some x) : (l.take (i + 1)).flatten = (l.take i).flatten ++ x := by
  rw [G2 h, List.flatten_append]; simp
section
variable {H : Hp}
theorem b0x {s : Sl} {xs : List i8} (hs : SlH H 2 f7 s xs) (hb : xs.length ≤ big) {K : Sl → Hp → Prop} (h : ∀ (r : Sl) (H' : Hp), Hle H H' → SlH H' 1 j8 r (xs.map fun x => c7.A6 ⟨x⟩) → K r H') : y3 s H K := by
  refine P2 _ ?_
  unfold y6
  have n1 := hs.1
  refine Y7 (fun (z : List c7 × Int) H' => 0 ≤ z.2 ∧ z.2 ≤ xs.length ∧ H' = H ∧ z.1 = (xs.take z.2.toNat).map fun x => c7.A6 ⟨x⟩) (fun z => (xs.length - z.2).toNat) ⟨Int.le_refl _, by simp, rfl, by simp⟩ ?_
  rintro ⟨l, i⟩ H1 next ⟨i0, i1, rfl, hl⟩ hn
  dsimp only at i0 i1 hl ⊢
  unfold q5
  refine ⟨fun hc => ?_, fun hc => ?_⟩
  · obtain ⟨x, hx, hE⟩ := hs.get i0 hc
    have hlt := D1 hx
    refine ⟨i0, hc, x, hE, a5o _ ?_⟩
    unfold a0p
    refine ⟨?_, ?_⟩
    · rw [hl, List.length_map, List.length_take]; simp only [big] at hb; simp only [List.length_cons, List.length_nil]; omega
    · rw [B0 i0 (by simp only [big] at hb; omega)]
      refine hn _ _ ⟨by dsimp only; omega, by dsimp only; omega, rfl, ?_⟩ (by dsimp only; omega)
      dsimp only
      rw [show (i + 1).toNat = i.toNat + 1 by omega, G2 hx, List.map_append, ← hl]; rfl
  · unfold p9
    intro ss H2 l2 hss hc2
    refine h ss H2 l2 ?_
    rw [hl, List.take_of_length_le (by omega)] at hss; exact hss
theorem a4C {s : Sl} {xs : List l9} (hs : SlH H 6 l0 s xs) (hb : xs.length ≤ big) {K : Sl → Hp → Prop} (h : ∀ (r : Sl) (H' : Hp), Hle H H' → SlH H' 1 j8 r (xs.map fun x => c7.v7 ⟨x⟩) → K r H') : m8 s H K := by
  refine P3 _ ?_
  unfold y7
  have n1 := hs.1
  refine Y7 (fun (z : List c7 × Int) H' => 0 ≤ z.2 ∧ z.2 ≤ xs.length ∧ H' = H ∧ z.1 = (xs.take z.2.toNat).map fun x => c7.v7 ⟨x⟩) (fun z => (xs.length - z.2).toNat) ⟨Int.le_refl _, by simp, rfl, by simp⟩ ?_
  rintro ⟨l, i⟩ H1 next ⟨i0, i1, rfl, hl⟩ hn
  dsimp only at i0 i1 hl ⊢
  unfold q7
  refine ⟨fun hc => ?_, fun hc => ?_⟩
  · obtain ⟨x, hx, hE⟩ := hs.get i0 hc
    have hlt := D1 hx
    refine ⟨i0, hc, x, hE, a5i _ ?_⟩
    unfold a0j
    refine ⟨?_, ?_⟩
    · rw [hl, List.length_map, List.length_take]; simp only [big] at hb; simp only [List.length_cons, List.length_nil]; omega
    · rw [B0 i0 (by simp only [big] at hb; omega)]
      refine hn _ _ ⟨by dsimp only; omega, by dsimp only; omega, rfl, ?_⟩ (by dsimp only; omega)
      dsimp only
      rw [show (i + 1).toNat = i.toNat + 1 by omega, G2 hx, List.map_append, ← hl]; rfl
  · unfold q6
    intro ss H2 l2 hss hc2
    refine h ss H2 l2 ?_
    rw [hl, List.take_of_length_le (by omega)] at hss; exact hss
theorem a6S {s : Sl} {xs : List m2} (hs : SlH H 4 i4 s xs) (hb : xs.length ≤ big) {K : Sl → Hp → Prop} (h : ∀ (r : Sl) (H' : Hp), Hle H H' → SlH H' 1 j8 r (xs.map fun x => c7.B3 ⟨x⟩) → K r H') : r8 s H K := by
  refine O9 _ ?_
  unfold y5
  have n1 := hs.1
  refine Y7 (fun (z : List c7 × Int) H' => 0 ≤ z.2 ∧ z.2 ≤ xs.length ∧ H' = H ∧ z.1 = (xs.take z.2.toNat).map fun x => c7.B3 ⟨x⟩) (fun z => (xs.length - z.2).toNat) ⟨Int.le_refl _, by simp, rfl, by simp⟩ ?_
  rintro ⟨l, i⟩ H1 next ⟨i0, i1, rfl, hl⟩ hn
  dsimp only at i0 i1 hl ⊢
  unfold p8
  refine ⟨fun hc => ?_, fun hc => ?_⟩
  · obtain ⟨x, hx, hE⟩ := hs.get i0 hc
    have hlt := D1 hx
    refine ⟨i0, hc, x, hE, a5m _ ?_⟩
    unfold a0l
    refine ⟨?_, ?_⟩
    · rw [hl, List.length_map, List.length_take]; simp only [big] at hb; simp only [List.length_cons, List.length_nil]; omega
    · rw [B0 i0 (by simp only [big] at hb; omega)]
      refine hn _ _ ⟨by dsimp only; omega, by dsimp only; omega, rfl, ?_⟩ (by dsimp only; omega)
      dsimp only
      rw [show (i + 1).toNat = i.toNat + 1 by omega, G2 hx, List.map_append, ← hl]; rfl
  · unfold p7
    intro ss H2 l2 hss hc2
    refine h ss H2 l2 ?_
    rw [hl, List.take_of_length_le (by omega)] at hss; exact hss
theorem a4D {s : Sl} {xs : List d8} (hs : SlH H 4 d9 s xs) (hb : xs.length ≤ big) {K : Sl → Hp → Prop} (h : ∀ (r : Sl) (H' : Hp), Hle H H' → SlH H' 1 j8 r (xs.map fun x => c7.u7 ⟨x⟩) → K r H') : m9 s H K := by
  refine P5 _ ?_
  unfold y9
  have n1 := hs.1
  refine Y7 (fun (z : List c7 × Int) H' => 0 ≤ z.2 ∧ z.2 ≤ xs.length ∧ H' = H ∧ z.1 = (xs.take z.2.toNat).map fun x => c7.u7 ⟨x⟩) (fun z => (xs.length - z.2).toNat) ⟨Int.le_refl _, by simp, rfl, by simp⟩ ?_
  rintro ⟨l, i⟩ H1 next ⟨i0, i1, rfl, hl⟩ hn
  dsimp only at i0 i1 hl ⊢
  unfold q9
  refine ⟨fun hc => ?_, fun hc => ?_⟩
  · obtain ⟨x, hx, hE⟩ := hs.get i0 hc
    have hlt := D1 hx
    refine ⟨i0, hc, x, hE, a5A _ ?_⟩
    unfold a0r
    refine ⟨?_, ?_⟩
    · rw [hl, List.length_map, List.length_take]; simp only [big] at hb; simp only [List.length_cons, List.length_nil]; omega
    · rw [B0 i0 (by simp only [big] at hb; omega)]
      refine hn _ _ ⟨by dsimp only; omega, by dsimp only; omega, rfl, ?_⟩ (by dsimp only; omega)
      dsimp only
      rw [show (i + 1).toNat = i.toNat + 1 by omega, G2 hx, List.map_append, ← hl]; rfl
  · unfold q8
    intro ss H2 l2 hss hc2
    refine h ss H2 l2 ?_
    rw [hl, List.take_of_length_le (by omega)] at hss; exact hss
theorem a8u (a : Option Addr) (n c : Nat) : Pu Tryd.prog (xBuiltin .cap #[123] 3 [false] [.slice a n c]) (.int .i64 (c : Int)) := by
  have e' : Program.elem Tryd.prog 123 = 126 := by simp [Program.elem, Tryd.underlying123]
  have : xBuiltin .cap #[123] 3 [false] [.slice a n c] = xV (Builtin.cap_ #[123] 3 #[.slice a n c]) := rfl
  rw [this]
  exact Pu.ok fun w => run_cap_slice (P := Tryd.prog) (w := w) 123 3 a n c (by rw [e']; exact Tryd.underlying123)
theorem b4Q {n : Int} (h0 : 0 ≤ n) (hb : n * 17 ≤ 140737488355328) {K : List c7 → Hp → Prop} (h : K [] H) : D9 n H K := by
  intro w I
  refine b6q ?_
  unfold F62
  refine s7 fun j1 hx1 => ?_
  refine c5 (B7 _ _ _ _ _ _) ?_
  refine Z7 (fun c => ?_) (fun c => ?_)
  · have := of_decide_eq_true c; omega
  refine hx1 _ _ ?_
  unfold b2u
  intro _
  refine s7 fun j2 hx2 => ?_
  refine c5 (a8u _ _ _) ?_
  refine c5 (a3s _ _ _) ?_
  refine c5 (a4G _ _ _ _ _ _) ?_
  refine c5 (a4G _ _ _ _ _ _) ?_
  rw [show IntKind.wrap .i64 (n - IntKind.wrap .i64 (((0 : Nat) : Int) - ((0 : Nat) : Int))) = n by
    rw [show IntKind.wrap .i64 (((0 : Nat) : Int) - ((0 : Nat) : Int)) = 0 by decide, Int.sub_zero]; exact Y1 ⟨by omega, by omega⟩]
  refine c5 (Z6 _ _ _ _ _ _) ?_
  refine Z7 (fun c => ?_) (fun c => ?_)
  · have hp := of_decide_eq_true c
    refine c5 (a8u _ _ _) ?_
    refine c5 (a6X (e := 126) (sz := 1) Tryd.underlying123 Tryd.sizeOf126 (s := ⟨none, 0, 0⟩) (h := ((0 : Nat) : Int)) (by decide) (by decide)) ?_
    refine b5p (z := Value.nilIface) (bytes := 16) (kn := .i64) Tryd.underlying123 Tryd.underlying3 b0J (by kernel_rfl) (by kernel_rfl) (by kernel_rfl) (by kernel_rfl) (by decide) D4 G1 I hp hb fun g m F' w' hr I' => ?_
    refine c5 (a3s _ _ _) ?_
    refine c5 (a6X (e := 126) (sz := 1) Tryd.underlying123 Tryd.sizeOf126 (s := ⟨some ⟨g, 0, none⟩, n.toNat, m⟩) (h := ((0 : Nat) : Int)) (by decide) (by simp)) ?_
    refine hx2 _ _ ?_
    unfold a9G
    intro _
    refine ⟨H, _, I', [], ⟨some ⟨g, 0, none⟩, 0, m⟩, F', ?_, rfl, hr, h⟩
    simp [Sl.cut, Addr.add, nth]
  · refine hx2 _ _ ?_
    unfold a9G
    intro _
    exact ⟨H, _, I.nil, [], ⟨none, 0, 0⟩, [], rfl, rfl, RowL.nil D4 G1, h⟩
theorem a6f {s : Sl} {ss : List Sl} {nss : List (List c7)} (hs : SlH H 1 csl s ss) (hr : z6 (SlH H 1 j8) ss nss) (hb : nss.flatten.length * 17 ≤ 140737488355328) (hss : ss.length ≤ big) {K : Sl → Hp → Prop}
    (h : ∀ (r : Sl) (H' : Hp), Hle H H' → SlH H' 1 j8 r nss.flatten → K r H') : r5 s H K := by
  refine U8 _ ?_
  unfold B4
  have n1 := hs.1; have r1 := hr.1
  refine Y7 (fun (z : Int × Int) H' => 0 ≤ z.2 ∧ z.2 ≤ ss.length ∧ H' = H ∧ z.1 = ((nss.take z.2.toNat).flatten.length : Int)) (fun z => (ss.length - z.2).toNat) ⟨Int.le_refl _, by simp, rfl, by simp⟩ ?_
  rintro ⟨q, i⟩ H1 next ⟨i0, i1, rfl, hq⟩ hn
  dsimp only at i0 i1 hq ⊢
  subst hq
  unfold A7
  refine ⟨fun hc => ?_, fun hc => ?_⟩
  · obtain ⟨x, hx, hE⟩ := hs.get i0 hc
    obtain ⟨ns, hns, hS⟩ := hr.get hx
    have hlt := D1 hx
    have e1 := a8t hns
    have e2 := a8s nss (i.toNat + 1)
    have e3 : (nss.take (i.toNat + 1)).flatten.length = (nss.take i.toNat).flatten.length + ns.length := by rw [e1, List.length_append]
    have e4 : IntKind.wrap .i64 (((nss.take i.toNat).flatten.length : Int) + (x.n : Int)) = ((nss.take (i.toNat + 1)).flatten.length : Int) := by
      rw [Y1 ⟨by omega, by have := hS.1; omega⟩]
      have := hS.1; omega
    refine ⟨i0, hc, x, hE, ?_⟩
    rw [e4]
    refine ⟨fun hneg => by omega, fun _ => ?_⟩
    unfold t7
    rw [B0 i0 (by simp only [big] at hss; omega)]
    refine hn _ _ ⟨by dsimp only; omega, by dsimp only; omega, rfl, ?_⟩ (by dsimp only; omega)
    dsimp only
    rw [show (i + 1).toNat = i.toNat + 1 by omega]
  · rw [List.take_of_length_le (by omega)]
    clear hn next
    unfold u1
    refine b4Q (by omega) (by omega) ?_
    refine Y7 (fun (z : List c7 × Int) H' => 0 ≤ z.2 ∧ z.2 ≤ ss.length ∧ H' = H1 ∧ z.1 = (nss.take z.2.toNat).flatten) (fun z => (ss.length - z.2).toNat) ⟨Int.le_refl _, by simp, rfl, by simp⟩ ?_
    rintro ⟨q, j⟩ H2 next ⟨j0, j1, rfl, hq⟩ hn
    dsimp only at j0 j1 hq ⊢
    subst hq
    unfold u0
    refine ⟨fun hc => ?_, fun hc => ?_⟩
    · obtain ⟨x, hx, hE⟩ := hs.get j0 hc
      obtain ⟨ns, hns, hS⟩ := hr.get hx
      have hlt := D1 hx
      have e1 := a8t hns
      have e2 := a8s nss (j.toNat + 1)
      have e3 : (nss.take (j.toNat + 1)).flatten.length = (nss.take j.toNat).flatten.length + ns.length := by rw [e1, List.length_append]
      refine ⟨j0, hc, x, hE, ns, hS, by omega, ?_⟩
      rw [B0 j0 (by simp only [big] at hss; omega), ← e1]
      refine hn _ _ ⟨by dsimp only; omega, by dsimp only; omega, rfl, ?_⟩ (by dsimp only; omega)
      dsimp only
      rw [show (j + 1).toNat = j.toNat + 1 by omega]
    · unfold t8
      intro r H3 l3 hS _
      rw [List.take_of_length_le (by omega)] at hS
      exact h r H3 l3 hS
def nameL : Lab → ByteArray × Bool
  | .decl _ s => (s, true)
  | .stmt k s _ _ _ _ => (s, decide (k = 1) || decide (k = 2))
  | .cond .. => (⟨#[]⟩, false)
  | .expr k _ s _ => (s, decide (k = 2) || decide (k = 4))
theorem b0L {x : c7} {t : PT} (hx : NH H x t) {K : ByteArray → Bool → Hp → Prop} (h : K (nameL t.lab).1 (nameL t.lab).2 H) : Q5 x H K := by
  refine a6c _ ?_
  unfold a0R
  cases x with
  | nil => exact hx.elim
  | A6 y =>
    cases (show t = dT y.M0 from hx)
    exact ⟨fun _ => h, fun q => (by cases q)⟩
  | v7 y =>
    cases (show SH H y.d6 t from hx)
    exact ⟨fun q => (by cases q), fun _ => ⟨fun _ => h, fun q => (by cases q)⟩⟩
  | u7 y =>
    cases (show EH H y.j9 t from hx)
    exact ⟨fun q => (by cases q), fun _ => ⟨fun q => (by cases q), fun _ => ⟨fun _ => h, fun q => (by cases q)⟩⟩⟩
  | B3 y =>
    cases (show CH H y.j6 t from hx)
    exact ⟨fun q => (by cases q), fun _ => ⟨fun q => (by cases q), fun _ => ⟨fun q => (by cases q), fun _ => h⟩⟩⟩
def formE (k n : Int) (s : ByteArray) (a : Int) : Bool :=
  if (((!decide (k = 1)) && (!decide (n = 0))) || ((!(decide (k = 2) || decide (k = 4))) && (!decide (s = ⟨#[]⟩)))) = true then false
  else if k = 1 then decide (0 ≤ n) && decide (a = 0)
  else if k = 2 ∨ k = 3 then decide (a = 0)
  else if k = 4 ∨ k = 5 then decide (a = 1)
  else if k = 6 ∨ k = 7 ∨ k = 8 ∨ k = 9 ∨ k = 10 then decide (a = 2) else false
def formC (k op e p : Int) : Bool :=
  if k = 3 then (decide (1 ≤ op) && decide (op ≤ 6)) && decide (e = 2 ∧ p = 0)
  else if op = 0 then
    (if k = 1 ∨ k = 2 then decide (e = 0 ∧ p = 0) else if k = 4 then decide (e = 0 ∧ p = 1) else if k = 5 ∨ k = 6 then decide (e = 0 ∧ p = 2) else false)
  else false
def formS (k : Int) (s : ByteArray) (e c t f : Int) : Bool :=
  if k = 1 then !decide (0 < t + f) && decide (e = 1 ∧ c = 0)
  else if k = 2 then !decide (0 < t + f) && decide (e = 2 ∧ c = 0)
  else if k = 3 then decide (s = ⟨#[]⟩) && decide (e = 0 ∧ c = 1)
  else if k = 4 then decide (s = ⟨#[]⟩) && decide (f = 0) && decide (e = 0 ∧ c = 1)
  else if k = 5 ∨ k = 6 then (decide (s = ⟨#[]⟩) && !decide (0 < t + f)) && decide (e = 0 ∧ c = 1)
  else if k = 7 then (decide (s = ⟨#[]⟩) && !decide (0 < t + f)) && decide (e = 0 ∧ c = 0)
  else false
def formL : Lab → Bool
  | .decl z _ => decide (0 ≤ z) && decide (z ≤ 2147483647)
  | .stmt k s e c t f => formS k s e c t f
  | .cond k op e p => formC k op e p
  | .expr k n s a => formE k n s a
theorem a6C {α : Type} {b : Bool} {q : Prop} [Decidable q] (hb : b = true ↔ q) (x y : α) : (if b = true then x else y) = if q then x else y := by
  by_cases hq : q
  · rw [if_pos (hb.2 hq), if_pos hq]
  · rw [if_neg (fun e => hq (hb.1 e)), if_neg hq]
theorem ej3 {a : Int} {b : Bool} {x : B2} {K : Bool → Hp → Prop} (h : K (if b = true then decide (a = 2) else false) H) : u4 a b x H K := by
  unfold u4
  cases b
  · exact ⟨fun q => (by cases q), fun _ => h⟩
  · exact ⟨fun _ => h, fun q => (by cases q)⟩
theorem ej2 {a k : Int} {b : Bool} {x : B2} {K : Bool → Hp → Prop} (h : K (if b = true then decide (a = 1) else if k = 6 ∨ k = 7 ∨ k = 8 ∨ k = 9 ∨ k = 10 then decide (a = 2) else false) H) : C1 a k b x H K := by
  unfold C1
  cases b
  · refine ⟨fun q => (by cases q), fun _ => ?_⟩
    rw [if_neg (by decide)] at h
    refine ⟨fun e => ej3 ?_, fun e1 => ⟨fun e => ej3 ?_, fun e2 => ⟨fun e => ej3 ?_, fun e3 => ⟨fun e => ej3 ?_, fun e4 => ej3 ?_⟩⟩⟩⟩ <;>
      (rw [a6C (q := k = 6 ∨ k = 7 ∨ k = 8 ∨ k = 9 ∨ k = 10) (by rw [decide_eq_true_eq]; omega)]; exact h)
  · exact ⟨fun _ => h, fun q => (by cases q)⟩
theorem ej1 {a k : Int} {b : Bool} {x : B2} {K : Bool → Hp → Prop} (h : K (if b = true then decide (a = 0) else if k = 4 ∨ k = 5 then decide (a = 1) else if k = 6 ∨ k = 7 ∨ k = 8 ∨ k = 9 ∨ k = 10 then decide (a = 2) else false) H) : C2 a k b x H K := by
  unfold C2
  cases b
  · refine ⟨fun q => (by cases q), fun _ => ?_⟩
    rw [if_neg (by decide)] at h
    refine ⟨fun e => ej2 ?_, fun e1 => ej2 ?_⟩ <;>
      (rw [a6C (q := k = 4 ∨ k = 5) (by rw [decide_eq_true_eq]; omega)]; exact h)
  · exact ⟨fun _ => h, fun q => (by cases q)⟩
theorem b3r {e : d8} {t : PT} (he : EH H e t) {K : Bool → Hp → Prop} (h : K (formL t.lab) H) : W5 ⟨e⟩ H K := by
  refine a4k _ ?_
  unfold W9
  refine b0L (x := .u7 ⟨e⟩) (t := t) he ?_
  cases he with
  | @mk e xs ts hs hb hl hr =>
    have hn : e.u5.n = ts.length := by have := hs.1; omega
    change K (formE e.d5 e.v8 e.f0 (ts.length : Int)) H at h
    unfold formE at h
    dsimp only [PT.lab, nameL]
    rw [hn]
    generalize (ts.length : Int) = a at h ⊢
    refine ⟨fun hg => by rw [if_pos hg] at h; exact h, fun hg => ?_⟩
    rw [if_neg (by rw [hg]; decide)] at h
    refine ⟨fun e1 => by rw [if_pos e1] at h; exact h, fun e1 => ?_⟩
    rw [if_neg e1] at h
    refine ⟨fun e2 => ej1 ?_, fun e2 => ej1 ?_⟩ <;>
      (rw [a6C (q := e.d5 = 2 ∨ e.d5 = 3) (by rw [decide_eq_true_eq]; omega)]; exact h)
theorem cj2 {b : Bool} {y : i5} {x : E5} {K : Bool → Hp → Prop} (h : K (if b = true then decide (y.fexprs = 0 ∧ y.fparts = 2) else false) H) : C3 b y x H K := by
  unfold C3
  cases b
  · exact ⟨fun q => (by cases q), fun _ => h⟩
  · exact ⟨fun _ => h, fun q => (by cases q)⟩
theorem cj1 {k : Int} {b : Bool} {y : i5} {x : E5} {K : Bool → Hp → Prop} (h : K (if b = true then decide (y.fexprs = 0 ∧ y.fparts = 0) else if k = 4 then decide (y.fexprs = 0 ∧ y.fparts = 1) else if k = 5 ∨ k = 6 then decide (y.fexprs = 0 ∧ y.fparts = 2) else false) H) : C4 k b y x H K := by
  unfold C4
  cases b
  · refine ⟨fun q => (by cases q), fun _ => ?_⟩
    rw [if_neg (by decide)] at h
    refine ⟨fun e => by rw [if_pos e] at h; exact h, fun e => ?_⟩
    rw [if_neg e] at h
    refine ⟨fun e2 => cj2 ?_, fun e2 => cj2 ?_⟩ <;>
      (rw [a6C (q := k = 5 ∨ k = 6) (by rw [decide_eq_true_eq]; omega)]; exact h)
  · exact ⟨fun _ => h, fun q => (by cases q)⟩
theorem b3s {e : m2} {t : PT} (he : CH H e t) {K : Bool → Hp → Prop} (h : K (formL t.lab) H) : W6 ⟨e⟩ H K := by
  refine a4l _ ?_
  unfold X0
  cases he with
  | @mk e xs ts ys us hs hb hr hc hcb hcl hcr =>
    have hn : e.g5.n = ts.length := by have := hs.1; have := hr.1; omega
    have hm : e.o7.n = us.length := by have := hc.1; omega
    change K (formC e.d5 e.fOp (ts.length : Int) (us.length : Int)) H at h
    unfold formC at h
    dsimp only
    rw [hn, hm]
    generalize (ts.length : Int) = a at h ⊢
    generalize (us.length : Int) = b at h ⊢
    refine ⟨fun e1 => by rw [if_pos e1] at h; exact h, fun e1 => ?_⟩
    rw [if_neg e1] at h
    refine ⟨fun e2 => by rw [if_neg e2] at h; exact h, fun e2 => ?_⟩
    rw [if_pos e2] at h
    refine ⟨fun e3 => cj1 ?_, fun e3 => cj1 ?_⟩ <;>
      (rw [a6C (q := e.d5 = 1 ∨ e.d5 = 2) (by rw [decide_eq_true_eq]; omega)]; exact h)
theorem sj1 {v : Bool} {k : Int} {b : Bool} {y : m7} {x : E4} {K : Bool → Hp → Prop} (h : K (if b = true then v && decide (y.fexprs = 0 ∧ y.fconds = 1) else if k = 7 then v && decide (y.fexprs = 0 ∧ y.fconds = 0) else false) H) : C0 v k b y x H K := by
  unfold C0
  cases b
  · refine ⟨fun q => (by cases q), fun _ => ?_⟩
    rw [if_neg (by decide)] at h
    exact ⟨fun e => by rw [if_pos e] at h; exact h, fun e => by rw [if_neg e] at h; exact h⟩
  · exact ⟨fun _ => h, fun q => (by cases q)⟩
theorem b3t {e : l9} {t : PT} (he : SH H e t) {K : Bool → Hp → Prop} (h : K (formL t.lab) H) : W4 ⟨e⟩ H K := by
  refine a4j _ ?_
  unfold W8
  cases he with
  | @mk e xs ts ys us zs bs vs ws hs hb hr hc hcb hcr ha hab hal har hbs hbb hbl hbr =>
    have n1 : e.g5.n = ts.length := by have := hs.1; have := hr.1; omega
    have n2 : e.o3.n = us.length := by have := hc.1; have := hcr.1; omega
    have n3 : e.E2.n = vs.length := by have := ha.1; omega
    have n4 : e.E3.n = ws.length := by have := hbs.1; omega
    change K (formS e.d5 e.f0 (ts.length : Int) (us.length : Int) (vs.length : Int) (ws.length : Int)) H at h
    unfold formS at h
    dsimp only
    rw [n1, n2, n3, n4, Y1 (a := (vs.length : Int) + (ws.length : Int)) ⟨by omega, by simp only [big] at hab hbb; omega⟩]
    generalize (ts.length : Int) = a at h ⊢
    generalize (us.length : Int) = b at h ⊢
    generalize (vs.length : Int) = c at h ⊢
    generalize (ws.length : Int) = d at h ⊢
    refine ⟨fun e1 => by rw [if_pos e1] at h; exact h, fun e1 => ?_⟩
    rw [if_neg e1] at h
    refine ⟨fun e1 => by rw [if_pos e1] at h; exact h, fun e2 => ?_⟩
    rw [if_neg e2] at h
    refine ⟨fun e1 => by rw [if_pos e1] at h; exact h, fun e3 => ?_⟩
    rw [if_neg e3] at h
    refine ⟨fun e1 => by rw [if_pos e1] at h; exact h, fun e4 => ?_⟩
    rw [if_neg e4] at h
    refine ⟨fun e5 => sj1 ?_, fun e5 => sj1 ?_⟩ <;>
      (rw [a6C (q := e.d5 = 5 ∨ e.d5 = 6) (by rw [decide_eq_true_eq]; omega)]; exact h)
theorem b4R {x : c7} {t : PT} (hx : NH H x t) {K : Bool → Hp → Prop} (h : K (formL t.lab) H) : a0i x H K := by
  cases x with
  | nil => exact hx.elim
  | u7 y => exact b3r hx h
  | B3 y => exact b3s hx h
  | v7 y => exact b3t hx h
  | A6 y =>
    cases (show t = dT y.M0 from hx)
    refine a4i _ ?_
    unfold W7
    exact h
theorem b3u {x : c7} {t : PT} (hx : NH H x t) {K : Sl → Hp → Prop} (h : ∀ (r : Sl) (H' : Hp) (ns : List c7), Hle H H' → SlH H' 1 j8 r ns → z6 (NH H') ns t.kids → t.kids.length ≤ 4 * big → K r H') : Z9 x H K := by
  cases x with
  | nil => exact hx.elim
  | A6 y =>
    cases (show t = dT y.M0 from hx)
    refine a4b _ ?_
    unfold V7
    exact h _ _ [] (Hle.refl _) (SlH.nil _ _ _) z6.nil (Nat.zero_le _)
  | u7 y =>
    have hx : EH H y.j9 t := hx
    refine a3T _ ?_
    unfold V6
    obtain ⟨e⟩ := y
    cases hx with
    | @mk e xs ts hs hb hl hr =>
      refine a4D hs hb fun r H' l hS => h r H' _ l hS ?_ ?_
      · exact z6.map ⟨hl, fun i a b ha hb => EH.le l (hr i a b ha hb)⟩
      · show ts.length ≤ _; omega
  | B3 y =>
    have hx : CH H y.j6 t := hx
    refine a4f _ ?_
    unfold W0
    obtain ⟨e⟩ := y
    cases hx with
    | @mk e xs ts ys us hs hb hr hc hcb hcl hcr =>
      refine a4D hs hb fun r1 H1 l1 hS1 => ?_
      refine a6S (hc.le l1) hcb fun r2 H2 l2 hS2 => ?_
      intro s H3 l3 hS hcap
      have r0 := hr.1
      refine a6f hS (nss := [_, _]) ((z6.one (hS1.le (l2.trans l3))).app (z6.one (hS2.le l3))) ?_ (by simp [big]) fun r H4 l4 hS4 => ?_
      · simp only [List.flatten_cons, List.flatten_nil, List.append_nil, List.length_append, List.length_map]; simp only [big] at hb hcb; omega
      simp only [List.flatten_cons, List.flatten_nil, List.append_nil] at hS4
      have l14 := l1.trans (l2.trans (l3.trans l4))
      refine h r H4 _ l14 hS4 ?_ ?_
      · exact (z6.map (R := NH H4) (f := fun x => .u7 ⟨x⟩) (hr.mono fun _ _ => EH.le l14)).app (z6.map (R := NH H4) (f := fun x => .B3 ⟨x⟩) ⟨hcl, fun i a b ha hb => CH.le l14 (hcr i a b ha hb)⟩)
      · show (ts ++ us).length ≤ _; rw [List.length_append]; omega
  | v7 y =>
    have hx : SH H y.d6 t := hx
    refine a3S _ ?_
    unfold V5
    obtain ⟨e⟩ := y
    cases hx with
    | @mk e xs ts ys us zs bs vs ws hs hb hr hc hcb hcr ha hab hal har hbs hbb hbl hbr =>
      refine a6S hc hcb fun r1 H1 l1 hS1 => ?_
      refine a4D (hs.le l1) hb fun r2 H2 l2 hS2 => ?_
      refine a4C (ha.le (l1.trans l2)) hab fun r3 H3 l3 hS3 => ?_
      refine a4C (hbs.le (l1.trans (l2.trans l3))) hbb fun r4 H4 l4 hS4 => ?_
      intro s H5 l5 hS hcap
      have r0 := hr.1
      have r0' := hcr.1
      refine a6f hS (nss := [_, _, _, _]) ((z6.one (hS1.le (l2.trans (l3.trans (l4.trans l5))))).app ((z6.one (hS2.le (l3.trans (l4.trans l5)))).app ((z6.one (hS3.le (l4.trans l5))).app (z6.one (hS4.le l5))))) ?_ (by simp [big]) fun r H6 l6 hS6 => ?_
      · simp only [List.flatten_cons, List.flatten_nil, List.append_nil, List.length_append, List.length_map]; simp only [big] at hb hcb hab hbb; omega
      simp only [List.flatten_cons, List.flatten_nil, List.append_nil] at hS6
      have l16 := l1.trans (l2.trans (l3.trans (l4.trans (l5.trans l6))))
      refine h r H6 _ l16 hS6 ?_ ?_
      · exact (z6.map (R := NH H6) (f := fun x => .B3 ⟨x⟩) (hcr.mono fun _ _ => CH.le l16)).app ((z6.map (R := NH H6) (f := fun x => .u7 ⟨x⟩) (hr.mono fun _ _ => EH.le l16)).app ((z6.map (R := NH H6) (f := fun x => .v7 ⟨x⟩) ⟨hal, fun i a b ha hb => SH.le l16 (har i a b ha hb)⟩).app (z6.map (R := NH H6) (f := fun x => .v7 ⟨x⟩) ⟨hbl, fun i a b ha hb => SH.le l16 (hbr i a b ha hb)⟩)))
      · show (us ++ (ts ++ (vs ++ ws))).length ≤ _; simp only [List.length_append]; omega
end
end Go.Proofs.YtaokfhdinhimfaaDoor
