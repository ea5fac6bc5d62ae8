/- LexNumbers: a number's digits are read as it. The document's digits by hand off the reading. -/
import Derived.Laws.BytesString
import Derived.Test.YthklmeihgmcljaaDoorzNL7
namespace Go.Proofs.YthklmeihgmcljaaDoor
open Go.RowKit
set_option maxRecDepth 100000
set_option maxHeartbeats 1000000
abbrev dgt (m : Nat) : UInt8 := UInt8.ofNat (48 + m % 10)
def digF : Nat → Nat → List UInt8 → List UInt8
  | 0, _, acc => acc
  | f + 1, m, acc => if m / 10 = 0 then dgt m :: acc else digF f (m / 10) (dgt m :: acc)
theorem a3W : ∀ (f g m : Nat) (acc : List UInt8), m < f → m < g → digF f m acc = digF g m acc := by
  intro f
  induction f with
  | zero => intro g m acc h; omega
  | succ f ih =>
    intro g m acc h1 h2
    cases g with
    | zero => omega
    | succ g =>
      rw [digF, digF]
      split
      · rfl
      · exact ih _ _ _ (by omega) (by omega)
def digL (m : Nat) : List UInt8 := digF (m + 1) m []
abbrev digS (m : Nat) : ByteArray := ⟨(digL m).toArray⟩
theorem a4G (m : Nat) : (dgt m).toNat = 48 + m % 10 := by
  have : (UInt8.ofNat (48 + m % 10)).toNat = (48 + m % 10) % 256 := UInt8.toNat_ofNat'
  rw [this]; omega
theorem a3o (a : Nat) (l : List UInt8) (c : UInt8) : dval a (l ++ [c]) = dval a l * 10 + (c.toNat - 48) := by
  unfold dval
  rw [List.foldl_append]
  rfl
theorem a3p : ∀ (f m : Nat) (acc : List UInt8), m < f → ∃ pre, digF f m acc = pre ++ acc ∧ pre ≠ [] ∧ (∀ c ∈ pre, isDig c) ∧ dval 0 pre = m ∧ (m = 0 → pre = [48]) ∧ (0 < m → pre.head? ≠ some 48) := by
  intro f
  induction f with
  | zero => intro m acc h; omega
  | succ f ih =>
    intro m acc h
    rw [digF]
    have hd := a4G m
    have hdig : isDig (dgt m) := by unfold isDig; rw [hd]; omega
    split
    · rename_i c
      refine ⟨[dgt m], rfl, List.cons_ne_nil _ _, fun c hc => ?_, ?_, fun h0 => ?_, fun h0 => ?_⟩
      · rw [List.mem_singleton.1 hc]; exact hdig
      · rw [P1, a0Y, hd]; omega
      · subst h0; rfl
      · intro x
        have x : dgt m = 48 := Option.some.inj x
        rw [x] at hd
        have : (48 : UInt8).toNat = 48 := rfl
        omega
    · rename_i c
      obtain ⟨pre, h1, h2, h3, h4, h5, h6⟩ := ih (m / 10) (dgt m :: acc) (by omega)
      refine ⟨pre ++ [dgt m], by rw [h1, List.append_assoc]; rfl, by simp, fun c hc => ?_, ?_, fun h0 => by omega, fun _ => ?_⟩
      · rcases List.mem_append.1 hc with hc | hc
        · exact h3 c hc
        · rw [List.mem_singleton.1 hc]; exact hdig
      · rw [a3o, h4, hd]; omega
      · cases pre with
        | nil => exact absurd rfl h2
        | cons x r => exact h6 (by omega)
theorem a3X : ∀ (k f m : Nat) (acc : List UInt8), m < 10 ^ (k + 1) → (digF f m acc).length ≤ acc.length + k + 1 := by
  intro k
  induction k with
  | zero =>
    intro f m acc h
    cases f with
    | zero => rw [digF]; omega
    | succ f => rw [digF, if_pos (by omega), List.length_cons]; omega
  | succ k ih =>
    intro f m acc h
    cases f with
    | zero => rw [digF]; omega
    | succ f =>
      rw [digF]
      split
      · rw [List.length_cons]; omega
      · have := ih f (m / 10) (dgt m :: acc) (by rw [Nat.pow_succ] at h; omega)
        rw [List.length_cons] at this
        omega
section
variable {w0 w : World} {ps : Nat → Prop} {H0 H : Hp} {Fs : List Frag}
theorem a4H {g : Nat} {c : Nat} {n : Int} (h : AtW w g 0 [.int .u8 n]) : Ld Tryd.prog w g (xV (convert 56 9 (.slice (some ⟨g, 0, none⟩) 1 c))) (.string ⟨#[UInt8.ofNat n.toNat]⟩) := by
  refine Ld.ok fun w' e => ?_
  rw [run_convert_bytes_string w' 56 9 5 _ _ _ Tryd.underlying56 Tryd.underlying5 Tryd.underlying9]
  have hl := run_loadCells_list (P := Tryd.prog) (w := w') ⟨g, 0, none⟩ [.int .u8 n] (fun j v hj => by rw [B1]; exact (h.move e).get hj)
  rw [run_bytesToString w' ⟨g, 0, none⟩ 1 c [n] hl]
  rfl
end
section
variable {H : Hp}
theorem a3q {n : Int} (h0 : 0 ≤ n) (h1 : n ≤ 9223372036854775807) {K : ByteArray → Hp → Prop} (h : K (digS n.toNat) H) : E2 n H K := by
  refine Ct.of fun w0 w ps0 H0 R E I hR => a4W ?_
  unfold F12
  refine a8 (X2 _ _ _ _ _ _) ?_
  refine J3 (fun c => by omega) (fun _ => ?_)
  refine D2 (J := fun m l w' => ∃ (acc : List UInt8), l = [vi (m : Int), .string ⟨acc.toArray⟩] ∧ (acc = [] ∨ 1 ≤ m) ∧ acc.length + m ≤ n.toNat ∧ digF (m + 1) m acc = digL n.toNat ∧ Inv w0 ps0 H0 H [] w') ⟨n.toNat, [], by rw [Int.toNat_of_nonneg h0], .inl rfl, by simp, rfl, I⟩ ?_
  rintro m τ w2 next ⟨acc, hl, ha, hb, he, I2⟩ hn
  simp only [List.map_cons, List.map_nil, List.cons.injEq, and_true] at hl
  obtain ⟨e0, e3⟩ := hl
  simp only [e0, e3]
  unfold a2E
  have hacc : 1 + acc.length ≤ 9223372036854775807 := by
    rcases ha with rfl | ha
    · simp
    · omega
  have ht : Int.tmod (m : Int) 10 = ((m % 10 : Nat) : Int) := by rw [Int.tmod_eq_emod_of_nonneg (by omega)]; omega
  have hq : Int.tdiv (m : Int) 10 = ((m / 10 : Nat) : Int) := by rw [Int.tdiv_eq_ediv_of_nonneg (by omega)]; omega
  refine a8 (a4M _ _ _ _ _ _ (by decide)) ?_
  rw [ht]
  refine a8 (P6 _ _ _ _ _ _) ?_
  rw [H9 (a := 48 + ((m % 10 : Nat) : Int)) ⟨by omega, by omega⟩]
  refine a8 (a2B _ _) ?_
  have hw8 : IntKind.wrap .u8 (48 + ((m % 10 : Nat) : Int)) = ((48 + m % 10 : Nat) : Int) := by
    have : IntKind.wrap .u8 (48 + ((m % 10 : Nat) : Int)) = (48 + ((m % 10 : Nat) : Int)) := by
      simp [IntKind.wrap, IntKind.bits, IntKind.signed]; omega
    rw [this]; omega
  rw [hw8]
  refine a3x (e := 5) (c := W3) (xs := [((48 + m % 10 : Nat) : Int)]) I2 (a4n _) rfl rfl a1Z a2a (nb rfl) fun t F3 w3 hr I3 _ => ?_
  obtain ⟨g, arr, hga, _⟩ := hr.addr (i := 0) rfl
  have hat := hr.atW I3 hga (i := 0) rfl
  obtain ⟨ta, tn, tc⟩ := t
  have htn : tn = 1 := hr.2.1
  dsimp only at hga
  subst hga
  subst htn
  refine o7 (a4H hat) ?_
  rw [Int.toNat_natCast]
  refine a8 (a0H _ _ _ ⟨#[dgt m]⟩ ⟨acc.toArray⟩ hacc) ?_
  have hcat : (⟨#[dgt m]⟩ ++ ⟨acc.toArray⟩ : ByteArray) = ⟨(dgt m :: acc).toArray⟩ := by
    apply ByteArray.ext
    simp [ByteArray.data_append]
  rw [hcat]
  refine a8 (a4L _ _ _ _ _ _ (by decide)) ?_
  rw [hq, H9 (a := ((m / 10 : Nat) : Int)) ⟨by omega, by omega⟩]
  refine a8 (k8 _ _ _ _ _ _) ?_
  rw [digF] at he
  refine J3 (fun c => ?_) (fun c => ?_)
  · rw [if_pos (by omega)] at he
    refine hR _ H _ _ I3.drop ⟨_, rfl, rfl, ?_⟩
    rw [show digS n.toNat = ⟨(dgt m :: acc).toArray⟩ by unfold digS; rw [he]] at h
    exact h
  · rw [if_neg (by omega), a3W m (m / 10 + 1) _ _ (by omega) (by omega)] at he
    exact hn _ _ (m / 10) (by omega) ⟨_, rfl, .inr (by omega), by rw [List.length_cons]; omega, he, I3.drop⟩
end
section
variable {s : ByteArray}
theorem Z8 : ∀ (n p : Nat), s.size - p ≤ n → (∀ q, p ≤ q → q < s.size → by8 s q < 128) → chkAt s p = none := by
  intro n
  induction n with
  | zero => intro p h _; exact M3 s p (by omega)
  | succ n ih =>
    intro p h ha
    by_cases c : p < s.size
    · have h1 := ha p (Nat.le_refl _) c
      obtain ⟨r1, r2⟩ := G4 h1
      have hb : ¬ bad s p := fun x => by
        have : rn s p = 65533 := by show ((Utf8.decode s p).1 : Int) = 65533; rw [x.1]; rfl
        omega
      rw [R3 s p c, if_neg hb]
      show chkAt s (p + wd s p) = none
      rw [r2]
      exact ih _ (by omega) fun q hq => ha q (by omega)
    · exact M3 s p (by omega)
theorem T8 {p : Nat} (h : 48 ≤ by8 s p ∧ by8 s p ≤ 57) : classS (rn s p) = 4 := by
  have := (G4 (s := s) (p := p) (by omega)).1
  exact of_decide_eq_true (show decide (classS (rn s p) = 4) = true from M4.2 (by rw [this]; omega))
theorem a1m {e : Nat} (he : e ≤ s.size) (hx : ¬ (e < s.size ∧ 48 ≤ by8 s e ∧ by8 s e ≤ 57)) : ∀ (n p v : Nat), e - p ≤ n → p ≤ e → (∀ q, p ≤ q → q < e → 48 ≤ by8 s q ∧ by8 s q ≤ 57) → (dg s p v).1 = e := by
  intro n
  induction n with
  | zero =>
    intro p v h hp _
    obtain rfl : p = e := by omega
    rw [U8 hx]
  | succ n ih =>
    intro p v h hp ha
    by_cases c : p = e
    · subst c; rw [U8 hx]
    · rw [U7 (by omega) (ha p (Nat.le_refl _) (by omega))]
      exact ih _ _ (by omega) (by omega) fun q hq => ha q (by omega)
theorem a6n {p : Nat} (hp : p < s.size) (h : 48 ≤ by8 s p ∧ by8 s p ≤ 57) : sk s p = p := by
  refine D5 (.inr ⟨by omega, ?_⟩)
  unfold blankS
  rw [T8 h]
  rfl
theorem Z9 (hz : s.size ≤ 65536) (hc : chkAt s 0 = none) (hp : 0 < s.size) (h : 48 ≤ by8 s 0 ∧ by8 s 0 ≤ 57) :
    tkS s = if (numO s 0).err ≠ 0 then ([], (1, 1), (numO s 0).err) else tkF s s.size (numO s 0).stop (mv s 0 (numO s 0).stop (1, 1)) [⟨(numO s 0).kind, (numO s 0).text, (numO s 0).num, (1, 1)⟩] := by
  unfold tkS
  rw [if_neg (by omega), hc]
  dsimp only
  rw [tkF, a6n hp h, V0 (Nat.lt_irrefl _)]
  rw [if_neg (fun x => x hp), if_neg (by decide)]
  have e : oneO s 0 = numO s 0 := by unfold oneO; rw [if_neg (by rw [T8 h]; decide), if_pos (T8 h)]
  rw [e]
  rfl
end
theorem N7 {l : List UInt8} {i : Nat} {c : UInt8} (h : l[i]? = some c) : by8 ⟨l.toArray⟩ i = c.toNat ∧ i < (⟨l.toArray⟩ : ByteArray).size := by
  have h1 : i < l.length := (List.getElem?_eq_some_iff.1 h).1
  have h2 : i < (⟨l.toArray⟩ : ByteArray).size := by show i < l.toArray.size; simpa using h1
  have := U9 (s := ⟨l.toArray⟩) h2
  rw [show (⟨l.toArray⟩ : ByteArray).data.toList = l from rfl, h] at this
  unfold by8
  rw [← Option.some.inj this]
  exact ⟨rfl, h2⟩
theorem P3 (l : List UInt8) : (⟨l.toArray⟩ : ByteArray).size = l.length := by show l.toArray.size = _; simp
section
variable {n : Nat}
theorem T9 : digL n ≠ [] ∧ (∀ c ∈ digL n, isDig c) ∧ dval 0 (digL n) = n ∧ (n = 0 → digL n = [48]) ∧ (0 < n → (digL n).head? ≠ some 48) := by
  obtain ⟨pre, h1, h2⟩ := a3p (n + 1) n [] (by omega)
  rw [List.append_nil] at h1
  unfold digL
  rw [h1]
  exact h2
theorem V4 (h : n < 9223372036854775808) : (digL n).length ≤ 19 := by
  have := a3X 18 (n + 1) n [] (by omega)
  unfold digL
  simpa using this
theorem a6P (hn : n < 9223372036854775808) : ∃ b, tkS (digS n) = ([⟨2, digS n, (n : Int), (1, 1)⟩, ⟨5, ⟨#[]⟩, 0, b⟩], (0, 0), 0) := by
  obtain ⟨f1, f2, f3, f4, f5⟩ := T9 (n := n)
  have hl := V4 hn
  have hz : (digS n).size = (digL n).length := P3 (digL n)
  have hpos : 0 < (digL n).length := List.length_pos_iff.2 f1
  have hb : ∀ q, q < (digS n).size → 48 ≤ by8 (digS n) q ∧ by8 (digS n) q ≤ 57 := fun q hq => by
    obtain ⟨c, hc⟩ := P7 (l := digL n) (i := q) (by omega)
    have := f2 c (List.mem_of_getElem? hc)
    unfold isDig at this
    rw [(N7 hc).1]; exact this
  have hd1 : (dg (digS n) 0 0).1 = (digS n).size := a1m (Nat.le_refl _) (fun x => by omega) _ 0 0 (Nat.le_refl _) (Nat.zero_le _) fun q _ hq => hb q hq
  have hd2 : (dg (digS n) 0 0).2 = n := by
    have := (Q1 (s := digS n) _ 0 0 (0, 0) (Nat.le_refl _)).2.2.1
    rw [this, hd1, List.drop_zero, show (digS n).data.toList = digL n from rfl, hz, Nat.sub_zero, List.take_length, f3]
  have hext : (digS n).extract 0 (digS n).size = digS n := by
    apply ByteArray.ext
    apply Array.toList_inj.1
    rw [E0, List.drop_zero, Nat.sub_zero, show (digS n).data.toList = digL n from rfl, hz, List.take_length]
  have hnum : numO (digS n) 0 = ⟨2, digS n, (n : Int), (digS n).size, 0⟩ := by
    unfold numO
    rw [hd1, hd2, hext, if_neg]
    rintro (x | x | x)
    · omega
    · rcases Nat.eq_zero_or_pos n with h0 | h0
      · rw [hz, f4 h0] at x; simp at x
      · refine f5 h0 ?_
        obtain ⟨c, hc⟩ := P7 (l := digL n) (i := 0) hpos
        rw [(N7 hc).1] at x
        rw [List.head?_eq_getElem?, hc]
        congr 1
        exact UInt8.toNat_inj.1 x.1
    · omega
  rw [Z9 (by omega) (Z8 _ 0 (Nat.le_refl _) fun q _ hq => by have := hb q hq; omega) (by omega) (hb 0 (by omega)), hnum]
  dsimp only
  obtain ⟨k, hk⟩ : ∃ k, (digS n).size = k + 1 := ⟨(digS n).size - 1, by omega⟩
  rw [if_neg (fun x => x rfl)]
  generalize hS : (digS n).size = z at hk ⊢
  subst hk
  rw [tkF, ← hS, D5 (.inl (Nat.lt_irrefl _)), if_pos (Nat.lt_irrefl _)]
  exact ⟨_, rfl⟩
theorem a6Q (hn : n < 9223372036854775808) : tkS ((⟨#[48]⟩ : ByteArray) ++ digS n) = ([], (1, 1), 21) := by
  obtain ⟨f1, f2, _⟩ := T9 (n := n)
  have hl := V4 hn
  have hpos : 0 < (digL n).length := List.length_pos_iff.2 f1
  have e : (⟨#[48]⟩ : ByteArray) ++ digS n = ⟨((48 : UInt8) :: digL n).toArray⟩ := by
    apply ByteArray.ext
    simp [ByteArray.data_append]
  rw [e]
  have hz := P3 ((48 : UInt8) :: digL n)
  rw [List.length_cons] at hz
  have hb : ∀ q, q < (⟨((48 : UInt8) :: digL n).toArray⟩ : ByteArray).size → 48 ≤ by8 ⟨((48 : UInt8) :: digL n).toArray⟩ q ∧ by8 ⟨((48 : UInt8) :: digL n).toArray⟩ q ≤ 57 := fun q hq => by
    obtain ⟨c, hc⟩ := P7 (l := (48 : UInt8) :: digL n) (i := q) (by rw [List.length_cons]; omega)
    have hd : isDig c := by
      rcases List.mem_cons.1 (List.mem_of_getElem? hc) with h | h
      · rw [h]; unfold isDig; exact ⟨by decide, by decide⟩
      · exact f2 c h
    unfold isDig at hd
    rw [(N7 hc).1]; exact hd
  have h0 : by8 ⟨((48 : UInt8) :: digL n).toArray⟩ 0 = 48 := (N7 (l := (48 : UInt8) :: digL n) (i := 0) (c := 48) rfl).1
  have hd1 := a1m (s := ⟨((48 : UInt8) :: digL n).toArray⟩) (Nat.le_refl _) (fun x => by omega) _ 0 0 (Nat.le_refl _) (Nat.zero_le _) fun q _ hq => hb q hq
  have hnum : numO ⟨((48 : UInt8) :: digL n).toArray⟩ 0 = On.bad 21 := by
    unfold numO
    rw [hd1, if_pos (.inr (.inl ⟨h0, by omega⟩))]
  rw [Z9 (by omega) (Z8 _ 0 (Nat.le_refl _) fun q _ hq => by have := hb q hq; omega) (by omega) (hb 0 (by omega)), hnum]
  rfl
theorem a6R (hn : n < 9223372036854775808) : tkS (digS n ++ (⟨#[120]⟩ : ByteArray)) = ([], (1, 1), 21) := by
  obtain ⟨f1, f2, _⟩ := T9 (n := n)
  have hl := V4 hn
  have hpos : 0 < (digL n).length := List.length_pos_iff.2 f1
  have e : digS n ++ (⟨#[120]⟩ : ByteArray) = ⟨(digL n ++ [(120 : UInt8)]).toArray⟩ := by
    apply ByteArray.ext
    simp [ByteArray.data_append]
  rw [e]
  have hz := P3 (digL n ++ [(120 : UInt8)])
  rw [List.length_append, List.length_singleton] at hz
  have hb : ∀ q, q < (digL n).length → 48 ≤ by8 ⟨(digL n ++ [(120 : UInt8)]).toArray⟩ q ∧ by8 ⟨(digL n ++ [(120 : UInt8)]).toArray⟩ q ≤ 57 := fun q hq => by
    obtain ⟨c, hc⟩ := P7 (l := digL n) (i := q) hq
    have hd := f2 c (List.mem_of_getElem? hc)
    unfold isDig at hd
    rw [(N7 (l := digL n ++ [(120 : UInt8)]) (i := q) (by rw [List.getElem?_append_left hq]; exact hc)).1]; exact hd
  have hx : by8 ⟨(digL n ++ [(120 : UInt8)]).toArray⟩ (digL n).length = 120 := (N7 (l := digL n ++ [(120 : UInt8)]) (i := (digL n).length) (c := 120) (by rw [List.getElem?_append_right (Nat.le_refl _), Nat.sub_self]; rfl)).1
  have hd1 := a1m (s := ⟨(digL n ++ [(120 : UInt8)]).toArray⟩) (e := (digL n).length) (by omega) (fun x => by omega) _ 0 0 (Nat.le_refl _) (Nat.zero_le _) fun q _ hq => hb q hq
  have hcl : classS (rn ⟨(digL n ++ [(120 : UInt8)]).toArray⟩ (digL n).length) = 3 := by
    rw [(G4 (by omega)).1, hx]
    decide
  have hnum : numO ⟨(digL n ++ [(120 : UInt8)]).toArray⟩ 0 = On.bad 21 := by
    unfold numO
    rw [hd1, if_pos (.inr (.inr ⟨by omega, hcl⟩))]
  rw [Z9 (by omega) (Z8 _ 0 (Nat.le_refl _) fun q _ hq => by
    rcases Nat.lt_or_ge q (digL n).length with h | h
    · have := hb q h; omega
    · obtain rfl : q = (digL n).length := by omega
      omega) (by omega) (hb 0 hpos), hnum]
  rfl
end
section
variable {H : Hp}
theorem a1w (hT : TabsH H) (hE : ErrH H) {n : Int} (hn : -9223372036854775808 ≤ n ∧ n ≤ 9223372036854775807) {K : Bool → Hp → Prop} (h : ∀ H', Hle H H' → K true H') : u0 n H K := by
  refine K0 _ ?_
  unfold u1
  refine a3T hT hE fun H1 h1 => ⟨fun x => (by cases x), fun _ => ⟨fun _ => h _ h1, fun c => ?_⟩⟩
  have hn2 : n.toNat < 9223372036854775808 := by omega
  have hl := V4 hn2
  have hz : (digS n.toNat).size = (digL n.toNat).length := P3 (digL n.toNat)
  have hz2 : ((⟨#[48]⟩ : ByteArray) ++ digS n.toNat).size = 1 + (digS n.toNat).size := ByteArray.size_append
  have hz3 : (digS n.toNat ++ (⟨#[120]⟩ : ByteArray)).size = (digS n.toNat).size + 1 := ByteArray.size_append
  refine a3q (by omega) hn.2 ?_
  have hT1 := hT.le h1
  have hE1 := hE.le h1
  refine M5 hT1 hE1 (by omega) fun e1 H2 l2 s2 => ⟨by show 1 + (digS n.toNat).size ≤ _; omega, ?_⟩
  refine M5 (hT1.le l2) (hE1.le l2) (by omega) fun e2 H3 l3 s3 => ⟨by show (digS n.toNat).size + 1 ≤ _; omega, ?_⟩
  refine M5 ((hT1.le l2).le l3) ((hE1.le l2).le l3) (by omega) fun e3 H4 l4 s4 => ?_
  obtain ⟨b, hb⟩ := a6P hn2
  rw [a6Q hn2, a6R hn2]
  rw [hb] at s2 ⊢
  have s2' := (s2.le l3).le l4
  have hen : e1.n = 2 := s2.1
  refine ⟨_, fun _ => ⟨by decide, by omega, s2'.2 0 _ rfl⟩, ?_⟩
  rw [hen, Int.toNat_of_nonneg (by omega)]
  have : K true H4 := h _ (((h1.trans l2).trans l3).trans l4)
  simpa using this
end
end Go.Proofs.YthklmeihgmcljaaDoor
