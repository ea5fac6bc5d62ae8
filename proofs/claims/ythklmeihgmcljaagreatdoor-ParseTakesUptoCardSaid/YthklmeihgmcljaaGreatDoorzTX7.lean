/- Parsing: the document's reader answers what the plain one does: expressions and conditions. Contracts off the printed formulas. -/
import Derived.Test.YthklmeihgmcljaaGreatDoorzTX6
namespace Go.Proofs.YthklmeihgmcljaaGreatDoor
open Go.RowKit
set_option maxRecDepth 100000
set_option maxHeartbeats 2000000
abbrev RD4 := b6
def Rd4 (H : Hp) (x : RD4) (r : List Tok) : Prop := ∃ (ts : List Tok) (n : Nat), SlH H 5 f9 x.fl ts ∧ ts.length ≤ big ∧ x.fat = (n : Int) ∧ ts.drop n = r ∧ WfT r
def Rg (H : Hp) (x : RD4) (r : List Tok) : Prop := Rd4 H x r ∧ x.fbad = 0
def Rb (H : Hp) (x : RD4) (c : Int) (p : b8) : Prop := (∃ r, Rd4 H x r) ∧ x.fbad = c ∧ x.fpos = p ∧ c ≠ 0
def a1g {α β : Type} (H : Hp) (x : RD4) (R : Hp → α → β → Prop) (o : Except Flt (β × List Tok)) (K : α → RD4 → Hp → Prop) : Prop := match o with
 | .ok (b, r') => ∀ (H' : Hp) (v : α) (x' : RD4), Hle H H' → R H' v b → Rg H' x' r' → x'.fl = x.fl → K v x' H'
 | .error (c, p) => ∀ (H' : Hp) (v : α) (x' : RD4), Hle H H' → Rb H' x' c p → x'.fl = x.fl → K v x' H'
theorem b9t {s s' : ByteArray} {r : List Tok} (h : isT s r = true) (hs : s ≠ s') : isT s' r = false := by
 unfold isT
 rw [c0r h, decide_eq_false hs, Bool.and_false]
section
variable {H H' : Hp} {x : RD4} {r : List Tok} {c : Int} {p : b8}
theorem Rd4.le (l : Hle H H') (h : Rd4 H x r) : Rd4 H' x r := by
 obtain ⟨ts, n, a, b, c, d, e⟩ := h
 exact ⟨ts, n, a.le l, b, c, d, e⟩
theorem Rg.le (h : Rg H x r) (l : Hle H H') : Rg H' x r := ⟨h.1.le l, h.2⟩
theorem Rb.le (h : Rb H x c p) (l : Hle H H') : Rb H' x c p := ⟨⟨_, h.1.choose_spec.le l⟩, h.2⟩
theorem Rb.bad (h : Rb H x c p) : x.fbad ≠ 0 := by rw [h.2.1]; exact h.2.2.2
theorem Rg.wf (h : Rg H x r) : WfT r := by obtain ⟨⟨_, _, _, _, _, _, e⟩, _⟩ := h; exact e
theorem Rg.big (h : Rg H x r) : r.length ≤ 1099511627776 := by
 obtain ⟨⟨ts, n, _, b, _, d, _⟩, _⟩ := h
 rw [← d, List.length_drop]
 simp only [Go.Proofs.YthklmeihgmcljaaGreatDoor.big] at b
 omega
theorem Rg.len (h : Rg H x r) : ((x.fl.n : Int) - x.fat).toNat = r.length := by
 obtain ⟨⟨ts, n, a, _, c, d, _⟩, _⟩ := h
 have := a.1
 rw [← d, c, List.length_drop]
 omega
theorem Rg.up (h : Rg H x r) (hk : (hd r).c8 ≠ 5) : Rg H (b6.mk x.fl (IntKind.wrap .i64 (x.fat + 1)) x.fbad x.fpos) r.tail := by
 obtain ⟨⟨ts, n, a, b, c, d, e⟩, hb⟩ := h
 have hn : n < ts.length := W9 (drop_at d e.ne)
 refine ⟨⟨ts, n + 1, a, b, ?_, b3j d, e.tail hk⟩, hb⟩
 simp only [Go.Proofs.YthklmeihgmcljaaGreatDoor.big] at b
 show IntKind.wrap .i64 (x.fat + 1) = _
 rw [c, U4 ⟨by omega, by omega⟩]
 omega
theorem b6S (h : Rd4 H x r) {K : b5 → Hp → Prop} (k : K (hd r) H) : Y8 x H K := by
 obtain ⟨ts, n, a, b, c, d, e⟩ := h
 refine a5x _ ?_
 unfold Z2
 have ha := drop_at d e.ne
 have hn := W9 ha
 have := a.1
 rw [c]
 obtain ⟨y, hy, hE⟩ := a.get (i := (n : Int)) (by omega) (by omega)
 rw [Int.toNat_natCast, ha] at hy
 cases hy
 exact ⟨by omega, by omega, _, hE, k⟩
theorem a7G (h : Rg H x r) {s : ByteArray} {K : Bool → Hp → Prop} (k : K (isT s r) H) : y4 x s H K := by
 refine a3h _ _ (b6S h.1 ?_)
 rw [h.2]
 exact k
theorem a6p (h : Rb H x c p) {s : ByteArray} {K : Bool → Hp → Prop} (k : K false H) : y4 x s H K := by
 refine a3h _ _ (b6S h.1.choose_spec ?_)
 rw [decide_eq_false h.bad]
 exact k
theorem b6T (h : Rg H x r) {s : ByteArray} {K : Bool → RD4 → Hp → Prop} (h1 : isT s r = true → ∀ x', Rg H x' r.tail → x'.fl = x.fl → K true x' H) (h0 : isT s r = false → K false x H) : P8 x s H K := by
 refine a2R _ _ (a7G h ⟨fun c => h0 (by simpa using c), fun c => ?_⟩)
 have c' : isT s r = true := by simpa using c
 exact h1 c' _ (h.up (a4a c')) rfl
theorem a9d (h : Rb H x c p) {s : ByteArray} {K : Bool → RD4 → Hp → Prop} (k : K false x H) : P8 x s H K :=
 a2R _ _ (a6p h ⟨fun _ => k, fun q => (by cases q)⟩)
theorem a1g.next {α β γ : Type} {x' : RD4} {R : Hp → α → β → Prop} {o : Except Flt (β × List Tok)} {K : α → RD4 → Hp → Prop} (l : Hle H H') (e : x'.fl = x.fl) (h : a1g H x R o K) : a1g H' x' R o K := by
 cases o with
 | error y => exact fun H2 v x2 l2 rb e2 => h H2 v x2 (l.trans l2) rb (e2.trans e)
 | ok y => exact fun H2 v x2 l2 ra rd e2 => h H2 v x2 (l.trans l2) ra rd (e2.trans e)
theorem a1g.bind {α β γ δ : Type} {R : Hp → α → β → Prop} {R2 : Hp → γ → δ → Prop} {q : PM β} {f : β → PM δ} {K : γ → RD4 → Hp → Prop} {K1 : α → RD4 → Hp → Prop} (k : a1g H x R2 (bindP q f r) K)
  (h : ∀ b r' H' v x', q r = .ok (b, r') → Hle H H' → R H' v b → Rg H' x' r' → x'.fl = x.fl → a1g H' x' R2 (f b r') K → K1 v x' H')
  (hb : ∀ c p H' v x', Hle H H' → Rb H' x' c p → (∀ H'' w, Hle H' H'' → K w x' H'') → q r = .error (c, p) → x'.fl = x.fl → K1 v x' H') : a1g H x R (q r) K1 := by
 cases hp : q r with
 | error y =>
  rw [L4 hp] at k
  exact fun H' v x' l rb e => hb _ _ H' v x' l rb (fun H'' w l2 => k H'' w x' (l.trans l2) (rb.le l2) e) hp e
 | ok y =>
  obtain ⟨b, r'⟩ := y
  rw [X5 hp] at k
  exact fun H' v x' l ra rd e => h b r' H' v x' hp l ra rd e (a1g.next (γ := Unit) l e k)
theorem c6y (h : Rg H x r) {q : Prop} [Decidable q] {s : ByteArray} {K : Bool → Hp → Prop} (k : K (decide q && isT s r) H) : TG q (y4 x s H) false H K := by
 refine ⟨fun c => a7G h ?_, fun c => ?_⟩
 ·rw [decide_eq_true c] at k; exact k
 ·rw [decide_eq_false c] at k; exact k
theorem b6U (h : Rb H x c p) {q : Prop} {s : ByteArray} {K : Bool → Hp → Prop} (k : K false H) : TG q (y4 x s H) false H K := ⟨fun _ => a6p h k, fun _ => k⟩
theorem b5q (h : Rg H x r) {K : Int → Hp → Prop} (k : K (whG sMul kMul r) H) : N7 x H K := by
 refine a1X _ (a7G h ?_)
 simp only [a1G] at k
 refine ⟨fun c => ?_, fun c => a7G h ⟨fun c2 => ?_, fun c2 => a7G h ⟨fun c3 => ?_, fun c3 => ?_⟩⟩⟩
 ·rw [if_pos c] at k; exact k
 ·rw [if_neg (by rw [c]; decide), if_pos c2] at k; exact k
 ·rw [if_neg (by rw [c]; decide), if_neg (by rw [c2]; decide), if_pos c3] at k; exact k
 ·rw [if_neg (by rw [c]; decide), if_neg (by rw [c2]; decide), if_neg (by rw [c3]; decide)] at k; exact k
theorem b3n (h : Rb H x c p) {K : Int → Hp → Prop} (k : K 0 H) : N7 x H K :=
 a1X _ (a6p h ⟨fun q => (by cases q), fun _ => a6p h ⟨fun q => (by cases q), fun _ => a6p h ⟨fun q => (by cases q), fun _ => k⟩⟩⟩)
end
def FactG (g : Nat) (d : Int) : Prop := ∀ ⦃H : Hp⦄ ⦃x : RD4⦄ ⦃r : List Tok⦄ ⦃K : b9 → RD4 → Hp → Prop⦄, Rg H x r → a1g H x EH (factP g r) K → Y9 x d H K
def TermG (g : Nat) (d : Int) : Prop := ∀ ⦃H : Hp⦄ ⦃x : RD4⦄ ⦃r : List Tok⦄ ⦃K : b9 → RD4 → Hp → Prop⦄, Rg H x r → a1g H x EH (termOf (factP g) r) K → T8 x d H K
def ExprG (g : Nat) (d : Int) : Prop := ∀ ⦃H : Hp⦄ ⦃x : RD4⦄ ⦃r : List Tok⦄ ⦃K : b9 → RD4 → Hp → Prop⦄, Rg H x r → a1g H x EH (exprP g r) K → a2u x d H K
def LitG (g : Nat) (d : Int) : Prop := ∀ ⦃H : Hp⦄ ⦃x : RD4⦄ ⦃r : List Tok⦄ ⦃K : f8 → RD4 → Hp → Prop⦄, Rg H x r → a1g H x CH (litP g r) K → a0d x d H K
def ConjG (g : Nat) (d : Int) : Prop := ∀ ⦃H : Hp⦄ ⦃x : RD4⦄ ⦃r : List Tok⦄ ⦃K : f8 → RD4 → Hp → Prop⦄, Rg H x r → a1g H x CH (conjOf (litP g) r) K → T9 x d H K
def CondG (g : Nat) (d : Int) : Prop := ∀ ⦃H : Hp⦄ ⦃x : RD4⦄ ⦃r : List Tok⦄ ⦃K : f8 → RD4 → Hp → Prop⦄, Rg H x r → a1g H x CH (condP g r) K → a2v x d H K
theorem b3o {w : List Tok → Int} {part : PM PT} {n : Nat} {e : PT} {r : List Tok} (h : w r ≠ 0) : chainF w part (n + 1) e r = bindP part (fun a => chainF w part n (eX (w r) 0 ⟨#[]⟩ [e, a])) r.tail := by
 conv => lhs; unfold chainF
 rw [if_neg h]
theorem b1M {w : List Tok → Int} {part : PM PT} {n : Nat} {e : PT} {r : List Tok} (h : w r = 0) : chainF w part n e r = .ok (e, r) := by
 cases n with
 | zero => rfl
 | succ n => unfold chainF; rw [if_pos h]
theorem b3p {s : ByteArray} {k : Int} {part : PM PT} {n : Nat} {e : PT} {r : List Tok} (h : isT s r = true) : joinsF s k part (n + 1) e r = bindP part (fun d => joinsF s k part n (cX k 0 [] [e, d])) r.tail := by
 conv => lhs; unfold joinsF
 rw [if_pos h]
theorem b1N {s : ByteArray} {k : Int} {part : PM PT} {n : Nat} {e : PT} {r : List Tok} (h : isT s r = false) : joinsF s k part n e r = .ok (e, r) := by
 cases n with
 | zero => rfl
 | succ n => unfold joinsF; rw [if_neg (by rw [h]; decide)]
section
variable {g : Nat} {d : Int}
theorem FactG.term (hf : FactG g d) : TermG g d := by
 intro H x r K h k
 refine a5w _ _ ?_
 unfold Z1
 unfold termOf chainP at k
 refine hf h (a1g.bind k (fun a r1 H1 v x1 ea l1' ra rd e1 k1 => b5q rd ?_) fun c p H1 v x1 l1' rb kb _ _ => b3n rb ?_)
 ·generalize ho : chainF (whG sMul kMul) (factP g) r1.length a r1 = o at k1
  refine Q4 (fun (z : Int × RD4 × b9 × b9) H' => Hle H1 H' ∧ z.2.1.fl = x1.fl ∧ ((∃ a r' n, z.1 = whG sMul kMul r' ∧ EH H' z.2.2.1 a ∧ Rg H' z.2.1 r' ∧ r'.length ≤ n ∧ chainF (whG sMul kMul) (factP g) n a r' = o) ∨ z.1 = 0 ∧ ∃ c p, Rb H' z.2.1 c p ∧ o = .error (c, p))) (fun z => if z.2.1.fbad = 0 then ((z.2.1.fl.n : Int) - z.2.1.fat).toNat + 1 else 0) ⟨Hle.refl _, rfl, .inl ⟨a, r1, _, rfl, ra, rd, Nat.le_refl _, ho⟩⟩ ?_
  rintro ⟨kk, x2, e, f⟩ H2 next ⟨l2, e2, hz⟩ hn
  dsimp only at e2 hz
  unfold R4
  dsimp only
  rcases hz with ⟨a, r2, n, rfl, ra, rd2, hlen, ho2⟩ | ⟨rfl, c, p, rb, rfl⟩
  ·refine ⟨fun c => ?_, fun c => ?_⟩
   ·have hne := b5j c
    have ht := a0H hne
    obtain ⟨n, rfl⟩ : ∃ m, n = m + 1 := ⟨n - 1, by omega⟩
    rw [b3o c] at ho2
    have m2 := rd2.len
    have b2 := rd2.2
    rw [← ho2] at k1
    refine hf (rd2.up hne) (a1g.bind (a1g.next (γ := Unit) l2 e2 k1) (fun b r3 H3 v x3 eb l3 rb rd3 e3 k3 => b5q rd3 ?_) fun c p H3 v x3 l3 rb kb eb e3 => b3n rb ?_)
    ·intro s H4 l4 hs _
     have hlt := a5t g _ _ _ eb
     have m3 := (rd3.le l4).len
     have b3 := rd3.2
     refine hn _ _ ⟨(l2.trans l3).trans l4, e3.trans e2, .inl ⟨_, r3, n, rfl, EH2 hs (ra.le (l3.trans l4)) (rb.le l4) _ _ _, rd3.le l4, by omega, by rw [← ho2, X5 eb]⟩⟩ ?_
     dsimp only
     rw [if_pos b3, if_pos b2]
     omega
    ·intro s H4 l4 hs _
     refine hn _ _ ⟨(l2.trans l3).trans l4, e3.trans e2, .inr ⟨rfl, c, p, rb.le l4, by rw [← ho2, L4 eb]⟩⟩ ?_
     dsimp only
     rw [if_neg rb.bad, if_pos b2]
     omega
   ·rw [b1M c] at ho2
    subst ho2
    exact k1 _ _ _ l2 ra rd2 e2
  ·exact ⟨fun q => absurd rfl q, fun _ => k1 _ _ _ l2 rb e2⟩
 ·refine Q4 (fun (z : Int × RD4 × b9 × b9) H' => H' = H1 ∧ z.1 = 0 ∧ z.2.1 = x1) (fun _ => 0) ⟨rfl, rfl, rfl⟩ ?_
  rintro ⟨_, _, e, f⟩ H1 next ⟨rfl, rfl, rfl⟩ _
  exact ⟨fun q => absurd rfl q, fun _ => kb _ _ (Hle.refl _)⟩
theorem TermG.expr (hf : TermG g d) : ExprG g d := by
 intro H x r K h k
 refine a5z _ _ ?_
 unfold Z4
 unfold exprP exprOf at k
 unfold chainP at k
 have hsh : SShr (termOf (factP g)) := a4P (a5t g)
 refine hf h (a1g.bind k (fun a r1 H1 v x1 ea l1' ra rd e1 k1 => ?_) fun c p H1 v x1 l1' rb kb _ _ => ?_)
 ·generalize ho : chainF (whG sAdd kAdd) (termOf (factP g)) r1.length a r1 = o at k1
  refine Q4 (fun (z : b9 × RD4 × b9) H' => Hle H1 H' ∧ z.2.1.fl = x1.fl ∧ ((∃ a r' n, EH H' z.1 a ∧ Rg H' z.2.1 r' ∧ r'.length ≤ n ∧ chainF (whG sAdd kAdd) (termOf (factP g)) n a r' = o) ∨ ∃ c p, Rb H' z.2.1 c p ∧ o = .error (c, p))) (fun z => if z.2.1.fbad = 0 then ((z.2.1.fl.n : Int) - z.2.1.fat).toNat + 1 else 0) ⟨Hle.refl _, rfl, .inl ⟨a, r1, _, ra, rd, Nat.le_refl _, ho⟩⟩ ?_
  rintro ⟨e, x2, f⟩ H2 next ⟨l2, e2, hz⟩ hn
  dsimp only at e2 hz
  unfold R7
  dsimp only
  rcases hz with ⟨a, r2, n, ra, rd2, hlen, ho2⟩ | ⟨c, p, rb, rfl⟩
  ·have round : ∀ kk : Int, kk ≠ 0 → whG sAdd kAdd r2 = kk → C0 d kk x2 e f H2 next K := by
    intro kk hk0 hkk
    have c : whG sAdd kAdd r2 ≠ 0 := by rw [hkk]; exact hk0
    have hne := b5j c
    have ht := a0H hne
    obtain ⟨n, rfl⟩ : ∃ m, n = m + 1 := ⟨n - 1, by omega⟩
    rw [b3o c, hkk] at ho2
    have m2 := rd2.len
    have b2 := rd2.2
    rw [← ho2] at k1
    unfold C0
    refine hf (rd2.up hne) (a1g.bind (a1g.next (γ := Unit) l2 e2 k1) (fun b r3 H3 v x3 eb l3 rb rd3 e3 k3 => ?_) fun c p H3 v x3 l3 rb kb eb e3 => ?_)
    ·intro s H4 l4 hs _
     have hlt := hsh _ _ _ eb
     have m3 := (rd3.le l4).len
     have b3 := rd3.2
     refine hn _ _ ⟨(l2.trans l3).trans l4, e3.trans e2, .inl ⟨_, r3, n, EH2 hs (ra.le (l3.trans l4)) (rb.le l4) _ _ _, rd3.le l4, by omega, by rw [← ho2, X5 eb]⟩⟩ ?_
     dsimp only
     rw [if_pos b3, if_pos b2]
     omega
    ·intro s H4 l4 hs _
     refine hn _ _ ⟨(l2.trans l3).trans l4, e3.trans e2, .inr ⟨c, p, rb.le l4, by rw [← ho2, L4 eb]⟩⟩ ?_
     dsimp only
     rw [if_neg rb.bad, if_pos b2]
     omega
   refine a7G rd2 (c6y rd2 ?_)
   rw [b1K]
   refine ⟨fun c => a7G rd2 ⟨fun c7 => round 7 (by decide) ?_, fun c7 => round 6 (by decide) ?_⟩, fun c => ?_⟩
   ·rw [a1G, if_neg (by rw [b9t c7 (by decide)]; decide), a1G, if_pos c7]
   ·have c6 : isT ⟨#[43]⟩ r2 = true := by rw [c7, Bool.or_false] at c; exact c
    rw [a1G, if_pos c6]
   ·obtain ⟨c6, c7⟩ := Bool.or_eq_false_iff.1 c
    rw [b1M (by rw [a1G, if_neg (by rw [c6]; decide), a1G, if_neg (by rw [c7]; decide)]; rfl)] at ho2
    subst ho2
    exact k1 _ _ _ l2 ra rd2 e2
  ·exact a6p rb (b6U rb ⟨fun q => (by cases q), fun _ => k1 _ _ _ l2 rb e2⟩)
 ·refine Q4 (fun (z : b9 × RD4 × b9) H' => H' = H1 ∧ z.2.1 = x1) (fun _ => 0) ⟨rfl, rfl⟩ ?_
  rintro ⟨e, _, f⟩ H1 next ⟨rfl, rfl⟩ _
  exact a6p rb (b6U rb ⟨fun q => (by cases q), fun _ => kb _ _ (Hle.refl _)⟩)
theorem LitG.conj (hf : LitG g d) : ConjG g d := by
 intro H x r K h k
 refine a5u _ _ ?_
 unfold Z0
 unfold conjOf at k
 unfold joinsP at k
 have hsh : SShr (litP g) := a7E g
 refine hf h (a1g.bind k (fun a r1 H1 v x1 ea l1' ra rd e1 k1 => ?_) fun c p H1 v x1 l1' rb kb _ _ => ?_)
 ·generalize ho : joinsF ⟨#[38, 38]⟩ 5 (litP g) r1.length a r1 = o at k1
  refine Q4 (fun (z : f8 × RD4 × f8) H' => Hle H1 H' ∧ z.2.1.fl = x1.fl ∧ ((∃ a r' n, CH H' z.1 a ∧ Rg H' z.2.1 r' ∧ r'.length ≤ n ∧ joinsF ⟨#[38, 38]⟩ 5 (litP g) n a r' = o) ∨ ∃ c p, Rb H' z.2.1 c p ∧ o = .error (c, p))) (fun z => if z.2.1.fbad = 0 then ((z.2.1.fl.n : Int) - z.2.1.fat).toNat + 1 else 0) ⟨Hle.refl _, rfl, .inl ⟨a, r1, _, ra, rd, Nat.le_refl _, ho⟩⟩ ?_
  rintro ⟨e, x2, f⟩ H2 next ⟨l2, e2, hz⟩ hn
  dsimp only at e2 hz
  unfold R3
  dsimp only
  rcases hz with ⟨a, r2, n, ra, rd2, hlen, ho2⟩ | ⟨c, p, rb, rfl⟩
  ·have m2 := rd2.len
   have b2 := rd2.2
   refine b6T rd2 (fun c x' hx' e' => ⟨fun _ => ?_, fun q => (by cases q)⟩) fun c => ⟨fun q => (by cases q), fun _ => ?_⟩
   ·have ht := a0H (a4a c)
    obtain ⟨n, rfl⟩ : ∃ m, n = m + 1 := ⟨n - 1, by omega⟩
    rw [b3p c] at ho2
    rw [← ho2] at k1
    refine hf hx' (a1g.bind (a1g.next (γ := Unit) l2 (e'.trans e2) k1) (fun b r3 H3 v x3 eb l3 rb rd3 e3 k3 => ?_) fun c p H3 v x3 l3 rb kb eb e3 => ?_)
    ·intro s H4 l4 hs _
     have hlt := hsh _ _ _ eb
     have m3 := (rd3.le l4).len
     have b3 := rd3.2
     refine hn _ _ ⟨(l2.trans l3).trans l4, (e3.trans e').trans e2, .inl ⟨_, r3, n, CH2 hs (ra.le (l3.trans l4)) (rb.le l4) _ _, rd3.le l4, by omega, by rw [← ho2, X5 eb]⟩⟩ ?_
     dsimp only
     rw [if_pos b3, if_pos b2]
     omega
    ·intro s H4 l4 hs _
     refine hn _ _ ⟨(l2.trans l3).trans l4, (e3.trans e').trans e2, .inr ⟨c, p, rb.le l4, by rw [← ho2, L4 eb]⟩⟩ ?_
     dsimp only
     rw [if_neg rb.bad, if_pos b2]
     omega
   ·rw [b1N c] at ho2
    subst ho2
    exact k1 _ _ _ l2 ra rd2 e2
  ·exact a9d rb ⟨fun q => (by cases q), fun _ => k1 _ _ _ l2 rb e2⟩
 ·refine Q4 (fun (z : f8 × RD4 × f8) H' => H' = H1 ∧ z.2.1 = x1) (fun _ => 0) ⟨rfl, rfl⟩ ?_
  rintro ⟨e, _, f⟩ H1 next ⟨rfl, rfl⟩ _
  exact a9d rb ⟨fun q => (by cases q), fun _ => kb _ _ (Hle.refl _)⟩
theorem ConjG.cond (hf : ConjG g d) : CondG g d := by
 intro H x r K h k
 refine a5y _ _ ?_
 unfold Z3
 unfold condP condOf at k
 unfold joinsP at k
 have hsh : SShr (conjOf (litP g)) := a4Q (a7E g)
 refine hf h (a1g.bind k (fun a r1 H1 v x1 ea l1' ra rd e1 k1 => ?_) fun c p H1 v x1 l1' rb kb _ _ => ?_)
 ·generalize ho : joinsF ⟨#[124, 124]⟩ 6 (conjOf (litP g)) r1.length a r1 = o at k1
  refine Q4 (fun (z : f8 × RD4 × f8) H' => Hle H1 H' ∧ z.2.1.fl = x1.fl ∧ ((∃ a r' n, CH H' z.1 a ∧ Rg H' z.2.1 r' ∧ r'.length ≤ n ∧ joinsF ⟨#[124, 124]⟩ 6 (conjOf (litP g)) n a r' = o) ∨ ∃ c p, Rb H' z.2.1 c p ∧ o = .error (c, p))) (fun z => if z.2.1.fbad = 0 then ((z.2.1.fl.n : Int) - z.2.1.fat).toNat + 1 else 0) ⟨Hle.refl _, rfl, .inl ⟨a, r1, _, ra, rd, Nat.le_refl _, ho⟩⟩ ?_
  rintro ⟨e, x2, f⟩ H2 next ⟨l2, e2, hz⟩ hn
  dsimp only at e2 hz
  unfold R5
  dsimp only
  rcases hz with ⟨a, r2, n, ra, rd2, hlen, ho2⟩ | ⟨c, p, rb, rfl⟩
  ·have m2 := rd2.len
   have b2 := rd2.2
   refine b6T rd2 (fun c x' hx' e' => ⟨fun _ => ?_, fun q => (by cases q)⟩) fun c => ⟨fun q => (by cases q), fun _ => ?_⟩
   ·have ht := a0H (a4a c)
    obtain ⟨n, rfl⟩ : ∃ m, n = m + 1 := ⟨n - 1, by omega⟩
    rw [b3p c] at ho2
    rw [← ho2] at k1
    refine hf hx' (a1g.bind (a1g.next (γ := Unit) l2 (e'.trans e2) k1) (fun b r3 H3 v x3 eb l3 rb rd3 e3 k3 => ?_) fun c p H3 v x3 l3 rb kb eb e3 => ?_)
    ·intro s H4 l4 hs _
     have hlt := hsh _ _ _ eb
     have m3 := (rd3.le l4).len
     have b3 := rd3.2
     refine hn _ _ ⟨(l2.trans l3).trans l4, (e3.trans e').trans e2, .inl ⟨_, r3, n, CH2 hs (ra.le (l3.trans l4)) (rb.le l4) _ _, rd3.le l4, by omega, by rw [← ho2, X5 eb]⟩⟩ ?_
     dsimp only
     rw [if_pos b3, if_pos b2]
     omega
    ·intro s H4 l4 hs _
     refine hn _ _ ⟨(l2.trans l3).trans l4, (e3.trans e').trans e2, .inr ⟨c, p, rb.le l4, by rw [← ho2, L4 eb]⟩⟩ ?_
     dsimp only
     rw [if_neg rb.bad, if_pos b2]
     omega
   ·rw [b1N c] at ho2
    subst ho2
    exact k1 _ _ _ l2 ra rd2 e2
  ·exact a9d rb ⟨fun q => (by cases q), fun _ => k1 _ _ _ l2 rb e2⟩
 ·refine Q4 (fun (z : f8 × RD4 × f8) H' => H' = H1 ∧ z.2.1 = x1) (fun _ => 0) ⟨rfl, rfl⟩ ?_
  rintro ⟨e, _, f⟩ H1 next ⟨rfl, rfl⟩ _
  exact a9d rb ⟨fun q => (by cases q), fun _ => kb _ _ (Hle.refl _)⟩
theorem FactG.expr (h : FactG g d) : ExprG g d := TermG.expr (FactG.term h)
theorem LitG.whole (h : LitG g d) : CondG g d := ConjG.cond (LitG.conj h)
end
section
variable {g : Nat} {d : Int} {H : Hp} {x : RD4} {r : List Tok}
end
end Go.Proofs.YthklmeihgmcljaaGreatDoor
