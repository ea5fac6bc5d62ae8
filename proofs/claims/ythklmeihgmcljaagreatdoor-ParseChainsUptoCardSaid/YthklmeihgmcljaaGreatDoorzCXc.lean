/- Parsing: a text's tokens end with an end and have no other; their texts and numbers are small; so are those of what is read. -/
import Derived.Test.YthklmeihgmcljaaGreatDoorzCX9
import Derived.Test.YthklmeihgmcljaaGreatDoorzCQ9
namespace Go.Proofs.YthklmeihgmcljaaGreatDoor
open Go.RowKit
set_option maxRecDepth 100000
set_option maxHeartbeats 1000000
def TkOK (t : Tok) : Prop := t.A8.size ≤ 65536 ∧ a1R t.N6
def TkL (r : List Tok) : Prop := ∀ t ∈ r, TkOK t
theorem b6d : ∀ {l : List Tok} {e : Tok}, (∀ t ∈ l, t.f7 ≠ 5) → e.f7 = 5 → WfT (l ++ [e])
 | [], e, _, he => he
 | [t], e, h, he => ⟨h t (by simp), he⟩
 | t :: u :: l, e, h, he => ⟨h t (by simp), b6d (l := u :: l) (fun x hx => h x (List.mem_cons_of_mem _ hx)) he⟩
section
variable {s : ByteArray}
theorem b7e (p q : Nat) : (s.extract p q).size ≤ s.size := by simp only [ByteArray.size_extract]; omega
theorem c2f (hs : s.size ≤ 65536) {p : Nat} (h : (oneO s p).err = 0) : (oneO s p).kind ≠ 5 ∧ (oneO s p).text.size ≤ 65536 ∧ a1R (oneO s p).num := by
 have hx : ∀ p q, (s.extract p q).size ≤ 65536 := fun p q => Nat.le_trans (b7e p q) hs
 unfold oneO at h ⊢
 split at h
 ·rename_i c
  rw [if_pos c]
  unfold wordO at h ⊢
  split at h
  ·rename_i c2; rw [if_pos c2]; exact ⟨by show (3 : Int) ≠ 5; decide, hx _ _, by show a1R 0; decide⟩
  rename_i c2
  rw [if_neg c2]
  split at h
  ·cases h
  ·rename_i c3; rw [if_neg c3]; exact ⟨by show (1 : Int) ≠ 5; decide, hx _ _, by show a1R 0; decide⟩
 rename_i c
 rw [if_neg c]
 split at h
 ·rename_i c2
  rw [if_pos c2]
  unfold numO at h ⊢
  split at h
  ·cases h
  ·rename_i c3
   rw [if_neg c3]
   refine ⟨by show (2 : Int) ≠ 5; decide, hx _ _, ?_⟩
   show a1R ((dg s p 0).2 : Int)
   unfold a1R
   omega
 rename_i c2
 rw [if_neg c2]
 split at h
 ·rename_i c3
  rw [if_pos c3]
  unfold signO at h ⊢
  split at h
  ·rename_i c4; rw [if_pos c4]; exact ⟨by show (4 : Int) ≠ 5; decide, hx _ _, by show a1R 0; decide⟩
  rename_i c4
  rw [if_neg c4]
  split at h
  ·cases h
  ·rename_i c5; rw [if_neg c5]; exact ⟨by show (4 : Int) ≠ 5; decide, hx _ _, by show a1R 0; decide⟩
 ·cases h
theorem b8v (hs : s.size ≤ 65536) : ∀ (f p : Nat) (a : Int × Int) (out : List Tk), s.size + 1 - p ≤ f → p ≤ s.size → out.length ≤ 32768 → (∀ t ∈ out, t.kind ≠ 5 ∧ t.text.size ≤ 65536 ∧ a1R t.num) → (tkF s f p a out).2.2 = 0 →
  ∃ init last, (tkF s f p a out).1 = init ++ [last] ∧ (∀ t ∈ init, t.kind ≠ 5 ∧ t.text.size ≤ 65536 ∧ a1R t.num) ∧ last.kind = 5 ∧ last.text.size ≤ 65536 ∧ a1R last.num ∧ init.length ≤ 32768
 | 0, p, a, out, hf, hp, _, _, _ => by omega
 | f + 1, p, a, out, hf, hp, hl, ho, he => by
  have hk := b3e hp
  rw [tkF] at he ⊢
  split at he
  ·rename_i c
   rw [if_pos c]
   exact ⟨out, _, rfl, ho, rfl, by show (0 : Nat) ≤ 65536; decide, by show a1R 0; decide, hl⟩
  rename_i c
  rw [if_neg c]
  split at he
  ·cases he
  rename_i c2
  rw [if_neg c2]
  split at he
  ·rename_i c3; exact absurd he c3
  rename_i c3
  rw [if_neg c3]
  have c3' : (oneO s (sk s p)).err = 0 := Classical.byContradiction c3
  have hst := b0e (s := s) (p := sk s p) (by omega) c3'
  refine b8v hs f _ _ _ (by omega) hst.2 (by simp; omega) ?_ he
  intro t ht
  rcases List.mem_append.1 ht with q | q
  ·exact ho t q
  ·rw [List.mem_singleton.1 q]
   exact c2f hs c3'
theorem a7O (h : (tkS s).2.2 = 0) : WfT ((tkS s).1.map tkv) ∧ ((tkS s).1.map tkv).length ≤ big ∧ TkL ((tkS s).1.map tkv) := by
 unfold tkS at h ⊢
 split at h
 ·cases h
 rename_i c
 rw [if_neg c]
 split at h
 ·cases h
 rename_i hc
 obtain ⟨init, last, e, h1, h2, h3, h4, h5⟩ := b8v (s := s) (by omega) _ _ _ [] (by omega) (by omega) (by simp) (by simp) h
 rw [e, List.map_append, List.map_singleton]
 refine ⟨b6d (fun t ht => ?_) h2, by simp [big]; omega, fun t ht => ?_⟩
 ·obtain ⟨u, hu, rfl⟩ := List.mem_map.1 ht
  exact (h1 u hu).1
 ·rcases List.mem_append.1 ht with q | q
  ·obtain ⟨u, hu, rfl⟩ := List.mem_map.1 q
   exact (h1 u hu).2
  ·rw [List.mem_singleton.1 q]
   exact ⟨h3, h4⟩
end
def SmP {α : Type} (G : α → Prop) (p : PM α) : Prop := ∀ r a r', TkL r → p r = .ok (a, r') → G a ∧ TkL r'
theorem TkL.tail {r : List Tok} (h : TkL r) : TkL r.tail := fun t ht => h t (List.mem_of_mem_tail ht)
theorem TkL.hd {r : List Tok} (h : TkL r) : TkOK (hd r) := by
 cases r with
 | nil => exact ⟨by show (0 : Nat) ≤ 65536; decide, by show a1R 0; decide⟩
 | cons t r => exact h t (by simp)
theorem SmP.bind {α β : Type} {G : α → Prop} {G2 : β → Prop} {p : PM α} {f : α → PM β} (hp : SmP G p) (hf : ∀ a, G a → SmP G2 (f a)) : SmP G2 (bindP p f) := fun r b r' ht h => by
 obtain ⟨a, r1, h1, h2⟩ := bind_ok h
 obtain ⟨ga, t1⟩ := hp _ _ _ ht h1
 exact hf a ga _ _ _ t1 h2
theorem a2e {α : Type} {G : α → Prop} {a : α} (h : G a) : SmP G (pureP a) := fun r b r' ht e => by cases e; exact ⟨h, ht⟩
theorem a2E (s : ByteArray) : SmP (fun _ => True) (mustP s) := fun r b r' ht h => by
 unfold mustP at h
 split at h
 ·cases h; exact ⟨trivial, ht.tail⟩
 ·cases h
theorem b2g {α : Type} {G : α → Prop} (b : List Tok → Bool) : SmP G (deadE (α := α) b) := fun r a r' _ h => by
 unfold deadE at h
 split at h <;> cases h
theorem a9G {k n : Int} {s : ByteArray} {ts : List PT} (hs : s.size ≤ 65536) (hn : a1R n) (h : ∀ t ∈ ts, Sm t) : Sm (eX k n s ts) := .mk ⟨by show s.size ≤ sml; simp only [sml]; omega, hn⟩ h
theorem b1c {k n : Int} {es cs : List PT} (he : ∀ t ∈ es, Sm t) (hc : ∀ t ∈ cs, Sm t) : Sm (cX k n es cs) := .mk ⟨by show (0 : Nat) ≤ sml; simp only [sml]; omega, by show a1R 0; decide⟩ fun t ht => by
 rcases List.mem_append.1 ht with q | q
 ·exact he t q
 ·exact hc t q
theorem a8q {k : Int} {s : ByteArray} {es cs vs ws : List PT} (hs : s.size ≤ 65536) (he : ∀ t ∈ es, Sm t) (hc : ∀ t ∈ cs, Sm t) (hv : ∀ t ∈ vs, Sm t) (hw : ∀ t ∈ ws, Sm t) : Sm (sX k s es cs vs ws) := .mk ⟨by show s.size ≤ sml; simp only [sml]; omega, by show a1R 0; decide⟩ fun t ht => by
 simp only [List.mem_append] at ht
 rcases ht with q | q | q | q
 ·exact hc t q
 ·exact he t q
 ·exact hv t q
 ·exact hw t q
theorem a5l {t : PT} (h : Sm t) : ∀ u ∈ [t], Sm u := fun u hu => by rw [List.mem_singleton.1 hu]; exact h
theorem b4H {t t' : PT} (h : Sm t) (h' : Sm t') : ∀ u ∈ [t, t'], Sm u := fun u hu => by
 simp only [List.mem_cons, List.not_mem_nil, or_false] at hu
 rcases hu with rfl | rfl
 ·exact h
 ·exact h'
theorem L3 : ∀ u ∈ ([] : List PT), Sm u := fun u hu => by cases hu
theorem e0 : (⟨#[]⟩ : ByteArray).size ≤ 65536 := by show (0 : Nat) ≤ 65536; decide
theorem b2O {w : List Tok → Int} {part : PM PT} (hp : SmP Sm part) : ∀ (n : Nat) (e : PT), Sm e → SmP Sm (chainF w part n e)
 | 0, e, he => fun r b r' ht h => by cases h; exact ⟨he, ht⟩
 | n + 1, e, he => fun r b r' ht h => by
  unfold chainF at h
  split at h
  ·cases h; exact ⟨he, ht⟩
  ·exact SmP.bind hp (fun a ha => b2O hp n _ (a9G e0 (by decide) (b4H he ha))) _ _ _ ht.tail h
theorem b2P {s : ByteArray} {k : Int} {part : PM PT} (hp : SmP Sm part) : ∀ (n : Nat) (e : PT), Sm e → SmP Sm (joinsF s k part n e)
 | 0, e, he => fun r b r' ht h => by cases h; exact ⟨he, ht⟩
 | n + 1, e, he => fun r b r' ht h => by
  unfold joinsF at h
  split at h
  ·exact SmP.bind hp (fun a ha => b2P hp n _ (b1c L3 (b4H he ha))) _ _ _ ht.tail h
  ·cases h; exact ⟨he, ht⟩
theorem a7q {w : List Tok → Int} {part : PM PT} (hp : SmP Sm part) : SmP Sm (chainP w part) := hp.bind fun e he r _ _ ht h => b2O hp r.length e he _ _ _ ht h
theorem a7r {s : ByteArray} {k : Int} {part : PM PT} (hp : SmP Sm part) : SmP Sm (joinsP s k part) := hp.bind fun e he r _ _ ht h => b2P hp r.length e he _ _ _ ht h
theorem b9N {f : PM PT} (hf : SmP Sm f) : SmP Sm (factS f) := fun r a r' ht h => by
 have he : SmP Sm (exprOf f) := a7q (a7q hf)
 have t1 := ht.hd
 unfold factS at h
 split at h
 ·cases h
 split at h
 ·exact (hf.bind fun e h => a2e (a9G e0 (by decide) (a5l h))) _ _ _ ht.tail h
 split at h
 ·exact (he.bind fun e h => (a2E _).bind fun _ _ => a2e h) _ _ _ ht.tail h
 split at h
 ·cases h; exact ⟨a9G e0 (by decide) L3, ht.tail⟩
 split at h
 ·cases h; exact ⟨a9G e0 t1.2 L3, ht.tail⟩
 split at h
 ·exact (he.bind fun e h => (a2E _).bind fun _ _ => a2e (a9G t1.1 (by decide) (a5l h))) _ _ _ ht.tail.tail h
 ·cases h; exact ⟨a9G t1.1 (by decide) L3, ht.tail⟩
theorem b4I : ∀ g, SmP Sm (factP g)
 | 0 => b2g _
 | g + 1 => b9N (b4I g)
theorem a8r (g : Nat) : SmP Sm (exprP g) := a7q (a7q (b4I g))
theorem c2g : SmP (fun _ => True) relP := fun r a r' ht h => by
 unfold relP at h
 split at h
 ·cases h
 ·cases h; exact ⟨trivial, ht.tail⟩
theorem c2h {l ex : PM PT} (hl : SmP Sm l) (hx : SmP Sm ex) : SmP Sm (litS l ex) := fun r a r' ht h => by
 have hc : SmP Sm (condOf l) := a7r (a7r hl)
 unfold litS at h
 split at h
 ·cases h
 split at h
 ·cases h; exact ⟨b1c L3 L3, ht.tail⟩
 split at h
 ·cases h; exact ⟨b1c L3 L3, ht.tail⟩
 split at h
 ·exact (hl.bind fun e h => a2e (b1c L3 (a5l h))) _ _ _ ht.tail h
 split at h
 ·exact (hc.bind fun e h => (a2E _).bind fun _ _ => a2e h) _ _ _ ht.tail h
 ·exact (hx.bind fun a ha => c2g.bind fun _ _ => hx.bind fun b hb => a2e (b1c (b4H ha hb) L3)) _ _ _ ht h
theorem b6e : ∀ g, SmP Sm (litP g)
 | 0 => b2g _
 | g + 1 => c2h (b6e g) (a8r _)
theorem b9O (g : Nat) : SmP Sm (condP g) := a7r (a7r (b6e g))
def SmL (l : List PT) : Prop := ∀ t ∈ l, Sm t
theorem a9c {stop : List Tok → Bool} {st : PM PT} (hs : SmP Sm st) : ∀ (n : Nat) (l : List PT), SmL l → SmP SmL (stmtsF stop st n l)
 | 0, l, hl => fun r b r' ht h => by cases h; exact ⟨hl, ht⟩
 | n + 1, l, hl => fun r b r' ht h => by
  unfold stmtsF at h
  split at h
  ·cases h; exact ⟨hl, ht⟩
  ·exact SmP.bind hs (fun a ha => a9c hs n _ fun t ht => by
    rcases List.mem_append.1 ht with q | q
    ·exact hl t q
    ·rw [List.mem_singleton.1 q]; exact ha) _ _ _ ht h
theorem b7f {st : PM PT} (hs : SmP Sm st) : SmP SmL (blockOf st) := (a2E _).bind fun _ _ => SmP.bind (G := SmL) (fun r _ _ ht h => a9c hs r.length [] L3 _ _ _ ht h) fun l hl r _ r' ht h => by
 cases h; exact ⟨hl, ht.tail⟩
theorem a9H {s : PT} (h : Sm s) : SmP Sm (endS s) := (a2E _).bind fun _ _ => a2e h
theorem b6f {k : Int} {s : ByteArray} {es : List PT} {ex : PM PT} (hs : s.size ≤ 65536) (he : SmL es) (hx : SmP Sm ex) : SmP Sm (setS k s es ex) := (a2E _).bind fun _ _ => hx.bind fun e h => a9H (a8q hs (fun t ht => by
 rcases List.mem_append.1 ht with q | q
 ·exact he t q
 ·rw [List.mem_singleton.1 q]; exact h) L3 L3 L3)
theorem b9P {st sub ex co : PM PT} (hs : SmP Sm st) (hb : SmP Sm sub) (hx : SmP Sm ex) (hc : SmP Sm co) : SmP Sm (stmtS st sub ex co) := fun r a r' ht h => by
 have t1 := ht.hd
 have hbl := b7f hs
 unfold stmtS at h
 split at h
 ·cases h
 split at h
 ·split at h
  ·exact (hb.bind fun e h => (a2E _).bind fun _ _ => b6f t1.1 (a5l h) hx) _ _ _ ht.tail.tail h
  ·exact b6f t1.1 L3 hx _ _ _ ht.tail h
 split at h
 ·refine (hc.bind fun c hc' => hbl.bind fun th hth r1 a1 r2 ht1 h1 => ?_) _ _ _ ht.tail h
  split at h1
  ·exact (hbl.bind fun el hel => a2e (a8q e0 L3 (a5l hc') hth hel)) _ _ _ ht1.tail h1
  ·cases h1; exact ⟨a8q e0 L3 (a5l hc') hth L3, ht1⟩
 split at h
 ·exact (hc.bind fun c hc' => hbl.bind fun th hth => a2e (a8q e0 L3 (a5l hc') hth L3)) _ _ _ ht.tail h
 split at h
 ·exact (hc.bind fun c hc' => a9H (a8q e0 L3 (a5l hc') L3 L3)) _ _ _ ht.tail h
 split at h
 ·exact (hc.bind fun c hc' => a9H (a8q e0 L3 (a5l hc') L3 L3)) _ _ _ ht.tail h
 ·exact a9H (a8q e0 L3 L3 L3 L3) _ _ _ ht.tail h
theorem b4J : ∀ g, SmP Sm (stmtP g)
 | 0 => b2g _
 | g + 1 => b9P (b4J g) (a8r _) (a8r _) (b9O _)
abbrev toks (s : ByteArray) : List Tok := (tkS s).1.map tkv
def ansR {β : Type} (p : PM β) (chk : β → Int) (s : ByteArray) : Except Flt β := if (tkS s).2.2 = 0 then readsR p chk (toks s) else .error ((tkS s).2.2, plv (tkS s).2.1)
def Ans {α β : Type} (H : Hp) (z : α) (RR : Hp → α → β → Prop) (o : Except Flt β) (K : α → b9 → Int → Hp → Prop) : Prop := match o with
 | .error (c, q) => ∀ H', Hle H H' → K z q c H'
 | .ok b => ∀ H' v, Hle H H' → RR H' v b → K v ⟨0, 0⟩ 0 H'
abbrev zE : b7 := b7.mk 0 0 ⟨#[]⟩ (Sl.mk none 0 0)
section
variable {H : Hp} {s : ByteArray}
theorem Ans.rd {α β : Type} {z : α} {RR : Hp → α → β → Prop} {p : PM β} {chk : β → Int} {K : α → b9 → Int → Hp → Prop} (h : Ans H z RR (ansR p chk s) K) (he : (tkS s).2.2 = 0) : Ans H z RR (readsR p chk (toks s)) K := by
 unfold ansR at h
 rw [if_pos he] at h
 exact h
theorem b9Q (hT : TabsH H) (hE : ErrH H) (hs4 : s.size ≤ 4194304) {K : b7 → b9 → Int → Hp → Prop} (h : Ans H zE EH (ansR (exprP 40) (fun t => toldS [t]) s) K) : a3l s H K := by
 refine a8y _ ?_
 unfold a3q
 refine b7c (p := exprP 40) (chk := fun t => toldS [t]) (RR := EH) (toks := toks s) (pl := plv (tkS s).2.1) (er := (tkS s).2.2) (b2B hT hE hs4 fun e H' l hs => ⟨l, hs, rfl, rfl⟩) (fun he => ⟨(a7O he).1, (a7O he).2.1⟩) (fun rd k => a7H _ ((factOK 39 (by omega) (by omega)).expr rd k)) (fun {H' v b r'} he l eo ra => ?_) (fun l ra => ra.le l) (fun he H' l => ?_) (fun he c q eo H' l => ?_) fun he b eo H' v l ra => ?_
 ·exact c2d (hT.le l) ra (a8r 40 _ _ _ (a7O he).2.2 eo).1 fun H'' l2 => ⟨l2, b6c _⟩
 ·unfold ansR at h; rw [if_neg he] at h; exact h H' l
 ·have h := h.rd he; rw [eo] at h; exact h H' l
 ·have h := h.rd he; rw [eo] at h; exact h H' v l ra
end
set_option maxHeartbeats 2000000
abbrev zP : l7 := l7.mk (Sl.mk none 0 0) (Sl.mk none 0 0)
abbrev chkP (q : PP) : Int := toldS q.nodes
abbrev gD (d : l0) : Prop := d.A7.size ≤ 65536
theorem b9R (arr : Bool) : SmP gD (declP arr) := fun r a r' ht h => by
 have t1 := ht.hd
 unfold declP at h
 split at h
 ·cases h
 split at h
 ·refine (SmP.bind (G2 := gD) (a2E _) fun _ _ r1 a1 r2 ht1 h1 => ?_) _ _ _ ht.tail h
  split at h1
  ·cases h1
  ·exact ((a2E _).bind fun _ _ => (a2E _).bind fun _ _ => a2e (G := gD) t1.1) _ _ _ ht1.tail h1
 ·exact ((a2E _).bind fun _ _ => a2e (G := gD) t1.1) _ _ _ ht.tail h
theorem b2Q : ∀ (n : Nat) (l : List l0), (∀ d ∈ l, d.A7.size ≤ 65536) → SmP (fun l : List l0 => ∀ d ∈ l, d.A7.size ≤ 65536) (declsF n l)
 | 0, l, hl => fun r b r' ht h => by cases h; exact ⟨hl, ht⟩
 | n + 1, l, hl => fun r b r' ht h => by
  unfold declsF at h
  split at h
  ·exact SmP.bind (b9R _) (fun a ha => b2Q n _ fun t ht => by
    rcases List.mem_append.1 ht with q | q
    ·exact hl t q
    ·rw [List.mem_singleton.1 q]; exact ha) _ _ _ ht.tail h
  ·cases h; exact ⟨hl, ht⟩
theorem b9S : SmP PP.Sm progP := SmP.bind (G := fun l : List l0 => ∀ d ∈ l, d.A7.size ≤ 65536) (fun r _ _ ht h => b2Q r.length [] (fun _ q => (by cases q)) _ _ _ ht h) fun ds hd => SmP.bind (G := SmL) (fun r _ _ ht h => a9c (b4J 40) r.length [] L3 _ _ _ ht h) fun b hb => a2e fun t ht => by
 unfold PP.nodes at ht
 rcases List.mem_append.1 ht with q | q
 ·obtain ⟨u, hu, rfl⟩ := List.mem_map.1 q
  exact .mk ⟨by show u.A7.size ≤ sml; have := hd u hu; simp only [sml]; omega, by show a1R 0; decide⟩ L3
 ·exact hb t q
section
variable {H : Hp} {s : ByteArray}
theorem b4K (hT : TabsH H) (hE : ErrH H) (hs4 : s.size ≤ 4194304) {K : l7 → b9 → Int → Hp → Prop} (h : Ans H zP PH (ansR progP chkP s) K) : a1f s H K := by
 refine a8d _ ?_
 unfold a2S
 refine b7b (p := progP) (chk := chkP) (RR := PH) (toks := toks s) (pl := plv (tkS s).2.1) (er := (tkS s).2.2) (b2B hT hE hs4 fun e H' l hs => ⟨l, hs, rfl, rfl⟩) (fun he => ⟨(a7O he).1, (a7O he).2.1⟩) (fun rd k => c1Z rd k) (fun {H' v b r'} he l eo ra => ?_) (fun l ra => ra.le l) (fun he H' l => ?_) (fun he c q eo H' l => ?_) fun he b eo H' v l ra => ?_
 ·exact b9L (hT.le l) ra (b9S _ _ _ (a7O he).2.2 eo).1 fun H'' l2 => ⟨l2, b6c _⟩
 ·unfold ansR at h; rw [if_neg he] at h; exact h H' l
 ·have h := h.rd he; rw [eo] at h; exact h H' l
 ·have h := h.rd he; rw [eo] at h; exact h H' v l ra
end
end Go.Proofs.YthklmeihgmcljaaGreatDoor
