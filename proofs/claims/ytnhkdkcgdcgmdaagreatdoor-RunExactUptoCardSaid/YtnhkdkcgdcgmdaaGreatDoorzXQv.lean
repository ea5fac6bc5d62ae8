/- The document's run of a tree: a statement. Contracts off the printed formulas. -/
import Derived.Test.YtnhkdkcgdcgmdaaGreatDoorzXNv
namespace Go.Proofs.YtnhkdkcgdcgmdaaGreatDoor
open Go.RowKit
set_option maxRecDepth 100000
set_option maxHeartbeats 4000000
section
variable {H : Hp} {k0 : Int} {ev0 : Nat} {ns ars : List ByteArray} {X : Dx} {σ : St}
theorem DC.eqs {α : Type} {m m' : M α} {K : KD α} (h : DC X m σ H K) (e : m' σ = m σ) : DC X m' σ H K := ⟨fun v σ1 H' l q => h.1 v σ1 H' l (e ▸ q), fun st wr σ1 v H' l q => h.2 st wr σ1 v H' l (e ▸ q)⟩
variable (hk : k0 ≤ 1000000) (hev : ev0 ≤ 1000000)
include hk hev
theorem d4I {t : PT} (ha : ArS t) : formT t = true → Nm ns ars (uT t) → DStm k0 ev0 ns ars X t := by
 induction ha with
 | @mk k s ts us vs' ws hts hus hvs hws ih1 ih2 =>
  intro hf hu e σ H K he hd hx h
  have hAll : ArS (sN k s ts us vs' ws) := .mk hts hus hvs hws
  generalize htt : sN k s ts us vs' ws = tt at he
  cases he with
  | @mk _ xs ts' ys us' zs bs vs'' ws' hsE hb hrE hcC hcb hrC haT hab hal har hbE hbb hbl hbr =>
   unfold sN at htt
   injection htt with hl hkk
   injection hl with q1 q2 q3 q4 q5 q6
   subst q1; subst q2
   obtain ⟨w1, hk1⟩ := List.append_inj hkk q4
   obtain ⟨w2, hk2⟩ := List.append_inj hk1 q3
   obtain ⟨w3, w4⟩ := List.append_inj hk2 q5
   subst w1; subst w2; subst w3; subst w4
   have hu' := hu
   unfold sN at hu' hf
   obtain ⟨hu1, hu2⟩ := hu'.own
   rw [formT, Bool.and_eq_true] at hf
   have hff : formS e.b7 e.d9 ts.length us.length vs'.length ws.length = true := hf.1
   have hfs := hf.2
   have hxn : (e.b7 = 1 → e.d9 ∈ ns) ∧ (e.b7 = 2 → e.d9 ∈ ars) := by
    unfold useL at hu1
    constructor
    ·intro q
     rw [q] at hu1
     exact (hu1 ⟨e.d9, false⟩ (by simp)).2 rfl
    ·intro q
     rw [q] at hu1
     exact (hu1 ⟨e.d9, true⟩ (by simp)).1 rfl
   have hTe : ∀ u ∈ ts, Ar u ∧ formT u = true ∧ Nm ns ars (uT u) := fun u hm => by
    have hin : u ∈ us ++ (ts ++ (vs' ++ ws)) := List.mem_append_right _ (List.mem_append_left _ hm)
    exact ⟨hts u hm, A7 hfs hin, hu2.mem hin⟩
   have hTc : ∀ u ∈ us, ArC u ∧ formT u = true ∧ Nm ns ars (uT u) ∧ Cm ns ars (fun _ => True) (cvT u) ∧ Dec ns ars (cvT u) := fun u hm => by
    have hin : u ∈ us ++ (ts ++ (vs' ++ ws)) := List.mem_append_left _ hm
    exact ⟨hus u hm, A7 hfs hin, hu2.mem hin, cmC (hus u hm) (A7 hfs hin) (hu2.mem hin)⟩
   have hTv : ∀ u ∈ vs', Cm ns ars (fun _ => True) (rnT u) ∧ DStm k0 ev0 ns ars X u := fun u hm => by
    have hin : u ∈ us ++ (ts ++ (vs' ++ ws)) := List.mem_append_right _ (List.mem_append_right _ (List.mem_append_left _ hm))
    exact ⟨cmS (hvs u hm) (A7 hfs hin) (hu2.mem hin), ih1 u hm (A7 hfs hin) (hu2.mem hin)⟩
   have hTw : ∀ u ∈ ws, Cm ns ars (fun _ => True) (rnT u) ∧ DStm k0 ev0 ns ars X u := fun u hm => by
    have hin : u ∈ us ++ (ts ++ (vs' ++ ws)) := List.mem_append_right _ (List.mem_append_right _ (List.mem_append_right _ hm))
    exact ⟨cmS (hws u hm) (A7 hfs hin) (hu2.mem hin), ih2 u hm (A7 hfs hin) (hu2.mem hin)⟩
   have hThen : ∀ {σ1 : St} {H1 : Hp} {K1 : KU}, Hle H H1 → DOk k0 ev0 ns ars X σ1 → DC X (seqM (vs'.map rnT)) σ1 H1 (fun _ => K1) → E2 (dO X σ1) σ1.events (σ1.vars.map (·.2)) (σ1.arrs.map (·.2)) e.K7 H1 K1 := fun l1 hd1 h1 =>
    c1w (haT.le l1) hab ⟨hal, fun i x t q1 q2 => (har i x t q1 q2).le l1⟩ hTv hd1 (hx.le l1) h1
   have hElse : ∀ {σ1 : St} {H1 : Hp} {K1 : KU}, Hle H H1 → DOk k0 ev0 ns ars X σ1 → DC X (seqM (ws.map rnT)) σ1 H1 (fun _ => K1) → E2 (dO X σ1) σ1.events (σ1.vars.map (·.2)) (σ1.arrs.map (·.2)) e.L0 H1 K1 := fun l1 hd1 h1 =>
    c1w (hbE.le l1) hbb ⟨hbl, fun i x t q1 q2 => (hbr i x t q1 q2).le l1⟩ hTw hd1 (hx.le l1) h1
   have cThen := b1q (ns := ns) (ars := ars) (l := vs'.map rnT) fun m hm => by
    obtain ⟨u, hu, rfl⟩ := List.mem_map.1 hm
    exact (hTv u hu).1
   have hkind : (1 ≤ e.b7 ∧ e.b7 ≤ 7) ∧ (e.b7 = 1 → ts.length = 1) ∧ (e.b7 = 2 → ts.length = 2) ∧ ((e.b7 = 3 ∨ e.b7 = 4 ∨ e.b7 = 5 ∨ e.b7 = 6) → us.length = 1) := by
    unfold formS at hff
    by_cases c1 : e.b7 = 1
    ·simp [c1] at hff; omega
    by_cases c2 : e.b7 = 2
    ·simp [c2] at hff; omega
    by_cases c3 : e.b7 = 3
    ·simp [c3] at hff; omega
    by_cases c4 : e.b7 = 4
    ·simp [c4] at hff; omega
    by_cases c5 : e.b7 = 5
    ·simp [c5] at hff; omega
    by_cases c6 : e.b7 = 6
    ·simp [c6] at hff; omega
    by_cases c7 : e.b7 = 7
    ·omega
    ·simp [c1, c2, c3, c4, c5, c6, c7] at hff
   have hrn : rnT (sN e.b7 e.d9 ts us vs' ws) = stN e.b7 e.d9 ts (us.map cvT) (vs'.map rnT) (ws.map rnT) := c0M _ _ _ _ _ _
   rw [hrn] at h
   have hcond : (e.b7 = 3 ∨ e.b7 = 4 ∨ e.b7 = 5 ∨ e.b7 = 6) → ∃ u x, (us.map cvT).getD 0 (ret false) = cvT u ∧ EltH H e.y6 0 4 (h9 x) ∧ CH H x u ∧ (0 : Int) < e.y6.n ∧ ArC u ∧ formT u = true ∧ Nm ns ars (uT u) ∧ Cm ns ars (fun _ => True) (cvT u) ∧ Dec ns ars (cvT u) := fun q => by
    obtain ⟨u, rfl⟩ := List.length_eq_one_iff.1 (hkind.2.2.2 q)
    obtain ⟨x, hE, hxu, hlt⟩ := a0L hcC hrC (i := 0) (t := u) rfl
    exact ⟨u, x, rfl, hE, hxu, hlt, hTc u List.mem_cons_self⟩
   refine a9E _ _ _ _ _ ?_
   unfold a3o
   unfold stN at h
   refine ⟨fun c7 => ?_, fun c7 => ⟨fun c1 => ?_, fun c1 => ⟨fun c2 => ?_, fun c2 => ⟨fun c3 => ?_, fun c3 => ⟨fun c4 => ?_, fun c4 => ⟨fun c6 => ?_, fun c6 => ⟨fun c5 => ?_, fun c5 => ?_⟩⟩⟩⟩⟩⟩⟩
   ·rw [if_neg (by omega), if_neg (by omega), if_neg (by omega), if_neg (by omega), if_neg (by omega), if_neg (by omega)] at h
    exact a9L hk hd (fun e2 => h.1 () (stp σ) _ (Hle.refl _) e2) fun e2 => h.2 _ _ σ () _ (Hle.refl _) e2
   ·rw [if_pos c1] at h
    exact d0D hk hev hsE hrE hTe (hkind.2.1 c1) (hxn.1 c1) hd hx h.nrm
   ·rw [if_neg c1, if_pos c2] at h
    exact d3Y hk hev hsE hrE hTe (hkind.2.2.1 c2) (hxn.2 c2) hd hx h.nrm
   ·obtain ⟨u, x, hg, hE, hxu, hlt, hA, hfu, hnu, hcu, hdu⟩ := hcond (.inl c3)
    rw [if_neg c1, if_neg c2, if_pos c3, hg] at h
    refine ⟨Int.le_refl _, hlt, x, hE, ?_⟩
    refine b6U hk hev hA hfu hnu hxu hd hx ⟨fun b σ1 H1 l1 e1 => ?_, fun st wr σ1 v H1 l1 e1 => ?_⟩
    ·have h1 := h.at_ l1 e1
     obtain ⟨_, hd1⟩ := hd.on hcu e1
     refine on8 ⟨fun q => (by cases q), fun _ => ⟨fun hb => ?_, fun hb => ?_⟩⟩
     ·rw [if_pos hb] at h1
      exact hThen l1 hd1 h1.nrm
     ·rw [if_neg (by rw [hb]; decide)] at h1
      exact hElse l1 hd1 h1.nrm
    ·exact a9J ⟨fun _ => h.stp l1 e1 (), fun q => (by cases q)⟩
   ·obtain ⟨u, x, hg, hE, hxu, hlt, hA, hfu, hnu, hcu, hdu⟩ := hcond (.inr (.inl c4))
    rw [if_neg c1, if_neg c2, if_neg c3, if_pos c4, hg] at h
    refine T9 (fun (z : Sl × Int × Bool × Bool × Int × Int × Int × (List d7) × (List Int) × (List (List Int)) × Sl × Sl × Int) H' => Hle H H' ∧ ∃ σi : St, DOk k0 ev0 ns ars X σi ∧ DC X (loopW (cvT u) (seqM (vs'.map rnT))) σi H' (fun _ => K) ∧
      z = (X.sc, (σi.left : Int), false, false, 0, 0, σi.steps, σi.events, σi.vars.map (·.2), σi.arrs.map (·.2), X.nm, X.ls, ((X.scr.length - σi.script.length : Nat) : Int)))
     (fun z => z.2.1.toNat) ⟨Hle.refl _, σ, hd, h, rfl⟩ ?_
    rintro z H1 next ⟨l1, σi, hdi, hi, rfl⟩ hnx
    dsimp only
    unfold a0e
    have hi := hi.eqs (c0N hcu cThen hdu hdi.ok).symm
    refine ⟨Int.le_refl _, hlt, x, hE.le l1, ?_⟩
    refine b6U hk hev hA hfu hnu (hxu.le l1) hdi (hx.le l1) ⟨fun b σ1 H2 l2 e1 => ?_, fun st wr σ1 v H2 l2 e1 => ?_⟩
    ·have h1 := hi.at_ l2 e1
     obtain ⟨_, hd1⟩ := hdi.on hcu e1
     have hlt1 := hdu _ _ _ _ _ hdi.ok e1
     have l12 := l1.trans l2
     cases b
     ·refine ⟨fun q => (by cases q), fun _ => ⟨fun q => (by cases q), fun _ => ?_⟩⟩
      exact h1.ret (Hle.refl _)
     ·refine ⟨fun _ => on8 ⟨fun _ => ?_, fun q => (by cases q)⟩, fun q => (q rfl).elim⟩
      rw [if_pos rfl] at h1
      refine hThen l12 hd1 ⟨fun _ σ2 H3 l3 e2 => ?_, fun st wr σ2 _ H3 l3 e2 => ?_⟩
      ·obtain ⟨_, hd2⟩ := hd1.on cThen e2
       have p2 := cThen.safe σ1 hd1.ok
       rw [e2] at p2
       have hle2 := p2.2.2
       refine on8 ⟨fun q => (by cases q), fun _ => ?_⟩
       exact hnx _ _ ⟨l12.trans l3, σ2, hd2, h1.at_ l3 e2, rfl⟩ (by dsimp only; omega)
      ·exact a9J ⟨fun _ => h1.stp l3 e2 (), fun q => (by cases q)⟩
    ·have hK := hi.stp l2 e1 ()
     cases v
     ·exact ⟨fun q => (by cases q), fun _ => ⟨fun q => (by cases q), fun _ => hK⟩⟩
     ·exact ⟨fun _ => a9J ⟨fun q => (by cases q), fun _ => hK⟩, fun q => (q rfl).elim⟩
   ·obtain ⟨u, x, hg, hE, hxu, hlt, hA, hfu, hnu, hcu, hdu⟩ := hcond (.inr (.inr (.inr c6)))
    rw [if_neg c1, if_neg c2, if_neg c3, if_neg c4, if_neg (by omega), if_pos c6, hg] at h
    refine ⟨Int.le_refl _, hlt, x, hE, ?_⟩
    refine b6U hk hev hA hfu hnu hxu hd hx ⟨fun b σ1 H1 l1 e1 => ?_, fun st wr σ1 v H1 l1 e1 => ?_⟩
    ·have h1 := h.at_ l1 e1
     cases b
     ·refine ⟨fun _ => on8 ⟨fun _ => ?_, fun q => (by cases q)⟩, fun q => (q rfl).elim⟩
      rw [if_neg (by decide)] at h1
      exact h1.halt (Hle.refl _) ()
     ·refine ⟨fun q => (by cases q), fun _ => ⟨fun q => (by cases q), fun _ => ?_⟩⟩
      exact h1.ret (Hle.refl _)
    ·have hK := h.stp l1 e1 ()
     cases v
     ·exact ⟨fun _ => a9J ⟨fun q => (by cases q), fun _ => hK⟩, fun q => (q rfl).elim⟩
     ·exact ⟨fun q => (by cases q), fun _ => ⟨fun q => (by cases q), fun _ => hK⟩⟩
   ·obtain ⟨u, x, hg, hE, hxu, hlt, hA, hfu, hnu, hcu, hdu⟩ := hcond (.inr (.inr (.inl c5)))
    rw [if_neg c1, if_neg c2, if_neg c3, if_neg c4, if_pos c5, hg] at h
    refine ⟨Int.le_refl _, hlt, x, hE, ?_⟩
    refine b6U hk hev hA hfu hnu hxu hd hx ⟨fun b σ1 H1 l1 e1 => ?_, fun st wr σ1 v H1 l1 e1 => ?_⟩
    ·have h1 := h.at_ l1 e1
     unfold heldM at h1
     rw [a5S] at h1
     obtain ⟨_, hd1⟩ := hd.on hcu e1
     refine a9L hk hd1 (fun e2 => ?_) fun e2 => ?_
     ·refine ⟨fun q => (by cases q), fun _ => ?_⟩
      have h2 := h1.at_ (Hle.refl _) e2
      have h3 := h2.at_ (Hle.refl _) (a := ()) (σ1 := { stp σ1 with events := σ1.events ++ [⟨false, 0, b⟩] }) rfl
      have hq := hd1.ok.ev
      refine ⟨by show (σ1.events.length + 1) * 25 ≤ _; omega, ?_⟩
      cases b
      ·rw [if_neg (by decide)] at h3
       exact ⟨fun _ => b6S (h3.halt (Hle.refl _) ()), fun q => (by cases q)⟩
      ·exact ⟨fun q => (by cases q), fun _ => h3.ret (Hle.refl _)⟩
     ·exact ⟨fun _ => h1.stp (Hle.refl _) e2 (), fun q => (by cases q)⟩
    ·exact b1D ⟨fun _ => h.stp l1 e1 (), fun q => (by cases q)⟩
   ·exfalso; omega
end
section
variable {α : Type} {P : Program} {E : Pan} {w0 w : World} {ps : Nat → Prop} {H0 H : Hp} {Fs : List Frag} {F : Frag} {K : Value → World → Prop} {e : TypeId} {sz : Nat} {c : α → List Value} {s : Sl} {xs : List α}
end
section
variable {H : Hp}
def kF (k : Int) (ds : List i8) : List i8 := ds.filter fun d => decide (kindD d = k)
theorem b6V (k : Int) (a b : List i8) : kF k (a ++ b) = kF k a ++ kF k b := List.filter_append ..
theorem c6g {k : Int} {d : i8} (h : kindD d = k) : kF k [d] = [d] := by unfold kF; simp [h]
theorem c7Y {k : Int} {d : i8} (h : kindD d ≠ k) : kF k [d] = [] := by unfold kF; simp [h]
end
theorem c1x {α : Type} {l : List α} {i : Nat} {x : α} (h : l[i]? = some x) : l.drop i = x :: l.drop (i + 1) := by
 have hlt := s8 h
 rw [List.drop_eq_getElem_cons hlt]; congr 1
 rw [List.getElem?_eq_getElem hlt] at h; exact Option.some.inj h
section
variable {H : Hp}
theorem find_ok {s : Sl} {ds : List i8} (hs : SlH H 2 o7 s ds) (hb : ds.length ≤ big) {nm : ByteArray} {K : Int → Hp → Prop} (h : K (findI ds nm 0) H) : a2v s nm H K := by
 refine b1s _ _ ?_
 unfold a4G
 have n1 := hs.1
 simp only [big] at hb
 refine T9 (fun (i : Int) H' => 0 ≤ i ∧ i ≤ ds.length ∧ H' = H ∧ findI ds nm 0 = findI (ds.drop i.toNat) nm i) (fun i => (ds.length - i).toNat) ⟨Int.le_refl _, by omega, rfl, rfl⟩ ?_
 rintro i H1 next ⟨i0, i1, rfl, hi⟩ hn
 unfold a1F
 refine ⟨fun c => ?_, fun c => ?_⟩
 ·obtain ⟨x, hx, hE⟩ := hs.get i0 c
  have hlt := s8 hx
  rw [c1x hx, findI] at hi
  refine ⟨i0, c, x, hE, fun e => ?_, fun e => ?_⟩
  ·rw [if_pos e] at hi; rw [hi] at h; exact h
  ·rw [if_neg e] at hi
   rw [y9 i0 (by omega)]
   exact hn _ _ ⟨by omega, by omega, rfl, by rw [show (i + 1).toNat = i.toNat + 1 by omega]; exact hi⟩ (by omega)
 ·unfold a1E
  rw [List.drop_eq_nil_of_le (by omega), findI] at hi
  rw [hi] at h; exact h
theorem c7r {l : List i8} {s : ByteArray} (h : ¬ 0 ≤ findI l s 0) : hasN l s = false := by
 cases e : hasN l s
 ·rfl
 ·exact (h ((b3X l s 0 (Int.le_refl _)).2 e)).elim
def SzOk (l : List i8) : Prop := ∀ d ∈ l, 0 ≤ d.A4
theorem c2W : ∀ {l : List i8} (_ : formTs (l.map dT) = true), SzOk l
 | [], _ => fun d h => by cases h
 | d :: l, h => by
  rw [List.map_cons, formTs, Bool.and_eq_true] at h
  intro x hx
  rcases List.mem_cons.1 hx with e | hx
  ·have h1 := h.1
   unfold dT at h1
   rw [formT, Bool.and_eq_true] at h1
   have h2 : (decide (0 ≤ d.A4) && decide (d.A4 ≤ 2147483647)) = true := h1.1
   simp only [Bool.and_eq_true, decide_eq_true_eq] at h2
   rw [e]; exact h2.1
  ·exact c2W h.2 x hx
theorem c2X {q : PP} (h : toldS q.nodes = 0) : SzOk q.decls := by
 have := ((b5R _).1 h).2.2.1
 unfold PP.nodes at this
 rw [a2y, Bool.and_eq_true] at this
 exact c2W this.1
theorem d3Z {pre : List i8} {x : i8} (h1 : nk pre 1 ≤ 32) (h2 : nk pre 2 ≤ 16) : (32 < nk (pre ++ [x]) 1 ∨ 16 < nk (pre ++ [x]) 2) ↔ lim (kindD x) < nk (pre ++ [x]) (kindD x) := by
 rcases a7S x with e | e
 ·rw [e]; simp only [a6y, a6W, e, lim]
  simp
  omega
 ·rw [e]; simp only [a6y, a6W, e, lim]
  simp
  omega
theorem d0E {ds : List i8} {l : List Us} {i : Nat} (h : ∀ u ∈ l.take i, kOf ds u.d9 = asU u) : useT ds l = useT ds (l.drop i) := by
 have := b4C ds (l.take i) h (l.drop i)
 rwa [List.take_append_drop] at this
theorem c4g {p : o3} {q : PP} (hp : PH H p q) (hcp : p.D9.n ≤ p.D9.c) {K : ByteArray → Int → Hp → Prop} (h : ∀ H', Hle H H' → K (wellS q).1 (wellS q).2 H') : a4c p H K := by
 refine b0B _ ?_
 unfold a4i
 unfold wellS at h
 refine c5s hp ⟨fun hne => ?_, fun h0 => ?_⟩
 ·have := h H (Hle.refl _); rw [if_neg hne] at this; exact this
 rw [if_pos h0] at h
 have hsz := c2X h0
 have hcnt := c2F (c0I h0).1
 have hul := b5c q.body
 have hcb : cTs q.body ≤ 4096 := by unfold PP.nodes at hcnt; rw [b2T] at hcnt; omega
 have hp' := hp
 obtain ⟨hd, hbd, _⟩ := hp'
 have n1 := hd.1
 have hbd' := hbd
 simp only [big] at hbd'
 refine T9 (fun (z : Int × Int × Int) H' => 0 ≤ z.2.2 ∧ z.2.2 ≤ q.decls.length ∧ H' = H ∧ z.1 = nk (q.decls.take z.2.2.toNat) 1 ∧ z.2.1 = nk (q.decls.take z.2.2.toNat) 2 ∧ nk (q.decls.take z.2.2.toNat) 1 ≤ 32 ∧ nk (q.decls.take z.2.2.toNat) 2 ≤ 16 ∧ declT [] q.decls = declT (q.decls.take z.2.2.toNat) (q.decls.drop z.2.2.toNat)) (fun z => (q.decls.length - z.2.2).toNat)
  ⟨Int.le_refl _, by dsimp only; omega, rfl, rfl, rfl, Nat.zero_le _, Nat.zero_le _, rfl⟩ ?_
 rintro ⟨a, b, i⟩ H1 next ⟨i0, i1, rfl, ha, hb, ha2, hb2, hdt⟩ hn
 dsimp only at i0 i1 ha hb ha2 hb2 hdt ⊢
 unfold a1p
 refine ⟨fun c => ?_, fun c => ?_⟩
 ·obtain ⟨x, hx, hE⟩ := hd.get i0 c
  have hlt := s8 hx
  have htk : q.decls.take (i.toNat + 1) = q.decls.take i.toNat ++ [x] := N5 hx
  rw [c1x hx, declT] at hdt
  have go : ∀ a' b' : Int, a' = nk (q.decls.take i.toNat ++ [x]) 1 → b' = nk (q.decls.take i.toNat ++ [x]) 2 → Q1 a' b' i x p H1 next K := by
   intro a' b' ha' hb'
   unfold Q1
   refine ⟨i0, by omega, ?_⟩
   have hcut := hd.cut (l := 0) (h := i.toNat) (m := p.D9.c) (Nat.zero_le _) (by omega) (by omega)
   rw [List.drop_zero] at hcut
   refine find_ok hcut (by rw [List.length_take]; omega) ⟨fun hf => ?_, fun hf => ?_⟩
   ·rw [if_pos ((b3X _ _ 0 (Int.le_refl _)).1 hf)] at hdt
    have := h H1 (Hle.refl _); rw [hdt] at this; exact this
   ·rw [if_neg (by rw [c7r hf]; decide)] at hdt
    refine ⟨fun hz => ?_, fun hz => ?_⟩
    ·rw [if_pos hz] at hdt
     have := h H1 (Hle.refl _); rw [hdt] at this; exact this
    ·rw [if_neg hz] at hdt
     have hlo := d3Z (x := x) ha2 hb2
     refine ⟨fun hm => ?_, fun hm => ?_⟩
     ·rw [if_pos (hlo.1 (by simp only [Bool.or_eq_true, decide_eq_true_eq] at hm; omega))] at hdt
      have := h H1 (Hle.refl _); rw [hdt] at this; exact this
     ·have hm' : ¬ (32 < nk (q.decls.take i.toNat ++ [x]) 1 ∨ 16 < nk (q.decls.take i.toNat ++ [x]) 2) := by
       simp only [Bool.or_eq_false_iff, decide_eq_false_iff_not] at hm; omega
      rw [if_neg (fun e => hm' (hlo.2 e)), ← htk] at hdt
      rw [y9 i0 (by omega)]
      rw [← htk] at ha' hb' hm'
      refine hn _ _ ⟨by dsimp only; omega, by dsimp only; omega, rfl, ?_, ?_, ?_, ?_, ?_⟩ (by dsimp only; omega) <;> (dsimp only; rw [show (i + 1).toNat = i.toNat + 1 by omega])
      ·exact ha'
      ·exact hb'
      ·omega
      ·omega
      ·exact hdt
  have hx0 := hsz x (List.mem_of_getElem? hx)
  have k1 : nk (q.decls.take i.toNat) 1 ≤ (q.decls.take i.toNat).length := c7W _ _
  have k2 : nk (q.decls.take i.toNat) 2 ≤ (q.decls.take i.toNat).length := c7W _ _
  refine ⟨i0, c, x, hE, fun e => go _ _ ?_ ?_, fun e => go _ _ ?_ ?_⟩
  ·have hk : kindD x = 1 := by unfold kindD; rw [if_neg (by omega)]
   rw [a6y, a6W, hk, if_pos rfl, ha, y9 (by omega) (by omega)]; omega
  ·have hk : kindD x = 1 := by unfold kindD; rw [if_neg (by omega)]
   rw [a6y, a6W, hk, if_neg (by decide), hb]; omega
  ·have hk : kindD x = 2 := by unfold kindD; rw [if_pos (by omega)]
   rw [a6y, a6W, hk, if_neg (by decide), ha]; omega
  ·have hk : kindD x = 2 := by unfold kindD; rw [if_pos (by omega)]
   rw [a6y, a6W, hk, if_pos rfl, hb, y9 (by omega) (by omega)]; omega
 ·rw [List.drop_eq_nil_of_le (by omega), declT] at hdt
  rw [hdt] at h
  dsimp only at h
  unfold a1o
  refine c9Q hp (by simp only [big]; omega) fun s2 H2 l2 hS2 => ?_
  have n2 := hS2.1
  refine T9 (fun (j : Int) H' => 0 ≤ j ∧ j ≤ (uTs q.body).length ∧ H' = H2 ∧ ∀ u ∈ (uTs q.body).take j.toNat, kOf q.decls u.d9 = asU u) (fun j => ((uTs q.body).length - j).toNat) ⟨Int.le_refl _, by omega, rfl, fun u hu => by simp at hu⟩ ?_
  rintro j H3 next ⟨j0, j1, rfl, hj⟩ hk
  have h' := h H3 l2
  rw [d0E hj] at h'
  unfold a1m
  refine ⟨fun hq => ?_, fun hq => ?_⟩
  ·obtain ⟨u, hu, hE⟩ := hS2.get j0 hq
   have hlt := s8 hu
   rw [c1x hu, useT] at h'
   refine ⟨j0, hq, u, hE, find_ok (hd.le l2) hbd ⟨fun hf => ?_, fun hf => ?_⟩⟩
   ·have h0k : kOf q.decls u.d9 = 0 := by
     by_cases e : kOf q.decls u.d9 = 0
     ·exact e
     ·have := (b3X q.decls u.d9 0 (Int.le_refl _)).2 ((b9i _ _).1 e)
      omega
    rw [if_neg (by rw [h0k]; unfold asU; split <;> decide), if_pos h0k] at h'
    exact h'
   ·obtain ⟨d, f1, f2, f3⟩ := c5V q.decls u.d9 0 (Int.le_refl _) (by omega)
    rw [Int.sub_zero] at f2
    have hlt2 := s8 f2
    obtain ⟨d', hd', hE'⟩ := (hd.le l2).get (i := findI q.decls u.d9 0) (by omega) (by omega)
    rw [f2] at hd'; cases hd'
    refine ⟨by omega, by omega, d, hE', fun hb' => ?_, fun hb' => ?_⟩
    ·have hne : ¬ kOf q.decls u.d9 = asU u := by
      rw [f3]
      unfold kindD asU
      cases hi : u.b0h <;> rw [hi] at hb' <;> simp at hb' ⊢ <;> simp [hb']
     rw [if_neg hne, if_neg (by rw [f3]; rcases a7S d with e | e <;> rw [e] <;> decide)] at h'
     exact h'
    ·have he : kOf q.decls u.d9 = asU u := by
      rw [f3]
      unfold kindD asU
      cases hi : u.b0h <;> rw [hi] at hb' <;> simp at hb' ⊢ <;> simp [hb']
     rw [y9 j0 (by omega)]
     refine hk _ _ ⟨by omega, by omega, rfl, fun v hv => ?_⟩ (by omega)
     rw [show (j + 1).toNat = j.toNat + 1 by omega, N5 hu] at hv
     rcases List.mem_append.1 hv with hv | hv
     ·exact hj v hv
     ·rw [List.mem_singleton.1 hv]; exact he
  ·unfold a1l
   rw [List.drop_eq_nil_of_le (by omega), useT] at h'
   exact h'
theorem c7s {p : o3} {q : PP} (hp : PH H p q) (hz : SzOk q.decls) {K : Sl → Hp → Prop} (h : ∀ s H', Hle H H' → SlH H' 1 C5 s ((kF 1 q.decls).map (·.d9)) → K s H') : a4w p H K := by
 refine b1t _ ?_
 unfold a4H
 obtain ⟨hd, hb, _⟩ := hp
 simp only [big] at hb
 have n1 := hd.1
 refine T9 (fun (z : List ByteArray × Int) H' => 0 ≤ z.2 ∧ z.2 ≤ q.decls.length ∧ H' = H ∧ z.1 = (kF 1 (q.decls.take z.2.toNat)).map (·.d9)) (fun z => (q.decls.length - z.2).toNat) ⟨Int.le_refl _, by dsimp only; omega, rfl, rfl⟩ ?_
 rintro ⟨cs, i⟩ H2 next ⟨i0, i1, rfl, hcs⟩ hn
 dsimp only at i0 i1 hcs ⊢
 unfold a1H
 refine ⟨fun c => ?_, fun c => ?_⟩
 ·obtain ⟨x, hx, hE⟩ := hd.get i0 c
  have hlt := s8 hx
  have hx0 := hz x (List.mem_of_getElem? hx)
  have hcl : cs.length ≤ q.decls.length := by
   rw [hcs, List.length_map]
   exact Nat.le_trans (List.length_filter_le _ _) (by rw [List.length_take]; omega)
  refine ⟨i0, by omega, x, hE, fun e => ⟨by simp only [List.length_cons, List.length_nil]; omega, ?_⟩, fun e => ?_⟩
  ·unfold Q7
   rw [y9 i0 (by omega)]
   refine hn _ _ ⟨by dsimp only; omega, by dsimp only; omega, rfl, ?_⟩ (by dsimp only; omega)
   dsimp only
   rw [show (i + 1).toNat = i.toNat + 1 by omega, N5 hx, b6V, c6g (by unfold kindD; rw [if_neg (by omega)]), List.map_append, ← hcs]; rfl
  ·unfold Q7
   rw [y9 i0 (by omega)]
   refine hn _ _ ⟨by dsimp only; omega, by dsimp only; omega, rfl, ?_⟩ (by dsimp only; omega)
   dsimp only
   rw [show (i + 1).toNat = i.toNat + 1 by omega, N5 hx, b6V, c7Y (by unfold kindD; rw [if_pos (by omega)]; decide), List.append_nil, ← hcs]
 ·unfold a1G
  intro s2 H3 l3 hS3 _
  rw [hcs, List.take_of_length_le (by omega)] at hS3
  exact h s2 H3 l3 hS3
theorem c4h {p : o3} {q : PP} (hp : PH H p q) (hz : SzOk q.decls) {K : Sl → Hp → Prop} (h : ∀ s H', Hle H H' → SlH H' 2 o7 s (kF 2 q.decls) → K s H') : a3H p H K := by
 refine b0d _ ?_
 unfold a3R
 obtain ⟨hd, hb, _⟩ := hp
 simp only [big] at hb
 have n1 := hd.1
 refine T9 (fun (z : List i8 × Int) H' => 0 ≤ z.2 ∧ z.2 ≤ q.decls.length ∧ H' = H ∧ z.1 = kF 2 (q.decls.take z.2.toNat)) (fun z => (q.decls.length - z.2).toNat) ⟨Int.le_refl _, by dsimp only; omega, rfl, rfl⟩ ?_
 rintro ⟨cs, i⟩ H2 next ⟨i0, i1, rfl, hcs⟩ hn
 dsimp only at i0 i1 hcs ⊢
 unfold a0D
 refine ⟨fun c => ?_, fun c => ?_⟩
 ·obtain ⟨x, hx, hE⟩ := hd.get i0 c
  have hlt := s8 hx
  have hx0 := hz x (List.mem_of_getElem? hx)
  have hcl : cs.length ≤ q.decls.length := by
   rw [hcs]
   exact Nat.le_trans (List.length_filter_le _ _) (by rw [List.length_take]; omega)
  refine ⟨i0, by omega, x, hE, fun e => ⟨by simp only [List.length_cons, List.length_nil]; omega, ?_⟩, fun e => ?_⟩
  ·unfold P2
   rw [y9 i0 (by omega)]
   refine hn _ _ ⟨by dsimp only; omega, by dsimp only; omega, rfl, ?_⟩ (by dsimp only; omega)
   dsimp only
   rw [show (i + 1).toNat = i.toNat + 1 by omega, N5 hx, b6V, c6g (by unfold kindD; rw [if_pos (by omega)]), ← hcs]
  ·unfold P2
   rw [y9 i0 (by omega)]
   refine hn _ _ ⟨by dsimp only; omega, by dsimp only; omega, rfl, ?_⟩ (by dsimp only; omega)
   dsimp only
   rw [show (i + 1).toNat = i.toNat + 1 by omega, N5 hx, b6V, c7Y (by unfold kindD; rw [if_neg (by omega)]; decide), List.append_nil, ← hcs]
 ·unfold a0C
  intro s2 H3 l3 hS3 _
  rw [hcs, List.take_of_length_le (by omega)] at hS3
  exact h s2 H3 l3 hS3
end
end Go.Proofs.YtnhkdkcgdcgmdaaGreatDoor
