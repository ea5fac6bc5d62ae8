/- What is known of digests; the laws DigestSteps, DigestExact, DigestLengths, DigestPairs. Contracts off the printed formulas. -/
import Derived.Test.YthldnpmfelniiaaDoorzLQd
namespace Go.Proofs.YthldnpmfelniiaaDoor
open Go.RowKit
set_option maxRecDepth 100000
set_option maxHeartbeats 2000000
theorem a3d {P : Program} {E : Pan} {w : World} {K : Value → World → Prop} {s : Sem Next} (h : opK P E s w K) : opK P E (gsem (asB (.bool true)) true s) w K := by
  rw [a7K]; exact h
theorem b2G (v : Value) : gval (asB (.bool true)) true v = v := by rw [P4]; rfl
def knP : PP := ⟨[⟨xS, 0⟩], []⟩
def knB : List Int := [68, 0, 0, 0, 0, 0, 0, 0, 0, 0, 120, 0, 0, 0, 0, 0]
theorem c4P : toldS knP.nodes = 0 := by kernel_rfl
theorem c1W : bytesOf knP = knB := by kernel_rfl
theorem e4q : ofS [97] = 12638187200555641996 := by kernel_rfl
theorem d7X : knP.Sm := by
  intro t ht
  rcases List.mem_cons.1 ht with e | ht
  · rw [e]; exact .mk (by decide) fun t ht => by cases ht
  · cases ht
section
variable {H : Hp}
theorem c0d (hT : TabsH H) {K : Bool → Hp → Prop} (h : ∀ H', Hle H H' → K true H') : a0H H K := by
  intro w I
  refine d5Y ?_
  unfold F21
  refine a7 (b6x _) ?_
  refine a1S (e := 67) (c := j8) (xs := [⟨xS, 0⟩]) I (c5N xS 0) rfl rfl b2W b2X (nb rfl) fun s F w2 hr I2 k => ?_
  obtain ⟨H3, I3, l3, h3, _⟩ := Inv.freezeC I2 hr (by decide)
  refine a7 (b6y _ _ _) ?_
  refine d7 (cap := []) (fun args w => Tryd.call31 args w) ?_
  have hp : PH H3 ⟨s, ⟨none, 0, 0⟩⟩ knP := ⟨h3, by simp [knP, big], [], SlH.nil _ _ _, Nat.zero_le _, v8.nil⟩
  refine h9 (Fi := []) (Fr := []) I3 (b6s (hT.le l3) hp d7X (K := fun s e H' => SlH H' 1 i4 s knB ∧ e = 0) fun s' H' l hS => ⟨by rw [← c1W]; exact hS, c4P⟩) (fun v H4 Fo w4 I4 l4 hk q => ?_) (fun _ _ _ _ _ q => q.elim)
  obtain ⟨sb, e, rfl, rfl, hS, rfl⟩ := q
  refine a7 (u0 _ _ _ rfl) ?_
  refine a7 (u0 _ _ _ rfl) ?_
  refine a7 (f5 _ _ _ _ _ _) ?_
  rw [decide_eq_true rfl]
  simp only [b2G]
  refine a3d (a7 (a3L _ _ _) ?_)
  refine a3d (a7 (f5 _ _ _ _ _ _) ?_)
  rw [decide_eq_true (show ((sb.n : Int) = 16) by have n1 : sb.n = 16 := hS.1; omega)]
  refine a7 (a6l _ _ _) ?_
  simp only [cond_true, b2G]
  obtain ⟨g, o, ha, hA⟩ := hS.2 0 68 rfl
  refine a3d (a7 (b3O ha _ _ _ 0 (Int.le_refl _) (by have n1 : sb.n = 16 := hS.1; omega)) ?_)
  refine a3d (b7 (ld1 Tryd.isAgg5 (I4.atH hA)) ?_)
  refine a3d (a7 (f5 _ _ _ _ _ _) ?_)
  rw [decide_eq_true rfl]
  refine a7 (a6l _ _ _) ?_
  simp only [cond_true, b2G]
  refine a3d (U6 (a8R 97 _) ?_)
  refine a3d (U6 (Lib.run_convert_bytes_const w4 40 5 #[.int .u8 97] 1 1 Tryd.underlying40 Tryd.underlying5) ?_)
  have I5 := I4.alloc (.cells #[.int .u8 97] 5 (1, 2))
  obtain ⟨I6, l6, h6⟩ := I5.freeze
  have hS6 : SlH (addF H4 [(w4.heap.size, .cells #[.int .u8 97] 5 (1, 2))]) 1 i4 ⟨some ⟨w4.heap.size, 0, none⟩, 1, 1⟩ [97] := by
    refine ⟨rfl, fun i x hx => ?_⟩
    match i, hx with
    | 0, hx =>
      cases hx
      exact ⟨_, 0, rfl, _, _, _, h6 _ (List.mem_cons_self ..), by decide, rfl⟩
  refine a3d (d7 (cap := []) (fun args w => Tryd.call22 args w) ?_)
  refine h9 (Fi := []) (Fr := []) I6 (e0W hS6 (by decide) (K := fun r H' => r = 12638187200555641996 ∧ H' = addF H4 [(w4.heap.size, .cells #[.int .u8 97] 5 (1, 2))]) ⟨e4q, rfl⟩) (fun v H7 Fo w7 I7 l7 hk7 q => ?_) (fun _ _ _ _ _ q => q.elim)
  obtain ⟨r, rfl, rfl, rfl, rfl⟩ := q
  refine a3d (a7 (f5 _ _ _ _ _ _) ?_)
  rw [decide_eq_true rfl]
  refine a7 (a6l _ _ _) ?_
  simp only [cond_true]
  exact ⟨_, [], I7, true, rfl, rfl, h _ (l3.trans (l4.trans l6))⟩
mutual
def zT : PT → Nat
  | .mk l cs => (nameL l).1.size + zTs cs
def zTs : List PT → Nat
  | [] => 0
  | t :: ts => zT t + zTs ts
end
mutual
theorem c4Q : ∀ t : PT, (bT t).length = 15 * cT t + zT t
  | .mk l cs => by rw [bT, cT, zT, List.length_append, a7y, a8N cs]; omega
theorem a8N : ∀ ts : List PT, (bTs ts).length = 15 * cTs ts + zTs ts
  | [] => by rw [bTs, cTs, zTs]; rfl
  | t :: ts => by rw [bTs, cTs, zTs, List.length_append, c4Q t, a8N ts]; omega
end
theorem a9s : ∀ a b : List PT, zTs (a ++ b) = zTs a + zTs b
  | [], b => by rw [List.nil_append, zTs, Nat.zero_add]
  | t :: a, b => by rw [List.cons_append, zTs, zTs, a9s a b, Nat.add_assoc]
def zU (l : List Us) : Nat := (l.map fun u => u.g8.size).sum
theorem b1H (a b : List Us) : zU (a ++ b) = zU a + zU b := by unfold zU; rw [List.map_append, List.sum_append]
theorem e0X {l : List Us} {i : Nat} {u : Us} (h : l[i]? = some u) : zU (l.take (i + 1)) = zU (l.take i) + u.g8.size := by
  rw [M8 h, b1H]; rfl
theorem c7Z {l : Lab} (h : ∀ z s, l ≠ .decl z s) (hf : formL l = true) : zU (useL l) = (nameL l).1.size := by
  cases l with
  | decl z s => exact (h z s rfl).elim
  | cond k o e p => rfl
  | expr k n s a =>
    change formE k n s a = true at hf
    unfold formE at hf
    simp only [useL, nameL]
    by_cases hk : (decide (k = 2) || decide (k = 4)) = true
    · rw [if_pos hk]; simp [zU]
    · rw [if_neg hk]
      have hk' := Bool.eq_false_iff.2 hk
      rw [hk'] at hf
      by_cases hs : s = ⟨#[]⟩
      · rw [hs]; rfl
      · rw [decide_eq_false hs] at hf
        simp at hf
  | stmt k s e c t f =>
    change formS k s e c t f = true at hf
    simp only [useL, nameL]
    by_cases hk : (decide (k = 1) || decide (k = 2)) = true
    · rw [if_pos hk]; simp [zU]
    · rw [if_neg hk]
      have hk1 : ¬ k = 1 := fun e => hk (by rw [decide_eq_true e]; rfl)
      have hk2 : ¬ k = 2 := fun e => hk (by rw [decide_eq_true e, Bool.or_true])
      by_cases hs : s = ⟨#[]⟩
      · rw [hs]; rfl
      · unfold formS at hf
        rw [if_neg hk1, if_neg hk2, decide_eq_false hs] at hf
        simp at hf
mutual
theorem e4r : ∀ t : PT, Nd t → formT t = true → zU (uT t) = zT t
  | .mk l cs, h, hf => by
    cases h with
    | mk h1 h2 =>
      rw [formT] at hf
      obtain ⟨f1, f2⟩ := Bool.and_eq_true_iff.1 hf
      rw [uT, zT, b1H, c7Z h1 f1, c0e cs h2 f2]
theorem c0e : ∀ ts : List PT, (∀ t ∈ ts, Nd t) → formTs ts = true → zU (uTs ts) = zTs ts
  | [], _, _ => by rw [uTs, zTs]; rfl
  | t :: ts, h, hf => by
    rw [formTs] at hf
    obtain ⟨f1, f2⟩ := Bool.and_eq_true_iff.1 hf
    rw [uTs, zTs, b1H, e4r t (h t List.mem_cons_self) f1, c0e ts (fun u hu => h u (List.mem_cons_of_mem _ hu)) f2]
end
theorem c1X {q : PP} (h : toldS q.nodes = 0) : formTs q.nodes = true := by
  have hb := (b0s h).1
  unfold toldS at h
  rw [if_pos hb] at h
  cases hq : formTs q.nodes
  · rw [hq] at h; cases h
  · rfl
theorem b0t (hT : TabsH H) {p : i5} {q : PP} (hp : PH H p q) (hsm : q.Sm) {K : Bool → Hp → Prop} (h : ∀ H', Hle H H' → K true H') : J6 p H K := by
  refine a1F _ ?_
  unfold C8
  refine c0d hT fun H1 l1 => ⟨fun e => (by cases e), fun _ => ?_⟩
  refine b6s (hT.le l1) (hp.le l1) hsm fun s2 H2 l2 hS2 => ?_
  have l12 := l1.trans l2
  refine c3V (hT.le l12) (hp.le l12) hsm fun H3 l3 => ?_
  have l13 := l12.trans l3
  rw [show vEnd (allV q) = toldS q.nodes from b6V _]
  refine ⟨fun hne => by rw [decide_eq_true rfl]; exact h H3 l13, fun h0 => ?_⟩
  rw [if_pos h0]
  obtain ⟨hb, hr, e1, e2, e3⟩ := b0s h0
  have hcnt := b7a hb
  have hfn := a9p q.nodes 1 w0S hb
  have hn : (allV q).2.n = (cTs q.nodes : Int) := by rw [e1, hfn]; show (0 : Int) + _ = _; omega
  rw [hn, X9 (a := 15 * (cTs q.nodes : Int)) ⟨by omega, by omega⟩]
  have hlen := a8N q.nodes
  have hbig := b6r hsm h0
  simp only [big] at hbig
  have hs2 : s2.n = (bTs q.nodes).length := by
    have := hS2.1
    unfold bytesOf at this
    rw [if_pos h0] at this; exact this
  have hp3 := hp.le l13
  have hp0 := hp3
  obtain ⟨hd, hbd, xs, hsl, hxb, hrr⟩ := hp3
  have n1 := hd.1
  have hdz : zTs q.nodes = zTs (q.decls.map dT) + zTs q.body := by unfold PP.nodes; rw [a9s]
  have zat : ∀ (i : Nat) (x : z6), q.decls[i]? = some x → zTs ((q.decls.map dT).take (i + 1)) = zTs ((q.decls.map dT).take i) + x.g8.size := fun i x hx => by
    rw [M8 (b1G _ hx), a9s]
    unfold dT
    rw [zTs, zT, zTs]; rfl
  have zle : ∀ i, zTs ((q.decls.map dT).take i) ≤ zTs (q.decls.map dT) := fun i => by
    have := a9s ((q.decls.map dT).take i) ((q.decls.map dT).drop i)
    rw [List.take_append_drop] at this; omega
  refine Y5 (fun (z : Int × Int) H' => 0 ≤ z.2 ∧ z.2 ≤ q.decls.length ∧ H' = H3 ∧ z.1 = 15 * (cTs q.nodes : Int) + (zTs ((q.decls.map dT).take z.2.toNat) : Int)) (fun z => (q.decls.length - z.2).toNat) ⟨Int.le_refl _, by simp, rfl, by simp [zTs]⟩ ?_
  rintro ⟨a, i⟩ H4 next ⟨i0, i1, rfl, ha⟩ hk
  dsimp only at i0 i1 ha ⊢
  subst ha
  unfold A5
  refine ⟨fun hq => ?_, fun hq => ?_⟩
  · obtain ⟨x, hx, hE⟩ := hd.get i0 hq
    have hz := zat _ x hx
    have hz2 := zle (i.toNat + 1)
    have hlt := u1 hx
    refine ⟨i0, hq, x, hE, ?_⟩
    rw [C4 i0 (by simp only [big] at hbd; omega), X9 (a := 15 * (cTs q.nodes : Int) + (zTs ((q.decls.map dT).take i.toNat) : Int) + (x.g8.size : Int)) ⟨by omega, by omega⟩]
    refine hk _ _ ⟨by dsimp only; omega, by dsimp only; omega, rfl, ?_⟩ (by dsimp only; omega)
    dsimp only
    rw [show (i + 1).toNat = i.toNat + 1 by omega, hz]; omega
  · rw [List.take_of_length_le (by rw [List.length_map]; omega)]
    clear hk next
    unfold A4
    have hnd : ∀ t ∈ q.body, Nd t := a3Q (R := SH H4) hrr.1 fun i x t a b => (hrr.2 i x t a b).nd
    have hfb : formTs q.body = true := by
      have := c1X h0
      unfold PP.nodes at this
      rw [b1m] at this
      exact (Bool.and_eq_true_iff.1 this).2
    have huz := c0e q.body hnd hfb
    have hul := b2B q.body
    have hcb : cTs q.body ≤ 4096 := by unfold PP.nodes at hcnt; rw [b6Z] at hcnt; omega
    refine c7P hp0 (by simp only [big]; omega) fun s5 H5 l5 hS5 => ?_
    have n5 := hS5.1
    have zule : ∀ i, zU ((uTs q.body).take i) ≤ zU (uTs q.body) := fun i => by
      have := b1H ((uTs q.body).take i) ((uTs q.body).drop i)
      rw [List.take_append_drop] at this; omega
    refine Y5 (fun (z : Int × Int) H' => 0 ≤ z.2 ∧ z.2 ≤ (uTs q.body).length ∧ H' = H5 ∧ z.1 = 15 * (cTs q.nodes : Int) + (zTs (q.decls.map dT) : Int) + (zU ((uTs q.body).take z.2.toNat) : Int)) (fun z => ((uTs q.body).length - z.2).toNat) ⟨Int.le_refl _, by simp, rfl, by simp [zU]⟩ ?_
    rintro ⟨a, j⟩ H6 next ⟨j0, j1, rfl, ha⟩ hk
    dsimp only at j0 j1 ha ⊢
    subst ha
    unfold A0
    refine ⟨fun hq => ?_, fun hq => ?_⟩
    · obtain ⟨x, hx, hE⟩ := hS5.get j0 hq
      have hz := e0X hx
      have hz2 := zule (j.toNat + 1)
      have hlt := u1 hx
      refine ⟨j0, hq, x, hE, ?_⟩
      rw [C4 j0 (by omega), X9 (a := 15 * (cTs q.nodes : Int) + (zTs (q.decls.map dT) : Int) + (zU ((uTs q.body).take j.toNat) : Int) + (x.g8.size : Int)) ⟨by omega, by omega⟩]
      refine hk _ _ ⟨by dsimp only; omega, by dsimp only; omega, rfl, ?_⟩ (by dsimp only; omega)
      dsimp only
      rw [show (j + 1).toNat = j.toNat + 1 by omega, hz]; omega
    · rw [List.take_of_length_le (by omega)]
      unfold z8
      have e : ((s2.n : Int) = 15 * (cTs q.nodes : Int) + (zTs (q.decls.map dT) : Int) + (zU (uTs q.body) : Int)) := by omega
      have := h H6 (l13.trans l5)
      rw [decide_eq_true h0, decide_eq_true e]; exact this
end
end Go.Proofs.YthldnpmfelniiaaDoor
