/- Which names a program has; the document's check of a program, its size, its names. The law TreeChecks. -/
import Derived.Test.YthldnpmfelniiaaDoorzXQ8
import Derived.Test.YthldnpmfelniiaaDoorzXV1
import Derived.Test.YthldnpmfelniiaaDoorzXG1y
namespace Go.Proofs.YthldnpmfelniiaaDoor
open Go.RowKit
set_option maxRecDepth 100000
set_option maxHeartbeats 2000000
def namL (l : Lab) : List ByteArray := if (nameL l).2 = true then [(nameL l).1] else []
mutual
def nT : PT → List ByteArray
  | .mk l cs => namL l ++ nTs cs
def nTs : List PT → List ByteArray
  | [] => []
  | t :: ts => nT t ++ nTs ts
end
def putAll (l : List ByteArray) (xs : List ByteArray) : List ByteArray := xs.foldl putS l
theorem c0n (l a b : List ByteArray) : putAll l (a ++ b) = putAll (putAll l a) b := by unfold putAll; rw [List.foldl_append]
theorem d8V (v : V) (l : Lab) (d : Int) (h : (vMeet v l d).1 = true) : (vMeet v l d).2.ns = putAll v.ns (namL l) := by
  unfold vMeet at h ⊢
  unfold namL
  split at h
  · cases h
  · rename_i h1
    rw [if_neg h1]
    split at h
    · cases h
    · rename_i h2
      rw [if_neg h2]
      dsimp only
      split <;> rfl
mutual
theorem g2M : ∀ (t : PT) (d : Int) (v : V), (vT t d v).1 = true → (vT t d v).2.ns = putAll v.ns (nT t)
  | .mk l cs, d, v => by
    rw [vT, nT]
    by_cases hq : (vMeet v l d).1 = true
    · rw [if_pos hq]
      intro h
      rw [c6D cs (d + 1) _ h, d8V v l d hq, c0n]
    · rw [if_neg hq]; exact fun h => (hq h).elim
theorem c6D : ∀ (ts : List PT) (d : Int) (v : V), (vTs ts d v).1 = true → (vTs ts d v).2.ns = putAll v.ns (nTs ts)
  | [], d, v => by rw [vTs, nTs]; exact fun _ => rfl
  | t :: ts, d, v => by
    rw [vTs, nTs]
    by_cases hq : (vT t d v).1 = true
    · rw [if_pos hq]
      intro h
      rw [c6D ts d _ h, g2M t d v hq, c0n]
    · rw [if_neg hq]; exact fun h => (hq h).elim
end
mutual
def cT : PT → Nat
  | .mk _ cs => 1 + cTs cs
def cTs : List PT → Nat
  | [] => 0
  | t :: ts => cT t + cTs ts
end
mutual
theorem f5x : ∀ (t : PT) (d : Int) (s : W), (wT t d s).fbad = 0 → (wT t d s).fn = s.fn + cT t
  | .mk l cs, d, s, h => by
    rw [wT] at h ⊢
    rw [c1J cs _ _ h, cT]
    have hb : (wStep s d).fbad = 0 := by
      by_cases hq : (wStep s d).fbad = 0
      · exact hq
      · rw [a5u _ _ _ hq] at h; exact h
    unfold wStep at hb ⊢
    split at hb
    · rename_i h1
      rw [if_pos h1]
      split at hb
      · cases hb
      · rename_i h2
        rw [if_neg h2]
        split at hb
        · cases hb
        · rename_i h3
          rw [if_neg h3]; dsimp only; omega
    · rename_i h1; exact (h1 hb).elim
theorem c1J : ∀ (ts : List PT) (d : Int) (s : W), (wTs ts d s).fbad = 0 → (wTs ts d s).fn = s.fn + cTs ts
  | [], d, s, h => by rw [wTs, cTs]; simp
  | t :: ts, d, s, h => by
    rw [wTs] at h ⊢
    rw [c1J ts _ _ h, cTs]
    have hb : (wT t d s).fbad = 0 := by
      by_cases hq : (wT t d s).fbad = 0
      · exact hq
      · rw [a5u _ _ _ hq] at h; exact h
    rw [f5x t d s hb]; omega
end
theorem e4q {ts : List PT} (h : (wTs ts 1 w0S).fbad = 0) : cTs ts ≤ 4096 := by
  have h1 := c1J ts 1 w0S h
  have h2 := (b1y ts 1 w0S g2L).2
  have h3 : w0S.fn = 0 := rfl
  omega
inductive Nd : PT → Prop
  | mk {l : Lab} {cs : List PT} : (∀ z s, l ≠ .decl z s) → (∀ t ∈ cs, Nd t) → Nd (.mk l cs)
theorem b1J {α : Type} {R : α → PT → Prop} {xs : List α} {ts : List PT} (hl : xs.length = ts.length) (h : ∀ (i : Nat) (x : α) (t : PT), xs[i]? = some x → ts[i]? = some t → Nd t) : ∀ t ∈ ts, Nd t := fun t ht => by
  obtain ⟨i, hi⟩ := List.mem_iff_getElem?.1 ht
  obtain ⟨x, hx⟩ := C4 (l := xs) (i := i) (by rw [hl]; exact m9 hi)
  exact h i x t hx hi
theorem c0o {a b : List PT} (ha : ∀ t ∈ a, Nd t) (hb : ∀ t ∈ b, Nd t) : ∀ t ∈ a ++ b, Nd t := fun t h => (List.mem_append.1 h).elim (ha t) (hb t)
theorem EH.nd {H : Hp} {e : k6} {t : PT} (h : EH H e t) : Nd t := by
  induction h with
  | mk hs hb hl _ ih => exact .mk (fun z s e => by cases e) (b1J (R := EH H) hl ih)
theorem CH.nd {H : Hp} {e : k3} {t : PT} (h : CH H e t) : Nd t := by
  induction h with
  | mk hs hb hr hc hcb hl _ ih => exact .mk (fun z s e => by cases e) (c0o (b1J (R := EH H) hr.1 fun i x t a b => (hr.2 i x t a b).nd) (b1J (R := CH H) hl ih))
theorem SH.nd {H : Hp} {e : i5} {t : PT} (h : SH H e t) : Nd t := by
  induction h with
  | mk hs hb hr hc hcb hcr ha hab hal _ hbs hbb hbl _ ih1 ih2 =>
    exact .mk (fun z s e => by cases e) (c0o (b1J (R := CH H) hcr.1 fun i x t a b => (hcr.2 i x t a b).nd) (c0o (b1J (R := EH H) hr.1 fun i x t a b => (hr.2 i x t a b).nd) (c0o (b1J (R := SH H) hal ih1) (b1J (R := SH H) hbl ih2))))
section
variable {H : Hp}
theorem d8W {e : i5} {t : PT} (he : SH H e t) {f : Fm} {K : Fm → Hp → Prop} (h : ∀ y, FR f (formT t) (namesT t) y → K y H) : M5 f e H K := by
  induction he generalizing f K with
  | @mk e xs ts ys us zs bs vs ws hs hb hr hc hcb hcr ha hab hal har hbs hbb hbl hbr iha ihb =>
    refine a8M _ _ ?_
    have r0 := hr.1
    have r1 := hcr.1
    have n1 : (e.d7.n : Int) = (ts.length : Int) := by have := hs.1; omega
    have n2 : (e.i4.n : Int) = (us.length : Int) := by have := hc.1; omega
    have n3 : (e.s6.n : Int) = (vs.length : Int) := by have := ha.1; omega
    have n4 : (e.q8.n : Int) = (ws.length : Int) := by have := hbs.1; omega
    have fin : ∀ (i : Int) (s : Fm) (n : Int) (m : Nat), n = (m : Int) → (decide (i < n) && s.fok) = false → ((m : Int) ≤ i ∨ s.fok = false) := by
      intro i s n m hn hc
      by_cases hlt : i < n
      · right
        cases hq : s.fok
        · rfl
        · rw [hq, decide_eq_true hlt] at hc; cases hc
      · left; omega
    have j1 : ∀ (e' c' : Int) (f' : Fm), f'.fnames = f.fnames → (((((f'.fok && ((decide (e.c6 = 1) || decide (e.c6 = 2)) || decide (e.k9 = ⟨#[]⟩))) && decide ((ts.length : Int) = e')) && decide ((us.length : Int) = c')) && ((decide ((vs.length : Int) = 0) || decide (e.c6 = 3)) || decide (e.c6 = 4))) && (decide ((ws.length : Int) = 0) || decide (e.c6 = 3))) = (f.fok && formS e.c6 e.k9 (ts.length : Int) (us.length : Int) (vs.length : Int) (ws.length : Int)) → t1 e' c' e f' H K := by
      intro e' c' f' hf heq
      unfold t1
      refine b8K ?_
      refine floop (ts := us) fun i s next i0 i1 hk hf' => ?_
      unfold Q2
      refine ⟨fun hq => ?_, fun hq => ?_⟩
      · obtain ⟨hq1, hq2⟩ := a7n.1 hq
        obtain ⟨x, hx, hE⟩ := hc.get i0 hq1
        obtain ⟨t, ht⟩ := C4 (l := us) (i := i.toNat) (by have := m9 hx; omega)
        refine ⟨i0, hq1, x, hE, d8T (hcr.2 _ x t hx ht) fun y hy => ?_⟩
        rw [r5 i0 (by simp only [big] at hcb; have := m9 hx; omega)]
        exact hk t ht hq2 y hy
      · have hfin := hf' (fin i s _ _ n2 hq)
        have F1 : FR f (formS e.c6 e.k9 (ts.length : Int) (us.length : Int) (vs.length : Int) (ws.length : Int) && formTs us) (nameOk (.stmt e.c6 e.k9 ts.length us.length vs.length ws.length) && namesTs us) s := by
          refine FR.trans (g := ⟨_, _⟩) ⟨?_, fun _ => ?_⟩ hfin
          · show (((((f'.fok && _) && decide ((e.d7.n : Int) = e')) && decide ((e.i4.n : Int) = c')) && ((decide ((e.s6.n : Int) = 0) || _) || _)) && (decide ((e.q8.n : Int) = 0) || _)) = _
            rw [n1, n2, n3, n4]; exact heq
          · show (f'.fnames && _) = _
            rw [hf]; rfl
        clear hk hf' next hq hfin
        unfold Q1
        refine floop (ts := ts) fun i s2 next i0 i1 hk hf' => ?_
        unfold Q0
        refine ⟨fun hq => ?_, fun hq => ?_⟩
        · obtain ⟨hq1, hq2⟩ := a7n.1 hq
          obtain ⟨x, hx, hE⟩ := hs.get i0 hq1
          obtain ⟨t, ht⟩ := C4 (l := ts) (i := i.toNat) (by have := m9 hx; omega)
          refine ⟨i0, hq1, x, hE, c6C (hr.2 _ x t hx ht) fun y hy => ?_⟩
          rw [r5 i0 (by simp only [big] at hb; have := m9 hx; omega)]
          exact hk t ht hq2 y hy
        · have F2 := F1.trans (hf' (fin i s2 _ _ n1 hq))
          clear hk hf' next hq
          unfold P9
          refine floop (ts := vs) fun i s3 next i0 i1 hk hf' => ?_
          unfold P8
          refine ⟨fun hq => ?_, fun hq => ?_⟩
          · obtain ⟨hq1, hq2⟩ := a7n.1 hq
            obtain ⟨x, hx, hE⟩ := ha.get i0 hq1
            obtain ⟨t, ht⟩ := C4 (l := vs) (i := i.toNat) (by have := m9 hx; omega)
            refine ⟨i0, hq1, x, hE, iha _ x t hx ht fun y hy => ?_⟩
            rw [r5 i0 (by simp only [big] at hab; have := m9 hx; omega)]
            exact hk t ht hq2 y hy
          · have F3 := F2.trans (hf' (fin i s3 _ _ n3 hq))
            clear hk hf' next hq
            unfold P7
            refine floop (ts := ws) fun i s4 next i0 i1 hk hf' => ?_
            unfold P6
            refine ⟨fun hq => ?_, fun hq => ?_⟩
            · obtain ⟨hq1, hq2⟩ := a7n.1 hq
              obtain ⟨x, hx, hE⟩ := hbs.get i0 hq1
              obtain ⟨t, ht⟩ := C4 (l := ws) (i := i.toNat) (by have := m9 hx; omega)
              refine ⟨i0, hq1, x, hE, ihb _ x t hx ht fun y hy => ?_⟩
              rw [r5 i0 (by simp only [big] at hbb; have := m9 hx; omega)]
              exact hk t ht hq2 y hy
            · have F4 := F3.trans (hf' (fin i s4 _ _ n4 hq))
              refine h _ ?_
              rw [formT, namesT, a4e, a4e, a4e, a4m, a4m, a4m]
              simp only [Bool.and_assoc] at F4 ⊢
              exact F4
    have eqv : ∀ (e' c' : Int), (e.c6 = 1 ∧ e' = 1 ∧ c' = 0 ∨ e.c6 = 2 ∧ e' = 2 ∧ c' = 0 ∨ (e.c6 = 3 ∨ e.c6 = 4 ∨ e.c6 = 5 ∨ e.c6 = 6) ∧ e' = 0 ∧ c' = 1 ∨ e.c6 = 7 ∧ e' = 0 ∧ c' = 0) → (((((f.fok && ((decide (e.c6 = 1) || decide (e.c6 = 2)) || decide (e.k9 = ⟨#[]⟩))) && decide ((ts.length : Int) = e')) && decide ((us.length : Int) = c')) && ((decide ((vs.length : Int) = 0) || decide (e.c6 = 3)) || decide (e.c6 = 4))) && (decide ((ws.length : Int) = 0) || decide (e.c6 = 3))) = (f.fok && formS e.c6 e.k9 (ts.length : Int) (us.length : Int) (vs.length : Int) (ws.length : Int)) := by
      intro e' c' hk
      simp only [Bool.and_assoc]
      congr 1
      rw [Bool.eq_iff_iff]
      generalize (ts.length : Int) = a
      generalize (us.length : Int) = b
      have hv : (0 : Int) ≤ (vs.length : Int) := by omega
      have hw : (0 : Int) ≤ (ws.length : Int) := by omega
      generalize (vs.length : Int) = c at hv ⊢
      generalize (ws.length : Int) = d at hw ⊢
      generalize e.c6 = k at hk ⊢
      by_cases hsn : e.k9 = ⟨#[]⟩
      all_goals
        unfold formS
        rcases hk with ⟨rfl, rfl, rfl⟩ | ⟨rfl, rfl, rfl⟩ | ⟨rfl | rfl | rfl | rfl, rfl, rfl⟩ | ⟨rfl, rfl, rfl⟩ <;> simp [hsn] <;> omega
    have no : ¬ (e.c6 = 1 ∨ e.c6 = 2 ∨ e.c6 = 3 ∨ e.c6 = 4 ∨ e.c6 = 5 ∨ e.c6 = 6 ∨ e.c6 = 7) → formS e.c6 e.k9 (ts.length : Int) (us.length : Int) (vs.length : Int) (ws.length : Int) = false := by
      intro hk
      unfold formS
      rw [if_neg (by omega), if_neg (by omega), if_neg (by omega), if_neg (by omega), if_neg (by omega), if_neg (by omega)]
    have j9 : ∀ b : Bool, (b = true ↔ (e.c6 = 3 ∨ e.c6 = 4 ∨ e.c6 = 5 ∨ e.c6 = 6)) → ¬ (e.c6 = 1 ∨ e.c6 = 2) → w6 0 0 e.c6 b e f H K := by
      intro b hq hno
      unfold w6
      refine ⟨fun q => j1 0 1 f rfl (eqv 0 1 (.inr (.inr (.inl ⟨hq.1 q, rfl, rfl⟩)))), fun q => ⟨fun e7 => j1 0 0 f rfl (eqv 0 0 (.inr (.inr (.inr ⟨e7, rfl, rfl⟩)))), fun e7 => j1 0 0 _ rfl ?_⟩⟩
      have := mt hq.2 (by rw [q]; decide)
      rw [no (by omega), Bool.and_false]; rfl
    unfold U2
    refine ⟨fun e1 => j1 1 0 f rfl (eqv 1 0 (.inl ⟨e1, rfl, rfl⟩)), fun e1 => ⟨fun e2 => j1 2 0 f rfl (eqv 2 0 (.inr (.inl ⟨e2, rfl, rfl⟩))), fun e2 => ⟨fun e3 => j9 _ ?_ (by omega), fun e3 => ⟨fun e4 => j9 _ ?_ (by omega), fun e4 => ⟨fun e5 => j9 _ ?_ (by omega), fun e5 => j9 _ ?_ (by omega)⟩⟩⟩⟩⟩ <;> (rw [decide_eq_true_eq]; omega)
theorem d4S {p : k5} {q : PP} (hp : PH H p q) {K : Int → Hp → Prop} (h : K (toldS q.nodes) H) : a2P p H K := by
  refine b0s _ ?_
  unfold a0K
  refine d4o hp ⟨fun hb => ?_, fun hb => ?_⟩
  · unfold toldS at h
    rw [if_neg hb] at h; exact h
  obtain ⟨hd, hbd, xs, hsl, hxb, hr⟩ := hp
  have n1 := hd.1; have n2 := hsl.1; have r0 := hr.1
  refine Z4 (fun (z : Int × Fm) H' => 0 ≤ z.1 ∧ z.1 ≤ q.decls.length ∧ H' = H ∧ FR ⟨true, true⟩ (formTs ((q.decls.map dT).take z.1.toNat)) (namesTs ((q.decls.map dT).take z.1.toNat)) z.2) (fun z => (q.decls.length - z.1).toNat) ⟨Int.le_refl _, by simp, rfl, by simpa [formTs, namesTs] using FR.refl ⟨true, true⟩⟩ ?_
  rintro ⟨i, s⟩ H1 next ⟨i0, i1, rfl, hs⟩ hn
  dsimp only at i0 i1 hs ⊢
  unfold W7
  refine ⟨fun hq => ?_, fun hq => ?_⟩
  · obtain ⟨x, hx, hE⟩ := hd.get i0 hq
    have hlt := m9 hx
    have hx' : (q.decls.map dT)[i.toNat]? = some (dT x) := by rw [List.getElem?_map, hx]; rfl
    refine ⟨x, fun _ => ⟨i0, hq, hE⟩, x, fun _ => ⟨i0, hq, hE⟩, i0, hq, x, hE, b8K ?_⟩
    rw [r5 i0 (by simp only [big] at hbd; omega)]
    refine hn _ _ ⟨by dsimp only; omega, by dsimp only; omega, rfl, ?_⟩ (by dsimp only; omega)
    dsimp only
    rw [show (i + 1).toNat = i.toNat + 1 by omega, c2k hx', c0m hx']
    refine hs.trans ⟨?_, fun _ => ?_⟩
    · unfold dT
      rw [formT, formTs]
      show (((s.fok && _) && _) && (true || _)) = (s.fok && ((_ && _) && true))
      simp only [Bool.true_or, Bool.and_true, Bool.and_assoc]
    · unfold dT
      rw [namesT, namesTs]
      show (s.fnames && (if true = true then nameS x.k9 else true)) = _
      unfold nameOk nameL
      rw [Bool.and_true]
  · rw [List.take_of_length_le (by rw [List.length_map]; omega)] at hs
    clear hn next
    unfold W6
    refine floop (ts := q.body) fun j s2 next j0 j1 hk hf' => ?_
    unfold W5
    refine ⟨fun hq => ?_, fun hq => ?_⟩
    · obtain ⟨hq1, hq2⟩ := a7n.1 hq
      obtain ⟨x, hx, hE⟩ := hsl.get j0 hq1
      obtain ⟨t, ht⟩ := C4 (l := q.body) (i := j.toNat) (by have := m9 hx; omega)
      refine ⟨j0, hq1, x, hE, d8W (hr.2 _ x t hx ht) fun y hy => ?_⟩
      rw [r5 j0 (by simp only [big] at hxb; have := m9 hx; omega)]
      exact hk t ht hq2 y hy
    · have hfin := hs.trans (hf' (by
        by_cases hlt : j < (p.a0V.n : Int)
        · right
          cases hqq : s2.fok
          · rfl
          · dsimp only at hq; rw [hqq, decide_eq_true hlt] at hq; cases hq
        · left; omega))
      rw [← a4e, ← a4m] at hfin
      unfold W4
      refine d8U ?_
      have := e4n (ts := q.nodes) hfin hb
      rw [this]; exact h
theorem d8X {q : PP} (h : toldS q.nodes = 0) : (wTs q.nodes 1 w0S).fbad = 0 ∧ (allV q).1 = true ∧ (allV q).2.n = (wTs q.nodes 1 w0S).fn ∧ (allV q).2.d = (wTs q.nodes 1 w0S).fdepth ∧ (allV q).2.ns = putAll [] (nTs q.nodes) := by
  have hb : (wTs q.nodes 1 w0S).fbad = 0 := by
    unfold toldS at h
    by_cases hq : (wTs q.nodes 1 w0S).fbad = 0
    · exact hq
    · rw [if_neg hq] at h; exact h
  have hs := d9P q.nodes
  have hr : (allV q).1 = true := by
    cases hq : (allV q).1
    · obtain ⟨h1, h2⟩ := hs.2 hq
      omega
    · rfl
  obtain ⟨h1, _⟩ := hs.1 hr
  exact ⟨hb, hr, by rw [h1]; rfl, by rw [h1]; rfl, c6D q.nodes 1 v0 hr⟩
end
end Go.Proofs.YthldnpmfelniiaaDoor
