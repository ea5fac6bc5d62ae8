/- Which names a program has; the document's check of a program, its size, its names. The law TreeChecks. -/
import Derived.Test.YtnhkdkcgdcgmdaaGreatDoorzUQ8
import Derived.Test.YtnhkdkcgdcgmdaaGreatDoorzUV1
import Derived.Test.YtnhkdkcgdcgmdaaGreatDoorProg
import Derived.Test.YtnhkdkcgdcgmdaaGreatDoorzUK0
import Derived.KernelRfl
namespace Go.Proofs.YtnhkdkcgdcgmdaaGreatDoor
open Go.RowKit
set_option maxRecDepth 100000
set_option maxHeartbeats 2000000
def namL (l : Lab) : List ByteArray := if (nameL l).2 = true then [(nameL l).1] else []
mutual
def nT : PT → List ByteArray
  | .mk l cs => namL l ++ nTs cs
def nTs : List PT → List ByteArray
  | [] => []
  | t :: ts => nT t ++ nTs ts
end
def putAll (l : List ByteArray) (xs : List ByteArray) : List ByteArray := xs.foldl putS l
theorem d2B (l a b : List ByteArray) : putAll l (a ++ b) = putAll (putAll l a) b := by unfold putAll; rw [List.foldl_append]
theorem f7G (v : V) (l : Lab) (d : Int) (h : (vMeet v l d).1 = true) : (vMeet v l d).2.ns = putAll v.ns (namL l) := by
  unfold vMeet at h ⊢
  unfold namL
  split at h
  · cases h
  · rename_i h1
    rw [if_neg h1]
    split at h
    · cases h
    · rename_i h2
      rw [if_neg h2]
      dsimp only
      split <;> rfl
mutual
theorem j1z : ∀ (t : PT) (d : Int) (v : V), (vT t d v).1 = true → (vT t d v).2.ns = putAll v.ns (nT t)
  | .mk l cs, d, v => by
    rw [vT, nT]
    by_cases hq : (vMeet v l d).1 = true
    · rw [if_pos hq]
      intro h
      rw [e1G cs (d + 1) _ h, f7G v l d hq, d2B]
    · rw [if_neg hq]; exact fun h => (hq h).elim
theorem e1G : ∀ (ts : List PT) (d : Int) (v : V), (vTs ts d v).1 = true → (vTs ts d v).2.ns = putAll v.ns (nTs ts)
  | [], d, v => by rw [vTs, nTs]; exact fun _ => rfl
  | t :: ts, d, v => by
    rw [vTs, nTs]
    by_cases hq : (vT t d v).1 = true
    · rw [if_pos hq]
      intro h
      rw [e1G ts d _ h, j1z t d v hq, d2B]
    · rw [if_neg hq]; exact fun h => (hq h).elim
end
mutual
def cT : PT → Nat
  | .mk _ cs => 1 + cTs cs
def cTs : List PT → Nat
  | [] => 0
  | t :: ts => cT t + cTs ts
end
theorem a9U : ∀ a b : List PT, cTs (a ++ b) = cTs a + cTs b
  | [], b => by rw [List.nil_append, cTs, Nat.zero_add]
  | t :: a, b => by rw [List.cons_append, cTs, cTs, a9U a b, Nat.add_assoc]
mutual
theorem f2L : ∀ (t : PT) (d : Int) (s : W), (wT t d s).fbad = 0 → (wT t d s).fn = s.fn + cT t
  | .mk l cs, d, s, h => by
    rw [wT] at h ⊢
    rw [c7Z cs _ _ h, cT]
    have hb : (wStep s d).fbad = 0 := by
      by_cases hq : (wStep s d).fbad = 0
      · exact hq
      · rw [a3m _ _ _ hq] at h; exact h
    unfold wStep at hb ⊢
    split at hb
    · rename_i h1
      rw [if_pos h1]
      split at hb
      · cases hb
      · rename_i h2
        rw [if_neg h2]
        split at hb
        · cases hb
        · rename_i h3
          rw [if_neg h3]; dsimp only; omega
    · rename_i h1; exact (h1 hb).elim
theorem c7Z : ∀ (ts : List PT) (d : Int) (s : W), (wTs ts d s).fbad = 0 → (wTs ts d s).fn = s.fn + cTs ts
  | [], d, s, h => by rw [wTs, cTs]; simp
  | t :: ts, d, s, h => by
    rw [wTs] at h ⊢
    rw [c7Z ts _ _ h, cTs]
    have hb : (wT t d s).fbad = 0 := by
      by_cases hq : (wT t d s).fbad = 0
      · exact hq
      · rw [a3m _ _ _ hq] at h; exact h
    rw [f2L t d s hb]; omega
end
inductive Nd : PT → Prop
  | mk {l : Lab} {cs : List PT} : (∀ z s, l ≠ .decl z s) → (∀ t ∈ cs, Nd t) → Nd (.mk l cs)
theorem b9W {α : Type} {R : α → PT → Prop} {xs : List α} {ts : List PT} (hl : xs.length = ts.length) (h : ∀ (i : Nat) (x : α) (t : PT), xs[i]? = some x → ts[i]? = some t → Nd t) : ∀ t ∈ ts, Nd t := fun t ht => by
  obtain ⟨i, hi⟩ := List.mem_iff_getElem?.1 ht
  obtain ⟨x, hx⟩ := D9 (l := xs) (i := i) (by rw [hl]; exact C1 hi)
  exact h i x t hx hi
theorem d2C {a b : List PT} (ha : ∀ t ∈ a, Nd t) (hb : ∀ t ∈ b, Nd t) : ∀ t ∈ a ++ b, Nd t := fun t h => (List.mem_append.1 h).elim (ha t) (hb t)
theorem EH.nd {H : Hp} {e : a8} {t : PT} (h : EH H e t) : Nd t := by
  induction h with
  | mk hs hb hl _ ih => exact .mk (fun z s e => by cases e) (b9W (R := EH H) hl ih)
theorem CH.nd {H : Hp} {e : b7} {t : PT} (h : CH H e t) : Nd t := by
  induction h with
  | mk hs hb hr hc hcb hl _ ih => exact .mk (fun z s e => by cases e) (d2C (b9W (R := EH H) hr.1 fun i x t a b => (hr.2 i x t a b).nd) (b9W (R := CH H) hl ih))
theorem SH.nd {H : Hp} {e : d6} {t : PT} (h : SH H e t) : Nd t := by
  induction h with
  | mk hs hb hr hc hcb hcr ha hab hal _ hbs hbb hbl _ ih1 ih2 =>
    exact .mk (fun z s e => by cases e) (d2C (b9W (R := CH H) hcr.1 fun i x t a b => (hcr.2 i x t a b).nd) (d2C (b9W (R := EH H) hr.1 fun i x t a b => (hr.2 i x t a b).nd) (d2C (b9W (R := SH H) hal ih1) (b9W (R := SH H) hbl ih2))))
section
variable {H : Hp}
theorem f7H {e : d6} {t : PT} (he : SH H e t) {f : Fm} {K : Fm → Hp → Prop} (h : ∀ y, FR f (formT t) (namesT t) y → K y H) : Y7 f e H K := by
  induction he generalizing f K with
  | @mk e xs ts ys us zs bs vs ws hs hb hr hc hcb hcr ha hab hal har hbs hbb hbl hbr iha ihb =>
    refine b5p _ _ ?_
    have r0 := hr.1
    have r1 := hcr.1
    have n1 : (e.f5.n : Int) = (ts.length : Int) := by have := hs.1; omega
    have n2 : (e.i4.n : Int) = (us.length : Int) := by have := hc.1; omega
    have n3 : (e.A5.n : Int) = (vs.length : Int) := by have := ha.1; omega
    have n4 : (e.z6.n : Int) = (ws.length : Int) := by have := hbs.1; omega
    have fin : ∀ (i : Int) (s : Fm) (n : Int) (m : Nat), n = (m : Int) → (decide (i < n) && s.fok) = false → ((m : Int) ≤ i ∨ s.fok = false) := by
      intro i s n m hn hc
      by_cases hlt : i < n
      · right
        cases hq : s.fok
        · rfl
        · rw [hq, decide_eq_true hlt] at hc; cases hc
      · left; omega
    have j1 : ∀ (e' c' : Int) (f' : Fm), f'.fnames = f.fnames → (((((f'.fok && ((decide (e.b6 = 1) || decide (e.b6 = 2)) || decide (e.f6 = ⟨#[]⟩))) && decide ((ts.length : Int) = e')) && decide ((us.length : Int) = c')) && ((decide ((vs.length : Int) = 0) || decide (e.b6 = 3)) || decide (e.b6 = 4))) && (decide ((ws.length : Int) = 0) || decide (e.b6 = 3))) = (f.fok && formS e.b6 e.f6 (ts.length : Int) (us.length : Int) (vs.length : Int) (ws.length : Int)) → D1 e' c' e f' H K := by
      intro e' c' f' hf heq
      unfold D1
      refine c9U ?_
      refine floop (ts := us) fun i s next i0 i1 hk hf' => ?_
      unfold a1p
      refine ⟨fun hq => ?_, fun hq => ?_⟩
      · obtain ⟨hq1, hq2⟩ := b3S.1 hq
        obtain ⟨x, hx, hE⟩ := hc.get i0 hq1
        obtain ⟨t, ht⟩ := D9 (l := us) (i := i.toNat) (by have := C1 hx; omega)
        refine ⟨i0, hq1, x, hE, f6L (hcr.2 _ x t hx ht) fun y hy => ?_⟩
        rw [B5 i0 (by simp only [big] at hcb; have := C1 hx; omega)]
        exact hk t ht hq2 y hy
      · have hfin := hf' (fin i s _ _ n2 hq)
        have F1 : FR f (formS e.b6 e.f6 (ts.length : Int) (us.length : Int) (vs.length : Int) (ws.length : Int) && formTs us) (nameOk (.stmt e.b6 e.f6 ts.length us.length vs.length ws.length) && namesTs us) s := by
          refine FR.trans (g := ⟨_, _⟩) ⟨?_, fun _ => ?_⟩ hfin
          · show (((((f'.fok && _) && decide ((e.f5.n : Int) = e')) && decide ((e.i4.n : Int) = c')) && ((decide ((e.A5.n : Int) = 0) || _) || _)) && (decide ((e.z6.n : Int) = 0) || _)) = _
            rw [n1, n2, n3, n4]; exact heq
          · show (f'.fnames && _) = _
            rw [hf]; rfl
        clear hk hf' next hq hfin
        unfold a1o
        refine floop (ts := ts) fun i s2 next i0 i1 hk hf' => ?_
        unfold a1m
        refine ⟨fun hq => ?_, fun hq => ?_⟩
        · obtain ⟨hq1, hq2⟩ := b3S.1 hq
          obtain ⟨x, hx, hE⟩ := hs.get i0 hq1
          obtain ⟨t, ht⟩ := D9 (l := ts) (i := i.toNat) (by have := C1 hx; omega)
          refine ⟨i0, hq1, x, hE, e0t (hr.2 _ x t hx ht) fun y hy => ?_⟩
          rw [B5 i0 (by simp only [big] at hb; have := C1 hx; omega)]
          exact hk t ht hq2 y hy
        · have F2 := F1.trans (hf' (fin i s2 _ _ n1 hq))
          clear hk hf' next hq
          unfold a1l
          refine floop (ts := vs) fun i s3 next i0 i1 hk hf' => ?_
          unfold a1k
          refine ⟨fun hq => ?_, fun hq => ?_⟩
          · obtain ⟨hq1, hq2⟩ := b3S.1 hq
            obtain ⟨x, hx, hE⟩ := ha.get i0 hq1
            obtain ⟨t, ht⟩ := D9 (l := vs) (i := i.toNat) (by have := C1 hx; omega)
            refine ⟨i0, hq1, x, hE, iha _ x t hx ht fun y hy => ?_⟩
            rw [B5 i0 (by simp only [big] at hab; have := C1 hx; omega)]
            exact hk t ht hq2 y hy
          · have F3 := F2.trans (hf' (fin i s3 _ _ n3 hq))
            clear hk hf' next hq
            unfold a1j
            refine floop (ts := ws) fun i s4 next i0 i1 hk hf' => ?_
            unfold a1i
            refine ⟨fun hq => ?_, fun hq => ?_⟩
            · obtain ⟨hq1, hq2⟩ := b3S.1 hq
              obtain ⟨x, hx, hE⟩ := hbs.get i0 hq1
              obtain ⟨t, ht⟩ := D9 (l := ws) (i := i.toNat) (by have := C1 hx; omega)
              refine ⟨i0, hq1, x, hE, ihb _ x t hx ht fun y hy => ?_⟩
              rw [B5 i0 (by simp only [big] at hbb; have := C1 hx; omega)]
              exact hk t ht hq2 y hy
            · have F4 := F3.trans (hf' (fin i s4 _ _ n4 hq))
              refine h _ ?_
              rw [formT, namesT, a7C, a7C, a7C, a9o, a9o, a9o]
              simp only [Bool.and_assoc] at F4 ⊢
              exact F4
    have eqv : ∀ (e' c' : Int), (e.b6 = 1 ∧ e' = 1 ∧ c' = 0 ∨ e.b6 = 2 ∧ e' = 2 ∧ c' = 0 ∨ (e.b6 = 3 ∨ e.b6 = 4 ∨ e.b6 = 5 ∨ e.b6 = 6) ∧ e' = 0 ∧ c' = 1 ∨ e.b6 = 7 ∧ e' = 0 ∧ c' = 0) → (((((f.fok && ((decide (e.b6 = 1) || decide (e.b6 = 2)) || decide (e.f6 = ⟨#[]⟩))) && decide ((ts.length : Int) = e')) && decide ((us.length : Int) = c')) && ((decide ((vs.length : Int) = 0) || decide (e.b6 = 3)) || decide (e.b6 = 4))) && (decide ((ws.length : Int) = 0) || decide (e.b6 = 3))) = (f.fok && formS e.b6 e.f6 (ts.length : Int) (us.length : Int) (vs.length : Int) (ws.length : Int)) := by
      intro e' c' hk
      simp only [Bool.and_assoc]
      congr 1
      rw [Bool.eq_iff_iff]
      generalize (ts.length : Int) = a
      generalize (us.length : Int) = b
      have hv : (0 : Int) ≤ (vs.length : Int) := by omega
      have hw : (0 : Int) ≤ (ws.length : Int) := by omega
      generalize (vs.length : Int) = c at hv ⊢
      generalize (ws.length : Int) = d at hw ⊢
      generalize e.b6 = k at hk ⊢
      by_cases hsn : e.f6 = ⟨#[]⟩
      all_goals
        unfold formS
        rcases hk with ⟨rfl, rfl, rfl⟩ | ⟨rfl, rfl, rfl⟩ | ⟨rfl | rfl | rfl | rfl, rfl, rfl⟩ | ⟨rfl, rfl, rfl⟩ <;> simp [hsn] <;> omega
    have no : ¬ (e.b6 = 1 ∨ e.b6 = 2 ∨ e.b6 = 3 ∨ e.b6 = 4 ∨ e.b6 = 5 ∨ e.b6 = 6 ∨ e.b6 = 7) → formS e.b6 e.f6 (ts.length : Int) (us.length : Int) (vs.length : Int) (ws.length : Int) = false := by
      intro hk
      unfold formS
      rw [if_neg (by omega), if_neg (by omega), if_neg (by omega), if_neg (by omega), if_neg (by omega), if_neg (by omega)]
    have j9 : ∀ b : Bool, (b = true ↔ (e.b6 = 3 ∨ e.b6 = 4 ∨ e.b6 = 5 ∨ e.b6 = 6)) → ¬ (e.b6 = 1 ∨ e.b6 = 2) → K3 0 0 e.b6 b e f H K := by
      intro b hq hno
      unfold K3
      refine ⟨fun q => j1 0 1 f rfl (eqv 0 1 (.inr (.inr (.inl ⟨hq.1 q, rfl, rfl⟩)))), fun q => ⟨fun e7 => j1 0 0 f rfl (eqv 0 0 (.inr (.inr (.inr ⟨e7, rfl, rfl⟩)))), fun e7 => j1 0 0 _ rfl ?_⟩⟩
      have := mt hq.2 (by rw [q]; decide)
      rw [no (by omega), Bool.and_false]; rfl
    unfold a2I
    refine ⟨fun e1 => j1 1 0 f rfl (eqv 1 0 (.inl ⟨e1, rfl, rfl⟩)), fun e1 => ⟨fun e2 => j1 2 0 f rfl (eqv 2 0 (.inr (.inl ⟨e2, rfl, rfl⟩))), fun e2 => ⟨fun e3 => j9 _ ?_ (by omega), fun e3 => ⟨fun e4 => j9 _ ?_ (by omega), fun e4 => ⟨fun e5 => j9 _ ?_ (by omega), fun e5 => j9 _ ?_ (by omega)⟩⟩⟩⟩⟩ <;> (rw [decide_eq_true_eq]; omega)
theorem d4v {p : g7} {q : PP} (hp : PH H p q) {K : Int → Hp → Prop} (h : K (toldS q.nodes) H) : a4l p H K := by
  refine b7L _ ?_
  unfold a4r
  refine d4g hp ⟨fun hb => ?_, fun hb => ?_⟩
  · unfold toldS at h
    rw [if_neg hb] at h; exact h
  obtain ⟨hd, hbd, xs, hsl, hxb, hr⟩ := hp
  have n1 := hd.1; have n2 := hsl.1; have r0 := hr.1
  refine U4 (fun (z : Int × Fm) H' => 0 ≤ z.1 ∧ z.1 ≤ q.decls.length ∧ H' = H ∧ FR ⟨true, true⟩ (formTs ((q.decls.map dT).take z.1.toNat)) (namesTs ((q.decls.map dT).take z.1.toNat)) z.2) (fun z => (q.decls.length - z.1).toNat) ⟨Int.le_refl _, by simp, rfl, by simpa [formTs, namesTs] using FR.refl ⟨true, true⟩⟩ ?_
  rintro ⟨i, s⟩ H1 next ⟨i0, i1, rfl, hs⟩ hn
  dsimp only at i0 i1 hs ⊢
  unfold a3s
  refine ⟨fun hq => ?_, fun hq => ?_⟩
  · obtain ⟨x, hx, hE⟩ := hd.get i0 hq
    have hlt := C1 hx
    have hx' : (q.decls.map dT)[i.toNat]? = some (dT x) := by rw [List.getElem?_map, hx]; rfl
    refine ⟨x, fun _ => ⟨i0, hq, hE⟩, x, fun _ => ⟨i0, hq, hE⟩, i0, hq, x, hE, c9U ?_⟩
    rw [B5 i0 (by simp only [big] at hbd; omega)]
    refine hn _ _ ⟨by dsimp only; omega, by dsimp only; omega, rfl, ?_⟩ (by dsimp only; omega)
    dsimp only
    rw [show (i + 1).toNat = i.toNat + 1 by omega, d4q hx', d1M hx']
    refine hs.trans ⟨?_, fun _ => ?_⟩
    · unfold dT
      rw [formT, formTs]
      show (((s.fok && _) && _) && (true || _)) = (s.fok && ((_ && _) && true))
      simp only [Bool.true_or, Bool.and_true, Bool.and_assoc]
    · unfold dT
      rw [namesT, namesTs]
      show (s.fnames && (if true = true then nameS x.f6 else true)) = _
      unfold nameOk nameL
      rw [Bool.and_true]
  · rw [List.take_of_length_le (by rw [List.length_map]; omega)] at hs
    clear hn next
    unfold a3r
    refine floop (ts := q.body) fun j s2 next j0 j1 hk hf' => ?_
    unfold a3q
    refine ⟨fun hq => ?_, fun hq => ?_⟩
    · obtain ⟨hq1, hq2⟩ := b3S.1 hq
      obtain ⟨x, hx, hE⟩ := hsl.get j0 hq1
      obtain ⟨t, ht⟩ := D9 (l := q.body) (i := j.toNat) (by have := C1 hx; omega)
      refine ⟨j0, hq1, x, hE, f7H (hr.2 _ x t hx ht) fun y hy => ?_⟩
      rw [B5 j0 (by simp only [big] at hxb; have := C1 hx; omega)]
      exact hk t ht hq2 y hy
    · have hfin := hs.trans (hf' (by
        by_cases hlt : j < (p.G3.n : Int)
        · right
          cases hqq : s2.fok
          · rfl
          · dsimp only at hq; rw [hqq, decide_eq_true hlt] at hq; cases hq
        · left; omega))
      rw [← a7C, ← a9o] at hfin
      unfold a3p
      refine f6M ?_
      have := g3Z (ts := q.nodes) hfin hb
      rw [this]; exact h
theorem f7I {q : PP} (h : toldS q.nodes = 0) : (wTs q.nodes 1 w0S).fbad = 0 ∧ (allV q).1 = true ∧ (allV q).2.n = (wTs q.nodes 1 w0S).fn ∧ (allV q).2.d = (wTs q.nodes 1 w0S).fdepth ∧ (allV q).2.ns = putAll [] (nTs q.nodes) := by
  have hb : (wTs q.nodes 1 w0S).fbad = 0 := by
    unfold toldS at h
    by_cases hq : (wTs q.nodes 1 w0S).fbad = 0
    · exact hq
    · rw [if_neg hq] at h; exact h
  have hs := f8d q.nodes
  have hr : (allV q).1 = true := by
    cases hq : (allV q).1
    · obtain ⟨h1, h2⟩ := hs.2 hq
      omega
    · rfl
  obtain ⟨h1, _⟩ := hs.1 hr
  exact ⟨hb, hr, by rw [h1]; rfl, by rw [h1]; rfl, e1G q.nodes 1 v0 hr⟩
end
end Go.Proofs.YtnhkdkcgdcgmdaaGreatDoor
