/-
  The document's forms: which trees have theirs, which names are names; what it tells is what the program tells. The law TreeParts.
-/
import Derived.Test.YthldnpmfelniiaaDoorQ7
namespace Go.Proofs.YthldnpmfelniiaaDoor
open Go.RowKit
set_option maxRecDepth 100000
set_option maxHeartbeats 2000000

def nameOk (l : Lab) : Bool := if (nameL l).2 = true then nameS (nameL l).1 else true
mutual
def formT : PT → Bool
  | .mk l cs => formL l && formTs cs
def formTs : List PT → Bool
  | [] => true
  | t :: ts => formT t && formTs ts
end
mutual
def namesT : PT → Bool
  | .mk l cs => nameOk l && namesTs cs
def namesTs : List PT → Bool
  | [] => true
  | t :: ts => namesT t && namesTs ts
end
theorem formTs_app : ∀ a b : List PT, formTs (a ++ b) = (formTs a && formTs b)
  | [], b => by rw [List.nil_append, formTs, Bool.true_and]
  | t :: a, b => by rw [List.cons_append, formTs, formTs, formTs_app a b, Bool.and_assoc]
theorem namesTs_app : ∀ a b : List PT, namesTs (a ++ b) = (namesTs a && namesTs b)
  | [], b => by rw [List.nil_append, namesTs, Bool.true_and]
  | t :: a, b => by rw [List.cons_append, namesTs, namesTs, namesTs_app a b, Bool.and_assoc]
theorem formTs_at {ts : List PT} {i : Nat} {t : PT} (h : ts[i]? = some t) : formTs (ts.take (i + 1)) = (formTs (ts.take i) && formT t) := by
  rw [take_succ' h, formTs_app, formTs, formTs, Bool.and_true]
theorem namesTs_at {ts : List PT} {i : Nat} {t : PT} (h : ts[i]? = some t) : namesTs (ts.take (i + 1)) = (namesTs (ts.take i) && namesT t) := by
  rw [take_succ' h, namesTs_app, namesTs, namesTs, Bool.and_true]
theorem formTs_no {ts : List PT} {i : Nat} (h : formTs (ts.take i) = false) : formTs ts = false := by
  have := formTs_app (ts.take i) (ts.drop i)
  rw [List.take_append_drop, h, Bool.false_and] at this
  exact this
abbrev Fm := Tgnomonref3_form
def FR (f : Fm) (a b : Bool) (y : Fm) : Prop := y.fok = (f.fok && a) ∧ (y.fok = true → y.fnames = (f.fnames && b))
theorem FR.refl (f : Fm) : FR f true true f := ⟨(Bool.and_true _).symm, fun _ => (Bool.and_true _).symm⟩
theorem FR.trans {f g y : Fm} {a b a' b' : Bool} (h : FR f a b g) (h' : FR g a' b' y) : FR f (a && a') (b && b') y := by
  refine ⟨by rw [h'.1, h.1, Bool.and_assoc], fun hy => ?_⟩
  have hg : g.fok = true := by rw [h'.1] at hy; exact (Bool.and_eq_true_iff.1 hy).1
  rw [h'.2 hy, h.2 hg, Bool.and_assoc]
section
variable {H : Hp}
/-- a loop over a node's parts, as long as all have their form -/
theorem floop {ts : List PT} {f1 : Fm} {body : Int × Fm → Hp → (Int × Fm → Hp → Prop) → Prop}
    (hb : ∀ (i : Int) (s : Fm) (next : Int × Fm → Hp → Prop), 0 ≤ i → i ≤ ts.length → (∀ t, ts[i.toNat]? = some t → s.fok = true → ∀ y, FR s (formT t) (namesT t) y → next (i + 1, y) H) → ((ts.length ≤ i ∨ s.fok = false) → FR f1 (formTs ts) (namesTs ts) s) → body (i, s) H next) : TL ((0, f1) : Int × Fm) H body := by
  refine TL_of (fun (q : Int × Fm) H' => 0 ≤ q.1 ∧ q.1 ≤ ts.length ∧ H' = H ∧ FR f1 (formTs (ts.take q.1.toNat)) (namesTs (ts.take q.1.toNat)) q.2) (fun q => (ts.length - q.1).toNat) ⟨Int.le_refl _, by simp, rfl, by simpa [formTs, namesTs] using FR.refl f1⟩ ?_
  rintro ⟨i, s⟩ H1 next ⟨i0, i1, rfl, hs⟩ hn
  dsimp only at i0 i1 hs ⊢
  refine hb i s next i0 i1 (fun t ht hok y hy => ?_) fun he => ?_
  · have := lt_of ht
    refine hn _ _ ⟨by show 0 ≤ i + 1; omega, by show i + 1 ≤ _; omega, rfl, ?_⟩ (by show (ts.length - (i + 1)).toNat < (ts.length - i).toNat; omega)
    show FR f1 (formTs (ts.take (i + 1).toNat)) (namesTs (ts.take (i + 1).toNat)) y
    rw [show (i + 1).toNat = i.toNat + 1 by omega, formTs_at ht, namesTs_at ht]
    exact hs.trans hy
  · by_cases hl : ts.length ≤ i
    · rwa [List.take_of_length_le (by omega)] at hs
    · have hf : s.fok = false := by rcases he with he | he; exact (hl he).elim; exact he
      refine ⟨?_, fun e => by rw [hf] at e; cases e⟩
      have h1 := hs.1
      rw [hf] at h1
      rw [hf]
      cases hq : f1.fok
      · rfl
      · rw [hq, Bool.true_and] at h1
        rw [formTs_no h1.symm]; rfl
theorem floop_b {i n : Int} {b : Bool} : (decide (i < n) && b) = true ↔ (i < n ∧ b = true) := by simp
theorem rname_ok {f : Fm} {s : ByteArray} {b : Bool} {K : Fm → Hp → Prop} (h : K ⟨f.fok && (b || decide (s = ⟨#[]⟩)), f.fnames && (if b = true then nameS s else true)⟩ H) : C_gnomon_gnomonref3_form_name f s b H K := by
  refine L_gnomon_gnomonref3_form_name _ _ _ ?_
  unfold T_gnomon_gnomonref3_form_name
  cases b
  · refine ⟨fun _ => ?_, fun q => (by cases q)⟩
    rw [if_neg (by decide), Bool.and_true, Bool.false_or] at h; exact h
  · refine ⟨fun q => (by cases q), fun _ => TG_if (nameS s) (fun _ K' hk => refName_ok hk) ?_⟩
    rw [if_pos rfl, Bool.true_or, Bool.and_true] at h
    have e : (f.fnames && (if f.fnames = true then nameS s else false)) = (f.fnames && nameS s) := by cases f.fnames <;> rfl
    rw [e]; exact h
def nokE (k : Int) (s : ByteArray) : Bool := (decide (k = 2) || decide (k = 4)) || decide (s = ⟨#[]⟩)
def numE (k n : Int) : Bool := decide (n = 0) || (decide (k = 1) && decide (0 < n))
theorem formE_a {k n : Int} {s : ByteArray} {a : Int} (hk : k = 1 ∨ k = 2 ∨ k = 3) (g : Bool) : (((g && nokE k s) && decide (a = 0)) && numE k n) = (g && formE k n s a) := by
  by_cases hs : s = ⟨#[]⟩ <;> by_cases ha : a = 0 <;> by_cases hn : n = 0 <;> by_cases hp : 0 < n <;> (first | omega | skip) <;>
    (have hp' : (0 ≤ n) = (n = 0 ∨ 0 < n) := by rw [eq_iff_iff]; omega) <;>
    rcases hk with rfl | rfl | rfl <;> cases g <;> simp [formE, nokE, numE, hs, ha, hn, hp, hp']
theorem formE_b {k n : Int} {s : ByteArray} {a : Int} (hk : k = 4 ∨ k = 5) (g : Bool) : (((g && nokE k s) && decide (a = 1)) && numE k n) = (g && formE k n s a) := by
  by_cases hs : s = ⟨#[]⟩ <;> by_cases ha : a = 1 <;> by_cases hn : n = 0 <;> rcases hk with rfl | rfl <;> cases g <;> simp [formE, nokE, numE, hs, ha, hn]
theorem formE_c {k n : Int} {s : ByteArray} {a : Int} (hk : k = 6 ∨ k = 7 ∨ k = 8 ∨ k = 9 ∨ k = 10) (g : Bool) : (((g && nokE k s) && decide (a = 2)) && numE k n) = (g && formE k n s a) := by
  by_cases hs : s = ⟨#[]⟩ <;> by_cases ha : a = 2 <;> by_cases hn : n = 0 <;> rcases hk with rfl | rfl | rfl | rfl | rfl <;> cases g <;> simp [formE, nokE, numE, hs, ha, hn]
theorem formE_d {k n : Int} {s : ByteArray} {a : Int} (hk : ¬ (k = 1 ∨ k = 2 ∨ k = 3 ∨ k = 4 ∨ k = 5 ∨ k = 6 ∨ k = 7 ∨ k = 8 ∨ k = 9 ∨ k = 10)) : formE k n s a = false := by
  unfold formE
  split
  · rfl
  · rw [if_neg (by omega), if_neg (by omega), if_neg (by omega), if_neg (by omega)]
theorem rexpr_ok {e : Tapi_Expr} {t : PT} (he : EH H e t) {f : Fm} {K : Fm → Hp → Prop} (h : ∀ y, FR f (formT t) (namesT t) y → K y H) : C_gnomon_gnomonref3_form_expr f e H K := by
  induction he generalizing f K with
  | @mk e xs ts hs hb hl _ ih =>
    refine L_gnomon_gnomonref3_form_expr _ _ ?_
    have hn : (e.fArgs.n : Int) = (ts.length : Int) := by have := hs.1; omega
    have j1 : ∀ (args : Int) (f' : Fm), f'.fnames = f.fnames → (((f'.fok && nokE e.fKind e.fName) && decide ((ts.length : Int) = args)) && numE e.fKind e.fNum) = (f.fok && formE e.fKind e.fNum e.fName (ts.length : Int)) → T_gnomon_gnomonref3_form_expr_j1 args e f' H K := by
      intro args f' hf heq
      unfold T_gnomon_gnomonref3_form_expr_j1
      refine rname_ok ?_
      refine floop (ts := ts) fun i s next i0 i1 hk hf' => ?_
      unfold T_gnomon_gnomonref3_form_expr_l2
      refine ⟨fun hc => ?_, fun hc => ?_⟩
      · obtain ⟨hc1, hc2⟩ := floop_b.1 hc
        obtain ⟨x, hx, hE⟩ := hs.get i0 hc1
        obtain ⟨t, ht⟩ := some_of (l := ts) (i := i.toNat) (by have := lt_of hx; omega)
        refine ⟨i0, hc1, x, hE, ih _ x t hx ht fun y hy => ?_⟩
        rw [wrap_1 i0 (by simp only [big] at hb; have := lt_of hx; omega)]
        exact hk t ht hc2 y hy
      · have hfin := hf' (by
          by_cases hlt : i < (e.fArgs.n : Int)
          · right
            cases hq : s.fok
            · rfl
            · dsimp only at hc; rw [hq, decide_eq_true hlt] at hc; cases hc
          · left; omega)
        refine h _ (FR.trans (a := formE e.fKind e.fNum e.fName (ts.length : Int)) (b := nameOk (.expr e.fKind e.fNum e.fName ts.length)) (g := ⟨_, _⟩) ⟨?_, fun _ => ?_⟩ hfin)
        · show ((((f'.fok && _) && decide ((e.fArgs.n : Int) = args)) && _)) = _
          rw [hn]; exact heq
        · show (f'.fnames && _) = _
          rw [hf]; rfl
    have j5 : ∀ b : Bool, (b = true ↔ (e.fKind = 6 ∨ e.fKind = 7 ∨ e.fKind = 8 ∨ e.fKind = 9 ∨ e.fKind = 10)) → ¬ (e.fKind = 1 ∨ e.fKind = 2 ∨ e.fKind = 3 ∨ e.fKind = 4 ∨ e.fKind = 5) → T_gnomon_gnomonref3_form_expr_j5 0 b e f H K := by
      intro b hq hno
      unfold T_gnomon_gnomonref3_form_expr_j5
      refine ⟨fun q => j1 2 f rfl (formE_c (hq.1 q) _), fun q => j1 0 _ rfl ?_⟩
      rw [formE_d (fun e' => by have := mt hq.2 (by rw [q]; decide); omega), Bool.and_false]; rfl
    have j4 : ∀ b : Bool, (b = true ↔ (e.fKind = 4 ∨ e.fKind = 5)) → ¬ (e.fKind = 1 ∨ e.fKind = 2 ∨ e.fKind = 3) → T_gnomon_gnomonref3_form_expr_j4 0 e.fKind b e f H K := by
      intro b hq hno
      unfold T_gnomon_gnomonref3_form_expr_j4
      refine ⟨fun q => j1 1 f rfl (formE_b (hq.1 q) _), fun q => ?_⟩
      have hno2 : ¬ (e.fKind = 4 ∨ e.fKind = 5) := fun e' => by rw [hq.2 e'] at q; cases q
      refine ⟨fun e6 => j5 _ ?_ (by omega), fun e6 => ⟨fun e7 => j5 _ ?_ (by omega), fun e7 => ⟨fun e8 => j5 _ ?_ (by omega), fun e8 => ⟨fun e9 => j5 _ ?_ (by omega), fun e9 => j5 _ ?_ (by omega)⟩⟩⟩⟩ <;> (rw [decide_eq_true_eq]; omega)
    have j3 : ∀ b : Bool, (b = true ↔ (e.fKind = 1 ∨ e.fKind = 2 ∨ e.fKind = 3)) → T_gnomon_gnomonref3_form_expr_j3 0 e.fKind b e f H K := by
      intro b hq
      unfold T_gnomon_gnomonref3_form_expr_j3
      refine ⟨fun q => j1 0 f rfl (formE_a (hq.1 q) _), fun q => ?_⟩
      have hno : ¬ (e.fKind = 1 ∨ e.fKind = 2 ∨ e.fKind = 3) := fun e' => by rw [hq.2 e'] at q; cases q
      refine ⟨fun e4 => j4 _ ?_ hno, fun e4 => j4 _ ?_ hno⟩ <;> (rw [decide_eq_true_eq]; omega)
    unfold T_gnomon_gnomonref3_form_expr
    refine ⟨fun e1 => j3 _ ?_, fun e1 => ⟨fun e2 => j3 _ ?_, fun e2 => j3 _ ?_⟩⟩ <;> (rw [decide_eq_true_eq]; omega)
def opC (k op : Int) : Bool := if k = 3 then decide (1 ≤ op) && decide (op ≤ 6) else decide (op = 0)
theorem formC_eq {k op e p e' p' : Int} (hk : (k = 1 ∨ k = 2) ∧ e' = 0 ∧ p' = 0 ∨ k = 3 ∧ e' = 2 ∧ p' = 0 ∨ k = 4 ∧ e' = 0 ∧ p' = 1 ∨ (k = 5 ∨ k = 6) ∧ e' = 0 ∧ p' = 2) (g : Bool) : (((g && opC k op) && decide (e = e')) && decide (p = p')) = (g && formC k op e p) := by
  rw [Bool.and_assoc, Bool.and_assoc]
  congr 1
  rw [Bool.eq_iff_iff]
  unfold opC formC
  rcases hk with ⟨rfl | rfl, rfl, rfl⟩ | ⟨rfl, rfl, rfl⟩ | ⟨rfl, rfl, rfl⟩ | ⟨rfl | rfl, rfl, rfl⟩ <;> by_cases ho : op = 0 <;> simp [ho] <;> omega
theorem formC_no {k op e p : Int} (hk : ¬ (k = 1 ∨ k = 2 ∨ k = 3 ∨ k = 4 ∨ k = 5 ∨ k = 6)) : formC k op e p = false := by
  unfold formC
  rw [if_neg (by omega)]
  by_cases ho : op = 0
  · rw [if_pos ho, if_neg (by omega), if_neg (by omega), if_neg (by omega)]
  · rw [if_neg ho]
theorem rcond_ok {e : Tapi_Cond} {t : PT} (he : CH H e t) {f : Fm} {K : Fm → Hp → Prop} (h : ∀ y, FR f (formT t) (namesT t) y → K y H) : C_gnomon_gnomonref3_form_cond f e H K := by
  induction he generalizing f K with
  | @mk e xs ts ys us hs hb hr hc hcb hcl _ ih =>
    refine L_gnomon_gnomonref3_form_cond _ _ ?_
    have r0 := hr.1
    have hn : (e.fExprs.n : Int) = (ts.length : Int) := by have := hs.1; omega
    have hm : (e.fParts.n : Int) = (us.length : Int) := by have := hc.1; omega
    have j2 : ∀ (e' p' : Int) (b : Bool) (f' : Fm), f'.fnames = f.fnames → (((f'.fok && b) && decide ((ts.length : Int) = e')) && decide ((us.length : Int) = p')) = (f.fok && formC e.fKind e.fOp (ts.length : Int) (us.length : Int)) → T_gnomon_gnomonref3_form_cond_j2 e' p' b e f' H K := by
      intro e' p' b f' hf heq
      unfold T_gnomon_gnomonref3_form_cond_j2
      refine floop (ts := ts) fun i s next i0 i1 hk hf' => ?_
      unfold T_gnomon_gnomonref3_form_cond_l5
      refine ⟨fun hc1 => ?_, fun hc1 => ?_⟩
      · obtain ⟨hc1, hc2⟩ := floop_b.1 hc1
        obtain ⟨x, hx, hE⟩ := hs.get i0 hc1
        obtain ⟨t, ht⟩ := some_of (l := ts) (i := i.toNat) (by have := lt_of hx; omega)
        refine ⟨i0, hc1, x, hE, rexpr_ok (hr.2 _ x t hx ht) fun y hy => ?_⟩
        rw [wrap_1 i0 (by simp only [big] at hb; have := lt_of hx; omega)]
        exact hk t ht hc2 y hy
      · have hfin := hf' (by
          by_cases hlt : i < (e.fExprs.n : Int)
          · right
            cases hq : s.fok
            · rfl
            · dsimp only at hc1; rw [hq, decide_eq_true hlt] at hc1; cases hc1
          · left; omega)
        clear hk hf' next hc1
        dsimp only
        have hfin0 : FR f (formC e.fKind e.fOp (ts.length : Int) (us.length : Int) && formTs ts) (true && namesTs ts) s := by
          refine FR.trans (g := ⟨_, _⟩) ⟨?_, fun _ => ?_⟩ hfin
          · show (((f'.fok && b) && decide ((e.fExprs.n : Int) = e')) && decide ((e.fParts.n : Int) = p')) = _
            rw [hn, hm]; exact heq
          · show f'.fnames = _
            rw [hf, Bool.and_true]
        clear hfin
        unfold T_gnomon_gnomonref3_form_cond_j3
        refine floop (ts := us) fun i2 s2 next i0 i1 hk hf' => ?_
        unfold T_gnomon_gnomonref3_form_cond_l4
        refine ⟨fun hc1 => ?_, fun hc1 => ?_⟩
        · obtain ⟨hc1, hc2⟩ := floop_b.1 hc1
          obtain ⟨x, hx, hE⟩ := hc.get i0 hc1
          obtain ⟨t, ht⟩ := some_of (l := us) (i := i2.toNat) (by have := lt_of hx; omega)
          refine ⟨i0, hc1, x, hE, ih _ x t hx ht fun y hy => ?_⟩
          rw [wrap_1 i0 (by simp only [big] at hcb; have := lt_of hx; omega)]
          exact hk t ht hc2 y hy
        · have hfin := hf' (by
            by_cases hlt : i2 < (e.fParts.n : Int)
            · right
              cases hq : s2.fok
              · rfl
              · dsimp only at hc1; rw [hq, decide_eq_true hlt] at hc1; cases hc1
            · left; omega)
          have := hfin0.trans hfin
          refine h _ ?_
          rw [formT, namesT, formTs_app, namesTs_app, ← Bool.and_assoc]
          exact this
    have j1 : ∀ (e' p' : Int) (f' : Fm), f'.fnames = f.fnames → (((f'.fok && opC e.fKind e.fOp) && decide ((ts.length : Int) = e')) && decide ((us.length : Int) = p')) = (f.fok && formC e.fKind e.fOp (ts.length : Int) (us.length : Int)) → T_gnomon_gnomonref3_form_cond_j1 e' p' e f' H K := by
      intro e' p' f' hf heq
      unfold T_gnomon_gnomonref3_form_cond_j1
      unfold opC at heq
      exact ⟨fun e3 => j2 _ _ _ _ hf (by rw [if_pos e3] at heq; exact heq), fun e3 => j2 _ _ _ _ hf (by rw [if_neg e3] at heq; exact heq)⟩
    have j7 : ∀ b : Bool, (b = true ↔ (e.fKind = 5 ∨ e.fKind = 6)) → ¬ (e.fKind = 1 ∨ e.fKind = 2 ∨ e.fKind = 3 ∨ e.fKind = 4) → T_gnomon_gnomonref3_form_cond_j7 0 0 b e f H K := by
      intro b hq hno
      unfold T_gnomon_gnomonref3_form_cond_j7
      refine ⟨fun q => j1 0 2 f rfl (formC_eq (.inr (.inr (.inr ⟨hq.1 q, rfl, rfl⟩))) _), fun q => j1 0 0 _ rfl ?_⟩
      rw [formC_no (fun e' => by have := mt hq.2 (by rw [q]; decide); omega), Bool.and_false]; rfl
    have j6 : ∀ b : Bool, (b = true ↔ (e.fKind = 1 ∨ e.fKind = 2)) → T_gnomon_gnomonref3_form_cond_j6 0 0 e.fKind b e f H K := by
      intro b hq
      unfold T_gnomon_gnomonref3_form_cond_j6
      refine ⟨fun q => j1 0 0 f rfl (formC_eq (.inl ⟨hq.1 q, rfl, rfl⟩) _), fun q => ?_⟩
      have hno : ¬ (e.fKind = 1 ∨ e.fKind = 2) := fun e' => by rw [hq.2 e'] at q; cases q
      refine ⟨fun e3 => j1 2 0 f rfl (formC_eq (.inr (.inl ⟨e3, rfl, rfl⟩)) _), fun e3 => ⟨fun e4 => j1 0 1 f rfl (formC_eq (.inr (.inr (.inl ⟨e4, rfl, rfl⟩))) _), fun e4 => ⟨fun e5 => j7 _ ?_ (by omega), fun e5 => j7 _ ?_ (by omega)⟩⟩⟩ <;> (rw [decide_eq_true_eq]; omega)
    unfold T_gnomon_gnomonref3_form_cond
    refine ⟨fun e1 => j6 _ ?_, fun e1 => j6 _ ?_⟩ <;> (rw [decide_eq_true_eq]; omega)
theorem rtold_ok {f : Fm} {K : Int → Hp → Prop} (h : K (if f.fok = true then (if f.fnames = true then 0 else 31) else 30) H) : C_gnomon_gnomonref3_form_told f H K := by
  refine L_gnomon_gnomonref3_form_told _ ?_
  unfold T_gnomon_gnomonref3_form_told
  cases h1 : f.fok
  · rw [h1] at h; exact ⟨fun _ => h, fun q => (by cases q)⟩
  · rw [h1] at h
    refine ⟨fun q => (by cases q), fun _ => ?_⟩
    cases h2 : f.fnames
    · rw [h2] at h; exact ⟨fun _ => h, fun q => (by cases q)⟩
    · rw [h2] at h; exact ⟨fun q => (by cases q), fun _ => h⟩
/-- what the document tells of nodes -/
def toldS (ts : List PT) : Int := if (wTs ts 1 w0S).fbad = 0 then (if formTs ts = true then (if namesTs ts = true then 0 else 31) else 30) else (wTs ts 1 w0S).fbad
theorem FR_told {ts : List PT} {y : Fm} (h : FR ⟨true, true⟩ (formTs ts) (namesTs ts) y) (hb : (wTs ts 1 w0S).fbad = 0) : (if y.fok = true then (if y.fnames = true then (0 : Int) else 31) else 30) = toldS ts := by
  unfold toldS
  rw [if_pos hb]
  have h1 : y.fok = formTs ts := by rw [h.1]; rfl
  have h2 : y.fok = true → y.fnames = namesTs ts := fun e => by rw [h.2 e]; rfl
  cases hq : y.fok
  · rw [hq] at h1; rw [← h1]; rfl
  · rw [hq] at h1 h2; rw [← h1, h2 rfl]
theorem wTs_one (t : PT) : wTs [t] 1 w0S = wT t 1 w0S := by rw [wTs, wTs]
theorem FR_one {t : PT} {y : Fm} (h : FR ⟨true, true⟩ (formT t) (namesT t) y) : FR ⟨true, true⟩ (formTs [t]) (namesTs [t]) y := by
  rw [formTs, formTs, namesTs, namesTs, Bool.and_true, Bool.and_true]; exact h
theorem w0_ok : wok w0S := ⟨by decide, by decide⟩
theorem rExpr_ok {e : Tapi_Expr} {t : PT} (he : EH H e t) {K : Int → Hp → Prop} (h : K (toldS [t]) H) : C_gnomon_gnomonref3_Expr e H K := by
  refine L_gnomon_gnomonref3_Expr _ ?_
  unfold T_gnomon_gnomonref3_Expr
  refine walk_expr_ok (s := w0S) he w0_ok (by decide) (by decide) ⟨fun hb => ?_, fun hb => ?_⟩
  · unfold toldS at h
    rw [wTs_one, if_neg hb] at h; exact h
  · refine rexpr_ok he fun y hy => rtold_ok ?_
    rw [FR_told (FR_one hy) (by rw [wTs_one]; exact hb)]; exact h
theorem rCond_ok {e : Tapi_Cond} {t : PT} (he : CH H e t) {K : Int → Hp → Prop} (h : K (toldS [t]) H) : C_gnomon_gnomonref3_Cond e H K := by
  refine L_gnomon_gnomonref3_Cond _ ?_
  unfold T_gnomon_gnomonref3_Cond
  refine walk_cond_ok (s := w0S) he w0_ok (by decide) (by decide) ⟨fun hb => ?_, fun hb => ?_⟩
  · unfold toldS at h
    rw [wTs_one, if_neg hb] at h; exact h
  · refine rcond_ok he fun y hy => rtold_ok ?_
    rw [FR_told (FR_one hy) (by rw [wTs_one]; exact hb)]; exact h
end
/-! ## the program tells the same -/
def fmR (v : V) (a b : Bool) (r : Bool × V) : Prop := r.1 = true → r.2.f = (v.f || !a) ∧ r.2.m = (v.m || !b)
theorem fm_meet (v : V) (l : Lab) (d : Int) : fmR v (formL l) (nameOk l) (vMeet v l d) := by
  unfold vMeet fmR nameOk
  intro h
  split at h
  · cases h
  · rename_i h1
    rw [if_neg h1]
    split at h
    · cases h
    · rename_i h2
      rw [if_neg h2]
      refine ⟨rfl, ?_⟩
      dsimp only
      cases (nameL l).2
      · simp
      · simp
mutual
theorem fm_T : ∀ (t : PT) (d : Int) (v : V), fmR v (formT t) (namesT t) (vT t d v)
  | .mk l cs, d, v => by
    have hm := fm_meet v l d
    rw [vT, formT, namesT]
    by_cases hq : (vMeet v l d).1 = true
    · rw [if_pos hq]
      intro h
      have h1 := hm hq
      have h2 := fm_Ts cs (d + 1) _ h
      rw [h2.1, h2.2, h1.1, h1.2]
      cases v.f <;> cases v.m <;> cases formL l <;> cases nameOk l <;> cases formTs cs <;> cases namesTs cs <;> exact ⟨rfl, rfl⟩
    · rw [if_neg hq]; exact fun h => (hq h).elim
theorem fm_Ts : ∀ (ts : List PT) (d : Int) (v : V), fmR v (formTs ts) (namesTs ts) (vTs ts d v)
  | [], d, v => by
    rw [vTs, formTs, namesTs]
    intro _
    dsimp only
    cases v.f <;> cases v.m <;> exact ⟨rfl, rfl⟩
  | t :: ts, d, v => by
    have hm := fm_T t d v
    rw [vTs, formTs, namesTs]
    by_cases hq : (vT t d v).1 = true
    · rw [if_pos hq]
      intro h
      have h1 := hm hq
      have h2 := fm_Ts ts d _ h
      rw [h2.1, h2.2, h1.1, h1.2]
      cases v.f <;> cases v.m <;> cases formT t <;> cases namesT t <;> cases formTs ts <;> cases namesTs ts <;> exact ⟨rfl, rfl⟩
    · rw [if_neg hq]; exact fun h => (hq h).elim
end
theorem told_eq (ts : List PT) : vEnd (vTs ts 1 v0) = toldS ts := by
  have hs := sim_0 ts
  have hf := fm_Ts ts 1 v0
  unfold toldS vEnd
  generalize vTs ts 1 v0 = r at hs hf ⊢
  generalize wTs ts 1 w0S = s at hs ⊢
  by_cases hq : r.1 = true
  · obtain ⟨h1, h2, _⟩ := hs.1 hq
    obtain ⟨h3, h4⟩ := hf hq
    rw [if_pos hq, h1, h2, h3, h4, if_pos rfl]
    cases formTs ts <;> cases namesTs ts <;> rfl
  · obtain ⟨h1, h2⟩ := hs.2 (Bool.eq_false_iff.2 hq)
    rw [if_neg hq, h1, if_neg (by omega)]
section
variable {H : Hp}
theorem Cond_ok (hT : TabsH H) {e : Tapi_Cond} {t : PT} (he : CH H e t) (hsm : Sm t) {K : Int → Hp → Prop} (h : ∀ H', Hle H H' → K (vEnd (vTs [t] 1 v0)) H') : C_gnomon_tree_Cond e H K := by
  refine L_gnomon_tree_Cond _ ?_
  unfold T_gnomon_tree_Cond
  intro s H1 l1 hS hc
  refine Walked_ok (hT.le l1) hS (ts := [t]) (Rel2.one (CH.le l1 he)) (by simp [big]) (fun u hu => by rw [List.mem_singleton.1 hu]; exact hsm) fun sl H2 l2 hS2 => h H2 (l1.trans l2)
theorem TreeParts_ok (hT : TabsH H) {e : Tapi_Expr} {t : PT} (he : EH H e t) (hs : Sm t) {c : Tapi_Cond} {u : PT} (hc : CH H c u) (hu : Sm u) {K : Bool → Hp → Prop} (h : ∀ H', Hle H H' → K true H') : C_gnomon_gnomonlaw3_TreeParts e c H K := by
  refine L_gnomon_gnomonlaw3_TreeParts _ _ ?_
  unfold T_gnomon_gnomonlaw3_TreeParts
  refine known_ok hT fun H1 l1 => ⟨fun _ => Expr_ok (hT.le l1) (EH.le l1 he) hs fun H2 l2 => ?_, fun q => (q rfl).elim⟩
  have l12 := l1.trans l2
  refine ⟨fun _ => rExpr_ok (EH.le l12 he) ?_, fun q => (q rfl).elim⟩
  rw [told_eq, decide_eq_true rfl]
  refine ⟨fun _ => Cond_ok (hT.le l12) (CH.le l12 hc) hu fun H3 l3 => ?_, fun q => (q rfl).elim⟩
  have l13 := l12.trans l3
  refine ⟨fun _ => rCond_ok (CH.le l13 hc) ?_, fun q => (q rfl).elim⟩
  rw [told_eq, decide_eq_true rfl]
  exact h H3 l13
end
end Go.Proofs.YthldnpmfelniiaaDoor
