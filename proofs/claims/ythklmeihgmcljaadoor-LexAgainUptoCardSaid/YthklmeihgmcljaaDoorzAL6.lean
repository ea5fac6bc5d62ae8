/- Tokens: the program's reader answers what the plain one does; what it answers is its caller's own. By hand off the reading. -/
import Derived.Test.YthklmeihgmcljaaDoorzAL5
import Derived.Test.YthklmeihgmcljaaDoorzAOT
namespace Go.Proofs.YthklmeihgmcljaaDoor
open Go.RowKit
set_option maxRecDepth 100000
set_option maxHeartbeats 1000000
section
variable {s : ByteArray}
theorem a6I {p q : Nat} {a b : Int × Int} (h : Go2 s p a q b) : Od.plcAt s q p a = b := by
  induction h with
  | refl => exact Od.W1 _ _ _ _ (fun x => by omega)
  | @step p q a b hp h ih =>
    have h1 := h.le
    have h2 := q7 s p
    rw [Od.a0j s q p a hp (by omega)]
    have e : Od.nextP a (Utf8.decode s p).1 = stepP a (rn s p) := by
      unfold Od.nextP stepP
      by_cases c : (Utf8.decode s p).1 = 10
      · rw [if_pos c, if_pos (show rn s p = 10 by show ((Utf8.decode s p).1 : Int) = 10; omega)]
      · rw [if_neg c, if_neg (show ¬ rn s p = 10 by show ¬ ((Utf8.decode s p).1 : Int) = 10; omega)]
    rw [e]
    exact ih
theorem a0t {p : Nat} : sk s (sk s p) = sk s p := by
  by_cases c : sk s p < s.size
  · exact G0 (.inr (a5R (Nat.le_refl _) c))
  · exact G0 (.inl c)
theorem a0I {f p : Nat} {a b : Int × Int} {out : List Tk} (h : Go2 s p a (sk s p) b) : tkF s (f + 1) p a out = tkF s (f + 1) (sk s p) b out := by
  rw [tkF, tkF, a0t, a2F h, a0s (Nat.lt_irrefl _)]
end
theorem Inv.a7O {w0 w : World} {ps : Nat → Prop} {H0 H : Hp} {Fs : List Frag} (k : Nat) (I : Inv w0 ps H0 H Fs w) : Inv w0 ps H0 H (Fs.take k ++ [] :: Fs.drop k) w := I.perm (by
  rw [List.flatten_append, List.flatten_cons, List.nil_append, ← List.flatten_append, List.take_append_drop])
theorem Inv.only {w0 w : World} {ps : Nat → Prop} {H0 H : Hp} {Fs : List Frag} (I : Inv w0 ps H0 H Fs w) : Inv w0 ps H0 H [[]] w := by
  have h : ∀ Gs : List Frag, Inv w0 ps H0 H Gs w → Inv w0 ps H0 H [] w := by
    intro Gs
    induction Gs with
    | nil => exact id
    | cons G Gs ih => exact fun J => ih J.drop
  exact (h _ I).perm (by simp)
section
variable {H : Hp} {s : ByteArray}
theorem a4J (hs : s.size ≤ 4194304) {n : Nat} {b : Int × Int} (hg : Go2 s 0 (1, 1) n b) {K : b7 → Hp → Prop} (h : K (plv b) H) : R2 s n H K := by
  intro w I
  refine Calls.mono (Od.a7g s n w (fun v w' => v = Od.placeOf (Od.atP s n) ∧ Od.Ext w w') hs fun w' hw => ⟨rfl, hw⟩) fun e w' hb => ?_
  obtain ⟨v, rfl, rfl, hb⟩ := hb
  refine ⟨H, [], I.of_below hb, plv b, ?_, rfl, h⟩
  rw [show Od.atP s n = b from a6I hg]
  rfl
def readsV (g : Nat) (r : Int) : Value :=
  if classS r = 3 then .func (.func 41) #[.pointer (some ⟨g, 0, none⟩)] #[]
  else if classS r = 4 then .func (.func 42) #[.pointer (some ⟨g, 0, none⟩)] #[]
  else if classS r = 5 then .func (.func 43) #[.pointer (some ⟨g, 0, none⟩)] #[]
  else .func (.func 44) #[] #[]
theorem a4n (g : Nat) (r : Int) : Ct Tryd.prog 21 [.pointer (some ⟨g, 0, none⟩), .int .i32 r] H [] (fun v H' Fo => v = readsV g r ∧ Fo = [] ∧ H = H') noQE := by
  refine Ct.of fun w0 w ps0 H0 R E I hR => a5A ?_
  unfold F21
  refine i7 Tryd.call30 (R7 (r := r) (H := H) (K := fun c H' => c = classS r ∧ H = H') ⟨rfl, rfl⟩) I ?_
  rintro _ _ _ w1 I1 _ _ ⟨c, rfl, rfl, rfl, rfl⟩
  unfold readsV at hR
  refine a7 (m0 _ _ _ _ _ _) ?_
  refine Q2 (fun c => ?_) (fun c => ?_)
  · refine a7 (O2 _ _ _) ?_
    exact hR _ H _ _ I1 ⟨by rw [if_pos c], rfl, rfl⟩
  refine a7 (m0 _ _ _ _ _ _) ?_
  refine Q2 (fun c2 => ?_) (fun c2 => ?_)
  · refine a7 (O2 _ _ _) ?_
    exact hR _ H _ _ I1 ⟨by rw [if_neg c, if_pos c2], rfl, rfl⟩
  refine a7 (m0 _ _ _ _ _ _) ?_
  refine Q2 (fun c3 => ?_) (fun c3 => ?_)
  · refine a7 (O2 _ _ _) ?_
    exact hR _ H _ _ I1 ⟨by rw [if_neg c, if_neg c2, if_pos c3], rfl, rfl⟩
  exact hR _ H _ _ I1 ⟨by rw [if_neg c, if_neg c2, if_neg c3], rfl, rfl⟩
theorem a3J {P : Program} {E : Pan} {w : World} {K : Value → World → Prop} {f : FuncId} {a : Value} (he : ∀ args w, (callFunc f args).run P w = .ok (.enter f args) w) (h : Cv P f [a].toArray w K E) : opK P E (xCall (.func (.func f) #[a] #[]) []) w K := by
  refine T3 (f := f) (args := [a].toArray) ?_ h
  simp only [xCall, Deferred.ofValue, invoke, Sem.run_bind, Sem.run_pure, Result.andThen_ok, he]
  rfl
theorem a6J (hT : TabsH H) (hE : ErrH H) (hs : s.size ≤ big) {p : Nat} {a : Int × Int} {l : List a6} {e : Sl} {F : Frag} (hp : p < s.size) (ha : Pl a p) (hr : RowL 33 5 b9 e l F) {g : Nat} {w0 w : World} {ps : Nat → Prop} {H0 : Hp} {Fr : List Frag} {E : Pan} {K : Value → World → Prop}
    (I : Inv w0 ps H0 H ([bx g 44 (f9 (rd s p a) e), F] ++ Fr) w)
    (h1 : (oneO s p).err = 0 → ∀ (b : Int × Int) (e' : Sl) (F' : Frag) (w' : World), Go2 s p a (oneO s p).stop b → RowL 33 5 b9 e' l F' → Inv w0 ps H0 H ([bx g 44 (f9 (rd s (oneO s p).stop b) e'), F'] ++ Fr) w' → K (.tuple #[.agg (b9 (tokO (oneO s p))).toArray, vi 0]) w')
    (h2 : (oneO s p).err ≠ 0 → ∀ (t : a6) (Fo : List Frag) (w' : World), Inv w0 ps H0 H (Fo ++ Fr) w' → K (.tuple #[.agg (b9 t).toArray, vi (oneO s p).err]) w') :
    opK Tryd.prog E (xCall (readsV g (rn s p)) []) w K := by
  have fin : ∀ (f : FuncId) (o : On), o = oneO s p → (∀ args w, (callFunc f args).run Tryd.prog w = .ok (.enter f args) w) →
      (∀ K : a6 → Int → a8 → List a6 → Hp → Prop, RdK s p a l o K H → Ct Tryd.prog f [.pointer (some ⟨g, 0, none⟩)] H [bx g 44 (f9 (rd s p a) e), F] (fun v H' Fo => ∃ (r0 : a6) (r1 : Int) (y0 : a8) (c : (List a6)) (d : Sl) (e : Frag), v = (Value.tuple #[(Value.agg (b9 r0).toArray), (vi r1)]) ∧ Fo = [bx g 44 (f9 y0 d), e] ∧ RowL 33 5 b9 d c e ∧ K r0 r1 y0 c H') noQE) →
      opK Tryd.prog E (xCall (.func (.func f) #[.pointer (some ⟨g, 0, none⟩)] #[]) []) w K := by
    rintro f o rfl he hc
    refine a3J he (a4v I (hc (fun t x r c H' => H = H' ∧ (((oneO s p).err = 0 ∧ x = 0 ∧ t = tokO (oneO s p) ∧ c = l ∧ ∃ b, Go2 s p a (oneO s p).stop b ∧ r = rd s (oneO s p).stop b) ∨ ((oneO s p).err ≠ 0 ∧ x = (oneO s p).err))) ⟨fun h0 b hb => ⟨rfl, .inl ⟨h0, rfl, rfl, rfl, b, hb, rfl⟩⟩, fun t r hx => ⟨rfl, .inr ⟨hx, rfl⟩⟩⟩) ?_ fun _ _ _ _ _ q => q.elim)
    rintro _ _ _ w' J _ _ ⟨t, x, y, c, d, F', rfl, rfl, hrow, rfl, q⟩
    rcases q with ⟨h0, rfl, rfl, rfl, b, hb, rfl⟩ | ⟨hx, rfl⟩
    · exact h1 h0 b d F' w' hb hrow J
    · exact h2 hx t _ w' J
  unfold readsV
  by_cases c3 : classS (rn s p) = 3
  · rw [if_pos c3]
    exact fin _ (wordO s p) (by unfold oneO; rw [if_pos c3]) (fun args w => Tryd.call41 args w) fun K hK => a7a hT hs (Nat.le_of_lt hp) ha hK g e F hr
  rw [if_neg c3]
  by_cases c4 : classS (rn s p) = 4
  · rw [if_pos c4]
    exact fin _ (numO s p) (by unfold oneO; rw [if_neg c3, if_pos c4]) (fun args w => Tryd.call42 args w) fun K hK => a4Y hT hs hE hp c4 ha hK g e F hr
  rw [if_neg c4]
  by_cases c5 : classS (rn s p) = 5
  · rw [if_pos c5]
    exact fin _ (signO s p) (by unfold oneO; rw [if_neg c3, if_neg c4, if_pos c5]) (fun args w => Tryd.call43 args w) fun K hK => a7b hT hs hp c5 ha hK g e F hr
  rw [if_neg c5]
  have eo : oneO s p = On.bad 20 := by unfold oneO; rw [if_neg c3, if_neg c4, if_neg c5]
  rw [eo] at h2
  refine i7 (Fi := []) Tryd.call44 (P1 (H := H) (K := fun t x H' => x = 20 ∧ H = H') ⟨rfl, rfl⟩) I ?_
  rintro _ _ _ w' J _ _ ⟨t, x, rfl, rfl, rfl, rfl⟩
  exact h2 (by decide) t [bx g 44 (f9 (rd s p a) e), F] w' J
theorem a3K (hT : TabsH H) (hE : ErrH H) (hs4 : s.size ≤ 4194304) : Ct Tryd.prog 9 [.string s] H [] (fun v H' Fo => ∃ (e : Sl) (F : Frag), v = .tuple #[vs e, .agg (m6 (plv (tkS s).2.1)).toArray, vi (tkS s).2.2] ∧ Fo = [F] ∧ H = H' ∧ RowL 33 5 b9 e ((tkS s).1.map tkv) F) noQE := by
  have hs : s.size ≤ big := by simp only [big]; omega
  refine Ct.of fun w0 w ps0 H0 R E I hR => a6W ?_
  unfold F9
  refine B5 I Tryd.zeroValue25 (cs := [(vi 0), (vi 0)]) rfl fun g1 w1 I1 _ => ?_
  have bad : ∀ {Fs : List Frag} {w' : World} (b : Int × Int) (x : Int), tkS s = ([], b, x) → Inv w0 ps0 H0 H (bx g1 25 [vi b.1, vi b.2] :: Fs) w' → R (.tuple #[.slice none 0 0, .agg #[vi b.1, vi b.2], vi x]) w' := by
    intro Fs w' b x hx J
    refine hR _ H [[]] _ (J.only) ⟨⟨none, 0, 0⟩, [], ?_, rfl, rfl, ?_⟩
    · rw [hx]
    · rw [hx]; exact RowL.nil J8 J9
  refine i7 Tryd.call17 (a5W hT (H := H) (s := s) (K := fun r x H' => H = H' ∧ ((65536 < s.size ∧ r = 0 ∧ x = 10) ∨ (¬ 65536 < s.size ∧ ((∃ n : Nat, chkAt s 0 = some n ∧ r = n ∧ x = 11) ∨ (chkAt s 0 = none ∧ r = 0 ∧ x = 0))))) ?_) I1 ?_
  · by_cases c : 65536 < s.size
    · rw [if_pos c]; exact ⟨rfl, .inl ⟨c, rfl, rfl⟩⟩
    · rw [if_neg c]
      cases hc : chkAt s 0 with
      | some n => exact ⟨rfl, .inr ⟨c, .inl ⟨n, rfl, rfl, rfl⟩⟩⟩
      | none => exact ⟨rfl, .inr ⟨c, .inr ⟨rfl, rfl, rfl⟩⟩⟩
  rintro _ _ _ w2 I2 _ _ ⟨r, x, rfl, rfl, rfl, hq⟩
  refine a7 (f6 _ _ (vi r) rfl) ?_
  refine a7 (f6 _ _ (vi x) rfl) ?_
  refine a7 (K9 _ _ _ _ _ _) ?_
  refine W3 (fun hx => ?_) (fun hx => ?_)
  · obtain ⟨n, b, hn, hg, ht⟩ : ∃ (n : Nat) (b : Int × Int), r = n ∧ Go2 s 0 (1, 1) n b ∧ tkS s = ([], b, x) := by
      unfold tkS
      rcases hq with ⟨c, rfl, rfl⟩ | ⟨c, ⟨n, hn, rfl, rfl⟩ | ⟨_, rfl, rfl⟩⟩
      · exact ⟨0, (1, 1), rfl, .refl, by rw [if_pos c]⟩
      · obtain ⟨_, b, hg⟩ := a5S (s := s) (1, 1) (Nat.le_refl _) hn
        exact ⟨n, b, rfl, hg, by rw [if_neg c, hn]; dsimp only; rw [a2F hg]⟩
      · exact absurd rfl hx
    subst hn
    refine i7 Tryd.call18 (a4J hs4 hg (H := H) (K := fun q H' => q = plv b ∧ H = H') ⟨rfl, rfl⟩) I2 ?_
    rintro _ _ _ w3 I3 _ _ ⟨q, rfl, rfl, rfl, rfl⟩
    refine o9 I3 Tryd.sizeOf25 (vs := [vi b.1, vi b.2]) (cs' := [vi b.1, vi b.2]) rfl rfl (nb rfl) rfl rfl fun w4 I4 _ => ?_
    refine E0 Tryd.isAgg25 Tryd.sizeOf25 rfl (I4.at1 (o := 0) (vs := [vi b.1, vi b.2]) (nb rfl) rfl) ?_
    exact bad b x ht I4
  have hx : x = 0 := hx
  subst hx
  obtain ⟨c0, hc0⟩ : ¬ 65536 < s.size ∧ chkAt s 0 = none := by
    rcases hq with ⟨_, _, q⟩ | ⟨c, ⟨_, _, _, q⟩ | ⟨c2, _, _⟩⟩
    · cases q
    · cases q
    · exact ⟨c, c2⟩
  have hT0 : tkS s = tkF s (s.size + 1) 0 (1, 1) [] := by unfold tkS; rw [if_neg c0, hc0]
  have hA : R2 s 0 H (fun q H' => q = plv (1, 1) ∧ H = H') := a4J (n := 0) hs4 .refl ⟨rfl, rfl⟩
  refine i7 Tryd.call18 hA I2 ?_
  rintro _ _ _ w3 I3 _ _ ⟨q, rfl, rfl, rfl, rfl⟩
  refine a7 (a0J _ _ _) ?_
  refine a4w I3 (cs := f9 (rd s 0 (1, 1)) ⟨none, 0, 0⟩) rfl fun g2 w4 I4 _ => ?_
  refine y4 fun j1 hx1 => ?_
  have hB : u7 (rd s 0 (1, 1)) [] H (fun r l H' => l = [] ∧ H = H' ∧ ∃ b, Go2 s 0 (1, 1) (sk s 0) b ∧ r = rd s (sk s 0) b) := a0E hT hs (Nat.zero_le _) Pl0 fun b hb => ⟨rfl, rfl, b, hb, rfl⟩
  refine i7 Tryd.call19 (hB g2 ⟨none, 0, 0⟩ [] (RowL.nil J8 J9)) (I4.a7O 1) ?_
  rintro _ _ _ w5 I5 _ _ ⟨y, l, e, F, rfl, rfl, hrow, rfl, rfl, b, hb, rfl⟩
  refine E1 (J := fun n l w' => l = [] ∧ ∃ (out : List Tk) (p : Nat) (a : Int × Int) (e : Sl) (F : Frag), n = s.size - p ∧ p ≤ s.size ∧ sk s p = p ∧ Pl a p ∧ out.length ≤ 32768 ∧ tkF s (s.size + 1) p a out = tkF s (s.size + 1) 0 (1, 1) [] ∧ RowL 33 5 b9 e (out.map tkv) F ∧ Inv w0 ps0 H0 H ([bx g2 44 (f9 (rd s p a) e), F] ++ [bx g1 25 [vi 0, vi 0]]) w') ⟨_, rfl, [], sk s 0, b, e, F, rfl, (a0O (Nat.zero_le _)).2, a0t, hb.pl Pl0, by decide, (a0I hb).symm, hrow, I5⟩ ?_
  clear hrow I5
  rintro n τ w6 next2 ⟨_, out, p, a, e, F, rfl, hp, hsk, ha, ho, hev, hrow, I6⟩ hn2
  unfold a4B
  refine a7 (p8 _) ?_
  refine a7 u6 ?_
  refine q6 (l1 (v := vi (p : Int)) Tryd.isAgg3 I6 rfl) ?_
  refine a7 (J4 _) ?_
  refine a7 (Z6 _ _ _ _ _ _) ?_
  have hlen : (out.map tkv).length = out.length := List.length_map _
  rw [tkF, hsk, a0s (Nat.lt_irrefl _)] at hev
  refine Q2 (fun c1 => ?_) (fun c1 => ?_)
  · have hp2 : p < s.size := by omega
    rw [if_neg (by omega)] at hev
    refine a7 (p8 _) ?_
    refine a7 K0 ?_
    refine q6 (ldA Tryd.isAgg25 Tryd.sizeOf25 rfl (I6.at1 (o := 2) (vs := [vi a.1, vi a.2]) (nb rfl) rfl)) ?_
    refine B5 I6 Tryd.zeroValue25 (cs := [(vi 0), (vi 0)]) rfl fun g3 w7 I7 _ => ?_
    refine o9 I7 Tryd.sizeOf25 (vs := [vi a.1, vi a.2]) (cs' := [vi a.1, vi a.2]) rfl rfl (nb rfl) rfl rfl fun w8 I8 _ => ?_
    refine a7 (p8 _) ?_
    refine a7 Q0 ?_
    refine q6 (l1 Tryd.isAgg23 (I8.bring 1) rfl) ?_
    refine a7 (a2r Tryd.underlying23 hrow) ?_
    refine a7 (m0 _ _ _ _ _ _) ?_
    rw [hlen]
    refine Q2 (fun c2 => ?_) (fun c2 => ?_)
    · rw [if_pos (by omega)] at hev
      refine S5 I8 fun w9 I9 => ?_
      refine D7 (lW Tryd.isAgg25 Tryd.sizeOf25 rfl I9) ?_
      refine o9 (I9.bring 3) Tryd.sizeOf25 (vs := [vi a.1, vi a.2]) (cs' := [vi a.1, vi a.2]) rfl rfl (nb rfl) rfl rfl fun w10 I10 _ => ?_
      refine E0 Tryd.isAgg25 Tryd.sizeOf25 rfl (I10.at1 (o := 0) (vs := [vi a.1, vi a.2]) (nb rfl) rfl) ?_
      exact bad a 23 (by rw [hT0, ← hev]) I10
    rw [if_neg (by omega)] at hev
    have I8' : Inv w0 ps0 H0 H ([bx g2 44 (f9 (rd s p a) e), F] ++ [bx g3 25 [vi a.1, vi a.2], bx g1 25 [vi 0, vi 0]]) w8 := (I8.bring 2).bring 2
    have hP : i6 (rd s p a) (out.map tkv) H (fun r k H' => r = rn s p ∧ H = H') := G1 hp (by rw [if_pos hp2]; exact ⟨rfl, rfl⟩)
    refine i7 Tryd.call20 (hP g2 e F hrow) I8' ?_
    rintro _ _ _ w9 I9 _ _ ⟨r, k, rfl, rfl, rfl, rfl⟩
    refine a7 (f6 _ _ (Value.int .i32 (rn s p)) rfl) ?_
    refine a7 (f6 _ _ (Value.bool k) rfl) ?_
    refine i7 (Fi := []) Tryd.call21 (a4n g2 (rn s p)) I9 ?_
    rintro _ _ _ w10 I10 _ _ ⟨rfl, rfl, rfl⟩
    refine a6J hT hE hs hp2 ha hrow I10 (fun h0 b e2 F2 w11 hg hrow2 I11 => ?_) (fun h0 t Fo w11 I11 => ?_)
    · rw [if_neg (fun x => x h0)] at hev
      obtain ⟨q1, q2⟩ := R8 hp2 h0
      rw [a2F hg] at hev
      have hb := hg.pl ha
      refine a7 (f6 _ _ (.agg (b9 (tokO (oneO s p))).toArray) rfl) ?_
      refine a7 (f6 _ _ (vi 0) rfl) ?_
      refine B5 I11 Tryd.zeroValue33 (cs := [(vi 0), (Value.string ⟨#[]⟩), (vi 0), (vi 0), (vi 0)]) rfl fun g4 w12 I12 _ => ?_
      refine o9 I12 Tryd.sizeOf33 (vs := b9 (tokO (oneO s p))) (cs' := b9 (tokO (oneO s p))) rfl rfl (nb rfl) rfl rfl fun w13 I13 _ => ?_
      refine a7 (K9 _ _ _ _ _ _) ?_
      refine W3 (fun x => absurd rfl x) (fun _ => ?_)
      refine q6 (lW Tryd.isAgg25 Tryd.sizeOf25 rfl (I13.bring 3)) ?_
      refine a7 Z9 ?_
      refine o9 I13 Tryd.sizeOf25 (vs := [vi a.1, vi a.2]) (cs' := b9 (a6.mk (oneO s p).kind (oneO s p).text (oneO s p).num (plv a))) rfl rfl (nb rfl) rfl rfl fun w14 I14 _ => ?_
      refine S5 I14 fun w15 I15 => ?_
      refine m4 (p8 _) ?_
      refine m4 Q0 ?_
      refine D7 (l1 Tryd.isAgg23 (I15.bring 1) rfl) ?_
      refine D7 (lW Tryd.isAgg33 Tryd.sizeOf33 rfl I15) ?_
      refine a5l (e := 33) (c := b9) (xs := [a6.mk (oneO s p).kind (oneO s p).text (oneO s p).num (plv a)]) I15 (a1S _ _ _ _ _) rfl rfl J8 J9 (nb rfl) fun t2 F3 w16 hrow3 I16 fr => ?_
      refine ⟨fr _ (I15.bring 1).lt1, ?_⟩
      refine a2Y (s := e2) (xs := out.map tkv) (I16.bring 3) hrow2 (hrow3.srcO ((I16.bring 3).bring 1)) (by rw [hlen]; simp only [List.length_singleton]; omega) fun e4 F4 w17 hrow4 I17 _ => ?_
      refine m4 (p8 _) ?_
      refine m4 Q0 ?_
      refine o9 (((I17.bring 1).drop).bring 2) Tryd.sizeOf23 (vs := [vs e4]) (cs' := f9 (rd s (oneO s p).stop b) e4) rfl rfl (nb rfl) rfl rfl fun w18 I18 _ => ?_
      have hB2 : u7 (rd s (oneO s p).stop b) (out.map tkv ++ [a6.mk (oneO s p).kind (oneO s p).text (oneO s p).num (plv a)]) H (fun r l H' => l = out.map tkv ++ [a6.mk (oneO s p).kind (oneO s p).text (oneO s p).num (plv a)] ∧ H = H' ∧ ∃ b', Go2 s (oneO s p).stop b (sk s (oneO s p).stop) b' ∧ r = rd s (sk s (oneO s p).stop) b') := a0E hT hs q2 hb fun b' hb' => ⟨rfl, rfl, b', hb', rfl⟩
      have I18' : Inv w0 ps0 H0 H ([bx g2 44 (f9 (rd s (oneO s p).stop b) e4), F4] ++ [bx g1 25 [vi 0, vi 0]]) w18 := ((I18.bring 2).drop.bring 2).drop
      refine i7 Tryd.call19 (hB2 g2 e4 F4 hrow4) I18' ?_
      rintro _ _ _ w19 I19 _ _ ⟨y, l, e5, F5, rfl, rfl, hrow5, rfl, rfl, b', hb', rfl⟩
      have k := a0O (s := s) q2
      rw [a4W s.size (s.size + 1) _ _ _ (by omega) (by omega) q2, a0I hb'] at hev
      refine hn2 _ _ _ (show s.size - sk s (oneO s p).stop < s.size - p by omega) ⟨rfl, out ++ [⟨(oneO s p).kind, (oneO s p).text, (oneO s p).num, a⟩], _, b', e5, F5, rfl, k.2, a0t, hb'.pl hb, by simp only [List.length_append, List.length_singleton]; omega, hev, ?_, I19⟩
      rw [List.map_append]
      exact hrow5
    · rw [if_pos h0] at hev
      refine a7 (f6 _ _ (.agg (b9 t).toArray) rfl) ?_
      refine a7 (f6 _ _ (vi (oneO s p).err) rfl) ?_
      refine B5 I11 Tryd.zeroValue33 (cs := [(vi 0), (Value.string ⟨#[]⟩), (vi 0), (vi 0), (vi 0)]) rfl fun g4 w12 I12 _ => ?_
      refine o9 I12 Tryd.sizeOf33 (vs := b9 t) (cs' := b9 t) rfl rfl (nb rfl) rfl rfl fun w13 I13 _ => ?_
      refine a7 (K9 _ _ _ _ _ _) ?_
      refine W3 (fun _ => ?_) (fun x => absurd x h0)
      have I13' : Inv w0 ps0 H0 H (bx g3 25 [vi a.1, vi a.2] :: bx g1 25 [vi 0, vi 0] :: (bx g4 33 (b9 t) :: Fo)) w13 := I13.perm (by
        simp only [List.flatten_cons, List.flatten_append, List.flatten_nil, List.append_nil]
        have : ((bx g3 25 [vi a.1, vi a.2] ++ bx g1 25 [vi 0, vi 0]) ++ (bx g4 33 (b9 t) ++ Fo.flatten)).Perm ((bx g4 33 (b9 t) ++ Fo.flatten) ++ (bx g3 25 [vi a.1, vi a.2] ++ bx g1 25 [vi 0, vi 0])) := List.perm_append_comm
        rw [List.append_assoc, List.append_assoc] at this
        exact this)
      refine S5 I13' fun w14 I14 => ?_
      refine D7 (lW Tryd.isAgg25 Tryd.sizeOf25 rfl I14) ?_
      refine o9 (I14.bring 1) Tryd.sizeOf25 (vs := [vi a.1, vi a.2]) (cs' := [vi a.1, vi a.2]) rfl rfl (nb rfl) rfl rfl fun w15 I15 _ => ?_
      refine E0 Tryd.isAgg25 Tryd.sizeOf25 rfl (I15.at1 (o := 0) (vs := [vi a.1, vi a.2]) (nb rfl) rfl) ?_
      exact bad a _ (by rw [hT0, ← hev]) I15
  · refine hx1 _ _ ?_
    rw [if_pos (by omega)] at hev
    unfold a4A
    intro _
    refine S5 I6 fun w7 I7 => ?_
    refine m4 (p8 _) ?_
    refine m4 Q0 ?_
    refine m4 (p8 _) ?_
    refine m4 K0 ?_
    refine m4 (a2Z ) ?_
    refine D7 (l1 Tryd.isAgg23 I7 rfl) ?_
    refine D7 (ldA Tryd.isAgg25 Tryd.sizeOf25 rfl (I7.at1 (o := 2) (vs := [vi a.1, vi a.2]) (nb rfl) rfl)) ?_
    refine m4 (a0K _ _ _) ?_
    refine a5l (e := 33) (c := b9) (xs := [a6.mk 5 ⟨#[]⟩ 0 (plv a)]) I7 (a1S _ _ _ _ _) rfl rfl J8 J9 (nb rfl) fun t2 F3 w8 hrow3 I8 fr => ?_
    refine ⟨fr _ I7.lt1, ?_⟩
    refine a2Y (s := e) (xs := out.map tkv) (I8.bring 2) hrow (hrow3.srcO ((I8.bring 2).bring 1)) (by rw [hlen]; simp only [List.length_singleton]; omega) fun e4 F4 w9 hrow4 I9 _ => ?_
    refine o9 (I9.bring 3) Tryd.sizeOf25 (vs := [vi 0, vi 0]) (cs' := [vi 0, vi 0]) rfl rfl (nb rfl) rfl rfl fun w10 I10 _ => ?_
    refine E0 Tryd.isAgg25 Tryd.sizeOf25 rfl (I10.at1 (o := 0) (vs := [vi 0, vi 0]) (nb rfl) rfl) ?_
    refine hR _ H [F4] _ ?_ ⟨e4, F4, ?_, rfl, rfl, ?_⟩
    · exact (((I10.drop.bring 1).drop).bring 1).drop
    · rw [hT0, ← hev]
    · rw [hT0, ← hev, List.map_append]; exact hrow4
end
end Go.Proofs.YthklmeihgmcljaaDoor
