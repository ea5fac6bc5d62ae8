/- A run, told to the printed formulas; small programs that are well. -/
import Derived.Test.YtnhkdkcgdcgmdaaDoorzZNe
namespace Go.Proofs.YtnhkdkcgdcgmdaaDoor
open Go.RowKit
set_option maxRecDepth 100000
set_option maxHeartbeats 4000000
def OutH (H : Hp) (o : R2) (c : Oc) : Prop := o.a4a = c.st ∧ o.b7O = c.wr ∧ o.a5B = c.steps ∧ SlH H 3 T6 o.b0R c.events ∧ SlH H 1 ci o.a2o c.vars ∧ SlHH H 1 ci o.b0S c.arrs
theorem OutH.le {H H' : Hp} {o : R2} {c : Oc} (h : OutH H o c) (l : Hle H H') : OutH H' o c := by
  obtain ⟨h1, h2, h3, h4, h5, h6⟩ := h
  exact ⟨h1, h2, h3, h4.le l, h5.le l, h6.le l⟩
section
variable {H : Hp}
theorem d3X (hT : TabsH H) {p : C4} {q : PP} (hp : PH H p q) (hsm : q.Sm) {sc : Sl} {scr : List Int} (hsc : SlH H 1 ci sc scr) (hcap : sc.n ≤ sc.c) (hin : ∀ x ∈ scr, o0 x) {k : Int} {K : R2 → Int → Hp → Prop}
    (h1 : errR q scr k ≠ 0 → ∀ H', Hle H H' → K oz (errR q scr k) H') (h0 : errR q scr k = 0 → ∀ o H', Hle H H' → OutH H' o (runQ q scr k.toNat) → K o 0 H') : a8H p sc k H K := by
  intro w I
  refine Cv.mono (g0l hT hp hsm hsc hcap hin k w I) (fun v w' q1 => ?_) fun c w' q1 => ?_
  · obtain ⟨H1, Fo, J, o, rfl, he, hz⟩ := q1
    by_cases c : errR q scr k = 0
    · obtain ⟨a1, a2, a3, Fe, Fv, Fr, rfl, b1, b2, b3⟩ := hz c
      obtain ⟨H2, J2, l2, s2⟩ := J.freezeL b1 (by decide)
      obtain ⟨H3, J3, l3, s3⟩ := J2.freezeL b2 (by decide)
      obtain ⟨H4, J4, l4, s4, _⟩ := J3.freezeLL b3 (by decide)
      rw [c]
      exact ⟨H4, [], J4, o, 0, rfl, rfl, h0 c o H4 J4.le ⟨a1, a2, a3, s2.le (l3.trans l4), s3.le l4, s4⟩⟩
    · obtain ⟨rfl, rfl⟩ := he c
      exact ⟨H1, [], J, oz, _, rfl, rfl, h1 c H1 J.le⟩
  · obtain ⟨_, _, _, q2⟩ := q1
    exact q2.elim
end
def Fine (n : Nat) (h : Int) (t : PT) : Prop := cT t ≤ n ∧ (∀ d, d + h ≤ 65 → dpT 64 t d) ∧ formT t = true ∧ namesT t = true ∧ Sm t
theorem b4S {n : Nat} {h : Int} : ∀ {cs : List PT}, (∀ t ∈ cs, Fine n h t) → cTs cs ≤ cs.length * n ∧ (∀ d, d + h ≤ 65 → dpTs 64 cs d) ∧ formTs cs = true ∧ namesTs cs = true
  | [], _ => ⟨by rw [cTs]; exact Nat.zero_le _, fun d _ => by rw [dpTs]; trivial, rfl, rfl⟩
  | t :: cs, hc => by
    obtain ⟨a1, a2, a3, a4, _⟩ := hc t List.mem_cons_self
    obtain ⟨b1, b2, b3, b4⟩ := b4S (cs := cs) fun u hu => hc u (List.mem_cons_of_mem _ hu)
    refine ⟨?_, fun d hd => ?_, ?_, ?_⟩
    · rw [cTs, List.length_cons, Nat.add_mul]; omega
    · rw [dpTs]; exact ⟨a2 d hd, b2 d hd⟩
    · rw [formTs, a3, b3]; rfl
    · rw [namesTs, a4, b4]; rfl
theorem a0N {n : Nat} {h : Int} {l : Lab} {cs : List PT} (hh : 0 ≤ h) (hc : ∀ t ∈ cs, Fine n h t) (h1 : formL l = true) (h2 : nameOk l = true) (h3 : smL l) : Fine (1 + cs.length * n) (h + 1) (.mk l cs) := by
  obtain ⟨b1, b2, b3, b4⟩ := b4S hc
  refine ⟨by rw [cT]; omega, fun d hd => ?_, ?_, ?_, .mk h3 fun t ht => (hc t ht).2.2.2.2⟩
  · rw [dpT]; exact ⟨by omega, b2 _ (by omega)⟩
  · rw [formT, h1, b3]; rfl
  · rw [namesT, h2, b4]; rfl
theorem Fine.up {n n' : Nat} {h h' : Int} {t : PT} (f : Fine n h t) (hn : n ≤ n') (hh : h ≤ h') : Fine n' h' t := by
  obtain ⟨a1, a2, a3⟩ := f
  exact ⟨by omega, fun d hd => a2 d (by omega), a3⟩
theorem b3c : (oS : ByteArray).size ≤ sml := by decide
theorem a3Z {v : Int} (h : Nn v) : Fine 2 2 (plainT v) := by
  obtain ⟨h1, h2⟩ := h
  unfold plainT
  by_cases hv : v < 0
  · rw [if_pos hv]
    have hw : IntKind.wrap .i64 (0 - v) = -v := by rw [IntKind.wrap_i64]; unfold o0 at h1; omega
    rw [hw]
    have k1 : Fine 1 1 (eN 1 (-v) oS []) := a0N (n := 0) (h := 0) (l := .expr 1 (-v) oS 0) (cs := []) (Int.le_refl 0) (fun t ht => by cases ht) (by show formE 1 (-v) oS 0 = true; unfold formE; simp; omega) rfl ⟨b3c, by unfold o0 at h1 ⊢; show -9223372036854775808 ≤ -v ∧ -v ≤ 9223372036854775807; omega⟩
    exact a0N (n := 1) (h := 1) (l := .expr 5 0 oS 1) (cs := [eN 1 (-v) oS []]) (by decide) (fun t ht => by rw [List.mem_singleton.1 ht]; exact k1) (by decide) rfl ⟨b3c, z64⟩
  · rw [if_neg hv]
    exact (a0N (n := 0) (h := 0) (l := .expr 1 v oS 0) (cs := []) (Int.le_refl 0) (fun t ht => by cases ht) (by show formE 1 v oS 0 = true; unfold formE; simp; omega) rfl ⟨b3c, h1⟩).up (by decide) (by decide)
theorem c0U {n : Nat} {h : Int} {a : PT} (ha : Fine n h a) : ∀ t ∈ [a], Fine n h t := fun t ht => by rw [List.mem_singleton.1 ht]; exact ha
theorem b5P {n : Nat} {h : Int} {a b : PT} (ha : Fine n h a) (hb : Fine n h b) : ∀ t ∈ [a, b], Fine n h t := fun t ht => by
  rcases List.mem_cons.1 ht with e | ht
  · rw [e]; exact ha
  · rw [List.mem_singleton.1 ht]; exact hb
theorem b9t (a b : PT) : uTs [a, b] = uT a ++ uT b := by rw [uTs, uTs, uTs, List.append_nil]
theorem c2k (a : PT) : uTs [a] = uT a := by rw [uTs, uTs, List.append_nil]
theorem b1z (v : Int) : uT (plainT v) = [] := by
  unfold plainT eN
  split
  · rw [uT, c2k, uT, uTs]; rfl
  · rw [uT, uTs]; rfl
theorem c1u {q : PP} {n : Nat} {h : Int} (hd : ∀ d ∈ q.decls, nameS d.g7 = true ∧ d.g7.size ≤ sml ∧ 0 ≤ d.E0 ∧ d.E0 ≤ 1024) (hb : ∀ t ∈ q.body, Fine n h t) (hn : q.decls.length + q.body.length * n ≤ 4096) (h0 : 0 ≤ h) (h1 : h ≤ 64) (hok : DeclOk q.decls) (hu : ∀ u ∈ uTs q.body, kOf q.decls u.g7 = asU u) : (wellS q).2 = 0 ∧ q.Sm := by
  obtain ⟨b1, b2, b3, b4⟩ := b4S hb
  have hds : ∀ ds : List m3, (∀ d ∈ ds, nameS d.g7 = true ∧ d.g7.size ≤ sml ∧ 0 ≤ d.E0 ∧ d.E0 ≤ 1024) → cTs (ds.map dT) = ds.length ∧ dpTs 64 (ds.map dT) 1 ∧ formTs (ds.map dT) = true ∧ namesTs (ds.map dT) = true ∧ ∀ t ∈ ds.map dT, Sm t := by
    intro ds
    induction ds with
    | nil => exact fun _ => ⟨rfl, by rw [List.map_nil, dpTs]; trivial, rfl, rfl, fun t ht => by cases ht⟩
    | cons d ds ih =>
      intro hh
      obtain ⟨a1, a2, a3, a4, a5⟩ := ih fun d hd => hh d (List.mem_cons_of_mem _ hd)
      obtain ⟨c1, c2, c3, c4⟩ := hh d List.mem_cons_self
      rw [List.map_cons]
      refine ⟨?_, ?_, ?_, ?_, fun t ht => ?_⟩
      · rw [cTs, a1, dT, cT, cTs, List.length_cons]; omega
      · rw [dpTs, dT, dpT, dpTs]; exact ⟨⟨by decide, trivial⟩, a2⟩
      · rw [formTs, a3, dT, formT, formTs]
        show ((decide (0 ≤ d.E0) && decide (d.E0 ≤ 2147483647)) && true && true) = true
        simp; omega
      · rw [namesTs, a4, dT, namesT, namesTs]
        show (nameS d.g7 && true && true) = true
        rw [c1]; rfl
      · rcases List.mem_cons.1 ht with e | ht
        · rw [e]; exact .mk ⟨c2, z64⟩ fun t ht => by cases ht
        · exact a5 t ht
  obtain ⟨a1, a2, a3, a4, a5⟩ := hds _ hd
  refine ⟨(b3b q).2 ⟨(c4Q _).2 ⟨?_, ?_, ?_, ?_⟩, hok, hu⟩, fun t ht => ?_⟩
  · unfold PP.nodes; rw [b5z, a1]; omega
  · unfold PP.nodes; rw [c4P]; exact ⟨a2, b2 1 (by omega)⟩
  · unfold PP.nodes; rw [b2H, a3, b3]; rfl
  · unfold PP.nodes; rw [b6l, a4, b4]; rfl
  · unfold PP.nodes at ht
    rcases List.mem_append.1 ht with ht | ht
    · exact a5 t ht
    · exact (hb t ht).2.2.2.2
theorem d0X : xS.size ≤ sml := by decide
theorem e0a {q : PP} {scr : List Int} {k : Int} (h : (wellS q).2 = 0) (h1 : 0 ≤ k) (h2 : k ≤ 65536) (h3 : scr.length ≤ 65536) : errR q scr k = 0 := by
  unfold errR
  rw [if_neg (fun e => e h), if_neg]
  omega
end Go.Proofs.YtnhkdkcgdcgmdaaDoor
namespace Go.Proofs.YtnhkdkcgdcgmdaaDoor
open Go.RowKit
set_option maxRecDepth 100000
set_option maxHeartbeats 4000000
section
variable {H : Hp}
theorem a7i {v : Int} {K : i4 → Hp → Prop} (h : ∀ y H', Hle H H' → EH H' y (plainT v) → K y H') : a3z v H K := by
  refine a7w _ ?_
  unfold U4
  refine ⟨fun hv s H1 l1 hS _ => h _ H1 l1 ?_, fun hv => h _ H (Hle.refl _) ?_⟩
  · unfold plainT; rw [if_pos hv]
    exact EH.node hS (by simp [big]) (s7.one (EH.leaf _ _ _ _))
  · unfold plainT; rw [if_neg hv]
    exact EH.leaf _ _ _ _
theorem d8R {s : ByteArray} {K : i4 → Hp → Prop} (h : ∀ y, EH H y (eN 2 0 s []) → K y H) : a3O s H K := by
  refine a9w _ ?_
  unfold X3
  exact h _ (EH.leaf _ _ _ _)
theorem g0m {k : Int} {a b : i4} {t u : PT} (ha : EH H a t) (hb : EH H b u) {K : i4 → Hp → Prop} (h : ∀ y H', Hle H H' → EH H' y (eN k 0 oS [t, u]) → K y H') : a4E k a b H K := by
  refine a9S _ _ _ ?_
  unfold Z3
  intro s H1 l1 hS _
  exact h _ H1 l1 (EH.node hS (by simp [big]) ((s7.one (ha.le l1)).app (s7.one (hb.le l1))))
theorem SH.give {s : ByteArray} {sl : Sl} {a : i4} {t : PT} (hS : SlH H 4 d5 sl [a]) (ha : EH H a t) : SH H ⟨1, s, sl, ⟨none, 0, 0⟩, ⟨none, 0, 0⟩, ⟨none, 0, 0⟩⟩ (sN 1 s [t] [] [] []) := SH.node hS (by simp [big]) (s7.one ha) (SlH.nil _ _ _) (Nat.zero_le _) s7.nil (SlH.nil _ _ _) (Nat.zero_le _) s7.nil (SlH.nil _ _ _) (Nat.zero_le _) s7.nil
theorem e6k {s : ByteArray} {a : i4} {t : PT} (ha : EH H a t) {K : p6 → Hp → Prop} (h : ∀ y H', Hle H H' → SH H' y (sN 1 s [t] [] [] []) → K y H') : a3P s a H K := by
  refine a9z _ _ ?_
  unfold X4
  intro sl H1 l1 hS _
  exact h _ H1 l1 (SH.give hS (ha.le l1))
theorem d3Y {op : Int} {a b : i4} {t u : PT} (ha : EH H a t) (hb : EH H b u) {K : o8 → Hp → Prop} (h : ∀ y H', Hle H H' → CH H' y (cN 3 op [t, u] []) → K y H') : a4D op a b H K := by
  refine a9R _ _ _ ?_
  unfold Z2
  intro s H1 l1 hS _
  exact h _ H1 l1 (CH.node hS (by simp [big]) ((s7.one (ha.le l1)).app (s7.one (hb.le l1))) (SlH.nil _ _ _) (Nat.zero_le _) s7.nil)
theorem PH.one {sd sb : Sl} {q : PP} {xs : List p6} (hd : SlH H 2 m7 sd q.decls) (hdl : q.decls.length ≤ 4) (hb : SlH H 6 i5 sb xs) (hbl : xs.length ≤ 4) (hr : s7 (SH H) xs q.body) : PH H ⟨sd, sb⟩ q := ⟨hd, by simp only [big]; omega, xs, hb, by simp only [big]; omega, hr⟩
theorem c1v : SlH H 1 ci ⟨none, 0, 0⟩ ([] : List Int) := SlH.nil _ _ _
theorem d3Z : Fine 1 1 (eN 2 0 xS []) := a0N (n := 0) (h := 0) (l := .expr 2 0 xS 0) (cs := []) (Int.le_refl 0) (fun t ht => by cases ht) (by decide) (by show (if (true || false) = true then nameS xS else true) = true; exact b8w) ⟨d0X, z64⟩
theorem c6r {k : Int} {a b : PT} {n : Nat} {h : Int} (hk : 6 ≤ k ∧ k ≤ 10) (h0 : 0 ≤ h) (ha : Fine n h a) (hb : Fine n h b) : Fine (1 + 2 * n) (h + 1) (eN k 0 oS [a, b]) :=
  a0N (l := .expr k 0 oS 2) h0 (b5P ha hb) (by
    show formE k 0 oS 2 = true
    unfold formE
    have h1 : k ≠ 1 := by omega
    have h2 : k ≠ 2 := by omega
    have h3 : k ≠ 3 := by omega
    have h4 : k ≠ 4 := by omega
    have h5 : k ≠ 5 := by omega
    simp [h1, h2, h3, h4, h5]
    omega) (by
    show (if (decide (k = 2) || decide (k = 4)) = true then nameS oS else true) = true
    rw [if_neg]
    simp
    omega) ⟨b3c, z64⟩
theorem b0k {a : PT} {n : Nat} {h : Int} (h0 : 0 ≤ h) (ha : Fine n h a) : Fine (1 + 1 * n) (h + 1) (sN 1 xS [a] [] [] []) :=
  a0N (l := .stmt 1 xS 1 0 0 0) h0 (c0U ha) (by decide) (by show (if (true || false) = true then nameS xS else true) = true; exact b8w) ⟨d0X, z64⟩
def c0V : PP := ⟨[⟨xS, 0⟩], [sN 1 xS [eN 1 1 oS []] [] [] [], sN 1 xS [eN 6 0 oS [eN 2 0 xS [], eN 1 2 oS []]] [] [] []]⟩
theorem g0n : DeclOk [⟨xS, 0⟩] := (b7F _).1 rfl
theorem g6H : plainT 1 = eN 1 1 oS [] := rfl
theorem g6I : plainT 2 = eN 1 2 oS [] := rfl
theorem c1w : (wellS c0V).2 = 0 ∧ c0V.Sm := by
  refine c1u (n := 6) (h := 4) (fun d hd => ?_) (fun t ht => ?_) (by decide) (by decide) (by decide) g0n (fun u hu => ?_)
  · rw [List.mem_singleton.1 hd]; exact ⟨b8w, d0X, by decide, by decide⟩
  · rcases List.mem_cons.1 ht with e | ht
    · rw [e, ← g6H]; exact (b0k (by decide) (a3Z n1)).up (by decide) (by decide)
    · rw [List.mem_singleton.1 ht, ← g6I]; exact (b0k (by decide) (c6r (by decide) (by decide) (d3Z.up (by decide) (by decide)) (a3Z n2))).up (by decide) (by decide)
  · have : uTs c0V.body = [⟨xS, false⟩, ⟨xS, false⟩, ⟨xS, false⟩] := by kernel_rfl
    rw [this] at hu
    have hk : kOf c0V.decls xS = 1 := by kernel_rfl
    simp only [List.mem_cons, List.not_mem_nil, or_false, or_self] at hu
    rw [hu]; exact hk
theorem d8S : runQ c0V [] 9 = ⟨2, 0, 2, [], [3], []⟩ := by kernel_rfl
theorem d4a (hT : TabsH H) {K : Bool → Hp → Prop} (h : ∀ H', Hle H H' → K true H') : a3L H K := by
  refine a7Q ?_
  unfold V3
  intro s1 H1 l1 h1 _ s2 H2 l2 h2 _ s3 H3 l3 h3 _ s4 H4 l4 h4 _ s5 H5 l5 h5 _
  have l45 := l4.trans l5
  have l35 := l3.trans l45
  have l25 := l2.trans l35
  have e1 : EH H5 ⟨6, 0, oS, s1⟩ (eN 6 0 oS [eN 2 0 xS [], eN 1 2 oS []]) := EH.node (h1.le l25) (by simp [big]) ((s7.one (EH.leaf _ _ _ _)).app (s7.one (EH.leaf _ _ _ _)))
  have hp : PH H5 ⟨s4, s5⟩ c0V := PH.one (h4.le l5) (by decide) h5 (by simp) ((s7.one (SH.give (h2.le l35) (EH.leaf _ _ _ _))).app (s7.one (SH.give (h3.le l45) e1)))
  refine d3X (hT.le (l1.trans l25)) hp c1w.2 c1v (Nat.le_refl _) (fun x hx => by cases hx) (k := 9) (fun hne => (hne (e0a c1w.1 (by decide) (by decide) (Nat.zero_le _))).elim) fun _ o H6 l6 ho => ?_
  rw [show (9 : Int).toNat = 9 from rfl, d8S] at ho
  obtain ⟨q1, q2, q3, q4, q5, q6⟩ := ho
  have hn := q5.1
  have hx := q5.2 0 3 rfl
  have hn' : ((o.a2o.n : Nat) : Int) = 1 := by rw [hn]; rfl
  refine ⟨3, fun _ => ⟨Int.le_refl _, by rw [hn']; decide, hx⟩, ?_⟩
  rw [q1, q3, hn']
  exact h H6 ((l1.trans l25).trans l6)
end
end Go.Proofs.YtnhkdkcgdcgmdaaDoor
namespace Go.Proofs.YtnhkdkcgdcgmdaaDoor
open Go.RowKit
set_option maxRecDepth 100000
set_option maxHeartbeats 4000000
theorem g3R (k n : Int) (s : ByteArray) (cs : List PT) (h2 : k ≠ 2) (h4 : k ≠ 4) : uT (eN k n s cs) = uTs cs := by
  unfold eN; rw [uT]
  show (if (decide (k = 2) || decide (k = 4)) = true then [(⟨s, decide (k = 4)⟩ : Us)] else []) ++ uTs cs = uTs cs
  rw [if_neg (by simp [h2, h4]), List.nil_append]
theorem c7F (s : ByteArray) (e : PT) : uT (sN 1 s [e] [] [] []) = ⟨s, false⟩ :: uT e := by
  unfold sN; rw [uT]
  show [⟨s, false⟩] ++ uTs [e] = _
  rw [c2k]; rfl
theorem g6J (s : ByteArray) : uT (eN 2 0 s []) = [⟨s, false⟩] := by unfold eN; rw [uT, uTs]; rfl
theorem kx : kOf [⟨xS, 0⟩] xS = 1 := by kernel_rfl
theorem g3S {l : List Us} (h : ∀ u ∈ l, u = ⟨xS, false⟩) : ∀ u ∈ l, kOf [⟨xS, 0⟩] u.g7 = asU u := fun u hu => by rw [h u hu]; exact kx
theorem g6K : ∀ d ∈ ([⟨xS, 0⟩] : List m3), nameS d.g7 = true ∧ d.g7.size ≤ sml ∧ 0 ≤ d.E0 ∧ d.E0 ≤ 1024 := fun d hd => by
  rw [List.mem_singleton.1 hd]; exact ⟨b8w, d0X, by decide, by decide⟩
section
variable {H : Hp}
end
end Go.Proofs.YtnhkdkcgdcgmdaaDoor
