/- A run, told to the printed formulas; small programs that are well. -/
import Derived.Test.YtnhkdkcgdcgmdaaDoorzLNe
namespace Go.Proofs.YtnhkdkcgdcgmdaaDoor
open Go.RowKit
set_option maxRecDepth 100000
set_option maxHeartbeats 4000000
def OutH (H : Hp) (o : N3) (c : Oc) : Prop := o.a0Z = c.st ∧ o.c1H = c.wr ∧ o.a4o = c.steps ∧ SlH H 3 S3 o.b0u c.events ∧ SlH H 1 ci o.W7 c.vars ∧ SlHH H 1 ci o.b0v c.arrs
theorem OutH.le {H H' : Hp} {o : N3} {c : Oc} (h : OutH H o c) (l : Hle H H') : OutH H' o c := by
  obtain ⟨h1, h2, h3, h4, h5, h6⟩ := h
  exact ⟨h1, h2, h3, h4.le l, h5.le l, h6.le l⟩
section
variable {H : Hp}
theorem d2I (hT : TabsH H) {p : B0} {q : PP} (hp : PH H p q) (hsm : q.Sm) {sc : Sl} {scr : List Int} (hsc : SlH H 1 ci sc scr) (hcap : sc.n ≤ sc.c) (hin : ∀ x ∈ scr, m3 x) {k : Int} {K : N3 → Int → Hp → Prop}
    (h1 : errR q scr k ≠ 0 → ∀ H', Hle H H' → K oz (errR q scr k) H') (h0 : errR q scr k = 0 → ∀ o H', Hle H H' → OutH H' o (runQ q scr k.toNat) → K o 0 H') : a4I p sc k H K := by
  intro w I
  refine Cv.mono (f8g hT hp hsm hsc hcap hin k w I) (fun v w' q1 => ?_) fun c w' q1 => ?_
  · obtain ⟨H1, Fo, J, o, rfl, he, hz⟩ := q1
    by_cases c : errR q scr k = 0
    · obtain ⟨a1, a2, a3, Fe, Fv, Fr, rfl, b1, b2, b3⟩ := hz c
      obtain ⟨H2, J2, l2, s2⟩ := J.freezeL b1 (by decide)
      obtain ⟨H3, J3, l3, s3⟩ := J2.freezeL b2 (by decide)
      obtain ⟨H4, J4, l4, s4, _⟩ := J3.freezeLL b3 (by decide)
      rw [c]
      exact ⟨H4, [], J4, o, 0, rfl, rfl, h0 c o H4 J4.le ⟨a1, a2, a3, s2.le (l3.trans l4), s3.le l4, s4⟩⟩
    · obtain ⟨rfl, rfl⟩ := he c
      exact ⟨H1, [], J, oz, _, rfl, rfl, h1 c H1 J.le⟩
  · obtain ⟨_, _, _, q2⟩ := q1
    exact q2.elim
end
def Fine (n : Nat) (h : Int) (t : PT) : Prop := cT t ≤ n ∧ (∀ d, d + h ≤ 65 → dpT 64 t d) ∧ formT t = true ∧ namesT t = true ∧ Sm t
theorem b4s {n : Nat} {h : Int} : ∀ {cs : List PT}, (∀ t ∈ cs, Fine n h t) → cTs cs ≤ cs.length * n ∧ (∀ d, d + h ≤ 65 → dpTs 64 cs d) ∧ formTs cs = true ∧ namesTs cs = true
  | [], _ => ⟨by rw [cTs]; exact Nat.zero_le _, fun d _ => by rw [dpTs]; trivial, rfl, rfl⟩
  | t :: cs, hc => by
    obtain ⟨a1, a2, a3, a4, _⟩ := hc t List.mem_cons_self
    obtain ⟨b1, b2, b3, b4⟩ := b4s (cs := cs) fun u hu => hc u (List.mem_cons_of_mem _ hu)
    refine ⟨?_, fun d hd => ?_, ?_, ?_⟩
    · rw [cTs, List.length_cons, Nat.add_mul]; omega
    · rw [dpTs]; exact ⟨a2 d hd, b2 d hd⟩
    · rw [formTs, a3, b3]; rfl
    · rw [namesTs, a4, b4]; rfl
theorem a2t {n : Nat} {h : Int} {l : Lab} {cs : List PT} (hh : 0 ≤ h) (hc : ∀ t ∈ cs, Fine n h t) (h1 : formL l = true) (h2 : nameOk l = true) (h3 : smL l) : Fine (1 + cs.length * n) (h + 1) (.mk l cs) := by
  obtain ⟨b1, b2, b3, b4⟩ := b4s hc
  refine ⟨by rw [cT]; omega, fun d hd => ?_, ?_, ?_, .mk h3 fun t ht => (hc t ht).2.2.2.2⟩
  · rw [dpT]; exact ⟨by omega, b2 _ (by omega)⟩
  · rw [formT, h1, b3]; rfl
  · rw [namesT, h2, b4]; rfl
theorem Fine.up {n n' : Nat} {h h' : Int} {t : PT} (f : Fine n h t) (hn : n ≤ n') (hh : h ≤ h') : Fine n' h' t := by
  obtain ⟨a1, a2, a3⟩ := f
  exact ⟨by omega, fun d hd => a2 d (by omega), a3⟩
theorem c0o : (oS : ByteArray).size ≤ sml := by decide
theorem b2A {v : Int} (h : Nn v) : Fine 2 2 (plainT v) := by
  obtain ⟨h1, h2⟩ := h
  unfold plainT
  by_cases hv : v < 0
  · rw [if_pos hv]
    have hw : IntKind.wrap .i64 (0 - v) = -v := by rw [IntKind.wrap_i64]; unfold m3 at h1; omega
    rw [hw]
    have k1 : Fine 1 1 (eN 1 (-v) oS []) := a2t (n := 0) (h := 0) (l := .expr 1 (-v) oS 0) (cs := []) (Int.le_refl 0) (fun t ht => by cases ht) (by show formE 1 (-v) oS 0 = true; unfold formE; simp; omega) rfl ⟨c0o, by unfold m3 at h1 ⊢; show -9223372036854775808 ≤ -v ∧ -v ≤ 9223372036854775807; omega⟩
    exact a2t (n := 1) (h := 1) (l := .expr 5 0 oS 1) (cs := [eN 1 (-v) oS []]) (by decide) (fun t ht => by rw [List.mem_singleton.1 ht]; exact k1) (by decide) rfl ⟨c0o, z64⟩
  · rw [if_neg hv]
    exact (a2t (n := 0) (h := 0) (l := .expr 1 v oS 0) (cs := []) (Int.le_refl 0) (fun t ht => by cases ht) (by show formE 1 v oS 0 = true; unfold formE; simp; omega) rfl ⟨c0o, h1⟩).up (by decide) (by decide)
theorem c6D {n : Nat} {h : Int} {a : PT} (ha : Fine n h a) : ∀ t ∈ [a], Fine n h t := fun t ht => by rw [List.mem_singleton.1 ht]; exact ha
theorem c0p {n : Nat} {h : Int} {a b : PT} (ha : Fine n h a) (hb : Fine n h b) : ∀ t ∈ [a, b], Fine n h t := fun t ht => by
  rcases List.mem_cons.1 ht with e | ht
  · rw [e]; exact ha
  · rw [List.mem_singleton.1 ht]; exact hb
theorem c9D (a b : PT) : uTs [a, b] = uT a ++ uT b := by rw [uTs, uTs, uTs, List.append_nil]
theorem c9E (a : PT) : uTs [a] = uT a := by rw [uTs, uTs, List.append_nil]
theorem d2J (v : Int) : uT (plainT v) = [] := by
  unfold plainT eN
  split
  · rw [uT, c9E, uT, uTs]; rfl
  · rw [uT, uTs]; rfl
theorem c0L {q : PP} {n : Nat} {h : Int} (hd : ∀ d ∈ q.decls, nameS d.d6 = true ∧ d.d6.size ≤ sml ∧ 0 ≤ d.D3 ∧ d.D3 ≤ 1024) (hb : ∀ t ∈ q.body, Fine n h t) (hn : q.decls.length + q.body.length * n ≤ 4096) (h0 : 0 ≤ h) (h1 : h ≤ 64) (hok : DeclOk q.decls) (hu : ∀ u ∈ uTs q.body, kOf q.decls u.d6 = asU u) : (wellS q).2 = 0 ∧ q.Sm := by
  obtain ⟨b1, b2, b3, b4⟩ := b4s hb
  have hds : ∀ ds : List j7, (∀ d ∈ ds, nameS d.d6 = true ∧ d.d6.size ≤ sml ∧ 0 ≤ d.D3 ∧ d.D3 ≤ 1024) → cTs (ds.map dT) = ds.length ∧ dpTs 64 (ds.map dT) 1 ∧ formTs (ds.map dT) = true ∧ namesTs (ds.map dT) = true ∧ ∀ t ∈ ds.map dT, Sm t := by
    intro ds
    induction ds with
    | nil => exact fun _ => ⟨rfl, by rw [List.map_nil, dpTs]; trivial, rfl, rfl, fun t ht => by cases ht⟩
    | cons d ds ih =>
      intro hh
      obtain ⟨a1, a2, a3, a4, a5⟩ := ih fun d hd => hh d (List.mem_cons_of_mem _ hd)
      obtain ⟨c1, c2, c3, c4⟩ := hh d List.mem_cons_self
      rw [List.map_cons]
      refine ⟨?_, ?_, ?_, ?_, fun t ht => ?_⟩
      · rw [cTs, a1, dT, cT, cTs, List.length_cons]; omega
      · rw [dpTs, dT, dpT, dpTs]; exact ⟨⟨by decide, trivial⟩, a2⟩
      · rw [formTs, a3, dT, formT, formTs]
        show ((decide (0 ≤ d.D3) && decide (d.D3 ≤ 2147483647)) && true && true) = true
        simp; omega
      · rw [namesTs, a4, dT, namesT, namesTs]
        show (nameS d.d6 && true && true) = true
        rw [c1]; rfl
      · rcases List.mem_cons.1 ht with e | ht
        · rw [e]; exact .mk ⟨c2, z64⟩ fun t ht => by cases ht
        · exact a5 t ht
  obtain ⟨a1, a2, a3, a4, a5⟩ := hds _ hd
  refine ⟨(b2z q).2 ⟨(c3N _).2 ⟨?_, ?_, ?_, ?_⟩, hok, hu⟩, fun t ht => ?_⟩
  · unfold PP.nodes; rw [b5a, a1]; omega
  · unfold PP.nodes; rw [c3M]; exact ⟨a2, b2 1 (by omega)⟩
  · unfold PP.nodes; rw [b2h, a3, b3]; rfl
  · unfold PP.nodes; rw [b5H, a4, b4]; rfl
  · unfold PP.nodes at ht
    rcases List.mem_append.1 ht with ht | ht
    · exact a5 t ht
    · exact (hb t ht).2.2.2.2
theorem c9F : xS.size ≤ sml := by decide
theorem d8J {q : PP} {scr : List Int} {k : Int} (h : (wellS q).2 = 0) (h1 : 0 ≤ k) (h2 : k ≤ 65536) (h3 : scr.length ≤ 65536) : errR q scr k = 0 := by
  unfold errR
  rw [if_neg (fun e => e h), if_neg]
  omega
end Go.Proofs.YtnhkdkcgdcgmdaaDoor
namespace Go.Proofs.YtnhkdkcgdcgmdaaDoor
open Go.RowKit
set_option maxRecDepth 100000
set_option maxHeartbeats 4000000
section
variable {H : Hp}
theorem c0M {v : Int} {K : d8 → Hp → Prop} (h : ∀ y H', Hle H H' → EH H' y (plainT v) → K y H') : S9 v H K := by
  refine a7a _ ?_
  unfold T1
  refine ⟨fun hv s H1 l1 hS _ => h _ H1 l1 ?_, fun hv => h _ H (Hle.refl _) ?_⟩
  · unfold plainT; rw [if_pos hv]
    exact EH.node hS (by simp [big]) (s7.one (EH.leaf _ _ _ _))
  · unfold plainT; rw [if_neg hv]
    exact EH.leaf _ _ _ _
theorem c5p {s : ByteArray} {K : d8 → Hp → Prop} (h : ∀ y, EH H y (eN 2 0 s []) → K y H) : U9 s H K := by
  refine a9a _ ?_
  unfold V9
  exact h _ (EH.leaf _ _ _ _)
theorem f8h {k : Int} {a b : d8} {t u : PT} (ha : EH H a t) (hb : EH H b u) {K : d8 → Hp → Prop} (h : ∀ y H', Hle H H' → EH H' y (eN k 0 oS [t, u]) → K y H') : a1v k a b H K := by
  refine a9v _ _ _ ?_
  unfold Y0
  intro s H1 l1 hS _
  exact h _ H1 l1 (EH.node hS (by simp [big]) ((s7.one (ha.le l1)).app (s7.one (hb.le l1))))
theorem SH.give {s : ByteArray} {sl : Sl} {a : d8} {t : PT} (hS : SlH H 4 b6 sl [a]) (ha : EH H a t) : SH H ⟨1, s, sl, ⟨none, 0, 0⟩, ⟨none, 0, 0⟩, ⟨none, 0, 0⟩⟩ (sN 1 s [t] [] [] []) := SH.node hS (by simp [big]) (s7.one ha) (SlH.nil _ _ _) (Nat.zero_le _) s7.nil (SlH.nil _ _ _) (Nat.zero_le _) s7.nil (SlH.nil _ _ _) (Nat.zero_le _) s7.nil
theorem e4l {s : ByteArray} {a : d8} {t : PT} (ha : EH H a t) {K : o0 → Hp → Prop} (h : ∀ y H', Hle H H' → SH H' y (sN 1 s [t] [] [] []) → K y H') : a1h s a H K := by
  refine a9d _ _ ?_
  unfold W0
  intro sl H1 l1 hS _
  exact h _ H1 l1 (SH.give hS (ha.le l1))
theorem f8i {op : Int} {a b : d8} {t u : PT} (ha : EH H a t) (hb : EH H b u) {K : o9 → Hp → Prop} (h : ∀ y H', Hle H H' → CH H' y (cN 3 op [t, u] []) → K y H') : a1u op a b H K := by
  refine a9u _ _ _ ?_
  unfold X9
  intro s H1 l1 hS _
  exact h _ H1 l1 (CH.node hS (by simp [big]) ((s7.one (ha.le l1)).app (s7.one (hb.le l1))) (SlH.nil _ _ _) (Nat.zero_le _) s7.nil)
theorem PH.one {sd sb : Sl} {q : PP} {xs : List o0} (hd : SlH H 2 m4 sd q.decls) (hdl : q.decls.length ≤ 4) (hb : SlH H 6 d9 sb xs) (hbl : xs.length ≤ 4) (hr : s7 (SH H) xs q.body) : PH H ⟨sd, sb⟩ q := ⟨hd, by simp only [big]; omega, xs, hb, by simp only [big]; omega, hr⟩
theorem c0N : SlH H 1 ci ⟨none, 0, 0⟩ ([] : List Int) := SlH.nil _ _ _
theorem c5q : Fine 1 1 (eN 2 0 xS []) := a2t (n := 0) (h := 0) (l := .expr 2 0 xS 0) (cs := []) (Int.le_refl 0) (fun t ht => by cases ht) (by decide) (by show (if (true || false) = true then nameS xS else true) = true; exact b7V) ⟨c9F, z64⟩
theorem c5r {k : Int} {a b : PT} {n : Nat} {h : Int} (hk : 6 ≤ k ∧ k ≤ 10) (h0 : 0 ≤ h) (ha : Fine n h a) (hb : Fine n h b) : Fine (1 + 2 * n) (h + 1) (eN k 0 oS [a, b]) :=
  a2t (l := .expr k 0 oS 2) h0 (c0p ha hb) (by
    show formE k 0 oS 2 = true
    unfold formE
    have h1 : k ≠ 1 := by omega
    have h2 : k ≠ 2 := by omega
    have h3 : k ≠ 3 := by omega
    have h4 : k ≠ 4 := by omega
    have h5 : k ≠ 5 := by omega
    simp [h1, h2, h3, h4, h5]
    omega) (by
    show (if (decide (k = 2) || decide (k = 4)) = true then nameS oS else true) = true
    rw [if_neg]
    simp
    omega) ⟨c0o, z64⟩
theorem b4t {a : PT} {n : Nat} {h : Int} (h0 : 0 ≤ h) (ha : Fine n h a) : Fine (1 + 1 * n) (h + 1) (sN 1 xS [a] [] [] []) :=
  a2t (l := .stmt 1 xS 1 0 0 0) h0 (c6D ha) (by decide) (by show (if (true || false) = true then nameS xS else true) = true; exact b7V) ⟨c9F, z64⟩
def c0q : PP := ⟨[⟨xS, 0⟩], [sN 1 xS [eN 1 1 oS []] [] [] [], sN 1 xS [eN 6 0 oS [eN 2 0 xS [], eN 1 2 oS []]] [] [] []]⟩
theorem f8j : DeclOk [⟨xS, 0⟩] := (b7f _).1 rfl
theorem g4O : plainT 1 = eN 1 1 oS [] := rfl
theorem g4P : plainT 2 = eN 1 2 oS [] := rfl
theorem c0O : (wellS c0q).2 = 0 ∧ c0q.Sm := by
  refine c0L (n := 6) (h := 4) (fun d hd => ?_) (fun t ht => ?_) (by decide) (by decide) (by decide) f8j (fun u hu => ?_)
  · rw [List.mem_singleton.1 hd]; exact ⟨b7V, c9F, by decide, by decide⟩
  · rcases List.mem_cons.1 ht with e | ht
    · rw [e, ← g4O]; exact (b4t (by decide) (b2A n1)).up (by decide) (by decide)
    · rw [List.mem_singleton.1 ht, ← g4P]; exact (b4t (by decide) (c5r (by decide) (by decide) (c5q.up (by decide) (by decide)) (b2A n2))).up (by decide) (by decide)
  · have : uTs c0q.body = [⟨xS, false⟩, ⟨xS, false⟩, ⟨xS, false⟩] := by kernel_rfl
    rw [this] at hu
    have hk : kOf c0q.decls xS = 1 := by kernel_rfl
    simp only [List.mem_cons, List.not_mem_nil, or_false, or_self] at hu
    rw [hu]; exact hk
theorem d7C : runQ c0q [] 9 = ⟨2, 0, 2, [], [3], []⟩ := by kernel_rfl
theorem d2K (hT : TabsH H) {K : Bool → Hp → Prop} (h : ∀ H', Hle H H' → K true H') : a0N H K := by
  refine a7u ?_
  unfold U0
  intro s1 H1 l1 h1 _ s2 H2 l2 h2 _ s3 H3 l3 h3 _ s4 H4 l4 h4 _ s5 H5 l5 h5 _
  have l45 := l4.trans l5
  have l35 := l3.trans l45
  have l25 := l2.trans l35
  have e1 : EH H5 ⟨6, 0, oS, s1⟩ (eN 6 0 oS [eN 2 0 xS [], eN 1 2 oS []]) := EH.node (h1.le l25) (by simp [big]) ((s7.one (EH.leaf _ _ _ _)).app (s7.one (EH.leaf _ _ _ _)))
  have hp : PH H5 ⟨s4, s5⟩ c0q := PH.one (h4.le l5) (by decide) h5 (by simp) ((s7.one (SH.give (h2.le l35) (EH.leaf _ _ _ _))).app (s7.one (SH.give (h3.le l45) e1)))
  refine d2I (hT.le (l1.trans l25)) hp c0O.2 c0N (Nat.le_refl _) (fun x hx => by cases hx) (k := 9) (fun hne => (hne (d8J c0O.1 (by decide) (by decide) (Nat.zero_le _))).elim) fun _ o H6 l6 ho => ?_
  rw [show (9 : Int).toNat = 9 from rfl, d7C] at ho
  obtain ⟨q1, q2, q3, q4, q5, q6⟩ := ho
  have hn := q5.1
  have hx := q5.2 0 3 rfl
  have hn' : ((o.W7.n : Nat) : Int) = 1 := by rw [hn]; rfl
  refine ⟨3, fun _ => ⟨Int.le_refl _, by rw [hn']; decide, hx⟩, ?_⟩
  rw [q1, q3, hn']
  exact h H6 ((l1.trans l25).trans l6)
end
end Go.Proofs.YtnhkdkcgdcgmdaaDoor
namespace Go.Proofs.YtnhkdkcgdcgmdaaDoor
open Go.RowKit
set_option maxRecDepth 100000
set_option maxHeartbeats 4000000
theorem g1M (k n : Int) (s : ByteArray) (cs : List PT) (h2 : k ≠ 2) (h4 : k ≠ 4) : uT (eN k n s cs) = uTs cs := by
  unfold eN; rw [uT]
  show (if (decide (k = 2) || decide (k = 4)) = true then [(⟨s, decide (k = 4)⟩ : Us)] else []) ++ uTs cs = uTs cs
  rw [if_neg (by simp [h2, h4]), List.nil_append]
theorem e4m (s : ByteArray) (e : PT) : uT (sN 1 s [e] [] [] []) = ⟨s, false⟩ :: uT e := by
  unfold sN; rw [uT]
  show [⟨s, false⟩] ++ uTs [e] = _
  rw [c9E]; rfl
theorem f8k (s : ByteArray) : uT (eN 2 0 s []) = [⟨s, false⟩] := by unfold eN; rw [uT, uTs]; rfl
theorem kx : kOf [⟨xS, 0⟩] xS = 1 := by kernel_rfl
theorem g1N {l : List Us} (h : ∀ u ∈ l, u = ⟨xS, false⟩) : ∀ u ∈ l, kOf [⟨xS, 0⟩] u.d6 = asU u := fun u hu => by rw [h u hu]; exact kx
theorem g4Q : ∀ d ∈ ([⟨xS, 0⟩] : List j7), nameS d.d6 = true ∧ d.d6.size ≤ sml ∧ 0 ≤ d.D3 ∧ d.D3 ≤ 1024 := fun d hd => by
  rw [List.mem_singleton.1 hd]; exact ⟨b7V, c9F, by decide, by decide⟩
section
variable {H : Hp}
theorem c9G {n : Int} (hn : Nn n) : (wellS (loopsP n)).2 = 0 ∧ (loopsP n).Sm := by
  have f1 : Fine 5 3 (cN 3 1 [eN 2 0 xS [], plainT n] []) := a2t (l := .cond 3 1 2 0) (n := 2) (h := 2) (by decide) (c0p (c5q.up (by decide) (by decide)) (b2A hn)) (by decide) rfl ⟨c0o, z64⟩
  have f2 : Fine 6 4 (sN 1 xS [eN 6 0 oS [eN 2 0 xS [], plainT 1]] [] [] []) := (b4t (by decide) (c5r (by decide) (by decide) (c5q.up (by decide) (by decide)) (b2A n1))).up (by decide) (by decide)
  have f3 : Fine 13 5 (sN 4 oS [] [cN 3 1 [eN 2 0 xS [], plainT n] []] [sN 1 xS [eN 6 0 oS [eN 2 0 xS [], plainT 1]] [] [] []] []) := a2t (l := .stmt 4 oS 0 1 1 0) (n := 6) (h := 4) (by decide) (c0p (f1.up (by decide) (by decide)) f2) (by decide) rfl ⟨c0o, z64⟩
  refine c0L (n := 13) (h := 5) g4Q (c6D f3) (by show 1 + 1 * 13 ≤ 4096; decide) (by decide) (by decide) f8j (g1N fun u hu => ?_)
  have : uTs (loopsP n).body = [⟨xS, false⟩, ⟨xS, false⟩, ⟨xS, false⟩] := by
    show uTs [_] = _
    rw [c9E]
    unfold sN
    rw [uT]
    show uTs [cN 3 1 [eN 2 0 xS [], plainT n] [], sN 1 xS [eN 6 0 oS [eN 2 0 xS [], plainT 1]] [] [] []] = _
    rw [c9D, e4m, g1M _ _ _ _ (by decide) (by decide), c9D, f8k, d2J]
    unfold cN
    rw [uT]
    show uTs [eN 2 0 xS [], plainT n] ++ _ = _
    rw [c9D, f8k, d2J]; rfl
  rw [this] at hu
  simpa using hu
theorem c5F (hT : TabsH H) {n k : Int} {K : Bool → Hp → Prop} (h : ∀ H', Hle H H' → K true H') : Q8 n k H K := by
  refine a6i _ _ ?_
  unfold R1
  refine d2K hT fun H1 l1 => ⟨(fun q => by cases q), fun _ => ⟨fun _ => h H1 l1, fun hn => ?_⟩⟩
  have hb : 0 ≤ n ∧ n ≤ 500 ∧ 0 ≤ k ∧ k ≤ 2000 := by simp at hn; omega
  clear hn
  have hnn : Nn n := ⟨by unfold m3; omega, by omega⟩
  refine c5p fun y1 e1 => c0M fun y2 H2 l2 e2 => f8i (e1.le l2) e2 fun y3 H3 l3 e3 => c5p fun y4 e4 => c0M fun y5 H5 l5 e5 => f8h (e4.le l5) e5 fun y6 H6 l6 e6 => e4l e6 fun y7 H7 l7 e7 => ?_
  intro s8 H8 l8 h8 _ s9 H9 l9 h9 _ s10 H10 l10 h10 _ s11 H11 l11 h11 _
  have l811 := l8.trans (l9.trans (l10.trans l11))
  have l711 := l7.trans l811
  have l111 := l2.trans (l3.trans (l5.trans (l6.trans l711)))
  have e3' : CH H11 y3 (cN 3 1 [eN 2 0 xS [], plainT n] []) := e3.le (l5.trans (l6.trans l711))
  have es : SH H11 ⟨4, oS, ⟨none, 0, 0⟩, s8, s9, ⟨none, 0, 0⟩⟩ (sN 4 oS [] [cN 3 1 [eN 2 0 xS [], plainT n] []] [sN 1 xS [eN 6 0 oS [eN 2 0 xS [], plainT 1]] [] [] []] []) :=
    SH.node (SlH.nil _ _ _) (Nat.zero_le _) s7.nil (h8.le (l9.trans (l10.trans l11))) (by simp [big]) (s7.one e3') (h9.le (l10.trans l11)) (by simp [big]) (s7.one (e7.le l811)) (SlH.nil _ _ _) (Nat.zero_le _) s7.nil
  have hp : PH H11 ⟨s10, s11⟩ (loopsP n) := PH.one (h10.le l11) (by show 1 ≤ 4; decide) h11 (by simp) (s7.one es)
  have hw := c9G hnn
  refine d2I (hT.le (l1.trans l111)) hp hw.2 c0N (Nat.le_refl _) (fun x hx => by cases hx) (k := k) (fun hne => (hne (d8J hw.1 (by omega) (by omega) (Nat.zero_le _))).elim) fun _ o H12 l12 ho => ?_
  have hK := h H12 ((l1.trans l111).trans l12)
  rw [e1E hnn hb.1] at ho
  have w1 : IntKind.wrap .i64 ((IntKind.wrap .i64 (2 * n)) + 1) = 2 * n + 1 := by
    rw [b0t (2 * n) (by omega) (by omega), b0t _ (by omega) (by omega)]
  have w2 : IntKind.wrap .i64 (Int.tdiv k 2) = k / 2 := by
    rw [Int.tdiv_eq_ediv_of_nonneg hb.2.2.1, b0t _ (by omega) (by omega)]
  rw [w1, w2]
  have hkk : ((k.toNat : Nat) : Int) = k := Int.toNat_of_nonneg hb.2.2.1
  rw [hkk] at ho
  by_cases c : 2 * n + 1 ≤ k
  · rw [if_pos c] at ho
    obtain ⟨q1, q2, q3, q4, q5, q6⟩ := ho
    have hx := q5.2 0 n rfl
    have hn' : ((o.W7.n : Nat) : Int) = 1 := by rw [q5.1]; rfl
    rw [q1, q3, hn']
    have m1 : n = (if n < k / 2 then n else k / 2) := by split <;> omega
    have m2 : 2 * n + 1 = (if 2 * n + 1 < k then 2 * n + 1 else k) := by split <;> omega
    refine ⟨n, fun _ => ⟨Int.le_refl _, by decide, hx⟩, fun q => ?_, fun _ => ⟨fun _ => by simpa using hK, fun q => (q c).elim⟩⟩
    rw [decide_eq_true m1, decide_eq_true m2] at q
    simp at q
  · rw [if_neg c] at ho
    obtain ⟨q1, q2, q3, q4, q5, q6⟩ := ho
    have hx := q5.2 0 (k / 2) rfl
    have hn' : ((o.W7.n : Nat) : Int) = 1 := by rw [q5.1]; rfl
    rw [q1, q3, hn']
    have m1 : k / 2 = (if n < k / 2 then n else k / 2) := by split <;> omega
    have m2 : k = (if 2 * n + 1 < k then 2 * n + 1 else k) := by split <;> omega
    refine ⟨k / 2, fun _ => ⟨Int.le_refl _, by decide, hx⟩, fun q => ?_, fun _ => ⟨fun q => (c q).elim, fun _ => by simpa using hK⟩⟩
    rw [decide_eq_true m1, decide_eq_true m2] at q
    simp at q
theorem c5s (hT : TabsH H) {n k : Int} (_ : m3 n) (_ : m3 k) {K : Bool → Hp → Prop} (h : ∀ H', Hle H H' → K true H') : Q8 n k H K := c5F hT h
end
end Go.Proofs.YtnhkdkcgdcgmdaaDoor
