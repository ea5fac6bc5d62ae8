/- A run, told to the printed formulas; small programs that are well. -/
import Derived.Test.YtnhkdkcgdcgmdaaDoorzSNe
namespace Go.Proofs.YtnhkdkcgdcgmdaaDoor
open Go.RowKit
set_option maxRecDepth 100000
set_option maxHeartbeats 4000000
def OutH (H : Hp) (o : K6) (c : Oc) : Prop := o.P7 = c.st ∧ o.a5l = c.wr ∧ o.Y1 = c.steps ∧ SlH H 3 T0 o.b0k c.events ∧ SlH H 1 ci o.V2 c.vars ∧ SlHH H 1 ci o.R4 c.arrs
theorem OutH.le {H H' : Hp} {o : K6} {c : Oc} (h : OutH H o c) (l : Hle H H') : OutH H' o c := by
  obtain ⟨h1, h2, h3, h4, h5, h6⟩ := h
  exact ⟨h1, h2, h3, h4.le l, h5.le l, h6.le l⟩
section
variable {H : Hp}
theorem d3b (hT : TabsH H) {p : q8} {q : PP} (hp : PH H p q) (hsm : q.Sm) {sc : Sl} {scr : List Int} (hsc : SlH H 1 ci sc scr) (hcap : sc.n ≤ sc.c) (hin : ∀ x ∈ scr, m2 x) {k : Int} {K : K6 → Int → Hp → Prop}
    (h1 : errR q scr k ≠ 0 → ∀ H', Hle H H' → K oz (errR q scr k) H') (h0 : errR q scr k = 0 → ∀ o H', Hle H H' → OutH H' o (runQ q scr k.toNat) → K o 0 H') : a4I p sc k H K := by
  intro w I
  refine Cv.mono (f9A hT hp hsm hsc hcap hin k w I) (fun v w' q1 => ?_) fun c w' q1 => ?_
  · obtain ⟨H1, Fo, J, o, rfl, he, hz⟩ := q1
    by_cases c : errR q scr k = 0
    · obtain ⟨a1, a2, a3, Fe, Fv, Fr, rfl, b1, b2, b3⟩ := hz c
      obtain ⟨H2, J2, l2, s2⟩ := J.freezeL b1 (by decide)
      obtain ⟨H3, J3, l3, s3⟩ := J2.freezeL b2 (by decide)
      obtain ⟨H4, J4, l4, s4, _⟩ := J3.freezeLL b3 (by decide)
      rw [c]
      exact ⟨H4, [], J4, o, 0, rfl, rfl, h0 c o H4 J4.le ⟨a1, a2, a3, s2.le (l3.trans l4), s3.le l4, s4⟩⟩
    · obtain ⟨rfl, rfl⟩ := he c
      exact ⟨H1, [], J, oz, _, rfl, rfl, h1 c H1 J.le⟩
  · obtain ⟨_, _, _, q2⟩ := q1
    exact q2.elim
end
def Fine (n : Nat) (h : Int) (t : PT) : Prop := cT t ≤ n ∧ (∀ d, d + h ≤ 65 → dpT 64 t d) ∧ formT t = true ∧ namesT t = true ∧ Sm t
theorem b4p {n : Nat} {h : Int} : ∀ {cs : List PT}, (∀ t ∈ cs, Fine n h t) → cTs cs ≤ cs.length * n ∧ (∀ d, d + h ≤ 65 → dpTs 64 cs d) ∧ formTs cs = true ∧ namesTs cs = true
  | [], _ => ⟨by rw [cTs]; exact Nat.zero_le _, fun d _ => by rw [dpTs]; trivial, rfl, rfl⟩
  | t :: cs, hc => by
    obtain ⟨a1, a2, a3, a4, _⟩ := hc t List.mem_cons_self
    obtain ⟨b1, b2, b3, b4⟩ := b4p (cs := cs) fun u hu => hc u (List.mem_cons_of_mem _ hu)
    refine ⟨?_, fun d hd => ?_, ?_, ?_⟩
    · rw [cTs, List.length_cons, Nat.add_mul]; omega
    · rw [dpTs]; exact ⟨a2 d hd, b2 d hd⟩
    · rw [formTs, a3, b3]; rfl
    · rw [namesTs, a4, b4]; rfl
theorem a2u {n : Nat} {h : Int} {l : Lab} {cs : List PT} (hh : 0 ≤ h) (hc : ∀ t ∈ cs, Fine n h t) (h1 : formL l = true) (h2 : nameOk l = true) (h3 : smL l) : Fine (1 + cs.length * n) (h + 1) (.mk l cs) := by
  obtain ⟨b1, b2, b3, b4⟩ := b4p hc
  refine ⟨by rw [cT]; omega, fun d hd => ?_, ?_, ?_, .mk h3 fun t ht => (hc t ht).2.2.2.2⟩
  · rw [dpT]; exact ⟨by omega, b2 _ (by omega)⟩
  · rw [formT, h1, b3]; rfl
  · rw [namesT, h2, b4]; rfl
theorem Fine.up {n n' : Nat} {h h' : Int} {t : PT} (f : Fine n h t) (hn : n ≤ n') (hh : h ≤ h') : Fine n' h' t := by
  obtain ⟨a1, a2, a3⟩ := f
  exact ⟨by omega, fun d hd => a2 d (by omega), a3⟩
theorem c9X : (oS : ByteArray).size ≤ sml := by decide
theorem a9f {v : Int} (h : Nn v) : Fine 2 2 (plainT v) := by
  obtain ⟨h1, h2⟩ := h
  unfold plainT
  by_cases hv : v < 0
  · rw [if_pos hv]
    have hw : IntKind.wrap .i64 (0 - v) = -v := by rw [IntKind.wrap_i64]; unfold m2 at h1; omega
    rw [hw]
    have k1 : Fine 1 1 (eN 1 (-v) oS []) := a2u (n := 0) (h := 0) (l := .expr 1 (-v) oS 0) (cs := []) (Int.le_refl 0) (fun t ht => by cases ht) (by show formE 1 (-v) oS 0 = true; unfold formE; simp; omega) rfl ⟨c9X, by unfold m2 at h1 ⊢; show -9223372036854775808 ≤ -v ∧ -v ≤ 9223372036854775807; omega⟩
    exact a2u (n := 1) (h := 1) (l := .expr 5 0 oS 1) (cs := [eN 1 (-v) oS []]) (by decide) (fun t ht => by rw [List.mem_singleton.1 ht]; exact k1) (by decide) rfl ⟨c9X, z64⟩
  · rw [if_neg hv]
    exact (a2u (n := 0) (h := 0) (l := .expr 1 v oS 0) (cs := []) (Int.le_refl 0) (fun t ht => by cases ht) (by show formE 1 v oS 0 = true; unfold formE; simp; omega) rfl ⟨c9X, h1⟩).up (by decide) (by decide)
theorem c6I {n : Nat} {h : Int} {a : PT} (ha : Fine n h a) : ∀ t ∈ [a], Fine n h t := fun t ht => by rw [List.mem_singleton.1 ht]; exact ha
theorem c0r {n : Nat} {h : Int} {a b : PT} (ha : Fine n h a) (hb : Fine n h b) : ∀ t ∈ [a, b], Fine n h t := fun t ht => by
  rcases List.mem_cons.1 ht with e | ht
  · rw [e]; exact ha
  · rw [List.mem_singleton.1 ht]; exact hb
theorem d9D (a b : PT) : uTs [a, b] = uT a ++ uT b := by rw [uTs, uTs, uTs, List.append_nil]
theorem c9Y (a : PT) : uTs [a] = uT a := by rw [uTs, uTs, List.append_nil]
theorem c5w (v : Int) : uT (plainT v) = [] := by
  unfold plainT eN
  split
  · rw [uT, c9Y, uT, uTs]; rfl
  · rw [uT, uTs]; rfl
theorem c0N {q : PP} {n : Nat} {h : Int} (hd : ∀ d ∈ q.decls, nameS d.d5 = true ∧ d.d5.size ≤ sml ∧ 0 ≤ d.E4 ∧ d.E4 ≤ 1024) (hb : ∀ t ∈ q.body, Fine n h t) (hn : q.decls.length + q.body.length * n ≤ 4096) (h0 : 0 ≤ h) (h1 : h ≤ 64) (hok : DeclOk q.decls) (hu : ∀ u ∈ uTs q.body, kOf q.decls u.d5 = asU u) : (wellS q).2 = 0 ∧ q.Sm := by
  obtain ⟨b1, b2, b3, b4⟩ := b4p hb
  have hds : ∀ ds : List j7, (∀ d ∈ ds, nameS d.d5 = true ∧ d.d5.size ≤ sml ∧ 0 ≤ d.E4 ∧ d.E4 ≤ 1024) → cTs (ds.map dT) = ds.length ∧ dpTs 64 (ds.map dT) 1 ∧ formTs (ds.map dT) = true ∧ namesTs (ds.map dT) = true ∧ ∀ t ∈ ds.map dT, Sm t := by
    intro ds
    induction ds with
    | nil => exact fun _ => ⟨rfl, by rw [List.map_nil, dpTs]; trivial, rfl, rfl, fun t ht => by cases ht⟩
    | cons d ds ih =>
      intro hh
      obtain ⟨a1, a2, a3, a4, a5⟩ := ih fun d hd => hh d (List.mem_cons_of_mem _ hd)
      obtain ⟨c1, c2, c3, c4⟩ := hh d List.mem_cons_self
      rw [List.map_cons]
      refine ⟨?_, ?_, ?_, ?_, fun t ht => ?_⟩
      · rw [cTs, a1, dT, cT, cTs, List.length_cons]; omega
      · rw [dpTs, dT, dpT, dpTs]; exact ⟨⟨by decide, trivial⟩, a2⟩
      · rw [formTs, a3, dT, formT, formTs]
        show ((decide (0 ≤ d.E4) && decide (d.E4 ≤ 2147483647)) && true && true) = true
        simp; omega
      · rw [namesTs, a4, dT, namesT, namesTs]
        show (nameS d.d5 && true && true) = true
        rw [c1]; rfl
      · rcases List.mem_cons.1 ht with e | ht
        · rw [e]; exact .mk ⟨c2, z64⟩ fun t ht => by cases ht
        · exact a5 t ht
  obtain ⟨a1, a2, a3, a4, a5⟩ := hds _ hd
  refine ⟨(b2u q).2 ⟨(c3S _).2 ⟨?_, ?_, ?_, ?_⟩, hok, hu⟩, fun t ht => ?_⟩
  · unfold PP.nodes; rw [b4U, a1]; omega
  · unfold PP.nodes; rw [c3R]; exact ⟨a2, b2 1 (by omega)⟩
  · unfold PP.nodes; rw [b1Z, a3, b3]; rfl
  · unfold PP.nodes; rw [b5G, a4, b4]; rfl
  · unfold PP.nodes at ht
    rcases List.mem_append.1 ht with ht | ht
    · exact a5 t ht
    · exact (hb t ht).2.2.2.2
theorem c9Z : xS.size ≤ sml := by decide
theorem d8x : aS.size ≤ sml := by decide
theorem c5x : nameS aS = true := by kernel_rfl
theorem d9E : aS ≠ xS := by decide
theorem d9F {q : PP} {scr : List Int} {k : Int} (h : (wellS q).2 = 0) (h1 : 0 ≤ k) (h2 : k ≤ 65536) (h3 : scr.length ≤ 65536) : errR q scr k = 0 := by
  unfold errR
  rw [if_neg (fun e => e h), if_neg]
  omega
end Go.Proofs.YtnhkdkcgdcgmdaaDoor
namespace Go.Proofs.YtnhkdkcgdcgmdaaDoor
open Go.RowKit
set_option maxRecDepth 100000
set_option maxHeartbeats 4000000
section
variable {H : Hp}
theorem b4q {v : Int} {K : i4 → Hp → Prop} (h : ∀ y H', Hle H H' → EH H' y (plainT v) → K y H') : O3 v H K := by
  refine a6W _ ?_
  unfold T7
  refine ⟨fun hv s H1 l1 hS _ => h _ H1 l1 ?_, fun hv => h _ H (Hle.refl _) ?_⟩
  · unfold plainT; rw [if_pos hv]
    exact EH.node hS (by simp [big]) (t7.one (EH.leaf _ _ _ _))
  · unfold plainT; rw [if_neg hv]
    exact EH.leaf _ _ _ _
theorem SH.give {s : ByteArray} {sl : Sl} {a : i4} {t : PT} (hS : SlH H 4 b8 sl [a]) (ha : EH H a t) : SH H ⟨1, s, sl, ⟨none, 0, 0⟩, ⟨none, 0, 0⟩, ⟨none, 0, 0⟩⟩ (sN 1 s [t] [] [] []) := SH.node hS (by simp [big]) (t7.one ha) (SlH.nil _ _ _) (Nat.zero_le _) t7.nil (SlH.nil _ _ _) (Nat.zero_le _) t7.nil (SlH.nil _ _ _) (Nat.zero_le _) t7.nil
theorem e5q {s : ByteArray} {a : i4} {t : PT} (ha : EH H a t) {K : m9 → Hp → Prop} (h : ∀ y H', Hle H H' → SH H' y (sN 1 s [t] [] [] []) → K y H') : a1h s a H K := by
  refine a8Z _ _ ?_
  unfold W5
  intro sl H1 l1 hS _
  exact h _ H1 l1 (SH.give hS (ha.le l1))
theorem PH.one {sd sb : Sl} {q : PP} {xs : List m9} (hd : SlH H 2 m3 sd q.decls) (hdl : q.decls.length ≤ 4) (hb : SlH H 6 f8 sb xs) (hbl : xs.length ≤ 4) (hr : t7 (SH H) xs q.body) : PH H ⟨sd, sb⟩ q := ⟨hd, by simp only [big]; omega, xs, hb, by simp only [big]; omega, hr⟩
theorem c0O : SlH H 1 ci ⟨none, 0, 0⟩ ([] : List Int) := SlH.nil _ _ _
theorem f9B : Fine 1 1 (eN 2 0 xS []) := a2u (n := 0) (h := 0) (l := .expr 2 0 xS 0) (cs := []) (Int.le_refl 0) (fun t ht => by cases ht) (by decide) (by show (if (true || false) = true then nameS xS else true) = true; exact b7L) ⟨c9Z, z64⟩
theorem d8y {k : Int} {a b : PT} {n : Nat} {h : Int} (hk : 6 ≤ k ∧ k ≤ 10) (h0 : 0 ≤ h) (ha : Fine n h a) (hb : Fine n h b) : Fine (1 + 2 * n) (h + 1) (eN k 0 oS [a, b]) :=
  a2u (l := .expr k 0 oS 2) h0 (c0r ha hb) (by
    show formE k 0 oS 2 = true
    unfold formE
    have h1 : k ≠ 1 := by omega
    have h2 : k ≠ 2 := by omega
    have h3 : k ≠ 3 := by omega
    have h4 : k ≠ 4 := by omega
    have h5 : k ≠ 5 := by omega
    simp [h1, h2, h3, h4, h5]
    omega) (by
    show (if (decide (k = 2) || decide (k = 4)) = true then nameS oS else true) = true
    rw [if_neg]
    simp
    omega) ⟨c9X, z64⟩
theorem b4r {a : PT} {n : Nat} {h : Int} (h0 : 0 ≤ h) (ha : Fine n h a) : Fine (1 + 1 * n) (h + 1) (sN 1 xS [a] [] [] []) :=
  a2u (l := .stmt 1 xS 1 0 0 0) h0 (c6I ha) (by decide) (by show (if (true || false) = true then nameS xS else true) = true; exact b7L) ⟨c9Z, z64⟩
def c0s : PP := ⟨[⟨xS, 0⟩], [sN 1 xS [eN 1 1 oS []] [] [] [], sN 1 xS [eN 6 0 oS [eN 2 0 xS [], eN 1 2 oS []]] [] [] []]⟩
theorem g5K : DeclOk [⟨xS, 0⟩] := (b7a _).1 rfl
theorem g5L : plainT 1 = eN 1 1 oS [] := rfl
theorem g5M : plainT 2 = eN 1 2 oS [] := rfl
theorem c0P : (wellS c0s).2 = 0 ∧ c0s.Sm := by
  refine c0N (n := 6) (h := 4) (fun d hd => ?_) (fun t ht => ?_) (by decide) (by decide) (by decide) g5K (fun u hu => ?_)
  · rw [List.mem_singleton.1 hd]; exact ⟨b7L, c9Z, by decide, by decide⟩
  · rcases List.mem_cons.1 ht with e | ht
    · rw [e, ← g5L]; exact (b4r (by decide) (a9f n1)).up (by decide) (by decide)
    · rw [List.mem_singleton.1 ht, ← g5M]; exact (b4r (by decide) (d8y (by decide) (by decide) (f9B.up (by decide) (by decide)) (a9f n2))).up (by decide) (by decide)
  · have : uTs c0s.body = [⟨xS, false⟩, ⟨xS, false⟩, ⟨xS, false⟩] := by kernel_rfl
    rw [this] at hu
    have hk : kOf c0s.decls xS = 1 := by kernel_rfl
    simp only [List.mem_cons, List.not_mem_nil, or_false, or_self] at hu
    rw [hu]; exact hk
theorem d8z : runQ c0s [] 9 = ⟨2, 0, 2, [], [3], []⟩ := by kernel_rfl
theorem d3c (hT : TabsH H) {K : Bool → Hp → Prop} (h : ∀ H', Hle H H' → K true H') : a0N H K := by
  refine a7t ?_
  unfold U4
  intro s1 H1 l1 h1 _ s2 H2 l2 h2 _ s3 H3 l3 h3 _ s4 H4 l4 h4 _ s5 H5 l5 h5 _
  have l45 := l4.trans l5
  have l35 := l3.trans l45
  have l25 := l2.trans l35
  have e1 : EH H5 ⟨6, 0, oS, s1⟩ (eN 6 0 oS [eN 2 0 xS [], eN 1 2 oS []]) := EH.node (h1.le l25) (by simp [big]) ((t7.one (EH.leaf _ _ _ _)).app (t7.one (EH.leaf _ _ _ _)))
  have hp : PH H5 ⟨s4, s5⟩ c0s := PH.one (h4.le l5) (by decide) h5 (by simp) ((t7.one (SH.give (h2.le l35) (EH.leaf _ _ _ _))).app (t7.one (SH.give (h3.le l45) e1)))
  refine d3b (hT.le (l1.trans l25)) hp c0P.2 c0O (Nat.le_refl _) (fun x hx => by cases hx) (k := 9) (fun hne => (hne (d9F c0P.1 (by decide) (by decide) (Nat.zero_le _))).elim) fun _ o H6 l6 ho => ?_
  rw [show (9 : Int).toNat = 9 from rfl, d8z] at ho
  obtain ⟨q1, q2, q3, q4, q5, q6⟩ := ho
  have hn := q5.1
  have hx := q5.2 0 3 rfl
  have hn' : ((o.V2.n : Nat) : Int) = 1 := by rw [hn]; rfl
  refine ⟨3, fun _ => ⟨Int.le_refl _, by rw [hn']; decide, hx⟩, ?_⟩
  rw [q1, q3, hn']
  exact h H6 ((l1.trans l25).trans l6)
end
end Go.Proofs.YtnhkdkcgdcgmdaaDoor
