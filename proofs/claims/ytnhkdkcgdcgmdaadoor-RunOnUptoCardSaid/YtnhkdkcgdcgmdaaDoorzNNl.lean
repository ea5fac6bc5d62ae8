/- A run, told to the printed formulas; small programs that are well. -/
import Derived.Test.YtnhkdkcgdcgmdaaDoorzNNe
namespace Go.Proofs.YtnhkdkcgdcgmdaaDoor
open Go.RowKit
set_option maxRecDepth 100000
set_option maxHeartbeats 4000000
def OutH (H : Hp) (o : o2) (c : Oc) : Prop := o.q8 = c.st ∧ o.O0 = c.wr ∧ o.q9 = c.steps ∧ SlH H 3 B3 o.v6 c.events ∧ SlH H 1 ci o.a1Z c.vars ∧ SlHH H 1 ci o.J8 c.arrs
theorem OutH.le {H H' : Hp} {o : o2} {c : Oc} (h : OutH H o c) (l : Hle H H') : OutH H' o c := by
  obtain ⟨h1, h2, h3, h4, h5, h6⟩ := h
  exact ⟨h1, h2, h3, h4.le l, h5.le l, h6.le l⟩
section
variable {H : Hp}
theorem b5j (hT : TabsH H) {p : r9} {q : PP} (hp : PH H p q) (hsm : q.Sm) {sc : Sl} {scr : List Int} (hsc : SlH H 1 ci sc scr) (hcap : sc.n ≤ sc.c) (hin : ∀ x ∈ scr, m4 x) {k : Int} {K : o2 → Int → Hp → Prop}
    (h1 : errR q scr k ≠ 0 → ∀ H', Hle H H' → K oz (errR q scr k) H') (h0 : errR q scr k = 0 → ∀ o H', Hle H H' → OutH H' o (runQ q scr k.toNat) → K o 0 H') : a1F p sc k H K := by
  intro w I
  refine Cv.mono (g1k hT hp hsm hsc hcap hin k w I) (fun v w' q1 => ?_) fun c w' q1 => ?_
  · obtain ⟨H1, Fo, J, o, rfl, he, hz⟩ := q1
    by_cases c : errR q scr k = 0
    · obtain ⟨a1, a2, a3, Fe, Fv, Fr, rfl, b1, b2, b3⟩ := hz c
      obtain ⟨H2, J2, l2, s2⟩ := J.freezeL b1 (by decide)
      obtain ⟨H3, J3, l3, s3⟩ := J2.freezeL b2 (by decide)
      obtain ⟨H4, J4, l4, s4, _⟩ := J3.freezeLL b3 (by decide)
      rw [c]
      exact ⟨H4, [], J4, o, 0, rfl, rfl, h0 c o H4 J4.le ⟨a1, a2, a3, s2.le (l3.trans l4), s3.le l4, s4⟩⟩
    · obtain ⟨rfl, rfl⟩ := he c
      exact ⟨H1, [], J, oz, _, rfl, rfl, h1 c H1 J.le⟩
  · obtain ⟨_, _, _, q2⟩ := q1
    exact q2.elim
end
def Fine (n : Nat) (h : Int) (t : PT) : Prop := cT t ≤ n ∧ (∀ d, d + h ≤ 65 → dpT 64 t d) ∧ formT t = true ∧ namesT t = true ∧ Sm t
theorem b5k {n : Nat} {h : Int} : ∀ {cs : List PT}, (∀ t ∈ cs, Fine n h t) → cTs cs ≤ cs.length * n ∧ (∀ d, d + h ≤ 65 → dpTs 64 cs d) ∧ formTs cs = true ∧ namesTs cs = true
  | [], _ => ⟨by rw [cTs]; exact Nat.zero_le _, fun d _ => by rw [dpTs]; trivial, rfl, rfl⟩
  | t :: cs, hc => by
    obtain ⟨a1, a2, a3, a4, _⟩ := hc t List.mem_cons_self
    obtain ⟨b1, b2, b3, b4⟩ := b5k (cs := cs) fun u hu => hc u (List.mem_cons_of_mem _ hu)
    refine ⟨?_, fun d hd => ?_, ?_, ?_⟩
    · rw [cTs, List.length_cons, Nat.add_mul]; omega
    · rw [dpTs]; exact ⟨a2 d hd, b2 d hd⟩
    · rw [formTs, a3, b3]; rfl
    · rw [namesTs, a4, b4]; rfl
theorem a5F {n : Nat} {h : Int} {l : Lab} {cs : List PT} (hh : 0 ≤ h) (hc : ∀ t ∈ cs, Fine n h t) (h1 : formL l = true) (h2 : nameOk l = true) (h3 : smL l) : Fine (1 + cs.length * n) (h + 1) (.mk l cs) := by
  obtain ⟨b1, b2, b3, b4⟩ := b5k hc
  refine ⟨by rw [cT]; omega, fun d hd => ?_, ?_, ?_, .mk h3 fun t ht => (hc t ht).2.2.2.2⟩
  · rw [dpT]; exact ⟨by omega, b2 _ (by omega)⟩
  · rw [formT, h1, b3]; rfl
  · rw [namesT, h2, b4]; rfl
theorem Fine.up {n n' : Nat} {h h' : Int} {t : PT} (f : Fine n h t) (hn : n ≤ n') (hh : h ≤ h') : Fine n' h' t := by
  obtain ⟨a1, a2, a3⟩ := f
  exact ⟨by omega, fun d hd => a2 d (by omega), a3⟩
theorem d1S : (oS : ByteArray).size ≤ sml := by decide
theorem c6X {v : Int} (h : Nn v) : Fine 2 2 (plainT v) := by
  obtain ⟨h1, h2⟩ := h
  unfold plainT
  by_cases hv : v < 0
  · rw [if_pos hv]
    have hw : IntKind.wrap .i64 (0 - v) = -v := by rw [IntKind.wrap_i64]; unfold m4 at h1; omega
    rw [hw]
    have k1 : Fine 1 1 (eN 1 (-v) oS []) := a5F (n := 0) (h := 0) (l := .expr 1 (-v) oS 0) (cs := []) (Int.le_refl 0) (fun t ht => by cases ht) (by show formE 1 (-v) oS 0 = true; unfold formE; simp; omega) rfl ⟨d1S, by unfold m4 at h1 ⊢; show -9223372036854775808 ≤ -v ∧ -v ≤ 9223372036854775807; omega⟩
    exact a5F (n := 1) (h := 1) (l := .expr 5 0 oS 1) (cs := [eN 1 (-v) oS []]) (by decide) (fun t ht => by rw [List.mem_singleton.1 ht]; exact k1) (by decide) rfl ⟨d1S, z64⟩
  · rw [if_neg hv]
    exact (a5F (n := 0) (h := 0) (l := .expr 1 v oS 0) (cs := []) (Int.le_refl 0) (fun t ht => by cases ht) (by show formE 1 v oS 0 = true; unfold formE; simp; omega) rfl ⟨d1S, h1⟩).up (by decide) (by decide)
theorem e7d {n : Nat} {h : Int} {a : PT} (ha : Fine n h a) : ∀ t ∈ [a], Fine n h t := fun t ht => by rw [List.mem_singleton.1 ht]; exact ha
theorem e7e {n : Nat} {h : Int} {a b : PT} (ha : Fine n h a) (hb : Fine n h b) : ∀ t ∈ [a, b], Fine n h t := fun t ht => by
  rcases List.mem_cons.1 ht with e | ht
  · rw [e]; exact ha
  · rw [List.mem_singleton.1 ht]; exact hb
theorem d5h {q : PP} {n : Nat} {h : Int} (hd : ∀ d ∈ q.decls, nameS d.d6 = true ∧ d.d6.size ≤ sml ∧ 0 ≤ d.E6 ∧ d.E6 ≤ 1024) (hb : ∀ t ∈ q.body, Fine n h t) (hn : q.decls.length + q.body.length * n ≤ 4096) (h0 : 0 ≤ h) (h1 : h ≤ 64) (hok : DeclOk q.decls) (hu : ∀ u ∈ uTs q.body, kOf q.decls u.d6 = asU u) : (wellS q).2 = 0 ∧ q.Sm := by
  obtain ⟨b1, b2, b3, b4⟩ := b5k hb
  have hds : ∀ ds : List j9, (∀ d ∈ ds, nameS d.d6 = true ∧ d.d6.size ≤ sml ∧ 0 ≤ d.E6 ∧ d.E6 ≤ 1024) → cTs (ds.map dT) = ds.length ∧ dpTs 64 (ds.map dT) 1 ∧ formTs (ds.map dT) = true ∧ namesTs (ds.map dT) = true ∧ ∀ t ∈ ds.map dT, Sm t := by
    intro ds
    induction ds with
    | nil => exact fun _ => ⟨rfl, by rw [List.map_nil, dpTs]; trivial, rfl, rfl, fun t ht => by cases ht⟩
    | cons d ds ih =>
      intro hh
      obtain ⟨a1, a2, a3, a4, a5⟩ := ih fun d hd => hh d (List.mem_cons_of_mem _ hd)
      obtain ⟨c1, c2, c3, c4⟩ := hh d List.mem_cons_self
      rw [List.map_cons]
      refine ⟨?_, ?_, ?_, ?_, fun t ht => ?_⟩
      · rw [cTs, a1, dT, cT, cTs, List.length_cons]; omega
      · rw [dpTs, dT, dpT, dpTs]; exact ⟨⟨by decide, trivial⟩, a2⟩
      · rw [formTs, a3, dT, formT, formTs]
        show ((decide (0 ≤ d.E6) && decide (d.E6 ≤ 2147483647)) && true && true) = true
        simp; omega
      · rw [namesTs, a4, dT, namesT, namesTs]
        show (nameS d.d6 && true && true) = true
        rw [c1]; rfl
      · rcases List.mem_cons.1 ht with e | ht
        · rw [e]; exact .mk ⟨c2, z64⟩ fun t ht => by cases ht
        · exact a5 t ht
  obtain ⟨a1, a2, a3, a4, a5⟩ := hds _ hd
  refine ⟨(a9W q).2 ⟨(c5k _).2 ⟨?_, ?_, ?_, ?_⟩, hok, hu⟩, fun t ht => ?_⟩
  · unfold PP.nodes; rw [b5N, a1]; omega
  · unfold PP.nodes; rw [c5j]; exact ⟨a2, b2 1 (by omega)⟩
  · unfold PP.nodes; rw [b2T, a3, b3]; rfl
  · unfold PP.nodes; rw [b6v, a4, b4]; rfl
  · unfold PP.nodes at ht
    rcases List.mem_append.1 ht with ht | ht
    · exact a5 t ht
    · exact (hb t ht).2.2.2.2
theorem e0c : xS.size ≤ sml := by decide
theorem e1q {q : PP} {scr : List Int} {k : Int} (h : (wellS q).2 = 0) (h1 : 0 ≤ k) (h2 : k ≤ 65536) (h3 : scr.length ≤ 65536) : errR q scr k = 0 := by
  unfold errR
  rw [if_neg (fun e => e h), if_neg]
  omega
end Go.Proofs.YtnhkdkcgdcgmdaaDoor
namespace Go.Proofs.YtnhkdkcgdcgmdaaDoor
open Go.RowKit
set_option maxRecDepth 100000
set_option maxHeartbeats 4000000
section
variable {H : Hp}
theorem SH.give {s : ByteArray} {sl : Sl} {a : l7} {t : PT} (hS : SlH H 4 d9 sl [a]) (ha : EH H a t) : SH H ⟨1, s, sl, ⟨none, 0, 0⟩, ⟨none, 0, 0⟩, ⟨none, 0, 0⟩⟩ (sN 1 s [t] [] [] []) := SH.node hS (by simp [big]) (A4.one ha) (SlH.nil _ _ _) (Nat.zero_le _) A4.nil (SlH.nil _ _ _) (Nat.zero_le _) A4.nil (SlH.nil _ _ _) (Nat.zero_le _) A4.nil
theorem PH.one {sd sb : Sl} {q : PP} {xs : List r6} (hd : SlH H 2 m7 sd q.decls) (hdl : q.decls.length ≤ 4) (hb : SlH H 6 g7 sb xs) (hbl : xs.length ≤ 4) (hr : A4 (SH H) xs q.body) : PH H ⟨sd, sb⟩ q := ⟨hd, by simp only [big]; omega, xs, hb, by simp only [big]; omega, hr⟩
theorem d5i : SlH H 1 ci ⟨none, 0, 0⟩ ([] : List Int) := SlH.nil _ _ _
theorem g1l : Fine 1 1 (eN 2 0 xS []) := a5F (n := 0) (h := 0) (l := .expr 2 0 xS 0) (cs := []) (Int.le_refl 0) (fun t ht => by cases ht) (by decide) (by show (if (true || false) = true then nameS xS else true) = true; exact c4L) ⟨e0c, z64⟩
theorem e0d {k : Int} {a b : PT} {n : Nat} {h : Int} (hk : 6 ≤ k ∧ k ≤ 10) (h0 : 0 ≤ h) (ha : Fine n h a) (hb : Fine n h b) : Fine (1 + 2 * n) (h + 1) (eN k 0 oS [a, b]) :=
  a5F (l := .expr k 0 oS 2) h0 (e7e ha hb) (by
    show formE k 0 oS 2 = true
    unfold formE
    have h1 : k ≠ 1 := by omega
    have h2 : k ≠ 2 := by omega
    have h3 : k ≠ 3 := by omega
    have h4 : k ≠ 4 := by omega
    have h5 : k ≠ 5 := by omega
    simp [h1, h2, h3, h4, h5]
    omega) (by
    show (if (decide (k = 2) || decide (k = 4)) = true then nameS oS else true) = true
    rw [if_neg]
    simp
    omega) ⟨d1S, z64⟩
theorem c1F {a : PT} {n : Nat} {h : Int} (h0 : 0 ≤ h) (ha : Fine n h a) : Fine (1 + 1 * n) (h + 1) (sN 1 xS [a] [] [] []) :=
  a5F (l := .stmt 1 xS 1 0 0 0) h0 (e7d ha) (by decide) (by show (if (true || false) = true then nameS xS else true) = true; exact c4L) ⟨e0c, z64⟩
def c1j : PP := ⟨[⟨xS, 0⟩], [sN 1 xS [eN 1 1 oS []] [] [] [], sN 1 xS [eN 6 0 oS [eN 2 0 xS [], eN 1 2 oS []]] [] [] []]⟩
theorem g7A : DeclOk [⟨xS, 0⟩] := (b7T _).1 rfl
theorem g7B : plainT 1 = eN 1 1 oS [] := rfl
theorem g7C : plainT 2 = eN 1 2 oS [] := rfl
theorem c1G : (wellS c1j).2 = 0 ∧ c1j.Sm := by
  refine d5h (n := 6) (h := 4) (fun d hd => ?_) (fun t ht => ?_) (by decide) (by decide) (by decide) g7A (fun u hu => ?_)
  · rw [List.mem_singleton.1 hd]; exact ⟨c4L, e0c, by decide, by decide⟩
  · rcases List.mem_cons.1 ht with e | ht
    · rw [e, ← g7B]; exact (c1F (by decide) (c6X n1)).up (by decide) (by decide)
    · rw [List.mem_singleton.1 ht, ← g7C]; exact (c1F (by decide) (e0d (by decide) (by decide) (g1l.up (by decide) (by decide)) (c6X n2))).up (by decide) (by decide)
  · have : uTs c1j.body = [⟨xS, false⟩, ⟨xS, false⟩, ⟨xS, false⟩] := by kernel_rfl
    rw [this] at hu
    have hk : kOf c1j.decls xS = 1 := by kernel_rfl
    simp only [List.mem_cons, List.not_mem_nil, or_false, or_self] at hu
    rw [hu]; exact hk
theorem e0e : runQ c1j [] 9 = ⟨2, 0, 2, [], [3], []⟩ := by kernel_rfl
theorem d5j (hT : TabsH H) {K : Bool → Hp → Prop} (h : ∀ H', Hle H H' → K true H') : a1k H K := by
  refine a8f ?_
  unfold W4
  intro s1 H1 l1 h1 _ s2 H2 l2 h2 _ s3 H3 l3 h3 _ s4 H4 l4 h4 _ s5 H5 l5 h5 _
  have l45 := l4.trans l5
  have l35 := l3.trans l45
  have l25 := l2.trans l35
  have e1 : EH H5 ⟨6, 0, oS, s1⟩ (eN 6 0 oS [eN 2 0 xS [], eN 1 2 oS []]) := EH.node (h1.le l25) (by simp [big]) ((A4.one (EH.leaf _ _ _ _)).app (A4.one (EH.leaf _ _ _ _)))
  have hp : PH H5 ⟨s4, s5⟩ c1j := PH.one (h4.le l5) (by decide) h5 (by simp) ((A4.one (SH.give (h2.le l35) (EH.leaf _ _ _ _))).app (A4.one (SH.give (h3.le l45) e1)))
  refine b5j (hT.le (l1.trans l25)) hp c1G.2 d5i (Nat.le_refl _) (fun x hx => by cases hx) (k := 9) (fun hne => (hne (e1q c1G.1 (by decide) (by decide) (Nat.zero_le _))).elim) fun _ o H6 l6 ho => ?_
  rw [show (9 : Int).toNat = 9 from rfl, e0e] at ho
  obtain ⟨q1, q2, q3, q4, q5, q6⟩ := ho
  have hn := q5.1
  have hx := q5.2 0 3 rfl
  have hn' : ((o.a1Z.n : Nat) : Int) = 1 := by rw [hn]; rfl
  refine ⟨3, fun _ => ⟨Int.le_refl _, by rw [hn']; decide, hx⟩, ?_⟩
  rw [q1, q3, hn']
  exact h H6 ((l1.trans l25).trans l6)
end
end Go.Proofs.YtnhkdkcgdcgmdaaDoor
namespace Go.Proofs.YtnhkdkcgdcgmdaaDoor
open Go.RowKit
set_option maxRecDepth 100000
set_option maxHeartbeats 4000000
theorem e0f {q : PP} {scr : List Int} {k : Nat} (hbd : q.decls.length ≤ big) (hk : k ≤ big) (hw : (wellS q).2 = 0) (ha : ∀ t ∈ q.body, ArS t ∧ formT t = true) (hs : ∀ x ∈ scr, m4 x) :
    (runQ q scr k).events.length ≤ big ∧ (runQ q scr k).vars.length ≤ big ∧ (runQ q scr k).arrs.length ≤ big ∧ ∀ l ∈ (runQ q scr k).arrs, l.length ≤ big := by
  have hnm := c1i hw
  have hok := d1R hw hs k
  have hcm : Cm ((vD q.decls).map (·.1)) ((aD q.decls).map (·.1)) (fun _ => True) (seqM (q.body.map rnT)) := a9F fun m hm => by
    obtain ⟨t, ht, rfl⟩ := List.mem_map.1 hm
    exact cmS (ha t ht).1 (ha t ht).2 (hnm.mem ht)
  have hsafe := hcm.safe _ hok
  have hend : Okst k k ((vD q.decls).map (·.1)) ((aD q.decls).map (·.1)) (endS (seqM (q.body.map rnT) (s0 q.decls scr k))).2.2 := by
    cases hm : seqM (q.body.map rnT) (s0 q.decls scr k) with
    | ok a s1 => rw [hm] at hsafe; exact hsafe.2.1
    | stop a b s1 => rw [hm] at hsafe; exact hsafe.1
  unfold runQ
  generalize endS (seqM (q.body.map rnT) (s0 q.decls scr k)) = r at hend
  have e1 := d5d q.decls
  have e2 := d5e q.decls
  have e3 := congrArg List.length hend.vs
  have e4 := congrArg List.length hend.rs
  rw [List.length_map, List.length_map] at e3 e4
  have e5 := hend.ev
  refine ⟨?_, ?_, ?_, fun l hl => ?_⟩
  · show r.2.2.events.length ≤ big; omega
  · show (r.2.2.vars.map (·.2)).length ≤ big; rw [List.length_map]; omega
  · show (r.2.2.arrs.map (·.2)).length ≤ big; rw [List.length_map]; omega
  · obtain ⟨p, hp, rfl⟩ := List.mem_map.1 (show l ∈ r.2.2.arrs.map (·.2) from hl)
    have := (hend.rl p hp).1
    simp only [big]; omega
section
variable {H : Hp}
theorem c6Y {s s' : Sl} {xs : List Int} (h : SlH H 1 ci s xs) (h' : SlH H 1 ci s' xs) (hb : xs.length ≤ big) {K : Bool → Hp → Prop} (hK : K true H) : V7 s s' H K := by
  refine a8d _ _ ?_
  unfold W3
  have n1 := h.1; have n2 := h'.1
  simp only [big] at hb
  refine ⟨fun hne => (hne (by omega)).elim, fun _ => ?_⟩
  refine a1Y (fun (i : Int) H' => 0 ≤ i ∧ i ≤ xs.length ∧ H' = H) (fun i => (xs.length - i).toNat) ⟨Int.le_refl _, by omega, rfl⟩ ?_
  rintro i H1 next ⟨i0, i1, rfl⟩ hn
  unfold T0
  refine ⟨fun hc => ?_, fun hc => ?_⟩
  · obtain ⟨x, hx, hE⟩ := h.get i0 hc
    obtain ⟨y, hy, hF⟩ := h'.get i0 (show i < (s'.n : Int) by omega)
    rw [hx] at hy
    cases hy
    refine ⟨i0, hc, x, hE, i0, by omega, x, hF, fun hne => (hne rfl).elim, fun _ => ?_⟩
    rw [L3 i0 (by omega)]
    exact hn _ _ ⟨by omega, by omega, rfl⟩ (by omega)
  · exact hK
theorem b9D {o o' : o2} {c : Oc} (h : OutH H o c) (h' : OutH H o' c) (hb : c.events.length ≤ big ∧ c.vars.length ≤ big ∧ c.arrs.length ≤ big ∧ ∀ l ∈ c.arrs, l.length ≤ big) {K : Bool → Hp → Prop} (hK : K true H) : O1 o o' H K := by
  obtain ⟨b1, b2, b3, b4⟩ := hb
  refine a7p _ _ ?_
  unfold U0
  obtain ⟨a1, a2, a3, a4, a5, a6⟩ := h
  obtain ⟨c1, c2, c3, c4, c5, c6⟩ := h'
  rw [a1, a2, a3, c1, c2, c3]
  have e1 : ((o.v6.n : Nat) : Int) = (o'.v6.n : Nat) := by rw [a4.1, c4.1]
  have e2 : ((o.J8.n : Nat) : Int) = (o'.J8.n : Nat) := by rw [a6.1, c6.1]
  rw [e1, e2]
  refine a6Y true (fun _ K' hk => c6Y a5 c5 b2 hk) ?_
  simp only [decide_true, Bool.not_true, Bool.or_self, if_true, Bool.false_eq_true, false_implies, true_and, forall_const]
  simp only [big] at b1 b3
  have n1 := a4.1; have n2 := c4.1; have n3 := a6.1; have n4 := c6.1
  refine a1Y (fun (i : Int) H' => 0 ≤ i ∧ i ≤ c.events.length ∧ H' = H) (fun i => (c.events.length - i).toNat) ⟨Int.le_refl _, by omega, rfl⟩ ?_
  rintro i H1 next ⟨i0, i1, rfl⟩ hn
  unfold L8
  refine ⟨fun hc => ?_, fun hc => ?_⟩
  · obtain ⟨x, hx, hE⟩ := a4.get i0 hc
    obtain ⟨y, hy, hF⟩ := c4.get i0 (show i < (o'.v6.n : Int) by omega)
    rw [hx] at hy
    cases hy
    refine ⟨i0, hc, x, hE, i0, by omega, x, hF, fun hne => (hne ⟨rfl, rfl, rfl⟩).elim, fun _ => ?_⟩
    rw [L3 i0 (by omega)]
    exact hn _ _ ⟨by omega, by omega, rfl⟩ (by omega)
  · unfold R0
    clear hn hc i0 i1 next
    refine a1Y (fun (i : Int) H' => 0 ≤ i ∧ i ≤ c.arrs.length ∧ H' = H1) (fun i => (c.arrs.length - i).toNat) ⟨Int.le_refl _, by omega, rfl⟩ ?_
    rintro i H2 next ⟨i0, i1, rfl⟩ hn
    unfold Q9
    refine ⟨fun hc => ?_, fun hc => ?_⟩
    · obtain ⟨_, ss, s1, s2⟩ := a6
      obtain ⟨_, ss', s1', s2'⟩ := c6
      obtain ⟨x, hx, hE⟩ := s1.get i0 hc
      obtain ⟨y, hy, hF⟩ := s1'.get i0 (show i < (o'.J8.n : Int) by omega)
      obtain ⟨l, hl⟩ := t7 (l := c.arrs) (i := i.toNat) (by omega)
      refine ⟨i0, hc, x, hE, i0, by omega, y, hF, c6Y (s2 _ _ _ hx hl).1 (s2' _ _ _ hy hl).1 (b4 l (List.mem_of_getElem? hl)) ⟨(fun q => by cases q), fun _ => ?_⟩⟩
      rw [L3 i0 (by omega)]
      exact hn _ _ ⟨by omega, by omega, rfl⟩ (by omega)
    · exact hK
end
end Go.Proofs.YtnhkdkcgdcgmdaaDoor
