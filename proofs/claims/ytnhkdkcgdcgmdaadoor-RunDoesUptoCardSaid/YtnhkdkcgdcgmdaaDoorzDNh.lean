/- A run, told to the printed formulas; small programs that are well. -/
import Derived.Test.YtnhkdkcgdcgmdaaDoorzDNe
namespace Go.Proofs.YtnhkdkcgdcgmdaaDoor
open Go.RowKit
set_option maxRecDepth 100000
set_option maxHeartbeats 4000000
def OutH (H : Hp) (o : M9) (c : Oc) : Prop := o.X5 = c.st ∧ o.a9U = c.wr ∧ o.a3Y = c.steps ∧ SlH H 3 R7 o.a9V c.events ∧ SlH H 1 ci o.S9 c.vars ∧ SlHH H 1 ci o.a9W c.arrs
theorem OutH.le {H H' : Hp} {o : M9} {c : Oc} (h : OutH H o c) (l : Hle H H') : OutH H' o c := by
  obtain ⟨h1, h2, h3, h4, h5, h6⟩ := h
  exact ⟨h1, h2, h3, h4.le l, h5.le l, h6.le l⟩
section
variable {H : Hp}
theorem d2p (hT : TabsH H) {p : A5} {q : PP} (hp : PH H p q) (hsm : q.Sm) {sc : Sl} {scr : List Int} (hsc : SlH H 1 ci sc scr) (hcap : sc.n ≤ sc.c) (hin : ∀ x ∈ scr, l0 x) {k : Int} {K : M9 → Int → Hp → Prop}
    (h1 : errR q scr k ≠ 0 → ∀ H', Hle H H' → K oz (errR q scr k) H') (h0 : errR q scr k = 0 → ∀ o H', Hle H H' → OutH H' o (runQ q scr k.toNat) → K o 0 H') : a4w p sc k H K := by
  intro w I
  refine Cv.mono (f7L hT hp hsm hsc hcap hin k w I) (fun v w' q1 => ?_) fun c w' q1 => ?_
  · obtain ⟨H1, Fo, J, o, rfl, he, hz⟩ := q1
    by_cases c : errR q scr k = 0
    · obtain ⟨a1, a2, a3, Fe, Fv, Fr, rfl, b1, b2, b3⟩ := hz c
      obtain ⟨H2, J2, l2, s2⟩ := J.freezeL b1 (by decide)
      obtain ⟨H3, J3, l3, s3⟩ := J2.freezeL b2 (by decide)
      obtain ⟨H4, J4, l4, s4, _⟩ := J3.freezeLL b3 (by decide)
      rw [c]
      exact ⟨H4, [], J4, o, 0, rfl, rfl, h0 c o H4 J4.le ⟨a1, a2, a3, s2.le (l3.trans l4), s3.le l4, s4⟩⟩
    · obtain ⟨rfl, rfl⟩ := he c
      exact ⟨H1, [], J, oz, _, rfl, rfl, h1 c H1 J.le⟩
  · obtain ⟨_, _, _, q2⟩ := q1
    exact q2.elim
end
def Fine (n : Nat) (h : Int) (t : PT) : Prop := cT t ≤ n ∧ (∀ d, d + h ≤ 65 → dpT 64 t d) ∧ formT t = true ∧ namesT t = true ∧ Sm t
theorem b3X {n : Nat} {h : Int} : ∀ {cs : List PT}, (∀ t ∈ cs, Fine n h t) → cTs cs ≤ cs.length * n ∧ (∀ d, d + h ≤ 65 → dpTs 64 cs d) ∧ formTs cs = true ∧ namesTs cs = true
  | [], _ => ⟨by rw [cTs]; exact Nat.zero_le _, fun d _ => by rw [dpTs]; trivial, rfl, rfl⟩
  | t :: cs, hc => by
    obtain ⟨a1, a2, a3, a4, _⟩ := hc t List.mem_cons_self
    obtain ⟨b1, b2, b3, b4⟩ := b3X (cs := cs) fun u hu => hc u (List.mem_cons_of_mem _ hu)
    refine ⟨?_, fun d hd => ?_, ?_, ?_⟩
    · rw [cTs, List.length_cons, Nat.add_mul]; omega
    · rw [dpTs]; exact ⟨a2 d hd, b2 d hd⟩
    · rw [formTs, a3, b3]; rfl
    · rw [namesTs, a4, b4]; rfl
theorem a4S {n : Nat} {h : Int} {l : Lab} {cs : List PT} (hh : 0 ≤ h) (hc : ∀ t ∈ cs, Fine n h t) (h1 : formL l = true) (h2 : nameOk l = true) (h3 : smL l) : Fine (1 + cs.length * n) (h + 1) (.mk l cs) := by
  obtain ⟨b1, b2, b3, b4⟩ := b3X hc
  refine ⟨by rw [cT]; omega, fun d hd => ?_, ?_, ?_, .mk h3 fun t ht => (hc t ht).2.2.2.2⟩
  · rw [dpT]; exact ⟨by omega, b2 _ (by omega)⟩
  · rw [formT, h1, b3]; rfl
  · rw [namesT, h2, b4]; rfl
theorem Fine.up {n n' : Nat} {h h' : Int} {t : PT} (f : Fine n h t) (hn : n ≤ n') (hh : h ≤ h') : Fine n' h' t := by
  obtain ⟨a1, a2, a3⟩ := f
  exact ⟨by omega, fun d hd => a2 d (by omega), a3⟩
theorem c9m : (oS : ByteArray).size ≤ sml := by decide
theorem b2f {v : Int} (h : Nn v) : Fine 2 2 (plainT v) := by
  obtain ⟨h1, h2⟩ := h
  unfold plainT
  by_cases hv : v < 0
  · rw [if_pos hv]
    have hw : IntKind.wrap .i64 (0 - v) = -v := by rw [IntKind.wrap_i64]; unfold l0 at h1; omega
    rw [hw]
    have k1 : Fine 1 1 (eN 1 (-v) oS []) := a4S (n := 0) (h := 0) (l := .expr 1 (-v) oS 0) (cs := []) (Int.le_refl 0) (fun t ht => by cases ht) (by show formE 1 (-v) oS 0 = true; unfold formE; simp; omega) rfl ⟨c9m, by unfold l0 at h1 ⊢; show -9223372036854775808 ≤ -v ∧ -v ≤ 9223372036854775807; omega⟩
    exact a4S (n := 1) (h := 1) (l := .expr 5 0 oS 1) (cs := [eN 1 (-v) oS []]) (by decide) (fun t ht => by rw [List.mem_singleton.1 ht]; exact k1) (by decide) rfl ⟨c9m, z64⟩
  · rw [if_neg hv]
    exact (a4S (n := 0) (h := 0) (l := .expr 1 v oS 0) (cs := []) (Int.le_refl 0) (fun t ht => by cases ht) (by show formE 1 v oS 0 = true; unfold formE; simp; omega) rfl ⟨c9m, h1⟩).up (by decide) (by decide)
theorem c6n {n : Nat} {h : Int} {a : PT} (ha : Fine n h a) : ∀ t ∈ [a], Fine n h t := fun t ht => by rw [List.mem_singleton.1 ht]; exact ha
theorem e3N {n : Nat} {h : Int} {a b : PT} (ha : Fine n h a) (hb : Fine n h b) : ∀ t ∈ [a, b], Fine n h t := fun t ht => by
  rcases List.mem_cons.1 ht with e | ht
  · rw [e]; exact ha
  · rw [List.mem_singleton.1 ht]; exact hb
theorem g1i (a b : PT) : uTs [a, b] = uT a ++ uT b := by rw [uTs, uTs, uTs, List.append_nil]
theorem c9n (a : PT) : uTs [a] = uT a := by rw [uTs, uTs, List.append_nil]
theorem d2q (v : Int) : uT (plainT v) = [] := by
  unfold plainT eN
  split
  · rw [uT, c9n, uT, uTs]; rfl
  · rw [uT, uTs]; rfl
theorem c0q {q : PP} {n : Nat} {h : Int} (hd : ∀ d ∈ q.decls, nameS d.d6 = true ∧ d.d6.size ≤ sml ∧ 0 ≤ d.C7 ∧ d.C7 ≤ 1024) (hb : ∀ t ∈ q.body, Fine n h t) (hn : q.decls.length + q.body.length * n ≤ 4096) (h0 : 0 ≤ h) (h1 : h ≤ 64) (hok : DeclOk q.decls) (hu : ∀ u ∈ uTs q.body, kOf q.decls u.d6 = asU u) : (wellS q).2 = 0 ∧ q.Sm := by
  obtain ⟨b1, b2, b3, b4⟩ := b3X hb
  have hds : ∀ ds : List i7, (∀ d ∈ ds, nameS d.d6 = true ∧ d.d6.size ≤ sml ∧ 0 ≤ d.C7 ∧ d.C7 ≤ 1024) → cTs (ds.map dT) = ds.length ∧ dpTs 64 (ds.map dT) 1 ∧ formTs (ds.map dT) = true ∧ namesTs (ds.map dT) = true ∧ ∀ t ∈ ds.map dT, Sm t := by
    intro ds
    induction ds with
    | nil => exact fun _ => ⟨rfl, by rw [List.map_nil, dpTs]; trivial, rfl, rfl, fun t ht => by cases ht⟩
    | cons d ds ih =>
      intro hh
      obtain ⟨a1, a2, a3, a4, a5⟩ := ih fun d hd => hh d (List.mem_cons_of_mem _ hd)
      obtain ⟨c1, c2, c3, c4⟩ := hh d List.mem_cons_self
      rw [List.map_cons]
      refine ⟨?_, ?_, ?_, ?_, fun t ht => ?_⟩
      · rw [cTs, a1, dT, cT, cTs, List.length_cons]; omega
      · rw [dpTs, dT, dpT, dpTs]; exact ⟨⟨by decide, trivial⟩, a2⟩
      · rw [formTs, a3, dT, formT, formTs]
        show ((decide (0 ≤ d.C7) && decide (d.C7 ≤ 2147483647)) && true && true) = true
        simp; omega
      · rw [namesTs, a4, dT, namesT, namesTs]
        show (nameS d.d6 && true && true) = true
        rw [c1]; rfl
      · rcases List.mem_cons.1 ht with e | ht
        · rw [e]; exact .mk ⟨c2, z64⟩ fun t ht => by cases ht
        · exact a5 t ht
  obtain ⟨a1, a2, a3, a4, a5⟩ := hds _ hd
  refine ⟨(b2e q).2 ⟨(c3C _).2 ⟨?_, ?_, ?_, ?_⟩, hok, hu⟩, fun t ht => ?_⟩
  · unfold PP.nodes; rw [b4G, a1]; omega
  · unfold PP.nodes; rw [c3B]; exact ⟨a2, b2 1 (by omega)⟩
  · unfold PP.nodes; rw [b1K, a3, b3]; rfl
  · unfold PP.nodes; rw [b5m, a4, b4]; rfl
  · unfold PP.nodes at ht
    rcases List.mem_append.1 ht with ht | ht
    · exact a5 t ht
    · exact (hb t ht).2.2.2.2
theorem c9o : xS.size ≤ sml := by decide
theorem d8m {q : PP} {scr : List Int} {k : Int} (h : (wellS q).2 = 0) (h1 : 0 ≤ k) (h2 : k ≤ 65536) (h3 : scr.length ≤ 65536) : errR q scr k = 0 := by
  unfold errR
  rw [if_neg (fun e => e h), if_neg]
  omega
end Go.Proofs.YtnhkdkcgdcgmdaaDoor
namespace Go.Proofs.YtnhkdkcgdcgmdaaDoor
open Go.RowKit
set_option maxRecDepth 100000
set_option maxHeartbeats 4000000
section
variable {H : Hp}
theorem c0r {v : Int} {K : d8 → Hp → Prop} (h : ∀ y H', Hle H H' → EH H' y (plainT v) → K y H') : S3 v H K := by
  refine a6K _ ?_
  unfold S5
  refine ⟨fun hv s H1 l1 hS _ => h _ H1 l1 ?_, fun hv => h _ H (Hle.refl _) ?_⟩
  · unfold plainT; rw [if_pos hv]
    exact EH.node hS (by simp [big]) (y5.one (EH.leaf _ _ _ _))
  · unfold plainT; rw [if_neg hv]
    exact EH.leaf _ _ _ _
theorem f7M {k : Int} {a b : d8} {t u : PT} (ha : EH H a t) (hb : EH H b u) {K : d8 → Hp → Prop} (h : ∀ y H', Hle H H' → EH H' y (eN k 0 oS [t, u]) → K y H') : a1g k a b H K := by
  refine a8Y _ _ _ ?_
  unfold W6
  intro s H1 l1 hS _
  exact h _ H1 l1 (EH.node hS (by simp [big]) ((y5.one (ha.le l1)).app (y5.one (hb.le l1))))
theorem SH.give {s : ByteArray} {sl : Sl} {a : d8} {t : PT} (hS : SlH H 4 b6 sl [a]) (ha : EH H a t) : SH H ⟨1, s, sl, ⟨none, 0, 0⟩, ⟨none, 0, 0⟩, ⟨none, 0, 0⟩⟩ (sN 1 s [t] [] [] []) := SH.node hS (by simp [big]) (y5.one ha) (SlH.nil _ _ _) (Nat.zero_le _) y5.nil (SlH.nil _ _ _) (Nat.zero_le _) y5.nil (SlH.nil _ _ _) (Nat.zero_le _) y5.nil
theorem e3O {s : ByteArray} {a : d8} {t : PT} (ha : EH H a t) {K : m6 → Hp → Prop} (h : ∀ y H', Hle H H' → SH H' y (sN 1 s [t] [] [] []) → K y H') : a0R s a H K := by
  refine a8H _ _ ?_
  unfold V2
  intro sl H1 l1 hS _
  exact h _ H1 l1 (SH.give hS (ha.le l1))
theorem PH.one {sd sb : Sl} {q : PP} {xs : List m6} (hd : SlH H 2 l9 sd q.decls) (hdl : q.decls.length ≤ 4) (hb : SlH H 6 f2 sb xs) (hbl : xs.length ≤ 4) (hr : y5 (SH H) xs q.body) : PH H ⟨sd, sb⟩ q := ⟨hd, by simp only [big]; omega, xs, hb, by simp only [big]; omega, hr⟩
theorem c0s : SlH H 1 ci ⟨none, 0, 0⟩ ([] : List Int) := SlH.nil _ _ _
theorem f7N : Fine 1 1 (eN 2 0 xS []) := a4S (n := 0) (h := 0) (l := .expr 2 0 xS 0) (cs := []) (Int.le_refl 0) (fun t ht => by cases ht) (by decide) (by show (if (true || false) = true then nameS xS else true) = true; exact b7q) ⟨c9o, z64⟩
theorem c5c {k : Int} {a b : PT} {n : Nat} {h : Int} (hk : 6 ≤ k ∧ k ≤ 10) (h0 : 0 ≤ h) (ha : Fine n h a) (hb : Fine n h b) : Fine (1 + 2 * n) (h + 1) (eN k 0 oS [a, b]) :=
  a4S (l := .expr k 0 oS 2) h0 (e3N ha hb) (by
    show formE k 0 oS 2 = true
    unfold formE
    have h1 : k ≠ 1 := by omega
    have h2 : k ≠ 2 := by omega
    have h3 : k ≠ 3 := by omega
    have h4 : k ≠ 4 := by omega
    have h5 : k ≠ 5 := by omega
    simp [h1, h2, h3, h4, h5]
    omega) (by
    show (if (decide (k = 2) || decide (k = 4)) = true then nameS oS else true) = true
    rw [if_neg]
    simp
    omega) ⟨c9m, z64⟩
theorem b3Y {a : PT} {n : Nat} {h : Int} (h0 : 0 ≤ h) (ha : Fine n h a) : Fine (1 + 1 * n) (h + 1) (sN 1 xS [a] [] [] []) :=
  a4S (l := .stmt 1 xS 1 0 0 0) h0 (c6n ha) (by decide) (by show (if (true || false) = true then nameS xS else true) = true; exact b7q) ⟨c9o, z64⟩
def b9V : PP := ⟨[⟨xS, 0⟩], [sN 1 xS [eN 1 1 oS []] [] [] [], sN 1 xS [eN 6 0 oS [eN 2 0 xS [], eN 1 2 oS []]] [] [] []]⟩
theorem f7O : DeclOk [⟨xS, 0⟩] := (b6C _).1 rfl
theorem g4r : plainT 1 = eN 1 1 oS [] := rfl
theorem g4s : plainT 2 = eN 1 2 oS [] := rfl
theorem c0t : (wellS b9V).2 = 0 ∧ b9V.Sm := by
  refine c0q (n := 6) (h := 4) (fun d hd => ?_) (fun t ht => ?_) (by decide) (by decide) (by decide) f7O (fun u hu => ?_)
  · rw [List.mem_singleton.1 hd]; exact ⟨b7q, c9o, by decide, by decide⟩
  · rcases List.mem_cons.1 ht with e | ht
    · rw [e, ← g4r]; exact (b3Y (by decide) (b2f n1)).up (by decide) (by decide)
    · rw [List.mem_singleton.1 ht, ← g4s]; exact (b3Y (by decide) (c5c (by decide) (by decide) (f7N.up (by decide) (by decide)) (b2f n2))).up (by decide) (by decide)
  · have : uTs b9V.body = [⟨xS, false⟩, ⟨xS, false⟩, ⟨xS, false⟩] := by kernel_rfl
    rw [this] at hu
    have hk : kOf b9V.decls xS = 1 := by kernel_rfl
    simp only [List.mem_cons, List.not_mem_nil, or_false, or_self] at hu
    rw [hu]; exact hk
theorem d7i : runQ b9V [] 9 = ⟨2, 0, 2, [], [3], []⟩ := by kernel_rfl
theorem d2r (hT : TabsH H) {K : Bool → Hp → Prop} (h : ∀ H', Hle H H' → K true H') : a0A H K := by
  refine a7g ?_
  unfold T4
  intro s1 H1 l1 h1 _ s2 H2 l2 h2 _ s3 H3 l3 h3 _ s4 H4 l4 h4 _ s5 H5 l5 h5 _
  have l45 := l4.trans l5
  have l35 := l3.trans l45
  have l25 := l2.trans l35
  have e1 : EH H5 ⟨6, 0, oS, s1⟩ (eN 6 0 oS [eN 2 0 xS [], eN 1 2 oS []]) := EH.node (h1.le l25) (by simp [big]) ((y5.one (EH.leaf _ _ _ _)).app (y5.one (EH.leaf _ _ _ _)))
  have hp : PH H5 ⟨s4, s5⟩ b9V := PH.one (h4.le l5) (by decide) h5 (by simp) ((y5.one (SH.give (h2.le l35) (EH.leaf _ _ _ _))).app (y5.one (SH.give (h3.le l45) e1)))
  refine d2p (hT.le (l1.trans l25)) hp c0t.2 c0s (Nat.le_refl _) (fun x hx => by cases hx) (k := 9) (fun hne => (hne (d8m c0t.1 (by decide) (by decide) (Nat.zero_le _))).elim) fun _ o H6 l6 ho => ?_
  rw [show (9 : Int).toNat = 9 from rfl, d7i] at ho
  obtain ⟨q1, q2, q3, q4, q5, q6⟩ := ho
  have hn := q5.1
  have hx := q5.2 0 3 rfl
  have hn' : ((o.S9.n : Nat) : Int) = 1 := by rw [hn]; rfl
  refine ⟨3, fun _ => ⟨Int.le_refl _, by rw [hn']; decide, hx⟩, ?_⟩
  rw [q1, q3, hn']
  exact h H6 ((l1.trans l25).trans l6)
end
end Go.Proofs.YtnhkdkcgdcgmdaaDoor
namespace Go.Proofs.YtnhkdkcgdcgmdaaDoor
open Go.RowKit
set_option maxRecDepth 100000
set_option maxHeartbeats 4000000
theorem g1j (k n : Int) (s : ByteArray) (cs : List PT) (h2 : k ≠ 2) (h4 : k ≠ 4) : uT (eN k n s cs) = uTs cs := by
  unfold eN; rw [uT]
  show (if (decide (k = 2) || decide (k = 4)) = true then [(⟨s, decide (k = 4)⟩ : Us)] else []) ++ uTs cs = uTs cs
  rw [if_neg (by simp [h2, h4]), List.nil_append]
theorem e3P (s : ByteArray) (e : PT) : uT (sN 1 s [e] [] [] []) = ⟨s, false⟩ :: uT e := by
  unfold sN; rw [uT]
  show [⟨s, false⟩] ++ uTs [e] = _
  rw [c9n]; rfl
theorem kx : kOf [⟨xS, 0⟩] xS = 1 := by kernel_rfl
theorem g1k {l : List Us} (h : ∀ u ∈ l, u = ⟨xS, false⟩) : ∀ u ∈ l, kOf [⟨xS, 0⟩] u.d6 = asU u := fun u hu => by rw [h u hu]; exact kx
theorem g4t : ∀ d ∈ ([⟨xS, 0⟩] : List i7), nameS d.d6 = true ∧ d.d6.size ≤ sml ∧ 0 ≤ d.C7 ∧ d.C7 ≤ 1024 := fun d hd => by
  rw [List.mem_singleton.1 hd]; exact ⟨b7q, c9o, by decide, by decide⟩
theorem d2s {k a b : Int} (hk : 6 ≤ k ∧ k ≤ 10) (ha : Nn a) (hb : Nn b) : (wellS (doesP k a b)).2 = 0 ∧ (doesP k a b).Sm := by
  refine c0q (n := 6) (h := 4) g4t (c6n ((b3Y (by decide) (c5c hk (by decide) (b2f ha) (b2f hb))).up (by decide) (by decide))) (by show 1 + 1 * 6 ≤ 4096; decide) (by decide) (by decide) f7O (g1k fun u hu => ?_)
  have : uTs (doesP k a b).body = [⟨xS, false⟩] := by
    show uTs [_] = _
    rw [c9n, e3P, g1j _ _ _ _ (by omega) (by omega), g1i, d2q, d2q]; rfl
  rw [this] at hu
  exact List.mem_singleton.1 hu
section
variable {H : Hp}
theorem b3Z (hT : TabsH H) {k a b v wv : Int} (hk : 6 ≤ k ∧ k ≤ 10) (ha : Nn a) (hb : Nn b) (hv : opS (k - 2) a b = (v, wv)) {K : Bool → Hp → Prop} (h : ∀ H', Hle H H' → K true H') : t1 k a b v wv H K := by
  unfold t1
  refine c0r fun y1 H1 l1 e1 => c0r fun y2 H2 l2 e2 => f7M (e1.le l2) e2 fun y3 H3 l3 e3 => e3O e3 fun y4 H4 l4 e4 => ?_
  intro s5 H5 l5 h5 _ s6 H6 l6 h6 _
  have l16 := l1.trans (l2.trans (l3.trans (l4.trans (l5.trans l6))))
  have hp : PH H6 ⟨s5, s6⟩ (doesP k a b) := PH.one (h5.le l6) (by show 1 ≤ 4; decide) h6 (by simp) (y5.one (e4.le (l5.trans l6)))
  have hw := d2s hk ha hb
  refine d2p (hT.le l16) hp hw.2 c0s (Nat.le_refl _) (fun x hx => by cases hx) (k := 10) (fun hne => (hne (d8m hw.1 (by decide) (by decide) (Nat.zero_le _))).elim) fun _ o H7 l7 ho => ?_
  rw [show (10 : Int).toNat = 10 from rfl, f0P hk.1 ha hb, hv] at ho
  dsimp only at ho
  have hK := h H7 (l16.trans l7)
  by_cases c : wv = 0
  · rw [if_pos c] at ho
    obtain ⟨q1, q2, q3, q4, q5, q6⟩ := ho
    have hx := q5.2 0 v rfl
    have hn' : ((o.S9.n : Nat) : Int) = 1 := by rw [q5.1]; rfl
    rw [q1, q2, q3, hn', c]
    refine ⟨fun q => by simp at q, fun _ => ⟨fun q => (q rfl).elim, fun _ => ⟨v, fun _ => ⟨Int.le_refl _, by decide, hx⟩, ?_⟩⟩⟩
    simpa using hK
  · rw [if_neg c] at ho
    obtain ⟨q1, q2, q3, q4, q5, q6⟩ := ho
    have hx := q5.2 0 0 rfl
    have hn' : ((o.S9.n : Nat) : Int) = 1 := by rw [q5.1]; rfl
    rw [q1, q2, q3, hn']
    refine ⟨fun q => by simp at q, fun _ => ⟨fun _ => ⟨0, fun _ => ⟨Int.le_refl _, by decide, hx⟩, ?_⟩, fun q => (c q).elim⟩⟩
    simpa using hK
theorem c9p (hT : TabsH H) {k a b : Int} (ha : l0 a) (hb : l0 b) {K : Bool → Hp → Prop} (h : ∀ H', Hle H H' → K true H') : R0 k a b H K := by
  refine a6x _ _ _ ?_
  unfold R3
  refine d2r hT fun H1 l1 => ⟨(fun q => by cases q), fun _ => ⟨fun _ => h H1 l1, fun hn => ?_⟩⟩
  have hab : Nn a ∧ Nn b := by
    rw [Bool.or_eq_false_iff] at hn
    exact ⟨⟨ha, of_decide_eq_false hn.1⟩, ⟨hb, of_decide_eq_false hn.2⟩⟩
  have hT1 := hT.le l1
  have h' : ∀ H', Hle H1 H' → K true H' := fun H' l => h H' (l1.trans l)
  refine ⟨fun e => ?_, fun e6 => ⟨fun e => ?_, fun e7 => ⟨fun e => ?_, fun e8 => ⟨fun e => ?_, fun e9 => ⟨fun e => ?_, fun e10 => h H1 l1⟩⟩⟩⟩⟩
  · exact b7w ha hb (b3Z hT1 (by omega) hab.1 hab.2 (by rw [e]; rfl) h')
  · exact b1O ha hb (b3Z hT1 (by omega) hab.1 hab.2 (by rw [e]; rfl) h')
  · exact b7x ha hb (b3Z hT1 (by omega) hab.1 hab.2 (by rw [e]; rfl) h')
  · exact b7z ha (b3Z hT1 (by omega) hab.1 hab.2 (by rw [e]; rfl) h')
  · exact b7A (b3Z hT1 (by omega) hab.1 hab.2 (by rw [e]; rfl) h')
theorem c5p (hT : TabsH H) {k a b : Int} (_ : l0 k) (ha : l0 a) (hb : l0 b) {K : Bool → Hp → Prop} (h : ∀ H', Hle H H' → K true H') : R0 k a b H K := c9p hT ha hb h
end
end Go.Proofs.YtnhkdkcgdcgmdaaDoor
