/- RunExact: the law. Off the reading. -/
import Derived.Test.YtnhkdkcgdcgmdaaGreatDoorzXS6
namespace Go.Proofs.YtnhkdkcgdcgmdaaGreatDoor
open Go.RowKit
set_option maxRecDepth 100000
set_option maxHeartbeats 4000000
def c0 : Oc := ⟨0, 0, 0, [], [], []⟩
def cR (q : PP) (scr : List Int) (k : Int) : Oc := if errR q scr k = 0 then runQ q scr k.toNat else c0
section
variable {H : Hp}
theorem c2Z (hT : TabsH H) {p : o3} {q : PP} (hp : PH H p q) (hsm : q.Sm) {sc : Sl} {scr : List Int} (hsc : SlH H 1 ci sc scr) (hcap : sc.n ≤ sc.c) (hin : ∀ x ∈ scr, o8 x) (k : Int) :
  Ct Tryz.prog 16 [.agg (q7 p).toArray, vs sc, vi k] H [] (fun v H' Fo => ∃ o, v = .tuple #[.agg (m9 o).toArray, vi (errR q scr k)] ∧ Oown o (cR q scr k) Fo) noQE := by
 intro w I
 refine Cv.mono (c6d hT hp hsm hsc hcap hin k w I) (fun v w' q1 => ?_) fun c w' q1 => ?_
 ·obtain ⟨H1, Fo, J, o, rfl, he, hz⟩ := q1
  by_cases c : errR q scr k = 0
  ·refine ⟨H1, Fo, J, o, rfl, ?_⟩
   unfold cR
   rw [if_pos c]; exact hz c
  ·obtain ⟨rfl, rfl⟩ := he c
   refine ⟨H1, [[], [], []], J.nil.nil.nil, oz, rfl, ?_⟩
   unfold cR
   rw [if_neg c]
   exact ⟨rfl, rfl, rfl, [], [], [], rfl, RowL.nil a2Y a2Z, RowL.nil b3N b4y, RowsL.nil b3N b4y⟩
 ·obtain ⟨_, _, _, q2⟩ := q1
  exact q2.elim
theorem c7w {p : o3} {q : PP} (hp : PH H p q) (hcp : p.D9.n ≤ p.D9.c) (hsm : q.Sm) {sc : Sl} {scr : List Int} (hsc : SlH H 1 ci sc scr) (hin : ∀ x ∈ scr, o8 x) (k : Int) :
  a4V p sc k H fun o e H' => e = errR q scr k ∧ OutH H' o (cR q scr k) := by
 refine d0G hp hcp hsm hsc hin (fun c H' _ => ⟨rfl, ?_⟩) fun c o H' _ ho => ⟨c.symm, ?_⟩
 ·unfold cR
  rw [if_neg c]
  exact ⟨rfl, rfl, rfl, SlH.nil _ _ _, SlH.nil _ _ _, rfl, [], SlH.nil _ _ _, fun i si xs h => by simp at h⟩
 ·unfold cR
  rw [if_pos c]; exact ho
theorem c1y {q : PP} {scr : List Int} {k : Int} (hp : ∃ p, PH H p q) (hsm : q.Sm) (hs : ∀ x ∈ scr, o8 x) :
  (cR q scr k).events.length ≤ big ∧ (cR q scr k).vars.length ≤ big ∧ (cR q scr k).arrs.length ≤ big ∧ ∀ l ∈ (cR q scr k).arrs, l.length ≤ big := by
 obtain ⟨p, hp⟩ := hp
 unfold cR
 by_cases c : errR q scr k = 0
 ·rw [if_pos c]
  obtain ⟨hw, h1, h2, _⟩ := d4a c
  exact c7t hp.bd (by simp only [big]; omega) hw (PH.ars hp hsm ((a9I q).1 hw).1).1 hs
 ·rw [if_neg c]
  exact ⟨Nat.zero_le _, Nat.zero_le _, Nat.zero_le _, fun l h => by cases h⟩
theorem c1T (hT : TabsH H) {p : o3} {q : PP} (hp : PH H p q) (hsm : q.Sm) (hcp : p.D9.n ≤ p.D9.c ∧ p.a2f.n ≤ p.a2f.c) {sc : Sl} {scr : List Int} (hsc : SlH H 1 ci sc scr) (hcap : sc.n ≤ sc.c) (hin : ∀ x ∈ scr, o8 x) {k : Int} (_ : o8 k) {K : Bool → Hp → Prop} (h : ∀ H', Hle H H' → K true H') : a5O p sc k H K := by
 intro w I
 have hsn := hsc.1
 have hbd := hp.bd
 obtain ⟨sm1, sm2, sm3, sm4⟩ := c1y (k := k) ⟨p, hp⟩ hsm hin
 refine d4q ?_
 unfold F5
 refine F0 I (cs := q7 p) rfl fun g3 w2 I2 _ => ?_
 refine s6 (cap := []) (fun args w => Tryz.call14 args w) ?_
 refine R6 (Fi := []) (Fr := [_]) I2 (c6i hT (K := fun r H' => r = true) fun H' _ => rfl) (fun v H1 Fo w4 I4 l1 k1 q1 => ?_) (fun _ _ _ _ _ q => q.elim)
 obtain ⟨r0, rfl, rfl, rfl⟩ := q1
 refine a8 (G3 _) ?_
 refine V3 (fun q => by cases q) fun _ => ?_
 refine s6 (cap := []) (fun args w => Tryz.call15 args w) ?_
 refine R6 (Fi := []) (Fr := [_]) I4 (b1X sc k (K := fun r H' => r = ((decide ((sc.n : Int) ≤ 3000)) && ((decide (k ≤ 3000)) || (decide (65536 < k)))) ∧ H' = H1) ⟨rfl, rfl⟩) (fun v H1' Fo w8 I8 l k1 q1 => ?_) (fun _ _ _ _ _ q => q.elim)
 obtain ⟨r0, rfl, rfl, rfl, rfl⟩ := q1
 refine a8 (G3 _) ?_
 refine V3 (fun hb => ⟨_, _, I8.drop, true, rfl, rfl, h _ l1⟩) fun hb => ?_
 have hs3 : scr.length ≤ 3000 := by
  simp only [Bool.not_eq_false', Bool.and_eq_true, decide_eq_true_eq] at hb
  omega
 refine b9F (s := ⟨none, 0, 0⟩) (xs := []) I8.nil (RowL.nil b3N b4y) ((hsc.le l1).src I8 b3N) (by simp only [List.length_nil]; omega) fun sl Fl w12 hrl I12 k12 => ?_
 rw [List.nil_append] at hrl
 obtain ⟨H2, I13, l2, hl2, hlc⟩ := I12.freezeC hrl (by decide)
 have l12 := l1.trans l2
 refine b6 (ldA (vs := q7 p) Tryz.isAgg25 Tryz.sizeOf25 rfl (I13.at1 (o := 0) (nb rfl) rfl)) ?_
 refine s6 (cap := []) (fun args w => Tryz.call16 args w) ?_
 refine R6 (Fi := []) (Fr := [_]) I13 (c2Z (hT.le l12) (hp.le l12) hsm hl2 hlc hin k) (fun v H3 Fo w16 I16 l3 k3 q3 => ?_) (fun _ _ _ _ _ q => q.elim)
 obtain ⟨o, rfl, a1, a2, a3, Fe, Fv, Fr, rfl, b1, b2, b3⟩ := q3
 refine a8 (m8 _ _ _ rfl) ?_
 refine a8 (m8 _ _ _ rfl) ?_
 refine B9 I16 Tryz.zeroValue42 (cs := m9 oz) rfl fun g8 w22 I22 _ => ?_
 refine o4 I22 Tryz.sizeOf42 (vs := m9 o) (cs' := m9 o) rfl rfl (nb rfl) rfl rfl fun w24 I24 _ => ?_
 have I24 : Inv w (inF []) H H3 [oB g8 o, Fe, Fv, Fr, pB g3 p] w24 := I24
 obtain ⟨H4, I25, l4, s4⟩ := (I24.bring 1).freezeL b1 (by decide)
 have I25 : Inv w (inF []) H H4 [oB g8 o, Fv, Fr, pB g3 p] w24 := I25
 have l14 := l12.trans (l3.trans l4)
 refine b6 (ldA (vs := q7 p) Tryz.isAgg25 Tryz.sizeOf25 rfl ((I25.bring 3).at1 (o := 0) (nb rfl) rfl)) ?_
 refine s6 (cap := []) (fun args w => Tryz.call17 args w) ?_
 refine R6 (Fi := []) (Fr := [_, _, _, _]) I25 (c7w (hp.le l14) hcp.1 hsm (hsc.le l14) hin k) (fun v H5 Fo w28 I28 l5 k5 q5 => ?_) (fun _ _ _ _ _ q => q.elim)
 obtain ⟨ow, ew, rfl, rfl, rfl, how⟩ := q5
 have l15 := l14.trans l5
 refine a8 (m8 _ _ _ rfl) ?_
 refine a8 (m8 _ _ _ rfl) ?_
 refine B9 I28 Tryz.zeroValue42 (cs := m9 oz) rfl fun g10 w34 I34 _ => ?_
 refine o4 I34 Tryz.sizeOf42 (vs := m9 ow) (cs' := m9 ow) rfl rfl (nb rfl) rfl rfl fun w36 I36 _ => ?_
 have I36 : Inv w (inF []) H H5 [oB g10 ow, oB g8 o, Fv, Fr, pB g3 p] w36 := I36
 refine a8 (N9 _ _ _ _ _ _) ?_
 rw [show (!decide (errR q scr k = errR q scr k)) = false by simp]
 refine a5V (b6 (ldA (vs := m9 o) Tryz.isAgg42 Tryz.sizeOf42 rfl ((I36.bring 1).at1 (o := 0) (nb rfl) rfl)) ?_)
 refine a5V (b6 (ldA (vs := m9 ow) Tryz.isAgg42 Tryz.sizeOf42 rfl (I36.at1 (o := 0) (nb rfl) rfl)) ?_)
 refine a5V ?_
 have I37 : Inv w (inF []) H H5 [Fv ++ Fr, oB g10 ow, oB g8 o, pB g3 p] w36 := I36.re [] (fun f f0 fa => by simp only [pB, oB, bx, List.flatten_cons, List.flatten_nil, f0, fa]; omega)
 have hfz := I37.freeze
 obtain ⟨zI, zl, zF⟩ := hfz
 have hoH : OutH (addF H5 (Fv ++ Fr)) o (cR q scr k) := by
  refine ⟨a1, a2, a3, s4.le (l5.trans zl), b2.frozen (by decide) fun p hp => zF p (List.mem_append_left _ hp), ?_⟩
  obtain ⟨ss, Fo1, Fi1, r1, r2, r3⟩ := b3
  exact ⟨by rw [r1.2.1, r2.len], ss, r1.frozen (by decide) fun p hp => zF p (List.mem_append_right _ (r3.symm.mem_iff.1 (List.mem_append_left _ hp))), r2.frozen (by decide) fun p hp => zF p (List.mem_append_right _ (r3.symm.mem_iff.1 (List.mem_append_right _ hp)))⟩
 refine s6 (cap := []) (fun args w => Tryz.call18 args w) ?_
 refine R6 (Fi := []) (Fr := [_, _, _]) zI (b6W hoH (how.le zl) ⟨sm1, sm2, sm3, sm4⟩ (K := fun r H' => r = true) rfl) (fun v H6 Fo w44 I44 l6 k6 q6 => ?_) (fun _ _ _ _ _ q => q.elim)
 obtain ⟨r0, rfl, rfl, rfl⟩ := q6
 obtain ⟨I45, l6'⟩ := I37.again I44 l6
 clear hoH zI zl zF
 generalize subF H6 (Fv ++ Fr) = H7 at I45 l6'
 have I45 : Inv w (inF []) H H7 [Fv, Fr, oB g10 ow, oB g8 o, pB g3 p] w44 := I45.re [] (fun f f0 fa => by simp only [pB, oB, bx, List.flatten_cons, List.flatten_nil, f0, fa]; omega)
 have l17 := l15.trans l6'
 have how7 := how.le l6'
 refine a5V (a8 (G3 _) ?_)
 refine a8 (a8r _ _ _) ?_
 show opK _ _ (gsem (asB (.bool false)) false _) _ _
 refine a5V ?_
 refine s6 (cap := []) (fun args w => Tryz.call19 args w) ?_
 refine R6 (Fi := []) (Fr := [_, _, _, _, _]) I45 (b6d (hl2.le (l3.trans (l4.trans (l5.trans l6')))) (hsc.le l17) (by simp only [big]; omega) (K := fun r H' => r = true) rfl) (fun v H8 Fo w50 I50 l8 k8 q8 => ?_) (fun _ _ _ _ _ q => q.elim)
 obtain ⟨r0, rfl, rfl, rfl⟩ := q8
 refine a5V (a8 (G3 _) ?_)
 refine a8 (a8r _ _ _) ?_
 show xcond (.bool false) _ _
 refine V3 (fun q => by cases q) fun _ => ?_
 have l18 := l17.trans l8
 have how8 := how7.le l8
 have hl8 := hl2.le (l3.trans (l4.trans (l5.trans (l6'.trans l8))))
 have I50 : Inv w (inF []) H H8 [Fv, Fr, oB g10 ow, oB g8 o, pB g3 p] w50 := I50
 clear l1 l2 l3 l4 l5 l6 l6' l8 l12 l14 l15 l17 hl2 how how7 s4 k1 k3 k5 k6 k8 k12
 generalize hnv : (cR q scr k).vars = vs1 at b2 sm2
 generalize hna : (cR q scr k).arrs = as1 at b3 sm3 sm4
 refine r5 fun j1 hj1 => ?_
 refine y7 (J := fun n l w' => ∃ (i : Nat) (xs : List Int) (Fv' : Frag), n = vs1.length - i ∧ l = [vi (i : Int)] ∧ i ≤ vs1.length ∧ xs.length = vs1.length ∧ RowL 2 1 ci o.a5D xs Fv' ∧ Inv w (inF []) H H8 [Fv', Fr, oB g10 ow, oB g8 o, pB g3 p] w')
  ⟨_, 0, vs1, Fv, rfl, rfl, Nat.zero_le _, rfl, b2, I50⟩ ?_
 rintro n τ w51 next6 ⟨i, xs, Fv', rfl, hl4, hi, hxl, hr, I51⟩ hn6
 simp only [List.map_cons, List.map_nil, List.cons.injEq, and_true] at hl4
 simp only [hl4]
 unfold c7O
 refine a8 a2s ?_
 refine b6 (ld1 Tryz.isAgg37 ((I51.bring 3).at1 (o := 4) (vs := [vs o.a5D]) (nb rfl) rfl)) ?_
 refine a8 (a6Y Tryz.underlying37 hr) ?_
 refine a8 (r7 _ _ _ _ _ _) ?_
 simp only [big] at sm2 sm3 sm4
 refine G4 (fun c => ?_) (fun c => ?_)
 ·obtain ⟨y, hy⟩ := r6 (l := xs) (i := i) (by omega)
  obtain ⟨gv, av, hav, _⟩ := hr.addr hy
  refine a8 a2s ?_
  refine b6 (ld1 Tryz.isAgg37 ((I51.bring 3).at1 (o := 4) (vs := [vs o.a5D]) (nb rfl) rfl)) ?_
  refine a8 (P4 hav _ _ _ _ (by omega) (hr.lt (by omega) (by rw [Int.toNat_natCast]; exact hy))) ?_
  rw [Int.toNat_natCast]
  refine b2F (x := (77 : Int)) I51 hr hav (s8 hy) Tryz.sizeOf2 rfl fun F5 w52 hr5 I52 _ => ?_
  refine a8 (r9 _ _ _ _ _ _) ?_
  rw [y9 (by omega) (by omega)]
  exact hn6 _ _ _ (show vs1.length - (i + 1) < vs1.length - i by omega) ⟨i + 1, xs.set i 77, F5, rfl, rfl, by omega, by rw [List.length_set]; exact hxl, hr5, I52⟩
 refine hj1 _ _ ?_
 unfold c7N
 intro _
 clear hn6 hl4 c b2 hxl
 refine r5 fun j2 hj2 => ?_
 refine y7 (J := fun n l w' => ∃ (i : Nat) (xss : List (List Int)) (Fr' : Frag), n = as1.length - i ∧ l = [vi (i : Int)] ∧ i ≤ as1.length ∧ xss.map List.length = as1.map List.length ∧ RowsL 37 2 1 ci o.O9 xss Fr' ∧ Inv w (inF []) H H8 [Fr', Fv', oB g10 ow, oB g8 o, pB g3 p] w')
  ⟨_, 0, as1, Fr, rfl, rfl, Nat.zero_le _, rfl, b3, I51.bring 1⟩ ?_
 clear I51
 rintro n τ w53 next3 ⟨i, xss, Fr', rfl, hl4, hi, hxl, hr3, I53⟩ hn3
 simp only [List.map_cons, List.map_nil, List.cons.injEq, and_true] at hl4
 simp only [hl4]
 have hxl1 : xss.length = as1.length := by have := congrArg List.length hxl; rwa [List.length_map, List.length_map] at this
 unfold c7M
 refine a8 a0j ?_
 refine b6 (ld1 Tryz.isAgg40 ((I53.bring 3).at1 (o := 5) (vs := [vs o.O9]) (nb rfl) rfl)) ?_
 refine a8 (c1E Tryz.underlying40 hr3) ?_
 refine a8 (r7 _ _ _ _ _ _) ?_
 refine G4 (fun c => ?_) (fun c => ?_)
 ·refine r5 fun j4 hj4 => ?_
  obtain ⟨row0, hrow0⟩ := r6 (l := xss) (i := i) (by omega)
  have hb0 : row0.length ≤ 1099511627776 := by
   have e1 := congrArg (fun l : List Nat => l[i]?) hxl
   rw [List.getElem?_map, List.getElem?_map, hrow0] at e1
   obtain ⟨a, ha⟩ := r6 (l := as1) (i := i) (by omega)
   rw [ha] at e1
   have := sm4 a (List.mem_of_getElem? ha)
   have e2 : row0.length = a.length := by simpa using e1
   omega
  refine y7 (J := fun n l w' => ∃ (m : Nat) (yss : List (List Int)) (row : List Int) (Fr' : Frag), n = row0.length - m ∧ l = [vi (m : Int)] ∧ m ≤ row0.length ∧ yss.map List.length = as1.map List.length ∧ yss[i]? = some row ∧ row.length = row0.length ∧ RowsL 37 2 1 ci o.O9 yss Fr' ∧ Inv w (inF []) H H8 [Fr', Fv', oB g10 ow, oB g8 o, pB g3 p] w')
   ⟨_, 0, xss, row0, Fr', rfl, rfl, Nat.zero_le _, hxl, hrow0, rfl, hr3, I53⟩ ?_
  rintro n τ w54 next5 ⟨m, yss, row, Fr2, rfl, hl5, hm, hyl, hrow, hrl2, hr4, I54⟩ hn5
  simp only [List.map_cons, List.map_nil, List.cons.injEq, and_true] at hl5
  simp only [hl5]
  unfold c7L
  have hyl1 : yss.length = as1.length := by have := congrArg List.length hyl; rwa [List.length_map, List.length_map] at this
  obtain ⟨ss, si, F1, F2, F3, ho1, hs1, hi1, hh1, hp1, I55⟩ := RowsL.open_ hr4 I54 hrow
  obtain ⟨ga, aa, hga, _⟩ := ho1.addr hs1
  have hlt1 : (i : Int) < (o.O9.n : Int) := ho1.lt (by omega) (by rw [Int.toNat_natCast]; exact hs1)
  refine a8 a0j ?_
  refine b6 (ld1 Tryz.isAgg40 ((I55.bring 5).at1 (o := 5) (vs := [vs o.O9]) (nb rfl) rfl)) ?_
  refine a8 (a9q hga _ _ _ _ (by omega) hlt1) ?_
  rw [Int.toNat_natCast]
  refine b6 (ld1 (v := vs si) Tryz.isAgg37 (ho1.atW I55 hga hs1)) ?_
  refine a8 (a6Y Tryz.underlying37 hi1) ?_
  refine a8 (r7 _ _ _ _ _ _) ?_
  refine G4 (fun c5 => ?_) (fun c5 => ?_)
  ·obtain ⟨y, hy⟩ := r6 (l := row) (i := m) (by omega)
   obtain ⟨gb, ab, hgb, _⟩ := hi1.addr hy
   refine a8 a0j ?_
   refine b6 (ld1 Tryz.isAgg40 ((I55.bring 5).at1 (o := 5) (vs := [vs o.O9]) (nb rfl) rfl)) ?_
   refine a8 (a9q hga _ _ _ _ (by omega) hlt1) ?_
   rw [Int.toNat_natCast]
   refine b6 (ld1 (v := vs si) Tryz.isAgg37 (ho1.atW I55 hga hs1)) ?_
   refine a8 (P4 hgb _ _ _ _ (by omega) (hi1.lt (by omega) (by rw [Int.toNat_natCast]; exact hy))) ?_
   rw [Int.toNat_natCast]
   refine b2F (x := (77 : Int)) (I55.bring 1) hi1 hgb (s8 hy) Tryz.sizeOf2 rfl fun F6 w56 hr6 I56 _ => ?_
   refine a8 (r9 _ _ _ _ _ _) ?_
   rw [y9 (by omega) (by omega)]
   refine hn5 _ _ _ (show row0.length - (m + 1) < row0.length - m by omega) ⟨m + 1, yss.set i (row.set m 77), row.set m 77, F1 ++ (F6 ++ F3), rfl, rfl, by omega, ?_, ?_, by rw [List.length_set]; exact hrl2, RowsL.c4w ho1 hs1 hr6 hh1, I56.re [] (fun f f0 fa => by simp only [pB, oB, bx, List.flatten_cons, List.flatten_nil, f0, fa]; omega)⟩
   ·rw [List.map_set, List.length_set, ← hyl]
    exact b9y (by rw [List.getElem?_map, hrow]; rfl)
   ·rw [List.getElem?_set_self (s8 hrow)]
  ·refine hj4 _ _ ?_
   unfold c7K
   intro _
   refine a8 (r9 _ _ _ _ _ _) ?_
   rw [y9 (by omega) (by omega)]
   exact hn3 _ _ _ (show as1.length - (i + 1) < as1.length - i by omega) ⟨i + 1, yss, Fr2, rfl, rfl, by omega, hyl, hr4, I54⟩
 refine hj2 _ _ ?_
 unfold c7J
 intro _
 clear hn3 hl4 c b3
 refine b6 (ldA (vs := q7 p) Tryz.isAgg25 Tryz.sizeOf25 rfl ((I53.bring 4).at1 (o := 0) (nb rfl) rfl)) ?_
 refine s6 (cap := []) (fun args w => Tryz.call16 args w) ?_
 refine R6 (Fi := []) (Fr := [_, _, _, _, _]) I53 (c2Z (hT.le l18) (hp.le l18) hsm hl8 hlc hin k) (fun v H9 Fo w60 I60 l9 k9 q9 => ?_) (fun _ _ _ _ _ q => q.elim)
 obtain ⟨o2, rfl, d1, d2, d3, Fe2, Fv2, Fr2, rfl, e1, e2, e3⟩ := q9
 refine a8 (m8 _ _ _ rfl) ?_
 refine a8 (m8 _ _ _ rfl) ?_
 refine B9 I60 Tryz.zeroValue42 (cs := m9 oz) rfl fun g15 w64 I64 _ => ?_
 refine o4 I64 Tryz.sizeOf42 (vs := m9 o2) (cs' := m9 o2) rfl rfl (nb rfl) rfl rfl fun w66 I66 _ => ?_
 have I66 : Inv w (inF []) H H9 [oB g15 o2, Fe2, Fv2, Fr2, Fr', Fv', oB g10 ow, oB g8 o, pB g3 p] w66 := I66
 obtain ⟨H10, J2, l10, s2⟩ := (I66.bring 1).freezeL e1 (by decide)
 obtain ⟨H11, J3, l11, s3⟩ := (J2.bring 1).freezeL e2 (by decide)
 obtain ⟨H12, J4, l12, s4, _⟩ := (J3.bring 1).freezeLL e3 (by decide)
 have J4 : Inv w (inF []) H H12 [oB g15 o2, Fr', Fv', oB g10 ow, oB g8 o, pB g3 p] w66 := J4
 refine b6 (ldA (vs := m9 o2) Tryz.isAgg42 Tryz.sizeOf42 rfl (J4.at1 (o := 0) (nb rfl) rfl)) ?_
 refine b6 (ldA (vs := m9 ow) Tryz.isAgg42 Tryz.sizeOf42 rfl ((J4.bring 3).at1 (o := 0) (nb rfl) rfl)) ?_
 refine s6 (cap := []) (fun args w => Tryz.call18 args w) ?_
 have c7Z := l9.trans (l10.trans (l11.trans l12))
 have hl12 := l18.trans c7Z
 refine R6 (Fi := []) (Fr := [_, _, _, _, _, _]) J4 (b6W (c := cR q scr k) ⟨d1, d2, d3, s2.le (l11.trans l12), s3.le l12, s4⟩ (how8.le c7Z) ?_ (K := fun r H' => r = true ∧ H' = H12) ⟨rfl, rfl⟩) (fun v H13 Fo w70 I70 l13 k13 q13 => ?_) (fun _ _ _ _ _ q => q.elim)
 ·obtain ⟨z1, z2, z3, z4⟩ := c1y (k := k) ⟨p, hp⟩ hsm hin
  exact ⟨z1, z2, z3, z4⟩
 obtain ⟨r0, rfl, rfl, rfl, rfl⟩ := q13
 exact ⟨_, _, I70.drop.drop.drop.drop.drop.drop, true, rfl, rfl, h _ hl12⟩
end
end Go.Proofs.YtnhkdkcgdcgmdaaGreatDoor
