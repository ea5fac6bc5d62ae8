/- The document's unrolling; the law RewriteUnrolls. Contracts off the printed formulas. -/
import Derived.Test.YtnhkdkcgdcgmdaaGreatDoorzUQb
namespace Go.Proofs.YtnhkdkcgdcgmdaaGreatDoor
open Go.RowKit
set_option maxRecDepth 100000
set_option maxHeartbeats 2000000
abbrev UR := g9
def Room (L : Int) : Prop := -5000 ≤ L ∧ L ≤ 4096
def RUnr (n tm : Nat) (t full : PT) : Prop := ∀ (H : Hp) (x : d6) (u : UR) (K : d6 → UR → Hp → Prop), SH H x t → u.fn = (n : Int) → 0 ≤ u.fleft → u.fleft ≤ 4096 →
  (∀ y L' r H', Hle H H' → SH H' y r → Laid u.fleft L' [r] [full] → Room L' → K y ⟨(n : Int), L'⟩ H') → Z3 u x (tm : Int) H K
section
variable {H : Hp}
theorem d0j {n : Nat} {s : Sl} {xs : List d6} {ts : List PT} {u : UR} (hs : SlH H 6 d9 s xs) (hr : u4 (SH H) xs ts) (hc : ts.length ≤ a4f) (ih : ∀ t ∈ ts, RUnr n n t (unrT n t)) (hu : u.fn = (n : Int)) (hL : Room u.fleft) {K : List d6 → UR → Hp → Prop}
    (h : ∀ ys L' rs H', Hle H H' → u4 (SH H') ys rs → Laid u.fleft L' rs (ts.map (unrT n)) → Room L' → rs.length ≤ ts.length → (ts = [] → L' = u.fleft) → K ys ⟨(n : Int), L'⟩ H') : R9 u s H K := by
  refine b2l _ _ ?_
  unfold Y3
  have n1 := hs.1
  have hlen := hr.1
  have hc' := hc
  simp only [a4f] at hc'
  refine U4 (fun (z : List d6 × Int × UR) H' => 0 ≤ z.2.1 ∧ z.2.1 ≤ xs.length ∧ Hle H H' ∧ z.2.2.fn = (n : Int) ∧ Room z.2.2.fleft ∧ (z.2.1 = 0 → z.2.2.fleft = u.fleft) ∧ ∃ rs, u4 (SH H') z.1 rs ∧ rs.length = z.2.1.toNat ∧ Laid u.fleft z.2.2.fleft rs ((ts.take z.2.1.toNat).map (unrT n))) (fun z => (xs.length - z.2.1).toNat) ⟨Int.le_refl _, by dsimp only; omega, Hle.refl _, hu, hL, fun _ => rfl, [], u4.nil, rfl, Laid.nil _⟩ ?_
  rintro ⟨cs, i, v⟩ H1 next ⟨i0, i1, l1, hv, hLv, hz, rs, hcs, hrl, hlaid⟩ hn
  dsimp only at i0 i1 l1 hv hLv hz hcs hrl hlaid ⊢
  unfold U9
  refine ⟨fun q => ?_, fun q => ?_⟩
  · rw [Bool.and_eq_true, decide_eq_true_eq, decide_eq_true_eq] at q
    obtain ⟨x, hx, hE⟩ := (hs.le l1).get i0 q.1
    obtain ⟨t, ht, hxt⟩ := hr.get hx
    refine ⟨i0, q.1, x, hE, ?_⟩
    rw [hv]
    refine ih t (List.mem_of_getElem? ht) H1 x v _ (hxt.le l1) hv q.2 hLv.2 fun y L' r H2 l2 hy hl hL' => ⟨?_, ?_⟩
    · have := hcs.1
      simp only [List.length_cons, List.length_nil]; omega
    · rw [B5 i0 (by omega)]
      refine hn _ _ ⟨by dsimp only; omega, by dsimp only; omega, l1.trans l2, rfl, hL', fun e => by dsimp only at e; omega, rs ++ [r], (hcs.mono fun _ _ => SH.le l2).app (u4.one hy), ?_, ?_⟩ (by dsimp only; omega)
      · dsimp only; rw [List.length_append, List.length_singleton]; omega
      · dsimp only
        rw [show (i + 1).toNat = i.toNat + 1 by omega, O2 ht, List.map_append]
        exact hlaid.app hl
  · unfold U8
    have hv' : v = ⟨(n : Int), v.fleft⟩ := by rw [← hv]
    rw [hv']
    refine h cs v.fleft rs H1 l1 hcs ?_ hLv (by omega) fun e => hz ?_
    · by_cases hi : i < (s.n : Int)
      · rw [decide_eq_true hi, Bool.true_and] at q
        have hneg := of_decide_eq_false q
        have := hlaid.rest (b := (ts.drop i.toNat).map (unrT n)) (by omega)
        rwa [← List.map_append, List.take_append_drop] at this
      · rw [List.take_of_length_le (by omega)] at hlaid; exact hlaid
    · rw [e] at hlen; simp at hlen; rw [hlen] at i1; simp at i1; omega
end
def e1S (n tm : Nat) : PT → PT
  | .mk l cs => unrX tm cs (unrTs n cs) l
theorem e1T (n : Nat) (t : PT) : e1S n n t = unrT n t := by cases t; rw [unrT, e1S]
theorem d4x (n tm : Nat) (k : Int) (s : ByteArray) (ts us vs ws : List PT) : e1S n tm (sN k s ts us vs ws) = unrN tm k s ts us (vs.map (unrT n)) (ws.map (unrT n)) := by
  unfold sN
  rw [e1S, unrX, c6M]
  simp only [List.map_append]
  have h1 : (us.map (unrT n)).length = us.length := List.length_map ..
  have h2 : (ts.map (unrT n)).length = ts.length := List.length_map ..
  have h3 : (vs.map (unrT n)).length = vs.length := List.length_map ..
  rw [List.take_left, List.drop_left, List.take_left]
  have e1 : (us.map (unrT n) ++ (ts.map (unrT n) ++ (vs.map (unrT n) ++ ws.map (unrT n)))).drop us.length = ts.map (unrT n) ++ (vs.map (unrT n) ++ ws.map (unrT n)) := by rw [← h1, List.drop_left]
  have e2 : (ts.map (unrT n) ++ (vs.map (unrT n) ++ ws.map (unrT n))).drop ts.length = vs.map (unrT n) ++ ws.map (unrT n) := by rw [← h2, List.drop_left]
  have e3 : (vs.map (unrT n) ++ ws.map (unrT n)).take vs.length = vs.map (unrT n) := by rw [← h3, List.take_left]
  have e4 : (vs.map (unrT n) ++ ws.map (unrT n)).drop vs.length = ws.map (unrT n) := by rw [← h3, List.drop_left]
  rw [e1, e2, e3, e4]
theorem e3q {k : Int} {nm : ByteArray} {ts us rs3 rs4 vs ws : List PT} {L L3 L4 : Int} (h3 : Laid (L - 1 - cTs us - cTs ts) L3 rs3 vs) (h4 : Laid L3 L4 rs4 ws) (l3 : rs3.length ≤ vs.length) (l4 : rs4.length ≤ ws.length) : Laid L L4 [sN k nm ts us rs3 rs4] [sN k nm ts us vs ws] := by
  refine Laid.node ((Laid.full _ us).app ((Laid.full _ ts).app (h3.app h4))) fun e => ?_
  have e2 := List.append_cancel_left (List.append_cancel_left e)
  have := congrArg List.length e2
  rw [List.length_append, List.length_append] at this
  rw [show rs3.length = vs.length by omega, show rs4.length = ws.length by omega]
section
theorem f3a {n : Nat} (hn8 : n ≤ 8) {t : PT} (hst : StF t) : cT t ≤ a4f → ∀ tm : Nat, tm ≤ 8 → RUnr n tm t (e1S n tm t) := by
  induction hst with
  | @mk k s ts us vs ws h0 h1 h2 hz _ _ ih1 ih2 =>
    intro hcT tm
    have hcnt : cT (sN k s ts us vs ws) = 1 + (cTs us + (cTs ts + (cTs vs + cTs ws))) := by
      unfold sN; rw [cT, a9U, a9U, a9U]
    rw [hcnt] at hcT
    have hcT' := hcT
    simp only [a4f] at hcT'
    induction tm using Nat.strongRecOn with
    | _ tm ihtm =>
    intro htm H e u K he hfn hL0 hL1 h
    have he0 := he
    refine b2K _ _ _ ?_
    unfold Z5
    rw [d4x] at h
    generalize htt : sN k s ts us vs ws = tt at he
    cases he with
    | @mk _ xs ts' ys us' zs bs vs' ws' hs hb hr hc hcb hcr ha hab hal har hbs hbb hbl hbr =>
      unfold sN at htt
      injection htt with hl hk
      injection hl with q1 q2 q3 q4 q5 q6
      subst q1; subst q2
      obtain ⟨w1, hk1⟩ := List.append_inj hk q4
      obtain ⟨w2, hk2⟩ := List.append_inj hk1 q3
      obtain ⟨w3, w4⟩ := List.append_inj hk2 q5
      subst w1; subst w2; subst w3; subst w4
      have n1 := hs.1
      have n2 := hc.1
      have lenE := hr.1
      have lenC := hcr.1
      have lt' := a7P ts
      have lu := a7P us
      have lv := a7P vs
      have lw := a7P ws
      rw [hfn, O9 (a := u.fleft - 1) ⟨by omega, by omega⟩]
      refine U4 (fun (z : Int × Int × ByteArray × List a8 × List b7 × Sl × Sl × UR × d6) H' => 0 ≤ z.1 ∧ z.1 ≤ ys.length ∧ Hle H H' ∧ z.2.1 = e.b6 ∧ z.2.2.1 = e.f6 ∧ z.2.2.2.1 = [] ∧ u4 (CH H') z.2.2.2.2.1 (us.take z.1.toNat) ∧ z.2.2.2.2.2.2.2.1 = ⟨(n : Int), u.fleft - 1 - cTs (us.take z.1.toNat)⟩) (fun z => (ys.length - z.1).toNat) ⟨Int.le_refl _, by dsimp only; omega, Hle.refl _, rfl, rfl, rfl, u4.nil, by simp [cTs]⟩ ?_
      rintro ⟨i, a0, a1, ee, cc, p4, p5, cp, e6⟩ H1 next ⟨i0, i1, l1, e0, e1, e2, hcc, e3⟩ hn
      dsimp only at i0 i1 l1 e0 e1 e2 hcc e3 ⊢
      subst e0; subst e1; subst e2; subst e3
      have hccl : cc.length ≤ ys.length := by rw [hcc.1, List.length_take]; omega
      unfold V8
      refine ⟨fun q => ?_, fun q => ?_⟩
      · obtain ⟨x, hx, hE⟩ := (hc.le l1).get i0 q
        obtain ⟨t, ht, hxt⟩ := hcr.get hx
        have hm := List.mem_of_getElem? ht
        have hcm := b1P hm
        have hat := c6N ht
        have htk := b9X us (i.toNat + 1)
        refine ⟨i0, q, x, hE, cntC (tr t) (by simp only [a4f]; omega) H1 x _ (hxt.le l1) (rcopC (tr t) H1 x _ (hxt.le l1) fun y H2 l2 hy => ⟨by simp only [List.length_cons, List.length_nil]; omega, ?_⟩)⟩
        rw [B5 i0 (by omega), O9 ⟨by dsimp only; omega, by dsimp only; omega⟩]
        refine hn _ _ ⟨by dsimp only; omega, by dsimp only; omega, l1.trans l2, rfl, rfl, rfl, ?_, ?_⟩ (by dsimp only; omega)
        · dsimp only
          rw [show (i + 1).toNat = i.toNat + 1 by omega, O2 ht]
          exact (hcc.mono fun _ _ => CH.le l2).app (u4.one hy)
        · dsimp only
          rw [show (i + 1).toNat = i.toNat + 1 by omega, hat]
          congr 1; omega
      · rw [List.take_of_length_le (by omega)] at hcc
        rw [List.take_of_length_le (by omega)]
        clear hn next
        unfold V7
        refine U4 (fun (z : Int × Int × ByteArray × List a8 × Sl × Sl × UR × d6) H' => 0 ≤ z.1 ∧ z.1 ≤ xs.length ∧ Hle H1 H' ∧ z.2.1 = e.b6 ∧ z.2.2.1 = e.f6 ∧ u4 (EH H') z.2.2.2.1 (ts.take z.1.toNat) ∧ z.2.2.2.2.2.2.1 = ⟨(n : Int), u.fleft - 1 - cTs us - cTs (ts.take z.1.toNat)⟩) (fun z => (xs.length - z.1).toNat) ⟨Int.le_refl _, by dsimp only; omega, Hle.refl _, rfl, rfl, u4.nil, by simp [cTs]⟩ ?_
        rintro ⟨m, a0, a1, ee, o4, o5, cp, e7⟩ H2 next ⟨m0, m1, l2, e0, e1, hee, e3⟩ hn
        dsimp only at m0 m1 l2 e0 e1 hee e3 ⊢
        subst e0; subst e1; subst e3
        have l12 := l1.trans l2
        have heel : ee.length ≤ xs.length := by rw [hee.1, List.length_take]; omega
        unfold V6
        refine ⟨fun q2 => ?_, fun q2 => ?_⟩
        · obtain ⟨x, hx, hE⟩ := (hs.le l12).get m0 q2
          obtain ⟨t, ht, hxt⟩ := hr.get hx
          have hm := List.mem_of_getElem? ht
          have hcm := b1P hm
          have hat := c6N ht
          have htk := b9X ts (m.toNat + 1)
          refine ⟨m0, q2, x, hE, cntE (tr t) (by simp only [a4f]; omega) H2 x _ (hxt.le l12) (rcopE (tr t) H2 x _ (hxt.le l12) fun y H3 l3 hy => ⟨by simp only [List.length_cons, List.length_nil]; omega, ?_⟩)⟩
          rw [B5 m0 (by omega), O9 ⟨by dsimp only; omega, by dsimp only; omega⟩]
          refine hn _ _ ⟨by dsimp only; omega, by dsimp only; omega, l2.trans l3, rfl, rfl, ?_, ?_⟩ (by dsimp only; omega)
          · dsimp only
            rw [show (m + 1).toNat = m.toNat + 1 by omega, O2 ht]
            exact (hee.mono fun _ _ => EH.le l3).app (u4.one hy)
          · dsimp only
            rw [show (m + 1).toNat = m.toNat + 1 by omega, hat]
            congr 1; omega
        · rw [List.take_of_length_le (by omega)] at hee
          rw [List.take_of_length_le (by omega)]
          clear hn next
          unfold V5
          refine d0j (ha.le l12) ⟨hal, fun i x t a b => SH.le l12 (har i x t a b)⟩ (by simp only [a4f]; omega) (fun t ht => by have := ih1 t ht (by have := b1P ht; simp only [a4f]; omega) n hn8; rw [e1T] at this; exact this) rfl ⟨by dsimp only; omega, by dsimp only; omega⟩ fun ys3 L3 rs3 H3 l3 hr3 hl3 hL3 len3 _ => ?_
          have l13 := l12.trans l3
          refine d0j (hbs.le l13) ⟨hbl, fun i x t a b => SH.le l13 (hbr i x t a b)⟩ (by simp only [a4f]; omega) (fun t ht => by have := ih2 t ht (by have := b1P ht; simp only [a4f]; omega) n hn8; rw [e1T] at this; exact this) rfl hL3 fun ys4 L4 rs4 H4 l4 hr4 hl4 hL4 len4 hnil4 => ?_
          have l14 := l13.trans l4
          have hlv : (vs.map (unrT n)).length = vs.length := List.length_map ..
          have hlw : (ws.map (unrT n)).length = ws.length := List.length_map ..
          have z3 := hr3.1
          have z4 := hr4.1
          dsimp only at hl3 hl4 hnil4
          have fin : ∀ (k' : Int) (ys5 : List d6) (rs5 : List PT) (L5 : Int) (H5 : Hp) (full : PT) (e6' e1' : d6), Hle H4 H5 → u4 (SH H5) ys5 rs5 → ys5.length ≤ 4097 → full = unrN tm e.b6 e.f6 ts us (vs.map (unrT n)) (ws.map (unrT n)) → Laid u.fleft L5 [sN k' e.f6 ts us rs5 rs4] [full] → Room L5 → N4 k' e.f6 ee cc ys5 ys4 ⟨(n : Int), L5⟩ e6' e1' H5 K := by
            intro k' ys5 rs5 L5 H5 full e6' e1' l5 hr5 hb5 hfull hlaid hL5
            unfold N4
            intro s6 H6 l6 hS6 _ s7 H7 l7 hS7 _ s8 H8 l8 hS8 _ s9 H9 l9 hS9 _
            have l69 := l7.trans (l8.trans l9)
            have l59 := l6.trans l69
            have l49 := l5.trans l59
            refine h _ L5 (sN k' e.f6 ts us rs5 rs4) H9 (l14.trans l49) ?_ (hfull ▸ hlaid) hL5
            exact SH.node (hS6.le l69) (by omega) (hee.mono fun _ _ => EH.le (l3.trans (l4.trans l49))) (hS7.le (l8.trans l9)) (by omega) (hcc.mono fun _ _ => CH.le (l2.trans (l3.trans (l4.trans l49)))) (hS8.le l9) (by simp only [big]; omega) (hr5.mono fun _ _ => SH.le l59) hS9 (by simp only [big]; omega) (hr4.mono fun _ _ => SH.le l49)
          refine ⟨fun q3 => ?_, fun q3 => ?_⟩
          · simp only [Bool.and_eq_true, decide_eq_true_eq] at q3
            obtain ⟨⟨c4, ct⟩, cL⟩ := q3
            obtain ⟨j, rfl⟩ : ∃ j, tm = j + 1 := ⟨tm - 1, by omega⟩
            obtain ⟨hz1, hz2, hz3⟩ := h0 c4
            rw [show IntKind.wrap .i64 (((j + 1 : Nat) : Int) - 1) = (j : Int) by rw [O9 ⟨by omega, by omega⟩]; omega]
            refine ihtm j (by omega) (by omega) H4 e ⟨(n : Int), L4⟩ _ (he0.le l14) rfl cL hL4.2 fun y L5 r H5 l5 hy hl5 hL5 => ⟨by simp only [List.length_cons, List.length_nil]; omega, ?_⟩
            rw [d4x] at hl5
            dsimp only at hl5
            refine fin 3 _ (rs3 ++ [r]) L5 H5 _ _ _ l5 ((hr3.mono fun _ _ => SH.le (l4.trans l5)).app (u4.one hy)) (by rw [List.length_append, List.length_singleton]; omega) rfl ?_ hL5
            unfold unrN at hl5 ⊢
            rw [if_pos c4] at hl5 ⊢
            rw [unrW, hz1]
            subst hz2; subst hz3
            have hr40 : rs4 = [] := List.length_eq_zero_iff.1 (by simpa using len4)
            subst hr40
            rw [hnil4 rfl] at hl5
            rw [hz1] at hl5
            refine e3q (hl3.app hl5) (Laid.nil _) (by rw [List.length_append, List.length_append, List.length_singleton, List.length_singleton, hlv]; omega) (Nat.le_refl _)
          · refine fin e.b6 ys3 rs3 L4 H4 _ _ _ (Hle.refl _) (hr3.mono fun _ _ => SH.le l4) (by omega) rfl ?_ hL4
            have self := e3q (k := e.b6) (nm := e.f6) (ts := ts) (us := us) hl3 hl4 (by omega) (by omega)
            unfold unrN
            by_cases c4 : e.b6 = 4
            · rw [if_pos c4]
              cases tm with
              | zero => exact self
              | succ j =>
                have cL : L4 < 0 := by
                  simp only [Bool.and_eq_false_iff, decide_eq_false_iff_not] at q3
                  omega
                obtain ⟨hz1, hz2, hz3⟩ := h0 c4
                subst hz2; subst hz3
                have hr40 : rs4 = [] := List.length_eq_zero_iff.1 (by simpa using len4)
                subst hr40
                have e43 := hnil4 rfl
                rw [unrW]
                refine Laid.node ((Laid.full _ us).app ((Laid.full _ []).app ((e43 ▸ hl3 : Laid _ L4 rs3 _).rest cL |>.app (Laid.nil _)))) fun eq => ?_
                exfalso
                have e2 := congrArg List.length (List.append_cancel_left (List.append_cancel_left eq))
                simp only [List.length_append, List.length_nil, List.length_singleton, hlv] at e2
                omega
            · rw [if_neg c4]; exact self
theorem b7U {H : Hp} {p : g7} {q : PP} (hp : PH H p q) (hsm : q.Sm) {n : Int} {K : g7 → Int → Hp → Prop} (h1 : toldS q.nodes ≠ 0 → K ⟨⟨none, 0, 0⟩, ⟨none, 0, 0⟩⟩ (toldS q.nodes) H)
    (h2 : toldS q.nodes = 0 → (n < 0 ∨ 8 < n) → K ⟨⟨none, 0, 0⟩, ⟨none, 0, 0⟩⟩ 290 H)
    (h3 : ∀ H', Hle H H' → toldS q.nodes = 0 → ¬ (n < 0 ∨ 8 < n) → toldS (q.unr n.toNat).nodes ≠ 0 → K ⟨⟨none, 0, 0⟩, ⟨none, 0, 0⟩⟩ (toldS (q.unr n.toNat).nodes) H')
    (h0 : ∀ y H', Hle H H' → toldS q.nodes = 0 → ¬ (n < 0 ∨ 8 < n) → toldS (q.unr n.toNat).nodes = 0 → PH H' y (q.unr n.toNat) → K y 0 H') : a6J p n H K := by
  refine b6L _ _ ?_
  unfold a3N
  refine d4v hp ⟨fun c => h1 c, fun c => ⟨fun b => h2 c (by simpa using b), fun b => ?_⟩⟩
  have hb : ¬ (n < 0 ∨ 8 < n) := by simp only [Bool.or_eq_false_iff, decide_eq_false_iff_not] at b; omega
  have hst := hp.stf hsm c
  obtain ⟨hd, hbd, xs, hsl, hxb, hr⟩ := hp
  obtain ⟨m, rfl⟩ : ∃ m : Nat, n = m := ⟨n.toNat, by omega⟩
  rw [Int.toNat_natCast] at h0 h3
  have lb := a7P q.body
  have hm8 : m ≤ 8 := by omega
  have nd := hd.1
  have hbd' := hbd
  simp only [big] at hbd'
  refine ⟨q.decls, hd, by simp only [List.length_nil]; omega, ?_⟩
  rw [O9 (a := 4096 - (p.r5.n : Int)) ⟨by omega, by omega⟩]
  refine d0j (n := m) hsl hr (by simp only [a4f]; omega) (fun t ht => by have := f3a hm8 (hst.1 t ht) (by have := b1P ht; simp only [a4f]; omega) m hm8; rw [e1T] at this; exact this) rfl ⟨by dsimp only; omega, by dsimp only; omega⟩ fun ys L' rs H1 l1 hrs hlaid hL' hlen _ => ?_
  dsimp only at hlaid
  unfold a2k
  intro s2 H2 l2 hS2 _ s3 H3 l3 hS3 _
  have l13 := l1.trans (l2.trans l3)
  have hrl := hrs.1
  have hp3 : PH H3 ⟨s2, s3⟩ ⟨q.decls, rs⟩ := ⟨hS2.le l3, hbd, ys, hS3, by simp only [big]; omega, hrs.mono fun _ _ => SH.le (l2.trans l3)⟩
  have hgood : wTs (q.decls.map dT) 1 w0S = wTs (q.decls.map dT) 1 w0S := rfl
  have hcore : wTs (PP.nodes ⟨q.decls, rs⟩) 1 w0S = wTs (q.unr m).nodes 1 w0S ∧ ((wTs (q.unr m).nodes 1 w0S).fbad = 0 → rs = q.body.map (unrT m) ∧ 0 ≤ L') := by
    unfold PP.nodes PP.unr
    dsimp only
    rw [a8F, a8F]
    by_cases hw : (wTs (q.decls.map dT) 1 w0S).fbad = 0
    · have hcn := c7Z _ _ _ hw
      have hdl : cTs (q.decls.map dT) = q.decls.length := by
        have : ∀ l : List E0, cTs (l.map dT) = l.length := by
          intro l
          induction l with
          | nil => rfl
          | cons d l ih => rw [List.map_cons, cTs, ih, List.length_cons]; unfold dT; rw [cT, cTs]; omega
        exact this _
      have e0 : w0S.fn = 0 := rfl
      have hok := b4J (q.decls.map dT) 1 w0S i8B
      obtain ⟨e1, k1⟩ := hlaid 1 _ ⟨hok, hw, by rw [hcn, hdl, e0]; omega⟩
      refine ⟨e1, fun hf => ?_⟩
      obtain ⟨e2, e3⟩ := k1 hf
      have := (b4J (q.body.map (unrT m)) 1 _ hok).2
      exact ⟨e2, by omega⟩
    · rw [a3m _ _ _ hw, a3m _ _ _ hw]
      exact ⟨rfl, fun hf => (hw hf).elim⟩
  have htold : toldS (PP.nodes ⟨q.decls, rs⟩) = toldS (q.unr m).nodes := by
    by_cases hf : (wTs (q.unr m).nodes 1 w0S).fbad = 0
    · rw [(hcore.2 hf).1]; rfl
    · unfold toldS
      rw [hcore.1, if_neg hf, if_neg hf]
  refine d4v hp3 ?_
  rw [htold]
  have hzero : toldS (q.unr m).nodes = 0 → 0 ≤ L' ∧ rs = q.body.map (unrT m) := fun hz => by
    have := (f7I hz).1
    exact ⟨(hcore.2 this).2, (hcore.2 this).1⟩
  refine ⟨fun q3 => ?_, fun _ => ?_⟩
  · simp only [Bool.and_eq_true, decide_eq_true_eq] at q3
    have := (hzero q3.2).1
    omega
  · unfold X4
    refine ⟨fun hne => h3 H3 l13 c hb hne, fun hz => ?_⟩
    refine h0 _ H3 l13 c hb hz ?_
    have := (hzero hz).2
    subst this
    exact hp3
theorem c8p {H : Hp} (hT : TabsH H) {p : g7} {q : PP} (hp : PH H p q) (hsm : q.Sm) {n : Int} {X : Prop} (_ : X) {K : Bool → Hp → Prop} (h : ∀ H', Hle H H' → K true H') : a3h p n H K := by
  refine b2n _ _ ?_
  unfold Y4
  refine e9p hT fun H1 l1 => ⟨fun e => (by cases e), fun _ => ?_⟩
  refine f2Z (hT.le l1) (hp.le l1) hsm (fun H2 l2 c => ?_) (fun H2 l2 c b => ?_) (fun H2 l2 c b c' => ?_) fun y H2 l2 c b c' hy => ?_
  · have l12 := l1.trans l2
    refine b7U (hp.le l12) hsm (fun _ => ⟨fun e => (e rfl).elim, fun _ => ⟨fun _ => h H2 l12, fun e => (c e).elim⟩⟩) (fun e => (c e).elim) (fun H3 _ e => (c e).elim) fun z H3 _ e => (c e).elim
  · have l12 := l1.trans l2
    refine b7U (hp.le l12) hsm (fun e => (e c).elim) (fun _ _ => ⟨fun e => (e rfl).elim, fun _ => ⟨fun _ => h H2 l12, fun e => by cases e⟩⟩) (fun H3 _ _ nb => (nb b).elim) fun z H3 _ _ nb => (nb b).elim
  · have l12 := l1.trans l2
    refine b7U (hp.le l12) hsm (fun e => (e c).elim) (fun _ b' => (b b').elim) (fun H3 l3 _ _ _ => ⟨fun e => (e rfl).elim, fun _ => ⟨fun _ => h H3 (l12.trans l3), fun e => (c' e).elim⟩⟩) fun z H3 _ _ _ e => (c' e).elim
  · have l12 := l1.trans l2
    refine b7U (hp.le l12) hsm (fun e => (e c).elim) (fun _ b' => (b b').elim) (fun H3 _ _ _ e => (e c').elim) fun z H3 l3 _ _ _ hz => ⟨fun e => (e rfl).elim, fun _ => ⟨fun e => (e rfl).elim, fun _ => ?_⟩⟩
    refine f1C (hy.le l3) hz ?_
    have hi := (e1H _).1 c'
    have hw : fewP (q.unr n.toNat) = true := g6Z hi.1 hi.2.1
    have : eqS (q.unr n.toNat) (q.unr n.toNat) = true := by
      unfold eqS
      rw [hw, e2K.2 rfl, b9s.2 rfl]; rfl
    rw [this]
    exact h H3 (l12.trans l3)
end
end Go.Proofs.YtnhkdkcgdcgmdaaGreatDoor
