/- Outcomes held against each other. -/
import Derived.Test.YtnhkdkcgdcgmdaaGreatDoorzXQv
namespace Go.Proofs.YtnhkdkcgdcgmdaaGreatDoor
open Go.RowKit
set_option maxRecDepth 100000
set_option maxHeartbeats 4000000
theorem c7t {q : PP} {scr : List Int} {k : Nat} (hbd : q.decls.length ≤ big) (hk : k ≤ big) (hw : (wellS q).2 = 0) (ha : ∀ t ∈ q.body, ArS t ∧ formT t = true) (hs : ∀ x ∈ scr, o8 x) :
  (runQ q scr k).events.length ≤ big ∧ (runQ q scr k).vars.length ≤ big ∧ (runQ q scr k).arrs.length ≤ big ∧ ∀ l ∈ (runQ q scr k).arrs, l.length ≤ big := by
 have hnm := b8p hw
 have hok := c4e hw hs k
 have hcm : Cm ((vD q.decls).map (·.1)) ((aD q.decls).map (·.1)) (fun _ => True) (seqM (q.body.map rnT)) := b1q fun m hm => by
  obtain ⟨t, ht, rfl⟩ := List.mem_map.1 hm
  exact cmS (ha t ht).1 (ha t ht).2 (hnm.mem ht)
 have hsafe := hcm.safe _ hok
 have hend : Okst k k ((vD q.decls).map (·.1)) ((aD q.decls).map (·.1)) (endS (seqM (q.body.map rnT) (s0 q.decls scr k))).2.2 := by
  cases hm : seqM (q.body.map rnT) (s0 q.decls scr k) with
  | ok a s1 => rw [hm] at hsafe; exact hsafe.2.1
  | stop a b s1 => rw [hm] at hsafe; exact hsafe.1
 unfold runQ
 generalize endS (seqM (q.body.map rnT) (s0 q.decls scr k)) = r at hend
 have e1 := c5Y q.decls
 have e2 := c5Z q.decls
 have e3 := congrArg List.length hend.vs
 have e4 := congrArg List.length hend.rs
 rw [List.length_map, List.length_map] at e3 e4
 have e5 := hend.ev
 refine ⟨?_, ?_, ?_, fun l hl => ?_⟩
 ·show r.2.2.events.length ≤ big; omega
 ·show (r.2.2.vars.map (·.2)).length ≤ big; rw [List.length_map]; omega
 ·show (r.2.2.arrs.map (·.2)).length ≤ big; rw [List.length_map]; omega
 ·obtain ⟨p, hp, rfl⟩ := List.mem_map.1 (show l ∈ r.2.2.arrs.map (·.2) from hl)
  have := (hend.rl p hp).1
  simp only [big]; omega
theorem d4a {q : PP} {scr : List Int} {k : Int} (h : errR q scr k = 0) : (wellS q).2 = 0 ∧ 0 ≤ k ∧ k ≤ 65536 ∧ scr.length ≤ 65536 := by
 unfold errR at h
 by_cases c : (wellS q).2 ≠ 0
 ·rw [if_pos c] at h; exact (c h).elim
 ·rw [if_neg c] at h
  by_cases c2 : k < 0 ∨ 65536 < k ∨ 65536 < (scr.length : Int)
  ·rw [if_pos c2] at h; cases h
  ·exact ⟨Decidable.not_not.1 c, by omega, by omega, by omega⟩
section
variable {H : Hp}
theorem b6d {s s' : Sl} {xs : List Int} (h : SlH H 1 ci s xs) (h' : SlH H 1 ci s' xs) (hb : xs.length ≤ big) {K : Bool → Hp → Prop} (hK : K true H) : a2g s s' H K := by
 refine b0t _ _ ?_
 unfold a4g
 have n1 := h.1; have n2 := h'.1
 simp only [big] at hb
 refine ⟨fun hne => (hne (by omega)).elim, fun _ => ?_⟩
 refine T9 (fun (i : Int) H' => 0 ≤ i ∧ i ≤ xs.length ∧ H' = H) (fun i => (xs.length - i).toNat) ⟨Int.le_refl _, by omega, rfl⟩ ?_
 rintro i H1 next ⟨i0, i1, rfl⟩ hn
 unfold a1d
 refine ⟨fun hc => ?_, fun hc => ?_⟩
 ·obtain ⟨x, hx, hE⟩ := h.get i0 hc
  obtain ⟨y, hy, hF⟩ := h'.get i0 (show i < (s'.n : Int) by omega)
  rw [hx] at hy
  cases hy
  refine ⟨i0, hc, x, hE, i0, by omega, x, hF, fun hne => (hne rfl).elim, fun _ => ?_⟩
  rw [y9 i0 (by omega)]
  exact hn _ _ ⟨by omega, by omega, rfl⟩ (by omega)
 ·exact hK
theorem b6W {o o' : i5} {c : Oc} (h : OutH H o c) (h' : OutH H o' c) (hb : c.events.length ≤ big ∧ c.vars.length ≤ big ∧ c.arrs.length ≤ big ∧ ∀ l ∈ c.arrs, l.length ≤ big) {K : Bool → Hp → Prop} (hK : K true H) : a5W o o' H K := by
 obtain ⟨b1, b2, b3, b4⟩ := hb
 refine a9S _ _ ?_
 unfold a3z
 obtain ⟨a1, a2, a3, a4, a5, a6⟩ := h
 obtain ⟨c1, c2, c3, c4, c5, c6⟩ := h'
 rw [a1, a2, a3, c1, c2, c3]
 have e1 : ((o.Q6.n : Nat) : Int) = (o'.Q6.n : Nat) := by rw [a4.1, c4.1]
 have e2 : ((o.O9.n : Nat) : Int) = (o'.O9.n : Nat) := by rw [a6.1, c6.1]
 rw [e1, e2]
 refine a4L true (fun _ K' hk => b6d a5 c5 b2 hk) ?_
 simp only [decide_true, Bool.not_true, Bool.or_self, if_true, Bool.false_eq_true, false_implies, true_and, forall_const]
 simp only [big] at b1 b3
 have n1 := a4.1; have n2 := c4.1; have n3 := a6.1; have n4 := c6.1
 refine T9 (fun (i : Int) H' => 0 ≤ i ∧ i ≤ c.events.length ∧ H' = H) (fun i => (c.events.length - i).toNat) ⟨Int.le_refl _, by omega, rfl⟩ ?_
 rintro i H1 next ⟨i0, i1, rfl⟩ hn
 unfold R8
 refine ⟨fun hc => ?_, fun hc => ?_⟩
 ·obtain ⟨x, hx, hE⟩ := a4.get i0 hc
  obtain ⟨y, hy, hF⟩ := c4.get i0 (show i < (o'.Q6.n : Int) by omega)
  rw [hx] at hy
  cases hy
  refine ⟨i0, hc, x, hE, i0, by omega, x, hF, fun hne => (hne ⟨rfl, rfl, rfl⟩).elim, fun _ => ?_⟩
  rw [y9 i0 (by omega)]
  exact hn _ _ ⟨by omega, by omega, rfl⟩ (by omega)
 ·unfold a0o
  clear hn hc i0 i1 next
  refine T9 (fun (i : Int) H' => 0 ≤ i ∧ i ≤ c.arrs.length ∧ H' = H1) (fun i => (c.arrs.length - i).toNat) ⟨Int.le_refl _, by omega, rfl⟩ ?_
  rintro i H2 next ⟨i0, i1, rfl⟩ hn
  unfold a0m
  refine ⟨fun hc => ?_, fun hc => ?_⟩
  ·obtain ⟨_, ss, s1, s2⟩ := a6
   obtain ⟨_, ss', s1', s2'⟩ := c6
   obtain ⟨x, hx, hE⟩ := s1.get i0 hc
   obtain ⟨y, hy, hF⟩ := s1'.get i0 (show i < (o'.O9.n : Int) by omega)
   obtain ⟨l, hl⟩ := r6 (l := c.arrs) (i := i.toNat) (by omega)
   refine ⟨i0, hc, x, hE, i0, by omega, y, hF, b6d (s2 _ _ _ hx hl).1 (s2' _ _ _ hy hl).1 (b4 l (List.mem_of_getElem? hl)) ⟨(fun q => by cases q), fun _ => ?_⟩⟩
   rw [y9 i0 (by omega)]
   exact hn _ _ ⟨by omega, by omega, rfl⟩ (by omega)
  ·exact hK
end
theorem c4i (ds : List i8) : (kF 1 ds).map (·.d9) = (vD ds).map (·.1) := by
 unfold kF vD
 rw [List.map_map]
 have : (fun d : i8 => decide (kindD d = 1)) = fun d => !decide (0 < d.A4) := by
  funext d
  unfold kindD
  by_cases c : 0 < d.A4
  ·rw [if_pos c, decide_eq_true c]; rfl
  ·rw [if_neg c, decide_eq_false c]; rfl
 rw [this]; rfl
theorem d4J (ds : List i8) : (kF 2 ds).map (·.d9) = (aD ds).map (·.1) ∧ (kF 2 ds).map (fun d => List.replicate d.A4.toNat (0 : Int)) = (aD ds).map (·.2) := by
 unfold kF aD
 rw [List.map_map, List.map_map]
 have : (fun d : i8 => decide (kindD d = 2)) = fun d => decide (0 < d.A4) := by
  funext d
  unfold kindD
  by_cases c : 0 < d.A4
  ·rw [if_pos c, decide_eq_true c]; rfl
  ·rw [if_neg c, decide_eq_false c]; rfl
 rw [this]; exact ⟨rfl, rfl⟩
theorem d0F (ds : List i8) : (vD ds).map (·.2) = List.replicate ((kF 1 ds).map (·.d9)).length 0 := by
 rw [c4i, List.length_map]
 unfold vD
 rw [List.map_map]
 refine List.eq_replicate_iff.2 ⟨by rw [List.length_map, List.length_map], fun x hx => ?_⟩
 obtain ⟨d, _, rfl⟩ := List.mem_map.1 hx
 rfl
section
variable {H : Hp}
theorem d0G {p : o3} {q : PP} (hp : PH H p q) (hcp : p.D9.n ≤ p.D9.c) (hsm : q.Sm) {sc : Sl} {scr : List Int} (hsc : SlH H 1 ci sc scr) (hin : ∀ x ∈ scr, o8 x) {k : Int} {K : i5 → Int → Hp → Prop}
  (h1 : errR q scr k ≠ 0 → ∀ H', Hle H H' → K oz (errR q scr k) H') (h0 : errR q scr k = 0 → ∀ o H', Hle H H' → OutH H' o (runQ q scr k.toNat) → K o 0 H') : a4V p sc k H K := by
 refine b1Y _ _ _ ?_
 unfold a5r
 have hsn := hsc.1
 refine c4g hp hcp fun H1 l1 => ⟨fun hne => ?_, fun he => ⟨fun hc => ?_, fun hc => ?_⟩⟩
 ·have e : errR q scr k = (wellS q).2 := by unfold errR; rw [if_pos hne]
  have := h1 (by rw [e]; exact hne) H1 l1
  rw [e] at this
  exact this
 ·have e : errR q scr k = 80 := by
   unfold errR
   rw [if_neg (fun q => q he), if_pos]
   simp only [Bool.or_eq_true, decide_eq_true_eq] at hc
   omega
  have := h1 (by rw [e]; decide) H1 l1
  rw [e] at this
  exact this
 have hb : 0 ≤ k ∧ k ≤ 65536 ∧ scr.length ≤ 65536 := by
  simp only [Bool.or_eq_false_iff, decide_eq_false_iff_not] at hc
  omega
 obtain ⟨n, rfl⟩ : ∃ n : Nat, k = n := ⟨k.toNat, by omega⟩
 have herr := c7X (scr := scr) he hb.1 hb.2.1 hb.2.2
 have hg := h0 herr
 rw [Int.toNat_natCast] at hg
 clear h0 h1 hc
 obtain ⟨htold, hd, _⟩ := (a9I q).1 he
 have hz : SzOk q.decls := c2X htold
 have hbd := hp.bd
 simp only [big] at hbd
 refine c7s (hp.le l1) hz fun nm H2 l2 hnm => ?_
 have hnn := hnm.1
 have hl1 : ((kF 1 q.decls).map (·.d9)).length ≤ q.decls.length := by rw [List.length_map]; exact List.length_filter_le _ _
 refine ⟨by omega, by omega, ?_⟩
 have l12 := l1.trans l2
 refine c4h (hp.le l12) hz fun ar H3 l3 har => ?_
 have l13 := l12.trans l3
 have han := har.1
 have hl2 : (kF 2 q.decls).length ≤ q.decls.length := List.length_filter_le _ _
 generalize has : kF 2 q.decls = ads at har han hl2
 have hsz : ∀ d ∈ ads, 0 ≤ d.A4 ∧ d.A4 ≤ 1024 := fun d hm => by
  rw [← has] at hm
  have hm := (List.mem_filter.1 hm).1
  exact ⟨hz d hm, hd.2.1 d hm⟩
 refine T9 (fun (z : Int × Sl × Int × Bool × Bool × Int × Int × Int × (List d7) × (List (List Int)) × Sl × (List ByteArray) × Int × i5) H' => H' = H3 ∧ 0 ≤ z.1 ∧ z.1 ≤ ads.length ∧
   z.2 = (sc, (n : Int), false, false, 0, 0, 0, [], (ads.take z.1.toNat).map (fun d => List.replicate d.A4.toNat (0 : Int)), nm, (ads.take z.1.toNat).map (·.d9), 0, ⟨0, 0, 0, ⟨none, 0, 0⟩, ⟨none, 0, 0⟩, ⟨none, 0, 0⟩⟩))
  (fun z => (ads.length - z.1).toNat) ⟨rfl, Int.le_refl _, by show (0 : Int) ≤ ads.length; omega, rfl⟩ ?_
 rintro ⟨i, z⟩ H4 next ⟨rfl, i0, i1, hzz⟩ hnx
 dsimp only at i0 i1 hzz
 subst hzz
 unfold a1U
 refine ⟨fun c => ?_, fun c => ?_⟩
 ·obtain ⟨d, hdd, hE⟩ := har.get i0 c
  have hs := hsz d (List.mem_of_getElem? hdd)
  have hlt := s8 hdd
  refine ⟨i0, c, d, hE, ?_, hs.1, by omega, ?_, ?_⟩
  ·simp only [List.length_map, List.length_take, List.length_cons, List.length_nil]; omega
  ·simp only [List.length_map, List.length_take, List.length_cons, List.length_nil]; omega
  ·rw [y9 i0 (by omega)]
   refine hnx _ _ ⟨rfl, by dsimp only; omega, by dsimp only; omega, ?_⟩ (by dsimp only; omega)
   dsimp only
   rw [show (i + 1).toNat = i.toNat + 1 by omega, N5 hdd, List.map_append, List.map_append]
   rfl
 ·have hie : i.toNat = ads.length := by omega
  unfold a1T
  rw [hie, List.take_length]
  intro ls H5 l5 hls _
  have l15 := l13.trans l5
  have hp5 := hp.le l15
  have hst5 : ∃ xs, SlH H5 6 f8 p.a2f xs ∧ xs.length ≤ big ∧ C0 (SH H5) xs q.body := hp5.b
  obtain ⟨xs, hxs, hxb, hxr⟩ := hst5
  obtain ⟨hars, _⟩ := PH.ars hp5 hsm htold
  have hnms := b8p he
  have hok := c4e he hin n
  have ea := d4J q.decls
  rw [has] at ea
  have hX : DxH H5 ((vD q.decls).map (·.1)) ((aD q.decls).map (·.1)) ⟨sc, scr, nm, ls⟩ := by
   refine ⟨hsc.le l15, ?_, ?_, hb.2.2, ?_, ?_⟩
   ·rw [← c4i]; exact hnm.le (l3.trans l5)
   ·rw [← ea.1]; exact hls
   ·rw [← c4i]; simp only [big]; omega
   ·rw [← ea.1, List.length_map]; simp only [big]; omega
  have hdk : DOk n n ((vD q.decls).map (·.1)) ((aD q.decls).map (·.1)) ⟨sc, scr, nm, ls⟩ (s0 q.decls scr n) := ⟨hok, List.suffix_refl _⟩
  have e0 : dO ⟨sc, scr, nm, ls⟩ (s0 q.decls scr n) = ⟨sc, (n : Int), false, false, ⟨0, 0, 0, ⟨none, 0, 0⟩, ⟨none, 0, 0⟩, ⟨none, 0, 0⟩⟩, nm, ls, 0⟩ := by
   show b8.mk _ _ _ _ _ _ _ _ = b8.mk _ _ _ _ _ _ _ _
   have : ((scr.length - (s0 q.decls scr n).script.length : Nat) : Int) = 0 := by show ((scr.length - scr.length : Nat) : Int) = 0; omega
   rw [this]; rfl
  have ev : (s0 q.decls scr n).vars.map (·.2) = List.replicate nm.n 0 := by rw [hnn]; exact d0F q.decls
  have er : (s0 q.decls scr n).arrs.map (·.2) = ads.map (fun d => List.replicate d.A4.toNat (0 : Int)) := ea.2.symm
  have hk1 : (n : Int) ≤ 1000000 := by omega
  have hk2 : n ≤ 1000000 := by omega
  have out : ∀ (st wr : Int) (σ1 : St) (H6 : Hp) (K2 : i5 → Int → Hp → Prop) (a0 a5 a6 : Sl) (a1 a7 : Int) (a2 a3 : Bool) (o : i5), Hle H5 H6 → (∀ o H', Hle H H' → OutH H' o (ocS (st, wr, σ1)) → K2 o 0 H') →
    C1 a0 a1 a2 a3 st wr σ1.steps σ1.events (σ1.vars.map (·.2)) (σ1.arrs.map (·.2)) a5 a6 a7 o p H6 K2 := by
   intro st wr σ1 H6 K2 a0 a5 a6 a1 a7 a2 a3 o l6 hK
   unfold C1
   intro s1 H7 l7 hs1 _ s2 H8 l8 hs2 _ s3 H9 l9 hs3 _
   exact hK _ H9 (l15.trans (l6.trans (l7.trans (l8.trans l9)))) ⟨rfl, rfl, rfl, hs1.le (l8.trans l9), hs2.le l9, hs3⟩
  have hgo := c1w (k0 := n) (ev0 := n) (X := ⟨sc, scr, nm, ls⟩) (σ := s0 q.decls scr n) hxs hxb hxr (fun t ht => ⟨cmS (hars t ht).1 (hars t ht).2 (hnms.mem ht), d4I hk1 hk2 (hars t ht).1 (hars t ht).2 (hnms.mem ht)⟩) hdk hX
   (K := fun (y : b8) y3 y4 y5 H6 => (y.fout = true →
    C1 y.fscript y.fleft y.fended y.fout 1 y.fo.u1 y.fo.s7 y3 y4 y5 y.fnames y.flists y.ftaken ⟨0, 0, 0, ⟨none, 0, 0⟩, ⟨none, 0, 0⟩, ⟨none, 0, 0⟩⟩ p H6 K) ∧
    (y.fout = false → ((!y.fended) = true →
    C1 y.fscript y.fleft y.fended y.fout 2 y.fo.u1 y.fo.s7 y3 y4 y5 y.fnames y.flists y.ftaken ⟨0, 0, 0, ⟨none, 0, 0⟩, ⟨none, 0, 0⟩, ⟨none, 0, 0⟩⟩ p H6 K) ∧
    ((!y.fended) = false →
    C1 y.fscript y.fleft y.fended y.fout y.fo.u6 y.fo.u1 y.fo.s7 y3 y4 y5 y.fnames y.flists y.ftaken ⟨0, 0, 0, ⟨none, 0, 0⟩, ⟨none, 0, 0⟩, ⟨none, 0, 0⟩⟩ p H6 K)))
   ⟨fun _ σ1 H6 l6 e6 => ?_, fun st wr σ1 _ H6 l6 e6 => ?_⟩
  ·rw [e0, ev, er] at hgo
   exact hgo
  ·refine ⟨fun q => (by cases q), fun _ => ⟨fun _ => ?_, fun q => (by cases q)⟩⟩
   refine out 2 0 σ1 H6 K _ _ _ _ _ _ _ _ l6 fun o H' lh ho => hg o H' lh ?_
   unfold runQ
   rw [e6]; exact ho
  ·have hend : ∀ o H', Hle H H' → OutH H' o (ocS (st, wr, σ1)) → K o 0 H' := fun o H' lh ho => hg o H' lh (by unfold runQ; rw [e6]; exact ho)
   by_cases c1 : st = 1
   ·subst c1
    exact ⟨fun _ => out 1 wr σ1 H6 K _ _ _ _ _ _ _ _ l6 hend, fun q => (by cases q)⟩
   ·refine ⟨fun q => ?_, fun _ => ⟨fun q => ?_, fun _ => ?_⟩⟩
    ·have q' : decide (st = 1) = true := q
     exact (c1 (of_decide_eq_true q')).elim
    ·have q' : (!(!decide (st = 1))) = true := q
     rw [decide_eq_false c1] at q'; cases q'
    ·show C1 _ _ _ _ (if st = 1 then 0 else st) _ _ _ _ _ _ _ _ _ _ _ _
     rw [if_neg c1]
     exact out st wr σ1 H6 K _ _ _ _ _ _ _ _ l6 hend
end
section
variable {H : Hp}
theorem SH.give {s : ByteArray} {sl : Sl} {a : m2} {t : PT} (hS : SlH H 4 f4 sl [a]) (ha : EH H a t) : SH H ⟨1, s, sl, ⟨none, 0, 0⟩, ⟨none, 0, 0⟩, ⟨none, 0, 0⟩⟩ (sN 1 s [t] [] [] []) := SH.node hS (by simp [big]) (C0.one ha) (SlH.nil _ _ _) (Nat.zero_le _) C0.nil (SlH.nil _ _ _) (Nat.zero_le _) C0.nil (SlH.nil _ _ _) (Nat.zero_le _) C0.nil
theorem PH.one {sd sb : Sl} {q : PP} {xs : List m7} (hd : SlH H 2 o7 sd q.decls) (hdl : q.decls.length ≤ 4) (hb : SlH H 6 f8 sb xs) (hbl : xs.length ≤ 4) (hr : C0 (SH H) xs q.body) : PH H ⟨sd, sb⟩ q := ⟨hd, by simp only [big]; omega, xs, hb, by simp only [big]; omega, hr⟩
theorem c6h : SlH H 1 ci ⟨none, 0, 0⟩ ([] : List Int) := SlH.nil _ _ _
theorem d4b : Fine 1 1 (eN 2 0 xS []) := a8E (n := 0) (h := 0) (l := .expr 2 0 xS 0) (cs := []) (Int.le_refl 0) (fun t ht => by cases ht) (by decide) (by show (if (true || false) = true then nameS xS else true) = true; exact c0l) ⟨c7p, z64⟩
theorem c7u {k : Int} {a b : PT} {n : Nat} {h : Int} (hk : 6 ≤ k ∧ k ≤ 10) (h0 : 0 ≤ h) (ha : Fine n h a) (hb : Fine n h b) : Fine (1 + 2 * n) (h + 1) (eN k 0 oS [a, b]) :=
 a8E (l := .expr k 0 oS 2) h0 (d0C ha hb) (by
  show formE k 0 oS 2 = true
  unfold formE
  have h1 : k ≠ 1 := by omega
  have h2 : k ≠ 2 := by omega
  have h3 : k ≠ 3 := by omega
  have h4 : k ≠ 4 := by omega
  have h5 : k ≠ 5 := by omega
  simp [h1, h2, h3, h4, h5]
  omega) (by
  show (if (decide (k = 2) || decide (k = 4)) = true then nameS oS else true) = true
  rw [if_neg]
  simp
  omega) ⟨c4f, z64⟩
theorem b8P {a : PT} {n : Nat} {h : Int} (h0 : 0 ≤ h) (ha : Fine n h a) : Fine (1 + 1 * n) (h + 1) (sN 1 xS [a] [] [] []) :=
 a8E (l := .stmt 1 xS 1 0 0 0) h0 (d0B ha) (by decide) (by show (if (true || false) = true then nameS xS else true) = true; exact c0l) ⟨c7p, z64⟩
def b8q : PP := ⟨[⟨xS, 0⟩], [sN 1 xS [eN 1 1 oS []] [] [] [], sN 1 xS [eN 6 0 oS [eN 2 0 xS [], eN 1 2 oS []]] [] [] []]⟩
theorem d6L : DeclOk [⟨xS, 0⟩] := (b6b _).1 rfl
theorem d6M : plainT 1 = eN 1 1 oS [] := rfl
theorem d6N : plainT 2 = eN 1 2 oS [] := rfl
theorem b8Q : (wellS b8q).2 = 0 ∧ b8q.Sm := by
 refine c6e (n := 6) (h := 4) (fun d hd => ?_) (fun t ht => ?_) (by decide) (by decide) (by decide) d6L (fun u hu => ?_)
 ·rw [List.mem_singleton.1 hd]; exact ⟨c0l, c7p, by decide, by decide⟩
 ·rcases List.mem_cons.1 ht with e | ht
  ·rw [e, ← d6M]; exact (b8P (by decide) (c1u n1)).up (by decide) (by decide)
  ·rw [List.mem_singleton.1 ht, ← d6N]; exact (b8P (by decide) (c7u (by decide) (by decide) (d4b.up (by decide) (by decide)) (c1u n2))).up (by decide) (by decide)
 ·have : uTs b8q.body = [⟨xS, false⟩, ⟨xS, false⟩, ⟨xS, false⟩] := by kernel_rfl
  rw [this] at hu
  have hk : kOf b8q.decls xS = 1 := by kernel_rfl
  simp only [List.mem_cons, List.not_mem_nil, or_false, or_self] at hu
  rw [hu]; exact hk
theorem c7v : runQ b8q [] 9 = ⟨2, 0, 2, [], [3], []⟩ := by kernel_rfl
theorem c6i (hT : TabsH H) {K : Bool → Hp → Prop} (h : ∀ H', Hle H H' → K true H') : a6L H K := by
 refine b0u ?_
 unfold a4h
 intro s1 H1 l1 h1 _ s2 H2 l2 h2 _ s3 H3 l3 h3 _ s4 H4 l4 h4 _ s5 H5 l5 h5 _
 have l45 := l4.trans l5
 have l35 := l3.trans l45
 have l25 := l2.trans l35
 have e1 : EH H5 ⟨6, 0, oS, s1⟩ (eN 6 0 oS [eN 2 0 xS [], eN 1 2 oS []]) := EH.node (h1.le l25) (by simp [big]) ((C0.one (EH.leaf _ _ _ _)).app (C0.one (EH.leaf _ _ _ _)))
 have hp : PH H5 ⟨s4, s5⟩ b8q := PH.one (h4.le l5) (by decide) h5 (by simp) ((C0.one (SH.give (h2.le l35) (EH.leaf _ _ _ _))).app (C0.one (SH.give (h3.le l45) e1)))
 refine d3V (hT.le (l1.trans l25)) hp b8Q.2 c6h (Nat.le_refl _) (fun x hx => by cases hx) (k := 9) (fun hne => (hne (c7X b8Q.1 (by decide) (by decide) (Nat.zero_le _))).elim) fun _ o H6 l6 ho => ?_
 rw [show (9 : Int).toNat = 9 from rfl, c7v] at ho
 obtain ⟨q1, q2, q3, q4, q5, q6⟩ := ho
 have hn := q5.1
 have hx := q5.2 0 3 rfl
 have hn' : ((o.a5D.n : Nat) : Int) = 1 := by rw [hn]; rfl
 refine ⟨3, fun _ => ⟨Int.le_refl _, by rw [hn']; decide, hx⟩, ?_⟩
 rw [q1, q3, hn']
 exact h H6 ((l1.trans l25).trans l6)
end
def subF (H : Hp) (F : Frag) : Hp := fun i => if F.any (fun p => p.1 == i) = true then none else H i
section
variable {w0 w w' : World} {ps : Nat → Prop} {H0 H H' : Hp} {Fs : List Frag} {F : Frag}
theorem d0H {p : Nat × Obj} (hp : p ∈ F) : subF H F p.1 = none := by
 unfold subF
 rw [if_pos (List.any_eq_true.2 ⟨p, hp, by simp⟩)]
theorem b6e {i : Nat} (h : ∀ p ∈ F, p.1 ≠ i) : subF H F i = H i := by
 unfold subF
 rw [if_neg]
 intro q
 obtain ⟨p, hp, e⟩ := List.any_eq_true.1 q
 exact h p hp (by simpa using e)
theorem c2Y : Hle (subF H F) H := fun i o h => by
 unfold subF at h
 split at h
 ·cases h
 ·exact h
theorem Inv.thaw (I : Inv w0 ps H0 H Fs w) (hF : ∀ p ∈ F, H p.1 = some p.2) (hn : (F.map (·.1)).Nodup) (hf : ∀ p ∈ F, ps p.1 ∨ w0.heap.size ≤ p.1) (h0 : ∀ p ∈ F, H0 p.1 = none) : Inv w0 ps H0 (subF H F) (F :: Fs) w := by
 have out : ∀ i, H i = none ∨ (∀ p ∈ F, p.1 ≠ i) → ∀ p ∈ F, H i = none → p.1 ≠ i := fun i _ p hp hi e => by
  subst e
  rw [hF p hp] at hi
  cases hi
 refine ⟨fun i o h => I.sub i o (c2Y i o h), ?_, ?_, ?_, ?_, I.frame, I.mono, I.os, I.tape, I.output, ?_, ?_⟩
 ·intro p hp
  rw [List.flatten_cons] at hp
  rcases List.mem_append.1 hp with hp | hp
  ·exact I.sub _ _ (hF p hp)
  ·exact I.own p hp
 ·intro p hp
  rw [List.flatten_cons] at hp
  rcases List.mem_append.1 hp with hp | hp
  ·exact d0H hp
  ·cases h : subF H F p.1 with
   | none => rfl
   | some o => have := c2Y _ _ h; rw [I.priv p hp] at this; cases this
 ·rw [List.flatten_cons, List.map_append]
  refine List.nodup_append.2 ⟨hn, I.nodup, ?_⟩
  intro a ha b hb e
  subst e
  obtain ⟨p, hp, rfl⟩ := List.mem_map.1 ha
  obtain ⟨q, hq, e⟩ := List.mem_map.1 hb
  have := I.priv q hq
  rw [e, hF p hp] at this
  cases this
 ·intro p hp
  rw [List.flatten_cons] at hp
  rcases List.mem_append.1 hp with hp | hp
  ·exact hf p hp
  ·exact I.fresh p hp
 ·intro i o h
  rw [b6e fun p hp e => by subst e; rw [h0 p hp] at h; cases h]
  exact I.le i o h
 ·intro i hi hp
  rw [b6e fun q hq e => by
   subst e
   rcases hf q hq with h | h
   ·exact hp h
   ·omega]
  exact I.back i hi hp
theorem Inv.again (I : Inv w0 ps H0 H (F :: Fs) w) (J : Inv w0 ps H0 H' Fs w') (l : Hle (addF H F) H') : Inv w0 ps H0 (subF H' F) (F :: Fs) w' ∧ Hle H (subF H' F) := by
 have nd := I.nodup
 rw [List.flatten_cons, List.map_append] at nd
 obtain ⟨n1, _, _⟩ := List.nodup_append.1 nd
 have hin : ∀ p ∈ F, p ∈ (F :: Fs).flatten := fun p hp => List.mem_append_left _ hp
 refine ⟨J.thaw (fun p hp => l _ _ (c1X n1 hp)) n1 (fun p hp => I.fresh p (hin p hp)) (fun p hp => ?_), fun i o h => ?_⟩
 ·cases h : H0 p.1 with
  | none => rfl
  | some o => have := I.le _ _ h; rw [I.priv p (hin p hp)] at this; cases this
 ·rw [b6e fun p hp e => by subst e; rw [I.priv p (hin p hp)] at h; cases h]
  exact l _ _ (I.freeze.2.1 _ _ h)
end
end Go.Proofs.YtnhkdkcgdcgmdaaGreatDoor
