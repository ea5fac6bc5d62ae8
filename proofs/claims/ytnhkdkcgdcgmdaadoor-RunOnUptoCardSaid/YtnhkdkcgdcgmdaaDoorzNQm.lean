/- A program's run. Off the readings. -/
import Derived.Test.YtnhkdkcgdcgmdaaDoorzNNc
import Derived.Test.YtnhkdkcgdcgmdaaDoorzNQl
namespace Go.Proofs.YtnhkdkcgdcgmdaaDoor
open Go.RowKit
set_option maxRecDepth 100000
set_option maxHeartbeats 4000000
section
variable {H : Hp}
theorem d5c {ν : Type} {l : List (ByteArray × ν)} {ks : List ByteArray} (h : l.map (·.1) = ks) {j : Nat} {s : ByteArray} (hs : ks[j]? = some s) : ∃ v, l[j]? = some (s, v) := by
  rw [← h, List.getElem?_map] at hs
  cases hq : l[j]? with
  | none => rw [hq] at hs; cases hs
  | some x =>
    rw [hq] at hs
    obtain ⟨a, b⟩ := x
    cases hs
    exact ⟨b, rfl⟩
theorem drop_at {ds : List j9} {i : Nat} {d : j9} (h : ds[i]? = some d) : ds.drop i = d :: ds.drop (i + 1) := by
  have hi := C5 h
  rw [List.drop_eq_getElem_cons hi]
  congr 1
  rw [List.getElem?_eq_getElem hi] at h
  exact Option.some.inj h
theorem e7b {ds : List j9} {i : Nat} {d : j9} (h : ds[i]? = some d) (c : ¬ 0 < d.E6) : ((vD ds).map (·.1))[(vD (ds.take i)).length]? = some d.d6 := by
  rw [d9W ds i, drop_at h, List.getElem?_map, List.getElem?_append_right (Nat.le_refl _), Nat.sub_self]
  unfold vD
  simp [c]
theorem e7c {ds : List j9} {i : Nat} {d : j9} (h : ds[i]? = some d) (c : 0 < d.E6) : ((aD ds).map (·.1))[(aD (ds.take i)).length]? = some d.d6 := by
  rw [d9X ds i, drop_at h, List.getElem?_map, List.getElem?_append_right (Nat.le_refl _), Nat.sub_self]
  unfold aD
  simp [c]
theorem d5d (l : List j9) : (vD l).length ≤ l.length := by unfold vD; rw [List.length_map]; exact List.length_filter_le _ _
theorem d5e (l : List j9) : (aD l).length ≤ l.length := by unfold aD; rw [List.length_map]; exact List.length_filter_le _ _
theorem d5f {α β : Type} {f : α → β} (l : List α) (n : Nat) : ((l.take n).map f).length ≤ n := by rw [List.length_map, List.length_take]; omega
theorem d5g {α β : Type} {f : α → β} {l : List α} {n : Nat} {x : α} (h : l[n]? = some x) : (l.take (n + 1)).map f = (l.take n).map f ++ [f x] := by rw [U5 h, List.map_append]; rfl
theorem d9Z {q : PP} {p : r9} (hp : PH H p q) (hn : (q.decls.map (·.d6)).Nodup) {σ : St} {X : Cx} {g3 g6 g10 g14 : Nat} {sc ev : Sl} {Fe Fv Fa : Frag} (W : RnW X σ H sc ev Fe Fv Fa) (hv : σ.vars.map (·.1) = (vD q.decls).map (·.1)) (hr : σ.arrs.map (·.1) = (aD q.decls).map (·.1)) {w0 w : World} {ps : Nat → Prop} {H0 : Hp} {st wr : Int} {R : Value → World → Prop} {E : Pan}
    (I : Inv w0 ps H0 H [oB g14 ⟨st, wr, σ.steps, ev, ⟨none, 0, 0⟩, ⟨none, 0, 0⟩⟩, bx g10 90 (rcs X σ sc ev), Fe, Fv, Fa, oB g6 oz, pB g3 p] w)
    (hR : ∀ (o : o2) (Fo : List Frag) (w' : World), Oown o (ocS (st, wr, σ)) Fo → Inv w0 ps H0 H Fo w' → R (.tuple #[.agg (d7 o).toArray, vi 0]) w') :
    xcut (fun _ c0O => c5B (rP g6) (rP g14) c0O R E) fun j2 =>
      opK Tryd.prog E (xV (Instr.fieldAt 44 (rP g3) 0)) w fun c5R b2p => opK Tryd.prog E (xV (Instr.loadAt 41 c5R)) b2p fun b4P d8u => opK Tryd.prog E (xBuiltin .len #[41] 3 [false] [b4P]) d8u fun c5S d8v =>
        xloop [91] [(Value.int .i64 0)] d8v fun τ_138 d0L next3 => c5C (rP g6) (rP g10) (rP g14) b4P c5S (τ_138 91) d0L next3 j2 R E := by
  refine u7 fun j2 hx2 => ?_
  have hds := hp.d
  have hdn := hds.1
  have hbd := hp.bd
  simp only [big] at hbd
  have lvf := W.hvs.fst.trans hv
  have laf := W.has.fst.trans hr
  have nd := d5b hn
  refine a7 a7Q ?_
  refine b6 (ld1 Tryd.isAgg41 ((I.bring 6).at1 (o := 0) (vs := [vs p.a3z]) (nb rfl) rfl)) ?_
  refine a7 (b0k _ _ _) ?_
  refine H7 (J := fun n l w' => ∃ (i : Nat) (sv sr : Sl) (Fvr Fsr : Frag), n = q.decls.length - i ∧ l = [vi (i : Int)] ∧ i ≤ q.decls.length ∧ RowL 2 1 ci sv ((σ.vars.take (vD (q.decls.take i)).length).map (·.2)) Fvr ∧ RowL 45 1 csl sr ((X.la.take (aD (q.decls.take i)).length).map (·.2)) Fsr ∧
    Inv w0 ps H0 H [oB g14 ⟨st, wr, σ.steps, ev, sv, sr⟩, bx g10 90 (rcs X σ sc ev), Fe, Fv, Fa, oB g6 oz, pB g3 p, Fvr, Fsr] w')
    ⟨_, 0, ⟨none, 0, 0⟩, ⟨none, 0, 0⟩, [], [], rfl, rfl, Nat.zero_le _, RowL.nil c5o c5p, RowL.nil b5m b5n, I.re [] (fun f f0 fa => by simp only [mB, pB, oB, bx, List.flatten_cons, List.flatten_nil, f0, fa]; omega)⟩ ?_
  rintro n τ w4 next3 ⟨i, sv, sr, Fvr, Fsr, rfl, hl4, hi, hrv, hrs, I4⟩ hn3
  simp only [List.map_cons, List.map_nil, List.cons.injEq, and_true] at hl4
  simp only [hl4]
  unfold c5C
  refine a7 (A7 _ _ _ _ _ _) ?_
  refine i5 (fun c5 => ?_) (fun c5 => ?_)
  · obtain ⟨d, hd⟩ := t7 (l := q.decls) (i := i) (by omega)
    obtain ⟨g5, o5, ha5, hA5⟩ := hds.2 i d hd
    have hlv := d5d (q.decls.take i)
    have hla := d5e (q.decls.take i)
    rw [List.length_take] at hlv hla
    have hlv2 := d5f (f := fun x : ByteArray × Int => x.2) σ.vars (vD (q.decls.take i)).length
    have hla2 := d5f (f := fun x : ByteArray × Sl => x.2) X.la (aD (q.decls.take i)).length
    refine u7 fun j4 hx4 => ?_
    refine a7 (b2a ha5 _ _ _ _ (by omega) (by omega)) ?_
    refine b6 (ldA (vs := m7 d) Tryd.isAgg58 Tryd.sizeOf58 rfl (I4.atH hA5)) ?_
    refine C2 I4 Tryd.zeroValue58 (cs := [(Value.string ⟨#[]⟩), (vi 0)]) rfl fun g16 w6 I6 _ => ?_
    refine o9 I6 Tryd.sizeOf58 (vs := (m7 d)) (cs' := (m7 d)) rfl rfl (nb rfl) rfl rfl fun w7 I7 _ => ?_
    refine a7 a2W ?_
    refine b6 (ld1 Tryd.isAgg3 (I7.at1 (o := 1) (vs := [vi d.E6]) (nb rfl) rfl)) ?_
    refine a7 (a0b _ _ _ _ _ _) ?_
    have nxt : ∀ (sv' sr' : Sl) (Fvr' Fsr' : Frag) (w' : World), RowL 2 1 ci sv' ((σ.vars.take (vD (q.decls.take (i + 1))).length).map (·.2)) Fvr' → RowL 45 1 csl sr' ((X.la.take (aD (q.decls.take (i + 1))).length).map (·.2)) Fsr' →
        Inv w0 ps H0 H [oB g14 ⟨st, wr, σ.steps, ev, sv', sr'⟩, bx g10 90 (rcs X σ sc ev), Fe, Fv, Fa, oB g6 oz, pB g3 p, Fvr', Fsr'] w' → j4 [] w' := fun sv' sr' Fvr' Fsr' w' h1 h2 J => by
      refine hx4 _ _ ?_
      unfold d3K
      intro _
      refine a7 (C6 _ _ _ _ _ _) ?_
      rw [L3 (by omega) (by omega)]
      exact hn3 _ _ _ (show q.decls.length - (i + 1) < q.decls.length - i by omega) ⟨i + 1, sv', sr', Fvr', Fsr', rfl, rfl, by omega, h1, h2, J⟩
    refine i5 (fun c => ?_) (fun c => ?_)
    · obtain ⟨sl, hsl⟩ := d5c laf (e7c hd c)
      have hlk := d1Q (by rw [laf]; exact nd.2) hsl
      refine V2 I7 fun w8 I8 => ?_
      refine i8 a2U ?_
      refine i8 (p7 _) ?_
      refine i8 b2d ?_
      refine i8 a0F ?_
      refine r5 (ld1 Tryd.isAgg47 ((I8.bring 1).at1 (o := 5) (vs := [vs sr]) (nb rfl) rfl)) ?_
      refine r5 (ld1 Tryd.isAgg88 ((I8.bring 2).at1 (o := 5) (vs := [.map X.ma]) (nb rfl) rfl)) ?_
      refine r5 (ld1 Tryd.isAgg9 (I8.at1 (o := 0) (vs := [.string d.d6]) (nb rfl) rfl)) ?_
      refine b0t (keyS Tryd.underlying9) Tryd.underlying88 (z := (⟨none, 0, 0⟩ : Sl)) (fun w => Tryd.zeroValue45 w) I8 W.hma d.d6 ?_
      rw [hlk, Option.getD_some]
      refine a1Q (e := 45) (c := csl) (xs := [sl]) I8 (g4F _) rfl rfl b5m b5n (nb rfl) fun s9 F9 w9 hr9 I9 k9 => ?_
      refine ⟨k9 _ (I8.bring 1).lt1, ?_⟩
      refine g1i (s := sr) (I9.bring 10) hrs (hr9.srcO ((I9.bring 10).bring 1)) (by rw [List.length_singleton]; omega) fun s10 F10 w10 hr10 I10 _ => ?_
      refine i8 a2U ?_
      refine o9 (I10.bring 3) Tryd.sizeOf47 (vs := [vs s10]) (cs' := d7 ⟨st, wr, σ.steps, ev, sv, s10⟩) rfl rfl (nb rfl) rfl rfl fun w11 I11 _ => ?_
      refine nxt sv s10 Fvr F10 _ ?_ ?_ (I11.re (F9 ++ bx g16 58 (m7 d)) (fun f f0 fa => by simp only [mB, pB, oB, bx, List.flatten_cons, List.flatten_nil, f0, fa]; omega))
      · rw [c2n hd, if_pos c, List.append_nil]; exact hrv
      · rw [c2o hd, if_pos c, List.length_append, List.length_singleton, d5g hsl]; exact hr10
    · obtain ⟨v, hvv⟩ := d5c hv (e7b hd c)
      have hlk := d1Q (by rw [hv]; exact nd.1) hvv
      obtain ⟨g9, Fr, hlv9, hp9, _⟩ := W.hvs.get hlk
      refine V2 I7 fun w8 I8 => ?_
      refine i8 a4d ?_
      refine i8 (p7 _) ?_
      refine i8 a7T ?_
      refine i8 a0F ?_
      refine r5 (ld1 Tryd.isAgg45 ((I8.bring 1).at1 (o := 4) (vs := [vs sv]) (nb rfl) rfl)) ?_
      refine r5 (ld1 Tryd.isAgg87 ((I8.bring 2).at1 (o := 4) (vs := [.map X.mv]) (nb rfl) rfl)) ?_
      refine r5 (ld1 Tryd.isAgg9 (I8.at1 (o := 0) (vs := [.string d.d6]) (nb rfl) rfl)) ?_
      refine b0t (keyS Tryd.underlying9) Tryd.underlying87 (z := (none : Option Addr)) (fun w => Tryd.zeroValue91 w) I8 W.hmv d.d6 ?_
      rw [hlv9, Option.getD_some]
      refine i8 (p7 _) ?_
      refine r5 (ld1 Tryd.isAgg2 ((((I8.bring 4).p1 hp9).un2).at1 (o := 0) (vs := [vi v]) (nb rfl) rfl)) ?_
      refine a1Q (e := 2) (c := ci) (xs := [v]) I8 (c7E _) rfl rfl c5o c5p (nb rfl) fun s9 F9 w9 hr9 I9 k9 => ?_
      refine ⟨k9 _ (I8.bring 1).lt1, ?_⟩
      refine c2G (s := sv) (I9.bring 9) hrv (hr9.srcO ((I9.bring 9).bring 1)) (by rw [List.length_singleton]; omega) fun s10 F10 w10 hr10 I10 _ => ?_
      refine i8 a4d ?_
      refine o9 (I10.bring 3) Tryd.sizeOf45 (vs := [vs s10]) (cs' := d7 ⟨st, wr, σ.steps, ev, s10, sr⟩) rfl rfl (nb rfl) rfl rfl fun w11 I11 _ => ?_
      refine nxt s10 sr F10 Fsr _ ?_ ?_ (I11.re (F9 ++ bx g16 58 (m7 d)) (fun f f0 fa => by simp only [mB, pB, oB, bx, List.flatten_cons, List.flatten_nil, f0, fa]; omega))
      · rw [c2n hd, if_neg c, List.length_append, List.length_singleton, d5g hvv]; exact hr10
      · rw [c2o hd, if_neg c, List.append_nil]; exact hrs
  · refine hx2 _ _ ?_
    have hie : i = q.decls.length := by omega
    subst hie
    rw [List.take_length] at hrv hrs
    have e1 : (vD q.decls).length = σ.vars.length := by rw [← List.length_map (f := (·.1)), ← hv, List.length_map]
    have e2 : (aD q.decls).length = X.la.length := by rw [← List.length_map (f := (·.1)), ← laf, List.length_map]
    rw [e1, List.take_length] at hrv
    rw [e2, List.take_length] at hrs
    unfold c5B
    intro _
    refine b6 (ldA (vs := d7 ⟨st, wr, σ.steps, ev, sv, sr⟩) Tryd.isAgg49 Tryd.sizeOf49 rfl (I4.at1 (o := 0) (nb rfl) rfl)) ?_
    refine o9 (I4.bring 5) Tryd.sizeOf49 (vs := d7 ⟨st, wr, σ.steps, ev, sv, sr⟩) (cs' := d7 ⟨st, wr, σ.steps, ev, sv, sr⟩) rfl rfl (nb rfl) rfl rfl fun w6 I6 _ => ?_
    refine b1b (vs := d7 ⟨st, wr, σ.steps, ev, sv, sr⟩) Tryd.isAgg49 Tryd.sizeOf49 rfl (I6.at1 (o := 0) (nb rfl) rfl) ?_
    refine hR _ [Fe, Fvr, Fsr ++ Fa] _ ⟨rfl, rfl, rfl, Fe, Fvr, Fsr ++ Fa, rfl, W.hev, hrv, X.la.map (·.2), Fsr, Fa, hrs, W.has.inners, .refl _⟩ ?_
    exact I6.re (oB g6 ⟨st, wr, σ.steps, ev, sv, sr⟩ ++ (oB g14 ⟨st, wr, σ.steps, ev, sv, sr⟩ ++ (bx g10 90 (rcs X σ sc ev) ++ (Fv ++ pB g3 p)))) (fun f f0 fa => by simp only [mB, pB, oB, bx, List.flatten_cons, List.flatten_nil, f0, fa]; omega)
end
end Go.Proofs.YtnhkdkcgdcgmdaaDoor
namespace Go.Proofs.YtnhkdkcgdcgmdaaDoor
open Go.RowKit
set_option maxRecDepth 100000
set_option maxHeartbeats 2000000
abbrev g1j : Nat := 4096
section
variable {H : Hp}
theorem SH.node {k : Int} {nm : ByteArray} {s1 s2 s3 s4 : Sl} {xs : List l7} {ts : List PT} {ys : List u1} {us : List PT} {zs bs : List r6} {vs ws : List PT}
    (h1 : SlH H 4 d9 s1 xs) (b1 : xs.length ≤ big) (r1 : A4 (EH H) xs ts) (h2 : SlH H 4 i7 s2 ys) (b2 : ys.length ≤ big) (r2 : A4 (CH H) ys us) (h3 : SlH H 6 g7 s3 zs) (b3 : zs.length ≤ big) (r3 : A4 (SH H) zs vs) (h4 : SlH H 6 g7 s4 bs) (b4 : bs.length ≤ big) (r4 : A4 (SH H) bs ws) :
    SH H ⟨k, nm, s1, s2, s3, s4⟩ (sN k nm ts us vs ws) := SH.mk (s := ⟨k, nm, s1, s2, s3, s4⟩) h1 b1 r1 h2 b2 r2 h3 b3 r3.1 r3.2 h4 b4 r4.1 r4.2
theorem PH.ars {p : r9} {q : PP} (hp : PH H p q) (hsm : q.Sm) (h : toldS q.nodes = 0) : (∀ t ∈ q.body, ArS t ∧ formT t = true) ∧ cTs q.body ≤ g1j := by
  have hi := (c5k _).1 h
  have hf := hi.2.2.1
  unfold PP.nodes at hf
  rw [b2T, Bool.and_eq_true] at hf
  obtain ⟨_, _, xs, hsl, hxb, hr⟩ := hp
  refine ⟨fun t ht => ?_, ?_⟩
  · obtain ⟨i, hi⟩ := List.getElem?_of_mem ht
    obtain ⟨x, hx⟩ := t7 (l := xs) (i := i) (by have := C5 hi; have := hr.1; omega)
    have hft := D8 hf.2 ht
    exact ⟨f3Z (hr.2 i x t hx hi) hft (hsm t (List.mem_append_right _ ht)), hft⟩
  · have := hi.1
    unfold PP.nodes at this
    rw [b5N] at this
    simp only [g1j]; omega
end
section
variable {H : Hp}
end
end Go.Proofs.YtnhkdkcgdcgmdaaDoor
