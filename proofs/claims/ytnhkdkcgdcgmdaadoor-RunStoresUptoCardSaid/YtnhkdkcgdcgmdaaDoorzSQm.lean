/- A program's run. Off the readings. -/
import Derived.Test.YtnhkdkcgdcgmdaaDoorzSNc
import Derived.Test.YtnhkdkcgdcgmdaaDoorzSQl
namespace Go.Proofs.YtnhkdkcgdcgmdaaDoor
open Go.RowKit
set_option maxRecDepth 100000
set_option maxHeartbeats 4000000
section
variable {H : Hp}
theorem d2Y {ν : Type} {l : List (ByteArray × ν)} {ks : List ByteArray} (h : l.map (·.1) = ks) {j : Nat} {s : ByteArray} (hs : ks[j]? = some s) : ∃ v, l[j]? = some (s, v) := by
  rw [← h, List.getElem?_map] at hs
  cases hq : l[j]? with
  | none => rw [hq] at hs; cases hs
  | some x =>
    rw [hq] at hs
    obtain ⟨a, b⟩ := x
    cases hs
    exact ⟨b, rfl⟩
theorem drop_at {ds : List j7} {i : Nat} {d : j7} (h : ds[i]? = some d) : ds.drop i = d :: ds.drop (i + 1) := by
  have hi := C5 h
  rw [List.drop_eq_getElem_cons hi]
  congr 1
  rw [List.getElem?_eq_getElem hi] at h
  exact Option.some.inj h
theorem e5o {ds : List j7} {i : Nat} {d : j7} (h : ds[i]? = some d) (c : ¬ 0 < d.E4) : ((vD ds).map (·.1))[(vD (ds.take i)).length]? = some d.d5 := by
  rw [d8r ds i, drop_at h, List.getElem?_map, List.getElem?_append_right (Nat.le_refl _), Nat.sub_self]
  unfold vD
  simp [c]
theorem e5p {ds : List j7} {i : Nat} {d : j7} (h : ds[i]? = some d) (c : 0 < d.E4) : ((aD ds).map (·.1))[(aD (ds.take i)).length]? = some d.d5 := by
  rw [d8s ds i, drop_at h, List.getElem?_map, List.getElem?_append_right (Nat.le_refl _), Nat.sub_self]
  unfold aD
  simp [c]
theorem f9x (l : List j7) : (vD l).length ≤ l.length := by unfold vD; rw [List.length_map]; exact List.length_filter_le _ _
theorem f9y (l : List j7) : (aD l).length ≤ l.length := by unfold aD; rw [List.length_map]; exact List.length_filter_le _ _
theorem d2Z {α β : Type} {f : α → β} (l : List α) (n : Nat) : ((l.take n).map f).length ≤ n := by rw [List.length_map, List.length_take]; omega
theorem d3a {α β : Type} {f : α → β} {l : List α} {n : Nat} {x : α} (h : l[n]? = some x) : (l.take (n + 1)).map f = (l.take n).map f ++ [f x] := by rw [V0 h, List.map_append]; rfl
theorem d8u {q : PP} {p : q8} (hp : PH H p q) (hn : (q.decls.map (·.d5)).Nodup) {σ : St} {X : Cx} {g3 g6 g10 g14 : Nat} {sc ev : Sl} {Fe Fv Fa : Frag} (W : RnW X σ H sc ev Fe Fv Fa) (hv : σ.vars.map (·.1) = (vD q.decls).map (·.1)) (hr : σ.arrs.map (·.1) = (aD q.decls).map (·.1)) {w0 w : World} {ps : Nat → Prop} {H0 : Hp} {st wr : Int} {R : Value → World → Prop} {E : Pan}
    (I : Inv w0 ps H0 H [oB g14 ⟨st, wr, σ.steps, ev, ⟨none, 0, 0⟩, ⟨none, 0, 0⟩⟩, bx g10 90 (rcs X σ sc ev), Fe, Fv, Fa, oB g6 oz, pB g3 p] w)
    (hR : ∀ (o : K6) (Fo : List Frag) (w' : World), Oown o (ocS (st, wr, σ)) Fo → Inv w0 ps H0 H Fo w' → R (.tuple #[.agg (p6 o).toArray, vi 0]) w') :
    xcut (fun _ c0b => c4l (rP g6) (rP g14) c0b R E) fun j2 =>
      opK Tryd.prog E (xV (Instr.fieldAt 44 (rP g3) 0)) w fun c4B b1t => opK Tryd.prog E (xV (Instr.loadAt 41 c4B)) b1t fun b3X d6Z => opK Tryd.prog E (xBuiltin .len #[41] 3 [false] [b3X]) d6Z fun c4C d7a =>
        xloop [91] [(Value.int .i64 0)] d7a fun τ_138 c8V next3 => c4m (rP g6) (rP g10) (rP g14) b3X c4C (τ_138 91) c8V next3 j2 R E := by
  refine A6 fun j2 hx2 => ?_
  have hds := hp.d
  have hdn := hds.1
  have hbd := hp.bd
  simp only [big] at hbd
  have lvf := W.hvs.fst.trans hv
  have laf := W.has.fst.trans hr
  have nd := d2X hn
  refine a7 a7f ?_
  refine b6 (ld1 Tryd.isAgg41 ((I.bring 6).at1 (o := 0) (vs := [vs p.a2j]) (nb rfl) rfl)) ?_
  refine a7 (a9s _ _ _) ?_
  refine M6 (J := fun n l w' => ∃ (i : Nat) (sv sr : Sl) (Fvr Fsr : Frag), n = q.decls.length - i ∧ l = [vi (i : Int)] ∧ i ≤ q.decls.length ∧ RowL 2 1 ci sv ((σ.vars.take (vD (q.decls.take i)).length).map (·.2)) Fvr ∧ RowL 45 1 csl sr ((X.la.take (aD (q.decls.take i)).length).map (·.2)) Fsr ∧
    Inv w0 ps H0 H [oB g14 ⟨st, wr, σ.steps, ev, sv, sr⟩, bx g10 90 (rcs X σ sc ev), Fe, Fv, Fa, oB g6 oz, pB g3 p, Fvr, Fsr] w')
    ⟨_, 0, ⟨none, 0, 0⟩, ⟨none, 0, 0⟩, [], [], rfl, rfl, Nat.zero_le _, RowL.nil c3V c3W, RowL.nil b4u b4v, I.re [] (fun f f0 fa => by simp only [mB, pB, oB, bx, List.flatten_cons, List.flatten_nil, f0, fa]; omega)⟩ ?_
  rintro n τ w4 next3 ⟨i, sv, sr, Fvr, Fsr, rfl, hl4, hi, hrv, hrs, I4⟩ hn3
  simp only [List.map_cons, List.map_nil, List.cons.injEq, and_true] at hl4
  simp only [hl4]
  unfold c4m
  refine a7 (B7 _ _ _ _ _ _) ?_
  refine i2 (fun c5 => ?_) (fun c5 => ?_)
  · obtain ⟨d, hd⟩ := r9 (l := q.decls) (i := i) (by omega)
    obtain ⟨g5, o5, ha5, hA5⟩ := hds.2 i d hd
    have hlv := f9x (q.decls.take i)
    have hla := f9y (q.decls.take i)
    rw [List.length_take] at hlv hla
    have hlv2 := d2Z (f := fun x : ByteArray × Int => x.2) σ.vars (vD (q.decls.take i)).length
    have hla2 := d2Z (f := fun x : ByteArray × Sl => x.2) X.la (aD (q.decls.take i)).length
    refine A6 fun j4 hx4 => ?_
    refine a7 (b1d ha5 _ _ _ _ (by omega) (by omega)) ?_
    refine b6 (ldA (vs := m3 d) Tryd.isAgg58 Tryd.sizeOf58 rfl (I4.atH hA5)) ?_
    refine A8 I4 Tryd.zeroValue58 (cs := [(Value.string ⟨#[]⟩), (vi 0)]) rfl fun g16 w6 I6 _ => ?_
    refine o0 I6 Tryd.sizeOf58 (vs := (m3 d)) (cs' := (m3 d)) rfl rfl (nb rfl) rfl rfl fun w7 I7 _ => ?_
    refine a7 a2y ?_
    refine b6 (ld1 Tryd.isAgg3 (I7.at1 (o := 1) (vs := [vi d.E4]) (nb rfl) rfl)) ?_
    refine a7 (a1f _ _ _ _ _ _) ?_
    have nxt : ∀ (sv' sr' : Sl) (Fvr' Fsr' : Frag) (w' : World), RowL 2 1 ci sv' ((σ.vars.take (vD (q.decls.take (i + 1))).length).map (·.2)) Fvr' → RowL 45 1 csl sr' ((X.la.take (aD (q.decls.take (i + 1))).length).map (·.2)) Fsr' →
        Inv w0 ps H0 H [oB g14 ⟨st, wr, σ.steps, ev, sv', sr'⟩, bx g10 90 (rcs X σ sc ev), Fe, Fv, Fa, oB g6 oz, pB g3 p, Fvr', Fsr'] w' → j4 [] w' := fun sv' sr' Fvr' Fsr' w' h1 h2 J => by
      refine hx4 _ _ ?_
      unfold d1N
      intro _
      refine a7 (G6 _ _ _ _ _ _) ?_
      rw [S2 (by omega) (by omega)]
      exact hn3 _ _ _ (show q.decls.length - (i + 1) < q.decls.length - i by omega) ⟨i + 1, sv', sr', Fvr', Fsr', rfl, rfl, by omega, h1, h2, J⟩
    refine i2 (fun c => ?_) (fun c => ?_)
    · obtain ⟨sl, hsl⟩ := d2Y laf (e5p hd c)
      have hlk := c9W (by rw [laf]; exact nd.2) hsl
      refine a0p I7 fun w8 I8 => ?_
      refine j8 a5n ?_
      refine j8 (o9 _) ?_
      refine j8 b1g ?_
      refine j8 a0i ?_
      refine u0 (ld1 Tryd.isAgg47 ((I8.bring 1).at1 (o := 5) (vs := [vs sr]) (nb rfl) rfl)) ?_
      refine u0 (ld1 Tryd.isAgg88 ((I8.bring 2).at1 (o := 5) (vs := [.map X.ma]) (nb rfl) rfl)) ?_
      refine u0 (ld1 Tryd.isAgg9 (I8.at1 (o := 0) (vs := [.string d.d5]) (nb rfl) rfl)) ?_
      refine a9D (keyS Tryd.underlying9) Tryd.underlying88 (z := (⟨none, 0, 0⟩ : Sl)) (fun w => Tryd.zeroValue45 w) I8 W.hma d.d5 ?_
      rw [hlk, Option.getD_some]
      refine W7 (e := 45) (c := csl) (xs := [sl]) I8 (g2O _) rfl rfl b4u b4v (nb rfl) fun s9 F9 w9 hr9 I9 k9 => ?_
      refine ⟨k9 _ (I8.bring 1).lt1, ?_⟩
      refine f9w (s := sr) (I9.bring 10) hrs (hr9.srcO ((I9.bring 10).bring 1)) (by rw [List.length_singleton]; omega) fun s10 F10 w10 hr10 I10 _ => ?_
      refine j8 a5n ?_
      refine o0 (I10.bring 3) Tryd.sizeOf47 (vs := [vs s10]) (cs' := p6 ⟨st, wr, σ.steps, ev, sv, s10⟩) rfl rfl (nb rfl) rfl rfl fun w11 I11 _ => ?_
      refine nxt sv s10 Fvr F10 _ ?_ ?_ (I11.re (F9 ++ bx g16 58 (m3 d)) (fun f f0 fa => by simp only [mB, pB, oB, bx, List.flatten_cons, List.flatten_nil, f0, fa]; omega))
      · rw [c1t hd, if_pos c, List.append_nil]; exact hrv
      · rw [c1u hd, if_pos c, List.length_append, List.length_singleton, d3a hsl]; exact hr10
    · obtain ⟨v, hvv⟩ := d2Y hv (e5o hd c)
      have hlk := c9W (by rw [hv]; exact nd.1) hvv
      obtain ⟨g9, Fr, hlv9, hp9, _⟩ := W.hvs.get hlk
      refine a0p I7 fun w8 I8 => ?_
      refine j8 a3I ?_
      refine j8 (o9 _) ?_
      refine j8 a7i ?_
      refine j8 a0i ?_
      refine u0 (ld1 Tryd.isAgg45 ((I8.bring 1).at1 (o := 4) (vs := [vs sv]) (nb rfl) rfl)) ?_
      refine u0 (ld1 Tryd.isAgg87 ((I8.bring 2).at1 (o := 4) (vs := [.map X.mv]) (nb rfl) rfl)) ?_
      refine u0 (ld1 Tryd.isAgg9 (I8.at1 (o := 0) (vs := [.string d.d5]) (nb rfl) rfl)) ?_
      refine a9D (keyS Tryd.underlying9) Tryd.underlying87 (z := (none : Option Addr)) (fun w => Tryd.zeroValue91 w) I8 W.hmv d.d5 ?_
      rw [hlv9, Option.getD_some]
      refine j8 (o9 _) ?_
      refine u0 (ld1 Tryd.isAgg2 ((((I8.bring 4).p1 hp9).un2).at1 (o := 0) (vs := [vi v]) (nb rfl) rfl)) ?_
      refine W7 (e := 2) (c := ci) (xs := [v]) I8 (c5W _) rfl rfl c3V c3W (nb rfl) fun s9 F9 w9 hr9 I9 k9 => ?_
      refine ⟨k9 _ (I8.bring 1).lt1, ?_⟩
      refine d0m (s := sv) (I9.bring 9) hrv (hr9.srcO ((I9.bring 9).bring 1)) (by rw [List.length_singleton]; omega) fun s10 F10 w10 hr10 I10 _ => ?_
      refine j8 a3I ?_
      refine o0 (I10.bring 3) Tryd.sizeOf45 (vs := [vs s10]) (cs' := p6 ⟨st, wr, σ.steps, ev, s10, sr⟩) rfl rfl (nb rfl) rfl rfl fun w11 I11 _ => ?_
      refine nxt s10 sr F10 Fsr _ ?_ ?_ (I11.re (F9 ++ bx g16 58 (m3 d)) (fun f f0 fa => by simp only [mB, pB, oB, bx, List.flatten_cons, List.flatten_nil, f0, fa]; omega))
      · rw [c1t hd, if_neg c, List.length_append, List.length_singleton, d3a hvv]; exact hr10
      · rw [c1u hd, if_neg c, List.append_nil]; exact hrs
  · refine hx2 _ _ ?_
    have hie : i = q.decls.length := by omega
    subst hie
    rw [List.take_length] at hrv hrs
    have e1 : (vD q.decls).length = σ.vars.length := by rw [← List.length_map (f := (·.1)), ← hv, List.length_map]
    have e2 : (aD q.decls).length = X.la.length := by rw [← List.length_map (f := (·.1)), ← laf, List.length_map]
    rw [e1, List.take_length] at hrv
    rw [e2, List.take_length] at hrs
    unfold c4l
    intro _
    refine b6 (ldA (vs := p6 ⟨st, wr, σ.steps, ev, sv, sr⟩) Tryd.isAgg49 Tryd.sizeOf49 rfl (I4.at1 (o := 0) (nb rfl) rfl)) ?_
    refine o0 (I4.bring 5) Tryd.sizeOf49 (vs := p6 ⟨st, wr, σ.steps, ev, sv, sr⟩) (cs' := p6 ⟨st, wr, σ.steps, ev, sv, sr⟩) rfl rfl (nb rfl) rfl rfl fun w6 I6 _ => ?_
    refine a4Z (vs := p6 ⟨st, wr, σ.steps, ev, sv, sr⟩) Tryd.isAgg49 Tryd.sizeOf49 rfl (I6.at1 (o := 0) (nb rfl) rfl) ?_
    refine hR _ [Fe, Fvr, Fsr ++ Fa] _ ⟨rfl, rfl, rfl, Fe, Fvr, Fsr ++ Fa, rfl, W.hev, hrv, X.la.map (·.2), Fsr, Fa, hrs, W.has.inners, .refl _⟩ ?_
    exact I6.re (oB g6 ⟨st, wr, σ.steps, ev, sv, sr⟩ ++ (oB g14 ⟨st, wr, σ.steps, ev, sv, sr⟩ ++ (bx g10 90 (rcs X σ sc ev) ++ (Fv ++ pB g3 p)))) (fun f f0 fa => by simp only [mB, pB, oB, bx, List.flatten_cons, List.flatten_nil, f0, fa]; omega)
end
end Go.Proofs.YtnhkdkcgdcgmdaaDoor
namespace Go.Proofs.YtnhkdkcgdcgmdaaDoor
open Go.RowKit
set_option maxRecDepth 100000
set_option maxHeartbeats 2000000
abbrev f9z : Nat := 4096
section
variable {H : Hp}
theorem SH.node {k : Int} {nm : ByteArray} {s1 s2 s3 s4 : Sl} {xs : List i4} {ts : List PT} {ys : List u5} {us : List PT} {zs bs : List m9} {vs ws : List PT}
    (h1 : SlH H 4 b8 s1 xs) (b1 : xs.length ≤ big) (r1 : t7 (EH H) xs ts) (h2 : SlH H 4 i7 s2 ys) (b2 : ys.length ≤ big) (r2 : t7 (CH H) ys us) (h3 : SlH H 6 f8 s3 zs) (b3 : zs.length ≤ big) (r3 : t7 (SH H) zs vs) (h4 : SlH H 6 f8 s4 bs) (b4 : bs.length ≤ big) (r4 : t7 (SH H) bs ws) :
    SH H ⟨k, nm, s1, s2, s3, s4⟩ (sN k nm ts us vs ws) := SH.mk (s := ⟨k, nm, s1, s2, s3, s4⟩) h1 b1 r1 h2 b2 r2 h3 b3 r3.1 r3.2 h4 b4 r4.1 r4.2
theorem PH.ars {p : q8} {q : PP} (hp : PH H p q) (hsm : q.Sm) (h : toldS q.nodes = 0) : (∀ t ∈ q.body, ArS t ∧ formT t = true) ∧ cTs q.body ≤ f9z := by
  have hi := (c3S _).1 h
  have hf := hi.2.2.1
  unfold PP.nodes at hf
  rw [b1Z, Bool.and_eq_true] at hf
  obtain ⟨_, _, xs, hsl, hxb, hr⟩ := hp
  refine ⟨fun t ht => ?_, ?_⟩
  · obtain ⟨i, hi⟩ := List.getElem?_of_mem ht
    obtain ⟨x, hx⟩ := r9 (l := xs) (i := i) (by have := C5 hi; have := hr.1; omega)
    have hft := D1 hf.2 ht
    exact ⟨f2i (hr.2 i x t hx hi) hft (hsm t (List.mem_append_right _ ht)), hft⟩
  · have := hi.1
    unfold PP.nodes at this
    rw [b4U] at this
    simp only [f9z]; omega
end
section
variable {H : Hp}
end
end Go.Proofs.YtnhkdkcgdcgmdaaDoor
