/- A program's run. Off the readings. -/
import Derived.Test.YtnhkdkcgdcgmdaaDoorzLNc
import Derived.Test.YtnhkdkcgdcgmdaaDoorzLQl
namespace Go.Proofs.YtnhkdkcgdcgmdaaDoor
open Go.RowKit
set_option maxRecDepth 100000
set_option maxHeartbeats 4000000
section
variable {H : Hp}
theorem d2F {ν : Type} {l : List (ByteArray × ν)} {ks : List ByteArray} (h : l.map (·.1) = ks) {j : Nat} {s : ByteArray} (hs : ks[j]? = some s) : ∃ v, l[j]? = some (s, v) := by
  rw [← h, List.getElem?_map] at hs
  cases hq : l[j]? with
  | none => rw [hq] at hs; cases hs
  | some x =>
    rw [hq] at hs
    obtain ⟨a, b⟩ := x
    cases hs
    exact ⟨b, rfl⟩
theorem drop_at {ds : List j7} {i : Nat} {d : j7} (h : ds[i]? = some d) : ds.drop i = d :: ds.drop (i + 1) := by
  have hi := C5 h
  rw [List.drop_eq_getElem_cons hi]
  congr 1
  rw [List.getElem?_eq_getElem hi] at h
  exact Option.some.inj h
theorem e4j {ds : List j7} {i : Nat} {d : j7} (h : ds[i]? = some d) (c : ¬ 0 < d.D3) : ((vD ds).map (·.1))[(vD (ds.take i)).length]? = some d.d6 := by
  rw [d7w ds i, drop_at h, List.getElem?_map, List.getElem?_append_right (Nat.le_refl _), Nat.sub_self]
  unfold vD
  simp [c]
theorem e4k {ds : List j7} {i : Nat} {d : j7} (h : ds[i]? = some d) (c : 0 < d.D3) : ((aD ds).map (·.1))[(aD (ds.take i)).length]? = some d.d6 := by
  rw [d7x ds i, drop_at h, List.getElem?_map, List.getElem?_append_right (Nat.le_refl _), Nat.sub_self]
  unfold aD
  simp [c]
theorem f8d (l : List j7) : (vD l).length ≤ l.length := by unfold vD; rw [List.length_map]; exact List.length_filter_le _ _
theorem f8e (l : List j7) : (aD l).length ≤ l.length := by unfold aD; rw [List.length_map]; exact List.length_filter_le _ _
theorem d2G {α β : Type} {f : α → β} (l : List α) (n : Nat) : ((l.take n).map f).length ≤ n := by rw [List.length_map, List.length_take]; omega
theorem d2H {α β : Type} {f : α → β} {l : List α} {n : Nat} {x : α} (h : l[n]? = some x) : (l.take (n + 1)).map f = (l.take n).map f ++ [f x] := by rw [U6 h, List.map_append]; rfl
theorem d7z {q : PP} {p : B0} (hp : PH H p q) (hn : (q.decls.map (·.d6)).Nodup) {σ : St} {X : Cx} {g3 g6 g10 g14 : Nat} {sc ev : Sl} {Fe Fv Fa : Frag} (W : RnW X σ H sc ev Fe Fv Fa) (hv : σ.vars.map (·.1) = (vD q.decls).map (·.1)) (hr : σ.arrs.map (·.1) = (aD q.decls).map (·.1)) {w0 w : World} {ps : Nat → Prop} {H0 : Hp} {st wr : Int} {R : Value → World → Prop} {E : Pan}
    (I : Inv w0 ps H0 H [oB g14 ⟨st, wr, σ.steps, ev, ⟨none, 0, 0⟩, ⟨none, 0, 0⟩⟩, bx g10 90 (rcs X σ sc ev), Fe, Fv, Fa, oB g6 oz, pB g3 p] w)
    (hR : ∀ (o : N3) (Fo : List Frag) (w' : World), Oown o (ocS (st, wr, σ)) Fo → Inv w0 ps H0 H Fo w' → R (.tuple #[.agg (p9 o).toArray, vi 0]) w') :
    xcut (fun _ b9Y => c4g (rP g6) (rP g14) b9Y R E) fun j2 =>
      opK Tryd.prog E (xV (Instr.fieldAt 44 (rP g3) 0)) w fun c4w b0c => opK Tryd.prog E (xV (Instr.loadAt 41 c4w)) b0c fun b4b d6f => opK Tryd.prog E (xBuiltin .len #[41] 3 [false] [b4b]) d6f fun c4x d6g =>
        xloop [91] [(Value.int .i64 0)] d6g fun τ_138 c8K next3 => c4h (rP g6) (rP g10) (rP g14) b4b c4x (τ_138 91) c8K next3 j2 R E := by
  refine A8 fun j2 hx2 => ?_
  have hds := hp.d
  have hdn := hds.1
  have hbd := hp.bd
  simp only [big] at hbd
  have lvf := W.hvs.fst.trans hv
  have laf := W.has.fst.trans hr
  have nd := d2E hn
  refine a7 a7h ?_
  refine b8 (ld1 Tryd.isAgg41 ((I.bring 6).at1 (o := 0) (vs := [vs p.a4m]) (nb rfl) rfl)) ?_
  refine a7 (a9x _ _ _) ?_
  refine L9 (J := fun n l w' => ∃ (i : Nat) (sv sr : Sl) (Fvr Fsr : Frag), n = q.decls.length - i ∧ l = [vi (i : Int)] ∧ i ≤ q.decls.length ∧ RowL 2 1 ci sv ((σ.vars.take (vD (q.decls.take i)).length).map (·.2)) Fvr ∧ RowL 45 1 csl sr ((X.la.take (aD (q.decls.take i)).length).map (·.2)) Fsr ∧
    Inv w0 ps H0 H [oB g14 ⟨st, wr, σ.steps, ev, sv, sr⟩, bx g10 90 (rcs X σ sc ev), Fe, Fv, Fa, oB g6 oz, pB g3 p, Fvr, Fsr] w')
    ⟨_, 0, ⟨none, 0, 0⟩, ⟨none, 0, 0⟩, [], [], rfl, rfl, Nat.zero_le _, RowL.nil c3R c3S, RowL.nil b4w b4x, I.re [] (fun f f0 fa => by simp only [mB, pB, oB, bx, List.flatten_cons, List.flatten_nil, f0, fa]; omega)⟩ ?_
  rintro n τ w4 next3 ⟨i, sv, sr, Fvr, Fsr, rfl, hl4, hi, hrv, hrs, I4⟩ hn3
  simp only [List.map_cons, List.map_nil, List.cons.injEq, and_true] at hl4
  simp only [hl4]
  unfold c4h
  refine a7 (B8 _ _ _ _ _ _) ?_
  refine i4 (fun c5 => ?_) (fun c5 => ?_)
  · obtain ⟨d, hd⟩ := t6 (l := q.decls) (i := i) (by omega)
    obtain ⟨g5, o5, ha5, hA5⟩ := hds.2 i d hd
    have hlv := f8d (q.decls.take i)
    have hla := f8e (q.decls.take i)
    rw [List.length_take] at hlv hla
    have hlv2 := d2G (f := fun x : ByteArray × Int => x.2) σ.vars (vD (q.decls.take i)).length
    have hla2 := d2G (f := fun x : ByteArray × Sl => x.2) X.la (aD (q.decls.take i)).length
    refine A8 fun j4 hx4 => ?_
    refine a7 (b1o ha5 _ _ _ _ (by omega) (by omega)) ?_
    refine b8 (ldA (vs := m4 d) Tryd.isAgg58 Tryd.sizeOf58 rfl (I4.atH hA5)) ?_
    refine z7 I4 Tryd.zeroValue58 (cs := [(Value.string ⟨#[]⟩), (vi 0)]) rfl fun g16 w6 I6 _ => ?_
    refine m9 I6 Tryd.sizeOf58 (vs := (m4 d)) (cs' := (m4 d)) rfl rfl (nb rfl) rfl rfl fun w7 I7 _ => ?_
    refine a7 a2x ?_
    refine b8 (ld1 Tryd.isAgg3 (I7.at1 (o := 1) (vs := [vi d.D3]) (nb rfl) rfl)) ?_
    refine a7 (a0B _ _ _ _ _ _) ?_
    have nxt : ∀ (sv' sr' : Sl) (Fvr' Fsr' : Frag) (w' : World), RowL 2 1 ci sv' ((σ.vars.take (vD (q.decls.take (i + 1))).length).map (·.2)) Fvr' → RowL 45 1 csl sr' ((X.la.take (aD (q.decls.take (i + 1))).length).map (·.2)) Fsr' →
        Inv w0 ps H0 H [oB g14 ⟨st, wr, σ.steps, ev, sv', sr'⟩, bx g10 90 (rcs X σ sc ev), Fe, Fv, Fa, oB g6 oz, pB g3 p, Fvr', Fsr'] w' → j4 [] w' := fun sv' sr' Fvr' Fsr' w' h1 h2 J => by
      refine hx4 _ _ ?_
      unfold d1u
      intro _
      refine a7 (E4 _ _ _ _ _ _) ?_
      rw [R6 (by omega) (by omega)]
      exact hn3 _ _ _ (show q.decls.length - (i + 1) < q.decls.length - i by omega) ⟨i + 1, sv', sr', Fvr', Fsr', rfl, rfl, by omega, h1, h2, J⟩
    refine i4 (fun c => ?_) (fun c => ?_)
    · obtain ⟨sl, hsl⟩ := d2F laf (e4k hd c)
      have hlk := c9C (by rw [laf]; exact nd.2) hsl
      refine a0p I7 fun w8 I8 => ?_
      refine j8 b7o ?_
      refine j8 (p6 _) ?_
      refine j8 b1r ?_
      refine j8 a0g ?_
      refine u0 (ld1 Tryd.isAgg47 ((I8.bring 1).at1 (o := 5) (vs := [vs sr]) (nb rfl) rfl)) ?_
      refine u0 (ld1 Tryd.isAgg88 ((I8.bring 2).at1 (o := 5) (vs := [.map X.ma]) (nb rfl) rfl)) ?_
      refine u0 (ld1 Tryd.isAgg9 (I8.at1 (o := 0) (vs := [.string d.d6]) (nb rfl) rfl)) ?_
      refine a9H (keyS Tryd.underlying9) Tryd.underlying88 (z := (⟨none, 0, 0⟩ : Sl)) (fun w => Tryd.zeroValue45 w) I8 W.hma d.d6 ?_
      rw [hlk, Option.getD_some]
      refine U3 (e := 45) (c := csl) (xs := [sl]) I8 (g1L _) rfl rfl b4w b4x (nb rfl) fun s9 F9 w9 hr9 I9 k9 => ?_
      refine ⟨k9 _ (I8.bring 1).lt1, ?_⟩
      refine f8c (s := sr) (I9.bring 10) hrs (hr9.srcO ((I9.bring 10).bring 1)) (by rw [List.length_singleton]; omega) fun s10 F10 w10 hr10 I10 _ => ?_
      refine j8 b7o ?_
      refine m9 (I10.bring 3) Tryd.sizeOf47 (vs := [vs s10]) (cs' := p9 ⟨st, wr, σ.steps, ev, sv, s10⟩) rfl rfl (nb rfl) rfl rfl fun w11 I11 _ => ?_
      refine nxt sv s10 Fvr F10 _ ?_ ?_ (I11.re (F9 ++ bx g16 58 (m4 d)) (fun f f0 fa => by simp only [mB, pB, oB, bx, List.flatten_cons, List.flatten_nil, f0, fa]; omega))
      · rw [c1q hd, if_pos c, List.append_nil]; exact hrv
      · rw [c1r hd, if_pos c, List.length_append, List.length_singleton, d2H hsl]; exact hr10
    · obtain ⟨v, hvv⟩ := d2F hv (e4j hd c)
      have hlk := c9C (by rw [hv]; exact nd.1) hvv
      obtain ⟨g9, Fr, hlv9, hp9, _⟩ := W.hvs.get hlk
      refine a0p I7 fun w8 I8 => ?_
      refine j8 a3H ?_
      refine j8 (p6 _) ?_
      refine j8 a7k ?_
      refine j8 a0g ?_
      refine u0 (ld1 Tryd.isAgg45 ((I8.bring 1).at1 (o := 4) (vs := [vs sv]) (nb rfl) rfl)) ?_
      refine u0 (ld1 Tryd.isAgg87 ((I8.bring 2).at1 (o := 4) (vs := [.map X.mv]) (nb rfl) rfl)) ?_
      refine u0 (ld1 Tryd.isAgg9 (I8.at1 (o := 0) (vs := [.string d.d6]) (nb rfl) rfl)) ?_
      refine a9H (keyS Tryd.underlying9) Tryd.underlying87 (z := (none : Option Addr)) (fun w => Tryd.zeroValue91 w) I8 W.hmv d.d6 ?_
      rw [hlv9, Option.getD_some]
      refine j8 (p6 _) ?_
      refine u0 (ld1 Tryd.isAgg2 ((((I8.bring 4).p1 hp9).un2).at1 (o := 0) (vs := [vi v]) (nb rfl) rfl)) ?_
      refine U3 (e := 2) (c := ci) (xs := [v]) I8 (c5P _) rfl rfl c3R c3S (nb rfl) fun s9 F9 w9 hr9 I9 k9 => ?_
      refine ⟨k9 _ (I8.bring 1).lt1, ?_⟩
      refine c9V (s := sv) (I9.bring 9) hrv (hr9.srcO ((I9.bring 9).bring 1)) (by rw [List.length_singleton]; omega) fun s10 F10 w10 hr10 I10 _ => ?_
      refine j8 a3H ?_
      refine m9 (I10.bring 3) Tryd.sizeOf45 (vs := [vs s10]) (cs' := p9 ⟨st, wr, σ.steps, ev, s10, sr⟩) rfl rfl (nb rfl) rfl rfl fun w11 I11 _ => ?_
      refine nxt s10 sr F10 Fsr _ ?_ ?_ (I11.re (F9 ++ bx g16 58 (m4 d)) (fun f f0 fa => by simp only [mB, pB, oB, bx, List.flatten_cons, List.flatten_nil, f0, fa]; omega))
      · rw [c1q hd, if_neg c, List.length_append, List.length_singleton, d2H hvv]; exact hr10
      · rw [c1r hd, if_neg c, List.append_nil]; exact hrs
  · refine hx2 _ _ ?_
    have hie : i = q.decls.length := by omega
    subst hie
    rw [List.take_length] at hrv hrs
    have e1 : (vD q.decls).length = σ.vars.length := by rw [← List.length_map (f := (·.1)), ← hv, List.length_map]
    have e2 : (aD q.decls).length = X.la.length := by rw [← List.length_map (f := (·.1)), ← laf, List.length_map]
    rw [e1, List.take_length] at hrv
    rw [e2, List.take_length] at hrs
    unfold c4g
    intro _
    refine b8 (ldA (vs := p9 ⟨st, wr, σ.steps, ev, sv, sr⟩) Tryd.isAgg49 Tryd.sizeOf49 rfl (I4.at1 (o := 0) (nb rfl) rfl)) ?_
    refine m9 (I4.bring 5) Tryd.sizeOf49 (vs := p9 ⟨st, wr, σ.steps, ev, sv, sr⟩) (cs' := p9 ⟨st, wr, σ.steps, ev, sv, sr⟩) rfl rfl (nb rfl) rfl rfl fun w6 I6 _ => ?_
    refine a2j (vs := p9 ⟨st, wr, σ.steps, ev, sv, sr⟩) Tryd.isAgg49 Tryd.sizeOf49 rfl (I6.at1 (o := 0) (nb rfl) rfl) ?_
    refine hR _ [Fe, Fvr, Fsr ++ Fa] _ ⟨rfl, rfl, rfl, Fe, Fvr, Fsr ++ Fa, rfl, W.hev, hrv, X.la.map (·.2), Fsr, Fa, hrs, W.has.inners, .refl _⟩ ?_
    exact I6.re (oB g6 ⟨st, wr, σ.steps, ev, sv, sr⟩ ++ (oB g14 ⟨st, wr, σ.steps, ev, sv, sr⟩ ++ (bx g10 90 (rcs X σ sc ev) ++ (Fv ++ pB g3 p)))) (fun f f0 fa => by simp only [mB, pB, oB, bx, List.flatten_cons, List.flatten_nil, f0, fa]; omega)
end
end Go.Proofs.YtnhkdkcgdcgmdaaDoor
namespace Go.Proofs.YtnhkdkcgdcgmdaaDoor
open Go.RowKit
set_option maxRecDepth 100000
set_option maxHeartbeats 2000000
abbrev f8f : Nat := 4096
section
variable {H : Hp}
theorem SH.node {k : Int} {nm : ByteArray} {s1 s2 s3 s4 : Sl} {xs : List d8} {ts : List PT} {ys : List o9} {us : List PT} {zs bs : List o0} {vs ws : List PT}
    (h1 : SlH H 4 b6 s1 xs) (b1 : xs.length ≤ big) (r1 : s7 (EH H) xs ts) (h2 : SlH H 4 i5 s2 ys) (b2 : ys.length ≤ big) (r2 : s7 (CH H) ys us) (h3 : SlH H 6 d9 s3 zs) (b3 : zs.length ≤ big) (r3 : s7 (SH H) zs vs) (h4 : SlH H 6 d9 s4 bs) (b4 : bs.length ≤ big) (r4 : s7 (SH H) bs ws) :
    SH H ⟨k, nm, s1, s2, s3, s4⟩ (sN k nm ts us vs ws) := SH.mk (s := ⟨k, nm, s1, s2, s3, s4⟩) h1 b1 r1 h2 b2 r2 h3 b3 r3.1 r3.2 h4 b4 r4.1 r4.2
theorem PH.ars {p : B0} {q : PP} (hp : PH H p q) (hsm : q.Sm) (h : toldS q.nodes = 0) : (∀ t ∈ q.body, ArS t ∧ formT t = true) ∧ cTs q.body ≤ f8f := by
  have hi := (c3N _).1 h
  have hf := hi.2.2.1
  unfold PP.nodes at hf
  rw [b2h, Bool.and_eq_true] at hf
  obtain ⟨_, _, xs, hsl, hxb, hr⟩ := hp
  refine ⟨fun t ht => ?_, ?_⟩
  · obtain ⟨i, hi⟩ := List.getElem?_of_mem ht
    obtain ⟨x, hx⟩ := t6 (l := xs) (i := i) (by have := C5 hi; have := hr.1; omega)
    have hft := C9 hf.2 ht
    exact ⟨f1h (hr.2 i x t hx hi) hft (hsm t (List.mem_append_right _ ht)), hft⟩
  · have := hi.1
    unfold PP.nodes at this
    rw [b5a] at this
    simp only [f8f]; omega
end
section
variable {H : Hp}
end
end Go.Proofs.YtnhkdkcgdcgmdaaDoor
