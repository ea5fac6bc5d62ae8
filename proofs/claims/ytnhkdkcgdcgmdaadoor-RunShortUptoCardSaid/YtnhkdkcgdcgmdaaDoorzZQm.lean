/- A program's run. Off the readings. -/
import Derived.Test.YtnhkdkcgdcgmdaaDoorzZNc
import Derived.Test.YtnhkdkcgdcgmdaaDoorzZQl
namespace Go.Proofs.YtnhkdkcgdcgmdaaDoor
open Go.RowKit
set_option maxRecDepth 100000
set_option maxHeartbeats 4000000
section
variable {H : Hp}
theorem d3U {ν : Type} {l : List (ByteArray × ν)} {ks : List ByteArray} (h : l.map (·.1) = ks) {j : Nat} {s : ByteArray} (hs : ks[j]? = some s) : ∃ v, l[j]? = some (s, v) := by
  rw [← h, List.getElem?_map] at hs
  cases hq : l[j]? with
  | none => rw [hq] at hs; cases hs
  | some x =>
    rw [hq] at hs
    obtain ⟨a, b⟩ := x
    cases hs
    exact ⟨b, rfl⟩
theorem drop_at {ds : List m3} {i : Nat} {d : m3} (h : ds[i]? = some d) : ds.drop i = d :: ds.drop (i + 1) := by
  have hi := D2 h
  rw [List.drop_eq_getElem_cons hi]
  congr 1
  rw [List.getElem?_eq_getElem hi] at h
  exact Option.some.inj h
theorem e6i {ds : List m3} {i : Nat} {d : m3} (h : ds[i]? = some d) (c : ¬ 0 < d.E0) : ((vD ds).map (·.1))[(vD (ds.take i)).length]? = some d.g7 := by
  rw [d8L ds i, drop_at h, List.getElem?_map, List.getElem?_append_right (Nat.le_refl _), Nat.sub_self]
  unfold vD
  simp [c]
theorem e6j {ds : List m3} {i : Nat} {d : m3} (h : ds[i]? = some d) (c : 0 < d.E0) : ((aD ds).map (·.1))[(aD (ds.take i)).length]? = some d.g7 := by
  rw [d8M ds i, drop_at h, List.getElem?_map, List.getElem?_append_right (Nat.le_refl _), Nat.sub_self]
  unfold aD
  simp [c]
theorem g0i (l : List m3) : (vD l).length ≤ l.length := by unfold vD; rw [List.length_map]; exact List.length_filter_le _ _
theorem g0j (l : List m3) : (aD l).length ≤ l.length := by unfold aD; rw [List.length_map]; exact List.length_filter_le _ _
theorem d3V {α β : Type} {f : α → β} (l : List α) (n : Nat) : ((l.take n).map f).length ≤ n := by rw [List.length_map, List.length_take]; omega
theorem d3W {α β : Type} {f : α → β} {l : List α} {n : Nat} {x : α} (h : l[n]? = some x) : (l.take (n + 1)).map f = (l.take n).map f ++ [f x] := by rw [V9 h, List.map_append]; rfl
theorem d8O {q : PP} {p : C4} (hp : PH H p q) (hn : (q.decls.map (·.g7)).Nodup) {σ : St} {X : Cx} {g3 g6 g10 g14 : Nat} {sc ev : Sl} {Fe Fv Fa : Frag} (W : RnW X σ H sc ev Fe Fv Fa) (hv : σ.vars.map (·.1) = (vD q.decls).map (·.1)) (hr : σ.arrs.map (·.1) = (aD q.decls).map (·.1)) {w0 w : World} {ps : Nat → Prop} {H0 : Hp} {st wr : Int} {R : Value → World → Prop} {E : Pan}
    (I : Inv w0 ps H0 H [oB g14 ⟨st, wr, σ.steps, ev, ⟨none, 0, 0⟩, ⟨none, 0, 0⟩⟩, bx g10 90 (rcs X σ sc ev), Fe, Fv, Fa, oB g6 oz, pB g3 p] w)
    (hR : ∀ (o : R2) (Fo : List Frag) (w' : World), Oown o (ocS (st, wr, σ)) Fo → Inv w0 ps H0 H Fo w' → R (.tuple #[.agg (q7 o).toArray, vi 0]) w') :
    xcut (fun _ b2P => c5l (rP g6) (rP g14) b2P R E) fun j2 =>
      opK Tryd.prog E (xV (Instr.fieldAt 44 (rP g3) 0)) w fun c5B b2b => opK Tryd.prog E (xV (Instr.loadAt 41 c5B)) b2b fun b4C d7x => opK Tryd.prog E (xBuiltin .len #[41] 3 [false] [b4C]) d7x fun c5C c5j =>
        xloop [91] [(Value.int .i64 0)] c5j fun τ_138 b8Z next3 => c5m (rP g6) (rP g10) (rP g14) b4C c5C (τ_138 91) b8Z next3 j2 R E := by
  refine A8 fun j2 hx2 => ?_
  have hds := hp.d
  have hdn := hds.1
  have hbd := hp.bd
  simp only [big] at hbd
  have lvf := W.hvs.fst.trans hv
  have laf := W.has.fst.trans hr
  have nd := d3T hn
  refine a7 a7C ?_
  refine d6 (ld1 Tryd.isAgg41 ((I.bring 6).at1 (o := 0) (vs := [vs p.a4L]) (nb rfl) rfl)) ?_
  refine a7 (a9U _ _ _) ?_
  refine M7 (J := fun n l w' => ∃ (i : Nat) (sv sr : Sl) (Fvr Fsr : Frag), n = q.decls.length - i ∧ l = [vi (i : Int)] ∧ i ≤ q.decls.length ∧ RowL 2 1 ci sv ((σ.vars.take (vD (q.decls.take i)).length).map (·.2)) Fvr ∧ RowL 45 1 csl sr ((X.la.take (aD (q.decls.take i)).length).map (·.2)) Fsr ∧
    Inv w0 ps H0 H [oB g14 ⟨st, wr, σ.steps, ev, sv, sr⟩, bx g10 90 (rcs X σ sc ev), Fe, Fv, Fa, oB g6 oz, pB g3 p, Fvr, Fsr] w')
    ⟨_, 0, ⟨none, 0, 0⟩, ⟨none, 0, 0⟩, [], [], rfl, rfl, Nat.zero_le _, RowL.nil c4T c4U, RowL.nil b4W b4X, I.re [] (fun f f0 fa => by simp only [pB, oB, bx, List.flatten_cons, List.flatten_nil, f0, fa]; omega)⟩ ?_
  rintro n τ w4 next3 ⟨i, sv, sr, Fvr, Fsr, rfl, hl4, hi, hrv, hrs, I4⟩ hn3
  simp only [List.map_cons, List.map_nil, List.cons.injEq, and_true] at hl4
  simp only [hl4]
  unfold c5m
  refine a7 (C5 _ _ _ _ _ _) ?_
  refine j7 (fun c5 => ?_) (fun c5 => ?_)
  · obtain ⟨d, hd⟩ := u4 (l := q.decls) (i := i) (by omega)
    obtain ⟨g5, o5, ha5, hA5⟩ := hds.2 i d hd
    have hlv := g0i (q.decls.take i)
    have hla := g0j (q.decls.take i)
    rw [List.length_take] at hlv hla
    have hlv2 := d3V (f := fun x : ByteArray × Int => x.2) σ.vars (vD (q.decls.take i)).length
    have hla2 := d3V (f := fun x : ByteArray × Sl => x.2) X.la (aD (q.decls.take i)).length
    refine A8 fun j4 hx4 => ?_
    refine a7 (b1M ha5 _ _ _ _ (by omega) (by omega)) ?_
    refine d6 (ldA (vs := m7 d) Tryd.isAgg58 Tryd.sizeOf58 rfl (I4.atH hA5)) ?_
    refine u6 I4 Tryd.zeroValue58 (cs := [(Value.string ⟨#[]⟩), (vi 0)]) rfl fun g16 w6 I6 _ => ?_
    refine o7 I6 Tryd.sizeOf58 (vs := (m7 d)) (cs' := (m7 d)) rfl rfl (nb rfl) rfl rfl fun w7 I7 _ => ?_
    refine a7 a2S ?_
    refine d6 (ld1 Tryd.isAgg3 (I7.at1 (o := 1) (vs := [vi d.E0]) (nb rfl) rfl)) ?_
    refine a7 (a1W _ _ _ _ _ _) ?_
    have nxt : ∀ (sv' sr' : Sl) (Fvr' Fsr' : Frag) (w' : World), RowL 2 1 ci sv' ((σ.vars.take (vD (q.decls.take (i + 1))).length).map (·.2)) Fvr' → RowL 45 1 csl sr' ((X.la.take (aD (q.decls.take (i + 1))).length).map (·.2)) Fsr' →
        Inv w0 ps H0 H [oB g14 ⟨st, wr, σ.steps, ev, sv', sr'⟩, bx g10 90 (rcs X σ sc ev), Fe, Fv, Fa, oB g6 oz, pB g3 p, Fvr', Fsr'] w' → j4 [] w' := fun sv' sr' Fvr' Fsr' w' h1 h2 J => by
      refine hx4 _ _ ?_
      unfold d2J
      intro _
      refine a7 (J0 _ _ _ _ _ _) ?_
      rw [S9 (by omega) (by omega)]
      exact hn3 _ _ _ (show q.decls.length - (i + 1) < q.decls.length - i by omega) ⟨i + 1, sv', sr', Fvr', Fsr', rfl, rfl, by omega, h1, h2, J⟩
    refine j7 (fun c => ?_) (fun c => ?_)
    · obtain ⟨sl, hsl⟩ := d3U laf (e6j hd c)
      have hlk := d0W (by rw [laf]; exact nd.2) hsl
      refine Z9 I7 fun w8 I8 => ?_
      refine m4 b7P ?_
      refine m4 (r5 _) ?_
      refine m4 b1P ?_
      refine m4 a0B ?_
      refine u9 (ld1 Tryd.isAgg47 ((I8.bring 1).at1 (o := 5) (vs := [vs sr]) (nb rfl) rfl)) ?_
      refine u9 (ld1 Tryd.isAgg88 ((I8.bring 2).at1 (o := 5) (vs := [.map X.ma]) (nb rfl) rfl)) ?_
      refine u9 (ld1 Tryd.isAgg9 (I8.at1 (o := 0) (vs := [.string d.g7]) (nb rfl) rfl)) ?_
      refine b0e (keyS Tryd.underlying9) Tryd.underlying88 (z := (⟨none, 0, 0⟩ : Sl)) (fun w => Tryd.zeroValue45 w) I8 W.hma d.g7 ?_
      rw [hlk, Option.getD_some]
      refine U6 (e := 45) (c := csl) (xs := [sl]) I8 (g3Q _) rfl rfl b4W b4X (nb rfl) fun s9 F9 w9 hr9 I9 k9 => ?_
      refine ⟨k9 _ (I8.bring 1).lt1, ?_⟩
      refine g0h (s := sr) (I9.bring 10) hrs (hr9.srcO ((I9.bring 10).bring 1)) (by rw [List.length_singleton]; omega) fun s10 F10 w10 hr10 I10 _ => ?_
      refine m4 b7P ?_
      refine o7 (I10.bring 3) Tryd.sizeOf47 (vs := [vs s10]) (cs' := q7 ⟨st, wr, σ.steps, ev, sv, s10⟩) rfl rfl (nb rfl) rfl rfl fun w11 I11 _ => ?_
      refine nxt sv s10 Fvr F10 _ ?_ ?_ (I11.re (F9 ++ bx g16 58 (m7 d)) (fun f f0 fa => by simp only [pB, oB, bx, List.flatten_cons, List.flatten_nil, f0, fa]; omega))
      · rw [c2i hd, if_pos c, List.append_nil]; exact hrv
      · rw [c2j hd, if_pos c, List.length_append, List.length_singleton, d3W hsl]; exact hr10
    · obtain ⟨v, hvv⟩ := d3U hv (e6i hd c)
      have hlk := d0W (by rw [hv]; exact nd.1) hvv
      obtain ⟨g9, Fr, hlv9, hp9, _⟩ := W.hvs.get hlk
      refine Z9 I7 fun w8 I8 => ?_
      refine m4 a4f ?_
      refine m4 (r5 _) ?_
      refine m4 a7F ?_
      refine m4 a0B ?_
      refine u9 (ld1 Tryd.isAgg45 ((I8.bring 1).at1 (o := 4) (vs := [vs sv]) (nb rfl) rfl)) ?_
      refine u9 (ld1 Tryd.isAgg87 ((I8.bring 2).at1 (o := 4) (vs := [.map X.mv]) (nb rfl) rfl)) ?_
      refine u9 (ld1 Tryd.isAgg9 (I8.at1 (o := 0) (vs := [.string d.g7]) (nb rfl) rfl)) ?_
      refine b0e (keyS Tryd.underlying9) Tryd.underlying87 (z := (none : Option Addr)) (fun w => Tryd.zeroValue91 w) I8 W.hmv d.g7 ?_
      rw [hlv9, Option.getD_some]
      refine m4 (r5 _) ?_
      refine u9 (ld1 Tryd.isAgg2 ((((I8.bring 4).p1 hp9).un2).at1 (o := 0) (vs := [vi v]) (nb rfl) rfl)) ?_
      refine U6 (e := 2) (c := ci) (xs := [v]) I8 (c6R _) rfl rfl c4T c4U (nb rfl) fun s9 F9 w9 hr9 I9 k9 => ?_
      refine ⟨k9 _ (I8.bring 1).lt1, ?_⟩
      refine d1l (s := sv) (I9.bring 9) hrv (hr9.srcO ((I9.bring 9).bring 1)) (by rw [List.length_singleton]; omega) fun s10 F10 w10 hr10 I10 _ => ?_
      refine m4 a4f ?_
      refine o7 (I10.bring 3) Tryd.sizeOf45 (vs := [vs s10]) (cs' := q7 ⟨st, wr, σ.steps, ev, s10, sr⟩) rfl rfl (nb rfl) rfl rfl fun w11 I11 _ => ?_
      refine nxt s10 sr F10 Fsr _ ?_ ?_ (I11.re (F9 ++ bx g16 58 (m7 d)) (fun f f0 fa => by simp only [pB, oB, bx, List.flatten_cons, List.flatten_nil, f0, fa]; omega))
      · rw [c2i hd, if_neg c, List.length_append, List.length_singleton, d3W hvv]; exact hr10
      · rw [c2j hd, if_neg c, List.append_nil]; exact hrs
  · refine hx2 _ _ ?_
    have hie : i = q.decls.length := by omega
    subst hie
    rw [List.take_length] at hrv hrs
    have e1 : (vD q.decls).length = σ.vars.length := by rw [← List.length_map (f := (·.1)), ← hv, List.length_map]
    have e2 : (aD q.decls).length = X.la.length := by rw [← List.length_map (f := (·.1)), ← laf, List.length_map]
    rw [e1, List.take_length] at hrv
    rw [e2, List.take_length] at hrs
    unfold c5l
    intro _
    refine d6 (ldA (vs := q7 ⟨st, wr, σ.steps, ev, sv, sr⟩) Tryd.isAgg49 Tryd.sizeOf49 rfl (I4.at1 (o := 0) (nb rfl) rfl)) ?_
    refine o7 (I4.bring 5) Tryd.sizeOf49 (vs := q7 ⟨st, wr, σ.steps, ev, sv, sr⟩) (cs' := q7 ⟨st, wr, σ.steps, ev, sv, sr⟩) rfl rfl (nb rfl) rfl rfl fun w6 I6 _ => ?_
    refine a2G (vs := q7 ⟨st, wr, σ.steps, ev, sv, sr⟩) Tryd.isAgg49 Tryd.sizeOf49 rfl (I6.at1 (o := 0) (nb rfl) rfl) ?_
    refine hR _ [Fe, Fvr, Fsr ++ Fa] _ ⟨rfl, rfl, rfl, Fe, Fvr, Fsr ++ Fa, rfl, W.hev, hrv, X.la.map (·.2), Fsr, Fa, hrs, W.has.inners, .refl _⟩ ?_
    exact I6.re (oB g6 ⟨st, wr, σ.steps, ev, sv, sr⟩ ++ (oB g14 ⟨st, wr, σ.steps, ev, sv, sr⟩ ++ (bx g10 90 (rcs X σ sc ev) ++ (Fv ++ pB g3 p)))) (fun f f0 fa => by simp only [pB, oB, bx, List.flatten_cons, List.flatten_nil, f0, fa]; omega)
end
end Go.Proofs.YtnhkdkcgdcgmdaaDoor
namespace Go.Proofs.YtnhkdkcgdcgmdaaDoor
open Go.RowKit
set_option maxRecDepth 100000
set_option maxHeartbeats 2000000
abbrev g0k : Nat := 4096
section
variable {H : Hp}
theorem SH.node {k : Int} {nm : ByteArray} {s1 s2 s3 s4 : Sl} {xs : List i4} {ts : List PT} {ys : List o8} {us : List PT} {zs bs : List p6} {vs ws : List PT}
    (h1 : SlH H 4 d5 s1 xs) (b1 : xs.length ≤ big) (r1 : s7 (EH H) xs ts) (h2 : SlH H 4 g8 s2 ys) (b2 : ys.length ≤ big) (r2 : s7 (CH H) ys us) (h3 : SlH H 6 i5 s3 zs) (b3 : zs.length ≤ big) (r3 : s7 (SH H) zs vs) (h4 : SlH H 6 i5 s4 bs) (b4 : bs.length ≤ big) (r4 : s7 (SH H) bs ws) :
    SH H ⟨k, nm, s1, s2, s3, s4⟩ (sN k nm ts us vs ws) := SH.mk (s := ⟨k, nm, s1, s2, s3, s4⟩) h1 b1 r1 h2 b2 r2 h3 b3 r3.1 r3.2 h4 b4 r4.1 r4.2
theorem PH.ars {p : C4} {q : PP} (hp : PH H p q) (hsm : q.Sm) (h : toldS q.nodes = 0) : (∀ t ∈ q.body, ArS t ∧ formT t = true) ∧ cTs q.body ≤ g0k := by
  have hi := (c4Q _).1 h
  have hf := hi.2.2.1
  unfold PP.nodes at hf
  rw [b2H, Bool.and_eq_true] at hf
  obtain ⟨_, _, xs, hsl, hxb, hr⟩ := hp
  refine ⟨fun t ht => ?_, ?_⟩
  · obtain ⟨i, hi⟩ := List.getElem?_of_mem ht
    obtain ⟨x, hx⟩ := u4 (l := xs) (i := i) (by have := D2 hi; have := hr.1; omega)
    have hft := D6 hf.2 ht
    exact ⟨f3f (hr.2 i x t hx hi) hft (hsm t (List.mem_append_right _ ht)), hft⟩
  · have := hi.1
    unfold PP.nodes at this
    rw [b5z] at this
    simp only [g0k]; omega
end
section
variable {H : Hp}
end
end Go.Proofs.YtnhkdkcgdcgmdaaDoor
