/- A program's run: the whole. Off the readings. -/
import Derived.Test.YtnhkdkcgdcgmdaaDoorzZQm
namespace Go.Proofs.YtnhkdkcgdcgmdaaDoor
open Go.RowKit
set_option maxRecDepth 100000
set_option maxHeartbeats 4000000
section
variable {H : Hp}
abbrev rc0 (k : Int) (sc : Sl) (gm ga : Nat) : List Value := [vi k, vi 0, vs sc, Value.slice none 0 0, .map (some gm), .map (some ga)]
abbrev rB (g : Nat) (cs : List Value) : Frag := bx g 90 cs
theorem d8P {g o : Nat} : Pu Tryd.prog (xV (Instr.fieldAt 93 (.pointer (some ⟨g, o, none⟩)) 0)) (.pointer (some ⟨g, o + 0, none⟩)) := Pu.ok fun w => by kernel_rfl
theorem d8Q {g o : Nat} : Pu Tryd.prog (xV (Instr.fieldAt 93 (.pointer (some ⟨g, o, none⟩)) 1)) (.pointer (some ⟨g, o + 1, none⟩)) := Pu.ok fun w => by kernel_rfl
theorem g0l (hT : TabsH H) {p : C4} {q : PP} (hp : PH H p q) (hsm : q.Sm) {sc : Sl} {scr : List Int} (hsc : SlH H 1 ci sc scr) (hcap : sc.n ≤ sc.c) (hin : ∀ x ∈ scr, o0 x) (k : Int) :
    Ct Tryd.prog 18 [.agg (q9 p).toArray, vs sc, vi k] H [] (fun v H' Fo => ∃ o, v = .tuple #[.agg (q7 o).toArray, vi (errR q scr k)] ∧ (errR q scr k ≠ 0 → o = oz ∧ Fo = []) ∧ (errR q scr k = 0 → Oown o (runQ q scr k.toNat) Fo)) noQE := by
  intro w I
  refine f5E ?_
  unfold F18
  refine M5 I (cs := q9 p) rfl fun g3 w1 I1 _ => ?_
  refine u6 I1 Tryd.zeroValue49 (cs := q7 oz) rfl fun g6 w2 I2 _ => ?_
  refine d6 (ldA (vs := q9 p) Tryd.isAgg44 Tryd.sizeOf44 rfl ((I2.bring 1).at1 (o := 0) (nb rfl) rfl)) ?_
  refine d8 (cap := []) (fun args w => Tryd.call34 args w) ?_
  refine m9 (Fi := []) (Fr := [oB g6 oz, pB g3 p]) I2 (e6g hT hp hsm (K := fun a b H' => a = (wellS q).1 ∧ b = (wellS q).2) fun _ _ => ⟨rfl, rfl⟩) (fun v H3 Fo w3 I3 l3 k3 qq => ?_) (fun _ _ _ _ _ q => q.elim)
  obtain ⟨r0, r1, rfl, rfl, rfl, rfl⟩ := qq
  refine a7 (o2 _ 0 _ rfl) ?_
  refine a7 (o2 _ 1 _ rfl) ?_
  refine a7 (a1C _ _ _ _ _ _) ?_
  have hbz : Pu Tryd.prog (xV (Instr.build 49 #[])) (.agg (q7 oz).toArray) := Pu.ok fun w => by kernel_rfl
  have hln := hsc.1
  refine a6i (fun c => ?_) (fun c => ?_)
  · have he : errR q scr k = (wellS q).2 := by unfold errR; rw [if_pos c]
    refine a7 hbz ?_
    refine o7 I3 Tryd.sizeOf49 (vs := q7 oz) (cs' := q7 oz) rfl rfl (nb rfl) rfl rfl fun w4 I4 _ => ?_
    refine a2G (vs := q7 oz) Tryd.isAgg49 Tryd.sizeOf49 rfl (I4.at1 (o := 0) (nb rfl) rfl) ?_
    exact ⟨_, _, I4.drop.drop, oz, by rw [he]; rfl, fun _ => ⟨rfl, rfl⟩, fun h => (c (he.symm.trans h)).elim⟩
  refine a7 (C5 _ _ _ _ _ _) ?_
  refine a7 (Pu.g (v := .bool (decide (65536 < k))) fun c => (by rw [P6, s6 c]; exact a1W _ _ _ _ _ _)) ?_
  refine a7 (a1X _ _) ?_
  refine a7 (Pu.g fun c => (by rw [P6, s6 c]; exact a6V _ _ _)) ?_
  refine a7 (Pu.g (v := .bool (decide (65536 < (sc.n : Int)))) fun c => (by rw [s6 c]; exact a1W _ _ _ _ _ _)) ?_
  refine a7 (a1X _ _) ?_
  refine p5 (fun c2 => ?_) (fun c2 => ?_)
  · have he : errR q scr k = 80 := by
      unfold errR
      rw [if_neg (fun h => h c), if_pos]
      simp at c2
      omega
    refine a7 hbz ?_
    refine o7 I3 Tryd.sizeOf49 (vs := q7 oz) (cs' := q7 oz) rfl rfl (nb rfl) rfl rfl fun w4 I4 _ => ?_
    refine a2G (vs := q7 oz) Tryd.isAgg49 Tryd.sizeOf49 rfl (I4.at1 (o := 0) (nb rfl) rfl) ?_
    exact ⟨_, _, I4.drop.drop, oz, by rw [he], fun _ => ⟨rfl, rfl⟩, fun h => by rw [he] at h; cases h⟩
  have hb2 : 0 ≤ k ∧ k ≤ 65536 ∧ sc.n ≤ 65536 := by
    simp at c2
    omega
  have he : errR q scr k = 0 := by
    unfold errR
    rw [if_neg (fun h => h c), if_neg]
    omega
  obtain ⟨n, rfl⟩ : ∃ n : Nat, k = n := ⟨k.toNat, by omega⟩
  rw [he, Int.toNat_natCast]
  clear c2 he
  have hp3 := hp.le l3
  have hsc3 := hsc.le l3
  have hds := hp3.d
  have hdn := hds.1
  have hbd := hp3.bd
  simp only [big] at hbd
  obtain ⟨htold, hdok, _⟩ := (b3b q).1 c
  obtain ⟨hnd, hsz, _⟩ := hdok
  refine b5a I3 fun gm w4 I4 _ => ?_
  refine b5a I4 fun ga w5 I5 _ => ?_
  refine a7 (v := .agg (rc0 n sc gm ga).toArray) (Pu.ok fun w => by kernel_rfl) ?_
  refine M5 I5 (cs := rc0 n sc gm ga) rfl fun g10 w6 I6 _ => ?_
  refine A8 fun j1 hx1 => ?_
  refine a7 a7C ?_
  refine d6 (ld1 Tryd.isAgg41 ((I6.bring 4).at1 (o := 0) (vs := [vs p.a4L]) (nb rfl) rfl)) ?_
  refine a7 (a9U _ _ _) ?_
  refine M7 (J := fun nn l w' => ∃ (i : Nat) (es es2 : Array MapEntry) (cl cl2 : Nat) (lv : List (ByteArray × Option Addr)) (la : List (ByteArray × Sl)) (Fv Fa : Frag), nn = q.decls.length - i ∧ l = [vi (i : Int)] ∧ i ≤ q.decls.length ∧ MapEs kS vP es lv ∧ MapEs kS vs es2 la ∧ Boxes lv (vD (q.decls.take i)) Fv ∧ Arrs la (aD (q.decls.take i)) Fa ∧
      Inv w (inF []) H H3 [rB g10 (rc0 n sc gm ga), mB ga es2 cl2, mB gm es cl, oB g6 oz, pB g3 p, Fv, Fa] w')
    ⟨_, 0, #[], #[], 0, 0, [], [], [], [], rfl, rfl, Nat.zero_le _, MapEs.nil _ _, MapEs.nil _ _, .nil, .nil, I6.re [] (fun f f0 fa => by (try simp only [List.nil_append]); simp only [rB, mB, pB, oB, bx, List.flatten_cons, List.flatten_nil, f0, fa] <;> omega)⟩ ?_
  rintro nn τ w7 next5 ⟨i, es, es2, cl, cl2, lv, la, Fv, Fa, rfl, hl7, hi, hes, hes2, hbx, har, I7⟩ hn7
  simp only [List.map_cons, List.map_nil, List.cons.injEq, and_true] at hl7
  simp only [hl7]
  unfold d2M
  refine a7 (C5 _ _ _ _ _ _) ?_
  refine j7 (fun c5 => ?_) (fun c5 => ?_)
  · obtain ⟨d, hd⟩ := u4 (l := q.decls) (i := i) (by omega)
    obtain ⟨g5, o5, ha5, hA5⟩ := hds.2 i d hd
    have hnew := d8N hnd hd
    refine A8 fun j6 hx6 => ?_
    refine a7 (b1M ha5 _ _ _ _ (by omega) (by omega)) ?_
    refine d6 (ldA (vs := m7 d) Tryd.isAgg58 Tryd.sizeOf58 rfl (I7.atH hA5)) ?_
    refine u6 I7 Tryd.zeroValue58 (cs := [(Value.string ⟨#[]⟩), (vi 0)]) rfl fun g12 w8 I8 _ => ?_
    refine o7 I8 Tryd.sizeOf58 (vs := (m7 d)) (cs' := (m7 d)) rfl rfl (nb rfl) rfl rfl fun w9 I9 _ => ?_
    refine a7 a2S ?_
    refine d6 (ld1 Tryd.isAgg3 (I9.at1 (o := 1) (vs := [vi d.E0]) (nb rfl) rfl)) ?_
    refine a7 (a1W _ _ _ _ _ _) ?_
    have nxt : ∀ (es es2 : Array MapEntry) (cl cl2 : Nat) (lv : List (ByteArray × Option Addr)) (la : List (ByteArray × Sl)) (Fv Fa : Frag) (w' : World), MapEs kS vP es lv → MapEs kS vs es2 la → Boxes lv (vD (q.decls.take (i + 1))) Fv → Arrs la (aD (q.decls.take (i + 1))) Fa →
        Inv w (inF []) H H3 [rB g10 (rc0 n sc gm ga), mB ga es2 cl2, mB gm es cl, oB g6 oz, pB g3 p, Fv, Fa] w' → j6 [] w' := fun es es2 cl cl2 lv la Fv Fa w' h1 h2 h3 h4 J => by
      refine hx6 _ _ ?_
      unfold d2L
      intro _
      refine a7 (J0 _ _ _ _ _ _) ?_
      rw [S9 (by omega) (by omega)]
      exact hn7 _ _ _ (show q.decls.length - (i + 1) < q.decls.length - i by omega) ⟨i + 1, es, es2, cl, cl2, lv, la, Fv, Fa, rfl, rfl, by omega, h1, h2, h3, h4, J⟩
    refine j7 (fun c => ?_) (fun c => ?_)
    · have hz := hsz d (List.mem_of_getElem? hd)
      have hnl : d.g7 ∉ la.map (·.1) := by
        rw [har.fst]
        exact fun h => hnew (by have := g0f _ _ h; exact this)
      refine Z9 I9 fun w10 I10 => ?_
      refine m4 (r5 _) ?_
      refine m4 b1P ?_
      refine m4 a0B ?_
      refine m4 a2S ?_
      refine u9 (ld1 Tryd.isAgg88 ((I10.bring 1).at1 (o := 5) (vs := [.map (some ga)]) (nb rfl) rfl)) ?_
      refine u9 (ld1 Tryd.isAgg9 (I10.at1 (o := 0) (vs := [.string d.g7]) (nb rfl) rfl)) ?_
      refine u9 (ld1 Tryd.isAgg3 (I10.at1 (o := 1) (vs := [vi d.E0]) (nb rfl) rfl)) ?_
      refine g3P I10 (by omega) (by omega) fun s11 F11 w11 hr11 I11 k11 => ?_
      refine ⟨k11 _ I10.lt1, k11 _ (I10.bring 1).lt1, ?_⟩
      refine a7W (keyS Tryd.underlying9) Tryd.underlying88 (I11.bring 3) hes2 d.g7 s11 fun es2' cl2' w12 hes2' I12 _ => ?_
      rw [b7G _ _ _ hnl] at hes2'
      refine nxt es es2' cl cl2' lv _ Fv (Fa ++ F11) _ hes hes2' ?_ ?_ (I12.re (bx g12 58 (m7 d)) (fun f f0 fa => by (try simp only [List.cons_append, List.nil_append]); simp only [rB, mB, pB, oB, bx, List.flatten_cons, List.flatten_nil, f0, fa] <;> omega))
      · rw [c2i hd, if_pos c, List.append_nil]; exact hbx
      · rw [c2j hd, if_pos c]; exact har.snoc hr11
    · have hnl : d.g7 ∉ lv.map (·.1) := by
        rw [hbx.fst]
        exact fun h => hnew (by have := g0e _ _ h; exact this)
      refine Z9 I9 fun w10 I10 => ?_
      refine m4 (r5 _) ?_
      refine m4 a7F ?_
      refine m4 a0B ?_
      refine u9 (ld1 Tryd.isAgg87 ((I10.bring 1).at1 (o := 4) (vs := [.map (some gm)]) (nb rfl) rfl)) ?_
      refine u9 (ld1 Tryd.isAgg9 (I10.at1 (o := 0) (vs := [.string d.g7]) (nb rfl) rfl)) ?_
      refine u6 I10 Tryd.zeroValue2 (cs := [(vi 0)]) rfl fun g11 w11 I11 k11 => ?_
      refine ⟨k11 _ I10.lt1, k11 _ (I10.bring 1).lt1, ?_⟩
      refine a7W (vv := vP) (keyS Tryd.underlying9) Tryd.underlying87 (I11.bring 4) hes d.g7 (some ⟨g11, 0, none⟩) fun es' cl' w12 hes' I12 _ => ?_
      rw [b7G _ _ _ hnl] at hes'
      refine nxt es' es2 cl' cl2 _ la (Fv ++ bx g11 2 [vi 0]) Fa _ hes' hes2 ?_ ?_ (I12.re (bx g12 58 (m7 d)) (fun f f0 fa => by (try simp only [List.cons_append, List.nil_append]); simp only [rB, mB, pB, oB, bx, List.flatten_cons, List.flatten_nil, f0, fa] <;> omega))
      · rw [c2i hd, if_neg c]; exact hbx.snoc
      · rw [c2j hd, if_neg c, List.append_nil]; exact har
  · refine hx1 _ _ ?_
    have hie : i = q.decls.length := by omega
    subst hie
    rw [List.take_length] at hbx har
    clear hx1 hn7 hl7 c5
    have z1 := (I7.bring 1).freeze
    have z2 := ((z1.1).bring 1).freeze
    have l5 := z1.2.1.trans z2.2.1
    have hma : MapH (addF (addF H3 (mB ga es2 cl2)) (mB gm es cl)) kS vs (some ga) la := ⟨ga, es2, cl2, rfl, z2.2.1 _ _ (z1.2.2 _ (List.mem_singleton_self _)), hes2⟩
    have hmv : MapH (addF (addF H3 (mB ga es2 cl2)) (mB gm es cl)) kS vP (some gm) lv := ⟨gm, es, cl, rfl, z2.2.2 _ (List.mem_singleton_self _), hes⟩
    have I8 : Inv w (inF []) H _ [rB g10 (rc0 n sc gm ga), oB g6 oz, pB g3 p, Fv, Fa] w7 := z2.1
    generalize addF (addF H3 (mB ga es2 cl2)) (mB gm es cl) = H5 at I8 hma hmv l5
    clear z1 z2
    have hp5 := hp3.le l5
    have hsc5 := hsc3.le l5
    have hst5 : ∃ xs, SlH H5 6 i5 p.a6O xs ∧ xs.length ≤ big ∧ s7 (SH H5) xs q.body := hp5.b
    obtain ⟨xs, hxs, hxb, hxr⟩ := hst5
    obtain ⟨hars, _⟩ := PH.ars hp5 hsm htold
    have hnm := e6h c
    have hok := g3O c hin n
    have hk1 : (n : Int) ≤ 1000000 := by omega
    have hk2 : n ≤ 1000000 := by omega
    have hrun := e5T (g := g10) (X := ⟨some gm, some ga, lv, la⟩) (b7t (k0 := n) (ev0 := n) hxs hxb hxr (fun t ht => cmS (hars t ht).1 (hars t ht).2 (hnm.mem ht)) fun t ht x hx => e5S hk1 hk2 (hars t ht).1 (hars t ht).2 (hnm.mem ht) x hx)
      (σ := s0 q.decls scr n) (F := rB g10 (rc0 n sc gm ga) ++ ([] ++ (Fv ++ Fa))) ⟨sc, ⟨none, 0, 0⟩, [], Fv, Fa, ⟨hsc5, hcap, RowL.nil a6k a6l, hbx, har, hmv, hma⟩, rfl⟩ hok
    have hcmB : Cm ((vD q.decls).map (·.1)) ((aD q.decls).map (·.1)) (fun _ => True) (seqM (q.body.map rnT)) := b4u fun m hm => by
      obtain ⟨t, ht, rfl⟩ := List.mem_map.1 hm
      exact cmS (hars t ht).1 (hars t ht).2 (hnm.mem ht)
    have hend : Okst n n ((vD q.decls).map (·.1)) ((aD q.decls).map (·.1)) (endS (seqM (q.body.map rnT) (s0 q.decls scr n))).2.2 := by
      have := hcmB.safe _ hok
      cases hm : seqM (q.body.map rnT) (s0 q.decls scr n) with
      | ok a s1 => rw [hm] at this; exact this.2.1
      | stop a b s1 => rw [hm] at this; exact this.1
    unfold d2K
    intro _
    refine a7 b1J ?_
    refine d6 (ld1 Tryd.isAgg42 ((I8.bring 2).at1 (o := 1) (vs := [vs p.a6O]) (nb rfl) rfl)) ?_
    refine d8 (cap := []) (fun args w => Tryd.call45 args w) ?_
    refine m9 (Fi := [rB g10 (rc0 n sc gm ga) ++ ([] ++ (Fv ++ Fa))]) (Fr := [oB g6 oz, pB g3 p]) (I8.re [] (fun f f0 fa => by (try simp only [List.cons_append, List.nil_append]); simp only [rB, pB, oB, bx, List.flatten_cons, List.flatten_nil, f0, fa] <;> omega)) hrun (fun v H6 Fo w8 I9 l6 k6 qq => ?_) (fun _ _ _ _ _ q => q.elim)
    obtain ⟨F', rfl, rfl, hr6, rfl⟩ := qq
    unfold runQ
    generalize endS (seqM (q.body.map rnT) (s0 q.decls scr n)) = r at hr6 hend ⊢
    obtain ⟨st, wr, σ⟩ := r
    dsimp only at hr6 hend ⊢
    obtain ⟨sc', ev, Fe, Fv', Fa', W, rfl⟩ := hr6
    refine u6 I9 Tryd.zeroValue93 (cs := [vi 0, vi 0]) rfl fun g13 w10 I10 _ => ?_
    refine o7 I10 Tryd.sizeOf93 (vs := [vi st, vi wr]) (cs' := [vi st, vi wr]) rfl rfl (nb rfl) rfl rfl fun w11 I11 _ => ?_
    have I12 : Inv w (inF []) H H6 [bx g13 93 [vi st, vi wr], rB g10 (rcs ⟨some gm, some ga, lv, la⟩ σ sc' ev), Fe, Fv', Fa', oB g6 oz, pB g3 p] w11 := I11.re [] (fun f f0 fa => by (try simp only [List.cons_append, List.nil_append]); simp only [rB, pB, oB, bx, List.flatten_cons, List.flatten_nil, f0, fa] <;> omega)
    refine Z9 I12 fun w12 I13 => ?_
    refine m4 d8P ?_
    refine m4 d8Q ?_
    refine m4 (r5 _) ?_
    refine m4 b1O ?_
    refine m4 (r5 _) ?_
    refine m4 a5J ?_
    refine u9 (ld1 Tryd.isAgg3 (I13.at1 (o := 0) (vs := [vi st]) (nb rfl) rfl)) ?_
    refine u9 (ld1 Tryd.isAgg3 (I13.at1 (o := 1) (vs := [vi wr]) (nb rfl) rfl)) ?_
    refine u9 (ld1 Tryd.isAgg3 ((I13.bring 1).at1 (o := 1) (vs := [vi σ.steps]) (nb rfl) rfl)) ?_
    refine u9 (ld1 Tryd.isAgg46 ((I13.bring 1).at1 (o := 3) (vs := [vs ev]) (nb rfl) rfl)) ?_
    refine m4 (v := .agg (q7 ⟨st, wr, σ.steps, ev, ⟨none, 0, 0⟩, ⟨none, 0, 0⟩⟩).toArray) (Pu.ok fun w => by kernel_rfl) ?_
    refine u6 I13 Tryd.zeroValue49 (cs := q7 oz) rfl fun g14 w14 I14 k14 => ?_
    refine ⟨k14 _ (I13.bring 1).lt1, k14 _ (I13.bring 1).lt1, k14 _ I13.lt1, k14 _ I13.lt1, ?_⟩
    refine o7 I14 Tryd.sizeOf49 (vs := q7 ⟨st, wr, σ.steps, ev, ⟨none, 0, 0⟩, ⟨none, 0, 0⟩⟩) (cs' := q7 ⟨st, wr, σ.steps, ev, ⟨none, 0, 0⟩, ⟨none, 0, 0⟩⟩) rfl rfl (nb rfl) rfl rfl fun w15 I15 _ => ?_
    refine d8O (st := st) (wr := wr) hp5 hnd W hend.vs hend.rs (I15.re (bx g13 93 [vi st, vi wr]) (fun f f0 fa => by (try simp only [List.cons_append, List.nil_append]); simp only [rB, pB, oB, bx, List.flatten_cons, List.flatten_nil, f0, fa] <;> omega)) fun o Fo w16 ho16 I16 => ?_
    exact ⟨_, _, I16, o, rfl, fun h => (h rfl).elim, fun _ => ho16⟩
end
end Go.Proofs.YtnhkdkcgdcgmdaaDoor
