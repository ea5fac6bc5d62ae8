/- A program's run: the whole. Off the readings. -/
import Derived.Test.YtnhkdkcgdcgmdaaDoorzSQm
namespace Go.Proofs.YtnhkdkcgdcgmdaaDoor
open Go.RowKit
set_option maxRecDepth 100000
set_option maxHeartbeats 4000000
section
variable {H : Hp}
abbrev rc0 (k : Int) (sc : Sl) (gm ga : Nat) : List Value := [vi k, vi 0, vs sc, Value.slice none 0 0, .map (some gm), .map (some ga)]
abbrev rB (g : Nat) (cs : List Value) : Frag := bx g 90 cs

theorem d8v {g o : Nat} : Pu Tryd.prog (xV (Instr.fieldAt 93 (.pointer (some ⟨g, o, none⟩)) 0)) (.pointer (some ⟨g, o + 0, none⟩)) := Pu.ok fun w => by kernel_rfl
theorem d8w {g o : Nat} : Pu Tryd.prog (xV (Instr.fieldAt 93 (.pointer (some ⟨g, o, none⟩)) 1)) (.pointer (some ⟨g, o + 1, none⟩)) := Pu.ok fun w => by kernel_rfl
theorem f9A (hT : TabsH H) {p : q8} {q : PP} (hp : PH H p q) (hsm : q.Sm) {sc : Sl} {scr : List Int} (hsc : SlH H 1 ci sc scr) (hcap : sc.n ≤ sc.c) (hin : ∀ x ∈ scr, m2 x) (k : Int) :
    Ct Tryd.prog 18 [.agg (u6 p).toArray, vs sc, vi k] H [] (fun v H' Fo => ∃ o, v = .tuple #[.agg (p6 o).toArray, vi (errR q scr k)] ∧ (errR q scr k ≠ 0 → o = oz ∧ Fo = []) ∧ (errR q scr k = 0 → Oown o (runQ q scr k.toNat) Fo)) noQE := by
  intro w I
  refine f5a ?_
  unfold F18
  refine P2 I (cs := u6 p) rfl fun g3 w1 I1 _ => ?_
  refine A8 I1 Tryd.zeroValue49 (cs := p6 oz) rfl fun g6 w2 I2 _ => ?_
  refine b6 (ldA (vs := u6 p) Tryd.isAgg44 Tryd.sizeOf44 rfl ((I2.bring 1).at1 (o := 0) (nb rfl) rfl)) ?_
  refine d6 (cap := []) (fun args w => Tryd.call34 args w) ?_
  refine m6 (Fi := []) (Fr := [oB g6 oz, pB g3 p]) I2 (e5m hT hp hsm (K := fun a b H' => a = (wellS q).1 ∧ b = (wellS q).2) fun _ _ => ⟨rfl, rfl⟩) (fun v H3 Fo w3 I3 l3 k3 qq => ?_) (fun _ _ _ _ _ q => q.elim)
  obtain ⟨r0, r1, rfl, rfl, rfl, rfl⟩ := qq
  refine a7 (m4 _ 0 _ rfl) ?_
  refine a7 (m4 _ 1 _ rfl) ?_
  refine a7 (Y0 _ _ _ _ _ _) ?_
  have hbz : Pu Tryd.prog (xV (Instr.build 49 #[])) (.agg (p6 oz).toArray) := Pu.ok fun w => by kernel_rfl
  have hln := hsc.1
  refine a5a (fun c => ?_) (fun c => ?_)
  · have he : errR q scr k = (wellS q).2 := by unfold errR; rw [if_pos c]
    refine a7 hbz ?_
    refine o0 I3 Tryd.sizeOf49 (vs := p6 oz) (cs' := p6 oz) rfl rfl (nb rfl) rfl rfl fun w4 I4 _ => ?_
    refine a4Z (vs := p6 oz) Tryd.isAgg49 Tryd.sizeOf49 rfl (I4.at1 (o := 0) (nb rfl) rfl) ?_
    exact ⟨_, _, I4.drop.drop, oz, by rw [he]; rfl, fun _ => ⟨rfl, rfl⟩, fun h => (c (he.symm.trans h)).elim⟩
  refine a7 (B7 _ _ _ _ _ _) ?_
  refine a7 (Pu.g (v := .bool (decide (65536 < k))) fun c => (by rw [G8, m8 c]; exact a1f _ _ _ _ _ _)) ?_
  refine a7 (T4 _ _) ?_
  refine a7 (Pu.g fun c => (by rw [G8, m8 c]; exact a5b _ _ _)) ?_
  refine a7 (Pu.g (v := .bool (decide (65536 < (sc.n : Int)))) fun c => (by rw [m8 c]; exact a1f _ _ _ _ _ _)) ?_
  refine a7 (T4 _ _) ?_
  refine o8 (fun c2 => ?_) (fun c2 => ?_)
  · have he : errR q scr k = 80 := by
      unfold errR
      rw [if_neg (fun h => h c), if_pos]
      simp at c2
      omega
    refine a7 hbz ?_
    refine o0 I3 Tryd.sizeOf49 (vs := p6 oz) (cs' := p6 oz) rfl rfl (nb rfl) rfl rfl fun w4 I4 _ => ?_
    refine a4Z (vs := p6 oz) Tryd.isAgg49 Tryd.sizeOf49 rfl (I4.at1 (o := 0) (nb rfl) rfl) ?_
    exact ⟨_, _, I4.drop.drop, oz, by rw [he], fun _ => ⟨rfl, rfl⟩, fun h => by rw [he] at h; cases h⟩
  have hb2 : 0 ≤ k ∧ k ≤ 65536 ∧ sc.n ≤ 65536 := by
    simp at c2
    omega
  have he : errR q scr k = 0 := by
    unfold errR
    rw [if_neg (fun h => h c), if_neg]
    omega
  obtain ⟨n, rfl⟩ : ∃ n : Nat, k = n := ⟨k.toNat, by omega⟩
  rw [he, Int.toNat_natCast]
  clear c2 he
  have hp3 := hp.le l3
  have hsc3 := hsc.le l3
  have hds := hp3.d
  have hdn := hds.1
  have hbd := hp3.bd
  simp only [big] at hbd
  obtain ⟨htold, hdok, _⟩ := (b2u q).1 c
  obtain ⟨hnd, hsz, _⟩ := hdok
  refine b4y I3 fun gm w4 I4 _ => ?_
  refine b4y I4 fun ga w5 I5 _ => ?_
  refine a7 (v := .agg (rc0 n sc gm ga).toArray) (Pu.ok fun w => by kernel_rfl) ?_
  refine P2 I5 (cs := rc0 n sc gm ga) rfl fun g10 w6 I6 _ => ?_
  refine A6 fun j1 hx1 => ?_
  refine a7 a7f ?_
  refine b6 (ld1 Tryd.isAgg41 ((I6.bring 4).at1 (o := 0) (vs := [vs p.a2j]) (nb rfl) rfl)) ?_
  refine a7 (a9s _ _ _) ?_
  refine M6 (J := fun nn l w' => ∃ (i : Nat) (es es2 : Array MapEntry) (cl cl2 : Nat) (lv : List (ByteArray × Option Addr)) (la : List (ByteArray × Sl)) (Fv Fa : Frag), nn = q.decls.length - i ∧ l = [vi (i : Int)] ∧ i ≤ q.decls.length ∧ MapEs kS vP es lv ∧ MapEs kS vs es2 la ∧ Boxes lv (vD (q.decls.take i)) Fv ∧ Arrs la (aD (q.decls.take i)) Fa ∧
      Inv w (inF []) H H3 [rB g10 (rc0 n sc gm ga), mB ga es2 cl2, mB gm es cl, oB g6 oz, pB g3 p, Fv, Fa] w')
    ⟨_, 0, #[], #[], 0, 0, [], [], [], [], rfl, rfl, Nat.zero_le _, MapEs.nil _ _, MapEs.nil _ _, .nil, .nil, I6.re [] (fun f f0 fa => by (try simp only [List.cons_append, List.nil_append]); simp only [rB, mB, pB, oB, bx, List.flatten_cons, List.flatten_nil, f0, fa] <;> omega)⟩ ?_
  rintro nn τ w7 next5 ⟨i, es, es2, cl, cl2, lv, la, Fv, Fa, rfl, hl7, hi, hes, hes2, hbx, har, I7⟩ hn7
  simp only [List.map_cons, List.map_nil, List.cons.injEq, and_true] at hl7
  simp only [hl7]
  unfold d1Q
  refine a7 (B7 _ _ _ _ _ _) ?_
  refine i2 (fun c5 => ?_) (fun c5 => ?_)
  · obtain ⟨d, hd⟩ := r9 (l := q.decls) (i := i) (by omega)
    obtain ⟨g5, o5, ha5, hA5⟩ := hds.2 i d hd
    have hnew := d8t hnd hd
    refine A6 fun j6 hx6 => ?_
    refine a7 (b1d ha5 _ _ _ _ (by omega) (by omega)) ?_
    refine b6 (ldA (vs := m3 d) Tryd.isAgg58 Tryd.sizeOf58 rfl (I7.atH hA5)) ?_
    refine A8 I7 Tryd.zeroValue58 (cs := [(Value.string ⟨#[]⟩), (vi 0)]) rfl fun g12 w8 I8 _ => ?_
    refine o0 I8 Tryd.sizeOf58 (vs := (m3 d)) (cs' := (m3 d)) rfl rfl (nb rfl) rfl rfl fun w9 I9 _ => ?_
    refine a7 a2y ?_
    refine b6 (ld1 Tryd.isAgg3 (I9.at1 (o := 1) (vs := [vi d.E4]) (nb rfl) rfl)) ?_
    refine a7 (a1f _ _ _ _ _ _) ?_
    have nxt : ∀ (es es2 : Array MapEntry) (cl cl2 : Nat) (lv : List (ByteArray × Option Addr)) (la : List (ByteArray × Sl)) (Fv Fa : Frag) (w' : World), MapEs kS vP es lv → MapEs kS vs es2 la → Boxes lv (vD (q.decls.take (i + 1))) Fv → Arrs la (aD (q.decls.take (i + 1))) Fa →
        Inv w (inF []) H H3 [rB g10 (rc0 n sc gm ga), mB ga es2 cl2, mB gm es cl, oB g6 oz, pB g3 p, Fv, Fa] w' → j6 [] w' := fun es es2 cl cl2 lv la Fv Fa w' h1 h2 h3 h4 J => by
      refine hx6 _ _ ?_
      unfold d1P
      intro _
      refine a7 (G6 _ _ _ _ _ _) ?_
      rw [S2 (by omega) (by omega)]
      exact hn7 _ _ _ (show q.decls.length - (i + 1) < q.decls.length - i by omega) ⟨i + 1, es, es2, cl, cl2, lv, la, Fv, Fa, rfl, rfl, by omega, h1, h2, h3, h4, J⟩
    refine i2 (fun c => ?_) (fun c => ?_)
    · have hz := hsz d (List.mem_of_getElem? hd)
      have hnl : d.d5 ∉ la.map (·.1) := by
        rw [har.fst]
        exact fun h => hnew (by have := f9u _ _ h; exact this)
      refine a0p I9 fun w10 I10 => ?_
      refine j8 (o9 _) ?_
      refine j8 b1g ?_
      refine j8 a0i ?_
      refine j8 a2y ?_
      refine u0 (ld1 Tryd.isAgg88 ((I10.bring 1).at1 (o := 5) (vs := [.map (some ga)]) (nb rfl) rfl)) ?_
      refine u0 (ld1 Tryd.isAgg9 (I10.at1 (o := 0) (vs := [.string d.d5]) (nb rfl) rfl)) ?_
      refine u0 (ld1 Tryd.isAgg3 (I10.at1 (o := 1) (vs := [vi d.E4]) (nb rfl) rfl)) ?_
      refine g2N I10 (by omega) (by omega) fun s11 F11 w11 hr11 I11 k11 => ?_
      refine ⟨k11 _ I10.lt1, k11 _ (I10.bring 1).lt1, ?_⟩
      refine a7z (keyS Tryd.underlying9) Tryd.underlying88 (I11.bring 3) hes2 d.d5 s11 fun es2' cl2' w12 hes2' I12 _ => ?_
      rw [b7b _ _ _ hnl] at hes2'
      refine nxt es es2' cl cl2' lv _ Fv (Fa ++ F11) _ hes hes2' ?_ ?_ (I12.re (bx g12 58 (m3 d)) (fun f f0 fa => by (try simp only [List.cons_append, List.nil_append]); simp only [rB, mB, pB, oB, bx, List.flatten_cons, List.flatten_nil, f0, fa] <;> omega))
      · rw [c1t hd, if_pos c, List.append_nil]; exact hbx
      · rw [c1u hd, if_pos c]; exact har.snoc hr11
    · have hnl : d.d5 ∉ lv.map (·.1) := by
        rw [hbx.fst]
        exact fun h => hnew (by have := f9t _ _ h; exact this)
      refine a0p I9 fun w10 I10 => ?_
      refine j8 (o9 _) ?_
      refine j8 a7i ?_
      refine j8 a0i ?_
      refine u0 (ld1 Tryd.isAgg87 ((I10.bring 1).at1 (o := 4) (vs := [.map (some gm)]) (nb rfl) rfl)) ?_
      refine u0 (ld1 Tryd.isAgg9 (I10.at1 (o := 0) (vs := [.string d.d5]) (nb rfl) rfl)) ?_
      refine A8 I10 Tryd.zeroValue2 (cs := [(vi 0)]) rfl fun g11 w11 I11 k11 => ?_
      refine ⟨k11 _ I10.lt1, k11 _ (I10.bring 1).lt1, ?_⟩
      refine a7z (vv := vP) (keyS Tryd.underlying9) Tryd.underlying87 (I11.bring 4) hes d.d5 (some ⟨g11, 0, none⟩) fun es' cl' w12 hes' I12 _ => ?_
      rw [b7b _ _ _ hnl] at hes'
      refine nxt es' es2 cl' cl2 _ la (Fv ++ bx g11 2 [vi 0]) Fa _ hes' hes2 ?_ ?_ (I12.re (bx g12 58 (m3 d)) (fun f f0 fa => by (try simp only [List.cons_append, List.nil_append]); simp only [rB, mB, pB, oB, bx, List.flatten_cons, List.flatten_nil, f0, fa] <;> omega))
      · rw [c1t hd, if_neg c]; exact hbx.snoc
      · rw [c1u hd, if_neg c, List.append_nil]; exact har
  · refine hx1 _ _ ?_
    have hie : i = q.decls.length := by omega
    subst hie
    rw [List.take_length] at hbx har
    clear hx1 hn7 hl7 c5
    have z1 := (I7.bring 1).freeze
    have z2 := ((z1.1).bring 1).freeze
    have l5 := z1.2.1.trans z2.2.1
    have hma : MapH (addF (addF H3 (mB ga es2 cl2)) (mB gm es cl)) kS vs (some ga) la := ⟨ga, es2, cl2, rfl, z2.2.1 _ _ (z1.2.2 _ (List.mem_singleton_self _)), hes2⟩
    have hmv : MapH (addF (addF H3 (mB ga es2 cl2)) (mB gm es cl)) kS vP (some gm) lv := ⟨gm, es, cl, rfl, z2.2.2 _ (List.mem_singleton_self _), hes⟩
    have I8 : Inv w (inF []) H _ [rB g10 (rc0 n sc gm ga), oB g6 oz, pB g3 p, Fv, Fa] w7 := z2.1
    generalize addF (addF H3 (mB ga es2 cl2)) (mB gm es cl) = H5 at I8 hma hmv l5
    clear z1 z2
    have hp5 := hp3.le l5
    have hsc5 := hsc3.le l5
    have hst5 : ∃ xs, SlH H5 6 f8 p.a3D xs ∧ xs.length ≤ big ∧ t7 (SH H5) xs q.body := hp5.b
    obtain ⟨xs, hxs, hxb, hxr⟩ := hst5
    obtain ⟨hars, _⟩ := PH.ars hp5 hsm htold
    have hnm := e5n c
    have hok := g2M c hin n
    have hk1 : (n : Int) ≤ 1000000 := by omega
    have hk2 : n ≤ 1000000 := by omega
    have hrun := e4Z (g := g10) (X := ⟨some gm, some ga, lv, la⟩) (b6O (k0 := n) (ev0 := n) hxs hxb hxr (fun t ht => cmS (hars t ht).1 (hars t ht).2 (hnm.mem ht)) fun t ht x hx => e4Y hk1 hk2 (hars t ht).1 (hars t ht).2 (hnm.mem ht) x hx)
      (σ := s0 q.decls scr n) (F := rB g10 (rc0 n sc gm ga) ++ ([] ++ (Fv ++ Fa))) ⟨sc, ⟨none, 0, 0⟩, [], Fv, Fa, ⟨hsc5, hcap, RowL.nil a5S a5T, hbx, har, hmv, hma⟩, rfl⟩ hok
    have hcmB : Cm ((vD q.decls).map (·.1)) ((aD q.decls).map (·.1)) (fun _ => True) (seqM (q.body.map rnT)) := b3O fun m hm => by
      obtain ⟨t, ht, rfl⟩ := List.mem_map.1 hm
      exact cmS (hars t ht).1 (hars t ht).2 (hnm.mem ht)
    have hend : Okst n n ((vD q.decls).map (·.1)) ((aD q.decls).map (·.1)) (endS (seqM (q.body.map rnT) (s0 q.decls scr n))).2.2 := by
      have := hcmB.safe _ hok
      cases hm : seqM (q.body.map rnT) (s0 q.decls scr n) with
      | ok a s1 => rw [hm] at this; exact this.2.1
      | stop a b s1 => rw [hm] at this; exact this.1
    unfold d1O
    intro _
    refine a7 b1a ?_
    refine b6 (ld1 Tryd.isAgg42 ((I8.bring 2).at1 (o := 1) (vs := [vs p.a3D]) (nb rfl) rfl)) ?_
    refine d6 (cap := []) (fun args w => Tryd.call45 args w) ?_
    refine m6 (Fi := [rB g10 (rc0 n sc gm ga) ++ ([] ++ (Fv ++ Fa))]) (Fr := [oB g6 oz, pB g3 p]) (I8.re [] (fun f f0 fa => by (try simp only [List.cons_append, List.nil_append]); simp only [rB, mB, pB, oB, bx, List.flatten_cons, List.flatten_nil, f0, fa] <;> omega)) hrun (fun v H6 Fo w8 I9 l6 k6 qq => ?_) (fun _ _ _ _ _ q => q.elim)
    obtain ⟨F', rfl, rfl, hr6, rfl⟩ := qq
    unfold runQ
    generalize endS (seqM (q.body.map rnT) (s0 q.decls scr n)) = r at hr6 hend ⊢
    obtain ⟨st, wr, σ⟩ := r
    dsimp only at hr6 hend ⊢
    obtain ⟨sc', ev, Fe, Fv', Fa', W, rfl⟩ := hr6
    refine A8 I9 Tryd.zeroValue93 (cs := [vi 0, vi 0]) rfl fun g13 w10 I10 _ => ?_
    refine o0 I10 Tryd.sizeOf93 (vs := [vi st, vi wr]) (cs' := [vi st, vi wr]) rfl rfl (nb rfl) rfl rfl fun w11 I11 _ => ?_
    have I12 : Inv w (inF []) H H6 [bx g13 93 [vi st, vi wr], rB g10 (rcs ⟨some gm, some ga, lv, la⟩ σ sc' ev), Fe, Fv', Fa', oB g6 oz, pB g3 p] w11 := I11.re [] (fun f f0 fa => by (try simp only [List.cons_append, List.nil_append]); simp only [rB, mB, pB, oB, bx, List.flatten_cons, List.flatten_nil, f0, fa] <;> omega)
    refine a0p I12 fun w12 I13 => ?_
    refine j8 d8v ?_
    refine j8 d8w ?_
    refine j8 (o9 _) ?_
    refine j8 b1f ?_
    refine j8 (o9 _) ?_
    refine j8 a5s ?_
    refine u0 (ld1 Tryd.isAgg3 (I13.at1 (o := 0) (vs := [vi st]) (nb rfl) rfl)) ?_
    refine u0 (ld1 Tryd.isAgg3 (I13.at1 (o := 1) (vs := [vi wr]) (nb rfl) rfl)) ?_
    refine u0 (ld1 Tryd.isAgg3 ((I13.bring 1).at1 (o := 1) (vs := [vi σ.steps]) (nb rfl) rfl)) ?_
    refine u0 (ld1 Tryd.isAgg46 ((I13.bring 1).at1 (o := 3) (vs := [vs ev]) (nb rfl) rfl)) ?_
    refine j8 (v := .agg (p6 ⟨st, wr, σ.steps, ev, ⟨none, 0, 0⟩, ⟨none, 0, 0⟩⟩).toArray) (Pu.ok fun w => by kernel_rfl) ?_
    refine A8 I13 Tryd.zeroValue49 (cs := p6 oz) rfl fun g14 w14 I14 k14 => ?_
    refine ⟨k14 _ (I13.bring 1).lt1, k14 _ (I13.bring 1).lt1, k14 _ I13.lt1, k14 _ I13.lt1, ?_⟩
    refine o0 I14 Tryd.sizeOf49 (vs := p6 ⟨st, wr, σ.steps, ev, ⟨none, 0, 0⟩, ⟨none, 0, 0⟩⟩) (cs' := p6 ⟨st, wr, σ.steps, ev, ⟨none, 0, 0⟩, ⟨none, 0, 0⟩⟩) rfl rfl (nb rfl) rfl rfl fun w15 I15 _ => ?_
    refine d8u (st := st) (wr := wr) hp5 hnd W hend.vs hend.rs (I15.re (bx g13 93 [vi st, vi wr]) (fun f f0 fa => by (try simp only [List.cons_append, List.nil_append]); simp only [rB, mB, pB, oB, bx, List.flatten_cons, List.flatten_nil, f0, fa] <;> omega)) fun o Fo w16 ho16 I16 => ?_
    exact ⟨_, _, I16, o, rfl, fun h => (h rfl).elim, fun _ => ho16⟩
end
end Go.Proofs.YtnhkdkcgdcgmdaaDoor
