/- A program's run: the whole. Off the readings. -/
import Derived.Test.YtnhkdkcgdcgmdaaGreatDoorzRNd
import Derived.Test.YtnhkdkcgdcgmdaaGreatDoorzRN7
namespace Go.Proofs.YtnhkdkcgdcgmdaaGreatDoor
open Go.RowKit
set_option maxRecDepth 100000
set_option maxHeartbeats 4000000
section
variable {H : Hp}
abbrev rc0 (k : Int) (sc : Sl) (gm ga : Nat) : List Value := [vi k, vi 0, vs sc, Value.slice none 0 0, .map (some gm), .map (some ga)]
abbrev rB (g : Nat) (cs : List Value) : Frag := bx g 80 cs

theorem e9w {g o : Nat} : Pu Tryz.prog (xV (Instr.fieldAt 83 (.pointer (some ⟨g, o, none⟩)) 0)) (.pointer (some ⟨g, o + 0, none⟩)) := Pu.ok fun w => by kernel_rfl
theorem e9x {g o : Nat} : Pu Tryz.prog (xV (Instr.fieldAt 83 (.pointer (some ⟨g, o, none⟩)) 1)) (.pointer (some ⟨g, o + 1, none⟩)) := Pu.ok fun w => by kernel_rfl
theorem h4l (hT : TabsH H) {p : r7} {q : PP} (hp : PH H p q) (hsm : q.Sm) {sc : Sl} {scr : List Int} (hsc : SlH H 1 ci sc scr) (hcap : sc.n ≤ sc.c) (hin : ∀ x ∈ scr, o8 x) (k : Int) :
    Ct Tryz.prog 16 [.agg (p8 p).toArray, vs sc, vi k] H [] (fun v H' Fo => ∃ o, v = .tuple #[.agg (o3 o).toArray, vi (errR q scr k)] ∧ (errR q scr k ≠ 0 → o = oz ∧ Fo = []) ∧ (errR q scr k = 0 → Oown o (runQ q scr k.toNat) Fo)) noQE := by
  intro w I
  refine h1u ?_
  unfold F16
  refine L9 I (cs := p8 p) rfl fun g3 w1 I1 _ => ?_
  refine y9 I1 Tryz.zeroValue42 (cs := o3 oz) rfl fun g6 w2 I2 _ => ?_
  refine d7 (ldA (vs := p8 p) Tryz.isAgg25 Tryz.sizeOf25 rfl ((I2.bring 1).at1 (o := 0) (nb rfl) rfl)) ?_
  refine d8 (cap := []) (fun args w => Tryz.call33 args w) ?_
  refine o0 (Fi := []) (Fr := [oB g6 oz, pB g3 p]) I2 (f5j hT hp hsm (K := fun a b H' => a = (wellS q).1 ∧ b = (wellS q).2) fun _ _ => ⟨rfl, rfl⟩) (fun v H3 Fo w3 I3 l3 k3 qq => ?_) (fun _ _ _ _ _ q => q.elim)
  obtain ⟨r0, r1, rfl, rfl, rfl, rfl⟩ := qq
  refine a7 (m9 _ 0 _ rfl) ?_
  refine a7 (m9 _ 1 _ rfl) ?_
  refine a7 (T8 _ _ _ _ _ _) ?_
  have hbz : Pu Tryz.prog (xV (Instr.build 42 #[])) (.agg (o3 oz).toArray) := Pu.ok fun w => by kernel_rfl
  have hln := hsc.1
  refine a2L (fun c => ?_) (fun c => ?_)
  · have he : errR q scr k = (wellS q).2 := by unfold errR; rw [if_pos c]
    refine a7 hbz ?_
    refine m7 I3 Tryz.sizeOf42 (vs := o3 oz) (cs' := o3 oz) rfl rfl (nb rfl) rfl rfl fun w4 I4 _ => ?_
    refine L4 (vs := o3 oz) Tryz.isAgg42 Tryz.sizeOf42 rfl (I4.at1 (o := 0) (nb rfl) rfl) ?_
    exact ⟨_, _, I4.drop.drop, oz, by rw [he]; rfl, fun _ => ⟨rfl, rfl⟩, fun h => (c (he.symm.trans h)).elim⟩
  refine a7 (D7 _ _ _ _ _ _) ?_
  refine a7 (Pu.g (v := .bool (decide (65536 < k))) fun c => (by rw [O5, s8 c]; exact a3B _ _ _ _ _ _)) ?_
  refine a7 (a1d _ _) ?_
  refine a7 (Pu.g fun c => (by rw [O5, s8 c]; exact a7B _ _ _)) ?_
  refine a7 (Pu.g (v := .bool (decide (65536 < (sc.n : Int)))) fun c => (by rw [s8 c]; exact a3B _ _ _ _ _ _)) ?_
  refine a7 (a1d _ _) ?_
  refine u0 (fun c2 => ?_) (fun c2 => ?_)
  · have he : errR q scr k = 80 := by
      unfold errR
      rw [if_neg (fun h => h c), if_pos]
      simp at c2
      omega
    refine a7 hbz ?_
    refine m7 I3 Tryz.sizeOf42 (vs := o3 oz) (cs' := o3 oz) rfl rfl (nb rfl) rfl rfl fun w4 I4 _ => ?_
    refine L4 (vs := o3 oz) Tryz.isAgg42 Tryz.sizeOf42 rfl (I4.at1 (o := 0) (nb rfl) rfl) ?_
    exact ⟨_, _, I4.drop.drop, oz, by rw [he], fun _ => ⟨rfl, rfl⟩, fun h => by rw [he] at h; cases h⟩
  have hb2 : 0 ≤ k ∧ k ≤ 65536 ∧ sc.n ≤ 65536 := by
    simp at c2
    omega
  have he : errR q scr k = 0 := by
    unfold errR
    rw [if_neg (fun h => h c), if_neg]
    omega
  obtain ⟨n, rfl⟩ : ∃ n : Nat, k = n := ⟨k.toNat, by omega⟩
  rw [he, Int.toNat_natCast]
  clear c2 he
  have hp3 := hp.le l3
  have hsc3 := hsc.le l3
  have hds := hp3.d
  have hdn := hds.1
  have hbd := hp3.bd
  simp only [big] at hbd
  obtain ⟨htold, hdok, _⟩ := (b4y q).1 c
  obtain ⟨hnd, hsz, _⟩ := hdok
  refine c1d I3 fun gm w4 I4 _ => ?_
  refine c1d I4 fun ga w5 I5 _ => ?_
  refine a7 (v := .agg (rc0 n sc gm ga).toArray) (Pu.ok fun w => by kernel_rfl) ?_
  refine L9 I5 (cs := rc0 n sc gm ga) rfl fun g10 w6 I6 _ => ?_
  refine A7 fun j1 hx1 => ?_
  refine a7 a9U ?_
  refine d7 (ld1 Tryz.isAgg22 ((I6.bring 4).at1 (o := 0) (vs := [vs p.a0C]) (nb rfl) rfl)) ?_
  refine a7 (b4W _ _ _) ?_
  refine M6 (J := fun nn l w' => ∃ (i : Nat) (es es2 : Array MapEntry) (cl cl2 : Nat) (lv : List (ByteArray × Option Addr)) (la : List (ByteArray × Sl)) (Fv Fa : Frag), nn = q.decls.length - i ∧ l = [vi (i : Int)] ∧ i ≤ q.decls.length ∧ MapEs kS vP es lv ∧ MapEs kS vs es2 la ∧ Boxes lv (vD (q.decls.take i)) Fv ∧ Arrs la (aD (q.decls.take i)) Fa ∧
      Inv w (inF []) H H3 [rB g10 (rc0 n sc gm ga), mB ga es2 cl2, mB gm es cl, oB g6 oz, pB g3 p, Fv, Fa] w')
    ⟨_, 0, #[], #[], 0, 0, [], [], [], [], rfl, rfl, Nat.zero_le _, MapEs.nil _ _, MapEs.nil _ _, .nil, .nil, I6.re [] (fun f f0 fa => by (try simp only [List.cons_append, List.nil_append]); simp only [rB, mB, pB, oB, bx, List.flatten_cons, List.flatten_nil, f0, fa] <;> omega)⟩ ?_
  rintro nn τ w7 next5 ⟨i, es, es2, cl, cl2, lv, la, Fv, Fa, rfl, hl7, hi, hes, hes2, hbx, har, I7⟩ hn7
  simp only [List.map_cons, List.map_nil, List.cons.injEq, and_true] at hl7
  simp only [hl7]
  unfold e4e
  refine a7 (D7 _ _ _ _ _ _) ?_
  refine j8 (fun c5 => ?_) (fun c5 => ?_)
  · obtain ⟨d, hd⟩ := B2 (l := q.decls) (i := i) (by omega)
    obtain ⟨g5, o5, ha5, hA5⟩ := hds.2 i d hd
    have hnew := e9u hnd hd
    refine A7 fun j6 hx6 => ?_
    refine a7 (b7p ha5 _ _ _ _ (by omega) (by omega)) ?_
    refine d7 (ldA (vs := r9 d) Tryz.isAgg71 Tryz.sizeOf71 rfl (I7.atH hA5)) ?_
    refine y9 I7 Tryz.zeroValue71 (cs := [(Value.string ⟨#[]⟩), (vi 0)]) rfl fun g12 w8 I8 _ => ?_
    refine m7 I8 Tryz.sizeOf71 (vs := (r9 d)) (cs' := (r9 d)) rfl rfl (nb rfl) rfl rfl fun w9 I9 _ => ?_
    refine a7 a6z ?_
    refine d7 (ld1 Tryz.isAgg3 (I9.at1 (o := 1) (vs := [vi d.Q6]) (nb rfl) rfl)) ?_
    refine a7 (a3B _ _ _ _ _ _) ?_
    have nxt : ∀ (es es2 : Array MapEntry) (cl cl2 : Nat) (lv : List (ByteArray × Option Addr)) (la : List (ByteArray × Sl)) (Fv Fa : Frag) (w' : World), MapEs kS vP es lv → MapEs kS vs es2 la → Boxes lv (vD (q.decls.take (i + 1))) Fv → Arrs la (aD (q.decls.take (i + 1))) Fa →
        Inv w (inF []) H H3 [rB g10 (rc0 n sc gm ga), mB ga es2 cl2, mB gm es cl, oB g6 oz, pB g3 p, Fv, Fa] w' → j6 [] w' := fun es es2 cl cl2 lv la Fv Fa w' h1 h2 h3 h4 J => by
      refine hx6 _ _ ?_
      unfold e4d
      intro _
      refine a7 (L6 _ _ _ _ _ _) ?_
      rw [Q1 (by omega) (by omega)]
      exact hn7 _ _ _ (show q.decls.length - (i + 1) < q.decls.length - i by omega) ⟨i + 1, es, es2, cl, cl2, lv, la, Fv, Fa, rfl, rfl, by omega, h1, h2, h3, h4, J⟩
    refine j8 (fun c => ?_) (fun c => ?_)
    · have hz := hsz d (List.mem_of_getElem? hd)
      have hnl : d.b7 ∉ la.map (·.1) := by
        rw [har.fst]
        exact fun h => hnew (by have := h4i _ _ h; exact this)
      refine X7 I9 fun w10 I10 => ?_
      refine m8 (A0 _) ?_
      refine m8 b7u ?_
      refine m8 a3h ?_
      refine m8 a6z ?_
      refine y7 (ld1 Tryz.isAgg78 ((I10.bring 1).at1 (o := 5) (vs := [.map (some ga)]) (nb rfl) rfl)) ?_
      refine y7 (ld1 Tryz.isAgg9 (I10.at1 (o := 0) (vs := [.string d.b7]) (nb rfl) rfl)) ?_
      refine y7 (ld1 Tryz.isAgg3 (I10.at1 (o := 1) (vs := [vi d.Q6]) (nb rfl) rfl)) ?_
      refine h8p I10 (by omega) (by omega) fun s11 F11 w11 hr11 I11 k11 => ?_
      refine ⟨k11 _ I10.lt1, k11 _ (I10.bring 1).lt1, ?_⟩
      refine b3b (keyS Tryz.underlying9) Tryz.underlying78 (I11.bring 3) hes2 d.b7 s11 fun es2' cl2' w12 hes2' I12 _ => ?_
      rw [c4a _ _ _ hnl] at hes2'
      refine nxt es es2' cl cl2' lv _ Fv (Fa ++ F11) _ hes hes2' ?_ ?_ (I12.re (bx g12 71 (r9 d)) (fun f f0 fa => by (try simp only [List.cons_append, List.nil_append]); simp only [rB, mB, pB, oB, bx, List.flatten_cons, List.flatten_nil, f0, fa] <;> omega))
      · rw [c9q hd, if_pos c, List.append_nil]; exact hbx
      · rw [c9r hd, if_pos c]; exact har.snoc hr11
    · have hnl : d.b7 ∉ lv.map (·.1) := by
        rw [hbx.fst]
        exact fun h => hnew (by have := h4h _ _ h; exact this)
      refine X7 I9 fun w10 I10 => ?_
      refine m8 (A0 _) ?_
      refine m8 b2z ?_
      refine m8 a3h ?_
      refine y7 (ld1 Tryz.isAgg77 ((I10.bring 1).at1 (o := 4) (vs := [.map (some gm)]) (nb rfl) rfl)) ?_
      refine y7 (ld1 Tryz.isAgg9 (I10.at1 (o := 0) (vs := [.string d.b7]) (nb rfl) rfl)) ?_
      refine y9 I10 Tryz.zeroValue2 (cs := [(vi 0)]) rfl fun g11 w11 I11 k11 => ?_
      refine ⟨k11 _ I10.lt1, k11 _ (I10.bring 1).lt1, ?_⟩
      refine b3b (vv := vP) (keyS Tryz.underlying9) Tryz.underlying77 (I11.bring 4) hes d.b7 (some ⟨g11, 0, none⟩) fun es' cl' w12 hes' I12 _ => ?_
      rw [c4a _ _ _ hnl] at hes'
      refine nxt es' es2 cl' cl2 _ la (Fv ++ bx g11 2 [vi 0]) Fa _ hes' hes2 ?_ ?_ (I12.re (bx g12 71 (r9 d)) (fun f f0 fa => by (try simp only [List.cons_append, List.nil_append]); simp only [rB, mB, pB, oB, bx, List.flatten_cons, List.flatten_nil, f0, fa] <;> omega))
      · rw [c9q hd, if_neg c]; exact hbx.snoc
      · rw [c9r hd, if_neg c, List.append_nil]; exact har
  · refine hx1 _ _ ?_
    have hie : i = q.decls.length := by omega
    subst hie
    rw [List.take_length] at hbx har
    clear hx1 hn7 hl7 c5
    have z1 := (I7.bring 1).freeze
    have z2 := ((z1.1).bring 1).freeze
    have l5 := z1.2.1.trans z2.2.1
    have hma : MapH (addF (addF H3 (mB ga es2 cl2)) (mB gm es cl)) kS vs (some ga) la := ⟨ga, es2, cl2, rfl, z2.2.1 _ _ (z1.2.2 _ (List.mem_singleton_self _)), hes2⟩
    have hmv : MapH (addF (addF H3 (mB ga es2 cl2)) (mB gm es cl)) kS vP (some gm) lv := ⟨gm, es, cl, rfl, z2.2.2 _ (List.mem_singleton_self _), hes⟩
    have I8 : Inv w (inF []) H _ [rB g10 (rc0 n sc gm ga), oB g6 oz, pB g3 p, Fv, Fa] w7 := z2.1
    generalize addF (addF H3 (mB ga es2 cl2)) (mB gm es cl) = H5 at I8 hma hmv l5
    clear z1 z2
    have hp5 := hp3.le l5
    have hsc5 := hsc3.le l5
    have hst5 : ∃ xs, SlH H5 6 g7 p.a5H xs ∧ xs.length ≤ big ∧ y8 (SH H5) xs q.body := hp5.b
    obtain ⟨xs, hxs, hxb, hxr⟩ := hst5
    obtain ⟨hars, _⟩ := PH.ars hp5 hsm htold
    have hnm := c7M c
    have hok := e0U c hin n
    have hk1 : (n : Int) ≤ 1000000 := by omega
    have hk2 : n ≤ 1000000 := by omega
    have hrun := f7m (g := g10) (X := ⟨some gm, some ga, lv, la⟩) (c3Z (k0 := n) (ev0 := n) hxs hxb hxr (fun t ht => cmS (hars t ht).1 (hars t ht).2 (hnm.mem ht)) fun t ht x hx => f7l hk1 hk2 (hars t ht).1 (hars t ht).2 (hnm.mem ht) x hx)
      (σ := s0 q.decls scr n) (F := rB g10 (rc0 n sc gm ga) ++ ([] ++ (Fv ++ Fa))) ⟨sc, ⟨none, 0, 0⟩, [], Fv, Fa, ⟨hsc5, hcap, RowL.nil b0H b0I, hbx, har, hmv, hma⟩, rfl⟩ hok
    have hcmB : Cm ((vD q.decls).map (·.1)) ((aD q.decls).map (·.1)) (fun _ => True) (seqM (q.body.map rnT)) := b4s fun m hm => by
      obtain ⟨t, ht, rfl⟩ := List.mem_map.1 hm
      exact cmS (hars t ht).1 (hars t ht).2 (hnm.mem ht)
    have hend : Okst n n ((vD q.decls).map (·.1)) ((aD q.decls).map (·.1)) (endS (seqM (q.body.map rnT) (s0 q.decls scr n))).2.2 := by
      have := hcmB.safe _ hok
      cases hm : seqM (q.body.map rnT) (s0 q.decls scr n) with
      | ok a s1 => rw [hm] at this; exact this.2.1
      | stop a b s1 => rw [hm] at this; exact this.1
    unfold e4c
    intro _
    refine a7 a8c ?_
    refine d7 (ld1 Tryz.isAgg23 ((I8.bring 2).at1 (o := 1) (vs := [vs p.a5H]) (nb rfl) rfl)) ?_
    refine d8 (cap := []) (fun args w => Tryz.call34 args w) ?_
    refine o0 (Fi := [rB g10 (rc0 n sc gm ga) ++ ([] ++ (Fv ++ Fa))]) (Fr := [oB g6 oz, pB g3 p]) (I8.re [] (fun f f0 fa => by (try simp only [List.cons_append, List.nil_append]); simp only [rB, mB, pB, oB, bx, List.flatten_cons, List.flatten_nil, f0, fa] <;> omega)) hrun (fun v H6 Fo w8 I9 l6 k6 qq => ?_) (fun _ _ _ _ _ q => q.elim)
    obtain ⟨F', rfl, rfl, hr6, rfl⟩ := qq
    unfold runQ
    generalize endS (seqM (q.body.map rnT) (s0 q.decls scr n)) = r at hr6 hend ⊢
    obtain ⟨st, wr, σ⟩ := r
    dsimp only at hr6 hend ⊢
    obtain ⟨sc', ev, Fe, Fv', Fa', W, rfl⟩ := hr6
    refine y9 I9 Tryz.zeroValue83 (cs := [vi 0, vi 0]) rfl fun g13 w10 I10 _ => ?_
    refine m7 I10 Tryz.sizeOf83 (vs := [vi st, vi wr]) (cs' := [vi st, vi wr]) rfl rfl (nb rfl) rfl rfl fun w11 I11 _ => ?_
    have I12 : Inv w (inF []) H H6 [bx g13 83 [vi st, vi wr], rB g10 (rcs ⟨some gm, some ga, lv, la⟩ σ sc' ev), Fe, Fv', Fa', oB g6 oz, pB g3 p] w11 := I11.re [] (fun f f0 fa => by (try simp only [List.cons_append, List.nil_append]); simp only [rB, mB, pB, oB, bx, List.flatten_cons, List.flatten_nil, f0, fa] <;> omega)
    refine X7 I12 fun w12 I13 => ?_
    refine m8 e9w ?_
    refine m8 e9x ?_
    refine m8 (A0 _) ?_
    refine m8 b7t ?_
    refine m8 (A0 _) ?_
    refine m8 a9X ?_
    refine y7 (ld1 Tryz.isAgg3 (I13.at1 (o := 0) (vs := [vi st]) (nb rfl) rfl)) ?_
    refine y7 (ld1 Tryz.isAgg3 (I13.at1 (o := 1) (vs := [vi wr]) (nb rfl) rfl)) ?_
    refine y7 (ld1 Tryz.isAgg3 ((I13.bring 1).at1 (o := 1) (vs := [vi σ.steps]) (nb rfl) rfl)) ?_
    refine y7 (ld1 Tryz.isAgg39 ((I13.bring 1).at1 (o := 3) (vs := [vs ev]) (nb rfl) rfl)) ?_
    refine m8 (v := .agg (o3 ⟨st, wr, σ.steps, ev, ⟨none, 0, 0⟩, ⟨none, 0, 0⟩⟩).toArray) (Pu.ok fun w => by kernel_rfl) ?_
    refine y9 I13 Tryz.zeroValue42 (cs := o3 oz) rfl fun g14 w14 I14 k14 => ?_
    refine ⟨k14 _ (I13.bring 1).lt1, k14 _ (I13.bring 1).lt1, k14 _ I13.lt1, k14 _ I13.lt1, ?_⟩
    refine m7 I14 Tryz.sizeOf42 (vs := o3 ⟨st, wr, σ.steps, ev, ⟨none, 0, 0⟩, ⟨none, 0, 0⟩⟩) (cs' := o3 ⟨st, wr, σ.steps, ev, ⟨none, 0, 0⟩, ⟨none, 0, 0⟩⟩) rfl rfl (nb rfl) rfl rfl fun w15 I15 _ => ?_
    refine e9v (st := st) (wr := wr) hp5 hnd W hend.vs hend.rs (I15.re (bx g13 83 [vi st, vi wr]) (fun f f0 fa => by (try simp only [List.cons_append, List.nil_append]); simp only [rB, mB, pB, oB, bx, List.flatten_cons, List.flatten_nil, f0, fa] <;> omega)) fun o Fo w16 ho16 I16 => ?_
    exact ⟨_, _, I16, o, rfl, fun h => (h rfl).elim, fun _ => ho16⟩
end
end Go.Proofs.YtnhkdkcgdcgmdaaGreatDoor
namespace Go.Proofs.YtnhkdkcgdcgmdaaGreatDoor
open Go.RowKit
set_option maxRecDepth 100000
set_option maxHeartbeats 4000000
def OutH (H : Hp) (o : t8) (c : Oc) : Prop := o.P0 = c.st ∧ o.V1 = c.wr ∧ o.W5 = c.steps ∧ SlH H 3 S5 o.G5 c.events ∧ SlH H 1 ci o.a4J c.vars ∧ SlHH H 1 ci o.L5 c.arrs
theorem OutH.le {H H' : Hp} {o : t8} {c : Oc} (h : OutH H o c) (l : Hle H H') : OutH H' o c := by
  obtain ⟨h1, h2, h3, h4, h5, h6⟩ := h
  exact ⟨h1, h2, h3, h4.le l, h5.le l, h6.le l⟩
section
variable {H : Hp}
theorem d5a (hT : TabsH H) {p : r7} {q : PP} (hp : PH H p q) (hsm : q.Sm) {sc : Sl} {scr : List Int} (hsc : SlH H 1 ci sc scr) (hcap : sc.n ≤ sc.c) (hin : ∀ x ∈ scr, o8 x) {k : Int} {K : t8 → Int → Hp → Prop}
    (h1 : errR q scr k ≠ 0 → ∀ H', Hle H H' → K oz (errR q scr k) H') (h0 : errR q scr k = 0 → ∀ o H', Hle H H' → OutH H' o (runQ q scr k.toNat) → K o 0 H') : a9m p sc k H K := by
  intro w I
  refine Cv.mono (h4l hT hp hsm hsc hcap hin k w I) (fun v w' q1 => ?_) fun c w' q1 => ?_
  · obtain ⟨H1, Fo, J, o, rfl, he, hz⟩ := q1
    by_cases c : errR q scr k = 0
    · obtain ⟨a1, a2, a3, Fe, Fv, Fr, rfl, b1, b2, b3⟩ := hz c
      obtain ⟨H2, J2, l2, s2⟩ := J.freezeL b1 (by decide)
      obtain ⟨H3, J3, l3, s3⟩ := J2.freezeL b2 (by decide)
      obtain ⟨H4, J4, l4, s4, _⟩ := J3.freezeLL b3 (by decide)
      rw [c]
      exact ⟨H4, [], J4, o, 0, rfl, rfl, h0 c o H4 J4.le ⟨a1, a2, a3, s2.le (l3.trans l4), s3.le l4, s4⟩⟩
    · obtain ⟨rfl, rfl⟩ := he c
      exact ⟨H1, [], J, oz, _, rfl, rfl, h1 c H1 J.le⟩
  · obtain ⟨_, _, _, q2⟩ := q1
    exact q2.elim
end
def Fine (n : Nat) (h : Int) (t : PT) : Prop := cT t ≤ n ∧ (∀ d, d + h ≤ 65 → dpT 64 t d) ∧ formT t = true ∧ namesT t = true ∧ Sm t
theorem Fine.up {n n' : Nat} {h h' : Int} {t : PT} (f : Fine n h t) (hn : n ≤ n') (hh : h ≤ h') : Fine n' h' t := by
  obtain ⟨a1, a2, a3⟩ := f
  exact ⟨by omega, fun d hd => a2 d (by omega), a3⟩
theorem h8r {q : PP} {scr : List Int} {k : Int} (h : (wellS q).2 = 0) (h1 : 0 ≤ k) (h2 : k ≤ 65536) (h3 : scr.length ≤ 65536) : errR q scr k = 0 := by
  unfold errR
  rw [if_neg (fun e => e h), if_neg]
  omega
end Go.Proofs.YtnhkdkcgdcgmdaaGreatDoor
namespace Go.Proofs.YtnhkdkcgdcgmdaaGreatDoor
open Go.RowKit
set_option maxRecDepth 100000
set_option maxHeartbeats 4000000
theorem e9y {q : PP} {scr : List Int} {k : Nat} (hbd : q.decls.length ≤ big) (hk : k ≤ big) (hw : (wellS q).2 = 0) (ha : ∀ t ∈ q.body, ArS t ∧ formT t = true) (hs : ∀ x ∈ scr, o8 x) :
    (runQ q scr k).events.length ≤ big ∧ (runQ q scr k).vars.length ≤ big ∧ (runQ q scr k).arrs.length ≤ big ∧ ∀ l ∈ (runQ q scr k).arrs, l.length ≤ big := by
  have hnm := c7M hw
  have hok := e0U hw hs k
  have hcm : Cm ((vD q.decls).map (·.1)) ((aD q.decls).map (·.1)) (fun _ => True) (seqM (q.body.map rnT)) := b4s fun m hm => by
    obtain ⟨t, ht, rfl⟩ := List.mem_map.1 hm
    exact cmS (ha t ht).1 (ha t ht).2 (hnm.mem ht)
  have hsafe := hcm.safe _ hok
  have hend : Okst k k ((vD q.decls).map (·.1)) ((aD q.decls).map (·.1)) (endS (seqM (q.body.map rnT) (s0 q.decls scr k))).2.2 := by
    cases hm : seqM (q.body.map rnT) (s0 q.decls scr k) with
    | ok a s1 => rw [hm] at hsafe; exact hsafe.2.1
    | stop a b s1 => rw [hm] at hsafe; exact hsafe.1
  unfold runQ
  generalize endS (seqM (q.body.map rnT) (s0 q.decls scr k)) = r at hend
  have e1 := e4N q.decls
  have e2 := e4O q.decls
  have e3 := congrArg List.length hend.vs
  have e4 := congrArg List.length hend.rs
  rw [List.length_map, List.length_map] at e3 e4
  have e5 := hend.ev
  refine ⟨?_, ?_, ?_, fun l hl => ?_⟩
  · show r.2.2.events.length ≤ big; omega
  · show (r.2.2.vars.map (·.2)).length ≤ big; rw [List.length_map]; omega
  · show (r.2.2.arrs.map (·.2)).length ≤ big; rw [List.length_map]; omega
  · obtain ⟨p, hp, rfl⟩ := List.mem_map.1 (show l ∈ r.2.2.arrs.map (·.2) from hl)
    have := (hend.rl p hp).1
    simp only [big]; omega
theorem h4m {q : PP} {scr : List Int} {k : Int} (h : errR q scr k = 0) : (wellS q).2 = 0 ∧ 0 ≤ k ∧ k ≤ 65536 ∧ scr.length ≤ 65536 := by
  unfold errR at h
  by_cases c : (wellS q).2 ≠ 0
  · rw [if_pos c] at h; exact (c h).elim
  · rw [if_neg c] at h
    by_cases c2 : k < 0 ∨ 65536 < k ∨ 65536 < (scr.length : Int)
    · rw [if_pos c2] at h; cases h
    · exact ⟨Decidable.not_not.1 c, by omega, by omega, by omega⟩
section
variable {H : Hp}
theorem d5b {s s' : Sl} {xs : List Int} (h : SlH H 1 ci s xs) (h' : SlH H 1 ci s' xs) (hb : xs.length ≤ big) {K : Bool → Hp → Prop} (hK : K true H) : a1g s s' H K := by
  refine b2V _ _ ?_
  unfold a1q
  have n1 := h.1; have n2 := h'.1
  simp only [big] at hb
  refine ⟨fun hne => (hne (by omega)).elim, fun _ => ?_⟩
  refine a2q (fun (i : Int) H' => 0 ≤ i ∧ i ≤ xs.length ∧ H' = H) (fun i => (xs.length - i).toNat) ⟨Int.le_refl _, by omega, rfl⟩ ?_
  rintro i H1 next ⟨i0, i1, rfl⟩ hn
  unfold a0r
  refine ⟨fun hc => ?_, fun hc => ?_⟩
  · obtain ⟨x, hx, hE⟩ := h.get i0 hc
    obtain ⟨y, hy, hF⟩ := h'.get i0 (show i < (s'.n : Int) by omega)
    rw [hx] at hy
    cases hy
    refine ⟨i0, hc, x, hE, i0, by omega, x, hF, fun hne => (hne rfl).elim, fun _ => ?_⟩
    rw [Q1 i0 (by omega)]
    exact hn _ _ ⟨by omega, by omega, rfl⟩ (by omega)
  · exact hK
theorem e0V {o o' : t8} {c : Oc} (h : OutH H o c) (h' : OutH H o' c) (hb : c.events.length ≤ big ∧ c.vars.length ≤ big ∧ c.arrs.length ≤ big ∧ ∀ l ∈ c.arrs, l.length ≤ big) {K : Bool → Hp → Prop} (hK : K true H) : a3E o o' H K := by
  obtain ⟨b1, b2, b3, b4⟩ := hb
  refine b2c _ _ ?_
  unfold a0y
  obtain ⟨a1, a2, a3, a4, a5, a6⟩ := h
  obtain ⟨c1, c2, c3, c4, c5, c6⟩ := h'
  rw [a1, a2, a3, c1, c2, c3]
  have e1 : ((o.G5.n : Nat) : Int) = (o'.G5.n : Nat) := by rw [a4.1, c4.1]
  have e2 : ((o.L5.n : Nat) : Int) = (o'.L5.n : Nat) := by rw [a6.1, c6.1]
  rw [e1, e2]
  refine a8T true (fun _ K' hk => d5b a5 c5 b2 hk) ?_
  simp only [decide_true, Bool.not_true, Bool.or_self, if_true, Bool.false_eq_true, false_implies, true_and, forall_const]
  simp only [big] at b1 b3
  have n1 := a4.1; have n2 := c4.1; have n3 := a6.1; have n4 := c6.1
  refine a2q (fun (i : Int) H' => 0 ≤ i ∧ i ≤ c.events.length ∧ H' = H) (fun i => (c.events.length - i).toNat) ⟨Int.le_refl _, by omega, rfl⟩ ?_
  rintro i H1 next ⟨i0, i1, rfl⟩ hn
  unfold S9
  refine ⟨fun hc => ?_, fun hc => ?_⟩
  · obtain ⟨x, hx, hE⟩ := a4.get i0 hc
    obtain ⟨y, hy, hF⟩ := c4.get i0 (show i < (o'.G5.n : Int) by omega)
    rw [hx] at hy
    cases hy
    refine ⟨i0, hc, x, hE, i0, by omega, x, hF, fun hne => (hne ⟨rfl, rfl, rfl⟩).elim, fun _ => ?_⟩
    rw [Q1 i0 (by omega)]
    exact hn _ _ ⟨by omega, by omega, rfl⟩ (by omega)
  · unfold Y4
    clear hn hc i0 i1 next
    refine a2q (fun (i : Int) H' => 0 ≤ i ∧ i ≤ c.arrs.length ∧ H' = H1) (fun i => (c.arrs.length - i).toNat) ⟨Int.le_refl _, by omega, rfl⟩ ?_
    rintro i H2 next ⟨i0, i1, rfl⟩ hn
    unfold Y3
    refine ⟨fun hc => ?_, fun hc => ?_⟩
    · obtain ⟨_, ss, s1, s2⟩ := a6
      obtain ⟨_, ss', s1', s2'⟩ := c6
      obtain ⟨x, hx, hE⟩ := s1.get i0 hc
      obtain ⟨y, hy, hF⟩ := s1'.get i0 (show i < (o'.L5.n : Int) by omega)
      obtain ⟨l, hl⟩ := B2 (l := c.arrs) (i := i.toNat) (by omega)
      refine ⟨i0, hc, x, hE, i0, by omega, y, hF, d5b (s2 _ _ _ hx hl).1 (s2' _ _ _ hy hl).1 (b4 l (List.mem_of_getElem? hl)) ⟨(fun q => by cases q), fun _ => ?_⟩⟩
      rw [Q1 i0 (by omega)]
      exact hn _ _ ⟨by omega, by omega, rfl⟩ (by omega)
    · exact hK
end
end Go.Proofs.YtnhkdkcgdcgmdaaGreatDoor
