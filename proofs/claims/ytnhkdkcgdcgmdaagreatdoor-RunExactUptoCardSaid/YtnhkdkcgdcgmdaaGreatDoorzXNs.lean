/- A program's run: the whole. Off the readings. -/
import Derived.Test.YtnhkdkcgdcgmdaaGreatDoorzXQm
namespace Go.Proofs.YtnhkdkcgdcgmdaaGreatDoor
open Go.RowKit
set_option maxRecDepth 100000
set_option maxHeartbeats 4000000
section
variable {H : Hp}
abbrev rc0 (k : Int) (sc : Sl) (gm ga : Nat) : List Value := [vi k, vi 0, vs sc, Value.slice none 0 0, .map (some gm), .map (some ga)]
abbrev rB (g : Nat) (cs : List Value) : Frag := bx g 80 cs
theorem c7n {g o : Nat} : Pu Tryz.prog (xV (Instr.fieldAt 83 (.pointer (some ⟨g, o, none⟩)) 0)) (.pointer (some ⟨g, o + 0, none⟩)) := Pu.ok fun w => by kernel_rfl
theorem c7o {g o : Nat} : Pu Tryz.prog (xV (Instr.fieldAt 83 (.pointer (some ⟨g, o, none⟩)) 1)) (.pointer (some ⟨g, o + 1, none⟩)) := Pu.ok fun w => by kernel_rfl
theorem c6d (hT : TabsH H) {p : o3} {q : PP} (hp : PH H p q) (hsm : q.Sm) {sc : Sl} {scr : List Int} (hsc : SlH H 1 ci sc scr) (hcap : sc.n ≤ sc.c) (hin : ∀ x ∈ scr, o8 x) (k : Int) :
  Ct Tryz.prog 16 [.agg (q7 p).toArray, vs sc, vi k] H [] (fun v H' Fo => ∃ o, v = .tuple #[.agg (m9 o).toArray, vi (errR q scr k)] ∧ (errR q scr k ≠ 0 → o = oz ∧ Fo = []) ∧ (errR q scr k = 0 → Oown o (runQ q scr k.toNat) Fo)) noQE := by
 intro w I
 refine d2X ?_
 unfold F16
 refine F0 I (cs := q7 p) rfl fun g3 w1 I1 _ => ?_
 refine B9 I1 Tryz.zeroValue42 (cs := m9 oz) rfl fun g6 w2 I2 _ => ?_
 refine b6 (ldA (vs := q7 p) Tryz.isAgg25 Tryz.sizeOf25 rfl ((I2.bring 1).at1 (o := 0) (nb rfl) rfl)) ?_
 refine s6 (cap := []) (fun args w => Tryz.call33 args w) ?_
 refine R6 (Fi := []) (Fr := [oB g6 oz, pB g3 p]) I2 (d0y hT hp hsm (K := fun a b H' => a = (wellS q).1 ∧ b = (wellS q).2) fun _ _ => ⟨rfl, rfl⟩) (fun v H3 Fo w3 I3 l3 k3 qq => ?_) (fun _ _ _ _ _ q => q.elim)
 obtain ⟨r0, r1, rfl, rfl, rfl, rfl⟩ := qq
 refine a8 (m8 _ 0 _ rfl) ?_
 refine a8 (m8 _ 1 _ rfl) ?_
 refine a8 (N9 _ _ _ _ _ _) ?_
 have hbz : Pu Tryz.prog (xV (Instr.build 42 #[])) (.agg (m9 oz).toArray) := Pu.ok fun w => by kernel_rfl
 have hln := hsc.1
 refine b6Z (fun c => ?_) (fun c => ?_)
 ·have he : errR q scr k = (wellS q).2 := by unfold errR; rw [if_pos c]
  refine a8 hbz ?_
  refine o4 I3 Tryz.sizeOf42 (vs := m9 oz) (cs' := m9 oz) rfl rfl (nb rfl) rfl rfl fun w4 I4 _ => ?_
  refine a6X (vs := m9 oz) Tryz.isAgg42 Tryz.sizeOf42 rfl (I4.at1 (o := 0) (nb rfl) rfl) ?_
  exact ⟨_, _, I4.drop.drop, oz, by rw [he]; rfl, fun _ => ⟨rfl, rfl⟩, fun h => (c (he.symm.trans h)).elim⟩
 refine a8 (r7 _ _ _ _ _ _) ?_
 refine a8 (Pu.g (v := .bool (decide (65536 < k))) fun c => (by rw [t8, g7 c]; exact Q2 _ _ _ _ _ _)) ?_
 refine a8 (E8 _ _) ?_
 refine a8 (Pu.g fun c => (by rw [t8, g7 c]; exact a4l _ _ _)) ?_
 refine a8 (Pu.g (v := .bool (decide (65536 < (sc.n : Int)))) fun c => (by rw [g7 c]; exact Q2 _ _ _ _ _ _)) ?_
 refine a8 (E8 _ _) ?_
 refine V3 (fun c2 => ?_) (fun c2 => ?_)
 ·have he : errR q scr k = 80 := by
   unfold errR
   rw [if_neg (fun h => h c), if_pos]
   simp at c2
   omega
  refine a8 hbz ?_
  refine o4 I3 Tryz.sizeOf42 (vs := m9 oz) (cs' := m9 oz) rfl rfl (nb rfl) rfl rfl fun w4 I4 _ => ?_
  refine a6X (vs := m9 oz) Tryz.isAgg42 Tryz.sizeOf42 rfl (I4.at1 (o := 0) (nb rfl) rfl) ?_
  exact ⟨_, _, I4.drop.drop, oz, by rw [he], fun _ => ⟨rfl, rfl⟩, fun h => by rw [he] at h; cases h⟩
 have hb2 : 0 ≤ k ∧ k ≤ 65536 ∧ sc.n ≤ 65536 := by
  simp at c2
  omega
 have he : errR q scr k = 0 := by
  unfold errR
  rw [if_neg (fun h => h c), if_neg]
  omega
 obtain ⟨n, rfl⟩ : ∃ n : Nat, k = n := ⟨k.toNat, by omega⟩
 rw [he, Int.toNat_natCast]
 clear c2 he
 have hp3 := hp.le l3
 have hsc3 := hsc.le l3
 have hds := hp3.d
 have hdn := hds.1
 have hbd := hp3.bd
 simp only [big] at hbd
 obtain ⟨htold, hdok, _⟩ := (a9I q).1 c
 obtain ⟨hnd, hsz, _⟩ := hdok
 refine b4F I3 fun gm w4 I4 _ => ?_
 refine b4F I4 fun ga w5 I5 _ => ?_
 refine a8 (v := .agg (rc0 n sc gm ga).toArray) (Pu.ok fun w => by kernel_rfl) ?_
 refine F0 I5 (cs := rc0 n sc gm ga) rfl fun g10 w6 I6 _ => ?_
 refine r5 fun j1 hx1 => ?_
 refine a8 O1 ?_
 refine b6 (ld1 Tryz.isAgg22 ((I6.bring 4).at1 (o := 0) (vs := [vs p.D9]) (nb rfl) rfl)) ?_
 refine a8 (a3w _ _ _) ?_
 refine y7 (J := fun nn l w' => ∃ (i : Nat) (es es2 : Array MapEntry) (cl cl2 : Nat) (lv : List (ByteArray × Option Addr)) (la : List (ByteArray × Sl)) (Fv Fa : Frag), nn = q.decls.length - i ∧ l = [vi (i : Int)] ∧ i ≤ q.decls.length ∧ MapEs kS vP es lv ∧ MapEs kS vs es2 la ∧ Boxes lv (vD (q.decls.take i)) Fv ∧ Arrs la (aD (q.decls.take i)) Fa ∧
   Inv w (inF []) H H3 [rB g10 (rc0 n sc gm ga), mB ga es2 cl2, mB gm es cl, oB g6 oz, pB g3 p, Fv, Fa] w')
  ⟨_, 0, #[], #[], 0, 0, [], [], [], [], rfl, rfl, Nat.zero_le _, MapEs.nil _ _, MapEs.nil _ _, .nil, .nil, I6.re [] (fun f f0 fa => by (try simp only [List.nil_append]); simp only [rB, mB, pB, oB, bx, List.flatten_cons, List.flatten_nil, f0, fa] <;> omega)⟩ ?_
 rintro nn τ w7 next5 ⟨i, es, es2, cl, cl2, lv, la, Fv, Fa, rfl, hl7, hi, hes, hes2, hbx, har, I7⟩ hn7
 simp only [List.map_cons, List.map_nil, List.cons.injEq, and_true] at hl7
 simp only [hl7]
 unfold c5y
 refine a8 (r7 _ _ _ _ _ _) ?_
 refine G4 (fun c5 => ?_) (fun c5 => ?_)
 ·obtain ⟨d, hd⟩ := r6 (l := q.decls) (i := i) (by omega)
  obtain ⟨g5, o5, ha5, hA5⟩ := hds.2 i d hd
  have hnew := c7l hnd hd
  refine r5 fun j6 hx6 => ?_
  refine a8 (a1x ha5 _ _ _ _ (by omega) (by omega)) ?_
  refine b6 (ldA (vs := o7 d) Tryz.isAgg71 Tryz.sizeOf71 rfl (I7.atH hA5)) ?_
  refine B9 I7 Tryz.zeroValue71 (cs := [(Value.string ⟨#[]⟩), (vi 0)]) rfl fun g12 w8 I8 _ => ?_
  refine o4 I8 Tryz.sizeOf71 (vs := (o7 d)) (cs' := (o7 d)) rfl rfl (nb rfl) rfl rfl fun w9 I9 _ => ?_
  refine a8 V9 ?_
  refine b6 (ld1 Tryz.isAgg3 (I9.at1 (o := 1) (vs := [vi d.A4]) (nb rfl) rfl)) ?_
  refine a8 (Q2 _ _ _ _ _ _) ?_
  have nxt : ∀ (es es2 : Array MapEntry) (cl cl2 : Nat) (lv : List (ByteArray × Option Addr)) (la : List (ByteArray × Sl)) (Fv Fa : Frag) (w' : World), MapEs kS vP es lv → MapEs kS vs es2 la → Boxes lv (vD (q.decls.take (i + 1))) Fv → Arrs la (aD (q.decls.take (i + 1))) Fa →
    Inv w (inF []) H H3 [rB g10 (rc0 n sc gm ga), mB ga es2 cl2, mB gm es cl, oB g6 oz, pB g3 p, Fv, Fa] w' → j6 [] w' := fun es es2 cl cl2 lv la Fv Fa w' h1 h2 h3 h4 J => by
   refine hx6 _ _ ?_
   unfold c5x
   intro _
   refine a8 (r9 _ _ _ _ _ _) ?_
   rw [y9 (by omega) (by omega)]
   exact hn7 _ _ _ (show q.decls.length - (i + 1) < q.decls.length - i by omega) ⟨i + 1, es, es2, cl, cl2, lv, la, Fv, Fa, rfl, rfl, by omega, h1, h2, h3, h4, J⟩
  refine G4 (fun c => ?_) (fun c => ?_)
  ·have hz := hsz d (List.mem_of_getElem? hd)
   have hnl : d.d9 ∉ la.map (·.1) := by
    rw [har.fst]
    exact fun h => hnew (by have := d3P _ _ h; exact this)
   refine U6 I9 fun w10 I10 => ?_
   refine j8 (m3 _) ?_
   refine j8 b3s ?_
   refine j8 Q5 ?_
   refine j8 V9 ?_
   refine u7 (ld1 Tryz.isAgg78 ((I10.bring 1).at1 (o := 5) (vs := [.map (some ga)]) (nb rfl) rfl)) ?_
   refine u7 (ld1 Tryz.isAgg9 (I10.at1 (o := 0) (vs := [.string d.d9]) (nb rfl) rfl)) ?_
   refine u7 (ld1 Tryz.isAgg3 (I10.at1 (o := 1) (vs := [vi d.A4]) (nb rfl) rfl)) ?_
   refine d4F I10 (by omega) (by omega) fun s11 F11 w11 hr11 I11 k11 => ?_
   refine ⟨k11 _ I10.lt1, k11 _ (I10.bring 1).lt1, ?_⟩
   refine b0G (keyS Tryz.underlying9) Tryz.underlying78 (I11.bring 3) hes2 d.d9 s11 fun es2' cl2' w12 hes2' I12 _ => ?_
   rw [b6c _ _ _ hnl] at hes2'
   refine nxt es es2' cl cl2' lv _ Fv (Fa ++ F11) _ hes hes2' ?_ ?_ (I12.re (bx g12 71 (o7 d)) (fun f f0 fa => by (try simp only [List.cons_append, List.nil_append]); simp only [rB, mB, pB, oB, bx, List.flatten_cons, List.flatten_nil, f0, fa] <;> omega))
   ·rw [b9k hd, if_pos c, List.append_nil]; exact hbx
   ·rw [b9l hd, if_pos c]; exact har.snoc hr11
  ·have hnl : d.d9 ∉ lv.map (·.1) := by
    rw [hbx.fst]
    exact fun h => hnew (by have := d3O _ _ h; exact this)
   refine U6 I9 fun w10 I10 => ?_
   refine j8 (m3 _) ?_
   refine j8 b0k ?_
   refine j8 Q5 ?_
   refine u7 (ld1 Tryz.isAgg77 ((I10.bring 1).at1 (o := 4) (vs := [.map (some gm)]) (nb rfl) rfl)) ?_
   refine u7 (ld1 Tryz.isAgg9 (I10.at1 (o := 0) (vs := [.string d.d9]) (nb rfl) rfl)) ?_
   refine B9 I10 Tryz.zeroValue2 (cs := [(vi 0)]) rfl fun g11 w11 I11 k11 => ?_
   refine ⟨k11 _ I10.lt1, k11 _ (I10.bring 1).lt1, ?_⟩
   refine b0G (vv := vP) (keyS Tryz.underlying9) Tryz.underlying77 (I11.bring 4) hes d.d9 (some ⟨g11, 0, none⟩) fun es' cl' w12 hes' I12 _ => ?_
   rw [b6c _ _ _ hnl] at hes'
   refine nxt es' es2 cl' cl2 _ la (Fv ++ bx g11 2 [vi 0]) Fa _ hes' hes2 ?_ ?_ (I12.re (bx g12 71 (o7 d)) (fun f f0 fa => by (try simp only [List.cons_append, List.nil_append]); simp only [rB, mB, pB, oB, bx, List.flatten_cons, List.flatten_nil, f0, fa] <;> omega))
   ·rw [b9k hd, if_neg c]; exact hbx.snoc
   ·rw [b9l hd, if_neg c, List.append_nil]; exact har
 ·refine hx1 _ _ ?_
  have hie : i = q.decls.length := by omega
  subst hie
  rw [List.take_length] at hbx har
  clear hx1 hn7 hl7 c5
  have z1 := (I7.bring 1).freeze
  have z2 := ((z1.1).bring 1).freeze
  have l5 := z1.2.1.trans z2.2.1
  have hma : MapH (addF (addF H3 (mB ga es2 cl2)) (mB gm es cl)) kS vs (some ga) la := ⟨ga, es2, cl2, rfl, z2.2.1 _ _ (z1.2.2 _ (List.mem_singleton_self _)), hes2⟩
  have hmv : MapH (addF (addF H3 (mB ga es2 cl2)) (mB gm es cl)) kS vP (some gm) lv := ⟨gm, es, cl, rfl, z2.2.2 _ (List.mem_singleton_self _), hes⟩
  have I8 : Inv w (inF []) H _ [rB g10 (rc0 n sc gm ga), oB g6 oz, pB g3 p, Fv, Fa] w7 := z2.1
  generalize addF (addF H3 (mB ga es2 cl2)) (mB gm es cl) = H5 at I8 hma hmv l5
  clear z1 z2
  have hp5 := hp3.le l5
  have hsc5 := hsc3.le l5
  have hst5 : ∃ xs, SlH H5 6 f8 p.a2f xs ∧ xs.length ≤ big ∧ C0 (SH H5) xs q.body := hp5.b
  obtain ⟨xs, hxs, hxb, hxr⟩ := hst5
  obtain ⟨hars, _⟩ := PH.ars hp5 hsm htold
  have hnm := b8p c
  have hok := c4e c hin n
  have hk1 : (n : Int) ≤ 1000000 := by omega
  have hk2 : n ≤ 1000000 := by omega
  have hrun := d0t (g := g10) (X := ⟨some gm, some ga, lv, la⟩) (b5W (k0 := n) (ev0 := n) hxs hxb hxr (fun t ht => cmS (hars t ht).1 (hars t ht).2 (hnm.mem ht)) fun t ht x hx => d0s hk1 hk2 (hars t ht).1 (hars t ht).2 (hnm.mem ht) x hx)
   (σ := s0 q.decls scr n) (F := rB g10 (rc0 n sc gm ga) ++ ([] ++ (Fv ++ Fa))) ⟨sc, ⟨none, 0, 0⟩, [], Fv, Fa, ⟨hsc5, hcap, RowL.nil a2Y a2Z, hbx, har, hmv, hma⟩, rfl⟩ hok
  have hcmB : Cm ((vD q.decls).map (·.1)) ((aD q.decls).map (·.1)) (fun _ => True) (seqM (q.body.map rnT)) := b1q fun m hm => by
   obtain ⟨t, ht, rfl⟩ := List.mem_map.1 hm
   exact cmS (hars t ht).1 (hars t ht).2 (hnm.mem ht)
  have hend : Okst n n ((vD q.decls).map (·.1)) ((aD q.decls).map (·.1)) (endS (seqM (q.body.map rnT) (s0 q.decls scr n))).2.2 := by
   have := hcmB.safe _ hok
   cases hm : seqM (q.body.map rnT) (s0 q.decls scr n) with
   | ok a s1 => rw [hm] at this; exact this.2.1
   | stop a b s1 => rw [hm] at this; exact this.1
  unfold c5w
  intro _
  refine a8 a3X ?_
  refine b6 (ld1 Tryz.isAgg23 ((I8.bring 2).at1 (o := 1) (vs := [vs p.a2f]) (nb rfl) rfl)) ?_
  refine s6 (cap := []) (fun args w => Tryz.call34 args w) ?_
  refine R6 (Fi := [rB g10 (rc0 n sc gm ga) ++ ([] ++ (Fv ++ Fa))]) (Fr := [oB g6 oz, pB g3 p]) (I8.re [] (fun f f0 fa => by (try simp only [List.cons_append, List.nil_append]); simp only [rB, pB, oB, bx, List.flatten_cons, List.flatten_nil, f0, fa] <;> omega)) hrun (fun v H6 Fo w8 I9 l6 k6 qq => ?_) (fun _ _ _ _ _ q => q.elim)
  obtain ⟨F', rfl, rfl, hr6, rfl⟩ := qq
  unfold runQ
  generalize endS (seqM (q.body.map rnT) (s0 q.decls scr n)) = r at hr6 hend ⊢
  obtain ⟨st, wr, σ⟩ := r
  dsimp only at hr6 hend ⊢
  obtain ⟨sc', ev, Fe, Fv', Fa', W, rfl⟩ := hr6
  refine B9 I9 Tryz.zeroValue83 (cs := [vi 0, vi 0]) rfl fun g13 w10 I10 _ => ?_
  refine o4 I10 Tryz.sizeOf83 (vs := [vi st, vi wr]) (cs' := [vi st, vi wr]) rfl rfl (nb rfl) rfl rfl fun w11 I11 _ => ?_
  have I12 : Inv w (inF []) H H6 [bx g13 83 [vi st, vi wr], rB g10 (rcs ⟨some gm, some ga, lv, la⟩ σ sc' ev), Fe, Fv', Fa', oB g6 oz, pB g3 p] w11 := I11.re [] (fun f f0 fa => by (try simp only [List.cons_append, List.nil_append]); simp only [rB, pB, oB, bx, List.flatten_cons, List.flatten_nil, f0, fa] <;> omega)
  refine U6 I12 fun w12 I13 => ?_
  refine j8 c7n ?_
  refine j8 c7o ?_
  refine j8 (m3 _) ?_
  refine j8 b3q ?_
  refine j8 (m3 _) ?_
  refine j8 a8L ?_
  refine u7 (ld1 Tryz.isAgg3 (I13.at1 (o := 0) (vs := [vi st]) (nb rfl) rfl)) ?_
  refine u7 (ld1 Tryz.isAgg3 (I13.at1 (o := 1) (vs := [vi wr]) (nb rfl) rfl)) ?_
  refine u7 (ld1 Tryz.isAgg3 ((I13.bring 1).at1 (o := 1) (vs := [vi σ.steps]) (nb rfl) rfl)) ?_
  refine u7 (ld1 Tryz.isAgg39 ((I13.bring 1).at1 (o := 3) (vs := [vs ev]) (nb rfl) rfl)) ?_
  refine j8 (v := .agg (m9 ⟨st, wr, σ.steps, ev, ⟨none, 0, 0⟩, ⟨none, 0, 0⟩⟩).toArray) (Pu.ok fun w => by kernel_rfl) ?_
  refine B9 I13 Tryz.zeroValue42 (cs := m9 oz) rfl fun g14 w14 I14 k14 => ?_
  refine ⟨k14 _ (I13.bring 1).lt1, k14 _ (I13.bring 1).lt1, k14 _ I13.lt1, k14 _ I13.lt1, ?_⟩
  refine o4 I14 Tryz.sizeOf42 (vs := m9 ⟨st, wr, σ.steps, ev, ⟨none, 0, 0⟩, ⟨none, 0, 0⟩⟩) (cs' := m9 ⟨st, wr, σ.steps, ev, ⟨none, 0, 0⟩, ⟨none, 0, 0⟩⟩) rfl rfl (nb rfl) rfl rfl fun w15 I15 _ => ?_
  refine c7m (st := st) (wr := wr) hp5 hnd W hend.vs hend.rs (I15.re (bx g13 83 [vi st, vi wr]) (fun f f0 fa => by (try simp only [List.cons_append, List.nil_append]); simp only [rB, pB, oB, bx, List.flatten_cons, List.flatten_nil, f0, fa] <;> omega)) fun o Fo w16 ho16 I16 => ?_
  exact ⟨_, _, I16, o, rfl, fun h => (h rfl).elim, fun _ => ho16⟩
end
def OutH (H : Hp) (o : i5) (c : Oc) : Prop := o.u6 = c.st ∧ o.u1 = c.wr ∧ o.s7 = c.steps ∧ SlH H 3 r8 o.Q6 c.events ∧ SlH H 1 ci o.a5D c.vars ∧ SlHH H 1 ci o.O9 c.arrs
theorem OutH.le {H H' : Hp} {o : i5} {c : Oc} (h : OutH H o c) (l : Hle H H') : OutH H' o c := by
 obtain ⟨h1, h2, h3, h4, h5, h6⟩ := h
 exact ⟨h1, h2, h3, h4.le l, h5.le l, h6.le l⟩
section
variable {H : Hp}
theorem d3V (hT : TabsH H) {p : o3} {q : PP} (hp : PH H p q) (hsm : q.Sm) {sc : Sl} {scr : List Int} (hsc : SlH H 1 ci sc scr) (hcap : sc.n ≤ sc.c) (hin : ∀ x ∈ scr, o8 x) {k : Int} {K : i5 → Int → Hp → Prop}
  (h1 : errR q scr k ≠ 0 → ∀ H', Hle H H' → K oz (errR q scr k) H') (h0 : errR q scr k = 0 → ∀ o H', Hle H H' → OutH H' o (runQ q scr k.toNat) → K o 0 H') : b1d p sc k H K := by
 intro w I
 refine Cv.mono (c6d hT hp hsm hsc hcap hin k w I) (fun v w' q1 => ?_) fun c w' q1 => ?_
 ·obtain ⟨H1, Fo, J, o, rfl, he, hz⟩ := q1
  by_cases c : errR q scr k = 0
  ·obtain ⟨a1, a2, a3, Fe, Fv, Fr, rfl, b1, b2, b3⟩ := hz c
   obtain ⟨H2, J2, l2, s2⟩ := J.freezeL b1 (by decide)
   obtain ⟨H3, J3, l3, s3⟩ := J2.freezeL b2 (by decide)
   obtain ⟨H4, J4, l4, s4, _⟩ := J3.freezeLL b3 (by decide)
   rw [c]
   exact ⟨H4, [], J4, o, 0, rfl, rfl, h0 c o H4 J4.le ⟨a1, a2, a3, s2.le (l3.trans l4), s3.le l4, s4⟩⟩
  ·obtain ⟨rfl, rfl⟩ := he c
   exact ⟨H1, [], J, oz, _, rfl, rfl, h1 c H1 J.le⟩
 ·obtain ⟨_, _, _, q2⟩ := q1
  exact q2.elim
end
def Fine (n : Nat) (h : Int) (t : PT) : Prop := cT t ≤ n ∧ (∀ d, d + h ≤ 65 → dpT 64 t d) ∧ formT t = true ∧ namesT t = true ∧ Sm t
theorem b4D {n : Nat} {h : Int} : ∀ {cs : List PT}, (∀ t ∈ cs, Fine n h t) → cTs cs ≤ cs.length * n ∧ (∀ d, d + h ≤ 65 → dpTs 64 cs d) ∧ formTs cs = true ∧ namesTs cs = true
 | [], _ => ⟨by rw [cTs]; exact Nat.zero_le _, fun d _ => by rw [dpTs]; trivial, rfl, rfl⟩
 | t :: cs, hc => by
  obtain ⟨a1, a2, a3, a4, _⟩ := hc t List.mem_cons_self
  obtain ⟨b1, b2, b3, b4⟩ := b4D (cs := cs) fun u hu => hc u (List.mem_cons_of_mem _ hu)
  refine ⟨?_, fun d hd => ?_, ?_, ?_⟩
  ·rw [cTs, List.length_cons, Nat.add_mul]; omega
  ·rw [dpTs]; exact ⟨a2 d hd, b2 d hd⟩
  ·rw [formTs, a3, b3]; rfl
  ·rw [namesTs, a4, b4]; rfl
theorem a8E {n : Nat} {h : Int} {l : Lab} {cs : List PT} (hh : 0 ≤ h) (hc : ∀ t ∈ cs, Fine n h t) (h1 : formL l = true) (h2 : nameOk l = true) (h3 : smL l) : Fine (1 + cs.length * n) (h + 1) (.mk l cs) := by
 obtain ⟨b1, b2, b3, b4⟩ := b4D hc
 refine ⟨by rw [cT]; omega, fun d hd => ?_, ?_, ?_, .mk h3 fun t ht => (hc t ht).2.2.2.2⟩
 ·rw [dpT]; exact ⟨by omega, b2 _ (by omega)⟩
 ·rw [formT, h1, b3]; rfl
 ·rw [namesT, h2, b4]; rfl
theorem Fine.up {n n' : Nat} {h h' : Int} {t : PT} (f : Fine n h t) (hn : n ≤ n') (hh : h ≤ h') : Fine n' h' t := by
 obtain ⟨a1, a2, a3⟩ := f
 exact ⟨by omega, fun d hd => a2 d (by omega), a3⟩
theorem c4f : (oS : ByteArray).size ≤ sml := by decide
theorem c1u {v : Int} (h : Nn v) : Fine 2 2 (plainT v) := by
 obtain ⟨h1, h2⟩ := h
 unfold plainT
 by_cases hv : v < 0
 ·rw [if_pos hv]
  have hw : IntKind.wrap .i64 (0 - v) = -v := by rw [IntKind.wrap_i64]; unfold o8 at h1; omega
  rw [hw]
  have k1 : Fine 1 1 (eN 1 (-v) oS []) := a8E (n := 0) (h := 0) (l := .expr 1 (-v) oS 0) (cs := []) (Int.le_refl 0) (fun t ht => by cases ht) (by show formE 1 (-v) oS 0 = true; unfold formE; simp; omega) rfl ⟨c4f, by unfold o8 at h1 ⊢; show -9223372036854775808 ≤ -v ∧ -v ≤ 9223372036854775807; omega⟩
  exact a8E (n := 1) (h := 1) (l := .expr 5 0 oS 1) (cs := [eN 1 (-v) oS []]) (by decide) (fun t ht => by rw [List.mem_singleton.1 ht]; exact k1) (by decide) rfl ⟨c4f, z64⟩
 ·rw [if_neg hv]
  exact (a8E (n := 0) (h := 0) (l := .expr 1 v oS 0) (cs := []) (Int.le_refl 0) (fun t ht => by cases ht) (by show formE 1 v oS 0 = true; unfold formE; simp; omega) rfl ⟨c4f, h1⟩).up (by decide) (by decide)
theorem d0B {n : Nat} {h : Int} {a : PT} (ha : Fine n h a) : ∀ t ∈ [a], Fine n h t := fun t ht => by rw [List.mem_singleton.1 ht]; exact ha
theorem d0C {n : Nat} {h : Int} {a b : PT} (ha : Fine n h a) (hb : Fine n h b) : ∀ t ∈ [a, b], Fine n h t := fun t ht => by
 rcases List.mem_cons.1 ht with e | ht
 ·rw [e]; exact ha
 ·rw [List.mem_singleton.1 ht]; exact hb
theorem c6e {q : PP} {n : Nat} {h : Int} (hd : ∀ d ∈ q.decls, nameS d.d9 = true ∧ d.d9.size ≤ sml ∧ 0 ≤ d.A4 ∧ d.A4 ≤ 1024) (hb : ∀ t ∈ q.body, Fine n h t) (hn : q.decls.length + q.body.length * n ≤ 4096) (h0 : 0 ≤ h) (h1 : h ≤ 64) (hok : DeclOk q.decls) (hu : ∀ u ∈ uTs q.body, kOf q.decls u.d9 = asU u) : (wellS q).2 = 0 ∧ q.Sm := by
 obtain ⟨b1, b2, b3, b4⟩ := b4D hb
 have hds : ∀ ds : List i8, (∀ d ∈ ds, nameS d.d9 = true ∧ d.d9.size ≤ sml ∧ 0 ≤ d.A4 ∧ d.A4 ≤ 1024) → cTs (ds.map dT) = ds.length ∧ dpTs 64 (ds.map dT) 1 ∧ formTs (ds.map dT) = true ∧ namesTs (ds.map dT) = true ∧ ∀ t ∈ ds.map dT, Sm t := by
  intro ds
  induction ds with
  | nil => exact fun _ => ⟨rfl, by rw [List.map_nil, dpTs]; trivial, rfl, rfl, fun t ht => by cases ht⟩
  | cons d ds ih =>
   intro hh
   obtain ⟨a1, a2, a3, a4, a5⟩ := ih fun d hd => hh d (List.mem_cons_of_mem _ hd)
   obtain ⟨c1, c2, c3, c4⟩ := hh d List.mem_cons_self
   rw [List.map_cons]
   refine ⟨?_, ?_, ?_, ?_, fun t ht => ?_⟩
   ·rw [cTs, a1, dT, cT, cTs, List.length_cons]; omega
   ·rw [dpTs, dT, dpT, dpTs]; exact ⟨⟨by decide, trivial⟩, a2⟩
   ·rw [formTs, a3, dT, formT, formTs]
    show ((decide (0 ≤ d.A4) && decide (d.A4 ≤ 2147483647)) && true && true) = true
    simp; omega
   ·rw [namesTs, a4, dT, namesT, namesTs]
    show (nameS d.d9 && true && true) = true
    rw [c1]; rfl
   ·rcases List.mem_cons.1 ht with e | ht
    ·rw [e]; exact .mk ⟨c2, z64⟩ fun t ht => by cases ht
    ·exact a5 t ht
 obtain ⟨a1, a2, a3, a4, a5⟩ := hds _ hd
 refine ⟨(a9I q).2 ⟨(b5R _).2 ⟨?_, ?_, ?_, ?_⟩, hok, hu⟩, fun t ht => ?_⟩
 ·unfold PP.nodes; rw [b2T, a1]; omega
 ·unfold PP.nodes; rw [c0J]; exact ⟨a2, b2 1 (by omega)⟩
 ·unfold PP.nodes; rw [a2y, a3, b3]; rfl
 ·unfold PP.nodes; rw [a4m, a4, b4]; rfl
 ·unfold PP.nodes at ht
  rcases List.mem_append.1 ht with ht | ht
  ·exact a5 t ht
  ·exact (hb t ht).2.2.2.2
theorem c7p : xS.size ≤ sml := by decide
theorem c7X {q : PP} {scr : List Int} {k : Int} (h : (wellS q).2 = 0) (h1 : 0 ≤ k) (h2 : k ≤ 65536) (h3 : scr.length ≤ 65536) : errR q scr k = 0 := by
 unfold errR
 rw [if_neg (fun e => e h), if_neg]
 omega
def insE (l : List d7) : List Int := (l.filter (·.b2G)).map (·.C9)
theorem c7q (a b : List d7) : insE (a ++ b) = insE a ++ insE b := by unfold insE; rw [List.filter_append, List.map_append]
def Lat (s s' : St) : Prop := s.steps ≤ s'.steps ∧ ∃ l, s'.events = s.events ++ l ∧ s.script = insE l ++ s'.script
theorem Lat.refl (s : St) : Lat s s := ⟨Int.le_refl _, [], by rw [List.append_nil], rfl⟩
theorem Lat.trans {a b c : St} (h : Lat a b) (k : Lat b c) : Lat a c := by
 obtain ⟨h1, l, h2, h3⟩ := h
 obtain ⟨k1, l', k2, k3⟩ := k
 exact ⟨by omega, l ++ l', by rw [k2, h2, List.append_assoc], by rw [h3, k3, c7q, List.append_assoc]⟩
def fin {α : Type} : Rs α → St
 | .ok _ s => s
 | .stop _ _ s => s
section
variable {k0 : Int} {ev0 : Nat} {ns ars : List ByteArray} {α : Type} {G : α → Prop} {m : M α}
theorem b2i {β : Type} {F : α → Prop} {k : α → M β} {s : St} (hp : Post k0 ev0 ns ars F s (m s)) (h1 : Lat s (fin (m s))) (h2 : ∀ a s', F a → Okst k0 ev0 ns ars s' → Lat s' (fin (k a s'))) : Lat s (fin (bnd m k s)) := by
 unfold bnd
 cases hm : m s with
 | ok a s1 => rw [hm] at hp h1; exact h1.trans (h2 a s1 hp.1 hp.2.1)
 | stop x y s1 => rw [hm] at h1; exact h1
theorem b6Q {c : M Bool} {b : M Unit} (hc : Cm ns ars (fun _ => True) c) (hb : Cm ns ars (fun _ => True) b) (lc : ∀ s, Okst k0 ev0 ns ars s → Lat s (fin (c s))) (lb : ∀ s, Okst k0 ev0 ns ars s → Lat s (fin (b s))) : ∀ (n : Nat) (s : St), Okst k0 ev0 ns ars s → Lat s (fin (loopM c b n s))
 | 0, s, _ => Lat.refl s
 | n + 1, s, hs => by
  unfold loopM
  refine b2i (hc.safe s hs) (lc s hs) fun x s1 _ hs1 => ?_
  cases x
  ·exact Lat.refl _
  ·rw [if_pos rfl]
   exact b2i (hb.safe s1 hs1) (lb s1 hs1) fun _ s2 _ hs2 => b6Q hc hb lc lb n s2 hs2
theorem b6R (s : St) : Lat s (fin (stepM s)) := by
 unfold stepM
 split
 ·exact Lat.refl s
 ·exact ⟨by show s.steps ≤ s.steps + 1; omega, [], by rw [List.append_nil]; rfl, rfl⟩
theorem Cm.later (h : Cm ns ars G m) : ∀ s, Okst k0 ev0 ns ars s → Lat s (fin (m s)) := by
 induction h with
 | ret _ => exact fun s _ => Lat.refl s
 | bnd h1 _ ih1 ih2 => exact fun s hs => b2i (h1.safe s hs) (ih1 s hs) fun a s' ha hs' => ih2 a ha s' hs'
 | halt a b _ => exact fun s _ => Lat.refl s
 | step => exact fun s _ => b6R s
 | get _ => exact fun s _ => Lat.refl s
 | set _ _ => exact fun s _ => ⟨Int.le_refl _, [], by rw [List.append_nil]; rfl, rfl⟩
 | input =>
  intro s _
  unfold inM
  split
  ·exact Lat.refl s
  ·rename_i n r hsc
   split
   ·exact Lat.refl s
   ·exact ⟨by show s.steps ≤ s.steps + 1; omega, [⟨true, n, false⟩], rfl, hsc⟩
 | item _ _ =>
  intro s _
  unfold boundM
  split
  ·exact Lat.refl s
  ·exact Lat.refl s
 | cell _ _ => exact fun s _ => Lat.refl s
 | put _ _ _ => exact fun s _ => ⟨Int.le_refl _, [], by rw [List.append_nil]; rfl, rfl⟩
 | held b =>
  intro s hs
  unfold heldM
  refine b2i (b2g s hs) (b6R s) fun _ s1 _ _ => ⟨Int.le_refl _, [⟨false, 0, b⟩], rfl, rfl⟩
 | loop hc hb _ ih1 ih2 => exact fun s hs => b6Q hc hb ih1 ih2 _ s hs
end
section
variable {H H' : Hp} {k0 : Int} {ev0 : Nat} {ns ars : List ByteArray}
structure Dx where
 sc : Sl
 scr : List Int
 nm : Sl
 ls : Sl
structure DxH (H : Hp) (ns ars : List ByteArray) (X : Dx) : Prop where
 sc : SlH H 1 ci X.sc X.scr
 nm : SlH H 1 C5 X.nm ns
 ls : SlH H 1 C5 X.ls ars
 b1 : X.scr.length ≤ 65536
 b2 : ns.length ≤ big
 b3 : ars.length ≤ big
theorem DxH.le {X : Dx} (h : DxH H ns ars X) (l : Hle H H') : DxH H' ns ars X := ⟨h.sc.le l, h.nm.le l, h.ls.le l, h.b1, h.b2, h.b3⟩
abbrev dB (X : Dx) (σ : St) (en ou : Bool) (st wr : Int) : b8 := ⟨X.sc, (σ.left : Int), en, ou, ⟨st, wr, σ.steps, ⟨none, 0, 0⟩, ⟨none, 0, 0⟩, ⟨none, 0, 0⟩⟩, X.nm, X.ls, ((X.scr.length - σ.script.length : Nat) : Int)⟩
abbrev dO (X : Dx) (σ : St) : b8 := dB X σ false false 0 0
abbrev dS (X : Dx) (st wr : Int) (σ : St) : b8 := dB X σ (!decide (st = 1)) (decide (st = 1)) (if st = 1 then 0 else st) wr
structure DOk (k0 : Int) (ev0 : Nat) (ns ars : List ByteArray) (X : Dx) (σ : St) : Prop where
 ok : Okst k0 ev0 ns ars σ
 suf : σ.script <:+ X.scr
abbrev KD (α : Type) := α → b8 → List d7 → List Int → List (List Int) → Hp → Prop
def DC (X : Dx) {α : Type} (m : M α) (σ : St) (H : Hp) (K : KD α) : Prop :=
 (∀ v σ1 H', Hle H H' → m σ = .ok v σ1 → K v (dO X σ1) σ1.events (σ1.vars.map (·.2)) (σ1.arrs.map (·.2)) H') ∧
 ∀ st wr σ1 v H', Hle H H' → m σ = .stop st wr σ1 → K v (dS X st wr σ1) σ1.events (σ1.vars.map (·.2)) (σ1.arrs.map (·.2)) H'
section
variable {α β : Type} {F : α → Prop} {X : Dx} {σ σ1 : St} {m : M α} {k : α → M β} {K : KD β} {K' : KD α}
theorem DOk.on (hd : DOk k0 ev0 ns ars X σ) (h : Cm ns ars F m) {a : α} (e : m σ = .ok a σ1) : F a ∧ DOk k0 ev0 ns ars X σ1 := by
 have p := h.safe σ hd.ok
 have l := h.later σ hd.ok
 rw [e] at p l
 obtain ⟨_, l', _, l3⟩ := l
 have hsf : σ1.script <:+ σ.script := ⟨insE l', l3.symm⟩
 exact ⟨p.1, p.2.1, hsf.trans hd.suf⟩
theorem DC.at_ (h : DC X (bnd m k) σ H K) {H1 : Hp} (l : Hle H H1) {a : α} (e : m σ = .ok a σ1) : DC X (k a) σ1 H1 K :=
 ⟨fun v σ2 H' l' e' => h.1 v σ2 H' (l.trans l') (by rw [R0 e]; exact e'), fun st wr σ2 v H' l' e' => h.2 st wr σ2 v H' (l.trans l') (by rw [R0 e]; exact e')⟩
theorem DC.stp (h : DC X (bnd m k) σ H K) {H1 : Hp} (l : Hle H H1) {st wr : Int} (e : m σ = .stop st wr σ1) (v : β) : K v (dS X st wr σ1) σ1.events (σ1.vars.map (·.2)) (σ1.arrs.map (·.2)) H1 := h.2 _ _ _ _ _ l (U4 e)
theorem DC.ret {a : β} (h : DC X (ret a) σ H K) {H1 : Hp} (l : Hle H H1) : K a (dO X σ) σ.events (σ.vars.map (·.2)) (σ.arrs.map (·.2)) H1 := h.1 _ _ _ l rfl
theorem DC.halt {st wr : Int} (h : DC X (halt st wr : M β) σ H K) {H1 : Hp} (l : Hle H H1) (v : β) : K v (dS X st wr σ) σ.events (σ.vars.map (·.2)) (σ.arrs.map (·.2)) H1 := h.2 _ _ _ _ _ l rfl
theorem DC.le (h : DC X m σ H K') (l : Hle H H') : DC X m σ H' K' := ⟨fun v σ2 H2 l' e' => h.1 v σ2 H2 (l.trans l') e', fun st wr σ2 v H2 l' e' => h.2 st wr σ2 v H2 (l.trans l') e'⟩
theorem DC.nrm (h : DC X m σ H K') : DC X m σ H fun v y a b c H' => K' v ⟨y.fscript, y.fleft, y.fended, y.fout, ⟨y.fo.u6, y.fo.u1, y.fo.s7, ⟨none, 0, 0⟩, ⟨none, 0, 0⟩, ⟨none, 0, 0⟩⟩, y.fnames, y.flists, y.ftaken⟩ a b c H' := ⟨h.1, h.2⟩
theorem DC.eq (h : DC X m σ H K') {m' : M α} (e : m' = m) : DC X m' σ H K' := by rw [e]; exact h
end
variable {X : Dx} {σ : St}
theorem on8 {en ou : Bool} {st wr : Int} {ev : List d7} {vs : List Int} {rs : List (List Int)} {K : Bool → Hp → Prop} (h : K (!en && !ou) H) : u0 (dB X σ en ou st wr) ev vs rs H K := b0b _ _ _ _ h
theorem a9J {st wr : Int} {ev : List d7} {vs : List Int} {rs : List (List Int)} {K : Bool → Hp → Prop} (h : K false H) : u0 (dS X st wr σ) ev vs rs H K := by
 refine on8 ?_
 cases decide (st = 1) <;> exact h
theorem b6S {w : Int} {ev : List d7} {vs : List Int} {rs : List (List Int)} {K : b8 → List d7 → List Int → List (List Int) → Hp → Prop} (h : K (dS X 3 w σ) ev vs rs H) : P1 (dO X σ) ev vs rs w H K := a9i _ _ _ _ _ h
def stp (σ : St) : St := { σ with left := σ.left - 1, steps := σ.steps + 1 }
theorem c1v (h : σ.left ≠ 0) : stepM σ = .ok () (stp σ) := by unfold stepM; rw [if_neg h]; rfl
theorem c2V (h : σ.left = 0) : stepM σ = .stop 1 0 σ := by unfold stepM; rw [if_pos h]
variable (hk : k0 ≤ 1000000)
include hk in
theorem a9L (hd : DOk k0 ev0 ns ars X σ) {K : KD Bool} (h1 : stepM σ = .ok () (stp σ) → K true (dO X (stp σ)) σ.events (σ.vars.map (·.2)) (σ.arrs.map (·.2)) H) (h2 : stepM σ = .stop 1 0 σ → K false (dS X 1 0 σ) σ.events (σ.vars.map (·.2)) (σ.arrs.map (·.2)) H) :
  A6 (dO X σ) σ.events (σ.vars.map (·.2)) (σ.arrs.map (·.2)) H K := by
 refine a5T _ _ _ _ ?_
 unfold a1e
 refine on8 ⟨fun q => (by cases q), fun _ => ⟨fun h0 => ?_, fun h0 => ?_⟩⟩
 ·exact h2 (c2V (show σ.left = 0 by have h0' : (σ.left : Int) = 0 := h0; omega))
 ·have hne : σ.left ≠ 0 := fun e => h0 (by show (σ.left : Int) = 0; omega)
  have hs := hd.ok.sum
  have hp := hd.ok.pos
  have e1 : IntKind.wrap .i64 ((σ.left : Int) - 1) = ((σ.left - 1 : Nat) : Int) := by rw [b2D _ (by omega) (by omega)]; omega
  have e2 : IntKind.wrap .i64 (σ.steps + 1) = σ.steps + 1 := b2D _ (by omega) (by omega)
  have h3 := h1 (c1v hne)
  show K true (b8.mk X.sc (IntKind.wrap .i64 ((σ.left : Int) - 1)) false false (i5.mk 0 0 (IntKind.wrap .i64 (σ.steps + 1)) ⟨none, 0, 0⟩ ⟨none, 0, 0⟩ ⟨none, 0, 0⟩) X.nm X.ls _) _ _ _ H
  rw [e1, e2]
  exact h3
theorem b1D {st wr : Int} {ev : List d7} {vs : List Int} {rs : List (List Int)} {K : KD Bool} (h : K false (dS X st wr σ) ev vs rs H) : A6 (dS X st wr σ) ev vs rs H K := by
 refine a5T _ _ _ _ ?_
 unfold a1e
 exact a9J ⟨fun _ => h, fun q => by cases q⟩
theorem b9m {s : Sl} {l : List ByteArray} {x : ByteArray} (hs : SlH H 1 C5 s l) (hb : l.length ≤ big) (hm : x ∈ l) {K : Int → Hp → Prop} (h : ∀ j : Nat, l[j]? = some x → (∀ i, i < j → l[i]? ≠ some x) → K (j : Int) H) : L3 s x H K := by
 refine b1r _ _ ?_
 unfold a4F
 have n1 := hs.1
 simp only [big] at hb
 refine T9 (fun (i : Int) H' => 0 ≤ i ∧ i ≤ l.length ∧ (∀ k, k < i.toNat → l[k]? ≠ some x) ∧ H' = H) (fun i => (l.length - i).toNat) ⟨Int.le_refl _, by omega, fun k hk => by simp at hk, rfl⟩ ?_
 rintro i H1 next ⟨i0, i1, hf, rfl⟩ hn
 unfold a1D
 refine ⟨fun hc => ?_, fun hc => ?_⟩
 ·obtain ⟨y, hy, hE⟩ := hs.get i0 hc
  refine ⟨i0, hc, y, hE, fun e => ?_, fun e => ?_⟩
  ·subst e
   have := h i.toNat hy hf
   rwa [Int.toNat_of_nonneg i0] at this
  ·rw [y9 i0 (by omega)]
   refine hn _ _ ⟨by omega, by omega, fun k hk => ?_, rfl⟩ (by omega)
   by_cases hki : k < i.toNat
   ·exact hf k hki
   ·have e2 : k = i.toNat := by omega
    subst e2
    rw [hy]
    exact fun q => e (Option.some.inj q)
 ·exfalso
  obtain ⟨j, hj⟩ := List.getElem?_of_mem hm
  exact hf j (by have := s8 hj; omega) hj
theorem b1E {ν : Type} {x : ByteArray} : ∀ {l : List (ByteArray × ν)} {j : Nat}, (l.map (·.1))[j]? = some x → (∀ i, i < j → (l.map (·.1))[i]? ≠ some x) → ∃ v, lk x l = some v ∧ (l.map (·.2))[j]? = some v ∧ ∀ w, (a1w x w l).map (·.2) = (l.map (·.2)).set j w
 | [], j, h, _ => by simp at h
 | p :: l, 0, h, _ => by
  have e : p.1 = x := by simpa using h
  exact ⟨p.2, by rw [lk, if_pos e.symm], rfl, fun w => by rw [a1w, if_pos e.symm]; rfl⟩
 | p :: l, j + 1, h, hf => by
  have hne : x ≠ p.1 := fun e => hf 0 (Nat.succ_pos _) (by simp [e])
  obtain ⟨v, h1, h2, h3⟩ := b1E (l := l) (j := j) (by simpa using h) fun i hi => by
   have := hf (i + 1) (by omega)
   simpa using this
  exact ⟨v, by rw [lk, if_neg hne]; exact h1, by simpa using h2, fun w => by rw [a1w, if_neg hne, List.map_cons, List.map_cons, h3 w]; rfl⟩
include hk in
theorem d3W (hev : ev0 ≤ 1000000) (hd : DOk k0 ev0 ns ars X σ) (hx : DxH H ns ars X) {K : KD Int} (h : DC X inM σ H K) : a2D (dO X σ) σ.events (σ.vars.map (·.2)) (σ.arrs.map (·.2)) H K := by
 refine a9j _ _ _ _ ?_
 unfold a2O
 have hl := hd.suf.length_le
 have hn := hx.sc.1
 refine on8 ⟨fun q => (by cases q), fun _ => ⟨fun h0 => ?_, fun h0 => ?_⟩⟩
 ·have h0' : ((X.scr.length - σ.script.length : Nat) : Int) = (X.sc.n : Int) := h0
  have e : inM σ = .stop 2 0 σ := by
   unfold inM
   cases hs : σ.script with
   | nil => rfl
   | cons a r => rw [hs, List.length_cons] at h0' hl; omega
  exact h.2 _ _ _ 0 _ (Hle.refl _) e
 ·have h0' : ¬ ((X.scr.length - σ.script.length : Nat) : Int) = (X.sc.n : Int) := h0
  cases hs : σ.script with
  | nil => rw [hs] at h0'; exact (h0' (by simp [hn])).elim
  | cons a r =>
   refine a9L hk hd (fun e => ?_) fun e => ?_
   ·refine ⟨fun q => (by cases q), fun _ => ?_⟩
    rw [hs, List.length_cons] at hl
    have hget : X.scr[X.scr.length - σ.script.length]? = some a := by
     obtain ⟨t, ht⟩ := hd.suf
     rw [← ht, List.length_append, Nat.add_sub_cancel, List.getElem?_append_right (Nat.le_refl _), Nat.sub_self, hs]
     rfl
    have hel := hx.sc.2 _ _ hget
    have hne : σ.left ≠ 0 := fun q => by rw [c2V q] at e; cases e
    have e2 : inM σ = .ok a { stp σ with script := r, events := σ.events ++ [⟨true, a, false⟩] } := by
     unfold inM
     rw [hs]
     dsimp only
     rw [if_neg hne]; rfl
    have h3 := h.1 _ _ _ (Hle.refl _) e2
    have hq := hd.ok.ev
    have b1 := hx.b1
    refine ⟨by show (0 : Int) ≤ ((X.scr.length - σ.script.length : Nat) : Int); omega, ?_, a, hel, by show (σ.events.length + 1) * 25 ≤ _; omega, ?_⟩
    ·show ((X.scr.length - σ.script.length : Nat) : Int) < (X.sc.n : Int)
     rw [hs, List.length_cons]; omega
    ·have e3 : IntKind.wrap .i64 (((X.scr.length - σ.script.length : Nat) : Int) + 1) = ((X.scr.length - r.length : Nat) : Int) := by
      rw [hs, List.length_cons, b2D _ (by omega) (by omega)]; omega
     show K a (b8.mk X.sc (((stp σ).left : Nat) : Int) false false (i5.mk 0 0 (stp σ).steps ⟨none, 0, 0⟩ ⟨none, 0, 0⟩ ⟨none, 0, 0⟩) X.nm X.ls (IntKind.wrap .i64 (((X.scr.length - σ.script.length : Nat) : Int) + 1))) _ _ _ H
     rw [e3]
     exact h3
   ·refine ⟨fun _ => ?_, fun q => by cases q⟩
    refine h.2 1 0 σ 0 _ (Hle.refl _) ?_
    have hz : σ.left = 0 := by
     by_cases q : σ.left = 0
     ·exact q
     ·rw [c1v q] at e; cases e
    unfold inM
    rw [hs]
    dsimp only
    rw [if_pos hz]
end
end Go.Proofs.YtnhkdkcgdcgmdaaGreatDoor
