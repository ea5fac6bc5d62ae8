/- A run's frame: the deferred function takes the panic. Off the code, by the kit's wp. -/
import Derived.Test.YtnhkdkcgdcgmdaaDoorzZNa
import Derived.Tactics2
import Derived.Defers
import Derived.Recover
namespace Go.Proofs.YtnhkdkcgdcgmdaaDoor
open Go.RowKit
set_option maxRecDepth 100000
set_option maxHeartbeats 4000000
section
variable {P : Program} {ops : Array Oper} {i : Nat} {rest : List Nat} {a : Act} {w : World} {o : Oper} {s : Sem Next}
theorem wk {Q : Exit → Act → World → Prop} (ho : ops[i]? = some o) (hg : o.guard = none) (hs : execOp a.eval o = s)
    (h : opK P (fun c w' => Q (.panic c) a w') s w fun v w' => wpOps P ops Q rest (a.put o.dst v) w') : wpOps P ops Q (i :: rest) a w := by
  unfold wpOps
  rw [ho]
  have : Region.wanted o (yielded ops a.tmps) = true := by unfold Region.wanted; rw [hg]
  simp only [this, if_true]
  exact .inl (c2l hs h (fun _ _ h => h) fun _ _ h => h)
theorem d8j {Q : Exit → Act → World → Prop} {d : Deferred} (ho : ops[i]? = some o) (hg : o.guard = none) (hr : (execOp a.eval o).run P w = .ok (.defer d) w)
    (h : wpOps P ops Q rest (({ a with defers := d :: a.defers } : Act).put o.dst undef) w) : wpOps P ops Q (i :: rest) a w := by
  unfold wpOps
  rw [ho]
  have : Region.wanted o (yielded ops a.tmps) = true := by unfold Region.wanted; rw [hg]
  simp only [this, if_true]
  refine .inl ?_
  unfold Oper.wp
  rw [hr]
  exact h
theorem a7g (v : Value) : Pu P (pure (.value v)) v := fun w => rfl
end
section
variable {H : Hp}
theorem d3n (ge : Nat) (w : World) : CallsD Tryd.prog 81 #[rP ge] .returning w fun e u' w' => e = .returned (.tuple #[]) ∧ u' = .returning ∧ w' = w := by
  refine callsD_of_wpS Tryd.func81 rfl fun c₀ cs hu => ?_
  apply wpS_seq
  apply wpS_region
  simp [wpOpsS, go_sem, recoverD, hu, Exit.thenS]
  refine wpS_of_wp ?_
  apply wp_seq
  apply wp_seq
  apply wp_region
  refine wk (s := pure (.value .nilIface)) rfl rfl (by kernel_rfl) (a7 (a7g _) ?_)
  refine wk (s := xBin .eql 20 (.tmp 5) (.const .nilIface) .nilIface .nilIface) rfl rfl (by kernel_rfl) (a7 (v := .bool true) (fun w => by kernel_rfl) ?_)
  refine wp_cond (t := true) (by kernel_rfl) ?_
  refine wp_ret ?_
  refine ⟨rfl, .returning, ?_, _, results_none rfl _ _ _, rfl, rfl, rfl⟩
  rw [← hu]
theorem d3o (ge : Nat) (st wr : Int) (w w0 : World) (ps : Nat → Prop) (H0 : Hp) (Fs : List Frag) (I : Inv w0 ps H0 H (bx ge 93 [vi 0, vi 0] :: Fs) w) :
    CallsD Tryd.prog 81 #[rP ge] (.panicking [{ v := endsV st wr, recovered := false }]) w fun e u' w' => e = .returned (.tuple #[]) ∧ u' = .panicking [{ v := endsV st wr, recovered := true }] ∧ Inv w0 ps H0 H (bx ge 93 [vi st, vi wr] :: Fs) w' := by
  refine callsD_of_wpS Tryd.func81 rfl fun c₀ cs hu => ?_
  apply wpS_seq
  apply wpS_region
  simp [wpOpsS, go_sem, recoverD, hu, Exit.thenS]
  refine wpS_of_wp ?_
  apply wp_seq
  apply wp_seq
  apply wp_region
  refine wk (s := pure (.value (endsV st wr))) rfl rfl (by kernel_rfl) (a7 (a7g _) ?_)
  refine wk (s := xBin .eql 20 (.tmp 5) (.const .nilIface) (endsV st wr) .nilIface) rfl rfl (by kernel_rfl) (a7 (v := .bool false) (fun w => by kernel_rfl) ?_)
  refine wp_cond (t := false) (by kernel_rfl) ?_
  refine wp_skip ?_
  apply wp_seq
  apply wp_seq
  apply wp_region
  refine wk (s := pure (.value (endsV st wr))) rfl rfl (by kernel_rfl) (a7 (a7g _) ?_)
  refine wk (s := xV (Instr.typeAssert (endsV st wr) 20 93 true)) rfl rfl (by kernel_rfl) (a7 (v := .tuple #[.agg #[vi st, vi wr], .bool true]) (Pu.ok fun w => by kernel_rfl) ?_)
  refine wk (s := pure (.value (.tuple #[.agg #[vi st, vi wr], .bool true]))) rfl rfl (by kernel_rfl) (a7 (a7g _) ?_)
  refine wk (s := xV (Instr.extract (.tuple #[.agg #[vi st, vi wr], .bool true]) 0)) rfl rfl (by kernel_rfl) (a7 (o2 _ 0 _ rfl) ?_)
  refine wk (s := xV (Instr.extract (.tuple #[.agg #[vi st, vi wr], .bool true]) 1)) rfl rfl (by kernel_rfl) (a7 (o2 _ 1 _ rfl) ?_)
  refine wk (s := xV (Instr.alloc 93 true (.tuple #[]))) rfl rfl (by kernel_rfl) ?_
  refine u6 I Tryd.zeroValue93 (cs := [vi 0, vi 0]) rfl fun g1 w1 I1 _ => ?_
  refine wk (s := xU (Instr.storeAt 93 (rP g1) (.agg #[vi st, vi wr]))) rfl rfl (by kernel_rfl) ?_
  refine o7 I1 Tryd.sizeOf93 (vs := [vi st, vi wr]) (cs' := [vi st, vi wr]) rfl rfl (nb rfl) rfl rfl fun w2 I2 _ => ?_
  refine wk (s := pure (.value (.bool true))) rfl rfl (by kernel_rfl) (a7 (a7g _) ?_)
  apply wp_seq
  apply wp_region
  refine wk (s := pure (.value (.bool true))) rfl rfl (by kernel_rfl) (a7 (a7g _) ?_)
  refine wp_cond (t := true) (by kernel_rfl) ?_
  apply wp_seq
  apply wp_region
  refine wk (s := xV (Instr.loadAt 93 (rP g1))) rfl rfl (by kernel_rfl) (d6 (ldA (vs := [vi st, vi wr]) Tryd.isAgg93 Tryd.sizeOf93 rfl (I2.at1 (o := 0) (nb rfl) rfl)) ?_)
  refine wk (s := xU (Instr.storeAt 93 (rP ge) (.agg #[vi st, vi wr]))) rfl rfl (by kernel_rfl) ?_
  refine o7 (I2.bring 1) Tryd.sizeOf93 (vs := [vi st, vi wr]) (cs' := [vi st, vi wr]) rfl rfl (nb rfl) rfl rfl fun w3 I3 _ => ?_
  refine wp_ret ?_
  exact ⟨rfl, _, rfl, _, results_none rfl _ _ _, rfl, rfl, (I3.bring 1).drop⟩
theorem c5W {P : Program} {fn : Func} {t : Tmp} {ty : TypeId} (h : fn.results = #[.cell t ty]) {tmps : Array Value} {w : World} {p v0 : Value} (ht : tmps.getD t undef = p) (hx : xcell P ty p w fun v => v = v0) : (results fn tmps).run P w = .ok v0 w := by
  obtain ⟨v, hr, rfl⟩ := hx
  unfold cellAt at hr
  subst ht
  simpa [results, h, Result.andThen] using hr
variable {k0 : Int} {ev0 : Nat} {ns ars : List ByteArray} {g : Nat} {X : Cx}
theorem e5T {s : Sl} {m : M Unit} (hst : CR k0 ev0 ns ars 82 [rP g, vs s] H g X m uE) {σ : St} {F : Frag} (hr : RnF g X σ H F) (ho : Okst k0 ev0 ns ars σ) :
    Ct Tryd.prog 45 [rP g, vs s] H [F] (fun v H' Fo => ∃ F', v = .agg #[vi (endS (m σ)).1, vi (endS (m σ)).2.1] ∧ H' = H ∧ RnF g X (endS (m σ)).2.2 H F' ∧ Fo = [F']) noQE := by
  intro w I
  unfold Cv
  refine calls_of_wp_defers Tryd.func45 rfl ?_
  apply wp_seq
  apply wp_region
  refine wk (s := xV (Instr.alloc 93 true (.tuple #[]))) rfl rfl (by kernel_rfl) ?_
  refine u6 I Tryd.zeroValue93 (cs := [vi 0, vi 0]) rfl fun ge w1 I1 _ => ?_
  apply wp_seq
  apply wp_region
  refine wk (s := xV (Instr.makeFunc (.func 81) #[] #[rP ge])) rfl rfl (by kernel_rfl) (a7 (b0m _ _ _) ?_)
  refine d8j (d := { target := .fn (.func 81) #[rP ge], args := #[] }) rfl rfl (by kernel_rfl) ?_
  have fin : ∀ {H' : Hp} {st wr : Int} {F' : Frag} {σ' : St} {tmps : Array Value} {w' : World}, endS (m σ) = (st, wr, σ') → H' = H → tmps.getD 4 undef = rP ge → RnF g X σ' H F' → Inv w (inF [F]) H H [bx ge 93 [vi st, vi wr], F'] w' →
      ∃ v, (results Tryd.f45 tmps).run Tryd.prog w' = .ok v w' ∧ ∃ H' Fo, Inv w (inF [F]) H H' Fo w' ∧ ∃ F', v = .agg #[vi (endS (m σ)).1, vi (endS (m σ)).2.1] ∧ H' = H ∧ RnF g X (endS (m σ)).2.2 H F' ∧ Fo = [F'] := fun {H'} {st} {wr} {F'} {σ'} {tmps} {w'} e _ ht hr J => by
    rw [e]
    exact ⟨_, c5W rfl ht (a2G (vs := [vi st, vi wr]) Tryd.isAgg93 Tryd.sizeOf93 rfl (J.at1 (o := 0) (nb rfl) rfl) rfl), _, _, J.drop, F', rfl, rfl, hr, rfl⟩
  apply wp_seq
  apply wp_region
  refine wk (s := pure (.value (rP g))) rfl rfl (by kernel_rfl) (a7 (a7g _) ?_)
  refine wk (s := pure (.value (vs s))) rfl rfl (by kernel_rfl) (a7 (a7g _) ?_)
  refine wk (s := xCall (.func (.func 82) #[] #[]) [rP g, vs s]) rfl rfl (by kernel_rfl) ?_
  refine d8 (cap := []) (fun args w => Tryd.call82 args w) ?_
  refine hst.use hr ho (I1.bring 1) (fun a σ' F' w' e hr' J => ?_) fun st wr σ' F' w' e hr' J => ?_
  · apply wp_seq
    apply wp_region
    refine wk (s := xV (Instr.build 93 #[(0, vi 2)])) rfl rfl (by kernel_rfl) (a7 (v := .agg #[vi 2, vi 0]) (Pu.ok fun w => by kernel_rfl) ?_)
    refine wk (s := xU (Instr.storeAt 93 (rP ge) (.agg #[vi 2, vi 0]))) rfl rfl (by kernel_rfl) ?_
    refine o7 (J.bring 1) Tryd.sizeOf93 (vs := [vi 2, vi 0]) (cs' := [vi 2, vi 0]) rfl rfl (nb rfl) rfl rfl fun w3 I3 _ => ?_
    refine wp_ret ?_
    refine leaves_cons (f := 81) (args := #[rP ge]) (fun h => by cases h) (Tryd.call81 _ w3) ?_
    refine (d3n ge w3).mono fun e1 u' w4 q => ?_
    obtain ⟨rfl, rfl, rfl⟩ := q
    exact fin (by rw [e]; rfl) rfl (by kernel_rfl) hr' I3
  · refine leaves_cons (f := 81) (args := #[rP ge]) (fun h => by cases h) (Tryd.call81 _ w') ?_
    refine (d3o ge st wr w' _ _ _ _ (J.bring 1)).mono fun e1 u' w4 q => ?_
    obtain ⟨rfl, rfl, J4⟩ := q
    exact fin (by rw [e]; rfl) rfl (by kernel_rfl) hr' J4
end
end Go.Proofs.YtnhkdkcgdcgmdaaDoor
