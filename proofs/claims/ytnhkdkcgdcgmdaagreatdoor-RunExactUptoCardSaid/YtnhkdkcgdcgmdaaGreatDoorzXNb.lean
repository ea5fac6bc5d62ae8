/- A run's frame: the deferred function takes the panic. Off the code, by the kit's wp. -/
import Derived.Tactics2
import Derived.Defers
import Derived.Recover
import Derived.Test.YtnhkdkcgdcgmdaaGreatDoorzXNa
namespace Go.Proofs.YtnhkdkcgdcgmdaaGreatDoor
open Go.RowKit
set_option maxRecDepth 100000
set_option maxHeartbeats 4000000
section
variable {P : Program} {ops : Array Oper} {i : Nat} {rest : List Nat} {a : Act} {w : World} {o : Oper} {s : Sem Next}
theorem wk {Q : Exit → Act → World → Prop} (ho : ops[i]? = some o) (hg : o.guard = none) (hs : execOp a.eval o = s)
  (h : opK P (fun c w' => Q (.panic c) a w') s w fun v w' => wpOps P ops Q rest (a.put o.dst v) w') : wpOps P ops Q (i :: rest) a w := by
 unfold wpOps
 rw [ho]
 have : Region.wanted o (yielded ops a.tmps) = true := by unfold Region.wanted; rw [hg]
 simp only [this, if_true]
 exact .inl (b9n hs h (fun _ _ h => h) fun _ _ h => h)
theorem c7c {Q : Exit → Act → World → Prop} {d : Deferred} (ho : ops[i]? = some o) (hg : o.guard = none) (hr : (execOp a.eval o).run P w = .ok (.defer d) w)
  (h : wpOps P ops Q rest (({ a with defers := d :: a.defers } : Act).put o.dst undef) w) : wpOps P ops Q (i :: rest) a w := by
 unfold wpOps
 rw [ho]
 have : Region.wanted o (yielded ops a.tmps) = true := by unfold Region.wanted; rw [hg]
 simp only [this, if_true]
 refine .inl ?_
 unfold Oper.wp
 rw [hr]
 exact h
theorem a9T (v : Value) : Pu P (pure (.value v)) v := fun w => rfl
end
section
variable {H : Hp}
theorem c5I (ge : Nat) (w : World) : CallsD Tryz.prog 59 #[rP ge] .returning w fun e u' w' => e = .returned (.tuple #[]) ∧ u' = .returning ∧ w' = w := by
 refine callsD_of_wpS Tryz.func59 rfl fun c₀ cs hu => ?_
 apply wpS_seq
 apply wpS_region
 simp [wpOpsS, go_sem, recoverD, hu, Exit.thenS]
 refine wpS_of_wp ?_
 apply wp_seq
 apply wp_seq
 apply wp_region
 refine wk (s := pure (.value .nilIface)) rfl rfl (by kernel_rfl) (a8 (a9T _) ?_)
 refine wk (s := xBin .eql 20 (.tmp 5) (.const .nilIface) .nilIface .nilIface) rfl rfl (by kernel_rfl) (a8 (v := .bool true) (fun w => by kernel_rfl) ?_)
 refine wp_cond (t := true) (by kernel_rfl) ?_
 refine wp_ret ?_
 refine ⟨rfl, .returning, ?_, _, results_none rfl _ _ _, rfl, rfl, rfl⟩
 rw [← hu]
theorem c5J (ge : Nat) (st wr : Int) (w w0 : World) (ps : Nat → Prop) (H0 : Hp) (Fs : List Frag) (I : Inv w0 ps H0 H (bx ge 83 [vi 0, vi 0] :: Fs) w) :
  CallsD Tryz.prog 59 #[rP ge] (.panicking [{ v := endsV st wr, recovered := false }]) w fun e u' w' => e = .returned (.tuple #[]) ∧ u' = .panicking [{ v := endsV st wr, recovered := true }] ∧ Inv w0 ps H0 H (bx ge 83 [vi st, vi wr] :: Fs) w' := by
 refine callsD_of_wpS Tryz.func59 rfl fun c₀ cs hu => ?_
 apply wpS_seq
 apply wpS_region
 simp [wpOpsS, go_sem, recoverD, hu, Exit.thenS]
 refine wpS_of_wp ?_
 apply wp_seq
 apply wp_seq
 apply wp_region
 refine wk (s := pure (.value (endsV st wr))) rfl rfl (by kernel_rfl) (a8 (a9T _) ?_)
 refine wk (s := xBin .eql 20 (.tmp 5) (.const .nilIface) (endsV st wr) .nilIface) rfl rfl (by kernel_rfl) (a8 (v := .bool false) (fun w => by kernel_rfl) ?_)
 refine wp_cond (t := false) (by kernel_rfl) ?_
 refine wp_skip ?_
 apply wp_seq
 apply wp_seq
 apply wp_region
 refine wk (s := pure (.value (endsV st wr))) rfl rfl (by kernel_rfl) (a8 (a9T _) ?_)
 refine wk (s := xV (Instr.typeAssert (endsV st wr) 20 83 true)) rfl rfl (by kernel_rfl) (a8 (v := .tuple #[.agg #[vi st, vi wr], .bool true]) (Pu.ok fun w => by kernel_rfl) ?_)
 refine wk (s := pure (.value (.tuple #[.agg #[vi st, vi wr], .bool true]))) rfl rfl (by kernel_rfl) (a8 (a9T _) ?_)
 refine wk (s := xV (Instr.extract (.tuple #[.agg #[vi st, vi wr], .bool true]) 0)) rfl rfl (by kernel_rfl) (a8 (m8 _ 0 _ rfl) ?_)
 refine wk (s := xV (Instr.extract (.tuple #[.agg #[vi st, vi wr], .bool true]) 1)) rfl rfl (by kernel_rfl) (a8 (m8 _ 1 _ rfl) ?_)
 refine wk (s := xV (Instr.alloc 83 true (.tuple #[]))) rfl rfl (by kernel_rfl) ?_
 refine B9 I Tryz.zeroValue83 (cs := [vi 0, vi 0]) rfl fun g1 w1 I1 _ => ?_
 refine wk (s := xU (Instr.storeAt 83 (rP g1) (.agg #[vi st, vi wr]))) rfl rfl (by kernel_rfl) ?_
 refine o4 I1 Tryz.sizeOf83 (vs := [vi st, vi wr]) (cs' := [vi st, vi wr]) rfl rfl (nb rfl) rfl rfl fun w2 I2 _ => ?_
 refine wk (s := pure (.value (.bool true))) rfl rfl (by kernel_rfl) (a8 (a9T _) ?_)
 apply wp_seq
 apply wp_region
 refine wk (s := pure (.value (.bool true))) rfl rfl (by kernel_rfl) (a8 (a9T _) ?_)
 refine wp_cond (t := true) (by kernel_rfl) ?_
 apply wp_seq
 apply wp_region
 refine wk (s := xV (Instr.loadAt 83 (rP g1))) rfl rfl (by kernel_rfl) (b6 (ldA (vs := [vi st, vi wr]) Tryz.isAgg83 Tryz.sizeOf83 rfl (I2.at1 (o := 0) (nb rfl) rfl)) ?_)
 refine wk (s := xU (Instr.storeAt 83 (rP ge) (.agg #[vi st, vi wr]))) rfl rfl (by kernel_rfl) ?_
 refine o4 (I2.bring 1) Tryz.sizeOf83 (vs := [vi st, vi wr]) (cs' := [vi st, vi wr]) rfl rfl (nb rfl) rfl rfl fun w3 I3 _ => ?_
 refine wp_ret ?_
 exact ⟨rfl, _, rfl, _, results_none rfl _ _ _, rfl, rfl, (I3.bring 1).drop⟩
theorem c1d {P : Program} {fn : Func} {t : Tmp} {ty : TypeId} (h : fn.results = #[.cell t ty]) {tmps : Array Value} {w : World} {p v0 : Value} (ht : tmps.getD t undef = p) (hx : xcell P ty p w fun v => v = v0) : (results fn tmps).run P w = .ok v0 w := by
 obtain ⟨v, hr, rfl⟩ := hx
 unfold cellAt at hr
 subst ht
 simpa [results, h, Result.andThen] using hr
variable {k0 : Int} {ev0 : Nat} {ns ars : List ByteArray} {g : Nat} {X : Cx}
theorem d0t {s : Sl} {m : M Unit} (hst : CR k0 ev0 ns ars 60 [rP g, vs s] H g X m uE) {σ : St} {F : Frag} (hr : RnF g X σ H F) (ho : Okst k0 ev0 ns ars σ) :
  Ct Tryz.prog 34 [rP g, vs s] H [F] (fun v H' Fo => ∃ F', v = .agg #[vi (endS (m σ)).1, vi (endS (m σ)).2.1] ∧ H' = H ∧ RnF g X (endS (m σ)).2.2 H F' ∧ Fo = [F']) noQE := by
 intro w I
 unfold Cv
 refine calls_of_wp_defers Tryz.func34 rfl ?_
 apply wp_seq
 apply wp_region
 refine wk (s := xV (Instr.alloc 83 true (.tuple #[]))) rfl rfl (by kernel_rfl) ?_
 refine B9 I Tryz.zeroValue83 (cs := [vi 0, vi 0]) rfl fun ge w1 I1 _ => ?_
 apply wp_seq
 apply wp_region
 refine wk (s := xV (Instr.makeFunc (.func 59) #[] #[rP ge])) rfl rfl (by kernel_rfl) (a8 (b2k _ _ _) ?_)
 refine c7c (d := { target := .fn (.func 59) #[rP ge], args := #[] }) rfl rfl (by kernel_rfl) ?_
 have fin : ∀ {H' : Hp} {st wr : Int} {F' : Frag} {σ' : St} {tmps : Array Value} {w' : World}, endS (m σ) = (st, wr, σ') → H' = H → tmps.getD 4 undef = rP ge → RnF g X σ' H F' → Inv w (inF [F]) H H [bx ge 83 [vi st, vi wr], F'] w' →
   ∃ v, (results Tryz.f34 tmps).run Tryz.prog w' = .ok v w' ∧ ∃ H' Fo, Inv w (inF [F]) H H' Fo w' ∧ ∃ F', v = .agg #[vi (endS (m σ)).1, vi (endS (m σ)).2.1] ∧ H' = H ∧ RnF g X (endS (m σ)).2.2 H F' ∧ Fo = [F'] := fun {H'} {st} {wr} {F'} {σ'} {tmps} {w'} e _ ht hr J => by
  rw [e]
  exact ⟨_, c1d rfl ht (a6X (vs := [vi st, vi wr]) Tryz.isAgg83 Tryz.sizeOf83 rfl (J.at1 (o := 0) (nb rfl) rfl) rfl), _, _, J.drop, F', rfl, rfl, hr, rfl⟩
 apply wp_seq
 apply wp_region
 refine wk (s := pure (.value (rP g))) rfl rfl (by kernel_rfl) (a8 (a9T _) ?_)
 refine wk (s := pure (.value (vs s))) rfl rfl (by kernel_rfl) (a8 (a9T _) ?_)
 refine wk (s := xCall (.func (.func 60) #[] #[]) [rP g, vs s]) rfl rfl (by kernel_rfl) ?_
 refine s6 (cap := []) (fun args w => Tryz.call60 args w) ?_
 refine hst.use hr ho (I1.bring 1) (fun a σ' F' w' e hr' J => ?_) fun st wr σ' F' w' e hr' J => ?_
 ·apply wp_seq
  apply wp_region
  refine wk (s := xV (Instr.build 83 #[(0, vi 2)])) rfl rfl (by kernel_rfl) (a8 (v := .agg #[vi 2, vi 0]) (Pu.ok fun w => by kernel_rfl) ?_)
  refine wk (s := xU (Instr.storeAt 83 (rP ge) (.agg #[vi 2, vi 0]))) rfl rfl (by kernel_rfl) ?_
  refine o4 (J.bring 1) Tryz.sizeOf83 (vs := [vi 2, vi 0]) (cs' := [vi 2, vi 0]) rfl rfl (nb rfl) rfl rfl fun w3 I3 _ => ?_
  refine wp_ret ?_
  refine leaves_cons (f := 59) (args := #[rP ge]) (fun h => by cases h) (Tryz.call59 _ w3) ?_
  refine (c5I ge w3).mono fun e1 u' w4 q => ?_
  obtain ⟨rfl, rfl, rfl⟩ := q
  exact fin (by rw [e]; rfl) rfl (by kernel_rfl) hr' I3
 ·refine leaves_cons (f := 59) (args := #[rP ge]) (fun h => by cases h) (Tryz.call59 _ w') ?_
  refine (c5J ge st wr w' _ _ _ _ (J.bring 1)).mono fun e1 u' w4 q => ?_
  obtain ⟨rfl, rfl, J4⟩ := q
  exact fin (by rw [e]; rfl) rfl (by kernel_rfl) hr' J4
end
end Go.Proofs.YtnhkdkcgdcgmdaaGreatDoor
