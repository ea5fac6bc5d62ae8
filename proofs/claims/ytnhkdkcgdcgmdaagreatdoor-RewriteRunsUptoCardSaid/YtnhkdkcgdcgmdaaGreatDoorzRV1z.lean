/- What the rows of the trees share: the tables that the rows list hold what the walks ask; a world for the witness. -/
import Derived.Test.YtnhkdkcgdcgmdaaGreatDoorCards
import Derived.Test.YtnhkdkcgdcgmdaaGreatDoorTie
import Derived.ProofKit
import Derived.OpenShut
import Derived.ShutString
import Derived.Deep.DeepHandedRow
import Derived.Lib.LaidU8T
import Derived.Lay
import Derived.ChangeMaps5
import Derived.Test.YtnhkdkcgdcgmdaaGreatDoorzRQ3
import Derived.Test.YtnhkdkcgdcgmdaaGreatDoorzRO
import Derived.Test.YtnhkdkcgdcgmdaaGreatDoorProg
import Derived.KernelRfl
import Derived.Test.YtnhkdkcgdcgmdaaGreatDoorzRK0
import Derived.Test.YtnhkdkcgdcgmdaaGreatDoorzRGz
import Derived.Test.YtnhkdkcgdcgmdaaGreatDoorzRV1
namespace Go.Proofs.YtnhkdkcgdcgmdaaGreatDoor
open Go.ChangeShapes Go.WideShapes Go.ChangeAt Go.RowKit Go.Shelf
theorem own : ownKnob Tryz.prog.godebug = none := by kernel_rfl
theorem laidOut : laidOutB Tryz.prog = true := by kernel_rfl
abbrev listed : List (String × DataW Unit) := [("unicode/utf8.acceptRanges", Rows.laid_unicode_utf8_acceptRanges), ("unicode/utf8.first", Rows.laid_unicode_utf8_first)]
theorem u8x : U8Extra Tryz.prog Tryz.c2o := ⟨by kernel_rfl, by kernel_rfl, by kernel_rfl, by kernel_rfl, by kernel_rfl, by kernel_rfl, by kernel_rfl⟩
theorem firstEq : Rows.laid_unicode_utf8_first = Lib.firstData := by kernel_rfl
theorem acceptEq : (Rows.laid_unicode_utf8_acceptRanges : DataW Unit) = Lib.acceptData := by kernel_rfl
theorem d1R {W : World} (h : laidMetH Tryz.prog listed W) : Lib.Utf8Tabs 0 1 W := by
  rw [MakeChecks.laidMetH_plain _ _ _ (by kernel_rfl)] at h
  exact utf8Tabs_of_readsT (U8Types.of196 Tryz.d5W) u8x (firstEq ▸ Lib.laidMet.reads h (.tail _ (.head _))) (acceptEq ▸ Lib.laidMet.reads h (.head _))
theorem b5P {W w : World} (s : Sub (hpW W) w) {a : Addr} {v : Value} (h : W.cell? a = some v) : w.cell? a = some v := by
  have hb : ∀ o, W.heap[a.block]? = some o → w.heap[a.block]? = some o := fun o h => s _ o h
  unfold World.cell? at h ⊢
  cases hq : W.heap[a.block]? with
  | none => rw [hq] at h; cases h
  | some o => rw [hq] at h; rw [hb o hq]; exact h
theorem e6C {W : World} (h : Lib.Utf8Tabs 0 1 W) : TabsH (hpW W) := fun w s =>
  ⟨fun c hc => b5P s (h.1 c hc), fun i hi => ⟨b5P s (h.2 i hi).1, b5P s (h.2 i hi).2⟩⟩
noncomputable def wit (os : Os) : World := World.laidAll Tryz.prog os listed
theorem f2V (os : Os) (args : Array Value) : laidMetH Tryz.prog listed ((wit os).forCall (fun _ _ => 0) ⟨#[], args, []⟩).memory := by
  rw [MakeChecks.laidMetH_plain _ _ _ (by kernel_rfl)]
  exact laidMet_laidAll _ (by kernel_rfl) (by kernel_rfl)
theorem f2W {H : Type} {enc : TypeId × Value → H} {f : FuncId} {fn : Func} {s : OpenSpec} {conds : List PathCond} (os : Os) (args : Array Value)
    (hsh : ((wit os).forCall (fun _ _ => 0) ⟨#[], args, []⟩).Shaped Tryz.prog)
    (hok : Input.okWideB Tryz.checked.prog ((wit os).forCall (fun _ _ => 0) ⟨#[], args, []⟩) f ⟨#[], args, []⟩ = true)
    (hrow : s.preRow enc Tryz.checked.prog fn conds false listed ((wit os).forCall (fun _ _ => 0) ⟨#[], args, []⟩).memory args) :
    ∃ (w : World) (tape : Tape) (i : Input), w.os = os ∧ (w.forCall tape i).Shaped Tryz.checked.prog ∧ i.vars = [] ∧ Input.okWide Tryz.checked.prog (w.forCall tape i) .any w.heap.size f i ∧
      s.preRow enc Tryz.checked.prog fn conds false listed (w.forCall tape i).memory i.args ∧ ({} : Assume).holds Tryz.checked.prog (lone (Frame.enter Tryz.checked.prog f i.args .normal) [] (w.forCall tape i)) :=
  ⟨wit os, fun _ _ => 0, ⟨#[], args, []⟩, World.laidAll_os _ _ _, hsh, (Input.okWide_of_okWideB (base := 0) hok).1, (Input.okWide_of_okWideB hok).2, hrow, by
    simp only [Assume.holds]
    exact ⟨by simp, by simp, fun _ => Modest.zero, by simp, by simp⟩⟩
end Go.Proofs.YtnhkdkcgdcgmdaaGreatDoor
namespace Go.Proofs.YtnhkdkcgdcgmdaaGreatDoor
open Go.RowKit
set_option maxRecDepth 100000
variable {w : World} {R : RT} {E : Pan}
def F41 (x0 : Value) (w : World) (R : RT) (E : Pan) : Prop :=
 oP E (xV (Instr.box 59 x0)) w fun r5 w_2 =>
 oP E (lA 59 r5) w_2 fun Y5 w_4 =>
 oP E (xV (Instr.build 143 #[(0, Y5)])) w_4 fun a3S w_6 =>
 oP E (xV (Instr.makeInterface 143 a3S)) w_6 fun a6A w_8 =>
 oP E (xV (Instr.buildSlice 137 1 #[(0, a6A)])) w_8 fun a9i q7 =>
 oP E (xCall (fC 65) [a9i]) q7 fun U6 q9 =>
 oP E (xNil U6) q9 fun b7v p9 =>
 oP E (fA 101 b7v 2) p9 fun d7e s6 =>
 oP E (lA 27 d7e) s6 fun b3u u5 =>
 R b3u u5
noncomputable def c41 : Code := Tryz.f41.body.getD .skip
def h41 : Hint := (sQ (sQ .none))
theorem g2t (x0 : Value) (w : World) (R : RT) (E : Pan) : F41 x0 w R E = callX Tryz.prog [.tmp 2] c41 h41 [x0] w R E := by kernel_rfl
theorem g2u {x0 : Value} (h : F41 x0 w R E) : Cv Tryz.prog 41 #[x0] w R E := by
 refine i6 (args := [x0]) (c := c41) (h := h41) (rs := [.tmp 2]) Tryz.func41 (by kernel_rfl) (by kernel_rfl) (nB (by kernel_rfl)) (by kernel_rfl) (by kernel_rfl) (by kernel_rfl) ?_
 rw [← g2t]
 exact h
end Go.Proofs.YtnhkdkcgdcgmdaaGreatDoor
namespace Go.Proofs.YtnhkdkcgdcgmdaaGreatDoor
open Go.RowKit
set_option maxRecDepth 100000
set_option maxHeartbeats 2000000
variable {w0 w : World} {ps0 : Nat → Prop} {H0 H : Hp} {R : RT} {E : Pan}
def a5n (x0 : b9) (H : Hp) (K : Int → Hp → Prop) : Prop :=
 ∀ (s_7 : Sl) (a1Z : Hp), Hle H a1Z → SlH a1Z 1 v6 s_7 [(d9.O2 (P1.mk x0))] → s_7.n ≤ s_7.c →
 a1R s_7 a1Z (fun (b2H : l9) (c2Q : Hp) =>
 K b2H.fe c2Q)
theorem b8U (x0 : b9) {K : Int → Hp → Prop} (I : Inv w0 ps0 H0 H [] w) (hR : ∀ (r0 : Int) (H' : Hp) (w' : World) (_ : Inv w0 ps0 H0 H' [] w') (_ : K r0 H'), R (vi r0) w') (h : a5n x0 H K) : F41 (Value.agg (d6 x0).toArray) w R E := by
 unfold a5n at h
 unfold F41
 refine L9 I (cs := (d6 x0)) rfl fun g_2 w_3 I_4 k_5 => ?_
 refine d7 (ldA Tryz.isAgg59 Tryz.sizeOf59 rfl (I_4.at1 (o := 0) (vs := (d6 x0)) (nb rfl) rfl)) ?_
 refine a7 (b9k _ _ _ _ _ _ _ _) ?_
 refine a7 (b6p (P1.mk x0)) ?_
 refine a1s (e := 150) (c := v6) (xs := [(d9.O2 (P1.mk x0))]) I_4 (b0K _) rfl rfl Q2 R5 (nb rfl) fun s_7 F_8 w_9 b3Q a0V b0j => ?_
 obtain ⟨a1Z, O8, c2E, a9x, b7R⟩ := Inv.freezeC a0V b3Q (by decide)
 replace h := h s_7 a1Z c2E a9x b7R
 refine d8 (cap := []) (fun args w => Tryz.call65 args w) ?_
 refine o0 (Fi := []) (Fr := [bx g_2 59 (d6 x0)]) O8 (h) (fun h8W c2Q h8X Y6 b5K d8a e5B e5O => ?_) (fun _ _ _ _ _ q => q.elim)
 obtain ⟨b2H, g2j, rfl, rfl, h⟩ := e5O
 refine a7 (A0 _) ?_
 refine a7 a5r ?_
 refine d7 (ld1 Tryz.isAgg27 (b5K.at1 (o := 2) (vs := [(vi b2H.fe)]) (nb rfl) rfl)) ?_
 exact hR b2H.fe c2Q _ b5K.drop.drop h
theorem c0i (x0 : b9) {H : Hp} {K : Int → Hp → Prop} (h : a5n x0 H K) : a7I x0 H K := by
 intro w I
 refine g2u ?_
 refine b8U x0 I (fun r0 H' w' I' hk => ⟨H', _, I', r0, rfl, rfl, hk⟩) h
end Go.Proofs.YtnhkdkcgdcgmdaaGreatDoor
