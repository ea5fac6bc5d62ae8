/- Arguments opened: what the reading of slices and structures says of the memory's blocks. -/
import Derived.Test.YtaokfhdinhimfaaDoorRows
import Derived.Deep.Slices
import Derived.Carry
import Derived.ReadAgain
import Derived.ProofKit
import Derived.OpenShut
import Derived.JoinedCond
import Derived.Test.YtaokfhdinhimfaaDoorySS3
namespace Go.Proofs.YtaokfhdinhimfaaDoor
open Go.RowKit Go.ChangeShapes
section
variable {Hd : Type}
variable {enc : TypeId × Value → Hd} {P : Program} {W : World}
abbrev hpW (W : World) : Hp := fun i => W.heap[i]?
theorem b6M {f : FuncId} {args : Array Value} {W : World} {Q : Value → Hp → List Frag → Prop} (h : Ct P f args.toList (hpW W) [] Q noQE) : Calls P f args W fun e W' => ∃ v H' Fo, e = .returned v ∧ Below W.heap.size W W' ∧ Q v H' Fo := by
  have hs := h W (by
    have := Inv.start W
    refine ⟨this.sub, this.own, this.priv, this.nodup, fun p hp => (by cases hp), fun i hi _ => rfl, this.mono, rfl, rfl, rfl, Hle.refl _, fun i _ _ => rfl⟩)
  refine Calls.mono hs fun e W' r => ?_
  cases e with
  | returned v =>
    obtain ⟨H', Fo, I, q⟩ := r
    exact ⟨v, H', Fo, rfl, ⟨I.os, I.tape, I.output, I.mono, fun k hk => I.frame k hk (fun ⟨p, hp, _⟩ => by cases hp)⟩, q⟩
  | panicked c =>
    obtain ⟨H', Fo, I, q⟩ := r
    cases q
  | outgrown => cases r
end
end Go.Proofs.YtaokfhdinhimfaaDoor
