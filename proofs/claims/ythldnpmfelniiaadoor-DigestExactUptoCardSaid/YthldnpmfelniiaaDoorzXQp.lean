/- Bytes as arguments, opened. -/
import Derived.Test.YthldnpmfelniiaaDoorzXQo
namespace Go.Proofs.YthldnpmfelniiaaDoor
open Go.RowKit Go.ChangeShapes
set_option maxRecDepth 100000
section
variable {Hd : Type} {enc : TypeId × Value → Hd} {W : World}
theorem d4D {b : Nat} {v : Value} {d : DataW Hd} {ps : List MemPlace} (hv : Value.okWide Tryd.prog W .any b 40 v) (h : DataW.Trod enc Tryd.prog W 0 (fun _ => true) true 40 v d ps) (hb : Rows.uptoBulk d ≤ 1048576) :
    ∃ (s : Sl) (xs : List Int), v = .slice s.a s.n s.c ∧ SlH (hpW W) 1 g8 s xs ∧ xs.length ≤ sml := by
  obtain ⟨n, h⟩ := b8T h
  rw [c7N Tryd.underlying40 hv] at h
  obtain ⟨s, xs, q, hs, _, hl, _⟩ := e0M Tryd.underlying40 (show Tryd.prog.cellsOf 5 = 1 by kernel_rfl) (by decide) g8 (fun _ _ => True) (fun n cs x h => by
    obtain ⟨z, rfl, _⟩ := DataW.trod_int Tryd.underlying5 h
    exact ⟨z, rfl, trivial⟩) h
  simp at q
  dsimp only at hl
  exact ⟨s, xs, q, hs, by simp only [sml]; omega⟩
end
end Go.Proofs.YthldnpmfelniiaaDoor
