/- The walk told by counts and depths; a well program without some of its statements; the document's check of declarations and uses is the program's. Plain. -/
import Derived.Test.YtaokfhdinhimfaaDoorySQx
import Derived.Test.YtaokfhdinhimfaaDoorySQu
namespace Go.Proofs.YtaokfhdinhimfaaDoor
open Go.RowKit
set_option maxRecDepth 100000
set_option maxHeartbeats 2000000
theorem b2Y (ds : List i7) : ∀ l : List Us, (useT ds l).2 = 0 ↔ ∀ u ∈ l, kOf ds u.g7 = asU u
  | [] => by rw [useT]; exact ⟨(fun _ u h => by cases h), fun _ => rfl⟩
  | u :: l => by
    rw [useT]
    by_cases h : kOf ds u.g7 = asU u
    · rw [if_pos h, b2Y ds l]
      constructor
      · intro g v hv
        rcases List.mem_cons.1 hv with e | hv
        · rw [e]; exact h
        · exact g v hv
      · exact fun g v hv => g v (List.mem_cons_of_mem _ hv)
    · rw [if_neg h]
      constructor
      · intro e
        split at e
        · exact (by decide : (63 : Int) ≠ 0) e |>.elim
        · exact (by decide : (64 : Int) ≠ 0) e |>.elim
      · exact fun g => (h (g u List.mem_cons_self)).elim
theorem b2Z (q : PP) : (wellS q).2 = 0 ↔ toldS q.nodes = 0 ∧ DeclOk q.decls ∧ ∀ u ∈ uTs q.body, kOf q.decls u.g7 = asU u := by
  unfold wellS
  by_cases h0 : toldS q.nodes = 0
  · rw [if_pos h0]
    cases hd : declT [] q.decls with
    | none =>
      dsimp only
      rw [b2Y]
      exact ⟨fun h => ⟨h0, (a9E _).1 hd, h⟩, fun h => h.2.2⟩
    | some r =>
      dsimp only
      refine ⟨fun e => (b7p hd e).elim, fun h => ?_⟩
      rw [(a9E _).2 h.2.1] at hd; cases hd
  · rw [if_neg h0]
    exact ⟨fun e => (h0 e).elim, fun e => (h0 e.1).elim⟩
end Go.Proofs.YtaokfhdinhimfaaDoor
