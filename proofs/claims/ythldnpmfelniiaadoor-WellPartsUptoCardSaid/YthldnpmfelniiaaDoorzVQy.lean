/- The walk told by counts and depths; a well program without some of its statements; the document's check of declarations and uses is the program's. Plain. -/
import Derived.Test.YthldnpmfelniiaaDoorzVQx
namespace Go.Proofs.YthldnpmfelniiaaDoor
open Go.RowKit
set_option maxRecDepth 100000
set_option maxHeartbeats 2000000
mutual
def dpT : PT → Int → Prop
  | .mk _ cs, d => d ≤ 64 ∧ dpTs cs (d + 1)
def dpTs : List PT → Int → Prop
  | [], _ => True
  | t :: ts, d => dpT t d ∧ dpTs ts d
end
theorem b5l : ∀ (a b : List PT) (d : Int), dpTs (a ++ b) d ↔ dpTs a d ∧ dpTs b d
  | [], b, d => by rw [List.nil_append, dpTs]; exact ⟨fun h => ⟨trivial, h⟩, fun h => h.2⟩
  | t :: a, b, d => by rw [List.cons_append, dpTs, dpTs, b5l a b, and_assoc]
theorem b8C {s : W} {d : Int} (hb : s.fbad = 0) (h2 : ¬ s.fn = 4096) (h3 : ¬ 64 < d) : wStep s d = ⟨s.fn + 1, if d > s.fdepth then d else s.fdepth, 0⟩ := by
  unfold wStep; rw [if_pos hb, if_neg h2, if_neg h3]
mutual
theorem c0R : ∀ (t : PT) (d : Int) (s : W), 0 ≤ s.fn → s.fn ≤ 4096 → s.fbad = 0 → ((wT t d s).fbad = 0 ↔ (s.fn + cT t ≤ 4096 ∧ dpT t d))
  | .mk l cs, d, s, h0, h1, hb => by
    rw [wT, cT, dpT]
    by_cases h2 : s.fn = 4096
    · have : (wStep s d).fbad ≠ 0 := by unfold wStep; rw [if_pos hb, if_pos h2]; exact (by decide : (33 : Int) ≠ 0)
      rw [a1e _ _ _ this]
      exact ⟨fun e => (this e).elim, fun e => by omega⟩
    · by_cases h3 : 64 < d
      · have : (wStep s d).fbad ≠ 0 := by unfold wStep; rw [if_pos hb, if_neg h2, if_pos h3]; exact (by decide : (32 : Int) ≠ 0)
        rw [a1e _ _ _ this]
        exact ⟨fun e => (this e).elim, fun e => by omega⟩
      · rw [b8C hb h2 h3, b2h cs (d + 1) _ (by dsimp only; omega) (by dsimp only; omega) rfl]
        dsimp only
        constructor
        · rintro ⟨a, b⟩; exact ⟨by omega, by omega, b⟩
        · rintro ⟨a, b, c⟩; exact ⟨by omega, c⟩
theorem b2h : ∀ (ts : List PT) (d : Int) (s : W), 0 ≤ s.fn → s.fn ≤ 4096 → s.fbad = 0 → ((wTs ts d s).fbad = 0 ↔ (s.fn + cTs ts ≤ 4096 ∧ dpTs ts d))
  | [], d, s, h0, h1, hb => by rw [wTs, cTs, dpTs]; exact ⟨fun _ => ⟨by omega, trivial⟩, fun _ => hb⟩
  | t :: ts, d, s, h0, h1, hb => by
    rw [wTs, cTs, dpTs]
    by_cases h2 : (wT t d s).fbad = 0
    · have hi := (c0R t d s h0 h1 hb).1 h2
      have hc := c0c t d s h2
      rw [b2h ts d _ (by omega) (by omega) h2, hc]
      constructor
      · rintro ⟨a, b⟩; exact ⟨by omega, hi.2, b⟩
      · rintro ⟨a, b, c⟩; exact ⟨by omega, c⟩
    · rw [a1e _ _ _ h2]
      have := mt (c0R t d s h0 h1 hb).2 h2
      exact ⟨fun e => (h2 e).elim, fun e => (this ⟨by omega, e.2.1⟩).elim⟩
end
theorem c3M (ts : List PT) : toldS ts = 0 ↔ (cTs ts ≤ 4096 ∧ dpTs ts 1 ∧ formTs ts = true ∧ namesTs ts = true) := by
  have h := b2h ts 1 w0S (Int.le_refl _) (by decide) rfl
  have e0 : w0S.fn = 0 := rfl
  rw [e0] at h
  unfold toldS
  constructor
  · intro e
    split at e
    · rename_i hb
      have := h.1 hb
      split at e
      · rename_i hf
        split at e
        · rename_i hn; exact ⟨by omega, this.2, hf, hn⟩
        · cases e
      · cases e
    · rename_i hb; exact (hb e).elim
  · rintro ⟨a, b, c, d⟩
    rw [if_pos (h.2 ⟨by omega, b⟩), if_pos c, if_pos d]
theorem b5m (ds : List f7) : ∀ l : List Us, (useT ds l).2 = 0 ↔ ∀ u ∈ l, kOf ds u.c6 = asU u
  | [] => by rw [useT]; exact ⟨(fun _ u h => by cases h), fun _ => rfl⟩
  | u :: l => by
    rw [useT]
    by_cases h : kOf ds u.c6 = asU u
    · rw [if_pos h, b5m ds l]
      constructor
      · intro g v hv
        rcases List.mem_cons.1 hv with e | hv
        · rw [e]; exact h
        · exact g v hv
      · exact fun g v hv => g v (List.mem_cons_of_mem _ hv)
    · rw [if_neg h]
      constructor
      · intro e
        split at e
        · exact (by decide : (63 : Int) ≠ 0) e |>.elim
        · exact (by decide : (64 : Int) ≠ 0) e |>.elim
      · exact fun g => (h (g u List.mem_cons_self)).elim
theorem c3N (q : PP) : (wellS q).2 = 0 ↔ toldS q.nodes = 0 ∧ DeclOk q.decls ∧ ∀ u ∈ uTs q.body, kOf q.decls u.c6 = asU u := by
  unfold wellS
  by_cases h0 : toldS q.nodes = 0
  · rw [if_pos h0]
    cases hd : declT [] q.decls with
    | none =>
      dsimp only
      rw [b5m]
      exact ⟨fun h => ⟨h0, (b5k _).1 hd, h⟩, fun h => h.2.2⟩
    | some r =>
      dsimp only
      refine ⟨fun e => (c3L hd e).elim, fun h => ?_⟩
      rw [(b5k _).2 h.2.1] at hd; cases hd
  · rw [if_neg h0]
    exact ⟨fun e => (h0 e).elim, fun e => (h0 e.1).elim⟩
theorem c0S {ds : List f7} {a b c : List PT} (h : (wellS ⟨ds, a ++ (b ++ c)⟩).2 = 0) : (wellS ⟨ds, b⟩).2 = 0 := by
  rw [c3N] at h ⊢
  obtain ⟨h1, h2, h3⟩ := h
  refine ⟨?_, h2, fun u hu => h3 u ?_⟩
  · rw [c3M] at h1 ⊢
    unfold PP.nodes at h1 ⊢
    simp only [b1V, b5l, b0I, a8M, Bool.and_eq_true] at h1 ⊢
    exact ⟨by omega, ⟨h1.2.1.1, h1.2.1.2.2.1⟩, ⟨h1.2.2.1.1, h1.2.2.1.2.2.1⟩, ⟨h1.2.2.2.1, h1.2.2.2.2.2.1⟩⟩
  · show u ∈ uTs (a ++ (b ++ c))
    rw [a3Y, a3Y]
    exact List.mem_append_right _ (List.mem_append_left _ hu)
theorem d6G (l : List f7) : nk l 1 + nk l 2 = l.length := by
  induction l with
  | nil => rfl
  | cons d l ih =>
    rw [show d :: l = [d] ++ l from rfl, a3p, a3p, a4Q, a4Q, List.length_append]
    rcases a3f d with e | e
    · rw [e, if_pos rfl, if_neg (by decide)]; simp only [List.length_cons, List.length_nil]; omega
    · rw [e, if_pos rfl, if_neg (by decide)]; simp only [List.length_cons, List.length_nil]; omega
end Go.Proofs.YthldnpmfelniiaaDoor
