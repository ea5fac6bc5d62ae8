/- Folding of statements: the program's, the document's; the law RewriteFolds. Contracts off the printed formulas. -/
import Derived.Test.YtnhkdkcgdcgmdaaGreatDoorzUQl
namespace Go.Proofs.YtnhkdkcgdcgmdaaGreatDoor
open Go.RowKit
set_option maxRecDepth 100000
set_option maxHeartbeats 2000000
theorem b9X (ts : List PT) (i : Nat) : cTs (ts.take i) ≤ cTs ts := by
  have := a9U (ts.take i) (ts.drop i)
  rw [List.take_append_drop] at this; omega
theorem b1P {ts : List PT} {t : PT} (h : t ∈ ts) : cT t ≤ cTs ts := by
  induction ts with
  | nil => cases h
  | cons u ts ih =>
    rw [cTs]
    rcases List.mem_cons.1 h with e | h
    · rw [e]; omega
    · have := ih h; omega
abbrev a4f : Nat := 4096
section
variable {H : Hp}
theorem SH.node {k : Int} {nm : ByteArray} {s1 s2 s3 s4 : Sl} {xs : List a8} {ts : List PT} {ys : List b7} {us : List PT} {zs bs : List d6} {vs ws : List PT}
    (h1 : SlH H 4 b8 s1 xs) (b1 : xs.length ≤ big) (r1 : u4 (EH H) xs ts) (h2 : SlH H 4 d8 s2 ys) (b2 : ys.length ≤ big) (r2 : u4 (CH H) ys us) (h3 : SlH H 6 d9 s3 zs) (b3 : zs.length ≤ big) (r3 : u4 (SH H) zs vs) (h4 : SlH H 6 d9 s4 bs) (b4 : bs.length ≤ big) (r4 : u4 (SH H) bs ws) :
    SH H ⟨k, nm, s1, s2, s3, s4⟩ (sN k nm ts us vs ws) := SH.mk (s := ⟨k, nm, s1, s2, s3, s4⟩) h1 b1 r1 h2 b2 r2 h3 b3 r3.1 r3.2 h4 b4 r4.1 r4.2
end
section
variable {H : Hp}
theorem g6Z {q : PP} (h1 : cTs q.nodes ≤ 4096) (h2 : dpTs q.nodes 1) : fewP q = true := by
  unfold fewP
  refine decide_eq_true ((c8a q.nodes 1 w0S (Int.le_refl _) (by decide) rfl).2 ⟨?_, h2⟩)
  have e0 : w0S.fn = 0 := rfl
  omega
end
end Go.Proofs.YtnhkdkcgdcgmdaaGreatDoor
