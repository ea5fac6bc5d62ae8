/- Well programs: what declarations declare, which uses fit; the program's check. The law WellTurned. Contracts off the printed formulas; 'declared', which keeps maps, off its reading. -/
import Derived.Test.YtnhkdkcgdcgmdaaDoorzZQl
import Derived.Test.YtnhkdkcgdcgmdaaDoorzZV1v
namespace Go.Proofs.YtnhkdkcgdcgmdaaDoor
open Go.RowKit
set_option maxRecDepth 100000
set_option maxHeartbeats 2000000
def kindD (d : m3) : Int := if 0 < d.E0 then 2 else 1
theorem b0O (d : m3) : kindD d = 1 ∨ kindD d = 2 := by unfold kindD; split <;> simp
def nk (l : List m3) (k : Int) : Nat := (l.filter fun d => decide (kindD d = k)).length
theorem b1y (a b : List m3) (k : Int) : nk (a ++ b) k = nk a k + nk b k := by unfold nk; rw [List.filter_append, List.length_append]
theorem b4Q (d : m3) (k : Int) : nk [d] k = if kindD d = k then 1 else 0 := by
  unfold nk
  by_cases h : kindD d = k
  · rw [if_pos h]; simp [h]
  · rw [if_neg h]; simp [h]
def lim (k : Int) : Nat := if k = 2 then 16 else 32
def hasN (l : List m3) (s : ByteArray) : Bool := memS (l.map (·.g7)) s
def declT : List m3 → List m3 → Option (ByteArray × Int)
  | _, [] => none
  | pre, d :: r => if hasN pre d.g7 = true then some (d.g7, 60) else if 1024 < d.E0 then some (d.g7, 61) else if lim (kindD d) < nk (pre ++ [d]) (kindD d) then some (d.g7, 62) else declT (pre ++ [d]) r
def kOf : List m3 → ByteArray → Int
  | [], _ => 0
  | d :: r, s => if d.g7 = s then kindD d else kOf r s
theorem d0V : ∀ (l : List m3) (s : ByteArray), kOf l s ≠ 0 ↔ hasN l s = true
  | [], s => by simp [kOf, hasN, memS]
  | d :: r, s => by
    have ih := d0V r s
    rw [kOf]
    by_cases h : d.g7 = s
    · rw [if_pos h]
      have h2 : hasN (d :: r) s = true := a2m.2 (by rw [List.map_cons, h]; exact List.mem_cons_self)
      rw [h2]
      rcases b0O d with e | e <;> rw [e] <;> simp
    · rw [if_neg h, ih]
      unfold hasN
      rw [a2m, a2m, List.map_cons, List.mem_cons]
      constructor
      · exact .inr
      · rintro (e | e)
        · exact (h e.symm).elim
        · exact e
theorem c7E : ∀ (l : List m3) (d : m3) (s : ByteArray), hasN l d.g7 = false → kOf (l ++ [d]) s = if s = d.g7 then kindD d else kOf l s
  | [], d, s, _ => by
    rw [List.nil_append, kOf, kOf, kOf]
    by_cases h : d.g7 = s
    · rw [if_pos h, if_pos h.symm]
    · rw [if_neg h, if_neg (fun e => h e.symm)]
  | x :: l, d, s, h => by
    have hx : ¬ x.g7 = d.g7 := fun e => by
      have : hasN (x :: l) d.g7 = true := a2m.2 (by rw [List.map_cons, e]; exact List.mem_cons_self)
      rw [h] at this; cases this
    have hl : hasN l d.g7 = false := Bool.eq_false_iff.2 fun e => by
      have : hasN (x :: l) d.g7 = true := a2m.2 (by rw [List.map_cons]; exact List.mem_cons_of_mem _ (a2m.1 e))
      rw [h] at this; cases this
    rw [List.cons_append, kOf, kOf, c7E l d s hl]
    by_cases e : x.g7 = s
    · rw [if_pos e, if_pos e, if_neg (fun q => hx (by rw [e, q]))]
    · rw [if_neg e, if_neg e]
abbrev kvS : ByteArray → Value := fun s => Value.string s
abbrev kvI : Int → Value := fun n => Value.int .i64 n
section
variable {H : Hp}
theorem e6f {d : m3} {K : Int → Hp → Prop} (h : K (kindD d) H) : a6Z d H K := by
  refine b4P _ ?_
  unfold a2i
  unfold kindD at h
  exact ⟨fun e => by rw [if_pos e] at h; exact h, fun e => by rw [if_neg e] at h; exact h⟩
theorem c6G {s : Sl} {ds : List m3} (hs : SlH H 2 m7 s ds) (hb : ds.length ≤ big) {K : Option Nat → ByteArray → Int → Hp → Prop} (h1 : ∀ n e, declT [] ds = some (n, e) → K none n e H)
    (h2 : declT [] ds = none → ∀ x H' kvs, Hle H H' → MapH H' kvS kvI x kvs → (∀ n, (lk n kvs).getD 0 = kOf ds n) → K x ⟨#[]⟩ 0 H') : a4N s H K := by
  intro w I
  refine f8P ?_
  unfold F54
  have n1 := hs.1
  simp only [big] at hb
  refine b5a I fun gn w1 I1 k1 => ?_
  refine b5a I1 fun gl w2 I2 k2 => ?_
  refine a7W (vv := kvI) (keyI Tryd.underlying3) Tryd.underlying157 I2 (MapEs.nil kvI kvI) 1 32 fun es3 c3 w3 he3 I3 k3 => ?_
  refine a7W (vv := kvI) (keyI Tryd.underlying3) Tryd.underlying157 I3 he3 2 16 fun es4 c4 w4 he4 I4 k4 => ?_
  refine A8 fun j1 hx1 => ?_
  refine a7 (a9U _ _ _) ?_
  refine M7 (J := fun n l w' => ∃ (i : Nat) (kn : List (ByteArray × Int)) (kl : List (Int × Int)) (en : Array MapEntry) (cn : Nat) (el : Array MapEntry) (cl : Nat), n = ds.length - i ∧ l = [vi (i : Int)] ∧ i ≤ ds.length ∧ Inv w (inF []) H H [[(gl, .map el cl)], [(gn, .map en cn)]] w' ∧ MapEs kvS kvI en kn ∧ MapEs kvI kvI el kl ∧
    (∀ n, (lk n kn).getD 0 = kOf (ds.take i) n) ∧ (∀ k, k = 1 ∨ k = 2 → (lk k kl).getD 0 = (lim k : Int) - (nk (ds.take i) k : Int)) ∧ (∀ k, k = 1 ∨ k = 2 → nk (ds.take i) k ≤ lim k) ∧ declT [] ds = declT (ds.take i) (ds.drop i))
    ⟨_, 0, [], _, _, _, _, _, rfl, rfl, Nat.zero_le _, I4, MapEs.nil _ _, he4, fun n => rfl, fun k hk => by rcases hk with rfl | rfl <;> rfl, fun k hk => Nat.zero_le _, by rw [List.take_zero, List.drop_zero]⟩ ?_
  rintro n τ w5 next2 ⟨i, kn, kl, en, cn, el, cl, rfl, hl, hi, I5, hen, hel, hkn, hkl, hbd, hd⟩ hn2
  simp only [List.map_cons, List.map_nil, List.cons.injEq, and_true] at hl
  simp only [hl]
  unfold d3s
  refine a7 (C5 _ _ _ _ _ _) ?_
  refine j7 (fun c => ?_) (fun c => ?_)
  · obtain ⟨x, hx, hE⟩ := hs.get (i := (i : Int)) (by omega) (by omega)
    rw [Int.toNat_natCast] at hx
    obtain ⟨g, o, ha, hA⟩ := hE
    have hlt := D2 hx
    have hdrop : ds.drop i = x :: ds.drop (i + 1) := by
      rw [List.drop_eq_getElem_cons hlt]; congr 1
      rw [List.getElem?_eq_getElem hlt] at hx; exact Option.some.inj hx
    have htk : ds.take (i + 1) = ds.take i ++ [x] := V9 hx
    rw [hdrop, declT] at hd
    have hkc := b0O x
    refine a7 (b1M ha _ _ _ _ (by omega) (by omega)) ?_
    refine d6 (ldA (vs := m7 x) Tryd.isAgg58 Tryd.sizeOf58 rfl (I5.atH hA)) ?_
    refine u6 I5 Tryd.zeroValue58 (cs := [(Value.string ⟨#[]⟩), (vi 0)]) rfl fun g6 w6 I6 k6 => ?_
    refine o7 I6 Tryd.sizeOf58 (vs := m7 x) (cs' := m7 x) rfl rfl (nb rfl) rfl rfl fun w7 I7 k7 => ?_
    refine d6 (ldA (vs := m7 x) Tryd.isAgg58 Tryd.sizeOf58 rfl (I7.at1 (o := 0) (nb rfl) rfl)) ?_
    refine d8 (cap := []) (fun args w => Tryd.call92 args w) ?_
    refine m9 (Fi := []) (Fr := [bx g6 58 (m7 x), [(gl, .map el cl)], [(gn, .map en cn)]]) I7 (e6f (K := fun r H' => r = kindD x ∧ H' = H) ⟨rfl, rfl⟩) (fun v H8 Fo w8 I8 l8 k8 q => ?_) (fun _ _ _ _ _ q => q.elim)
    obtain ⟨r, rfl, rfl, rfl, rfl⟩ := q
    refine b9x (vv := kvI) (keyI Tryd.underlying3) Tryd.underlying157 (z := 0) Tryd.zeroValue3 (I8.bring 1) hel (kindD x) ?_
    refine a7 (b3s _ _ _ _ _ _) ?_
    refine a7W (vv := kvI) (keyI Tryd.underlying3) Tryd.underlying157 (I8.bring 1) hel (kindD x) _ fun es9 c9 w9 he9 I9 k9 => ?_
    refine a7 a0B ?_
    refine d6 (ld1 Tryd.isAgg9 ((I9.bring 1).at1 (o := 0) (vs := [(Value.string x.g7)]) (nb rfl) rfl)) ?_
    refine b9x (vv := kvI) (keyS Tryd.underlying9) Tryd.underlying108 (z := 0) Tryd.zeroValue3 (I9.bring 2) hen x.g7 ?_
    rw [hkn]
    refine a7 (a1C _ _ _ _ _ _) ?_
    refine p5 (fun c2 => ?_) (fun c2 => ?_)
    · have hn : hasN (ds.take i) x.g7 = true := (d0V _ _).1 (by simpa using c2)
      rw [if_pos hn] at hd
      refine Z9 I9 fun w10 I10 => ?_
      refine m4 a0B ?_
      refine u9 (ld1 Tryd.isAgg9 ((I10.bring 1).at1 (o := 0) (vs := [(Value.string x.g7)]) (nb rfl) rfl)) ?_
      exact ⟨_, [], I10.drop.drop.drop, none, x.g7, 60, rfl, rfl, h1 _ _ hd⟩
    have hn : hasN (ds.take i) x.g7 = false := Bool.eq_false_iff.2 fun e => by have := (d0V _ _).2 e; simp [this] at c2
    rw [if_neg (by rw [hn]; decide)] at hd
    refine a7 a2S ?_
    refine d6 (ld1 Tryd.isAgg3 ((I9.bring 1).at1 (o := 1) (vs := [(vi x.E0)]) (nb rfl) rfl)) ?_
    refine a7 (a1W _ _ _ _ _ _) ?_
    refine j7 (fun c3 => ?_) (fun c3 => ?_)
    · rw [if_pos c3] at hd
      refine Z9 I9 fun w10 I10 => ?_
      refine m4 a0B ?_
      refine u9 (ld1 Tryd.isAgg9 ((I10.bring 1).at1 (o := 0) (vs := [(Value.string x.g7)]) (nb rfl) rfl)) ?_
      exact ⟨_, [], I10.drop.drop.drop, none, x.g7, 61, rfl, rfl, h1 _ _ hd⟩
    rw [if_neg c3] at hd
    refine b9x (vv := kvI) (keyI Tryd.underlying3) Tryd.underlying157 (z := 0) Tryd.zeroValue3 I9 he9 (kindD x) ?_
    have hbx := hbd _ hkc
    have hlim : lim (kindD x) ≤ 32 := by unfold lim; split <;> decide
    have hsub : IntKind.wrap .i64 ((lk (kindD x) kl).getD 0 - 1) = (lim (kindD x) : Int) - (nk (ds.take (i + 1)) (kindD x) : Int) := by
      rw [hkl _ hkc, htk, b1y, b4Q, if_pos rfl, a2Q ⟨by omega, by omega⟩]; omega
    rw [b4Z, if_pos rfl]
    refine a7 (C5 _ _ _ _ _ _) ?_
    refine j7 (fun c4 => ?_) (fun c4 => ?_)
    · have c4' : lim (kindD x) < nk (ds.take i ++ [x]) (kindD x) := by
        rw [← htk]
        have : ((lim (kindD x) : Int) - (nk (ds.take (i + 1)) (kindD x) : Int)) < 0 := by rw [← hsub]; exact c4
        omega
      rw [if_pos c4'] at hd
      refine Z9 I9 fun w10 I10 => ?_
      refine m4 a0B ?_
      refine u9 (ld1 Tryd.isAgg9 ((I10.bring 1).at1 (o := 0) (vs := [(Value.string x.g7)]) (nb rfl) rfl)) ?_
      exact ⟨_, [], I10.drop.drop.drop, none, x.g7, 62, rfl, rfl, h1 _ _ hd⟩
    have c4' : ¬ lim (kindD x) < nk (ds.take i ++ [x]) (kindD x) := fun e => c4 (by
      rw [← htk] at e
      show IntKind.wrap .i64 ((lk (kindD x) kl).getD 0 - 1) < 0
      rw [hsub]; omega)
    rw [if_neg c4', ← htk] at hd
    refine a7 a0B ?_
    refine d6 (ld1 Tryd.isAgg9 ((I9.bring 1).at1 (o := 0) (vs := [(Value.string x.g7)]) (nb rfl) rfl)) ?_
    refine a7W (vv := kvI) (keyS Tryd.underlying9) Tryd.underlying108 (I9.bring 2) hen x.g7 (kindD x) fun es10 c10 w10 he10 I10 k10 => ?_
    refine a7 (J0 _ _ _ _ _ _) ?_
    rw [S9 (by omega) (by omega)]
    refine hn2 _ _ _ (show ds.length - (i + 1) < ds.length - i by omega) ⟨i + 1, _, _, _, _, _, _, rfl, rfl, hlt, (I10.bring 2).drop.bring 1, he10, he9, fun n => ?_, fun k hk => ?_, fun k hk => ?_, hd⟩
    · rw [b4Z, htk, c7E _ _ _ hn]
      by_cases e : n = x.g7
      · rw [if_pos e, if_pos e]; rfl
      · rw [if_neg e, if_neg e]; exact hkn n
    · rw [b4Z]
      by_cases e : k = kindD x
      · rw [if_pos e, e]; exact hsub
      · rw [if_neg e, htk, b1y, b4Q, if_neg (fun q => e q.symm), Nat.add_zero]; exact hkl k hk
    · by_cases e : k = kindD x
      · rw [e, htk]; omega
      · rw [htk, b1y, b4Q, if_neg (fun q => e q.symm), Nat.add_zero]; exact hbd k hk
  · refine hx1 _ _ ?_
    unfold d3r
    intro _
    have e : ds.take i = ds := List.take_of_length_le (by omega)
    have e2 : ds.drop i = [] := List.drop_eq_nil_of_le (by omega)
    rw [e2, declT] at hd
    rw [e] at hkn
    obtain ⟨I6, l6, h6⟩ := (I5.bring 1).freeze
    exact ⟨_, [], I6.drop, some gn, ⟨#[]⟩, 0, rfl, rfl, h2 hd _ _ kn l6 ⟨gn, en, cn, rfl, h6 _ (List.mem_cons_self ..), hen⟩ hkn⟩
end
end Go.Proofs.YtnhkdkcgdcgmdaaDoor
