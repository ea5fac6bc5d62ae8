/- Well programs: what declarations declare, which uses fit; the program's check. The law WellTurned. Contracts off the printed formulas; 'declared', which keeps maps, off its reading. -/
import Derived.Test.YtnhkdkcgdcgmdaaGreatDoorzXQ9
import Derived.Test.YtnhkdkcgdcgmdaaGreatDoorzXV1v
namespace Go.Proofs.YtnhkdkcgdcgmdaaGreatDoor
open Go.RowKit
set_option maxRecDepth 100000
set_option maxHeartbeats 2000000
def kindD (d : i8) : Int := if 0 < d.A4 then 2 else 1
theorem a7S (d : i8) : kindD d = 1 ∨ kindD d = 2 := by unfold kindD; split <;> simp
def nk (l : List i8) (k : Int) : Nat := (l.filter fun d => decide (kindD d = k)).length
theorem a6y (a b : List i8) (k : Int) : nk (a ++ b) k = nk a k + nk b k := by unfold nk; rw [List.filter_append, List.length_append]
theorem a6W (d : i8) (k : Int) : nk [d] k = if kindD d = k then 1 else 0 := by
 unfold nk
 by_cases h : kindD d = k
 ·rw [if_pos h]; simp [h]
 ·rw [if_neg h]; simp [h]
theorem c7W (l : List i8) (k : Int) : nk l k ≤ l.length := List.length_filter_le _ _
def lim (k : Int) : Nat := if k = 2 then 16 else 32
def hasN (l : List i8) (s : ByteArray) : Bool := memS (l.map (·.d9)) s
def declT : List i8 → List i8 → Option (ByteArray × Int)
 | _, [] => none
 | pre, d :: r => if hasN pre d.d9 = true then some (d.d9, 60) else if 1024 < d.A4 then some (d.d9, 61) else if lim (kindD d) < nk (pre ++ [d]) (kindD d) then some (d.d9, 62) else declT (pre ++ [d]) r
def kOf : List i8 → ByteArray → Int
 | [], _ => 0
 | d :: r, s => if d.d9 = s then kindD d else kOf r s
theorem b9i : ∀ (l : List i8) (s : ByteArray), kOf l s ≠ 0 ↔ hasN l s = true
 | [], s => by simp [kOf, hasN, memS]
 | d :: r, s => by
  have ih := b9i r s
  rw [kOf]
  by_cases h : d.d9 = s
  ·rw [if_pos h]
   have h2 : hasN (d :: r) s = true := a3Q.2 (by rw [List.map_cons, h]; exact List.mem_cons_self)
   rw [h2]
   rcases a7S d with e | e <;> rw [e] <;> simp
  ·rw [if_neg h, ih]
   unfold hasN
   rw [a3Q, a3Q, List.map_cons, List.mem_cons]
   constructor
   ·exact .inr
   ·rintro (e | e)
    ·exact (h e.symm).elim
    ·exact e
theorem c2U : ∀ (l : List i8) (d : i8) (s : ByteArray), hasN l d.d9 = false → kOf (l ++ [d]) s = if s = d.d9 then kindD d else kOf l s
 | [], d, s, _ => by
  rw [List.nil_append, kOf, kOf, kOf]
  by_cases h : d.d9 = s
  ·rw [if_pos h, if_pos h.symm]
  ·rw [if_neg h, if_neg (fun e => h e.symm)]
 | x :: l, d, s, h => by
  have hx : ¬ x.d9 = d.d9 := fun e => by
   have : hasN (x :: l) d.d9 = true := a3Q.2 (by rw [List.map_cons, e]; exact List.mem_cons_self)
   rw [h] at this; cases this
  have hl : hasN l d.d9 = false := Bool.eq_false_iff.2 fun e => by
   have : hasN (x :: l) d.d9 = true := a3Q.2 (by rw [List.map_cons]; exact List.mem_cons_of_mem _ (a3Q.1 e))
   rw [h] at this; cases this
  rw [List.cons_append, kOf, kOf, c2U l d s hl]
  by_cases e : x.d9 = s
  ·rw [if_pos e, if_pos e, if_neg (fun q => hx (by rw [e, q]))]
  ·rw [if_neg e, if_neg e]
abbrev kvS : ByteArray → Value := fun s => Value.string s
abbrev kvI : Int → Value := fun n => Value.int .i64 n
section
variable {H : Hp}
theorem d0x {d : i8} {K : Int → Hp → Prop} (h : K (kindD d) H) : a9M d H K := by
 refine b4A _ ?_
 unfold a6V
 unfold kindD at h
 exact ⟨fun e => by rw [if_pos e] at h; exact h, fun e => by rw [if_neg e] at h; exact h⟩
theorem c1S {s : Sl} {ds : List i8} (hs : SlH H 2 o7 s ds) (hb : ds.length ≤ big) {K : Option Nat → ByteArray → Int → Hp → Prop} (h1 : ∀ n e, declT [] ds = some (n, e) → K none n e H)
  (h2 : declT [] ds = none → ∀ x H' kvs, Hle H H' → MapH H' kvS kvI x kvs → (∀ n, (lk n kvs).getD 0 = kOf ds n) → K x ⟨#[]⟩ 0 H') : a7Q s H K := by
 intro w I
 refine d3E ?_
 unfold F57
 have n1 := hs.1
 simp only [big] at hb
 refine b4F I fun gn w1 I1 k1 => ?_
 refine b4F I1 fun gl w2 I2 k2 => ?_
 refine b0G (vv := kvI) (keyI Tryz.underlying3) Tryz.underlying165 I2 (MapEs.nil kvI kvI) 1 32 fun es3 c3 w3 he3 I3 k3 => ?_
 refine b0G (vv := kvI) (keyI Tryz.underlying3) Tryz.underlying165 I3 he3 2 16 fun es4 c4 w4 he4 I4 k4 => ?_
 refine r5 fun j1 hx1 => ?_
 refine a8 (a3w _ _ _) ?_
 refine y7 (J := fun n l w' => ∃ (i : Nat) (kn : List (ByteArray × Int)) (kl : List (Int × Int)) (en : Array MapEntry) (cn : Nat) (el : Array MapEntry) (cl : Nat), n = ds.length - i ∧ l = [vi (i : Int)] ∧ i ≤ ds.length ∧ Inv w (inF []) H H [[(gl, .map el cl)], [(gn, .map en cn)]] w' ∧ MapEs kvS kvI en kn ∧ MapEs kvI kvI el kl ∧
  (∀ n, (lk n kn).getD 0 = kOf (ds.take i) n) ∧ (∀ k, k = 1 ∨ k = 2 → (lk k kl).getD 0 = (lim k : Int) - (nk (ds.take i) k : Int)) ∧ (∀ k, k = 1 ∨ k = 2 → nk (ds.take i) k ≤ lim k) ∧ declT [] ds = declT (ds.take i) (ds.drop i))
  ⟨_, 0, [], _, _, _, _, _, rfl, rfl, Nat.zero_le _, I4, MapEs.nil _ _, he4, fun n => rfl, fun k hk => by rcases hk with rfl | rfl <;> rfl, fun k hk => Nat.zero_le _, by rw [List.take_zero, List.drop_zero]⟩ ?_
 rintro n τ w5 next2 ⟨i, kn, kl, en, cn, el, cl, rfl, hl, hi, I5, hen, hel, hkn, hkl, hbd, hd⟩ hn2
 simp only [List.map_cons, List.map_nil, List.cons.injEq, and_true] at hl
 simp only [hl]
 unfold c5Q
 refine a8 (r7 _ _ _ _ _ _) ?_
 refine G4 (fun c => ?_) (fun c => ?_)
 ·obtain ⟨x, hx, hE⟩ := hs.get (i := (i : Int)) (by omega) (by omega)
  rw [Int.toNat_natCast] at hx
  obtain ⟨g, o, ha, hA⟩ := hE
  have hlt := s8 hx
  have hdrop : ds.drop i = x :: ds.drop (i + 1) := by
   rw [List.drop_eq_getElem_cons hlt]; congr 1
   rw [List.getElem?_eq_getElem hlt] at hx; exact Option.some.inj hx
  have htk : ds.take (i + 1) = ds.take i ++ [x] := N5 hx
  rw [hdrop, declT] at hd
  have hkc := a7S x
  refine a8 (a1x ha _ _ _ _ (by omega) (by omega)) ?_
  refine b6 (ldA (vs := o7 x) Tryz.isAgg71 Tryz.sizeOf71 rfl (I5.atH hA)) ?_
  refine B9 I5 Tryz.zeroValue71 (cs := [(Value.string ⟨#[]⟩), (vi 0)]) rfl fun g6 w6 I6 k6 => ?_
  refine o4 I6 Tryz.sizeOf71 (vs := o7 x) (cs' := o7 x) rfl rfl (nb rfl) rfl rfl fun w7 I7 k7 => ?_
  refine b6 (ldA (vs := o7 x) Tryz.isAgg71 Tryz.sizeOf71 rfl (I7.at1 (o := 0) (nb rfl) rfl)) ?_
  refine s6 (cap := []) (fun args w => Tryz.call100 args w) ?_
  refine R6 (Fi := []) (Fr := [bx g6 71 (o7 x), [(gl, .map el cl)], [(gn, .map en cn)]]) I7 (d0x (K := fun r H' => r = kindD x ∧ H' = H) ⟨rfl, rfl⟩) (fun v H8 Fo w8 I8 l8 k8 q => ?_) (fun _ _ _ _ _ q => q.elim)
  obtain ⟨r, rfl, rfl, rfl, rfl⟩ := q
  refine b7c (vv := kvI) (keyI Tryz.underlying3) Tryz.underlying165 (z := 0) Tryz.zeroValue3 (I8.bring 1) hel (kindD x) ?_
  refine a8 (a5s _ _ _ _ _ _) ?_
  refine b0G (vv := kvI) (keyI Tryz.underlying3) Tryz.underlying165 (I8.bring 1) hel (kindD x) _ fun es9 c9 w9 he9 I9 k9 => ?_
  refine a8 Q5 ?_
  refine b6 (ld1 Tryz.isAgg9 ((I9.bring 1).at1 (o := 0) (vs := [(Value.string x.d9)]) (nb rfl) rfl)) ?_
  refine b7c (vv := kvI) (keyS Tryz.underlying9) Tryz.underlying119 (z := 0) Tryz.zeroValue3 (I9.bring 2) hen x.d9 ?_
  rw [hkn]
  refine a8 (N9 _ _ _ _ _ _) ?_
  refine V3 (fun c2 => ?_) (fun c2 => ?_)
  ·have hn : hasN (ds.take i) x.d9 = true := (b9i _ _).1 (by simpa using c2)
   rw [if_pos hn] at hd
   refine U6 I9 fun w10 I10 => ?_
   refine j8 Q5 ?_
   refine u7 (ld1 Tryz.isAgg9 ((I10.bring 1).at1 (o := 0) (vs := [(Value.string x.d9)]) (nb rfl) rfl)) ?_
   exact ⟨_, [], I10.drop.drop.drop, none, x.d9, 60, rfl, rfl, h1 _ _ hd⟩
  have hn : hasN (ds.take i) x.d9 = false := Bool.eq_false_iff.2 fun e => by have := (b9i _ _).2 e; simp [this] at c2
  rw [if_neg (by rw [hn]; decide)] at hd
  refine a8 V9 ?_
  refine b6 (ld1 Tryz.isAgg3 ((I9.bring 1).at1 (o := 1) (vs := [(vi x.A4)]) (nb rfl) rfl)) ?_
  refine a8 (Q2 _ _ _ _ _ _) ?_
  refine G4 (fun c3 => ?_) (fun c3 => ?_)
  ·rw [if_pos c3] at hd
   refine U6 I9 fun w10 I10 => ?_
   refine j8 Q5 ?_
   refine u7 (ld1 Tryz.isAgg9 ((I10.bring 1).at1 (o := 0) (vs := [(Value.string x.d9)]) (nb rfl) rfl)) ?_
   exact ⟨_, [], I10.drop.drop.drop, none, x.d9, 61, rfl, rfl, h1 _ _ hd⟩
  rw [if_neg c3] at hd
  refine b7c (vv := kvI) (keyI Tryz.underlying3) Tryz.underlying165 (z := 0) Tryz.zeroValue3 I9 he9 (kindD x) ?_
  have hbx := hbd _ hkc
  have hlim : lim (kindD x) ≤ 32 := by unfold lim; split <;> decide
  have hsub : IntKind.wrap .i64 ((lk (kindD x) kl).getD 0 - 1) = (lim (kindD x) : Int) - (nk (ds.take (i + 1)) (kindD x) : Int) := by
   rw [hkl _ hkc, htk, a6y, a6W, if_pos rfl, K0 ⟨by omega, by omega⟩]; omega
  rw [b4E, if_pos rfl]
  refine a8 (r7 _ _ _ _ _ _) ?_
  refine G4 (fun c4 => ?_) (fun c4 => ?_)
  ·have c4' : lim (kindD x) < nk (ds.take i ++ [x]) (kindD x) := by
    rw [← htk]
    have : ((lim (kindD x) : Int) - (nk (ds.take (i + 1)) (kindD x) : Int)) < 0 := by rw [← hsub]; exact c4
    omega
   rw [if_pos c4'] at hd
   refine U6 I9 fun w10 I10 => ?_
   refine j8 Q5 ?_
   refine u7 (ld1 Tryz.isAgg9 ((I10.bring 1).at1 (o := 0) (vs := [(Value.string x.d9)]) (nb rfl) rfl)) ?_
   exact ⟨_, [], I10.drop.drop.drop, none, x.d9, 62, rfl, rfl, h1 _ _ hd⟩
  have c4' : ¬ lim (kindD x) < nk (ds.take i ++ [x]) (kindD x) := fun e => c4 (by
   rw [← htk] at e
   show IntKind.wrap .i64 ((lk (kindD x) kl).getD 0 - 1) < 0
   rw [hsub]; omega)
  rw [if_neg c4', ← htk] at hd
  refine a8 Q5 ?_
  refine b6 (ld1 Tryz.isAgg9 ((I9.bring 1).at1 (o := 0) (vs := [(Value.string x.d9)]) (nb rfl) rfl)) ?_
  refine b0G (vv := kvI) (keyS Tryz.underlying9) Tryz.underlying119 (I9.bring 2) hen x.d9 (kindD x) fun es10 c10 w10 he10 I10 k10 => ?_
  refine a8 (r9 _ _ _ _ _ _) ?_
  rw [y9 (by omega) (by omega)]
  refine hn2 _ _ _ (show ds.length - (i + 1) < ds.length - i by omega) ⟨i + 1, _, _, _, _, _, _, rfl, rfl, hlt, (I10.bring 2).drop.bring 1, he10, he9, fun n => ?_, fun k hk => ?_, fun k hk => ?_, hd⟩
  ·rw [b4E, htk, c2U _ _ _ hn]
   by_cases e : n = x.d9
   ·rw [if_pos e, if_pos e]; rfl
   ·rw [if_neg e, if_neg e]; exact hkn n
  ·rw [b4E]
   by_cases e : k = kindD x
   ·rw [if_pos e, e]; exact hsub
   ·rw [if_neg e, htk, a6y, a6W, if_neg (fun q => e q.symm), Nat.add_zero]; exact hkl k hk
  ·by_cases e : k = kindD x
   ·rw [e, htk]; omega
   ·rw [htk, a6y, a6W, if_neg (fun q => e q.symm), Nat.add_zero]; exact hbd k hk
 ·refine hx1 _ _ ?_
  unfold c5P
  intro _
  have e : ds.take i = ds := List.take_of_length_le (by omega)
  have e2 : ds.drop i = [] := List.drop_eq_nil_of_le (by omega)
  rw [e2, declT] at hd
  rw [e] at hkn
  obtain ⟨I6, l6, h6⟩ := (I5.bring 1).freeze
  exact ⟨_, [], I6.drop, some gn, ⟨#[]⟩, 0, rfl, rfl, h2 hd _ _ kn l6 ⟨gn, en, cn, rfl, h6 _ (List.mem_cons_self ..), hen⟩ hkn⟩
end
abbrev Wu := i7
def asU (u : Us) : Int := if u.b0h = true then 2 else 1
def toW (u : Us) : Wu := ⟨u.d9, asU u⟩
def gT (t : PT) : List Wu := (uT t).map toW
def gTs (ts : List PT) : List Wu := (uTs ts).map toW
theorem d3K {ts : List PT} {i : Nat} {t : PT} (h : ts[i]? = some t) : gTs (ts.take (i + 1)) = gTs (ts.take i) ++ gT t := by unfold gTs gT; rw [c0H h, List.map_append]
theorem b5h (a b : List PT) : gTs (a ++ b) = gTs a ++ gTs b := by unfold gTs; rw [a8y, List.map_append]
theorem d3L (t : PT) : (gT t).length = (uT t).length := by unfold gT; rw [List.length_map]
theorem b5i (ts : List PT) : (gTs ts).length = (uTs ts).length := by unfold gTs; rw [List.length_map]
theorem b9j (l : Lab) (cs : List PT) : gT (.mk l cs) = (useL l).map toW ++ gTs cs := by unfold gT gTs; rw [uT, List.map_append]
theorem b5j {ts : List PT} {i : Nat} {t : PT} (h : ts[i]? = some t) : (gTs (ts.take i)).length + (gT t).length ≤ (gTs ts).length := by
 rw [b5i, d3L, b5i]; exact b3M h
theorem b3W {n : Nat} (h : n + 1 ≤ big) {u : Wu} : (n + ([u] : List Wu).length) * 25 ≤ 140737488355328 := by
 simp only [big] at h; simp only [List.length_cons, List.length_nil]; omega
section
variable {H : Hp}
theorem vloop {ts : List PT} {out : List Wu} {body : Int × List Wu → Hp → (Int × List Wu → Hp → Prop) → Prop}
  (hb : ∀ (i : Int) (cs : List Wu) (next : Int × List Wu → Hp → Prop), 0 ≤ i → i ≤ ts.length → cs = out ++ gTs (ts.take i.toNat) → (∀ t, ts[i.toNat]? = some t → next (i + 1, cs ++ gT t) H) → (ts.length ≤ i → cs = out ++ gTs ts) → body (i, cs) H next) : TL ((0, out) : Int × List Wu) H body := by
 refine T9 (fun (q : Int × List Wu) H' => 0 ≤ q.1 ∧ q.1 ≤ ts.length ∧ H' = H ∧ q.2 = out ++ gTs (ts.take q.1.toNat)) (fun q => (ts.length - q.1).toNat) ⟨Int.le_refl _, by simp, rfl, by simp [gTs, uTs]⟩ ?_
 rintro ⟨i, cs⟩ H1 next ⟨i0, i1, rfl, hs⟩ hn
 dsimp only at i0 i1 hs ⊢
 refine hb i cs next i0 i1 hs (fun t ht => ?_) fun he => ?_
 ·have := s8 ht
  refine hn _ _ ⟨by dsimp only; omega, by dsimp only; omega, rfl, ?_⟩ (by dsimp only; omega)
  dsimp only
  rw [show (i + 1).toNat = i.toNat + 1 by omega, d3K ht, hs, List.append_assoc]
 ·rw [hs, List.take_of_length_le (by omega)]
theorem c1r {e : m2} {t : PT} (he : EH H e t) {z : o9} {out : List Wu} (hb : out.length + (gT t).length ≤ big) {K : o9 → List Wu → Hp → Prop} (h : ∀ z, K z (out ++ gT t) H) : a0l z out e H K := by
 induction he generalizing z out K with
 | @mk e xs ts hs hxb hl _ ih =>
  refine b0E _ _ _ ?_
  have hn : (e.z8.n : Int) = (ts.length : Int) := by have := hs.1; omega
  rw [b9j, List.length_append] at hb
  have go : ∀ out' : List Wu, out' = out ++ (useL (.expr e.b7 e.C9 e.d9 ts.length)).map toW → N4 out' e H K := by
   rintro out' rfl
   unfold N4
   rw [hn]
   refine vloop (ts := ts) fun i cs next i0 i1 hcs hk hf => ?_
   unfold a1q
   dsimp only
   refine ⟨fun hc => ?_, fun hc => ?_⟩
   ·obtain ⟨x, hx, hE⟩ := hs.get i0 (show i < (e.z8.n : Int) by omega)
    obtain ⟨t, ht⟩ := r6 (l := ts) (i := i.toNat) (by have := s8 hx; omega)
    have := b5j ht
    refine ⟨i0, by omega, x, hE, ih _ x t hx ht (by rw [hcs, List.length_append, List.length_append]; omega) fun z => ?_⟩
    rw [y9 i0 (by simp only [big] at hxb; have := s8 hx; omega)]
    exact hk t ht
   ·rw [hf (by omega), List.append_assoc]
    have := h (o9.mk (Sl.mk none 0 0))
    rw [b9j] at this; exact this
  unfold a4j
  refine ⟨fun h2 => ?_, fun h2 => ⟨fun h4 => ?_, fun h4 => go _ ?_⟩⟩
  ·have e2 : (useL (.expr e.b7 e.C9 e.d9 ts.length)).map toW = [⟨e.d9, 1⟩] := by
    simp only [useL]
    rw [h2]; rfl
   rw [e2] at hb
   exact ⟨b3W (by simp only [List.length_cons, List.length_nil] at hb; omega), go _ (by rw [e2])⟩
  ·have e2 : (useL (.expr e.b7 e.C9 e.d9 ts.length)).map toW = [⟨e.d9, 2⟩] := by
    simp only [useL]
    rw [h4]; rfl
   rw [e2] at hb
   exact ⟨b3W (by simp only [List.length_cons, List.length_nil] at hb; omega), go _ (by rw [e2])⟩
  ·have e2 : (useL (.expr e.b7 e.C9 e.d9 ts.length)).map toW = [] := by
    simp only [useL]
    rw [decide_eq_false h2, decide_eq_false h4]; rfl
   rw [e2, List.append_nil]
theorem c7h {e : o0} {t : PT} (he : CH H e t) {z : o9} {out : List Wu} (hb : out.length + (gT t).length ≤ big) {K : o9 → List Wu → Hp → Prop} (h : ∀ z, K z (out ++ gT t) H) : a2h z out e H K := by
 induction he generalizing z out K with
 | @mk e xs ts ys us hs hxb hr hc hcb hcl _ ih =>
  refine b0F _ _ _ ?_
  have r0 := hr.1
  have hn : (e.m6.n : Int) = (ts.length : Int) := by have := hs.1; omega
  have hm : (e.v8.n : Int) = (us.length : Int) := by have := hc.1; omega
  have eg : gT (.mk (.cond e.b7 e.fOp ts.length us.length) (ts ++ us)) = gTs ts ++ gTs us := by rw [b9j, b5h]; rfl
  rw [eg, List.length_append] at hb
  unfold a4k
  rw [hn]
  refine vloop (ts := ts) fun i cs next i0 i1 hcs hk hf => ?_
  unfold a1t
  dsimp only
  refine ⟨fun hq => ?_, fun hq => ?_⟩
  ·obtain ⟨x, hx, hE⟩ := hs.get i0 (show i < (e.m6.n : Int) by omega)
   obtain ⟨t, ht⟩ := r6 (l := ts) (i := i.toNat) (by have := s8 hx; omega)
   have := b5j ht
   refine ⟨i0, by omega, x, hE, c1r (hr.2 _ x t hx ht) (by rw [hcs, List.length_append]; omega) fun z => ?_⟩
   rw [y9 i0 (by simp only [big] at hxb; have := s8 hx; omega)]
   exact hk t ht
  ·rw [hf (by omega)]
   clear hk hf next hcs cs hq
   unfold a1s
   rw [hm]
   refine vloop (ts := us) fun i cs next i0 i1 hcs hk hf => ?_
   unfold a1r
   dsimp only
   refine ⟨fun hq => ?_, fun hq => ?_⟩
   ·obtain ⟨x, hx, hE⟩ := hc.get i0 (show i < (e.v8.n : Int) by omega)
    obtain ⟨t, ht⟩ := r6 (l := us) (i := i.toNat) (by have := s8 hx; omega)
    have := b5j ht
    refine ⟨i0, by omega, x, hE, ih _ x t hx ht (by rw [hcs, List.length_append, List.length_append]; omega) fun z => ?_⟩
    rw [y9 i0 (by simp only [big] at hcb; have := s8 hx; omega)]
    exact hk t ht
   ·rw [hf (by omega), List.append_assoc]
    have := h (o9.mk (Sl.mk none 0 0))
    rw [eg] at this; exact this
def StW (H : Hp) (x : m7) (t : PT) : Prop := ∀ (s10 : Sl) (s11 i : Int) (cs : List Wu) (n1 : Int × List Wu → Hp → Prop) (K : o9 → List Wu → Hp → Prop), cs.length + (gTs t.kids).length ≤ big → n1 (IntKind.wrap .i64 (i + 1), cs ++ gTs t.kids) H → L4 s10 s11 i cs x H n1 K
theorem b4B {s : Sl} {xs : List m7} {ts : List PT} (hs : SlH H 6 f8 s xs) (hxb : xs.length ≤ big) (hl : xs.length = ts.length) (hr : ∀ (i : Nat) (x : m7) (t : PT), xs[i]? = some x → ts[i]? = some t → SH H x t) (ih : ∀ (i : Nat) (x : m7) (t : PT), xs[i]? = some x → ts[i]? = some t → StW H x t)
  {z : o9} {out : List Wu} (hb : out.length + (gTs ts).length ≤ big) {K : o9 → List Wu → Hp → Prop} (h : ∀ z, K z (out ++ gTs ts) H) : Y5 z out s H K := by
 refine b0e _ _ _ ?_
 unfold a3V
 have n1 := hs.1
 refine vloop (ts := ts) fun i cs next i0 i1 hcs hk hf => ?_
 unfold a0J
 dsimp only
 refine ⟨fun hq => ?_, fun hq => ?_⟩
 ·obtain ⟨x, hx, hE⟩ := hs.get i0 hq
  obtain ⟨t, ht⟩ := r6 (l := ts) (i := i.toNat) (by have := s8 hx; omega)
  have hin := b5j ht
  have hut : gT t = (useL t.lab).map toW ++ gTs t.kids := by cases t; rw [b9j]; rfl
  rw [hut, List.length_append] at hin
  have hlab : useL t.lab = if (decide (x.b7 = 1) || decide (x.b7 = 2)) = true then [⟨x.d9, decide (x.b7 = 2)⟩] else [] := by
   cases hr _ x t hx ht; rfl
  have hcl : cs.length = out.length + (gTs (ts.take i.toNat)).length := by rw [hcs, List.length_append]
  have hkt := hk t ht
  rw [hut, ← List.append_assoc, ← y9 i0 (by simp only [big] at hxb; have := s8 hx; omega)] at hkt
  refine ⟨i0, hq, x, hE, fun h1 => ?_, fun h1 => ⟨fun h2 => ?_, fun h2 => ?_⟩⟩
  ·have e2 : (useL t.lab).map toW = [⟨x.d9, 1⟩] := by rw [hlab, h1]; rfl
   rw [e2] at hin hkt
   simp only [List.length_cons, List.length_nil] at hin
   exact ⟨b3W (by omega), ih _ x t hx ht _ _ _ _ _ _ (by simp only [List.length_append, List.length_cons, List.length_nil]; omega) hkt⟩
  ·have e2 : (useL t.lab).map toW = [⟨x.d9, 2⟩] := by rw [hlab, h2]; rfl
   rw [e2] at hin hkt
   simp only [List.length_cons, List.length_nil] at hin
   exact ⟨b3W (by omega), ih _ x t hx ht _ _ _ _ _ _ (by simp only [List.length_append, List.length_cons, List.length_nil]; omega) hkt⟩
  ·have e2 : (useL t.lab).map toW = [] := by rw [hlab, decide_eq_false h1, decide_eq_false h2]; rfl
   rw [e2] at hin hkt
   rw [List.append_nil] at hkt
   exact ih _ x t hx ht _ _ _ _ _ _ (by simp only [List.length_nil] at hin; omega) hkt
 ·rw [hf (by omega)]
  exact h _
theorem d3M {x : m7} {t : PT} (hx : SH H x t) : StW H x t := by
 induction hx with
 | @mk e xs ts ys us zs bs vs ws hs hb hr hc hcb hcr ha hab hal har hbs hbb hbl hbr iha ihb =>
  intro s10 s11 i9 cs0 n1 K hlen h
  change n1 (_, cs0 ++ gTs (us ++ (ts ++ (vs ++ ws)))) H at h
  change cs0.length + (gTs (us ++ (ts ++ (vs ++ ws)))).length ≤ big at hlen
  rw [b5h, b5h, b5h] at h hlen
  simp only [List.length_append] at hlen
  have r0 := hr.1
  have r1 := hcr.1
  unfold L4
  refine vloop (ts := us) fun i cs next i0 i1 hcs hk hf => ?_
  unfold a0I
  dsimp only
  refine ⟨fun hq => ?_, fun hq => ?_⟩
  ·obtain ⟨x, hx, hE⟩ := hc.get i0 hq
   obtain ⟨t, ht⟩ := r6 (l := us) (i := i.toNat) (by have := s8 hx; omega)
   have := b5j ht
   refine ⟨i0, hq, x, hE, c7h (hcr.2 _ x t hx ht) (by rw [hcs, List.length_append]; omega) fun z => ?_⟩
   rw [y9 i0 (by simp only [big] at hcb; have := s8 hx; omega)]
   exact hk t ht
  ·rw [hf (by have := hc.1; omega)]
   clear hk hf next hcs cs hq
   unfold a0H
   refine vloop (ts := ts) fun i cs next i0 i1 hcs hk hf => ?_
   unfold a0G
   dsimp only
   refine ⟨fun hq => ?_, fun hq => ?_⟩
   ·obtain ⟨x, hx, hE⟩ := hs.get i0 hq
    obtain ⟨t, ht⟩ := r6 (l := ts) (i := i.toNat) (by have := s8 hx; omega)
    have := b5j ht
    refine ⟨i0, hq, x, hE, c1r (hr.2 _ x t hx ht) (by rw [hcs, List.length_append, List.length_append]; omega) fun z => ?_⟩
    rw [y9 i0 (by simp only [big] at hb; have := s8 hx; omega)]
    exact hk t ht
   ·rw [hf (by have := hs.1; omega)]
    unfold a0F
    refine b4B ha hab hal har iha (by simp only [List.length_append]; omega) fun z => ?_
    refine b4B hbs hbb hbl hbr ihb (by simp only [List.length_append]; omega) fun z => ?_
    unfold a0E
    simp only [List.append_assoc]
    exact h
end
def useT (ds : List i8) : List Us → ByteArray × Int
 | [] => (⟨#[]⟩, 0)
 | u :: r => if kOf ds u.d9 = asU u then useT ds r else if kOf ds u.d9 = 0 then (u.d9, 63) else (u.d9, 64)
def wellS (q : PP) : ByteArray × Int :=
 if toldS q.nodes = 0 then (match declT [] q.decls with | some r => r | none => useT q.decls (uTs q.body)) else (⟨#[]⟩, toldS q.nodes)
theorem b4C (ds : List i8) (l : List Us) (h : ∀ u ∈ l, kOf ds u.d9 = asU u) (r : List Us) : useT ds (l ++ r) = useT ds r := by
 induction l with
 | nil => rfl
 | cons u l ih =>
  rw [List.cons_append, useT, if_pos (h u List.mem_cons_self)]
  exact ih fun v hv => h v (List.mem_cons_of_mem _ hv)
section
variable {H : Hp}
theorem d0y (hT : TabsH H) {p : o3} {q : PP} (hp : PH H p q) (hsm : q.Sm) {K : ByteArray → Int → Hp → Prop} (h : ∀ H', Hle H H' → K (wellS q).1 (wellS q).2 H') : a9o p H K := by
 refine b4d _ ?_
 unfold a6K
 unfold wellS at h
 refine c6D hT hp hsm fun H1 l1 => ?_
 rw [show vEnd (allV q) = toldS q.nodes from c9n _]
 refine ⟨fun hne => by have := h H1 l1; rw [if_neg hne] at this; exact this, fun h0 => ?_⟩
 rw [if_pos h0] at h
 have hcnt := c2F (c0I h0).1
 have hul := b5c q.body
 have hcb : cTs q.body ≤ 4096 := by unfold PP.nodes at hcnt; rw [b2T] at hcnt; omega
 obtain ⟨hd, hbd, xs, hsl, hxb, hr⟩ := hp.le l1
 refine c1S hd hbd (fun n e hde => ⟨fun hne => ?_, fun he0 => ?_⟩) fun hdn x H2 kvs l2 hM hkv => ⟨fun e => (e rfl).elim, fun _ => ?_⟩
 ·have := h H1 l1; rw [hde] at this; exact this
 ·exfalso
  have : ∀ (l pre : List i8), declT pre l = some (n, e) → e ≠ 0 := by
   intro l
   induction l with
   | nil => intro pre hq; rw [declT] at hq; cases hq
   | cons d l ih =>
    intro pre hq
    rw [declT] at hq
    split at hq
    ·cases hq; decide
    ·split at hq
     ·cases hq; decide
     ·split at hq
      ·cases hq; decide
      ·exact ih _ hq
  exact this _ _ hde he0
 ·rw [hdn] at h
  dsimp only at h
  have l12 := l1.trans l2
  refine b4B (hsl.le l2) hxb hr.1 (fun i x t a b => SH.le l2 (hr.2 i x t a b)) (fun i x t a b => d3M (SH.le l2 (hr.2 i x t a b))) (by rw [b5i]; simp only [List.length_nil, big]; omega) fun z => ?_
  rw [List.nil_append]
  have gl := b5i q.body
  refine T9 (fun (z : Int × ByteArray × Int) H' => z.1 = 0 ∧ z.2.1 = ⟨#[]⟩ ∧ 0 ≤ z.2.2 ∧ z.2.2 ≤ (uTs q.body).length ∧ H' = H2 ∧ ∀ u ∈ (uTs q.body).take z.2.2.toNat, kOf q.decls u.d9 = asU u) (fun z => ((uTs q.body).length - z.2.2).toNat) ⟨rfl, rfl, Int.le_refl _, by dsimp only; omega, rfl, fun u hu => by simp at hu⟩ ?_
  rintro ⟨a, b, i⟩ H3 next ⟨ha, hb, i0, i1, rfl, hi⟩ hk
  dsimp only at ha hb i0 i1 hi ⊢
  subst ha; subst hb
  unfold a3v
  refine ⟨fun hq => ?_, fun hq => ?_⟩
  ·obtain ⟨u, hu⟩ := r6 (l := uTs q.body) (i := i.toNat) (by omega)
   have hlt := s8 hu
   have hg : (gTs q.body)[i.toNat]? = some (toW u) := by unfold gTs; rw [List.getElem?_map, hu]; rfl
   have hdrop : (uTs q.body).drop i.toNat = u :: (uTs q.body).drop (i.toNat + 1) := by
    rw [List.drop_eq_getElem_cons hlt]; congr 1
    rw [List.getElem?_eq_getElem hlt] at hu; exact Option.some.inj hu
   have hall : useT q.decls (uTs q.body) = useT q.decls (u :: (uTs q.body).drop (i.toNat + 1)) := by
    have := b4C q.decls ((uTs q.body).take i.toNat) hi ((uTs q.body).drop i.toNat)
    rw [List.take_append_drop, hdrop] at this; exact this
   have h' := h H3 l12
   rw [hall, useT] at h'
   refine ⟨i0, toW u, hg, kvs, hM, ?_⟩
   show ((lk u.d9 kvs).getD 0 = asU u → _) ∧ (¬ ((lk u.d9 kvs).getD 0 = asU u) → ((lk u.d9 kvs).getD 0 = 0 → _) ∧ (¬ ((lk u.d9 kvs).getD 0 = 0) → _))
   rw [hkv]
   refine ⟨fun e => ?_, fun e => ⟨fun e2 => ?_, fun e2 => ?_⟩⟩
   ·rw [y9 i0 (by omega)]
    refine hk _ _ ⟨rfl, rfl, by dsimp only; omega, by dsimp only; omega, rfl, fun v hv => ?_⟩ (by dsimp only; omega)
    dsimp only at hv
    rw [show (i + 1).toNat = i.toNat + 1 by omega, N5 hu] at hv
    rcases List.mem_append.1 hv with hv | hv
    ·exact hi v hv
    ·rw [List.mem_singleton.1 hv]; exact e
   ·rw [if_neg e, if_pos e2] at h'; exact h'
   ·rw [if_neg e, if_neg e2] at h'; exact h'
  ·have h' := h H3 l12
   have := b4C q.decls (uTs q.body) (by rw [List.take_of_length_le (by omega)] at hi; exact hi) []
   rw [List.append_nil] at this
   rw [this] at h'
   exact h'
end
def DeclOk (l : List i8) : Prop := (l.map (·.d9)).Nodup ∧ (∀ d ∈ l, d.A4 ≤ 1024) ∧ nk l 1 ≤ 32 ∧ nk l 2 ≤ 16
theorem b8O : ∀ (r pre : List i8), DeclOk pre → (declT pre r = none ↔ DeclOk (pre ++ r))
 | [], pre, h => by rw [declT, List.append_nil]; exact ⟨fun _ => h, fun _ => rfl⟩
 | d :: r, pre, h => by
  have hd := a7S d
  obtain ⟨h1, h2, h3, h4⟩ := h
  rw [declT]
  by_cases c1 : hasN pre d.d9 = true
  ·rw [if_pos c1]
   refine ⟨(fun e => by cases e), fun e => ?_⟩
   exfalso
   have := e.1
   rw [List.map_append, List.map_cons, List.nodup_append] at this
   exact this.2.2 d.d9 (a3Q.1 c1) d.d9 List.mem_cons_self rfl
  ·rw [if_neg c1]
   by_cases c2 : 1024 < d.A4
   ·rw [if_pos c2]
    refine ⟨(fun e => by cases e), fun e => ?_⟩
    have := e.2.1 d (List.mem_append_right _ List.mem_cons_self)
    omega
   ·rw [if_neg c2]
    by_cases c3 : lim (kindD d) < nk (pre ++ [d]) (kindD d)
    ·rw [if_pos c3]
     refine ⟨(fun e => by cases e), fun e => ?_⟩
     exfalso
     have e' : nk (pre ++ d :: r) (kindD d) ≤ lim (kindD d) := by
      rcases hd with q | q
      ·rw [q]; exact e.2.2.1
      ·rw [q]; exact e.2.2.2
     rw [show pre ++ d :: r = (pre ++ [d]) ++ r by simp, a6y] at e'
     omega
    ·rw [if_neg c3]
     have hpre : DeclOk (pre ++ [d]) := by
      refine ⟨?_, ?_, ?_, ?_⟩
      ·rw [List.map_append, List.nodup_append]
       refine ⟨h1, by simp, fun a ha b hb e => ?_⟩
       rw [List.map_cons, List.map_nil, List.mem_singleton] at hb
       rw [e, hb] at ha
       exact c1 (a3Q.2 ha)
      ·intro x hx
       rcases List.mem_append.1 hx with hx | hx
       ·exact h2 x hx
       ·rw [List.mem_singleton.1 hx]; omega
      ·rcases hd with q | q
       ·rw [q] at c3; simp only [lim] at c3
        rw [if_neg (by decide)] at c3; omega
       ·rw [a6y, a6W, q, if_neg (by decide)]; omega
      ·rcases hd with q | q
       ·rw [a6y, a6W, q, if_neg (by decide)]; omega
       ·rw [q] at c3; simp only [lim] at c3
        rw [if_pos (by decide)] at c3; omega
     rw [b8O r (pre ++ [d]) hpre, show pre ++ d :: r = (pre ++ [d]) ++ r by simp]
theorem b6b (l : List i8) : declT [] l = none ↔ DeclOk l := b8O l [] ⟨List.nodup_nil, (fun d h => by cases h), Nat.zero_le _, Nat.zero_le _⟩
theorem nz {n : Int} (h : n ≠ 0) {s : ByteArray} : ((s, n) : ByteArray × Int).2 ≠ 0 := h
theorem c7i {l pre : List i8} {r : ByteArray × Int} (h : declT pre l = some r) : r.2 ≠ 0 := by
 induction l generalizing pre with
 | nil => rw [declT] at h; cases h
 | cons d l ih =>
  rw [declT] at h
  split at h
  ·cases h; exact nz (by decide)
  ·split at h
   ·cases h; exact nz (by decide)
   ·split at h
    ·cases h; exact nz (by decide)
    ·exact ih h
section
variable {H : Hp}
end
end Go.Proofs.YtnhkdkcgdcgmdaaGreatDoor
