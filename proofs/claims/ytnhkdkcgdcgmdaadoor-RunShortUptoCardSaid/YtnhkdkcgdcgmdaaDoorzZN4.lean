/- A runner's methods, the small ones. Off the readings. -/
import Derived.Test.YtnhkdkcgdcgmdaaDoorzZN6
import Derived.Test.YtnhkdkcgdcgmdaaDoorzZG1s
import Derived.Test.YtnhkdkcgdcgmdaaDoorzZV1s
namespace Go.Proofs.YtnhkdkcgdcgmdaaDoor
open Go.RowKit
set_option maxRecDepth 100000
set_option maxHeartbeats 2000000
abbrev rP (g : Nat) : Value := .pointer (some ⟨g, 0, none⟩)
def uE : Unit → Value := fun _ => .tuple #[]
abbrev bE : Bool → Value := fun b => .bool b
theorem d3k {P : Program} {E : Pan} {w : World} {K : Value → World → Prop} {t : TypeId} {v : Value} (h : E [{ v := .iface t v, recovered := false }] w) : opK P E (xV (Instr.panic (.iface t v))) w K := h
section
variable {P : Program} {kt : TypeId} {kd : TypeDesc} {κ ν : Type} [DecidableEq κ] {kv : κ → Value} {vv : ν → Value} {w0 w : World} {ps : Nat → Prop} {H0 H : Hp} {Fs : List Frag} {K : Value → Prop}
theorem b0e (ko : KeyOk P kt kd kv) {mt et : TypeId} (hm : P.underlying mt = some (.map kt et)) {z : ν} (hz : ∀ w, (zeroValue et).run P w = .ok (vv z) w) {x : Option Nat} {l : List (κ × ν)} (I : Inv w0 ps H0 H Fs w) (hM : MapH H kv vv x l) (k : κ)
    (h : K (vv ((lk k l).getD z))) : qL P w (blk (.map x)) (xV (Instr.lookup mt (.map x) (kv k) false)) K := by
  obtain ⟨g, es, c, rfl, h2, h3⟩ := hM
  exact u9 (Ld.ok fun w' hw => b1G (clock := c) ko hm hz k h3 (by rw [hw]; exact I.sub g _ h2)) h
end
section
variable {k0 : Int} {ev0 : Nat} {ns ars : List ByteArray} {H : Hp} {g : Nat} {X : Cx}
theorem b5L (x : Value) (a b : Int) : Ct Tryd.prog 135 [x, vi a, vi b] H [] (fun _ _ _ => False) (fun c H' Fo => c = [{ v := endsV a b, recovered := false }] ∧ H' = H ∧ Fo = []) := by
  intro w I
  refine e5I ?_
  unfold d8c
  refine a7 (c1B _ _) ?_
  refine a7 (c2r (by kernel_rfl) _) ?_
  exact d3k ⟨_, _, I, rfl, rfl, rfl⟩
def rightM (wr : Int) : M Unit := if wr = 0 then ret () else halt 3 wr
theorem b7s (wr : Int) : CR k0 ev0 ns ars 136 [rP g, vi wr] H g X (rightM wr) uE := by
  intro σ F hr ho w I
  refine e5K ?_
  unfold d8d
  refine a7 (a1C _ _ _ _ _ _) ?_
  unfold rightM
  refine a6i (fun c => ?_) (fun c => ?_)
  · refine d8 (cap := []) (fun args w => Tryd.call135 args w) ?_
    refine m9 (Fi := []) (Fr := [F]) I (b5L _ _ _) (fun _ _ _ _ _ _ _ q => q.elim) fun c2 H' Fo w' J q => ?_
    obtain ⟨rfl, rfl, rfl⟩ := q
    exact ⟨_, _, J, 3, wr, σ, F, by rw [if_neg c]; rfl, rfl, rfl, hr, rfl⟩
  · exact ⟨_, _, I, (), σ, F, by rw [if_pos c]; rfl, rfl, rfl, hr, rfl⟩
theorem c6D (n wr : Int) : toldM (n, wr) = bnd (rightM wr) fun _ => ret n := by
  unfold toldM rightM
  by_cases h : wr = 0
  · rw [if_pos h, if_pos h]; rfl
  · rw [if_neg h, if_neg h]; rfl
theorem a8g (r : Int × Int) : CR k0 ev0 ns ars 148 [rP g, vi r.1, vi r.2] H g X (toldM r) vi := by
  intro σ F hr ho w I
  refine e5Q ?_
  unfold d8f
  rw [show toldM r = bnd (rightM r.2) fun _ => ret r.1 from c6D r.1 r.2]
  refine d8 (cap := []) (fun args w => Tryd.call136 args w) ?_
  refine (b7s r.2).use hr ho I (fun a σ' F' w' e h2 J => ?_) fun st wr σ' F' w' e h2 J => ?_
  · exact ⟨_, _, J, r.1, σ', F', by rw [G7 e]; rfl, rfl, rfl, h2, rfl⟩
  · exact ⟨_, _, J, st, wr, σ', F', by rw [K0 e], rfl, rfl, h2, rfl⟩
variable (hk : k0 ≤ 1000000)
include hk
theorem a5y : CR k0 ev0 ns ars 131 [rP g] H g X stepM uE := by
  intro σ F hr ho w I
  refine e5k ?_
  unfold d7Q
  obtain ⟨sc, ev, Fe, Fv, Fa, W, rfl⟩ := hr
  obtain ⟨h1, h2, h3, h4, h5, h6, h7⟩ := W
  obtain ⟨left, steps, script, events, vars, arrs⟩ := σ
  have hs := ho.sum
  have hp := ho.pos
  dsimp only at hs hp h1 h3 h4 h5
  have I1 := I.un4
  refine A8 fun j1 hx1 => ?_
  refine a7 (r5 _) ?_
  refine a7 b1N ?_
  refine d6 (ld1 Tryd.isAgg3 (I1.at1 (o := 0) (vs := [vi (left : Int)]) (nb rfl) rfl)) ?_
  refine a7 (l0 _ _ _ _ _ _) ?_
  refine j7 (fun c => ?_) (fun c => ?_)
  · refine d8 (cap := []) (fun args w => Tryd.call135 args w) ?_
    refine m9 (Fi := []) (Fr := [_, _, _, _]) I1 (b5L _ _ _) (fun _ _ _ _ _ _ _ q => q.elim) fun c2 H' Fo w' J q => ?_
    obtain ⟨rfl, rfl, rfl⟩ := q
    exact ⟨_, _, J.jn4, 1, 0, _, _, by unfold stepM; rw [if_pos (by dsimp only; omega)], rfl, rfl, ⟨sc, ev, Fe, Fv, Fa, ⟨h1, h2, h3, h4, h5, h6, h7⟩, rfl⟩, rfl⟩
  · obtain ⟨n, rfl⟩ : ∃ n, left = n + 1 := ⟨left - 1, by omega⟩
    refine hx1 _ _ ?_
    unfold c7t
    intro _
    refine a7 (r5 _) ?_
    refine a7 b1N ?_
    refine d6 (ld1 Tryd.isAgg3 (I1.at1 (o := 0) (vs := [vi ((n + 1 : Nat) : Int)]) (nb rfl) rfl)) ?_
    refine a7 (b3s _ _ _ _ _ _) ?_
    rw [c6L _ (by omega) (by omega), show ((n + 1 : Nat) : Int) - 1 = n by omega]
    refine a7 (r5 _) ?_
    refine a7 b1N ?_
    refine o7 I1 Tryd.sizeOf3 (vs := [vi (n : Int)]) (cs' := [vi (n : Int), vi steps, vs sc, vs ev, .map X.mv, .map X.ma]) rfl rfl (nb rfl) rfl rfl fun w2 I2 _ => ?_
    refine a7 (r5 _) ?_
    refine a7 b1O ?_
    refine d6 (ld1 Tryd.isAgg3 (I2.at1 (o := 1) (vs := [vi steps]) (nb rfl) rfl)) ?_
    refine a7 (J0 _ _ _ _ _ _) ?_
    rw [c6L _ (by omega) (by omega)]
    refine a7 (r5 _) ?_
    refine a7 b1O ?_
    refine o7 I2 Tryd.sizeOf3 (vs := [vi (steps + 1)]) (cs' := [vi (n : Int), vi (steps + 1), vs sc, vs ev, .map X.mv, .map X.ma]) rfl rfl (nb rfl) rfl rfl fun w3 I3 _ => ?_
    exact ⟨_, _, I3.jn4, (), ⟨n, steps + 1, script, events, vars, arrs⟩, _, by unfold stepM; rw [if_neg (Nat.succ_ne_zero n)]; rfl, rfl, rfl, ⟨sc, ev, Fe, Fv, Fa, ⟨h1, h2, h3, h4, h5, h6, h7⟩, rfl⟩, rfl⟩
def gOf (X : Cx) (x : ByteArray) : Nat := (((lk x X.la).bind (·.a)).map (·.block)).getD 0
def pI (X : Cx) (x : ByteArray) (i : Int) : Value := .pointer (some ⟨gOf X x, 0 + i.toNat * 1, none⟩)
omit hk in
theorem c0N {x : ByteArray} {sl : Sl} {xs : List Int} {F : Frag} (hl : lk x X.la = some sl) (hr : RowL 2 1 ci sl xs F) {i : Nat} {v : Int} (hx : xs[i]? = some v) : sl.a = some ⟨gOf X x, 0, none⟩ := by
  obtain ⟨g1, arr, ha, _⟩ := hr.addr hx
  rw [ha]
  unfold gOf
  rw [hl, Option.bind_some, ha]
  rfl
omit hk in
theorem c0O {σ : St} {x : ByteArray} (ho : Okst k0 ev0 ns ars σ) (hx : x ∈ ars) : lk x σ.arrs = some (rowOf x σ) := by
  rw [← ho.rs] at hx
  obtain ⟨l, hl⟩ := b5A hx
  unfold rowOf
  rw [hl]; rfl
theorem c7A {x : ByteArray} {i : Int} (hx : x ∈ ars) : CR k0 ev0 ns ars 133 [rP g, kS x, vi i] H g X (itemM x i) (fun _ => pI X x i) := by
  intro σ F hr ho w I
  refine e5D ?_
  unfold d8a
  unfold itemM
  refine d8 (cap := []) (fun args w => Tryd.call131 args w) ?_
  refine (a5y hk).use hr ho I (fun a σ1 F1 w1 e1 hr1 I1 => ?_) fun st wr σ1 F1 w1 e1 hr1 I1 => ?_
  · have ho1 : Okst k0 ev0 ns ars σ1 := by have := b4t σ ho; rw [e1] at this; exact this.2.1
    have e2 : bnd stepM (fun _ => boundM x i) σ = boundM x i σ1 := G7 e1
    rw [e2]
    clear e2 e1 hr I ho
    obtain ⟨sc, ev, Fe, Fv, Fa, W, rfl⟩ := hr1
    obtain ⟨h1, h2, h3, h4, h5, h6, h7⟩ := W
    have I2 := I1.un4
    obtain ⟨sl, F2, Fr, hl, hrow, hp, hset⟩ := h5.get (c0O ho1 hx)
    have hlen := hrow.2.1
    have hr1 : RnF g X σ1 H (bx g 90 (rcs X σ1 sc ev) ++ (Fe ++ (Fv ++ Fa))) := ⟨sc, ev, Fe, Fv, Fa, ⟨h1, h2, h3, h4, h5, h6, h7⟩, rfl⟩
    refine a7 (r5 _) ?_
    refine a7 b1P ?_
    refine d6 (ld1 Tryd.isAgg88 (I2.at1 (o := 5) (vs := [.map X.ma]) (nb rfl) rfl)) ?_
    refine c2y (keyS Tryd.underlying9) Tryd.underlying88 (z := (⟨none, 0, 0⟩ : Sl)) (fun w => Tryd.zeroValue45 w) I2 h7 x ?_
    rw [hl, Option.getD_some]
    refine A8 fun j1 hx1 => ?_
    refine a7 (C5 _ _ _ _ _ _) ?_
    refine a7 (Pu.g fun c => (by rw [P6, s6 c]; exact a6V _ _ _)) ?_
    rw [P6]
    refine a7 (Pu.g (v := .bool (decide ((sl.n : Int) ≤ i))) fun c => (by rw [s6 c, s6 c]; exact b0P _ _ _ _ _ _)) ?_
    refine a7 (a1X _ _) ?_
    unfold boundM
    rw [show ((rowOf x σ1).length : Int) = sl.n by omega]
    refine p5 (fun c => ?_) (fun c => ?_)
    · have hb : i < 0 ∨ (sl.n : Int) ≤ i := by simpa using c
      rw [if_pos hb]
      refine d8 (cap := []) (fun args w => Tryd.call136 args w) ?_
      refine (b7s 3).use hr1 ho1 I1 (fun a σ2 F3 w3 e3 hr3 I3 => ?_) fun st wr σ2 F3 w3 e3 hr3 I3 => ?_
      · cases e3
      · cases e3
        exact ⟨_, _, I3, 3, 3, σ1, F3, rfl, rfl, rfl, hr3, rfl⟩
    · have hb : ¬ (i < 0 ∨ (sl.n : Int) ≤ i) := by simpa using c
      refine hx1 _ _ ?_
      unfold c7y
      intro _
      obtain ⟨v, hv⟩ := u4 (l := rowOf x σ1) (i := i.toNat) (by omega)
      refine a7 (T0 (c0N hl hrow hv) _ _ _ _ (by omega) (by omega)) ?_
      exact ⟨_, _, I1, (), σ1, _, by unfold boundM; rw [show ((rowOf x σ1).length : Int) = sl.n by omega, if_neg hb], rfl, rfl, hr1, rfl⟩
  · exact ⟨_, _, I1, st, wr, σ1, F1, K0 e1, rfl, rfl, hr1, rfl⟩
theorem d8i (hev : ev0 ≤ 1000000) : CR k0 ev0 ns ars 147 [rP g] H g X inM vi := by
  intro σ F hr ho w I
  refine e5O ?_
  unfold d8e
  have hr0 := hr
  obtain ⟨sc, ev, Fe, Fv, Fa, W, rfl⟩ := hr
  have hsn := W.hsc.1
  have I1 := I.un4
  refine A8 fun j1 hx1 => ?_
  refine a7 (r5 _) ?_
  refine a7 a7G ?_
  refine d6 (ld1 Tryd.isAgg45 (I1.at1 (o := 2) (vs := [vs sc]) (nb rfl) rfl)) ?_
  refine a7 (a6V _ _ _) ?_
  refine a7 (l0 _ _ _ _ _ _) ?_
  refine j7 (fun c => ?_) (fun c => ?_)
  · have hs : σ.script = [] := List.length_eq_zero_iff.1 (by omega)
    refine d8 (cap := []) (fun args w => Tryd.call135 args w) ?_
    refine m9 (Fi := []) (Fr := [_]) I (b5L _ _ _) (fun _ _ _ _ _ _ _ q => q.elim) fun c2 H' Fo w' J q => ?_
    obtain ⟨rfl, rfl, rfl⟩ := q
    exact ⟨_, _, J, 2, 0, σ, _, by unfold inM; rw [hs], rfl, rfl, hr0, rfl⟩
  · obtain ⟨n, r, hs⟩ : ∃ n r, σ.script = n :: r := by
      cases h : σ.script with
      | nil => rw [h] at hsn; exact (c (by rw [hsn]; rfl)).elim
      | cons n r => exact ⟨n, r, rfl⟩
    have em : inM σ = bnd stepM (fun _ => fun s => .ok n { s with script := r, events := s.events ++ [⟨true, n, false⟩] }) σ := by
      unfold inM bnd stepM
      rw [hs]
      dsimp only
      split <;> rfl
    refine hx1 _ _ ?_
    unfold c7z
    intro _
    rw [em]
    clear hx1 em
    refine d8 (cap := []) (fun args w => Tryd.call131 args w) ?_
    refine (a5y hk).use hr0 ho I (fun a σ1 F1 w1 e1 hr1 J1 => ?_) fun st wr σ1 F1 w1 e1 hr1 J1 => ?_
    · rw [G7 e1]
      have hl1 : σ1.script = n :: r ∧ σ1.events.length + 1 ≤ ev0 := by
        have he := ho.ev
        unfold stepM at e1
        split at e1
        · cases e1
        · cases e1; exact ⟨hs, by dsimp only; omega⟩
      clear e1 hr0 I1 I W
      obtain ⟨sc1, ev1, Fe1, Fv1, Fa1, W1, rfl⟩ := hr1
      obtain ⟨h1, h2, h3, h4, h5, h6, h7⟩ := W1
      rw [hl1.1] at h1
      have hsn1 := h1.1
      rw [List.length_cons] at hsn1
      have I2 := J1.un4
      obtain ⟨g1, o1, ha1, hA1⟩ := h1.2 0 n rfl
      refine a7 (r5 _) ?_
      refine a7 a7G ?_
      refine d6 (ld1 Tryd.isAgg45 (I2.at1 (o := 2) (vs := [vs sc1]) (nb rfl) rfl)) ?_
      refine a7 (T0 ha1 _ _ _ _ (Int.le_refl 0) (by omega)) ?_
      refine d6 (ld1 Tryd.isAgg2 (I2.atH hA1)) ?_
      refine a7 (r5 _) ?_
      refine a7 a7G ?_
      refine d6 (ld1 Tryd.isAgg45 (I2.at1 (o := 2) (vs := [vs sc1]) (nb rfl) rfl)) ?_
      refine a7 (d4i Tryd.underlying45 Tryd.sizeOf2 sc1 (by decide) (by omega)) ?_
      have hcut : SlH H 1 ci (sc1.cut 1 sc1.n sc1.c 1) r := by
        have := h1.cut (l := 1) (h := sc1.n) (m := sc1.c) (by omega) (Nat.le_refl _) h2
        rw [List.take_of_length_le (by rw [List.length_cons]; omega)] at this
        exact this
      have hcap : (sc1.cut 1 sc1.n sc1.c 1).n ≤ (sc1.cut 1 sc1.n sc1.c 1).c := by unfold Sl.cut; dsimp only; omega
      rw [show (1 : Int).toNat = 1 from rfl]
      generalize sc1.cut 1 sc1.n sc1.c 1 = sc2 at hcut hcap ⊢
      refine a7 (r5 _) ?_
      refine a7 a7G ?_
      refine o7 I2 Tryd.sizeOf45 (vs := [vs sc2]) (cs' := [vi (σ1.left : Int), vi σ1.steps, vs sc2, vs ev1, .map X.mv, .map X.ma]) rfl rfl (nb rfl) rfl rfl fun w3 I3 _ => ?_
      refine a7 (r5 _) ?_
      refine a7 a5J ?_
      refine d6 (ld1 Tryd.isAgg46 (I3.at1 (o := 3) (vs := [vs ev1]) (nb rfl) rfl)) ?_
      refine a7 (c1F _ _) ?_
      refine U6 (e := 55) (c := T6) (xs := [⟨true, n, false⟩]) I3 (c6S _ _ _) rfl rfl a6k a6l (nb rfl) fun s4 F4 w4 hr4 I4 _ => ?_
      refine d1p (s := ev1) (xs := σ1.events) (I4.bring 2) h3 (hr4.srcO ((I4.bring 2).bring 1)) (by rw [List.length_singleton]; omega) fun s5 F5 w5 hr5 I5 _ => ?_
      refine a7 (r5 _) ?_
      refine a7 a5J ?_
      refine o7 ((I5.bring 1).drop.bring 1) Tryd.sizeOf46 (vs := [vs s5]) (cs' := [vi (σ1.left : Int), vi σ1.steps, vs sc2, vs s5, .map X.mv, .map X.ma]) rfl rfl (nb rfl) rfl rfl fun w6 I6 _ => ?_
      exact ⟨_, _, I6.jn4, n, { σ1 with script := r, events := σ1.events ++ [⟨true, n, false⟩] }, _, rfl, rfl, rfl, ⟨sc2, s5, F5, Fv1, Fa1, ⟨hcut, hcap, hr5, h4, h5, h6, h7⟩, rfl⟩, rfl⟩
    · exact ⟨_, _, J1, st, wr, σ1, F1, K0 e1, rfl, rfl, hr1, rfl⟩
end
end Go.Proofs.YtnhkdkcgdcgmdaaDoor
