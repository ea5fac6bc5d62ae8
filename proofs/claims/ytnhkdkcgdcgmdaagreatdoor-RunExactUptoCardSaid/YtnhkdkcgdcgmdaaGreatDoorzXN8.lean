/- A runner's methods, the small ones. Off the readings. -/
import Derived.Test.YtnhkdkcgdcgmdaaGreatDoorzXN6
import Derived.Test.YtnhkdkcgdcgmdaaGreatDoorzXV1s
namespace Go.Proofs.YtnhkdkcgdcgmdaaGreatDoor
open Go.RowKit
set_option maxRecDepth 100000
set_option maxHeartbeats 2000000
abbrev rP (g : Nat) : Value := .pointer (some ⟨g, 0, none⟩)
def uE : Unit → Value := fun _ => .tuple #[]
abbrev bE : Bool → Value := fun b => .bool b
theorem c5G {P : Program} {E : Pan} {w : World} {K : Value → World → Prop} {t : TypeId} {v : Value} (h : E [{ v := .iface t v, recovered := false }] w) : opK P E (xV (Instr.panic (.iface t v))) w K := h
section
variable {P : Program} {kt : TypeId} {kd : TypeDesc} {κ ν : Type} [DecidableEq κ] {kv : κ → Value} {vv : ν → Value} {w0 w : World} {ps : Nat → Prop} {H0 H : Hp} {Fs : List Frag} {K : Value → Prop}
theorem b2h (ko : KeyOk P kt kd kv) {mt et : TypeId} (hm : P.underlying mt = some (.map kt et)) {z : ν} (hz : ∀ w, (zeroValue et).run P w = .ok (vv z) w) {x : Option Nat} {l : List (κ × ν)} (I : Inv w0 ps H0 H Fs w) (hM : MapH H kv vv x l) (k : κ)
  (h : K (vv ((lk k l).getD z))) : qL P w (blk (.map x)) (xV (Instr.lookup mt (.map x) (kv k) false)) K := by
 obtain ⟨g, es, c, rfl, h2, h3⟩ := hM
 exact u7 (Ld.ok fun w' hw => b3i (clock := c) ko hm hz k h3 (by rw [hw]; exact I.sub g _ h2)) h
end
section
variable {k0 : Int} {ev0 : Nat} {ns ars : List ByteArray} {H : Hp} {g : Nat} {X : Cx}
theorem b5f (x : Value) (a b : Int) : Ct Tryz.prog 136 [x, vi a, vi b] H [] (fun _ _ _ => False) (fun c H' Fo => c = [{ v := endsV a b, recovered := false }] ∧ H' = H ∧ Fo = []) := by
 intro w I
 refine d0i ?_
 unfold d3q
 refine a8 (b8Y _ _) ?_
 refine a8 (b9v (by kernel_rfl) _) ?_
 exact c5G ⟨_, _, I, rfl, rfl, rfl⟩
def rightM (wr : Int) : M Unit := if wr = 0 then ret () else halt 3 wr
theorem b5V (wr : Int) : CR k0 ev0 ns ars 137 [rP g, vi wr] H g X (rightM wr) uE := by
 intro σ F hr ho w I
 refine d0j ?_
 unfold d3r
 refine a8 (N9 _ _ _ _ _ _) ?_
 unfold rightM
 refine b6Z (fun c => ?_) (fun c => ?_)
 ·refine s6 (cap := []) (fun args w => Tryz.call136 args w) ?_
  refine R6 (Fi := []) (Fr := [F]) I (b5f _ _ _) (fun _ _ _ _ _ _ _ q => q.elim) fun c2 H' Fo w' J q => ?_
  obtain ⟨rfl, rfl, rfl⟩ := q
  exact ⟨_, _, J, 3, wr, σ, F, by rw [if_neg c]; rfl, rfl, rfl, hr, rfl⟩
 ·exact ⟨_, _, I, (), σ, F, by rw [if_pos c]; rfl, rfl, rfl, hr, rfl⟩
theorem c1P (n wr : Int) : toldM (n, wr) = bnd (rightM wr) fun _ => ret n := by
 unfold toldM rightM
 by_cases h : wr = 0
 ·rw [if_pos h, if_pos h]; rfl
 ·rw [if_neg h, if_neg h]; rfl
theorem b0Q (r : Int × Int) : CR k0 ev0 ns ars 160 [rP g, vi r.1, vi r.2] H g X (toldM r) vi := by
 intro σ F hr ho w I
 refine d0p ?_
 unfold d3x
 rw [show toldM r = bnd (rightM r.2) fun _ => ret r.1 from c1P r.1 r.2]
 refine s6 (cap := []) (fun args w => Tryz.call137 args w) ?_
 refine (b5V r.2).use hr ho I (fun a σ' F' w' e h2 J => ?_) fun st wr σ' F' w' e h2 J => ?_
 ·exact ⟨_, _, J, r.1, σ', F', by rw [R0 e]; rfl, rfl, rfl, h2, rfl⟩
 ·exact ⟨_, _, J, st, wr, σ', F', by rw [U4 e], rfl, rfl, h2, rfl⟩
variable (hk : k0 ≤ 1000000)
include hk
theorem a8D : CR k0 ev0 ns ars 132 [rP g] H g X stepM uE := by
 intro σ F hr ho w I
 refine d0e ?_
 unfold d3m
 obtain ⟨sc, ev, Fe, Fv, Fa, W, rfl⟩ := hr
 obtain ⟨h1, h2, h3, h4, h5, h6, h7⟩ := W
 obtain ⟨left, steps, script, events, vars, arrs⟩ := σ
 have hs := ho.sum
 have hp := ho.pos
 dsimp only at hs hp h1 h3 h4 h5
 have I1 := I.un4
 refine r5 fun j1 hx1 => ?_
 refine a8 (m3 _) ?_
 refine a8 b3p ?_
 refine b6 (ld1 Tryz.isAgg3 (I1.at1 (o := 0) (vs := [vi (left : Int)]) (nb rfl) rfl)) ?_
 refine a8 (f9 _ _ _ _ _ _) ?_
 refine G4 (fun c => ?_) (fun c => ?_)
 ·refine s6 (cap := []) (fun args w => Tryz.call136 args w) ?_
  refine R6 (Fi := []) (Fr := [_, _, _, _]) I1 (b5f _ _ _) (fun _ _ _ _ _ _ _ q => q.elim) fun c2 H' Fo w' J q => ?_
  obtain ⟨rfl, rfl, rfl⟩ := q
  exact ⟨_, _, J.jn4, 1, 0, _, _, by unfold stepM; rw [if_pos (by dsimp only; omega)], rfl, rfl, ⟨sc, ev, Fe, Fv, Fa, ⟨h1, h2, h3, h4, h5, h6, h7⟩, rfl⟩, rfl⟩
 ·obtain ⟨n, rfl⟩ : ∃ n, left = n + 1 := ⟨left - 1, by omega⟩
  refine hx1 _ _ ?_
  unfold c2K
  intro _
  refine a8 (m3 _) ?_
  refine a8 b3p ?_
  refine b6 (ld1 Tryz.isAgg3 (I1.at1 (o := 0) (vs := [vi ((n + 1 : Nat) : Int)]) (nb rfl) rfl)) ?_
  refine a8 (a5s _ _ _ _ _ _) ?_
  rw [b2D _ (by omega) (by omega), show ((n + 1 : Nat) : Int) - 1 = n by omega]
  refine a8 (m3 _) ?_
  refine a8 b3p ?_
  refine o4 I1 Tryz.sizeOf3 (vs := [vi (n : Int)]) (cs' := [vi (n : Int), vi steps, vs sc, vs ev, .map X.mv, .map X.ma]) rfl rfl (nb rfl) rfl rfl fun w2 I2 _ => ?_
  refine a8 (m3 _) ?_
  refine a8 b3q ?_
  refine b6 (ld1 Tryz.isAgg3 (I2.at1 (o := 1) (vs := [vi steps]) (nb rfl) rfl)) ?_
  refine a8 (r9 _ _ _ _ _ _) ?_
  rw [b2D _ (by omega) (by omega)]
  refine a8 (m3 _) ?_
  refine a8 b3q ?_
  refine o4 I2 Tryz.sizeOf3 (vs := [vi (steps + 1)]) (cs' := [vi (n : Int), vi (steps + 1), vs sc, vs ev, .map X.mv, .map X.ma]) rfl rfl (nb rfl) rfl rfl fun w3 I3 _ => ?_
  exact ⟨_, _, I3.jn4, (), ⟨n, steps + 1, script, events, vars, arrs⟩, _, by unfold stepM; rw [if_neg (Nat.succ_ne_zero n)]; rfl, rfl, rfl, ⟨sc, ev, Fe, Fv, Fa, ⟨h1, h2, h3, h4, h5, h6, h7⟩, rfl⟩, rfl⟩
def gOf (X : Cx) (x : ByteArray) : Nat := (((lk x X.la).bind (·.a)).map (·.block)).getD 0
def pI (X : Cx) (x : ByteArray) (i : Int) : Value := .pointer (some ⟨gOf X x, 0 + i.toNat * 1, none⟩)
omit hk in
theorem b8k {x : ByteArray} {sl : Sl} {xs : List Int} {F : Frag} (hl : lk x X.la = some sl) (hr : RowL 2 1 ci sl xs F) {i : Nat} {v : Int} (hx : xs[i]? = some v) : sl.a = some ⟨gOf X x, 0, none⟩ := by
 obtain ⟨g1, arr, ha, _⟩ := hr.addr hx
 rw [ha]
 unfold gOf
 rw [hl, Option.bind_some, ha]
 rfl
omit hk in
theorem b8l {σ : St} {x : ByteArray} (ho : Okst k0 ev0 ns ars σ) (hx : x ∈ ars) : lk x σ.arrs = some (rowOf x σ) := by
 rw [← ho.rs] at hx
 obtain ⟨l, hl⟩ := b5d hx
 unfold rowOf
 rw [hl]; rfl
theorem c2P {x : ByteArray} {i : Int} (hx : x ∈ ars) : CR k0 ev0 ns ars 134 [rP g, kS x, vi i] H g X (itemM x i) (fun _ => pI X x i) := by
 intro σ F hr ho w I
 refine d0g ?_
 unfold d3o
 unfold itemM
 refine s6 (cap := []) (fun args w => Tryz.call132 args w) ?_
 refine (a8D hk).use hr ho I (fun a σ1 F1 w1 e1 hr1 I1 => ?_) fun st wr σ1 F1 w1 e1 hr1 I1 => ?_
 ·have ho1 : Okst k0 ev0 ns ars σ1 := by have := b2g σ ho; rw [e1] at this; exact this.2.1
  have e2 : bnd stepM (fun _ => boundM x i) σ = boundM x i σ1 := R0 e1
  rw [e2]
  clear e2 e1 hr I ho
  obtain ⟨sc, ev, Fe, Fv, Fa, W, rfl⟩ := hr1
  obtain ⟨h1, h2, h3, h4, h5, h6, h7⟩ := W
  have I2 := I1.un4
  obtain ⟨sl, F2, Fr, hl, hrow, hp, hset⟩ := h5.get (b8l ho1 hx)
  have hlen := hrow.2.1
  have hr1 : RnF g X σ1 H (bx g 80 (rcs X σ1 sc ev) ++ (Fe ++ (Fv ++ Fa))) := ⟨sc, ev, Fe, Fv, Fa, ⟨h1, h2, h3, h4, h5, h6, h7⟩, rfl⟩
  refine a8 (m3 _) ?_
  refine a8 b3s ?_
  refine b6 (ld1 Tryz.isAgg78 (I2.at1 (o := 5) (vs := [.map X.ma]) (nb rfl) rfl)) ?_
  refine b9E (keyS Tryz.underlying9) Tryz.underlying78 (z := (⟨none, 0, 0⟩ : Sl)) (fun w => Tryz.zeroValue37 w) I2 h7 x ?_
  rw [hl, Option.getD_some]
  refine r5 fun j1 hx1 => ?_
  refine a8 (r7 _ _ _ _ _ _) ?_
  refine a8 (Pu.g fun c => (by rw [t8, g7 c]; exact a4l _ _ _)) ?_
  rw [t8]
  refine a8 (Pu.g (v := .bool (decide ((sl.n : Int) ≤ i))) fun c => (by rw [g7 c, g7 c]; exact a2p _ _ _ _ _ _)) ?_
  refine a8 (E8 _ _) ?_
  unfold boundM
  rw [show ((rowOf x σ1).length : Int) = sl.n by omega]
  refine V3 (fun c => ?_) (fun c => ?_)
  ·have hb : i < 0 ∨ (sl.n : Int) ≤ i := by simpa using c
   rw [if_pos hb]
   refine s6 (cap := []) (fun args w => Tryz.call137 args w) ?_
   refine (b5V 3).use hr1 ho1 I1 (fun a σ2 F3 w3 e3 hr3 I3 => ?_) fun st wr σ2 F3 w3 e3 hr3 I3 => ?_
   ·cases e3
   ·cases e3
    exact ⟨_, _, I3, 3, 3, σ1, F3, rfl, rfl, rfl, hr3, rfl⟩
  ·have hb : ¬ (i < 0 ∨ (sl.n : Int) ≤ i) := by simpa using c
   refine hx1 _ _ ?_
   unfold c2M
   intro _
   obtain ⟨v, hv⟩ := r6 (l := rowOf x σ1) (i := i.toNat) (by omega)
   refine a8 (P4 (b8k hl hrow hv) _ _ _ _ (by omega) (by omega)) ?_
   exact ⟨_, _, I1, (), σ1, _, by unfold boundM; rw [show ((rowOf x σ1).length : Int) = sl.n by omega, if_neg hb], rfl, rfl, hr1, rfl⟩
 ·exact ⟨_, _, I1, st, wr, σ1, F1, U4 e1, rfl, rfl, hr1, rfl⟩
theorem c6X (hev : ev0 ≤ 1000000) : CR k0 ev0 ns ars 159 [rP g] H g X inM vi := by
 intro σ F hr ho w I
 refine d0o ?_
 unfold d3w
 have hr0 := hr
 obtain ⟨sc, ev, Fe, Fv, Fa, W, rfl⟩ := hr
 have hsn := W.hsc.1
 have I1 := I.un4
 refine r5 fun j1 hx1 => ?_
 refine a8 (m3 _) ?_
 refine a8 b0m ?_
 refine b6 (ld1 Tryz.isAgg37 (I1.at1 (o := 2) (vs := [vs sc]) (nb rfl) rfl)) ?_
 refine a8 (a4l _ _ _) ?_
 refine a8 (f9 _ _ _ _ _ _) ?_
 refine G4 (fun c => ?_) (fun c => ?_)
 ·have hs : σ.script = [] := List.length_eq_zero_iff.1 (by omega)
  refine s6 (cap := []) (fun args w => Tryz.call136 args w) ?_
  refine R6 (Fi := []) (Fr := [_]) I (b5f _ _ _) (fun _ _ _ _ _ _ _ q => q.elim) fun c2 H' Fo w' J q => ?_
  obtain ⟨rfl, rfl, rfl⟩ := q
  exact ⟨_, _, J, 2, 0, σ, _, by unfold inM; rw [hs], rfl, rfl, hr0, rfl⟩
 ·obtain ⟨n, r, hs⟩ : ∃ n r, σ.script = n :: r := by
   cases h : σ.script with
   | nil => rw [h] at hsn; exact (c (by rw [hsn]; rfl)).elim
   | cons n r => exact ⟨n, r, rfl⟩
  have em : inM σ = bnd stepM (fun _ => fun s => .ok n { s with script := r, events := s.events ++ [⟨true, n, false⟩] }) σ := by
   unfold inM bnd stepM
   rw [hs]
   dsimp only
   split <;> rfl
  refine hx1 _ _ ?_
  unfold c2O
  intro _
  rw [em]
  clear hx1 em
  refine s6 (cap := []) (fun args w => Tryz.call132 args w) ?_
  refine (a8D hk).use hr0 ho I (fun a σ1 F1 w1 e1 hr1 J1 => ?_) fun st wr σ1 F1 w1 e1 hr1 J1 => ?_
  ·rw [R0 e1]
   have hl1 : σ1.script = n :: r ∧ σ1.events.length + 1 ≤ ev0 := by
    have he := ho.ev
    unfold stepM at e1
    split at e1
    ·cases e1
    ·cases e1; exact ⟨hs, by dsimp only; omega⟩
   clear e1 hr0 I1 I W
   obtain ⟨sc1, ev1, Fe1, Fv1, Fa1, W1, rfl⟩ := hr1
   obtain ⟨h1, h2, h3, h4, h5, h6, h7⟩ := W1
   rw [hl1.1] at h1
   have hsn1 := h1.1
   rw [List.length_cons] at hsn1
   have I2 := J1.un4
   obtain ⟨g1, o1, ha1, hA1⟩ := h1.2 0 n rfl
   refine a8 (m3 _) ?_
   refine a8 b0m ?_
   refine b6 (ld1 Tryz.isAgg37 (I2.at1 (o := 2) (vs := [vs sc1]) (nb rfl) rfl)) ?_
   refine a8 (P4 ha1 _ _ _ _ (Int.le_refl 0) (by omega)) ?_
   refine b6 (ld1 Tryz.isAgg2 (I2.atH hA1)) ?_
   refine a8 (m3 _) ?_
   refine a8 b0m ?_
   refine b6 (ld1 Tryz.isAgg37 (I2.at1 (o := 2) (vs := [vs sc1]) (nb rfl) rfl)) ?_
   refine a8 (c6o Tryz.underlying37 Tryz.sizeOf2 sc1 (by decide) (by omega)) ?_
   have hcut : SlH H 1 ci (sc1.cut 1 sc1.n sc1.c 1) r := by
    have := h1.cut (l := 1) (h := sc1.n) (m := sc1.c) (by omega) (Nat.le_refl _) h2
    rw [List.take_of_length_le (by rw [List.length_cons]; omega)] at this
    exact this
   have hcap : (sc1.cut 1 sc1.n sc1.c 1).n ≤ (sc1.cut 1 sc1.n sc1.c 1).c := by unfold Sl.cut; dsimp only; omega
   rw [show (1 : Int).toNat = 1 from rfl]
   generalize sc1.cut 1 sc1.n sc1.c 1 = sc2 at hcut hcap ⊢
   refine a8 (m3 _) ?_
   refine a8 b0m ?_
   refine o4 I2 Tryz.sizeOf37 (vs := [vs sc2]) (cs' := [vi (σ1.left : Int), vi σ1.steps, vs sc2, vs ev1, .map X.mv, .map X.ma]) rfl rfl (nb rfl) rfl rfl fun w3 I3 _ => ?_
   refine a8 (m3 _) ?_
   refine a8 a8L ?_
   refine b6 (ld1 Tryz.isAgg39 (I3.at1 (o := 3) (vs := [vs ev1]) (nb rfl) rfl)) ?_
   refine a8 (b3Z _ _) ?_
   refine a2l (e := 95) (c := r8) (xs := [⟨true, n, false⟩]) I3 (b4G _ _ _) rfl rfl a2Y a2Z (nb rfl) fun s4 F4 w4 hr4 I4 _ => ?_
   refine b6t (s := ev1) (xs := σ1.events) (I4.bring 2) h3 (hr4.srcO ((I4.bring 2).bring 1)) (by rw [List.length_singleton]; omega) fun s5 F5 w5 hr5 I5 _ => ?_
   refine a8 (m3 _) ?_
   refine a8 a8L ?_
   refine o4 ((I5.bring 1).drop.bring 1) Tryz.sizeOf39 (vs := [vs s5]) (cs' := [vi (σ1.left : Int), vi σ1.steps, vs sc2, vs s5, .map X.mv, .map X.ma]) rfl rfl (nb rfl) rfl rfl fun w6 I6 _ => ?_
   exact ⟨_, _, I6.jn4, n, { σ1 with script := r, events := σ1.events ++ [⟨true, n, false⟩] }, _, rfl, rfl, rfl, ⟨sc2, s5, F5, Fv1, Fa1, ⟨hcut, hcap, hr5, h4, h5, h6, h7⟩, rfl⟩, rfl⟩
  ·exact ⟨_, _, J1, st, wr, σ1, F1, U4 e1, rfl, rfl, hr1, rfl⟩
end
set_option maxHeartbeats 4000000
theorem Inv.p1 {w0 w : World} {ps : Nat → Prop} {H0 H : Hp} {Fs : List Frag} {A B : Frag} (h : A.Perm B) (I : Inv w0 ps H0 H (A :: Fs) w) : Inv w0 ps H0 H (B :: Fs) w := I.perm (by simp only [List.flatten_cons]; exact h.symm.append_right _)
section
variable {k0 : Int} {ev0 : Nat} {ns ars : List ByteArray} {H : Hp} {g : Nat} {X : Cx}
theorem c1Q {e : m2} {t : PT} (he : EH H e t) (ha : Ar t) {K : Int → Bool → Hp → Prop} (h : K (cstP t).1 (cstP t).2 H) : a8t e H K := b2V _ (c2y he ha h)
theorem c2Q {σ : St} {x : ByteArray} (ho : Okst k0 ev0 ns ars σ) (hx : x ∈ ns) : ∃ v, lk x σ.vars = some v ∧ getM x σ = .ok v σ := by
 rw [← ho.vs] at hx
 obtain ⟨v, hv⟩ := b5d hx
 exact ⟨v, hv, by unfold getM; rw [hv]; rfl⟩
theorem c0Y {e : m2} {t : PT} (he : EH H e t) (ha : Ar t) (hn : Nm ns ars (uT t)) {σ : St} {F : Frag} (hr : RnF g X σ H F) (ho : Okst k0 ev0 ns ars σ) :
  Ct Tryz.prog 131 [rP g, .agg (f4 e).toArray] H [F] (fun v H' Fo => ∃ n : Int, v = .tuple #[vi n, .bool (plainX t)] ∧ (plainX t = true → evT t σ = .ok n σ) ∧ H' = H ∧ Fo = [F]) noQE := by
 intro w I
 refine d0d ?_
 unfold d3l
 have hcp := c1Q he ha (K := fun a b H' => a = (cstP t).1 ∧ b = (cstP t).2 ∧ H' = H) ⟨rfl, rfl, rfl⟩
 obtain ⟨ts, rfl, hl⟩ := he.inv
 refine F0 I (cs := f4 e) rfl fun g1 w1 I1 _ => ?_
 refine a8 K8 ?_
 refine b6 (ld1 Tryz.isAgg3 (I1.at1 (o := 0) (vs := [vi e.b7]) (nb rfl) rfl)) ?_
 refine a8 (f9 _ _ _ _ _ _) ?_
 refine G4 (fun c => ?_) (fun c => ?_)
 ·obtain ⟨sc, ev, Fe, Fv, Fa, W, rfl⟩ := hr
  have hx : e.d9 ∈ ns := by
   have h1 := hn.own.1
   unfold useL at h1
   rw [c] at h1
   exact (h1 ⟨e.d9, false⟩ (by simp)).2 rfl
  obtain ⟨v, hv, hg⟩ := c2Q ho hx
  obtain ⟨g2, Fr, hlv, hp, _⟩ := W.hvs.get hv
  refine U6 I1 fun w2 I2 => ?_
  have I3 := (I2.bring 1).un4
  have I4 := (((I3.bring 2).p1 hp).un2 : Inv w _ H H [bx g2 2 [vi v], Fr, bx g 80 (rcs X σ sc ev), Fe, Fa, bx g1 53 (f4 e)] w2)
  refine j8 (m3 _) ?_
  refine j8 b0k ?_
  refine j8 a3q ?_
  refine u7 (ld1 Tryz.isAgg77 (I3.at1 (o := 4) (vs := [.map X.mv]) (nb rfl) rfl)) ?_
  refine u7 (ld1 Tryz.isAgg9 (I2.at1 (o := 2) (vs := [.string e.d9]) (nb rfl) rfl)) ?_
  refine b2h (keyS Tryz.underlying9) Tryz.underlying77 (z := (none : Option Addr)) (fun w => Tryz.zeroValue81 w) I2 W.hmv e.d9 ?_
  rw [hlv, Option.getD_some]
  refine j8 (m3 _) ?_
  refine u7 (ld1 Tryz.isAgg2 (I4.at1 (o := 0) (vs := [vi v]) (nb rfl) rfl)) ?_
  have hq : plainX (eN e.b7 e.C9 e.d9 ts) = true := by
   have := c0P (k := e.b7) (n := e.C9) (s := e.d9) (cs := ts) (by omega) (by omega)
   unfold eN at this ⊢
   unfold plainX
   rw [this, c]; rfl
  refine ⟨_, _, (I2.bring 1).bring 1 |>.drop, v, ?_, fun _ => ?_, rfl, rfl⟩
  ·rw [hq]
  ·rw [b6K]
   unfold evN
   rw [c0P (by omega) (by omega)]
   dsimp only
   rw [if_pos c, hg]
 ·refine b6 (ldA (vs := f4 e) Tryz.isAgg53 Tryz.sizeOf53 rfl (I1.at1 (o := 0) (nb rfl) rfl)) ?_
  refine s6 (cap := []) (fun args w => Tryz.call158 args w) ?_
  refine R6 (Fi := []) (Fr := [bx g1 53 (f4 e), F]) I1 hcp (fun v H3 Fo w3 I3 l3 k3 q => ?_) (fun _ _ _ _ _ q => q.elim)
  obtain ⟨r0, r1, rfl, rfl, rfl, rfl, rfl⟩ := q
  refine a8 (m8 _ 0 _ rfl) ?_
  refine a8 (m8 _ 1 _ rfl) ?_
  have hq : plainX (eN e.b7 e.C9 e.d9 ts) = (cstP (eN e.b7 e.C9 e.d9 ts)).2 := by
   have : plainX (eN e.b7 e.C9 e.d9 ts) = (cst (eN e.b7 e.C9 e.d9 ts)).isSome := by
    unfold eN plainX
    simp [c]
   rw [this]
   unfold cstP
   cases cst (eN e.b7 e.C9 e.d9 ts) <;> rfl
  refine ⟨_, _, I3.drop, (cstP (eN e.b7 e.C9 e.d9 ts)).1, by rw [hq]; rfl, fun h => ?_, rfl, rfl⟩
  rw [hq] at h
  cases hc : cst (eN e.b7 e.C9 e.d9 ts) with
  | none => unfold cstP at h; rw [hc] at h; cases h
  | some v => rw [b5e hc]; unfold cstP; rw [hc]; rfl
def opG (k : Int) (s : ByteArray) (l : List Int) : M Int := if k = 3 then inM else if k = 4 then loadM s (l.getD 0 0) else bnd stepM fun _ => toldM (opS (k - 2) (l.getD 0 0) (l.getD 1 0))
theorem d4r {k n : Int} {s : ByteArray} {cs : List PT} (h : plainX (eN k n s cs) = false) : evT (eN k n s cs) = bnd (evTs cs) (opG k s) := by
 rw [b6K]
 unfold evN
 unfold eN plainX at h
 rw [Bool.or_eq_false_iff] at h
 have hc : cst (eN k n s cs) = none := by
  unfold eN
  cases hc : cst (PT.mk (.expr k n s cs.length) cs) with
  | none => rfl
  | some v => rw [hc] at h; cases h.1
 rw [hc]
 dsimp only
 rw [if_neg (of_decide_eq_false h.2)]
 rfl
theorem a4r {α : Type} {G : α → Prop} {m : M α} {σ σ' : St} {a : α} (hc : Cm ns ars G m) (ho : Okst k0 ev0 ns ars σ) (e : m σ = .ok a σ') : G a ∧ Okst k0 ev0 ns ars σ' := by
 have := hc.safe σ ho
 rw [e] at this
 exact ⟨this.1, this.2.1⟩
theorem c5H {cs : List PT} {i : Nat} {t : PT} (h : cs[i]? = some t) (xs : List Int) : bnd (evTs (cs.drop i)) (fun l2 => ret (xs ++ l2)) = bnd (evT t) fun v => bnd (evTs (cs.drop (i + 1))) fun l2 => ret ((xs ++ [v]) ++ l2) := by
 have : cs.drop i = t :: cs.drop (i + 1) := by
  have hi := s8 h
  rw [List.drop_eq_getElem_cons hi]
  congr 1
  rw [List.getElem?_eq_getElem hi] at h
  exact Option.some.inj h
 rw [this, evTs]
 simp only [a5S, b0I, List.append_assoc, List.singleton_append]
variable (hk : k0 ≤ 1000000) (hev : ev0 ≤ 1000000)
include hk hev
theorem d3z {e : m2} {xs : List Int} {sl : Sl} {Fx : Frag} {g1 : Nat} {w0 : World} {ps : Nat → Prop} {w : World} {σ : St} {F : Frag} {R : Value → World → Prop} {E : Pan} (hk1 : e.b7 = 3 ∨ e.b7 = 4 ∨ e.b7 = 5 ∨ (6 ≤ e.b7 ∧ e.b7 ≤ 10)) (h4 : e.b7 = 4 → e.d9 ∈ ars ∧ 1 ≤ xs.length) (h5 : e.b7 = 5 → 1 ≤ xs.length) (h6 : 6 ≤ e.b7 → 2 ≤ xs.length)
  (hrow : RowL 2 1 ci sl xs Fx) (hxi : ∀ x ∈ xs, o8 x) (hr : RnF g X σ H F) (ho : Okst k0 ev0 ns ars σ) (I : Inv w0 ps H H [F, bx g1 53 (f4 e), Fx] w)
  (hR : ∀ a σ' F' w', opG e.b7 e.d9 xs σ = .ok a σ' → RnF g X σ' H F' → Inv w0 ps H H [F'] w' → R (vi a) w')
  (hE : ∀ st wr σ' F' w', opG e.b7 e.d9 xs σ = .stop st wr σ' → RnF g X σ' H F' → Inv w0 ps H H [F'] w' → E [{ v := endsV st wr, recovered := false }] w') : b8g (rP g) (rP g1) (vs sl) w R E := by
 unfold b8g
 intro _
 have hxl := hrow.2.1
 have dr : ∀ {F' : Frag} {w' : World}, Inv w0 ps H H [F', bx g1 53 (f4 e), Fx] w' → Inv w0 ps H H [F'] w' := fun J => ((J.bring 2).drop.bring 1).drop
 refine a8 K8 ?_
 refine b6 (ld1 Tryz.isAgg3 ((I.bring 1).at1 (o := 0) (vs := [vi e.b7]) (nb rfl) rfl)) ?_
 refine a8 (f9 _ _ _ _ _ _) ?_
 refine G4 (fun c3 => ?_) (fun c3 => ?_)
 ·have hG : opG e.b7 e.d9 xs = inM := by unfold opG; rw [if_pos c3]
  rw [hG] at hR hE
  refine s6 (cap := []) (fun args w => Tryz.call159 args w) ?_
  refine (c6X hk hev).use hr ho I (fun a σ1 F1 w1 e1 hr1 J => ?_) fun st wr σ1 F1 w1 e1 hr1 J => ?_
  ·exact hR _ _ _ _ e1 hr1 (dr J)
  ·exact hE _ _ _ _ _ e1 hr1 (dr J)
 refine a8 (f9 _ _ _ _ _ _) ?_
 refine G4 (fun c4 => ?_) (fun c4 => ?_)
 ·obtain ⟨hx, hx1⟩ := h4 c4
  have hG : opG e.b7 e.d9 xs = loadM e.d9 (xs.getD 0 0) := by unfold opG; rw [if_neg c3, if_pos c4]
  rw [hG] at hR hE
  obtain ⟨i, hi⟩ := r6 (l := xs) (i := 0) (by omega)
  have hi2 : xs.getD 0 0 = i := by rw [List.getD_eq_getElem?_getD, hi]; rfl
  rw [hi2] at hR hE
  obtain ⟨gx, arr, hax, _⟩ := hrow.addr hi
  refine U6 I fun w2 I2 => ?_
  refine j8 a3q ?_
  refine j8 (P4 hax _ _ _ _ (Int.le_refl 0) (by omega)) ?_
  refine u7 (ld1 Tryz.isAgg9 ((I2.bring 1).at1 (o := 2) (vs := [.string e.d9]) (nb rfl) rfl)) ?_
  refine u7 (ld1 Tryz.isAgg2 (hrow.atW (I2.bring 2) hax hi)) ?_
  refine s6 (cap := []) (fun args w => Tryz.call134 args w) ?_
  unfold loadM at hR hE
  refine (c2P hk hx).use hr ho I2 (fun a σ1 F1 w1 e1 hr1 J => ?_) fun st wr σ1 F1 w1 e1 hr1 J => ?_
  ·rw [R0 e1] at hR
   have hi64 : o8 i := hxi i (List.mem_of_getElem? hi)
   have ho1 := (a4r (Cm.bnd .step fun _ _ => .item hx hi64) ho e1).2
   have hb : ¬ (i < 0 ∨ ((rowOf e.d9 σ1).length : Int) ≤ i) := by
    unfold itemM at e1
    obtain ⟨_, s1, _, e2⟩ := b4x.1 e1
    unfold boundM at e2
    split at e2
    ·cases e2
    ·rename_i hb; cases e2; exact hb
   obtain ⟨sc, ev, Fe, Fv, Fa, W, rfl⟩ := hr1
   obtain ⟨sl2, F2, Fr, hl2, hrow2, hp2, _⟩ := W.has.get (b8l ho1 hx)
   obtain ⟨v, hv⟩ := r6 (l := rowOf e.d9 σ1) (i := i.toNat) (by omega)
   have hg := b8k hl2 hrow2 hv
   have J2 := J.un4
   have J3 := ((J2.bring 3).p1 hp2).un2
   refine j8 (m3 _) ?_
   refine u7 (ld1 Tryz.isAgg2 (hrow2.atW J3 hg hv)) ?_
   refine hR v σ1 _ _ ?_ ⟨sc, ev, Fe, Fv, Fa, W, rfl⟩ (dr J)
   unfold cellM
   rw [List.getD_eq_getElem?_getD, hv]; rfl
  ·exact hE _ _ _ _ _ (U4 e1) hr1 (dr J)
 have hG : opG e.b7 e.d9 xs = bnd stepM fun _ => toldM (opS (e.b7 - 2) (xs.getD 0 0) (xs.getD 1 0)) := by unfold opG; rw [if_neg c3, if_neg c4]
 rw [hG] at hR hE
 refine s6 (cap := []) (fun args w => Tryz.call132 args w) ?_
 refine (a8D hk).use hr ho I (fun a σ1 F1 w1 e1 hr1 J => ?_) fun st wr σ1 F1 w1 e1 hr1 J => ?_
 case refine_2 => exact hE _ _ _ _ _ (U4 e1) hr1 (dr J)
 rw [R0 e1] at hR hE
 have ho1 := (a4r .step ho e1).2
 clear e1 hr ho I hG
 obtain ⟨x0, hx0⟩ := r6 (l := xs) (i := 0) (by omega)
 have hd0 : xs.getD 0 0 = x0 := by rw [List.getD_eq_getElem?_getD, hx0]; rfl
 have hi0 : o8 x0 := hxi _ (List.mem_of_getElem? hx0)
 rw [hd0] at hR hE
 obtain ⟨gx, arr, hax, _⟩ := hrow.addr hx0
 refine a8 K8 ?_
 refine b6 (ld1 Tryz.isAgg3 ((J.bring 1).at1 (o := 0) (vs := [vi e.b7]) (nb rfl) rfl)) ?_
 refine a8 (f9 _ _ _ _ _ _) ?_
 refine G4 (fun c5 => ?_) (fun c5 => ?_)
 ·refine a8 (P4 hax _ _ _ _ (Int.le_refl 0) (by omega)) ?_
  refine b6 (ld1 Tryz.isAgg2 (hrow.atW (J.bring 2) hax hx0)) ?_
  refine s6 (cap := []) (fun args w => Tryz.call112 args w) ?_
  have hop : opS (e.b7 - 2) x0 (xs.getD 1 0) = fit (-x0) := by rw [c5]; rfl
  rw [hop] at hR hE
  refine R6 (Fi := []) (Fr := [_, _, _]) J (c3G (K := fun r0 r1 H' => r0 = (fit (-x0)).1 ∧ r1 = (fit (-x0)).2 ∧ H' = H) hi0 ⟨rfl, rfl, rfl⟩) (fun v H3 Fo w3 I3 l3 k3 q => ?_) (fun _ _ _ _ _ q => q.elim)
  obtain ⟨r0, r1, rfl, rfl, rfl, rfl, rfl⟩ := q
  refine a8 (m8 _ 0 _ rfl) ?_
  refine a8 (m8 _ 1 _ rfl) ?_
  refine s6 (cap := []) (fun args w => Tryz.call160 args w) ?_
  refine (b0Q (fit (-x0))).use hr1 ho1 I3 (fun a σ2 F2 w2 e2 hr2 J2 => ?_) fun st wr σ2 F2 w2 e2 hr2 J2 => ?_
  ·exact hR _ _ _ _ e2 hr2 (dr J2)
  ·exact hE _ _ _ _ _ e2 hr2 (dr J2)
 obtain ⟨x1, hx1⟩ := r6 (l := xs) (i := 1) (by omega)
 have hd1 : xs.getD 1 0 = x1 := by rw [List.getD_eq_getElem?_getD, hx1]; rfl
 have hi1 : o8 x1 := hxi _ (List.mem_of_getElem? hx1)
 rw [hd1] at hR hE
 refine a8 (f9 _ _ _ _ _ _) ?_
 refine G4 (fun c6 => ?_) (fun c6 => ?_)
 ·refine U6 J fun w2 I2 => ?_
  refine j8 (P4 hax _ _ _ _ (Int.le_refl 0) (by omega)) ?_
  refine j8 (P4 hax _ _ _ _ (by decide) (by omega)) ?_
  refine u7 (ld1 Tryz.isAgg2 (hrow.atW (I2.bring 2) hax hx0)) ?_
  refine u7 (ld1 Tryz.isAgg2 (hrow.atW (I2.bring 2) hax hx1)) ?_
  refine s6 (cap := []) (fun args w => Tryz.call113 args w) ?_
  have hop : opS (e.b7 - 2) x0 x1 = fit (x0 + x1) := by rw [c6]; rfl
  rw [hop] at hR hE
  refine R6 (Fi := []) (Fr := [_, _, _]) I2 (c3F (K := fun r0 r1 H' => r0 = (fit (x0 + x1)).1 ∧ r1 = (fit (x0 + x1)).2 ∧ H' = H) hi0 hi1 ⟨rfl, rfl, rfl⟩) (fun v H3 Fo w3 I3 l3 k3 q => ?_) (fun _ _ _ _ _ q => q.elim)
  obtain ⟨r0, r1, rfl, rfl, rfl, rfl, rfl⟩ := q
  refine j8 (m8 _ 0 _ rfl) ?_
  refine j8 (m8 _ 1 _ rfl) ?_
  refine s6 (cap := []) (fun args w => Tryz.call160 args w) ?_
  refine (b0Q (fit (x0 + x1))).use hr1 ho1 I3 (fun a σ2 F2 w4 e2 hr2 J2 => ?_) fun st wr σ2 F2 w4 e2 hr2 J2 => ?_
  ·exact hR _ _ _ _ e2 hr2 (dr J2)
  ·exact hE _ _ _ _ _ e2 hr2 (dr J2)
 refine a8 (f9 _ _ _ _ _ _) ?_
 refine G4 (fun c7 => ?_) (fun c7 => ?_)
 ·refine U6 J fun w2 I2 => ?_
  refine j8 (P4 hax _ _ _ _ (Int.le_refl 0) (by omega)) ?_
  refine j8 (P4 hax _ _ _ _ (by decide) (by omega)) ?_
  refine u7 (ld1 Tryz.isAgg2 (hrow.atW (I2.bring 2) hax hx0)) ?_
  refine u7 (ld1 Tryz.isAgg2 (hrow.atW (I2.bring 2) hax hx1)) ?_
  refine s6 (cap := []) (fun args w => Tryz.call114 args w) ?_
  have hop : opS (e.b7 - 2) x0 x1 = fit (x0 - x1) := by rw [c7]; rfl
  rw [hop] at hR hE
  refine R6 (Fi := []) (Fr := [_, _, _]) I2 (b6B (K := fun r0 r1 H' => r0 = (fit (x0 - x1)).1 ∧ r1 = (fit (x0 - x1)).2 ∧ H' = H) hi0 hi1 ⟨rfl, rfl, rfl⟩) (fun v H3 Fo w3 I3 l3 k3 q => ?_) (fun _ _ _ _ _ q => q.elim)
  obtain ⟨r0, r1, rfl, rfl, rfl, rfl, rfl⟩ := q
  refine j8 (m8 _ 0 _ rfl) ?_
  refine j8 (m8 _ 1 _ rfl) ?_
  refine s6 (cap := []) (fun args w => Tryz.call160 args w) ?_
  refine (b0Q (fit (x0 - x1))).use hr1 ho1 I3 (fun a σ2 F2 w4 e2 hr2 J2 => ?_) fun st wr σ2 F2 w4 e2 hr2 J2 => ?_
  ·exact hR _ _ _ _ e2 hr2 (dr J2)
  ·exact hE _ _ _ _ _ e2 hr2 (dr J2)
 refine a8 (f9 _ _ _ _ _ _) ?_
 refine G4 (fun c8 => ?_) (fun c8 => ?_)
 ·refine U6 J fun w2 I2 => ?_
  refine j8 (P4 hax _ _ _ _ (Int.le_refl 0) (by omega)) ?_
  refine j8 (P4 hax _ _ _ _ (by decide) (by omega)) ?_
  refine u7 (ld1 Tryz.isAgg2 (hrow.atW (I2.bring 2) hax hx0)) ?_
  refine u7 (ld1 Tryz.isAgg2 (hrow.atW (I2.bring 2) hax hx1)) ?_
  refine s6 (cap := []) (fun args w => Tryz.call115 args w) ?_
  have hop : opS (e.b7 - 2) x0 x1 = fit (x0 * x1) := by rw [c8]; rfl
  rw [hop] at hR hE
  refine R6 (Fi := []) (Fr := [_, _, _]) I2 (c3K (K := fun r0 r1 H' => r0 = (fit (x0 * x1)).1 ∧ r1 = (fit (x0 * x1)).2 ∧ H' = H) hi0 hi1 ⟨rfl, rfl, rfl⟩) (fun v H3 Fo w3 I3 l3 k3 q => ?_) (fun _ _ _ _ _ q => q.elim)
  obtain ⟨r0, r1, rfl, rfl, rfl, rfl, rfl⟩ := q
  refine j8 (m8 _ 0 _ rfl) ?_
  refine j8 (m8 _ 1 _ rfl) ?_
  refine s6 (cap := []) (fun args w => Tryz.call160 args w) ?_
  refine (b0Q (fit (x0 * x1))).use hr1 ho1 I3 (fun a σ2 F2 w4 e2 hr2 J2 => ?_) fun st wr σ2 F2 w4 e2 hr2 J2 => ?_
  ·exact hR _ _ _ _ e2 hr2 (dr J2)
  ·exact hE _ _ _ _ _ e2 hr2 (dr J2)
 refine a8 (f9 _ _ _ _ _ _) ?_
 refine G4 (fun c9 => ?_) (fun c9 => ?_)
 ·refine U6 J fun w2 I2 => ?_
  refine j8 (P4 hax _ _ _ _ (Int.le_refl 0) (by omega)) ?_
  refine j8 (P4 hax _ _ _ _ (by decide) (by omega)) ?_
  refine u7 (ld1 Tryz.isAgg2 (hrow.atW (I2.bring 2) hax hx0)) ?_
  refine u7 (ld1 Tryz.isAgg2 (hrow.atW (I2.bring 2) hax hx1)) ?_
  refine s6 (cap := []) (fun args w => Tryz.call116 args w) ?_
  have hop : opS (e.b7 - 2) x0 x1 = divS x0 x1 := by rw [c9]; rfl
  rw [hop] at hR hE
  refine R6 (Fi := []) (Fr := [_, _, _]) I2 (c3L (K := fun r0 r1 H' => r0 = (divS x0 x1).1 ∧ r1 = (divS x0 x1).2 ∧ H' = H) hi0 ⟨rfl, rfl, rfl⟩) (fun v H3 Fo w3 I3 l3 k3 q => ?_) (fun _ _ _ _ _ q => q.elim)
  obtain ⟨r0, r1, rfl, rfl, rfl, rfl, rfl⟩ := q
  refine j8 (m8 _ 0 _ rfl) ?_
  refine j8 (m8 _ 1 _ rfl) ?_
  refine s6 (cap := []) (fun args w => Tryz.call160 args w) ?_
  refine (b0Q (divS x0 x1)).use hr1 ho1 I3 (fun a σ2 F2 w4 e2 hr2 J2 => ?_) fun st wr σ2 F2 w4 e2 hr2 J2 => ?_
  ·exact hR _ _ _ _ e2 hr2 (dr J2)
  ·exact hE _ _ _ _ _ e2 hr2 (dr J2)
 refine U6 J fun w2 I2 => ?_
 refine j8 (P4 hax _ _ _ _ (Int.le_refl 0) (by omega)) ?_
 refine j8 (P4 hax _ _ _ _ (by decide) (by omega)) ?_
 refine u7 (ld1 Tryz.isAgg2 (hrow.atW (I2.bring 2) hax hx0)) ?_
 refine u7 (ld1 Tryz.isAgg2 (hrow.atW (I2.bring 2) hax hx1)) ?_
 refine s6 (cap := []) (fun args w => Tryz.call117 args w) ?_
 have hop : opS (e.b7 - 2) x0 x1 = remS x0 x1 := by rw [(by omega : e.b7 = 10)]; rfl
 rw [hop] at hR hE
 refine R6 (Fi := []) (Fr := [_, _, _]) I2 (c3N (K := fun r0 r1 H' => r0 = (remS x0 x1).1 ∧ r1 = (remS x0 x1).2 ∧ H' = H) ⟨rfl, rfl, rfl⟩) (fun v H3 Fo w3 I3 l3 k3 q => ?_) (fun _ _ _ _ _ q => q.elim)
 obtain ⟨r0, r1, rfl, rfl, rfl, rfl, rfl⟩ := q
 refine j8 (m8 _ 0 _ rfl) ?_
 refine j8 (m8 _ 1 _ rfl) ?_
 refine s6 (cap := []) (fun args w => Tryz.call160 args w) ?_
 refine (b0Q (remS x0 x1)).use hr1 ho1 I3 (fun a σ2 F2 w4 e2 hr2 J2 => ?_) fun st wr σ2 F2 w4 e2 hr2 J2 => ?_
 ·exact hR _ _ _ _ e2 hr2 (dr J2)
 ·exact hE _ _ _ _ _ e2 hr2 (dr J2)
theorem b8m {t : PT} (ha : Ar t) : formT t = true → ∀ {e : m2}, EH H e t → Nm ns ars (uT t) → CR k0 ev0 ns ars 133 [rP g, .agg (f4 e).toArray] H g X (evT t) vi := by
 induction ha with
 | @mk k n s a cs har hn hc ih =>
  intro hf e he hu σ F hr ho w I
  have hA : Ar (.mk (.expr k n s a) cs) := .mk har hn hc
  obtain ⟨har, rfl⟩ := har
  obtain ⟨ts, hts, hl⟩ := he.inv
  unfold eN at hts
  injection hts with q1 q2
  injection q1 with q3 q4 q5 q6
  subst q3; subst q4; subst q5; subst q2
  clear q6
  obtain ⟨hu1, hu2⟩ := hu.own
  rw [formT, Bool.and_eq_true] at hf
  have hff : formE e.b7 e.C9 e.d9 cs.length = true := hf.1
  refine d0f ?_
  unfold d3n
  refine F0 I (cs := f4 e) rfl fun g1 w1 I1 _ => ?_
  refine b6 (ldA (vs := f4 e) Tryz.isAgg53 Tryz.sizeOf53 rfl (I1.at1 (o := 0) (nb rfl) rfl)) ?_
  refine s6 (cap := []) (fun args w => Tryz.call131 args w) ?_
  refine R6 (Fi := [F]) (Fr := [bx g1 53 (f4 e)]) (I1.bring 1) (c0Y he hA hu hr ho) (fun v H3 Fo w3 I3 l3 k3 q => ?_) (fun _ _ _ _ _ q => q.elim)
  obtain ⟨n0, rfl, hpl, rfl, rfl⟩ := q
  refine a8 (m8 _ 0 _ rfl) ?_
  refine a8 (m8 _ 1 _ rfl) ?_
  refine V3 (fun c => ?_) (fun c => ?_)
  ·exact ⟨_, _, (I3.bring 1).drop, n0, σ, F, hpl c, rfl, rfl, hr, rfl⟩
  have hG : evT (eN e.b7 e.C9 e.d9 cs) = bnd (evTs cs) (opG e.b7 e.d9) := d4r c
  unfold eN at hG
  rw [hG]
  refine r5 fun j1 hx1 => ?_
  refine a8 P5 ?_
  refine b6 (ld1 Tryz.isAgg51 ((I3.bring 1).at1 (o := 3) (vs := [vs e.z8]) (nb rfl) rfl)) ?_
  refine a8 (P9 _ _ _) ?_
  have hkk : e.b7 ≠ 1 ∧ e.b7 ≠ 2 := by
   constructor
   ·intro h1
    unfold plainX at c
    rw [cst, if_pos h1] at c
    cases c
   ·intro h1
    unfold plainX at c
    rw [Bool.or_eq_false_iff] at c
    exact of_decide_eq_false c.2 h1
  have hk1 : (e.b7 = 3 ∨ e.b7 = 4 ∨ e.b7 = 5 ∨ (6 ≤ e.b7 ∧ e.b7 ≤ 10)) ∧ (e.b7 = 4 → cs.length = 1) ∧ (e.b7 = 5 → cs.length = 1) ∧ (6 ≤ e.b7 → cs.length = 2) := by
   obtain ⟨b1, b2, b3, b4, b5⟩ := har
   refine ⟨by omega, fun h4 => ?_, b4, b5⟩
   unfold formE at hff
   split at hff
   ·cases hff
   ·rw [if_neg (by omega), if_neg (by omega), if_pos (by omega)] at hff
    have := of_decide_eq_true hff
    omega
  have hbg : cs.length ≤ 1000000 := by
   obtain ⟨b1, b2, b3, b4, b5⟩ := har
   by_cases h1 : e.b7 < 5
   ·have := b3 h1; omega
   ·by_cases h2 : e.b7 = 5
    ·have := b4 h2; omega
    ·have := b5 (by omega); omega
  refine y7 (J := fun n l w' => ∃ (i : Nat) (xs : List Int) (sl : Sl) (Fx : Frag) (σi : St) (Fi : Frag), n = cs.length - i ∧ l = [vs sl, vi (i : Int)] ∧ i ≤ cs.length ∧ xs.length = i ∧ RowL 2 1 ci sl xs Fx ∧ RnF g X σi H3 Fi ∧ Okst k0 ev0 ns ars σi ∧ Inv w (inF [F]) H3 H3 [Fi, bx g1 53 (f4 e), Fx] w' ∧ evTs cs σ = bnd (evTs (cs.drop i)) (fun l2 => ret (xs ++ l2)) σi ∧ ∀ x ∈ xs, o8 x)
   ⟨_, 0, [], ⟨none, 0, 0⟩, [], σ, F, rfl, rfl, Nat.zero_le _, rfl, RowL.nil b3N b4y, hr, ho, (I3.nil.bring 2).bring 2, ?_, fun x hx => by cases hx⟩ ?_
  ·rw [List.drop_zero]
   simp only [List.nil_append]
   rw [c9R]
  rintro n τ w4 next2 ⟨i, xs, sl, Fx, σi, Fi, rfl, hl4, hi, hxl, hrow, hri, hoi, I4, hev4, hxi⟩ hn2
  simp only [List.map_cons, List.map_nil, List.cons.injEq, and_true] at hl4
  obtain ⟨l1, l2⟩ := hl4
  simp only [l1, l2]
  unfold c2L
  refine a8 (r7 _ _ _ _ _ _) ?_
  refine G4 (fun c5 => ?_) (fun c5 => ?_)
  ·obtain ⟨t, ht⟩ := r6 (l := cs) (i := i) (by omega)
   obtain ⟨x, hE, hxt, _⟩ := he.kid ht
   obtain ⟨g5, o5, ha5, hA5⟩ := hE
   have htm := List.mem_of_getElem? ht
   refine a8 (K9 ha5 _ _ _ _ (by omega) c5) ?_
   refine b6 (ldA (vs := f4 x) Tryz.isAgg53 Tryz.sizeOf53 rfl (I4.atH hA5)) ?_
   refine B9 I4 Tryz.zeroValue53 (cs := [(vi 0), (vi 0), (Value.string ⟨#[]⟩), (Value.slice none 0 0)]) rfl fun g6 w6 I6 _ => ?_
   refine o4 I6 Tryz.sizeOf53 (vs := (f4 x)) (cs' := (f4 x)) rfl rfl (nb rfl) rfl rfl fun w7 I7 _ => ?_
   refine b6 (ldA Tryz.isAgg53 Tryz.sizeOf53 rfl (I7.at1 (o := 0) (vs := (f4 x)) (nb rfl) rfl)) ?_
   refine s6 (cap := []) (fun args w => Tryz.call133 args w) ?_
   rw [c5H ht] at hev4
   have hcmE := cmE (ns := ns) (ars := ars) (hc t htm) (hu2.mem htm)
   refine (ih t htm (A7 hf.2 htm) hxt (hu2.mem htm)).use hri hoi (I7.bring 1) (fun a σ8 F8 w8 e8 hr8 I8 => ?_) fun st wr σ8 F8 w8 e8 hr8 I8 => ?_
   ·rw [R0 e8] at hev4
    obtain ⟨ha64, ho8⟩ := a4r hcmE hoi e8
    refine a2l (e := 2) (c := ci) (xs := [a]) I8 (c2i _) rfl rfl b3N b4y (nb rfl) fun s9 F9 w9 hr9 I9 _ => ?_
    refine b9F (s := sl) (xs := xs) (I9.bring 4) hrow (hr9.srcO ((I9.bring 4).bring 1)) (by rw [List.length_singleton]; omega) fun s10 F10 w10 hr10 I10 _ => ?_
    refine a8 (r9 _ _ _ _ _ _) ?_
    rw [y9 (by omega) (by omega)]
    refine hn2 _ _ _ (show cs.length - (i + 1) < cs.length - i by omega) ⟨i + 1, xs ++ [a], s10, F10, σ8, F8, rfl, rfl, by omega, by rw [List.length_append, hxl]; rfl, hr10, hr8, ho8, ?_, hev4, fun y hy => ?_⟩
    ·exact ((((I10.bring 1).drop.bring 2).drop.bring 1).bring 2 |>.bring 1)
    ·rcases List.mem_append.1 hy with h | h
     ·exact hxi y h
     ·rw [List.mem_singleton.1 h]; exact ha64
   ·refine ⟨_, _, ((((I8.bring 1).drop).bring 1).drop.bring 1).drop, st, wr, σ8, F8, ?_, rfl, rfl, hr8, rfl⟩
    rw [U4 e8] at hev4
    exact U4 hev4
  ·refine hx1 _ _ ?_
   have hie : i = cs.length := by omega
   subst hie
   rw [List.drop_length, evTs, b0I, List.append_nil] at hev4
   have hb : bnd (evTs cs) (opG e.b7 e.d9) σ = opG e.b7 e.d9 xs σi := R0 hev4
   refine d3z hk hev hk1.1 (fun h4 => ⟨?_, by have := hk1.2.1 h4; omega⟩) (fun h5 => by have := hk1.2.2.1 h5; omega) (fun h6 => by have := hk1.2.2.2 h6; omega) hrow hxi hri hoi I4 (fun a σ' F' w' e1 hr1 J => ?_) fun st wr σ' F' w' e1 hr1 J => ?_
   ·unfold useL at hu1
    rw [h4] at hu1
    exact (hu1 ⟨e.d9, true⟩ (by simp)).1 rfl
   ·exact ⟨_, _, J, a, σ', F', by rw [hb]; exact e1, rfl, rfl, hr1, rfl⟩
   ·exact ⟨_, _, J, st, wr, σ', F', by rw [hb]; exact e1, rfl, rfl, hr1, rfl⟩
end
end Go.Proofs.YtnhkdkcgdcgmdaaGreatDoor
