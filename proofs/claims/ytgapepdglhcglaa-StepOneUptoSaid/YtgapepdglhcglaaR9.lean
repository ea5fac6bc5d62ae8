/-
  Lists of numbers held against one another; graphs in two places; what the laws ask first. Contracts off the printed formulas.
-/
import Derived.Test.YtgapepdglhcglaaR8
namespace Go.Proofs.Ytgapepdglhcglaa
open Go.RowKit
set_option maxRecDepth 100000
set_option maxHeartbeats 2000000

section
variable {H : Hp}
theorem SlHH.get {α : Type} {sz : Nat} {cf : α → List Value} {s : Sl} {xss : List (List α)} (h : SlHH H sz cf s xss) {i : Int} (h0 : 0 ≤ i) (h1 : i < s.n) :
    ∃ si xs, xss[i.toNat]? = some xs ∧ EltH H s i 1 [Value.slice si.a si.n si.c] ∧ SlH H sz cf si xs ∧ si.n ≤ si.c := by
  obtain ⟨hn, ss, hss, hin⟩ := h
  obtain ⟨si, hs, hE⟩ := hss.get h0 h1
  have hlt : i.toNat < xss.length := by omega
  exact ⟨si, xss[i.toNat], List.getElem?_eq_getElem hlt, hE, hin _ _ _ hs (List.getElem?_eq_getElem hlt)⟩
theorem Longs_same {a b : Sl} {xs : List Int} (ha : SlH H 1 cs_int64 a xs) (hb : SlH H 1 cs_int64 b xs) (hl : xs.length ≤ 1099511627776) {K : Bool → Hp → Prop} (h : ∀ H', Hle H H' → K true H') : C_gnomon_gnomonhelp_Longs a b H K := by
  refine L_gnomon_gnomonhelp_Longs _ _ ?_
  unfold T_gnomon_gnomonhelp_Longs
  have na := ha.1; have nb := hb.1
  refine ⟨fun hc => by omega, fun _ => ?_⟩
  refine TL_of (fun (i : Int) H' => 0 ≤ i ∧ i ≤ xs.length ∧ Hle H H') (fun i => (xs.length - i).toNat) ⟨by omega, by omega, Hle.refl _⟩ ?_
  rintro i H1 next ⟨i0, i1, l1⟩ hn
  unfold T_gnomon_gnomonhelp_Longs_l2
  refine ⟨fun hc => ?_, fun hc => h H1 l1⟩
  obtain ⟨x, hx, hE⟩ := (ha.le l1).get i0 hc
  obtain ⟨y, hy, hF⟩ := (hb.le l1).get i0 (show i < (b.n : Int) by omega)
  rw [hx] at hy; cases hy
  refine ⟨i0, hc, x, hE, i0, by omega, x, hF, fun hne => (hne rfl).elim, fun _ => ?_⟩
  rw [wrap_1 i0 (by omega)]
  exact hn _ _ ⟨by omega, by omega, l1⟩ (by omega)
end
/-- graphs that differ but in where their lists lie -/
structure Like (a b : Tapi_Cfg) : Prop where
  v : a.fVars.n = b.fVars.n
  t : a.fTemps = b.fTemps
  ar : a.fArrays.n = b.fArrays.n
  p : a.fPoints = b.fPoints
  x : a.fExit = b.fExit
section
variable {a b : Tapi_Cfg} {vs : List ByteArray} {ds : List Tapi_Decl} {es : List Tapi_Edge} {scr : List Int} {k : Int} {H : Hp}
theorem Like.of (ha : GH H a vs ds es) {H' : Hp} (hb : GH H' b vs ds es) (ht : a.fTemps = b.fTemps) (hp : a.fPoints = b.fPoints) (he : a.fExit = b.fExit) : Like a b :=
  ⟨by rw [ha.v.1, hb.v.1], ht, by rw [ha.a.1, hb.a.1], hp, he⟩
theorem Like.alls (L : Like a b) : allS a = allS b := by unfold allS; rw [L.v, L.t]
theorem Like.edge (L : Like a b) : edgeS a = edgeS b := by
  funext e
  unfold edgeS
  rw [L.alls, L.p, L.x, L.ar]
theorem Like.check (L : Like a b) : checkS a vs ds es = checkS b vs ds es := by
  have h1 : varsS a vs = varsS b vs := by unfold varsS; rw [L.t]
  have h2 : pointsS a es = pointsS b es := by unfold pointsS; rw [L.p]
  have h3 : formS a ds es = formS b ds es := by
    unfold formS forksS
    rw [L.edge, L.p, L.x]
  unfold checkS
  rw [h1, h2, h3]
theorem Like.start (L : Like a b) : startS a ds = startS b ds := by unfold startS; rw [L.alls]
theorem Like.run (L : Like a b) {o : Tapi_Outcome} {p e : Int} (h : RunR H a vs ds es scr k o p e) : RunR H b vs ds es scr k o p e := by
  have hw : wholeS a ds es scr k = wholeS b ds es scr k := by unfold wholeS; rw [L.start]
  cases h with
  | bad h => rw [L.check] at h ⊢; exact .bad h
  | many h m => rw [L.check] at h; exact .many h m
  | ran h m a1 a2 a3 => rw [L.check] at h; rw [hw] at a1 a2 a3 ⊢; exact .ran h m a1 a2 a3
end
section
variable {H : Hp}
def knownE : List Tapi_Edge := [⟨0, 1, 2, 0, -1, 0, ⟨-1, 4⟩, ⟨-1, 0⟩⟩]
def knownC : Tapi_Cfg := ⟨⟨none, 1, 1⟩, 0, ⟨none, 0, 0⟩, 2, 1, ⟨none, 1, 1⟩⟩
theorem known_ok {K : Bool → Hp → Prop} (h : ∀ H', Hle H H' → K true H') : C_gnomon_gnomonlaw10_known H K := by
  refine L_gnomon_gnomonlaw10_known ?_
  unfold T_gnomon_gnomonlaw10_known
  intro s1 H1 l1 h1 _ s2 H2 l2 h2 _
  have G : GH H2 ⟨s1, 0, ⟨none, 0, 0⟩, 2, 1, s2⟩ [⟨#[120]⟩] [] knownE := ⟨h1.le l2, SlH.nil _ _ _, h2, by decide, by decide, by decide, by show in64 0; decide⟩
  have hn : Nums knownE := by
    intro e he
    simp only [knownE, List.mem_cons, List.not_mem_nil, or_false] at he
    subst he; decide
  refine step_Run_ok G hn (SlH.nil _ _ _) (Nat.le_refl _) (scr := []) (fun x hx => by cases hx) fun o p e H3 l3 hr => ?_
  have L : Like ⟨s1, 0, ⟨none, 0, 0⟩, 2, 1, s2⟩ knownC := ⟨h1.1, rfl, rfl, rfl, rfl⟩
  have hr' := L.run hr
  have hc : checkS knownC [⟨#[120]⟩] [] knownE = 0 := by kernel_rfl
  cases hr' with
  | bad h => exact (h hc).elim
  | many _ m => simp at m
  | @ran s1 s2 s3 _ _ a1 a2 a3 =>
    have w1 : (wholeS knownC [] knownE [] 5).1 = 2 := by kernel_rfl
    have w2 : (wholeS knownC [] knownE [] 5).2.2.steps = 1 := by kernel_rfl
    have w3 : (wholeS knownC [] knownE [] 5).2.2.pt = 1 := by kernel_rfl
    have w4 : (wholeS knownC [] knownE [] 5).2.2.vars = [4] := by kernel_rfl
    rw [w4] at a2
    have hn2 : s2.n = 1 := a2.1
    rw [w1, w2, w3]
    obtain ⟨x, hx, hE⟩ := a2.get (i := 0) (by omega) (by omega)
    simp at hx; subst hx
    refine ⟨4, fun _ => ⟨by omega, by show (0 : Int) < (s2.n : Int); omega, hE⟩, ?_⟩
    have hq : decide ((s2.n : Int) = 1) = true := decide_eq_true (by omega)
    dsimp only
    rw [hq]
    exact h H3 (l1.trans (l2.trans l3))
end
/-- arrays that were handed in -/
structure AH (H : Hp) (s : Sl) (arrs : List (List Int)) : Prop where
  h : SlHH H 1 cs_int64 s arrs
  b : arrs.length ≤ 1099511627776
  br : ∀ r ∈ arrs, r.length ≤ 1099511627776
  i : ∀ r ∈ arrs, ∀ x ∈ r, in64 x
theorem AH.le {H H' : Hp} {s : Sl} {arrs : List (List Int)} (A : AH H s arrs) (l : Hle H H') : AH H' s arrs := ⟨A.h.le l, A.b, A.br, A.i⟩
/-- variables that were handed in -/
structure VH (H : Hp) (s : Sl) (vars : List Int) : Prop where
  h : SlH H 1 cs_int64 s vars
  b : vars.length ≤ 1099511627776
  i : ∀ x ∈ vars, in64 x
theorem VH.le {H H' : Hp} {s : Sl} {vars : List Int} (A : VH H s vars) (l : Hle H H') : VH H' s vars := ⟨A.h.le l, A.b, A.i⟩
end Go.Proofs.Ytgapepdglhcglaa
