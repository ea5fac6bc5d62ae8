/-
  Typed formulas of the program's functions that few laws need; printed by lift.py off the code.
-/
import Derived.Test.YthldnpmfelniiaaDoorV1
import Derived.Test.YthldnpmfelniiaaDoorG1z
namespace Go.Proofs.YthldnpmfelniiaaDoor
open Go.RowKit
set_option maxRecDepth 100000
set_option maxHeartbeats 2000000

/- function 118: gnomon/gnomonref1.Rune -/
def T_gnomon_gnomonref1_Rune_j2 (s8j2 : Int) (s9j2 : Int) (s10j2 : Int) (H : Hp) (K : Int → Int → Bool → Hp → Prop) : Prop :=
 ((((decide (s10j2 < s9j2)) || (decide (1114111 < s10j2))) || ((decide (55296 ≤ s10j2)) && (decide (s10j2 < 57344)))) = true →
 K 65533 1 false H) ∧
 ((((decide (s10j2 < s9j2)) || (decide (1114111 < s10j2))) || ((decide (55296 ≤ s10j2)) && (decide (s10j2 < 57344)))) = false →
 K s10j2 s8j2 true H)
def T_gnomon_gnomonref1_Rune_l3 (s0l3 : ByteArray) (s1l3 : Int) (s8l3 : Int) (s9l3 : Int) (s10l3 : Int) (s11l3 : Int) (H : Hp) (n3 : (Int × Int) → Hp → Prop) (K : Int → Int → Bool → Hp → Prop) : Prop :=
 (s11l3 < s8l3 →
 ((decide ((s0l3.size : Int) ≤ (IntKind.wrap .i64 (s1l3 + s11l3)))) = false → (0 : Int) ≤ IntKind.wrap .i64 (s1l3 + s11l3) ∧ IntKind.wrap .i64 (s1l3 + s11l3) < (s0l3.size : Int)) ∧
 (((decide ((s0l3.size : Int) ≤ (IntKind.wrap .i64 (s1l3 + s11l3)))) || (decide (((s0l3.get! (IntKind.wrap .i64 (s1l3 + s11l3) : Int).toNat).toNat : Int) < 128))) = false → (0 : Int) ≤ IntKind.wrap .i64 (s1l3 + s11l3) ∧ IntKind.wrap .i64 (s1l3 + s11l3) < (s0l3.size : Int)) ∧
 ((((decide ((s0l3.size : Int) ≤ (IntKind.wrap .i64 (s1l3 + s11l3)))) || (decide (((s0l3.get! (IntKind.wrap .i64 (s1l3 + s11l3) : Int).toNat).toNat : Int) < 128))) || (decide (192 ≤ ((s0l3.get! (IntKind.wrap .i64 (s1l3 + s11l3) : Int).toNat).toNat : Int)))) = true →
 K 65533 1 false H) ∧
 ((((decide ((s0l3.size : Int) ≤ (IntKind.wrap .i64 (s1l3 + s11l3)))) || (decide (((s0l3.get! (IntKind.wrap .i64 (s1l3 + s11l3) : Int).toNat).toNat : Int) < 128))) || (decide (192 ≤ ((s0l3.get! (IntKind.wrap .i64 (s1l3 + s11l3) : Int).toNat).toNat : Int)))) = false →
 (0 : Int) ≤ IntKind.wrap .i64 (s1l3 + s11l3) ∧ IntKind.wrap .i64 (s1l3 + s11l3) < (s0l3.size : Int) ∧
 n3 ((IntKind.wrap .i64 ((IntKind.wrap .i64 ((IntKind.wrap .i64 (64 * s10l3)) + (IntKind.wrap .i64 ((s0l3.get! (IntKind.wrap .i64 (s1l3 + s11l3) : Int).toNat).toNat : Int)))) - 128)), (IntKind.wrap .i64 (s11l3 + 1))) H)) ∧
 (¬ (s11l3 < s8l3) →
 T_gnomon_gnomonref1_Rune_j2 s8l3 s9l3 s10l3 H K)
def T_gnomon_gnomonref1_Rune_j1 (s0j1 : ByteArray) (s1j1 : Int) (s8j1 : Int) (s9j1 : Int) (s10j1 : Int) (H : Hp) (K : Int → Int → Bool → Hp → Prop) : Prop :=
 TL ((s10j1, 1) : Int × Int) H fun (s : Int × Int) H n3 => T_gnomon_gnomonref1_Rune_l3 s0j1 s1j1 s8j1 s9j1 s.1 s.2 H n3 K
def T_gnomon_gnomonref1_Rune (x0 : ByteArray) (x1 : Int) (H : Hp) (K : Int → Int → Bool → Hp → Prop) : Prop :=
 (0 : Int) ≤ x1 ∧ x1 < (x0.size : Int) ∧
 ((IntKind.wrap .i64 ((x0.get! (x1 : Int).toNat).toNat : Int)) < 128 →
 K (IntKind.wrap .i64 ((x0.get! (x1 : Int).toNat).toNat : Int)) 1 true H) ∧
 (¬ ((IntKind.wrap .i64 ((x0.get! (x1 : Int).toNat).toNat : Int)) < 128) →
 (((decide (194 ≤ (IntKind.wrap .i64 ((x0.get! (x1 : Int).toNat).toNat : Int)))) && (decide ((IntKind.wrap .i64 ((x0.get! (x1 : Int).toNat).toNat : Int)) < 224))) = true →
 T_gnomon_gnomonref1_Rune_j1 x0 x1 2 128 (IntKind.wrap .i64 ((IntKind.wrap .i64 ((x0.get! (x1 : Int).toNat).toNat : Int)) - 192)) H K) ∧
 (((decide (194 ≤ (IntKind.wrap .i64 ((x0.get! (x1 : Int).toNat).toNat : Int)))) && (decide ((IntKind.wrap .i64 ((x0.get! (x1 : Int).toNat).toNat : Int)) < 224))) = false →
 (((decide (224 ≤ (IntKind.wrap .i64 ((x0.get! (x1 : Int).toNat).toNat : Int)))) && (decide ((IntKind.wrap .i64 ((x0.get! (x1 : Int).toNat).toNat : Int)) < 240))) = true →
 T_gnomon_gnomonref1_Rune_j1 x0 x1 3 2048 (IntKind.wrap .i64 ((IntKind.wrap .i64 ((x0.get! (x1 : Int).toNat).toNat : Int)) - 224)) H K) ∧
 (((decide (224 ≤ (IntKind.wrap .i64 ((x0.get! (x1 : Int).toNat).toNat : Int)))) && (decide ((IntKind.wrap .i64 ((x0.get! (x1 : Int).toNat).toNat : Int)) < 240))) = false →
 (((decide (240 ≤ (IntKind.wrap .i64 ((x0.get! (x1 : Int).toNat).toNat : Int)))) && (decide ((IntKind.wrap .i64 ((x0.get! (x1 : Int).toNat).toNat : Int)) < 245))) = true →
 T_gnomon_gnomonref1_Rune_j1 x0 x1 4 65536 (IntKind.wrap .i64 ((IntKind.wrap .i64 ((x0.get! (x1 : Int).toNat).toNat : Int)) - 240)) H K) ∧
 (((decide (240 ≤ (IntKind.wrap .i64 ((x0.get! (x1 : Int).toNat).toNat : Int)))) && (decide ((IntKind.wrap .i64 ((x0.get! (x1 : Int).toNat).toNat : Int)) < 245))) = false →
 K 65533 1 false H))))
theorem LF_gnomon_gnomonref1_Rune (x0 : ByteArray) (x1 : Int) {w0 w : World} {ps0 : Nat → Prop} {H0 H : Hp} {K : Int → Int → Bool → Hp → Prop} {R : Value → World → Prop} {E : Pan} (I : Inv w0 ps0 H0 H [] w) (hR : ∀ (r0 : Int) (r1 : Int) (r2 : Bool) (H' : Hp) (w' : World) (_ : Inv w0 ps0 H0 H' [] w') (_ : K r0 r1 r2 H'), R (Value.tuple #[(vi r0), (vi r1), (Value.bool r2)]) w') (h : T_gnomon_gnomonref1_Rune x0 x1 H K) : F118 (Value.string x0) (vi x1) w R E := by
 unfold T_gnomon_gnomonref1_Rune at h
 unfold F118
 obtain ⟨h_1, h_2, h⟩ := h
 refine opK_pu (pu_is_9 _ _ _ h_1 h_2) ?_
 refine opK_pu (pu_cv_5_3 _ _) ?_
 have hj1 : ∀ (s8j1 : Int) (s9j1 : Int) (s10j1 : Int) (H : Hp) (w : World) (_ : Inv w0 ps0 H0 H [] w) (_ : T_gnomon_gnomonref1_Rune_j1 x0 x1 s8j1 s9j1 s10j1 H K), F118_j1 (Value.string x0) (vi x1) (vi s8j1) (vi s9j1) (vi s10j1) w R E := by
  intro s8j1 s9j1 s10j1 H w I h
  unfold F118_j1
  intro _
  unfold T_gnomon_gnomonref1_Rune_j1 at h
  have hj2 : ∀ (s10j2 : Int) (H : Hp) (w : World) (_ : Inv w0 ps0 H0 H [] w) (_ : T_gnomon_gnomonref1_Rune_j2 s8j1 s9j1 s10j2 H K), F118_j2 (vi s8j1) (vi s9j1) (vi s10j2) w R E := by
   intro s10j2 H w I h
   unfold F118_j2
   intro _
   unfold T_gnomon_gnomonref1_Rune_j2 at h
   refine opK_pu (pu_lss _ _ _ _ _ _) ?_
   try simp only [gval_b]
   refine opK_pu (Pu.g fun hb => by have hb_0 := hb; first | exact (pu_gtr _ _ _ _ _ _) | (simp only [gv_t hb_0]; exact (pu_gtr _ _ _ _ _ _)) | (simp only [gval_t hb_0, gv_t hb_0, gv_t hb, gva_ff hb_0, gv_n]; exact (pu_gtr _ _ _ _ _ _))) ?_
   refine opK_pu (pu_or _ _) ?_
   try simp only [gval_b]
   refine opK_pu (Pu.g fun hb => by have hb_0 := hb; first | exact (pu_geq _ _ _ _ _ _) | (simp only [gv_t hb_0]; exact (pu_geq _ _ _ _ _ _)) | (simp only [gval_t hb_0, gv_t hb_0, gv_t hb, gva_ff hb_0, gv_n]; exact (pu_geq _ _ _ _ _ _))) ?_
   try simp only [gv_gv, gvl_ft]
   try simp only [gval_b, gv_gv, gvl_tt, gvl_tf, gvl_ft, gvl_ff, gvg_tt, gvg_tf, gvg_ft, gvg_ff]
   refine opK_pu (Pu.e (gsgg_ft _ _ _) (Pu.g fun hb => by obtain ⟨hb_0, hb_1⟩ := gg_ft hb; first | exact (pu_lss _ _ _ _ _ _) | (simp only [gv_t hb]; exact (pu_lss _ _ _ _ _ _)) | (simp only [gval_t hb_0, gv_t hb_0, gval_t hb_1, gv_t hb_1, gv_t hb, gva_tt hb]; exact (pu_lss _ _ _ _ _ _)) | (simp only [gval_t hb_0, gv_t hb_0, gval_t hb_1, gv_t hb_1, gv_t hb, gva_tf hb, gv_n]; exact (pu_lss _ _ _ _ _ _)))) ?_
   refine opK_pu (Pu.g fun hb => by have hb_0 := hb; first | exact (pu_and _ _) | (simp only [gv_t hb_0, gva_ft hb_0]; exact (pu_and _ _)) | (simp only [gval_t hb_0, gv_t hb_0, gv_t hb, gva_ff hb_0, gv_n]; exact (pu_and _ _))) ?_
   refine opK_pu (pu_or _ _) ?_
   refine xcond_b (fun c_12 => ?_) (fun c_12 => ?_)
   ·replace h := h.1 c_12
    exact hR 65533 1 false H _ I h
   ·replace h := h.2 c_12
    exact hR s10j2 s8j1 true H _ I h
  refine xcut_i fun j2 hx2 => ?_
  obtain ⟨J_14, m_15, i_16, b_17⟩ := h
  refine xloop_J (J := fun n l w => ∃ (s : Int × Int) (H : Hp) , n = m_15 s ∧ l = (match s with | (s10l3, s11l3) => [(vi s10l3), (vi s11l3)]) ∧ (match s with | (s10l3, s11l3) => Inv w0 ps0 H0 H [] w) ∧ J_14 s H) ⟨_, (s10j1, 1), H, rfl, rfl, I, i_16⟩ ?_
  rintro n_18 τ_19 w next3 ⟨⟨s10l3, s11l3⟩, H, rfl, l_20, I, s_21⟩ hn3
  dsimp only at l_20 I
  simp only [List.map_cons, List.map_nil, List.cons.injEq, and_true] at l_20
  obtain ⟨e10, e11⟩ := l_20
  simp only [e10, e11]
  obtain ⟨n3, hm3, h⟩ : ∃ n3 : (Int × Int) → Hp → Prop, (∀ s' H', n3 s' H' → J_14 s' H' ∧ m_15 s' < m_15 (s10l3, s11l3)) ∧ T_gnomon_gnomonref1_Rune_l3 x0 x1 s8j1 s9j1 s10l3 s11l3 H n3 K := ⟨_, fun _ _ h => h, b_17 (s10l3, s11l3) H (fun s' H' => J_14 s' H' ∧ m_15 s' < m_15 (s10l3, s11l3)) s_21 (fun _ _ a b => ⟨a, b⟩)⟩
  unfold F118_l3
  unfold T_gnomon_gnomonref1_Rune_l3 at h
  refine opK_pu (pu_lss _ _ _ _ _ _) ?_
  refine xcond_p (fun c_13 => ?_) (fun c_13 => ?_)
  ·replace h := h.1 c_13
   refine opK_pu (pu_add _ _ _ _ _ _) ?_
   refine opK_pu (pu_len_9 _) ?_
   refine opK_pu (pu_geq _ _ _ _ _ _) ?_
   try simp only [gval_b]
   try simp only [gval_b, gv_gv, gvl_tt, gvl_tf, gvl_ft, gvl_ff, gvg_tt, gvg_tf, gvg_ft, gvg_ff]
   try simp only [gval_b, gv_gv, gvl_tt, gvl_tf, gvl_ft, gvl_ff, gvg_tt, gvg_tf, gvg_ft, gvg_ff]
   refine opK_pu (Pu.g fun hb => by have hb_0 := hb; first | exact (pu_add _ _ _ _ _ _) | (simp only [gv_t hb_0]; exact (pu_add _ _ _ _ _ _)) | (simp only [gval_t hb_0, gv_t hb_0, gv_t hb, gva_ff hb_0, gv_n]; exact (pu_add _ _ _ _ _ _))) ?_
   obtain ⟨h_5, h⟩ := h
   refine opK_pu (Pu.g fun hb => by have hb_0 := hb; first | exact (pu_is_9 _ _ _ (h_5 hb).1 (h_5 hb).2) | (simp only [gv_t hb_0]; exact (pu_is_9 _ _ _ (h_5 hb).1 (h_5 hb).2)) | (simp only [gval_t hb_0, gv_t hb_0, gv_t hb, gva_ff hb_0, gv_n]; exact (pu_is_9 _ _ _ (h_5 hb).1 (h_5 hb).2))) ?_
   refine opK_pu (Pu.g fun hb => by have hb_0 := hb; first | exact (pu_lss _ _ _ _ _ _) | (simp only [gv_t hb_0]; exact (pu_lss _ _ _ _ _ _)) | (simp only [gval_t hb_0, gv_t hb_0, gv_t hb, gva_ff hb_0, gv_n]; exact (pu_lss _ _ _ _ _ _))) ?_
   refine opK_pu (pu_or _ _) ?_
   try simp only [gval_b]
   try simp only [gval_b, gv_gv, gvl_tt, gvl_tf, gvl_ft, gvl_ff, gvg_tt, gvg_tf, gvg_ft, gvg_ff]
   try simp only [gval_b, gv_gv, gvl_tt, gvl_tf, gvl_ft, gvl_ff, gvg_tt, gvg_tf, gvg_ft, gvg_ff]
   refine opK_pu (Pu.g fun hb => by have hb_0 := hb; first | exact (pu_add _ _ _ _ _ _) | (simp only [gv_t hb_0]; exact (pu_add _ _ _ _ _ _)) | (simp only [gval_t hb_0, gv_t hb_0, gv_t hb, gva_ff hb_0, gv_n]; exact (pu_add _ _ _ _ _ _))) ?_
   obtain ⟨h_8, h⟩ := h
   refine opK_pu (Pu.g fun hb => by have hb_0 := hb; first | exact (pu_is_9 _ _ _ (h_8 hb).1 (h_8 hb).2) | (simp only [gv_t hb_0]; exact (pu_is_9 _ _ _ (h_8 hb).1 (h_8 hb).2)) | (simp only [gval_t hb_0, gv_t hb_0, gv_t hb, gva_ff hb_0, gv_n]; exact (pu_is_9 _ _ _ (h_8 hb).1 (h_8 hb).2))) ?_
   refine opK_pu (Pu.g fun hb => by have hb_0 := hb; first | exact (pu_geq _ _ _ _ _ _) | (simp only [gv_t hb_0]; exact (pu_geq _ _ _ _ _ _)) | (simp only [gval_t hb_0, gv_t hb_0, gv_t hb, gva_ff hb_0, gv_n]; exact (pu_geq _ _ _ _ _ _))) ?_
   refine opK_pu (pu_or _ _) ?_
   refine xcond_b (fun c_11 => ?_) (fun c_11 => ?_)
   ·replace h := h.1 c_11
    exact hR 65533 1 false H _ I h
   ·replace h := h.2 c_11
    refine opK_pu (pu_mul _ _ _ _ _ _) ?_
    refine opK_pu (pu_add _ _ _ _ _ _) ?_
    obtain ⟨h_9, h_10, h⟩ := h
    refine opK_pu (pu_is_9 _ _ _ h_9 h_10) ?_
    refine opK_pu (pu_cv_5_3 _ _) ?_
    refine opK_pu (pu_add _ _ _ _ _ _) ?_
    refine opK_pu (pu_sub _ _ _ _ _ _) ?_
    refine opK_pu (pu_add _ _ _ _ _ _) ?_
    exact hn3 _ _ _ (hm3 _ _ h).2 ⟨((IntKind.wrap .i64 ((IntKind.wrap .i64 ((IntKind.wrap .i64 (64 * s10l3)) + (IntKind.wrap .i64 ((x0.get! (IntKind.wrap .i64 (x1 + s11l3) : Int).toNat).toNat : Int)))) - 128)), (IntKind.wrap .i64 (s11l3 + 1))), H, rfl, rfl, I, (hm3 _ _ h).1⟩
  ·replace h := h.2 c_13
   exact hx2 _ _ (hj2 s10l3 H _ I h)
 refine xcut_i fun j1 hx1 => ?_
 refine opK_pu (pu_lss _ _ _ _ _ _) ?_
 refine xcond_p (fun c_25 => ?_) (fun c_25 => ?_)
 ·replace h := h.1 c_25
  exact hR (IntKind.wrap .i64 ((x0.get! (x1 : Int).toNat).toNat : Int)) 1 true H _ I h
 ·replace h := h.2 c_25
  refine opK_pu (pu_geq _ _ _ _ _ _) ?_
  try simp only [gval_b]
  refine opK_pu (Pu.g fun hb => by have hb_0 := hb; first | exact (pu_lss _ _ _ _ _ _) | (simp only [gv_t hb_0]; exact (pu_lss _ _ _ _ _ _)) | (simp only [gval_t hb_0, gv_t hb_0, gv_t hb, gva_tf hb_0, gv_n]; exact (pu_lss _ _ _ _ _ _))) ?_
  refine opK_pu (pu_and _ _) ?_
  refine xcond_b (fun c_24 => ?_) (fun c_24 => ?_)
  ·replace h := h.1 c_24
   refine opK_pu (pu_sub _ _ _ _ _ _) ?_
   exact hx1 _ _ (hj1 2 128 (IntKind.wrap .i64 ((IntKind.wrap .i64 ((x0.get! (x1 : Int).toNat).toNat : Int)) - 192)) H _ I h)
  ·replace h := h.2 c_24
   refine opK_pu (pu_geq _ _ _ _ _ _) ?_
   try simp only [gval_b]
   refine opK_pu (Pu.g fun hb => by have hb_0 := hb; first | exact (pu_lss _ _ _ _ _ _) | (simp only [gv_t hb_0]; exact (pu_lss _ _ _ _ _ _)) | (simp only [gval_t hb_0, gv_t hb_0, gv_t hb, gva_tf hb_0, gv_n]; exact (pu_lss _ _ _ _ _ _))) ?_
   refine opK_pu (pu_and _ _) ?_
   refine xcond_b (fun c_23 => ?_) (fun c_23 => ?_)
   ·replace h := h.1 c_23
    refine opK_pu (pu_sub _ _ _ _ _ _) ?_
    exact hx1 _ _ (hj1 3 2048 (IntKind.wrap .i64 ((IntKind.wrap .i64 ((x0.get! (x1 : Int).toNat).toNat : Int)) - 224)) H _ I h)
   ·replace h := h.2 c_23
    refine opK_pu (pu_geq _ _ _ _ _ _) ?_
    try simp only [gval_b]
    refine opK_pu (Pu.g fun hb => by have hb_0 := hb; first | exact (pu_lss _ _ _ _ _ _) | (simp only [gv_t hb_0]; exact (pu_lss _ _ _ _ _ _)) | (simp only [gval_t hb_0, gv_t hb_0, gv_t hb, gva_tf hb_0, gv_n]; exact (pu_lss _ _ _ _ _ _))) ?_
    refine opK_pu (pu_and _ _) ?_
    refine xcond_b (fun c_22 => ?_) (fun c_22 => ?_)
    ·replace h := h.1 c_22
     refine opK_pu (pu_sub _ _ _ _ _ _) ?_
     exact hx1 _ _ (hj1 4 65536 (IntKind.wrap .i64 ((IntKind.wrap .i64 ((x0.get! (x1 : Int).toNat).toNat : Int)) - 240)) H _ I h)
    ·replace h := h.2 c_22
     exact hR 65533 1 false H _ I h
theorem L_gnomon_gnomonref1_Rune (x0 : ByteArray) (x1 : Int) {H : Hp} {K : Int → Int → Bool → Hp → Prop} (h : T_gnomon_gnomonref1_Rune x0 x1 H K) : C_gnomon_gnomonref1_Rune x0 x1 H K := by
 intro w I
 refine F118_ok ?_
 refine LF_gnomon_gnomonref1_Rune x0 x1 I (fun r0 r1 r2 H' w' I' hk => ⟨H', _, I', r0, r1, r2, rfl, rfl, hk⟩) h


/- function 128: gnomon/gnomonref1.between -/
def T_gnomon_gnomonref1_between (x0 : Int) (x1 : Int) (x2 : Int) (H : Hp) (K : Bool → Hp → Prop) : Prop :=
 K ((decide (x1 ≤ x0)) && (decide (x0 ≤ x2))) H
theorem LF_gnomon_gnomonref1_between (x0 : Int) (x1 : Int) (x2 : Int) {w0 w : World} {ps0 : Nat → Prop} {H0 H : Hp} {K : Bool → Hp → Prop} {R : Value → World → Prop} {E : Pan} (I : Inv w0 ps0 H0 H [] w) (hR : ∀ (r0 : Bool) (H' : Hp) (w' : World) (_ : Inv w0 ps0 H0 H' [] w') (_ : K r0 H'), R (Value.bool r0) w') (h : T_gnomon_gnomonref1_between x0 x1 x2 H K) : F128 (vi x0) (vi x1) (vi x2) w R E := by
 unfold T_gnomon_gnomonref1_between at h
 unfold F128
 refine opK_pu (pu_geq _ _ _ _ _ _) ?_
 try simp only [gval_b]
 try simp only [gval_b, gv_gv, gvl_tt, gvl_tf, gvl_ft, gvl_ff, gvg_tt, gvg_tf, gvg_ft, gvg_ff]
 refine opK_pu (Pu.g fun hb => by have hb_0 := hb; first | exact (pu_leq _ _ _ _ _ _) | (simp only [gv_t hb_0]; exact (pu_leq _ _ _ _ _ _)) | (simp only [gval_t hb_0, gv_t hb_0, gv_t hb, gva_tf hb_0, gv_n]; exact (pu_leq _ _ _ _ _ _))) ?_
 refine opK_pu (pu_and _ _) ?_
 exact hR ((decide (x1 ≤ x0)) && (decide (x0 ≤ x2))) H _ I h
theorem L_gnomon_gnomonref1_between (x0 : Int) (x1 : Int) (x2 : Int) {H : Hp} {K : Bool → Hp → Prop} (h : T_gnomon_gnomonref1_between x0 x1 x2 H K) : C_gnomon_gnomonref1_between x0 x1 x2 H K := by
 intro w I
 refine F128_ok ?_
 refine LF_gnomon_gnomonref1_between x0 x1 x2 I (fun r0 H' w' I' hk => ⟨H', _, I', r0, rfl, rfl, hk⟩) h


/- function 119: gnomon/gnomonref1.Class -/
def T_gnomon_gnomonref1_Class_j1 (H : Hp) (K : Int → Hp → Prop) : Prop :=
 K 6 H
def T_gnomon_gnomonref1_Class_l2 (s0l2 : Int) (s3l2 : ByteArray) (s4l2 : Int) (H : Hp) (n2 : Int → Hp → Prop) (K : Int → Hp → Prop) : Prop :=
 (s4l2 < (s3l2.size : Int) →
 (0 : Int) ≤ s4l2 ∧ s4l2 < (s3l2.size : Int) ∧
 (s0l2 = (IntKind.wrap .i64 ((s3l2.get! (s4l2 : Int).toNat).toNat : Int)) →
 K 5 H) ∧
 (¬ (s0l2 = (IntKind.wrap .i64 ((s3l2.get! (s4l2 : Int).toNat).toNat : Int))) →
 n2 (IntKind.wrap .i64 (s4l2 + 1)) H)) ∧
 (¬ (s4l2 < (s3l2.size : Int)) →
 T_gnomon_gnomonref1_Class_j1 H K)
def T_gnomon_gnomonref1_Class (x0 : Int) (H : Hp) (K : Int → Hp → Prop) : Prop :=
 ((((decide (x0 = 32)) || (decide (x0 = 9))) || (decide (x0 = 13))) = true →
 K 1 H) ∧
 ((((decide (x0 = 32)) || (decide (x0 = 9))) || (decide (x0 = 13))) = false →
 (x0 = 10 →
 K 2 H) ∧
 (¬ (x0 = 10) →
 C_gnomon_gnomonref1_between x0 48 57 H (fun (r0_9 : Bool) (H_1 : Hp) => 
 (r0_9 = true →
 K 4 H_1) ∧
 (r0_9 = false →
 C_gnomon_gnomonref1_between x0 97 122 H_1 (fun (r0_18 : Bool) (H_10 : Hp) => 
 TG (r0_18 = false) (C_gnomon_gnomonref1_between x0 65 90 H_10) false H_10 (fun (r0_27 : Bool) (H_19 : Hp) =>
 TG (((r0_18 || r0_27) || (decide (x0 = 95))) = false) (C_gnomon_gnomonref1_between x0 192 591 H_19) false H_19 (fun (r0_36 : Bool) (H_28 : Hp) =>
 TG ((((r0_18 || r0_27) || (decide (x0 = 95))) || ((r0_36 && (!decide (x0 = 215))) && (!decide (x0 = 247)))) = false) (C_gnomon_gnomonref1_between x0 913 969 H_28) false H_28 (fun (r0_45 : Bool) (H_37 : Hp) =>
 TG (((((r0_18 || r0_27) || (decide (x0 = 95))) || ((r0_36 && (!decide (x0 = 215))) && (!decide (x0 = 247)))) || (r0_45 && (!decide (x0 = 930)))) = false) (C_gnomon_gnomonref1_between x0 1040 1103 H_37) false H_37 (fun (r0_54 : Bool) (H_46 : Hp) =>
 ((((((r0_18 || r0_27) || (decide (x0 = 95))) || ((r0_36 && (!decide (x0 = 215))) && (!decide (x0 = 247)))) || (r0_45 && (!decide (x0 = 930)))) || r0_54) = true →
 K 3 H_46) ∧
 ((((((r0_18 || r0_27) || (decide (x0 = 95))) || ((r0_36 && (!decide (x0 = 215))) && (!decide (x0 = 247)))) || (r0_45 && (!decide (x0 = 930)))) || r0_54) = false →
 TL (0 : Int) H_46 fun (s : Int) H n2 => T_gnomon_gnomonref1_Class_l2 x0 ⟨#[59, 44, 123, 125, 40, 41, 91, 93, 61, 33, 60, 62, 43, 45, 42, 47, 37, 38, 124]⟩ s H n2 K))))))))))
theorem LF_gnomon_gnomonref1_Class (x0 : Int) {w0 w : World} {ps0 : Nat → Prop} {H0 H : Hp} {K : Int → Hp → Prop} {R : Value → World → Prop} {E : Pan} (I : Inv w0 ps0 H0 H [] w) (hR : ∀ (r0 : Int) (H' : Hp) (w' : World) (_ : Inv w0 ps0 H0 H' [] w') (_ : K r0 H'), R (vi r0) w') (h : T_gnomon_gnomonref1_Class x0 H K) : F119 (vi x0) w R E := by
 unfold T_gnomon_gnomonref1_Class at h
 unfold F119
 refine opK_pu (pu_eql _ _ _ _ _ _) ?_
 try simp only [gval_b]
 refine opK_pu (Pu.g fun hb => by have hb_0 := hb; first | exact (pu_eql _ _ _ _ _ _) | (simp only [gv_t hb_0]; exact (pu_eql _ _ _ _ _ _)) | (simp only [gval_t hb_0, gv_t hb_0, gv_t hb, gva_ff hb_0, gv_n]; exact (pu_eql _ _ _ _ _ _))) ?_
 refine opK_pu (pu_or _ _) ?_
 try simp only [gval_b]
 refine opK_pu (Pu.g fun hb => by have hb_0 := hb; first | exact (pu_eql _ _ _ _ _ _) | (simp only [gv_t hb_0]; exact (pu_eql _ _ _ _ _ _)) | (simp only [gval_t hb_0, gv_t hb_0, gv_t hb, gva_ff hb_0, gv_n]; exact (pu_eql _ _ _ _ _ _))) ?_
 refine opK_pu (pu_or _ _) ?_
 refine xcond_b (fun c_74 => ?_) (fun c_74 => ?_)
 ·replace h := h.1 c_74
  exact hR 1 H _ I h
 ·replace h := h.2 c_74
  refine opK_pu (pu_eql _ _ _ _ _ _) ?_
  refine xcond_p (fun c_73 => ?_) (fun c_73 => ?_)
  ·replace h := h.1 c_73
   exact hR 2 H _ I h
  ·replace h := h.2 c_73
   refine opK_calls (cap := []) (fun args w => Tryd.call128 args w) ?_
   refine Cv_ct (Fi := []) (Fr := []) I (h) (fun v_5 H_1 F_6 w_2 I_3 l_8 k_4 q_7 => ?_) (fun _ _ _ _ _ q => q.elim)
   obtain ⟨r0_9, rfl, rfl, h⟩ := q_7
   refine xcond_b (fun c_72 => ?_) (fun c_72 => ?_)
   ·replace h := h.1 c_72
    exact hR 4 H_1 _ I_3 h
   ·replace h := h.2 c_72
    refine opK_calls (cap := []) (fun args w => Tryd.call128 args w) ?_
    refine Cv_ct (Fi := []) (Fr := []) I_3 (h) (fun v_14 H_10 F_15 w_11 I_12 l_17 k_13 q_16 => ?_) (fun _ _ _ _ _ q => q.elim)
    obtain ⟨r0_18, rfl, rfl, h⟩ := q_16
    try simp only [gval_b]
    refine opK_g2 (D := fun v_23 w_20 => ∃ (r0_27 : Bool) (H_19 : Hp) , v_23 = (gv r0_18 false (Value.bool r0_27)) ∧ (Inv w0 ps0 H0 H_19 [] w_20) ∧ (∀ i, i < w_11.heap.size → ¬ inF [] i → w_20.heap[i]? = w_11.heap[i]?) ∧ Hle H_10 H_19 ∧ (TG (((r0_18 || r0_27) || (decide (x0 = 95))) = false) (C_gnomon_gnomonref1_between x0 192 591 H_19) false H_19 (fun (r0_36 : Bool) (H_28 : Hp) =>
 TG ((((r0_18 || r0_27) || (decide (x0 = 95))) || ((r0_36 && (!decide (x0 = 215))) && (!decide (x0 = 247)))) = false) (C_gnomon_gnomonref1_between x0 913 969 H_28) false H_28 (fun (r0_45 : Bool) (H_37 : Hp) =>
 TG (((((r0_18 || r0_27) || (decide (x0 = 95))) || ((r0_36 && (!decide (x0 = 215))) && (!decide (x0 = 247)))) || (r0_45 && (!decide (x0 = 930)))) = false) (C_gnomon_gnomonref1_between x0 1040 1103 H_37) false H_37 (fun (r0_54 : Bool) (H_46 : Hp) =>
 ((((((r0_18 || r0_27) || (decide (x0 = 95))) || ((r0_36 && (!decide (x0 = 215))) && (!decide (x0 = 247)))) || (r0_45 && (!decide (x0 = 930)))) || r0_54) = true →
 K 3 H_46) ∧
 ((((((r0_18 || r0_27) || (decide (x0 = 95))) || ((r0_36 && (!decide (x0 = 215))) && (!decide (x0 = 247)))) || (r0_45 && (!decide (x0 = 930)))) || r0_54) = false →
 TL (0 : Int) H_46 fun (s : Int) H n2 => T_gnomon_gnomonref1_Class_l2 x0 ⟨#[59, 44, 123, 125, 40, 41, 91, 93, 61, 33, 60, 62, 43, 45, 42, 47, 37, 38, 124]⟩ s H n2 K)))))) (fun b_71 => ?_) (fun b_71 => ?_) ?_
    ·replace h := h.1 b_71
     have hb_0 := b_71
     try simp only [gv_t hb_0]
     refine opK_calls (cap := []) (fun args w => Tryd.call128 args w) ?_
     refine Cv_ct (Fi := []) (Fr := []) I_12 (h) (fun v_23 H_19 F_24 w_20 I_21 l_26 k_22 q_25 => ?_) (fun _ _ _ _ _ q => q.elim)
     obtain ⟨r0_27, rfl, rfl, h⟩ := q_25
     exact ⟨r0_27, H_19, by first | rfl | rw [gv_t b_71], I_21, k_22, l_26, h⟩
    ·exact ⟨false, H_10, by first | rfl | rw [gv_f b_71], I_12, fun _ _ _ => rfl, Hle.refl _, h.2 b_71⟩
    ·clear h
     rintro v_23 w_20 ⟨r0_27, H_19, rfl, I_21, k_22, l_26, h⟩
     refine opK_pu (pu_or _ _) ?_
     try simp only [gval_b]
     refine opK_pu (Pu.g fun hb => by have hb_0 := hb; first | exact (pu_eql _ _ _ _ _ _) | (simp only [gv_t hb_0]; exact (pu_eql _ _ _ _ _ _)) | (simp only [gval_t hb_0, gv_t hb_0, gv_t hb, gva_ff hb_0, gv_n]; exact (pu_eql _ _ _ _ _ _))) ?_
     refine opK_pu (pu_or _ _) ?_
     try simp only [gval_b]
     refine opK_g2 (D := fun v_32 w_29 => ∃ (r0_36 : Bool) (H_28 : Hp) , v_32 = (gv ((r0_18 || r0_27) || (decide (x0 = 95))) false (Value.bool r0_36)) ∧ (Inv w0 ps0 H0 H_28 [] w_29) ∧ (∀ i, i < w_20.heap.size → ¬ inF [] i → w_29.heap[i]? = w_20.heap[i]?) ∧ Hle H_19 H_28 ∧ (TG ((((r0_18 || r0_27) || (decide (x0 = 95))) || ((r0_36 && (!decide (x0 = 215))) && (!decide (x0 = 247)))) = false) (C_gnomon_gnomonref1_between x0 913 969 H_28) false H_28 (fun (r0_45 : Bool) (H_37 : Hp) =>
 TG (((((r0_18 || r0_27) || (decide (x0 = 95))) || ((r0_36 && (!decide (x0 = 215))) && (!decide (x0 = 247)))) || (r0_45 && (!decide (x0 = 930)))) = false) (C_gnomon_gnomonref1_between x0 1040 1103 H_37) false H_37 (fun (r0_54 : Bool) (H_46 : Hp) =>
 ((((((r0_18 || r0_27) || (decide (x0 = 95))) || ((r0_36 && (!decide (x0 = 215))) && (!decide (x0 = 247)))) || (r0_45 && (!decide (x0 = 930)))) || r0_54) = true →
 K 3 H_46) ∧
 ((((((r0_18 || r0_27) || (decide (x0 = 95))) || ((r0_36 && (!decide (x0 = 215))) && (!decide (x0 = 247)))) || (r0_45 && (!decide (x0 = 930)))) || r0_54) = false →
 TL (0 : Int) H_46 fun (s : Int) H n2 => T_gnomon_gnomonref1_Class_l2 x0 ⟨#[59, 44, 123, 125, 40, 41, 91, 93, 61, 33, 60, 62, 43, 45, 42, 47, 37, 38, 124]⟩ s H n2 K))))) (fun b_70 => ?_) (fun b_70 => ?_) ?_
     ·replace h := h.1 b_70
      have hb_0 := b_70
      try simp only [gv_t hb_0]
      refine opK_calls (cap := []) (fun args w => Tryd.call128 args w) ?_
      refine Cv_ct (Fi := []) (Fr := []) I_21 (h) (fun v_32 H_28 F_33 w_29 I_30 l_35 k_31 q_34 => ?_) (fun _ _ _ _ _ q => q.elim)
      obtain ⟨r0_36, rfl, rfl, h⟩ := q_34
      exact ⟨r0_36, H_28, by first | rfl | rw [gv_t b_70], I_30, k_31, l_35, h⟩
     ·exact ⟨false, H_19, by first | rfl | rw [gv_f b_70], I_21, fun _ _ _ => rfl, Hle.refl _, h.2 b_70⟩
     ·clear h
      rintro v_32 w_29 ⟨r0_36, H_28, rfl, I_30, k_31, l_35, h⟩
      try simp only [gv_gv, gvl_ft]
      try simp only [gval_b, gv_gv, gvl_tt, gvl_tf, gvl_ft, gvl_ff, gvg_tt, gvg_tf, gvg_ft, gvg_ff]
      refine opK_pu (Pu.e (gsgg_ft _ _ _) (Pu.g fun hb => by obtain ⟨hb_0, hb_1⟩ := gg_ft hb; first | exact (pu_neq _ _ _ _ _ _) | (simp only [gv_t hb]; exact (pu_neq _ _ _ _ _ _)) | (simp only [gval_t hb_0, gv_t hb_0, gval_t hb_1, gv_t hb_1, gv_t hb, gva_tt hb]; exact (pu_neq _ _ _ _ _ _)) | (simp only [gval_t hb_0, gv_t hb_0, gval_t hb_1, gv_t hb_1, gv_t hb, gva_tf hb, gv_n]; exact (pu_neq _ _ _ _ _ _)))) ?_
      refine opK_pu (Pu.g fun hb => by have hb_0 := hb; first | exact (pu_and _ _) | (simp only [gv_t hb_0, gva_ft hb_0]; exact (pu_and _ _)) | (simp only [gval_t hb_0, gv_t hb_0, gv_t hb, gva_ff hb_0, gv_n]; exact (pu_and _ _))) ?_
      try simp only [gv_gv, gvl_ft]
      try simp only [gval_b, gv_gv, gvl_tt, gvl_tf, gvl_ft, gvl_ff, gvg_tt, gvg_tf, gvg_ft, gvg_ff]
      refine opK_pu (Pu.e (gsgg_ft _ _ _) (Pu.g fun hb => by obtain ⟨hb_0, hb_1⟩ := gg_ft hb; first | exact (pu_neq _ _ _ _ _ _) | (simp only [gv_t hb]; exact (pu_neq _ _ _ _ _ _)) | (simp only [gval_t hb_0, gv_t hb_0, gval_t hb_1, gv_t hb_1, gv_t hb, gva_tt hb]; exact (pu_neq _ _ _ _ _ _)) | (simp only [gval_t hb_0, gv_t hb_0, gval_t hb_1, gv_t hb_1, gv_t hb, gva_tf hb, gv_n]; exact (pu_neq _ _ _ _ _ _)))) ?_
      refine opK_pu (Pu.g fun hb => by have hb_0 := hb; first | exact (pu_and _ _) | (simp only [gv_t hb_0, gva_ft hb_0]; exact (pu_and _ _)) | (simp only [gval_t hb_0, gv_t hb_0, gv_t hb, gva_ff hb_0, gv_n]; exact (pu_and _ _))) ?_
      refine opK_pu (pu_or _ _) ?_
      try simp only [gval_b]
      refine opK_g2 (D := fun v_41 w_38 => ∃ (r0_45 : Bool) (H_37 : Hp) , v_41 = (gv (((r0_18 || r0_27) || (decide (x0 = 95))) || ((r0_36 && (!decide (x0 = 215))) && (!decide (x0 = 247)))) false (Value.bool r0_45)) ∧ (Inv w0 ps0 H0 H_37 [] w_38) ∧ (∀ i, i < w_29.heap.size → ¬ inF [] i → w_38.heap[i]? = w_29.heap[i]?) ∧ Hle H_28 H_37 ∧ (TG (((((r0_18 || r0_27) || (decide (x0 = 95))) || ((r0_36 && (!decide (x0 = 215))) && (!decide (x0 = 247)))) || (r0_45 && (!decide (x0 = 930)))) = false) (C_gnomon_gnomonref1_between x0 1040 1103 H_37) false H_37 (fun (r0_54 : Bool) (H_46 : Hp) =>
 ((((((r0_18 || r0_27) || (decide (x0 = 95))) || ((r0_36 && (!decide (x0 = 215))) && (!decide (x0 = 247)))) || (r0_45 && (!decide (x0 = 930)))) || r0_54) = true →
 K 3 H_46) ∧
 ((((((r0_18 || r0_27) || (decide (x0 = 95))) || ((r0_36 && (!decide (x0 = 215))) && (!decide (x0 = 247)))) || (r0_45 && (!decide (x0 = 930)))) || r0_54) = false →
 TL (0 : Int) H_46 fun (s : Int) H n2 => T_gnomon_gnomonref1_Class_l2 x0 ⟨#[59, 44, 123, 125, 40, 41, 91, 93, 61, 33, 60, 62, 43, 45, 42, 47, 37, 38, 124]⟩ s H n2 K)))) (fun b_69 => ?_) (fun b_69 => ?_) ?_
      ·replace h := h.1 b_69
       have hb_0 := b_69
       try simp only [gv_t hb_0]
       refine opK_calls (cap := []) (fun args w => Tryd.call128 args w) ?_
       refine Cv_ct (Fi := []) (Fr := []) I_30 (h) (fun v_41 H_37 F_42 w_38 I_39 l_44 k_40 q_43 => ?_) (fun _ _ _ _ _ q => q.elim)
       obtain ⟨r0_45, rfl, rfl, h⟩ := q_43
       exact ⟨r0_45, H_37, by first | rfl | rw [gv_t b_69], I_39, k_40, l_44, h⟩
      ·exact ⟨false, H_28, by first | rfl | rw [gv_f b_69], I_30, fun _ _ _ => rfl, Hle.refl _, h.2 b_69⟩
      ·clear h
       rintro v_41 w_38 ⟨r0_45, H_37, rfl, I_39, k_40, l_44, h⟩
       try simp only [gv_gv, gvl_ft]
       try simp only [gval_b, gv_gv, gvl_tt, gvl_tf, gvl_ft, gvl_ff, gvg_tt, gvg_tf, gvg_ft, gvg_ff]
       refine opK_pu (Pu.e (gsgg_ft _ _ _) (Pu.g fun hb => by obtain ⟨hb_0, hb_1⟩ := gg_ft hb; first | exact (pu_neq _ _ _ _ _ _) | (simp only [gv_t hb]; exact (pu_neq _ _ _ _ _ _)) | (simp only [gval_t hb_0, gv_t hb_0, gval_t hb_1, gv_t hb_1, gv_t hb, gva_tt hb]; exact (pu_neq _ _ _ _ _ _)) | (simp only [gval_t hb_0, gv_t hb_0, gval_t hb_1, gv_t hb_1, gv_t hb, gva_tf hb, gv_n]; exact (pu_neq _ _ _ _ _ _)))) ?_
       refine opK_pu (Pu.g fun hb => by have hb_0 := hb; first | exact (pu_and _ _) | (simp only [gv_t hb_0, gva_ft hb_0]; exact (pu_and _ _)) | (simp only [gval_t hb_0, gv_t hb_0, gv_t hb, gva_ff hb_0, gv_n]; exact (pu_and _ _))) ?_
       refine opK_pu (pu_or _ _) ?_
       try simp only [gval_b]
       refine opK_g2 (D := fun v_50 w_47 => ∃ (r0_54 : Bool) (H_46 : Hp) , v_50 = (gv ((((r0_18 || r0_27) || (decide (x0 = 95))) || ((r0_36 && (!decide (x0 = 215))) && (!decide (x0 = 247)))) || (r0_45 && (!decide (x0 = 930)))) false (Value.bool r0_54)) ∧ (Inv w0 ps0 H0 H_46 [] w_47) ∧ (∀ i, i < w_38.heap.size → ¬ inF [] i → w_47.heap[i]? = w_38.heap[i]?) ∧ Hle H_37 H_46 ∧ (((((((r0_18 || r0_27) || (decide (x0 = 95))) || ((r0_36 && (!decide (x0 = 215))) && (!decide (x0 = 247)))) || (r0_45 && (!decide (x0 = 930)))) || r0_54) = true →
 K 3 H_46) ∧
 ((((((r0_18 || r0_27) || (decide (x0 = 95))) || ((r0_36 && (!decide (x0 = 215))) && (!decide (x0 = 247)))) || (r0_45 && (!decide (x0 = 930)))) || r0_54) = false →
 TL (0 : Int) H_46 fun (s : Int) H n2 => T_gnomon_gnomonref1_Class_l2 x0 ⟨#[59, 44, 123, 125, 40, 41, 91, 93, 61, 33, 60, 62, 43, 45, 42, 47, 37, 38, 124]⟩ s H n2 K))) (fun b_68 => ?_) (fun b_68 => ?_) ?_
       ·replace h := h.1 b_68
        have hb_0 := b_68
        try simp only [gv_t hb_0]
        refine opK_calls (cap := []) (fun args w => Tryd.call128 args w) ?_
        refine Cv_ct (Fi := []) (Fr := []) I_39 (h) (fun v_50 H_46 F_51 w_47 I_48 l_53 k_49 q_52 => ?_) (fun _ _ _ _ _ q => q.elim)
        obtain ⟨r0_54, rfl, rfl, h⟩ := q_52
        exact ⟨r0_54, H_46, by first | rfl | rw [gv_t b_68], I_48, k_49, l_53, h⟩
       ·exact ⟨false, H_37, by first | rfl | rw [gv_f b_68], I_39, fun _ _ _ => rfl, Hle.refl _, h.2 b_68⟩
       ·clear h
        rintro v_50 w_47 ⟨r0_54, H_46, rfl, I_48, k_49, l_53, h⟩
        refine opK_pu (pu_or _ _) ?_
        refine xcond_b (fun c_67 => ?_) (fun c_67 => ?_)
        ·replace h := h.1 c_67
         exact hR 3 H_46 _ I_48 h
        ·replace h := h.2 c_67
         have hj1 : ∀ (H : Hp) (w : World) (_ : Inv w0 ps0 H0 H [] w) (_ : T_gnomon_gnomonref1_Class_j1 H K), F119_j1 w R E := by
          intro H w I h
          unfold F119_j1
          intro _
          unfold T_gnomon_gnomonref1_Class_j1 at h
          exact hR 6 H _ I h
         refine xcut_i fun j1 hx1 => ?_
         obtain ⟨J_59, m_60, i_61, b_62⟩ := h
         refine xloop_J (J := fun n l w => ∃ (s : Int) (H : Hp) , n = m_60 s ∧ l = [(vi s)] ∧ Inv w0 ps0 H0 H [] w ∧ J_59 s H) ⟨_, 0, H_46, rfl, rfl, I_48, i_61⟩ ?_
         rintro n_63 τ_64 w next2 ⟨s4l2, H, rfl, l_65, I, s_66⟩ hn2
         simp only [List.map_cons, List.map_nil, List.cons.injEq, and_true] at l_65
         have e4 := l_65
         simp only [e4]
         obtain ⟨n2, hm2, h⟩ : ∃ n2 : Int → Hp → Prop, (∀ s' H', n2 s' H' → J_59 s' H' ∧ m_60 s' < m_60 s4l2) ∧ T_gnomon_gnomonref1_Class_l2 x0 ⟨#[59, 44, 123, 125, 40, 41, 91, 93, 61, 33, 60, 62, 43, 45, 42, 47, 37, 38, 124]⟩ s4l2 H n2 K := ⟨_, fun _ _ h => h, b_62 s4l2 H (fun s' H' => J_59 s' H' ∧ m_60 s' < m_60 s4l2) s_66 (fun _ _ a b => ⟨a, b⟩)⟩
         unfold F119_l2
         unfold T_gnomon_gnomonref1_Class_l2 at h
         refine opK_pu (pu_len_9 _) ?_
         refine opK_pu (pu_lss _ _ _ _ _ _) ?_
         refine xcond_p (fun c_58 => ?_) (fun c_58 => ?_)
         ·replace h := h.1 c_58
          obtain ⟨h_55, h_56, h⟩ := h
          refine opK_pu (pu_is_9 _ _ _ h_55 h_56) ?_
          refine opK_pu (pu_cv_5_3 _ _) ?_
          refine opK_pu (pu_eql _ _ _ _ _ _) ?_
          refine xcond_p (fun c_57 => ?_) (fun c_57 => ?_)
          ·replace h := h.1 c_57
           exact hR 5 H _ I h
          ·replace h := h.2 c_57
           refine opK_pu (pu_add _ _ _ _ _ _) ?_
           exact hn2 _ _ _ (hm2 _ _ h).2 ⟨(IntKind.wrap .i64 (s4l2 + 1)), H, rfl, rfl, I, (hm2 _ _ h).1⟩
         ·replace h := h.2 c_58
          exact hx1 _ _ (hj1 H _ I h)
theorem L_gnomon_gnomonref1_Class (x0 : Int) {H : Hp} {K : Int → Hp → Prop} (h : T_gnomon_gnomonref1_Class x0 H K) : C_gnomon_gnomonref1_Class x0 H K := by
 intro w I
 refine F119_ok ?_
 refine LF_gnomon_gnomonref1_Class x0 I (fun r0 H' w' I' hk => ⟨H', _, I', r0, rfl, rfl, hk⟩) h


/- function 117: gnomon/gnomonref2.Word -/
def T_gnomon_gnomonref2_Word_j1 (s4j1 : Bool) (H : Hp) (K : Bool → Hp → Prop) : Prop :=
 (s4j1 = true →
 K true H) ∧
 (s4j1 = false →
 K false H)
def T_gnomon_gnomonref2_Word (x0 : ByteArray) (H : Hp) (K : Bool → Hp → Prop) : Prop :=
 (x0 = ⟨#[118, 97, 114]⟩ →
 T_gnomon_gnomonref2_Word_j1 (decide (x0 = ⟨#[118, 97, 114]⟩)) H K) ∧
 (¬ (x0 = ⟨#[118, 97, 114]⟩) →
 (x0 = ⟨#[97, 114, 114, 97, 121]⟩ →
 T_gnomon_gnomonref2_Word_j1 (decide (x0 = ⟨#[97, 114, 114, 97, 121]⟩)) H K) ∧
 (¬ (x0 = ⟨#[97, 114, 114, 97, 121]⟩) →
 (x0 = ⟨#[105, 102]⟩ →
 T_gnomon_gnomonref2_Word_j1 (decide (x0 = ⟨#[105, 102]⟩)) H K) ∧
 (¬ (x0 = ⟨#[105, 102]⟩) →
 (x0 = ⟨#[101, 108, 115, 101]⟩ →
 T_gnomon_gnomonref2_Word_j1 (decide (x0 = ⟨#[101, 108, 115, 101]⟩)) H K) ∧
 (¬ (x0 = ⟨#[101, 108, 115, 101]⟩) →
 (x0 = ⟨#[119, 104, 105, 108, 101]⟩ →
 T_gnomon_gnomonref2_Word_j1 (decide (x0 = ⟨#[119, 104, 105, 108, 101]⟩)) H K) ∧
 (¬ (x0 = ⟨#[119, 104, 105, 108, 101]⟩) →
 (x0 = ⟨#[97, 115, 115, 101, 114, 116]⟩ →
 T_gnomon_gnomonref2_Word_j1 (decide (x0 = ⟨#[97, 115, 115, 101, 114, 116]⟩)) H K) ∧
 (¬ (x0 = ⟨#[97, 115, 115, 101, 114, 116]⟩) →
 (x0 = ⟨#[97, 115, 115, 117, 109, 101]⟩ →
 T_gnomon_gnomonref2_Word_j1 (decide (x0 = ⟨#[97, 115, 115, 117, 109, 101]⟩)) H K) ∧
 (¬ (x0 = ⟨#[97, 115, 115, 117, 109, 101]⟩) →
 (x0 = ⟨#[115, 107, 105, 112]⟩ →
 T_gnomon_gnomonref2_Word_j1 (decide (x0 = ⟨#[115, 107, 105, 112]⟩)) H K) ∧
 (¬ (x0 = ⟨#[115, 107, 105, 112]⟩) →
 (x0 = ⟨#[105, 110, 112, 117, 116]⟩ →
 T_gnomon_gnomonref2_Word_j1 (decide (x0 = ⟨#[105, 110, 112, 117, 116]⟩)) H K) ∧
 (¬ (x0 = ⟨#[105, 110, 112, 117, 116]⟩) →
 (x0 = ⟨#[116, 114, 117, 101]⟩ →
 T_gnomon_gnomonref2_Word_j1 (decide (x0 = ⟨#[116, 114, 117, 101]⟩)) H K) ∧
 (¬ (x0 = ⟨#[116, 114, 117, 101]⟩) →
 T_gnomon_gnomonref2_Word_j1 (decide (x0 = ⟨#[102, 97, 108, 115, 101]⟩)) H K))))))))))
theorem LF_gnomon_gnomonref2_Word (x0 : ByteArray) {w0 w : World} {ps0 : Nat → Prop} {H0 H : Hp} {K : Bool → Hp → Prop} {R : Value → World → Prop} {E : Pan} (I : Inv w0 ps0 H0 H [] w) (hR : ∀ (r0 : Bool) (H' : Hp) (w' : World) (_ : Inv w0 ps0 H0 H' [] w') (_ : K r0 H'), R (Value.bool r0) w') (h : T_gnomon_gnomonref2_Word x0 H K) : F117 (Value.string x0) w R E := by
 unfold T_gnomon_gnomonref2_Word at h
 unfold F117
 have hj1 : ∀ (s4j1 : Bool) (H : Hp) (w : World) (_ : Inv w0 ps0 H0 H [] w) (_ : T_gnomon_gnomonref2_Word_j1 s4j1 H K), F117_j1 (Value.bool s4j1) w R E := by
  intro s4j1 H w I h
  unfold F117_j1
  intro _
  unfold T_gnomon_gnomonref2_Word_j1 at h
  refine xcond_b (fun c_1 => ?_) (fun c_1 => ?_)
  ·replace h := h.1 c_1
   exact hR true H _ I h
  ·replace h := h.2 c_1
   exact hR false H _ I h
 refine xcut_i fun j1 hx1 => ?_
 refine opK_pu (pu_eqs _ _ _ _ _) ?_
 refine xcond_p (fun c_11 => ?_) (fun c_11 => ?_)
 ·replace h := h.1 c_11
  exact hx1 _ _ (hj1 (decide (x0 = ⟨#[118, 97, 114]⟩)) H _ I h)
 ·replace h := h.2 c_11
  refine opK_pu (pu_eqs _ _ _ _ _) ?_
  refine xcond_p (fun c_10 => ?_) (fun c_10 => ?_)
  ·replace h := h.1 c_10
   exact hx1 _ _ (hj1 (decide (x0 = ⟨#[97, 114, 114, 97, 121]⟩)) H _ I h)
  ·replace h := h.2 c_10
   refine opK_pu (pu_eqs _ _ _ _ _) ?_
   refine xcond_p (fun c_9 => ?_) (fun c_9 => ?_)
   ·replace h := h.1 c_9
    exact hx1 _ _ (hj1 (decide (x0 = ⟨#[105, 102]⟩)) H _ I h)
   ·replace h := h.2 c_9
    refine opK_pu (pu_eqs _ _ _ _ _) ?_
    refine xcond_p (fun c_8 => ?_) (fun c_8 => ?_)
    ·replace h := h.1 c_8
     exact hx1 _ _ (hj1 (decide (x0 = ⟨#[101, 108, 115, 101]⟩)) H _ I h)
    ·replace h := h.2 c_8
     refine opK_pu (pu_eqs _ _ _ _ _) ?_
     refine xcond_p (fun c_7 => ?_) (fun c_7 => ?_)
     ·replace h := h.1 c_7
      exact hx1 _ _ (hj1 (decide (x0 = ⟨#[119, 104, 105, 108, 101]⟩)) H _ I h)
     ·replace h := h.2 c_7
      refine opK_pu (pu_eqs _ _ _ _ _) ?_
      refine xcond_p (fun c_6 => ?_) (fun c_6 => ?_)
      ·replace h := h.1 c_6
       exact hx1 _ _ (hj1 (decide (x0 = ⟨#[97, 115, 115, 101, 114, 116]⟩)) H _ I h)
      ·replace h := h.2 c_6
       refine opK_pu (pu_eqs _ _ _ _ _) ?_
       refine xcond_p (fun c_5 => ?_) (fun c_5 => ?_)
       ·replace h := h.1 c_5
        exact hx1 _ _ (hj1 (decide (x0 = ⟨#[97, 115, 115, 117, 109, 101]⟩)) H _ I h)
       ·replace h := h.2 c_5
        refine opK_pu (pu_eqs _ _ _ _ _) ?_
        refine xcond_p (fun c_4 => ?_) (fun c_4 => ?_)
        ·replace h := h.1 c_4
         exact hx1 _ _ (hj1 (decide (x0 = ⟨#[115, 107, 105, 112]⟩)) H _ I h)
        ·replace h := h.2 c_4
         refine opK_pu (pu_eqs _ _ _ _ _) ?_
         refine xcond_p (fun c_3 => ?_) (fun c_3 => ?_)
         ·replace h := h.1 c_3
          exact hx1 _ _ (hj1 (decide (x0 = ⟨#[105, 110, 112, 117, 116]⟩)) H _ I h)
         ·replace h := h.2 c_3
          refine opK_pu (pu_eqs _ _ _ _ _) ?_
          refine xcond_p (fun c_2 => ?_) (fun c_2 => ?_)
          ·replace h := h.1 c_2
           exact hx1 _ _ (hj1 (decide (x0 = ⟨#[116, 114, 117, 101]⟩)) H _ I h)
          ·replace h := h.2 c_2
           refine opK_pu (pu_eqs _ _ _ _ _) ?_
           exact hx1 _ _ (hj1 (decide (x0 = ⟨#[102, 97, 108, 115, 101]⟩)) H _ I h)
theorem L_gnomon_gnomonref2_Word (x0 : ByteArray) {H : Hp} {K : Bool → Hp → Prop} (h : T_gnomon_gnomonref2_Word x0 H K) : C_gnomon_gnomonref2_Word x0 H K := by
 intro w I
 refine F117_ok ?_
 refine LF_gnomon_gnomonref2_Word x0 I (fun r0 H' w' I' hk => ⟨H', _, I', r0, rfl, rfl, hk⟩) h


/- function 93: gnomon/gnomonref2.Name -/
def T_gnomon_gnomonref2_Name_j1 (s3j1 : Int) (H : Hp) (K : Bool → Hp → Prop) : Prop :=
 K (decide (s3j1 ≤ 32)) H
def T_gnomon_gnomonref2_Name_l2 (s0l2 : ByteArray) (s3l2 : Int) (s4l2 : Int) (H : Hp) (n2 : (Int × Int) → Hp → Prop) (K : Bool → Hp → Prop) : Prop :=
 (s4l2 < (s0l2.size : Int) →
 C_gnomon_gnomonref1_Rune s0l2 s4l2 H (fun (r0_18 : Int) (r1_18 : Int) (r2_18 : Bool) (H_10 : Hp) => 
 C_gnomon_gnomonref1_Class r0_18 H_10 (fun (r0_27 : Int) (H_19 : Hp) => 
 (((!r2_18) || ((!decide (r0_27 = 3)) && ((!decide (r0_27 = 4)) || (decide (s3l2 = 0))))) = true →
 K false H_19) ∧
 (((!r2_18) || ((!decide (r0_27 = 3)) && ((!decide (r0_27 = 4)) || (decide (s3l2 = 0))))) = false →
 n2 ((IntKind.wrap .i64 (s3l2 + 1)), (IntKind.wrap .i64 (s4l2 + r1_18))) H_19)))) ∧
 (¬ (s4l2 < (s0l2.size : Int)) →
 T_gnomon_gnomonref2_Name_j1 s3l2 H K)
def T_gnomon_gnomonref2_Name (x0 : ByteArray) (H : Hp) (K : Bool → Hp → Prop) : Prop :=
 TG (((decide (x0 = ⟨#[]⟩)) || (decide (128 < (x0.size : Int)))) = false) (C_gnomon_gnomonref2_Word x0 H) false H (fun (r0_9 : Bool) (H_1 : Hp) =>
 ((((decide (x0 = ⟨#[]⟩)) || (decide (128 < (x0.size : Int)))) || r0_9) = true →
 K false H_1) ∧
 ((((decide (x0 = ⟨#[]⟩)) || (decide (128 < (x0.size : Int)))) || r0_9) = false →
 TL ((0, 0) : Int × Int) H_1 fun (s : Int × Int) H n2 => T_gnomon_gnomonref2_Name_l2 x0 s.1 s.2 H n2 K))
theorem LF_gnomon_gnomonref2_Name (x0 : ByteArray) {w0 w : World} {ps0 : Nat → Prop} {H0 H : Hp} {K : Bool → Hp → Prop} {R : Value → World → Prop} {E : Pan} (I : Inv w0 ps0 H0 H [] w) (hR : ∀ (r0 : Bool) (H' : Hp) (w' : World) (_ : Inv w0 ps0 H0 H' [] w') (_ : K r0 H'), R (Value.bool r0) w') (h : T_gnomon_gnomonref2_Name x0 H K) : F93 (Value.string x0) w R E := by
 unfold T_gnomon_gnomonref2_Name at h
 unfold F93
 refine opK_pu (pu_eqs _ _ _ _ _) ?_
 try simp only [gval_b]
 refine opK_pu (Pu.g fun hb => by have hb_0 := hb; first | exact (pu_len_9 _) | (simp only [gv_t hb_0]; exact (pu_len_9 _)) | (simp only [gval_t hb_0, gv_t hb_0, gv_t hb, gva_ff hb_0, gv_n]; exact (pu_len_9 _))) ?_
 refine opK_pu (Pu.g fun hb => by have hb_0 := hb; first | exact (pu_gtr _ _ _ _ _ _) | (simp only [gv_t hb_0]; exact (pu_gtr _ _ _ _ _ _)) | (simp only [gval_t hb_0, gv_t hb_0, gv_t hb, gva_ff hb_0, gv_n]; exact (pu_gtr _ _ _ _ _ _))) ?_
 refine opK_pu (pu_or _ _) ?_
 try simp only [gval_b]
 refine opK_g2 (D := fun v_5 w_2 => ∃ (r0_9 : Bool) (H_1 : Hp) , v_5 = (gv ((decide (x0 = ⟨#[]⟩)) || (decide (128 < (x0.size : Int)))) false (Value.bool r0_9)) ∧ (Inv w0 ps0 H0 H_1 [] w_2) ∧ (∀ i, i < w.heap.size → ¬ inF [] i → w_2.heap[i]? = w.heap[i]?) ∧ Hle H H_1 ∧ (((((decide (x0 = ⟨#[]⟩)) || (decide (128 < (x0.size : Int)))) || r0_9) = true →
 K false H_1) ∧
 ((((decide (x0 = ⟨#[]⟩)) || (decide (128 < (x0.size : Int)))) || r0_9) = false →
 TL ((0, 0) : Int × Int) H_1 fun (s : Int × Int) H n2 => T_gnomon_gnomonref2_Name_l2 x0 s.1 s.2 H n2 K))) (fun b_39 => ?_) (fun b_39 => ?_) ?_
 ·replace h := h.1 b_39
  have hb_0 := b_39
  try simp only [gv_t hb_0]
  refine opK_calls (cap := []) (fun args w => Tryd.call117 args w) ?_
  refine Cv_ct (Fi := []) (Fr := []) I (h) (fun v_5 H_1 F_6 w_2 I_3 l_8 k_4 q_7 => ?_) (fun _ _ _ _ _ q => q.elim)
  obtain ⟨r0_9, rfl, rfl, h⟩ := q_7
  exact ⟨r0_9, H_1, by first | rfl | rw [gv_t b_39], I_3, k_4, l_8, h⟩
 ·exact ⟨false, H, by first | rfl | rw [gv_f b_39], I, fun _ _ _ => rfl, Hle.refl _, h.2 b_39⟩
 ·clear h
  rintro v_5 w_2 ⟨r0_9, H_1, rfl, I_3, k_4, l_8, h⟩
  refine opK_pu (pu_or _ _) ?_
  refine xcond_b (fun c_38 => ?_) (fun c_38 => ?_)
  ·replace h := h.1 c_38
   exact hR false H_1 _ I_3 h
  ·replace h := h.2 c_38
   have hj1 : ∀ (s3j1 : Int) (H : Hp) (w : World) (_ : Inv w0 ps0 H0 H [] w) (_ : T_gnomon_gnomonref2_Name_j1 s3j1 H K), F93_j1 (vi s3j1) w R E := by
    intro s3j1 H w I h
    unfold F93_j1
    intro _
    unfold T_gnomon_gnomonref2_Name_j1 at h
    refine opK_pu (pu_leq _ _ _ _ _ _) ?_
    exact hR (decide (s3j1 ≤ 32)) H _ I h
   refine xcut_i fun j1 hx1 => ?_
   obtain ⟨J_30, m_31, i_32, b_33⟩ := h
   refine xloop_J (J := fun n l w => ∃ (s : Int × Int) (H : Hp) , n = m_31 s ∧ l = (match s with | (s3l2, s4l2) => [(vi s3l2), (vi s4l2)]) ∧ (match s with | (s3l2, s4l2) => Inv w0 ps0 H0 H [] w) ∧ J_30 s H) ⟨_, (0, 0), H_1, rfl, rfl, I_3, i_32⟩ ?_
   rintro n_34 τ_35 w next2 ⟨⟨s3l2, s4l2⟩, H, rfl, l_36, I, s_37⟩ hn2
   dsimp only at l_36 I
   simp only [List.map_cons, List.map_nil, List.cons.injEq, and_true] at l_36
   obtain ⟨e3, e4⟩ := l_36
   simp only [e3, e4]
   obtain ⟨n2, hm2, h⟩ : ∃ n2 : (Int × Int) → Hp → Prop, (∀ s' H', n2 s' H' → J_30 s' H' ∧ m_31 s' < m_31 (s3l2, s4l2)) ∧ T_gnomon_gnomonref2_Name_l2 x0 s3l2 s4l2 H n2 K := ⟨_, fun _ _ h => h, b_33 (s3l2, s4l2) H (fun s' H' => J_30 s' H' ∧ m_31 s' < m_31 (s3l2, s4l2)) s_37 (fun _ _ a b => ⟨a, b⟩)⟩
   unfold F93_l2
   unfold T_gnomon_gnomonref2_Name_l2 at h
   refine opK_pu (pu_len_9 _) ?_
   refine opK_pu (pu_lss _ _ _ _ _ _) ?_
   refine xcond_p (fun c_29 => ?_) (fun c_29 => ?_)
   ·replace h := h.1 c_29
    refine opK_calls (cap := []) (fun args w => Tryd.call118 args w) ?_
    refine Cv_ct (Fi := []) (Fr := []) I (h) (fun v_14 H_10 F_15 w_11 I_12 l_17 k_13 q_16 => ?_) (fun _ _ _ _ _ q => q.elim)
    obtain ⟨r0_18, r1_18, r2_18, rfl, rfl, h⟩ := q_16
    refine opK_pu (pu_extract _ _ _ rfl) ?_
    refine opK_pu (pu_extract _ _ _ rfl) ?_
    refine opK_pu (pu_extract _ _ _ rfl) ?_
    refine opK_calls (cap := []) (fun args w => Tryd.call119 args w) ?_
    refine Cv_ct (Fi := []) (Fr := []) I_12 (h) (fun v_23 H_19 F_24 w_20 I_21 l_26 k_22 q_25 => ?_) (fun _ _ _ _ _ q => q.elim)
    obtain ⟨r0_27, rfl, rfl, h⟩ := q_25
    refine opK_pu (pu_not _) ?_
    try simp only [gval_b]
    refine opK_pu (Pu.g fun hb => by have hb_0 := hb; first | exact (pu_neq _ _ _ _ _ _) | (simp only [gv_t hb_0]; exact (pu_neq _ _ _ _ _ _)) | (simp only [gval_t hb_0, gv_t hb_0, gv_t hb, gva_ff hb_0, gv_n]; exact (pu_neq _ _ _ _ _ _))) ?_
    try simp only [gv_gv, gvl_ft]
    try simp only [gval_b, gv_gv, gvl_tt, gvl_tf, gvl_ft, gvl_ff, gvg_tt, gvg_tf, gvg_ft, gvg_ff]
    refine opK_pu (Pu.e (gsgg_ft _ _ _) (Pu.g fun hb => by obtain ⟨hb_0, hb_1⟩ := gg_ft hb; first | exact (pu_neq _ _ _ _ _ _) | (simp only [gv_t hb]; exact (pu_neq _ _ _ _ _ _)) | (simp only [gval_t hb_0, gv_t hb_0, gval_t hb_1, gv_t hb_1, gv_t hb, gva_tt hb]; exact (pu_neq _ _ _ _ _ _)) | (simp only [gval_t hb_0, gv_t hb_0, gval_t hb_1, gv_t hb_1, gv_t hb, gva_tf hb, gv_n]; exact (pu_neq _ _ _ _ _ _)))) ?_
    try simp only [gv_gv, gvl_tf]
    try simp only [gval_b, gv_gv, gvl_tt, gvl_tf, gvl_ft, gvl_ff, gvg_tt, gvg_tf, gvg_ft, gvg_ff]
    refine opK_pu (Pu.e (gsgg_tf _ _ _) (Pu.g fun hb => by obtain ⟨hc_2, hb_2⟩ := gg_tf hb; obtain ⟨hb_0, hb_1⟩ := gg_ft hc_2; first | exact (pu_eql _ _ _ _ _ _) | (simp only [gv_t hb]; exact (pu_eql _ _ _ _ _ _)) | (simp only [gval_t hb_0, gv_t hb_0, gval_t hb_1, gv_t hb_1, gval_t hb_2, gv_t hb_2, gv_t hb, gv_t hc_2, gva_tt hb]; exact (pu_eql _ _ _ _ _ _)) | (simp only [gval_t hb_0, gv_t hb_0, gval_t hb_1, gv_t hb_1, gval_t hb_2, gv_t hb_2, gv_t hb, gv_t hc_2, gva_tf hb, gv_n]; exact (pu_eql _ _ _ _ _ _)))) ?_
    refine opK_pu (Pu.e (gsgg_ft _ _ _) (Pu.g fun hb => by obtain ⟨hb_0, hb_1⟩ := gg_ft hb; first | exact (pu_or _ _) | (simp only [gv_t hb]; exact (pu_or _ _)) | (simp only [gv_t hb, gva_tt hb]; exact (pu_or _ _)) | (simp only [gv_t hb, gva_tf hb]; exact (pu_or _ _)))) ?_
    refine opK_pu (Pu.g fun hb => by have hb_0 := hb; first | exact (pu_and _ _) | (simp only [gv_t hb_0, gva_ft hb_0]; exact (pu_and _ _)) | (simp only [gval_t hb_0, gv_t hb_0, gv_t hb, gva_ff hb_0, gv_n]; exact (pu_and _ _))) ?_
    refine opK_pu (pu_or _ _) ?_
    refine xcond_b (fun c_28 => ?_) (fun c_28 => ?_)
    ·replace h := h.1 c_28
     exact hR false H_19 _ I_21 h
    ·replace h := h.2 c_28
     refine opK_pu (pu_add _ _ _ _ _ _) ?_
     refine opK_pu (pu_add _ _ _ _ _ _) ?_
     exact hn2 _ _ _ (hm2 _ _ h).2 ⟨((IntKind.wrap .i64 (s3l2 + 1)), (IntKind.wrap .i64 (s4l2 + r1_18))), H_19, rfl, rfl, I_21, (hm2 _ _ h).1⟩
   ·replace h := h.2 c_29
    exact hx1 _ _ (hj1 s3l2 H _ I h)
theorem L_gnomon_gnomonref2_Name (x0 : ByteArray) {H : Hp} {K : Bool → Hp → Prop} (h : T_gnomon_gnomonref2_Name x0 H K) : C_gnomon_gnomonref2_Name x0 H K := by
 intro w I
 refine F93_ok ?_
 refine LF_gnomon_gnomonref2_Name x0 I (fun r0 H' w' I' hk => ⟨H', _, I', r0, rfl, rfl, hk⟩) h


/- function 64: (*gnomon/gnomonref3.form).name -/
def T_gnomon_gnomonref3_form_name (x0 : Tgnomonref3_form) (x1 : ByteArray) (x2 : Bool) (H : Hp) (K : Tgnomonref3_form → Hp → Prop) : Prop :=
 ((!x2) = true →
 K (Tgnomonref3_form.mk (x0.fok && (decide (x1 = ⟨#[]⟩))) x0.fnames) H) ∧
 ((!x2) = false →
 TG (x0.fnames = true) (C_gnomon_gnomonref2_Name x1 H) false H (fun (r0_12 : Bool) (H_4 : Hp) =>
 K (Tgnomonref3_form.mk x0.fok (x0.fnames && r0_12)) H_4))
theorem LF_gnomon_gnomonref3_form_name (x0 : Tgnomonref3_form) (x1 : ByteArray) (x2 : Bool) (g0 : Nat) {w0 w : World} {ps0 : Nat → Prop} {H0 H : Hp} {K : Tgnomonref3_form → Hp → Prop} {R : Value → World → Prop} {E : Pan} (I : Inv w0 ps0 H0 H [bx g0 102 (cs_gnomonref3_form x0)] w) (hR : ∀ (y0 : Tgnomonref3_form) (H' : Hp) (w' : World) (_ : Inv w0 ps0 H0 H' [bx g0 102 (cs_gnomonref3_form y0)] w') (_ : K y0 H'), R (Value.tuple #[]) w') (h : T_gnomon_gnomonref3_form_name x0 x1 x2 H K) : F64 (Value.pointer (some ⟨g0, 0, none⟩)) (Value.string x1) (Value.bool x2) w R E := by
 unfold T_gnomon_gnomonref3_form_name at h
 unfold F64
 refine opK_pu (pu_not _) ?_
 refine xcond_b (fun c_17 => ?_) (fun c_17 => ?_)
 ·replace h := h.1 c_17
  refine opK_pu (pu_nilp _) ?_
  refine opK_pu pu_fa_102_0 ?_
  refine opK_ld (ld1 Tryd.isAgg4 (I.at1 (o := 0) (vs := [(Value.bool x0.fok)]) (nb rfl) rfl)) ?_
  try simp only [gval_b]
  refine opK_pu (Pu.g fun hb => by have hb_0 := hb; first | exact (pu_eqs _ _ _ _ _) | (simp only [gv_t hb_0]; exact (pu_eqs _ _ _ _ _)) | (simp only [gval_t hb_0, gv_t hb_0, gv_t hb, gva_tf hb_0, gv_n]; exact (pu_eqs _ _ _ _ _))) ?_
  refine opK_pu (pu_and _ _) ?_
  refine opK_pu (pu_nilp _) ?_
  refine opK_pu pu_fa_102_0 ?_
  refine s_store I Tryd.sizeOf4 (vs := [(Value.bool (x0.fok && (decide (x1 = ⟨#[]⟩))))]) (cs' := [(Value.bool (x0.fok && (decide (x1 = ⟨#[]⟩)))), (Value.bool x0.fnames)]) rfl rfl (nb rfl) rfl rfl fun w_1 I_2 k_3 => ?_
  exact hR (Tgnomonref3_form.mk (x0.fok && (decide (x1 = ⟨#[]⟩))) x0.fnames) H _ I_2 h
 ·replace h := h.2 c_17
  refine opK_pu (pu_nilp _) ?_
  refine opK_pu pu_fa_102_1 ?_
  refine opK_ld (ld1 Tryd.isAgg4 (I.at1 (o := 1) (vs := [(Value.bool x0.fnames)]) (nb rfl) rfl)) ?_
  try simp only [gval_b]
  refine opK_g2 (D := fun v_8 w_5 => ∃ (r0_12 : Bool) (H_4 : Hp) , v_8 = (gv x0.fnames true (Value.bool r0_12)) ∧ (Inv w0 ps0 H0 H_4 [bx g0 102 (cs_gnomonref3_form x0)] w_5) ∧ (∀ i, i < w.heap.size → ¬ inF [] i → w_5.heap[i]? = w.heap[i]?) ∧ Hle H H_4 ∧ (K (Tgnomonref3_form.mk x0.fok (x0.fnames && r0_12)) H_4)) (fun b_16 => ?_) (fun b_16 => ?_) ?_
  ·replace h := h.1 b_16
   have hb_0 := b_16
   try simp only [gv_t hb_0]
   refine opK_calls (cap := []) (fun args w => Tryd.call93 args w) ?_
   refine Cv_ct (Fi := []) (Fr := [bx g0 102 (cs_gnomonref3_form x0)]) I (h) (fun v_8 H_4 F_9 w_5 I_6 l_11 k_7 q_10 => ?_) (fun _ _ _ _ _ q => q.elim)
   obtain ⟨r0_12, rfl, rfl, h⟩ := q_10
   exact ⟨r0_12, H_4, by first | rfl | rw [gv_t b_16], I_6, k_7, l_11, h⟩
  ·exact ⟨false, H, by first | rfl | rw [gv_f b_16], I, fun _ _ _ => rfl, Hle.refl _, h.2 b_16⟩
  ·clear h
   rintro v_8 w_5 ⟨r0_12, H_4, rfl, I_6, k_7, l_11, h⟩
   refine opK_pu (pu_and _ _) ?_
   refine opK_pu (pu_nilp _) ?_
   refine opK_pu pu_fa_102_1 ?_
   refine s_store I_6 Tryd.sizeOf4 (vs := [(Value.bool (x0.fnames && r0_12))]) (cs' := [(Value.bool x0.fok), (Value.bool (x0.fnames && r0_12))]) rfl rfl (nb rfl) rfl rfl fun w_13 I_14 k_15 => ?_
   exact hR (Tgnomonref3_form.mk x0.fok (x0.fnames && r0_12)) H_4 _ I_14 h
theorem L_gnomon_gnomonref3_form_name (x0 : Tgnomonref3_form) (x1 : ByteArray) (x2 : Bool) {H : Hp} {K : Tgnomonref3_form → Hp → Prop} (h : T_gnomon_gnomonref3_form_name x0 x1 x2 H K) : C_gnomon_gnomonref3_form_name x0 x1 x2 H K := by
 intro g0 w I
 refine F64_ok ?_
 refine LF_gnomon_gnomonref3_form_name x0 x1 x2 g0 I (fun y0 H' w' I' hk => ⟨H', _, I', y0, rfl, rfl, hk⟩) h


/- function 59: (*gnomon/gnomonref3.form).expr -/
def T_gnomon_gnomonref3_form_expr_l2 (cr_1l2 : Tapi_Expr) (s5l2 : Int) (cp0l2 : Tgnomonref3_form) (H : Hp) (n2 : (Int × Tgnomonref3_form) → Hp → Prop) (K : Tgnomonref3_form → Hp → Prop) : Prop :=
 (((decide (s5l2 < (cr_1l2.fArgs.n : Int))) && cp0l2.fok) = true →
 (0 : Int) ≤ s5l2 ∧ (s5l2 : Int) < cr_1l2.fArgs.n ∧ ∃ x_43 : Tapi_Expr, EltH H cr_1l2.fArgs s5l2 4 (cs_api_Expr x_43) ∧ 
 C_gnomon_gnomonref3_form_expr cp0l2 x_43 H (fun (y0_58 : Tgnomonref3_form) (H_50 : Hp) => 
 n2 ((IntKind.wrap .i64 (s5l2 + 1)), y0_58) H_50)) ∧
 (((decide (s5l2 < (cr_1l2.fArgs.n : Int))) && cp0l2.fok) = false →
 K cp0l2 H)
def T_gnomon_gnomonref3_form_expr_j1 (s4j1 : Int) (cr_1j1 : Tapi_Expr) (cp0j1 : Tgnomonref3_form) (H : Hp) (K : Tgnomonref3_form → Hp → Prop) : Prop :=
 C_gnomon_gnomonref3_form_name cp0j1 cr_1j1.fName ((decide (cr_1j1.fKind = 2)) || (decide (cr_1j1.fKind = 4))) H (fun (y0_14 : Tgnomonref3_form) (H_6 : Hp) => 
 TL ((0, (Tgnomonref3_form.mk ((y0_14.fok && (decide ((cr_1j1.fArgs.n : Int) = s4j1))) && ((decide (cr_1j1.fNum = 0)) || ((decide (cr_1j1.fKind = 1)) && (decide (0 < cr_1j1.fNum))))) y0_14.fnames)) : Int × Tgnomonref3_form) H_6 fun (s : Int × Tgnomonref3_form) H n2 => T_gnomon_gnomonref3_form_expr_l2 cr_1j1 s.1 s.2 H n2 K)
def T_gnomon_gnomonref3_form_expr_j5 (s4j5 : Int) (s18j5 : Bool) (cr_1j5 : Tapi_Expr) (cp0j5 : Tgnomonref3_form) (H : Hp) (K : Tgnomonref3_form → Hp → Prop) : Prop :=
 (s18j5 = true →
 T_gnomon_gnomonref3_form_expr_j1 2 cr_1j5 cp0j5 H K) ∧
 (s18j5 = false →
 T_gnomon_gnomonref3_form_expr_j1 s4j5 cr_1j5 (Tgnomonref3_form.mk false cp0j5.fnames) H K)
def T_gnomon_gnomonref3_form_expr_j4 (s4j4 : Int) (s7j4 : Int) (s15j4 : Bool) (cr_1j4 : Tapi_Expr) (cp0j4 : Tgnomonref3_form) (H : Hp) (K : Tgnomonref3_form → Hp → Prop) : Prop :=
 (s15j4 = true →
 T_gnomon_gnomonref3_form_expr_j1 1 cr_1j4 cp0j4 H K) ∧
 (s15j4 = false →
 (s7j4 = 6 →
 T_gnomon_gnomonref3_form_expr_j5 s4j4 (decide (s7j4 = 6)) cr_1j4 cp0j4 H K) ∧
 (¬ (s7j4 = 6) →
 (s7j4 = 7 →
 T_gnomon_gnomonref3_form_expr_j5 s4j4 (decide (s7j4 = 7)) cr_1j4 cp0j4 H K) ∧
 (¬ (s7j4 = 7) →
 (s7j4 = 8 →
 T_gnomon_gnomonref3_form_expr_j5 s4j4 (decide (s7j4 = 8)) cr_1j4 cp0j4 H K) ∧
 (¬ (s7j4 = 8) →
 (s7j4 = 9 →
 T_gnomon_gnomonref3_form_expr_j5 s4j4 (decide (s7j4 = 9)) cr_1j4 cp0j4 H K) ∧
 (¬ (s7j4 = 9) →
 T_gnomon_gnomonref3_form_expr_j5 s4j4 (decide (s7j4 = 10)) cr_1j4 cp0j4 H K)))))
def T_gnomon_gnomonref3_form_expr_j3 (s4j3 : Int) (s7j3 : Int) (s11j3 : Bool) (cr_1j3 : Tapi_Expr) (cp0j3 : Tgnomonref3_form) (H : Hp) (K : Tgnomonref3_form → Hp → Prop) : Prop :=
 (s11j3 = true →
 T_gnomon_gnomonref3_form_expr_j1 s4j3 cr_1j3 cp0j3 H K) ∧
 (s11j3 = false →
 (s7j3 = 4 →
 T_gnomon_gnomonref3_form_expr_j4 s4j3 s7j3 (decide (s7j3 = 4)) cr_1j3 cp0j3 H K) ∧
 (¬ (s7j3 = 4) →
 T_gnomon_gnomonref3_form_expr_j4 s4j3 s7j3 (decide (s7j3 = 5)) cr_1j3 cp0j3 H K))
def T_gnomon_gnomonref3_form_expr (x0 : Tgnomonref3_form) (x1 : Tapi_Expr) (H : Hp) (K : Tgnomonref3_form → Hp → Prop) : Prop :=
 (x1.fKind = 1 →
 T_gnomon_gnomonref3_form_expr_j3 0 x1.fKind (decide (x1.fKind = 1)) x1 x0 H K) ∧
 (¬ (x1.fKind = 1) →
 (x1.fKind = 2 →
 T_gnomon_gnomonref3_form_expr_j3 0 x1.fKind (decide (x1.fKind = 2)) x1 x0 H K) ∧
 (¬ (x1.fKind = 2) →
 T_gnomon_gnomonref3_form_expr_j3 0 x1.fKind (decide (x1.fKind = 3)) x1 x0 H K))
theorem LF_gnomon_gnomonref3_form_expr (x0 : Tgnomonref3_form) (x1 : Tapi_Expr) (g0 : Nat) {w0 w : World} {ps0 : Nat → Prop} {H0 H : Hp} {K : Tgnomonref3_form → Hp → Prop} {R : Value → World → Prop} {E : Pan} (I : Inv w0 ps0 H0 H [bx g0 102 (cs_gnomonref3_form x0)] w) (hR : ∀ (y0 : Tgnomonref3_form) (H' : Hp) (w' : World) (_ : Inv w0 ps0 H0 H' [bx g0 102 (cs_gnomonref3_form y0)] w') (_ : K y0 H'), R (Value.tuple #[]) w') (h : T_gnomon_gnomonref3_form_expr x0 x1 H K) : F59 (Value.pointer (some ⟨g0, 0, none⟩)) (Value.agg (cs_api_Expr x1).toArray) w R E := by
 unfold T_gnomon_gnomonref3_form_expr at h
 unfold F59
 refine s_box I (cs := (cs_api_Expr x1)) rfl fun g_2 w_3 I_4 k_5 => ?_
 have hj1 : ∀ (s4j1 : Int) (cp0j1 : Tgnomonref3_form) (H : Hp) (w : World) (_ : Inv w0 ps0 H0 H [bx g_2 30 (cs_api_Expr x1), bx g0 102 (cs_gnomonref3_form cp0j1)] w) (_ : T_gnomon_gnomonref3_form_expr_j1 s4j1 x1 cp0j1 H K), F59_j1 (Value.pointer (some ⟨g0, 0, none⟩)) (Value.pointer (some ⟨g_2, 0, none⟩)) (vi s4j1) w R E := by
  intro s4j1 cp0j1 H w I h
  unfold F59_j1
  intro _
  unfold T_gnomon_gnomonref3_form_expr_j1 at h
  refine opK_pu pu_fa_30_2 ?_
  refine opK_ld (ld1 Tryd.isAgg9 (I.at1 (o := 2) (vs := [(Value.string x1.fName)]) (nb rfl) rfl)) ?_
  refine opK_pu pu_fa_30_0 ?_
  refine opK_ld (ld1 Tryd.isAgg3 (I.at1 (o := 0) (vs := [(vi x1.fKind)]) (nb rfl) rfl)) ?_
  refine opK_pu (pu_eql _ _ _ _ _ _) ?_
  refine opK_pu (Pu.g fun hb => by have hb_0 := hb; first | exact pu_fa_30_0 | (simp only [gval_t hb_0, gv_t hb_0, gv_t hb, gva_ft hb_0]; exact pu_fa_30_0) | (simp only [gval_t hb_0, gv_t hb_0, gv_t hb, gva_ff hb_0, gv_n]; exact pu_fa_30_0)) ?_
  refine opK_ld (Ld.g fun hb => by have hb_0 := hb; first | exact (ld1 Tryd.isAgg3 (I.at1 (o := 0) (vs := [(vi x1.fKind)]) (nb rfl) rfl)) | (simp only [gv_t hb_0]; exact (ld1 Tryd.isAgg3 (I.at1 (o := 0) (vs := [(vi x1.fKind)]) (nb rfl) rfl))) | (simp only [gval_t hb_0, gv_t hb_0, gv_t hb, gva_ff hb_0, gv_n]; exact (ld1 Tryd.isAgg3 (I.at1 (o := 0) (vs := [(vi x1.fKind)]) (nb rfl) rfl)))) ?_
  refine opK_pu (Pu.g fun hb => by have hb_0 := hb; first | exact (pu_eql _ _ _ _ _ _) | (simp only [gv_t hb_0]; exact (pu_eql _ _ _ _ _ _)) | (simp only [gval_t hb_0, gv_t hb_0, gv_t hb, gva_ff hb_0, gv_n]; exact (pu_eql _ _ _ _ _ _))) ?_
  refine opK_pu (pu_or _ _) ?_
  refine opK_calls (cap := []) (fun args w => Tryd.call64 args w) ?_
  refine Cv_ct (Fi := [bx g0 102 (cs_gnomonref3_form cp0j1)]) (Fr := [bx g_2 30 (cs_api_Expr x1)]) (I.bring 1) (h g0) (fun v_10 H_6 F_11 w_7 I_8 l_13 k_9 q_12 => ?_) (fun _ _ _ _ _ q => q.elim)
  obtain ⟨y0_14, rfl, rfl, h⟩ := q_12
  refine opK_pu (pu_nilp _) ?_
  refine opK_pu pu_fa_102_0 ?_
  refine opK_ld (ld1 Tryd.isAgg4 (I_8.at1 (o := 0) (vs := [(Value.bool y0_14.fok)]) (nb rfl) rfl)) ?_
  refine opK_pu (Pu.g fun hb => by have hb_0 := hb; first | exact pu_fa_30_3 | (simp only [gval_t hb_0, gv_t hb_0, gv_t hb, gva_tt hb_0]; exact pu_fa_30_3) | (simp only [gval_t hb_0, gv_t hb_0, gv_t hb, gva_tf hb_0, gv_n]; exact pu_fa_30_3)) ?_
  refine opK_ld (Ld.g fun hb => by have hb_0 := hb; first | exact (ld1 Tryd.isAgg28 ((I_8.bring 1).at1 (o := 3) (vs := [(vs x1.fArgs)]) (nb rfl) rfl)) | (simp only [gv_t hb_0]; exact (ld1 Tryd.isAgg28 ((I_8.bring 1).at1 (o := 3) (vs := [(vs x1.fArgs)]) (nb rfl) rfl))) | (simp only [gval_t hb_0, gv_t hb_0, gv_t hb, gva_tf hb_0, gv_n]; exact (ld1 Tryd.isAgg28 ((I_8.bring 1).at1 (o := 3) (vs := [(vs x1.fArgs)]) (nb rfl) rfl)))) ?_
  refine opK_pu (Pu.g fun hb => by have hb_0 := hb; first | exact (pu_len_28 _ _ _) | (simp only [gv_t hb_0]; exact (pu_len_28 _ _ _)) | (simp only [gval_t hb_0, gv_t hb_0, gv_t hb, gva_tf hb_0, gv_n]; exact (pu_len_28 _ _ _))) ?_
  try simp only [gval_b]
  refine opK_pu (Pu.g fun hb => by have hb_0 := hb; first | exact (pu_eql _ _ _ _ _ _) | (simp only [gv_t hb_0]; exact (pu_eql _ _ _ _ _ _)) | (simp only [gval_t hb_0, gv_t hb_0, gv_t hb, gva_tf hb_0, gv_n]; exact (pu_eql _ _ _ _ _ _))) ?_
  refine opK_pu (pu_and _ _) ?_
  refine opK_pu (Pu.g fun hb => by have hb_0 := hb; first | exact pu_fa_30_1 | (simp only [gval_t hb_0, gv_t hb_0, gv_t hb, gva_tt hb_0]; exact pu_fa_30_1) | (simp only [gval_t hb_0, gv_t hb_0, gv_t hb, gva_tf hb_0, gv_n]; exact pu_fa_30_1)) ?_
  refine opK_ld (Ld.g fun hb => by have hb_0 := hb; first | exact (ld1 Tryd.isAgg2 ((I_8.bring 1).at1 (o := 1) (vs := [(vi x1.fNum)]) (nb rfl) rfl)) | (simp only [gv_t hb_0]; exact (ld1 Tryd.isAgg2 ((I_8.bring 1).at1 (o := 1) (vs := [(vi x1.fNum)]) (nb rfl) rfl))) | (simp only [gval_t hb_0, gv_t hb_0, gv_t hb, gva_tf hb_0, gv_n]; exact (ld1 Tryd.isAgg2 ((I_8.bring 1).at1 (o := 1) (vs := [(vi x1.fNum)]) (nb rfl) rfl)))) ?_
  refine opK_pu (Pu.g fun hb => by have hb_0 := hb; first | exact (pu_eql _ _ _ _ _ _) | (simp only [gv_t hb_0]; exact (pu_eql _ _ _ _ _ _)) | (simp only [gval_t hb_0, gv_t hb_0, gv_t hb, gva_tf hb_0, gv_n]; exact (pu_eql _ _ _ _ _ _))) ?_
  try simp only [gval_b, gv_gv, gvl_tf]
  refine opK_pu (Pu.e (gsgg_tf _ _ _) (Pu.g fun hb => by obtain ⟨hb_0, hb_1⟩ := gg_tf hb; first | exact pu_fa_30_0 | (simp only [gval_t hb_0, gv_t hb_0, gval_t hb_1, gv_t hb_1, gv_t hb, gv_n]; exact pu_fa_30_0) | (simp only [gval_t hb_0, gv_t hb_0, gval_t hb_1, gv_t hb_1, gv_t hb, gva_tt hb]; exact pu_fa_30_0) | (simp only [gval_t hb_0, gv_t hb_0, gval_t hb_1, gv_t hb_1, gv_t hb, gva_tf hb, gv_n]; exact pu_fa_30_0))) ?_
  refine opK_ld (Ld.e (gsgg_tf _ _ _) (Ld.g fun hb => by obtain ⟨hb_0, hb_1⟩ := gg_tf hb; first | exact (ld1 Tryd.isAgg3 ((I_8.bring 1).at1 (o := 0) (vs := [(vi x1.fKind)]) (nb rfl) rfl)) | (simp only [gv_t hb]; exact (ld1 Tryd.isAgg3 ((I_8.bring 1).at1 (o := 0) (vs := [(vi x1.fKind)]) (nb rfl) rfl))) | (simp only [gval_t hb_0, gv_t hb_0, gval_t hb_1, gv_t hb_1, gv_t hb, gva_tt hb]; exact (ld1 Tryd.isAgg3 ((I_8.bring 1).at1 (o := 0) (vs := [(vi x1.fKind)]) (nb rfl) rfl))) | (simp only [gval_t hb_0, gv_t hb_0, gval_t hb_1, gv_t hb_1, gv_t hb, gva_tf hb, gv_n]; exact (ld1 Tryd.isAgg3 ((I_8.bring 1).at1 (o := 0) (vs := [(vi x1.fKind)]) (nb rfl) rfl))))) ?_
  refine opK_pu (Pu.e (gsgg_tf _ _ _) (Pu.g fun hb => by obtain ⟨hb_0, hb_1⟩ := gg_tf hb; first | exact (pu_eql _ _ _ _ _ _) | (simp only [gv_t hb]; exact (pu_eql _ _ _ _ _ _)) | (simp only [gval_t hb_0, gv_t hb_0, gval_t hb_1, gv_t hb_1, gv_t hb, gva_tt hb]; exact (pu_eql _ _ _ _ _ _)) | (simp only [gval_t hb_0, gv_t hb_0, gval_t hb_1, gv_t hb_1, gv_t hb, gva_tf hb, gv_n]; exact (pu_eql _ _ _ _ _ _)))) ?_
  try simp only [gv_gv]
  refine opK_pu (Pu.e (gsgg_tt _ _ _) (Pu.g fun hb => by obtain ⟨hc_2, hb_2⟩ := gg_tt hb; obtain ⟨hb_0, hb_1⟩ := gg_tf hc_2; first | exact pu_fa_30_1 | (simp only [gval_t hb_0, gv_t hb_0, gval_t hb_1, gv_t hb_1, gval_t hb_2, gv_t hb_2, gv_t hb, gv_t hc_2, gv_n]; exact pu_fa_30_1) | (simp only [gval_t hb_0, gv_t hb_0, gval_t hb_1, gv_t hb_1, gval_t hb_2, gv_t hb_2, gv_t hb, gv_t hc_2, gva_tt hb]; exact pu_fa_30_1) | (simp only [gval_t hb_0, gv_t hb_0, gval_t hb_1, gv_t hb_1, gval_t hb_2, gv_t hb_2, gv_t hb, gv_t hc_2, gva_tf hb, gv_n]; exact pu_fa_30_1))) ?_
  refine opK_ld (Ld.e (gsgg_tt _ _ _) (Ld.g fun hb => by obtain ⟨hc_2, hb_2⟩ := gg_tt hb; obtain ⟨hb_0, hb_1⟩ := gg_tf hc_2; first | exact (ld1 Tryd.isAgg2 ((I_8.bring 1).at1 (o := 1) (vs := [(vi x1.fNum)]) (nb rfl) rfl)) | (simp only [gv_t hb]; exact (ld1 Tryd.isAgg2 ((I_8.bring 1).at1 (o := 1) (vs := [(vi x1.fNum)]) (nb rfl) rfl))) | (simp only [gval_t hb_0, gv_t hb_0, gval_t hb_1, gv_t hb_1, gval_t hb_2, gv_t hb_2, gv_t hb, gv_t hc_2, gva_tt hb]; exact (ld1 Tryd.isAgg2 ((I_8.bring 1).at1 (o := 1) (vs := [(vi x1.fNum)]) (nb rfl) rfl))) | (simp only [gval_t hb_0, gv_t hb_0, gval_t hb_1, gv_t hb_1, gval_t hb_2, gv_t hb_2, gv_t hb, gv_t hc_2, gva_tf hb, gv_n]; exact (ld1 Tryd.isAgg2 ((I_8.bring 1).at1 (o := 1) (vs := [(vi x1.fNum)]) (nb rfl) rfl))))) ?_
  refine opK_pu (Pu.e (gsgg_tt _ _ _) (Pu.g fun hb => by obtain ⟨hc_2, hb_2⟩ := gg_tt hb; obtain ⟨hb_0, hb_1⟩ := gg_tf hc_2; first | exact (pu_gtr _ _ _ _ _ _) | (simp only [gv_t hb]; exact (pu_gtr _ _ _ _ _ _)) | (simp only [gval_t hb_0, gv_t hb_0, gval_t hb_1, gv_t hb_1, gval_t hb_2, gv_t hb_2, gv_t hb, gv_t hc_2, gva_tt hb]; exact (pu_gtr _ _ _ _ _ _)) | (simp only [gval_t hb_0, gv_t hb_0, gval_t hb_1, gv_t hb_1, gval_t hb_2, gv_t hb_2, gv_t hb, gv_t hc_2, gva_tf hb, gv_n]; exact (pu_gtr _ _ _ _ _ _)))) ?_
  refine opK_pu (Pu.e (gsgg_tf _ _ _) (Pu.g fun hb => by obtain ⟨hb_0, hb_1⟩ := gg_tf hb; first | exact (pu_and _ _) | (simp only [gv_t hb]; exact (pu_and _ _)) | (simp only [gv_t hb, gva_tt hb]; exact (pu_and _ _)) | (simp only [gval_t hb_0, gv_t hb_0, gval_t hb_1, gv_t hb_1, gv_t hb, gva_tf hb, gv_n]; exact (pu_and _ _)))) ?_
  refine opK_pu (Pu.g fun hb => by have hb_0 := hb; first | exact (pu_or _ _) | (simp only [gv_t hb_0, gva_tt hb_0]; exact (pu_or _ _)) | (simp only [gv_t hb_0, gva_tf hb_0]; exact (pu_or _ _))) ?_
  refine opK_pu (pu_and _ _) ?_
  refine opK_pu (pu_nilp _) ?_
  refine opK_pu pu_fa_102_0 ?_
  refine s_store I_8 Tryd.sizeOf4 (vs := [(Value.bool ((y0_14.fok && (decide ((x1.fArgs.n : Int) = s4j1))) && ((decide (x1.fNum = 0)) || ((decide (x1.fKind = 1)) && (decide (0 < x1.fNum))))))]) (cs' := [(Value.bool ((y0_14.fok && (decide ((x1.fArgs.n : Int) = s4j1))) && ((decide (x1.fNum = 0)) || ((decide (x1.fKind = 1)) && (decide (0 < x1.fNum)))))), (Value.bool y0_14.fnames)]) rfl rfl (nb rfl) rfl rfl fun w_15 I_16 k_17 => ?_
  obtain ⟨J_60, m_61, i_62, b_63⟩ := h
  refine xloop_J (J := fun n l w => ∃ (s : Int × Tgnomonref3_form) (H : Hp) , n = m_61 s ∧ l = (match s with | (s5l2, cp0l2) => [(vi s5l2)]) ∧ (match s with | (s5l2, cp0l2) => Inv w0 ps0 H0 H [bx g0 102 (cs_gnomonref3_form cp0l2), bx g_2 30 (cs_api_Expr x1)] w) ∧ J_60 s H) ⟨_, (0, (Tgnomonref3_form.mk ((y0_14.fok && (decide ((x1.fArgs.n : Int) = s4j1))) && ((decide (x1.fNum = 0)) || ((decide (x1.fKind = 1)) && (decide (0 < x1.fNum))))) y0_14.fnames)), H_6, rfl, rfl, ((I_16.bring 1).bring 1), i_62⟩ ?_
  rintro n_64 τ_65 w next2 ⟨⟨s5l2, cp0l2⟩, H, rfl, l_66, I, s_67⟩ hn2
  dsimp only at l_66 I
  simp only [List.map_cons, List.map_nil, List.cons.injEq, and_true] at l_66
  have e5 := l_66
  simp only [e5]
  obtain ⟨n2, hm2, h⟩ : ∃ n2 : (Int × Tgnomonref3_form) → Hp → Prop, (∀ s' H', n2 s' H' → J_60 s' H' ∧ m_61 s' < m_61 (s5l2, cp0l2)) ∧ T_gnomon_gnomonref3_form_expr_l2 x1 s5l2 cp0l2 H n2 K := ⟨_, fun _ _ h => h, b_63 (s5l2, cp0l2) H (fun s' H' => J_60 s' H' ∧ m_61 s' < m_61 (s5l2, cp0l2)) s_67 (fun _ _ a b => ⟨a, b⟩)⟩
  unfold F59_l2
  unfold T_gnomon_gnomonref3_form_expr_l2 at h
  refine opK_pu pu_fa_30_3 ?_
  refine opK_ld (ld1 Tryd.isAgg28 ((I.bring 1).at1 (o := 3) (vs := [(vs x1.fArgs)]) (nb rfl) rfl)) ?_
  refine opK_pu (pu_len_28 _ _ _) ?_
  refine opK_pu (pu_lss _ _ _ _ _ _) ?_
  try simp only [gval_b]
  refine opK_pu (Pu.g fun hb => by have hb_0 := hb; first | exact (pu_nilp _) | (simp only [gv_t hb_0]; exact (pu_nilp _)) | (simp only [gval_t hb_0, gv_t hb_0, gv_t hb, gva_tf hb_0, gv_n]; exact (pu_nilp _))) ?_
  refine opK_pu (Pu.g fun hb => by have hb_0 := hb; first | exact pu_fa_102_0 | (simp only [gv_t hb_0]; exact pu_fa_102_0) | (simp only [gval_t hb_0, gv_t hb_0, gv_t hb, gva_tf hb_0, gv_n]; exact pu_fa_102_0)) ?_
  refine opK_ld (Ld.g fun hb => by have hb_0 := hb; first | exact (ld1 Tryd.isAgg4 (I.at1 (o := 0) (vs := [(Value.bool cp0l2.fok)]) (nb rfl) rfl)) | (simp only [gv_t hb_0]; exact (ld1 Tryd.isAgg4 (I.at1 (o := 0) (vs := [(Value.bool cp0l2.fok)]) (nb rfl) rfl))) | (simp only [gval_t hb_0, gv_t hb_0, gv_t hb, gva_tf hb_0, gv_n]; exact (ld1 Tryd.isAgg4 (I.at1 (o := 0) (vs := [(Value.bool cp0l2.fok)]) (nb rfl) rfl)))) ?_
  refine opK_pu (pu_and _ _) ?_
  refine xcond_b (fun c_59 => ?_) (fun c_59 => ?_)
  ·replace h := h.1 c_59
   refine opK_pu pu_fa_30_3 ?_
   refine opK_ld (ld1 Tryd.isAgg28 ((I.bring 1).at1 (o := 3) (vs := [(vs x1.fArgs)]) (nb rfl) rfl)) ?_
   obtain ⟨h_46, h_47, x_43, h_49, h⟩ := h
   obtain ⟨g_44, o_45, h_48, h_49⟩ := h_49
   refine opK_pu (pu_ix_28 h_48 _ _ _ _ h_46 h_47) ?_
   refine opK_ld (ldA (vs := (cs_api_Expr x_43)) Tryd.isAgg30 Tryd.sizeOf30 rfl (I.atH h_49)) ?_
   refine opK_calls (cap := []) (fun args w => Tryd.call59 args w) ?_
   refine Cv_ct (Fi := [bx g0 102 (cs_gnomonref3_form cp0l2)]) (Fr := [bx g_2 30 (cs_api_Expr x1)]) I (h g0) (fun v_54 H_50 F_55 w_51 I_52 l_57 k_53 q_56 => ?_) (fun _ _ _ _ _ q => q.elim)
   obtain ⟨y0_58, rfl, rfl, h⟩ := q_56
   refine opK_pu (pu_add _ _ _ _ _ _) ?_
   exact hn2 _ _ _ (hm2 _ _ h).2 ⟨((IntKind.wrap .i64 (s5l2 + 1)), y0_58), H_50, rfl, rfl, ((I_52.bring 1).bring 1), (hm2 _ _ h).1⟩
  ·replace h := h.2 c_59
   exact hR cp0l2 H _ (I.bring 1).drop h
 refine xcut_i fun j1 hx1 => ?_
 refine opK_pu pu_fa_30_0 ?_
 refine opK_ld (ld1 Tryd.isAgg3 (I_4.at1 (o := 0) (vs := [(vi x1.fKind)]) (nb rfl) rfl)) ?_
 have hj3 : ∀ (s11j3 : Bool) (H : Hp) (w : World) (_ : Inv w0 ps0 H0 H [bx g_2 30 (cs_api_Expr x1), bx g0 102 (cs_gnomonref3_form x0)] w) (_ : T_gnomon_gnomonref3_form_expr_j3 0 x1.fKind s11j3 x1 x0 H K), F59_j3 (Value.pointer (some ⟨g0, 0, none⟩)) (Value.pointer (some ⟨g_2, 0, none⟩)) (vi 0) (vi x1.fKind) (Value.bool s11j3) w j1 R E := by
  intro s11j3 H w I h
  unfold F59_j3
  intro _
  unfold T_gnomon_gnomonref3_form_expr_j3 at h
  refine xcond_b (fun c_78 => ?_) (fun c_78 => ?_)
  ·replace h := h.1 c_78
   exact hx1 _ _ (hj1 0 x0 H _ ((I.bring 1).bring 1) h)
  ·replace h := h.2 c_78
   have hj4 : ∀ (s15j4 : Bool) (H : Hp) (w : World) (_ : Inv w0 ps0 H0 H [bx g_2 30 (cs_api_Expr x1), bx g0 102 (cs_gnomonref3_form x0)] w) (_ : T_gnomon_gnomonref3_form_expr_j4 0 x1.fKind s15j4 x1 x0 H K), F59_j4 (Value.pointer (some ⟨g0, 0, none⟩)) (Value.pointer (some ⟨g_2, 0, none⟩)) (vi 0) (vi x1.fKind) (Value.bool s15j4) w j1 R E := by
    intro s15j4 H w I h
    unfold F59_j4
    intro _
    unfold T_gnomon_gnomonref3_form_expr_j4 at h
    refine xcond_b (fun c_76 => ?_) (fun c_76 => ?_)
    ·replace h := h.1 c_76
     exact hx1 _ _ (hj1 1 x0 H _ ((I.bring 1).bring 1) h)
    ·replace h := h.2 c_76
     have hj5 : ∀ (s18j5 : Bool) (H : Hp) (w : World) (_ : Inv w0 ps0 H0 H [bx g_2 30 (cs_api_Expr x1), bx g0 102 (cs_gnomonref3_form x0)] w) (_ : T_gnomon_gnomonref3_form_expr_j5 0 s18j5 x1 x0 H K), F59_j5 (Value.pointer (some ⟨g0, 0, none⟩)) (Value.pointer (some ⟨g_2, 0, none⟩)) (vi 0) (Value.bool s18j5) w j1 R E := by
      intro s18j5 H w I h
      unfold F59_j5
      intro _
      unfold T_gnomon_gnomonref3_form_expr_j5 at h
      refine xcond_b (fun c_71 => ?_) (fun c_71 => ?_)
      ·replace h := h.1 c_71
       exact hx1 _ _ (hj1 2 x0 H _ ((I.bring 1).bring 1) h)
      ·replace h := h.2 c_71
       refine opK_pu (pu_nilp _) ?_
       refine opK_pu pu_fa_102_0 ?_
       refine s_store (I.bring 1) Tryd.sizeOf4 (vs := [(Value.bool false)]) (cs' := [(Value.bool false), (Value.bool x0.fnames)]) rfl rfl (nb rfl) rfl rfl fun w_68 I_69 k_70 => ?_
       exact hx1 _ _ (hj1 0 (Tgnomonref3_form.mk false x0.fnames) H _ (I_69.bring 1) h)
     refine xcut_i fun j5 hx5 => ?_
     refine opK_pu (pu_eql _ _ _ _ _ _) ?_
     refine xcond_p (fun c_75 => ?_) (fun c_75 => ?_)
     ·replace h := h.1 c_75
      exact hx5 _ _ (hj5 (decide (x1.fKind = 6)) H _ ((I.bring 1).bring 1) h)
     ·replace h := h.2 c_75
      refine opK_pu (pu_eql _ _ _ _ _ _) ?_
      refine xcond_p (fun c_74 => ?_) (fun c_74 => ?_)
      ·replace h := h.1 c_74
       exact hx5 _ _ (hj5 (decide (x1.fKind = 7)) H _ ((I.bring 1).bring 1) h)
      ·replace h := h.2 c_74
       refine opK_pu (pu_eql _ _ _ _ _ _) ?_
       refine xcond_p (fun c_73 => ?_) (fun c_73 => ?_)
       ·replace h := h.1 c_73
        exact hx5 _ _ (hj5 (decide (x1.fKind = 8)) H _ ((I.bring 1).bring 1) h)
       ·replace h := h.2 c_73
        refine opK_pu (pu_eql _ _ _ _ _ _) ?_
        refine xcond_p (fun c_72 => ?_) (fun c_72 => ?_)
        ·replace h := h.1 c_72
         exact hx5 _ _ (hj5 (decide (x1.fKind = 9)) H _ ((I.bring 1).bring 1) h)
        ·replace h := h.2 c_72
         refine opK_pu (pu_eql _ _ _ _ _ _) ?_
         exact hx5 _ _ (hj5 (decide (x1.fKind = 10)) H _ ((I.bring 1).bring 1) h)
   refine xcut_i fun j4 hx4 => ?_
   refine opK_pu (pu_eql _ _ _ _ _ _) ?_
   refine xcond_p (fun c_77 => ?_) (fun c_77 => ?_)
   ·replace h := h.1 c_77
    exact hx4 _ _ (hj4 (decide (x1.fKind = 4)) H _ ((I.bring 1).bring 1) h)
   ·replace h := h.2 c_77
    refine opK_pu (pu_eql _ _ _ _ _ _) ?_
    exact hx4 _ _ (hj4 (decide (x1.fKind = 5)) H _ ((I.bring 1).bring 1) h)
 refine xcut_i fun j3 hx3 => ?_
 refine opK_pu (pu_eql _ _ _ _ _ _) ?_
 refine xcond_p (fun c_80 => ?_) (fun c_80 => ?_)
 ·replace h := h.1 c_80
  exact hx3 _ _ (hj3 (decide (x1.fKind = 1)) H _ ((I_4.bring 1).bring 1) h)
 ·replace h := h.2 c_80
  refine opK_pu (pu_eql _ _ _ _ _ _) ?_
  refine xcond_p (fun c_79 => ?_) (fun c_79 => ?_)
  ·replace h := h.1 c_79
   exact hx3 _ _ (hj3 (decide (x1.fKind = 2)) H _ ((I_4.bring 1).bring 1) h)
  ·replace h := h.2 c_79
   refine opK_pu (pu_eql _ _ _ _ _ _) ?_
   exact hx3 _ _ (hj3 (decide (x1.fKind = 3)) H _ ((I_4.bring 1).bring 1) h)
theorem L_gnomon_gnomonref3_form_expr (x0 : Tgnomonref3_form) (x1 : Tapi_Expr) {H : Hp} {K : Tgnomonref3_form → Hp → Prop} (h : T_gnomon_gnomonref3_form_expr x0 x1 H K) : C_gnomon_gnomonref3_form_expr x0 x1 H K := by
 intro g0 w I
 refine F59_ok ?_
 refine LF_gnomon_gnomonref3_form_expr x0 x1 g0 I (fun y0 H' w' I' hk => ⟨H', _, I', y0, rfl, rfl, hk⟩) h


/- function 60: (gnomon/gnomonref3.form).told -/
def T_gnomon_gnomonref3_form_told (x0 : Tgnomonref3_form) (H : Hp) (K : Int → Hp → Prop) : Prop :=
 ((!x0.fok) = true →
 K 30 H) ∧
 ((!x0.fok) = false →
 ((!x0.fnames) = true →
 K 31 H) ∧
 ((!x0.fnames) = false →
 K 0 H))
theorem LF_gnomon_gnomonref3_form_told (x0 : Tgnomonref3_form) {w0 w : World} {ps0 : Nat → Prop} {H0 H : Hp} {K : Int → Hp → Prop} {R : Value → World → Prop} {E : Pan} (I : Inv w0 ps0 H0 H [] w) (hR : ∀ (r0 : Int) (H' : Hp) (w' : World) (_ : Inv w0 ps0 H0 H' [] w') (_ : K r0 H'), R (vi r0) w') (h : T_gnomon_gnomonref3_form_told x0 H K) : F60 (Value.agg (cs_gnomonref3_form x0).toArray) w R E := by
 unfold T_gnomon_gnomonref3_form_told at h
 unfold F60
 refine s_box I (cs := (cs_gnomonref3_form x0)) rfl fun g_2 w_3 I_4 k_5 => ?_
 refine opK_pu pu_fa_102_0 ?_
 refine opK_ld (ld1 Tryd.isAgg4 (I_4.at1 (o := 0) (vs := [(Value.bool x0.fok)]) (nb rfl) rfl)) ?_
 refine opK_pu (pu_not _) ?_
 refine xcond_b (fun c_7 => ?_) (fun c_7 => ?_)
 ·replace h := h.1 c_7
  exact hR 30 H _ I_4.drop h
 ·replace h := h.2 c_7
  refine opK_pu pu_fa_102_1 ?_
  refine opK_ld (ld1 Tryd.isAgg4 (I_4.at1 (o := 1) (vs := [(Value.bool x0.fnames)]) (nb rfl) rfl)) ?_
  refine opK_pu (pu_not _) ?_
  refine xcond_b (fun c_6 => ?_) (fun c_6 => ?_)
  ·replace h := h.1 c_6
   exact hR 31 H _ I_4.drop h
  ·replace h := h.2 c_6
   exact hR 0 H _ I_4.drop h
theorem L_gnomon_gnomonref3_form_told (x0 : Tgnomonref3_form) {H : Hp} {K : Int → Hp → Prop} (h : T_gnomon_gnomonref3_form_told x0 H K) : C_gnomon_gnomonref3_form_told x0 H K := by
 intro w I
 refine F60_ok ?_
 refine LF_gnomon_gnomonref3_form_told x0 I (fun r0 H' w' I' hk => ⟨H', _, I', r0, rfl, rfl, hk⟩) h


/- function 18: gnomon/gnomonref3.Expr -/
def T_gnomon_gnomonref3_Expr (x0 : Tapi_Expr) (H : Hp) (K : Int → Hp → Prop) : Prop :=
 C_gnomon_gnomonref3_walk_expr (Tgnomonref3_walk.mk 0 0 0) x0 1 H (fun (y0_22 : Tgnomonref3_walk) (H_14 : Hp) => 
 (¬ (y0_22.fbad = 0) →
 K y0_22.fbad H_14) ∧
 (y0_22.fbad = 0 →
 C_gnomon_gnomonref3_form_expr (Tgnomonref3_form.mk true true) x0 H_14 (fun (y0_39 : Tgnomonref3_form) (H_31 : Hp) => 
 C_gnomon_gnomonref3_form_told y0_39 H_31 (fun (r0_48 : Int) (H_40 : Hp) => 
 K r0_48 H_40))))
theorem LF_gnomon_gnomonref3_Expr (x0 : Tapi_Expr) {w0 w : World} {ps0 : Nat → Prop} {H0 H : Hp} {K : Int → Hp → Prop} {R : Value → World → Prop} {E : Pan} (I : Inv w0 ps0 H0 H [] w) (hR : ∀ (r0 : Int) (H' : Hp) (w' : World) (_ : Inv w0 ps0 H0 H' [] w') (_ : K r0 H'), R (vi r0) w') (h : T_gnomon_gnomonref3_Expr x0 H K) : F18 (Value.agg (cs_api_Expr x0).toArray) w R E := by
 unfold T_gnomon_gnomonref3_Expr at h
 unfold F18
 refine s_box I (cs := (cs_api_Expr x0)) rfl fun g_2 w_3 I_4 k_5 => ?_
 refine opK_pu (pu_bld_99 ) ?_
 refine s_alloc I_4 Tryd.zeroValue99 (cs := [(vi 0), (vi 0), (vi 0)]) rfl fun g_7 w_8 I_9 k_10 => ?_
 refine s_store I_9 Tryd.sizeOf99 (vs := [(vi 0), (vi 0), (vi 0)]) (cs' := [(vi 0), (vi 0), (vi 0)]) rfl rfl (nb rfl) rfl rfl fun w_11 I_12 k_13 => ?_
 refine opK_ld (ldA Tryd.isAgg30 Tryd.sizeOf30 rfl ((I_12.bring 1).at1 (o := 0) (vs := (cs_api_Expr x0)) (nb rfl) rfl)) ?_
 refine opK_calls (cap := []) (fun args w => Tryd.call58 args w) ?_
 refine Cv_ct (Fi := [bx g_7 99 [(vi 0), (vi 0), (vi 0)]]) (Fr := [bx g_2 30 (cs_api_Expr x0)]) I_12 (h g_7) (fun v_18 H_14 F_19 w_15 I_16 l_21 k_17 q_20 => ?_) (fun _ _ _ _ _ q => q.elim)
 obtain ⟨y0_22, rfl, rfl, h⟩ := q_20
 refine opK_pu pu_fa_99_2 ?_
 refine opK_ld (ld1 Tryd.isAgg3 (I_16.at1 (o := 2) (vs := [(vi y0_22.fbad)]) (nb rfl) rfl)) ?_
 refine opK_pu (pu_neq _ _ _ _ _ _) ?_
 refine xcond_n (fun c_49 => ?_) (fun c_49 => ?_)
 ·replace h := h.1 c_49
  refine opK_pu pu_fa_99_2 ?_
  refine opK_ld (ld1 Tryd.isAgg3 (I_16.at1 (o := 2) (vs := [(vi y0_22.fbad)]) (nb rfl) rfl)) ?_
  exact hR y0_22.fbad H_14 _ I_16.drop.drop h
 ·replace h := h.2 c_49
  refine opK_pu (pu_bld_102_0_1 _ _) ?_
  refine s_alloc I_16 Tryd.zeroValue102 (cs := [(Value.bool false), (Value.bool false)]) rfl fun g_24 w_25 I_26 k_27 => ?_
  refine s_store I_26 Tryd.sizeOf102 (vs := [(Value.bool true), (Value.bool true)]) (cs' := [(Value.bool true), (Value.bool true)]) rfl rfl (nb rfl) rfl rfl fun w_28 I_29 k_30 => ?_
  refine opK_ld (ldA Tryd.isAgg30 Tryd.sizeOf30 rfl ((I_29.bring 2).at1 (o := 0) (vs := (cs_api_Expr x0)) (nb rfl) rfl)) ?_
  refine opK_calls (cap := []) (fun args w => Tryd.call59 args w) ?_
  refine Cv_ct (Fi := [bx g_24 102 [(Value.bool true), (Value.bool true)]]) (Fr := [bx g_7 99 (cs_gnomonref3_walk y0_22), bx g_2 30 (cs_api_Expr x0)]) I_29 (h g_24) (fun v_35 H_31 F_36 w_32 I_33 l_38 k_34 q_37 => ?_) (fun _ _ _ _ _ q => q.elim)
  obtain ⟨y0_39, rfl, rfl, h⟩ := q_37
  refine opK_ld (ldA Tryd.isAgg102 Tryd.sizeOf102 rfl (I_33.at1 (o := 0) (vs := (cs_gnomonref3_form y0_39)) (nb rfl) rfl)) ?_
  refine opK_calls (cap := []) (fun args w => Tryd.call60 args w) ?_
  refine Cv_ct (Fi := []) (Fr := [bx g_24 102 (cs_gnomonref3_form y0_39), bx g_7 99 (cs_gnomonref3_walk y0_22), bx g_2 30 (cs_api_Expr x0)]) I_33 (h) (fun v_44 H_40 F_45 w_41 I_42 l_47 k_43 q_46 => ?_) (fun _ _ _ _ _ q => q.elim)
  obtain ⟨r0_48, rfl, rfl, h⟩ := q_46
  exact hR r0_48 H_40 _ I_42.drop.drop.drop h
theorem L_gnomon_gnomonref3_Expr (x0 : Tapi_Expr) {H : Hp} {K : Int → Hp → Prop} (h : T_gnomon_gnomonref3_Expr x0 H K) : C_gnomon_gnomonref3_Expr x0 H K := by
 intro w I
 refine F18_ok ?_
 refine LF_gnomon_gnomonref3_Expr x0 I (fun r0 H' w' I' hk => ⟨H', _, I', r0, rfl, rfl, hk⟩) h


/- function 19: gnomon/tree.Cond -/
def T_gnomon_tree_Cond (x0 : Tapi_Cond) (H : Hp) (K : Int → Hp → Prop) : Prop :=
 ∀ (s_7 : Sl) (H_13 : Hp), Hle H H_13 → SlH H_13 1 cs_tree_node s_7 [(Itree_node.c_tree_cond (Ttree_cond.mk x0))] → s_7.n ≤ s_7.c →
 C_gnomon_tree_walked s_7 H_13 (fun (r0_26 : Ttree_walker) (H_18 : Hp) => 
 K r0_26.fe H_18)
theorem LF_gnomon_tree_Cond (x0 : Tapi_Cond) {w0 w : World} {ps0 : Nat → Prop} {H0 H : Hp} {K : Int → Hp → Prop} {R : Value → World → Prop} {E : Pan} (I : Inv w0 ps0 H0 H [] w) (hR : ∀ (r0 : Int) (H' : Hp) (w' : World) (_ : Inv w0 ps0 H0 H' [] w') (_ : K r0 H'), R (vi r0) w') (h : T_gnomon_tree_Cond x0 H K) : F19 (Value.agg (cs_api_Cond x0).toArray) w R E := by
 unfold T_gnomon_tree_Cond at h
 unfold F19
 refine s_box I (cs := (cs_api_Cond x0)) rfl fun g_2 w_3 I_4 k_5 => ?_
 refine opK_ld (ldA Tryd.isAgg33 Tryd.sizeOf33 rfl (I_4.at1 (o := 0) (vs := (cs_api_Cond x0)) (nb rfl) rfl)) ?_
 refine opK_pu (pu_bld_106_0 _ _ _ _ _ _ _ _) ?_
 refine opK_pu (pu_mki_141_106 (Ttree_cond.mk x0)) ?_
 refine s_bs (e := 141) (c := cs_tree_node) (xs := [(Itree_node.c_tree_cond (Ttree_cond.mk x0))]) I_4 (bs_97_1 _) rfl rfl cs_tree_node_l cs_tree_node_o (nb rfl) fun s_7 F_8 w_9 h_10 I_11 k_12 => ?_
 obtain ⟨H_13, I_14, l_15, h_16, h_17⟩ := Inv.freezeC I_11 h_10 (by decide)
 replace h := h s_7 H_13 l_15 h_16 h_17
 refine opK_calls (cap := []) (fun args w => Tryd.call57 args w) ?_
 refine Cv_ct (Fi := []) (Fr := [bx g_2 33 (cs_api_Cond x0)]) I_14 (h) (fun v_22 H_18 F_23 w_19 I_20 l_25 k_21 q_24 => ?_) (fun _ _ _ _ _ q => q.elim)
 obtain ⟨r0_26, gr0_26, rfl, rfl, h⟩ := q_24
 refine opK_pu (pu_nilp _) ?_
 refine opK_pu pu_fa_92_2 ?_
 refine opK_ld (ld1 Tryd.isAgg34 (I_20.at1 (o := 2) (vs := [(vi r0_26.fe)]) (nb rfl) rfl)) ?_
 exact hR r0_26.fe H_18 _ I_20.drop.drop h
theorem L_gnomon_tree_Cond (x0 : Tapi_Cond) {H : Hp} {K : Int → Hp → Prop} (h : T_gnomon_tree_Cond x0 H K) : C_gnomon_tree_Cond x0 H K := by
 intro w I
 refine F19_ok ?_
 refine LF_gnomon_tree_Cond x0 I (fun r0 H' w' I' hk => ⟨H', _, I', r0, rfl, rfl, hk⟩) h


/- function 62: (*gnomon/gnomonref3.form).cond -/
def T_gnomon_gnomonref3_form_cond_l4 (cr_1l4 : Tapi_Cond) (s8l4 : Int) (cp0l4 : Tgnomonref3_form) (H : Hp) (n4 : (Int × Tgnomonref3_form) → Hp → Prop) (K : Tgnomonref3_form → Hp → Prop) : Prop :=
 (((decide (s8l4 < (cr_1l4.fParts.n : Int))) && cp0l4.fok) = true →
 (0 : Int) ≤ s8l4 ∧ (s8l4 : Int) < cr_1l4.fParts.n ∧ ∃ x_50 : Tapi_Cond, EltH H cr_1l4.fParts s8l4 4 (cs_api_Cond x_50) ∧ 
 C_gnomon_gnomonref3_form_cond cp0l4 x_50 H (fun (y0_65 : Tgnomonref3_form) (H_57 : Hp) => 
 n4 ((IntKind.wrap .i64 (s8l4 + 1)), y0_65) H_57)) ∧
 (((decide (s8l4 < (cr_1l4.fParts.n : Int))) && cp0l4.fok) = false →
 K cp0l4 H)
def T_gnomon_gnomonref3_form_cond_j3 (cp0j3 : Tgnomonref3_form) (cr_1j3 : Tapi_Cond) (H : Hp) (K : Tgnomonref3_form → Hp → Prop) : Prop :=
 TL ((0, cp0j3) : Int × Tgnomonref3_form) H fun (s : Int × Tgnomonref3_form) H n4 => T_gnomon_gnomonref3_form_cond_l4 cr_1j3 s.1 s.2 H n4 K
def T_gnomon_gnomonref3_form_cond_l5 (cr_1l5 : Tapi_Cond) (s7l5 : Int) (cp0l5 : Tgnomonref3_form) (H : Hp) (n5 : (Int × Tgnomonref3_form) → Hp → Prop) (K : Tgnomonref3_form → Hp → Prop) : Prop :=
 (((decide (s7l5 < (cr_1l5.fExprs.n : Int))) && cp0l5.fok) = true →
 (0 : Int) ≤ s7l5 ∧ (s7l5 : Int) < cr_1l5.fExprs.n ∧ ∃ x_84 : Tapi_Expr, EltH H cr_1l5.fExprs s7l5 4 (cs_api_Expr x_84) ∧ 
 C_gnomon_gnomonref3_form_expr cp0l5 x_84 H (fun (y0_99 : Tgnomonref3_form) (H_91 : Hp) => 
 n5 ((IntKind.wrap .i64 (s7l5 + 1)), y0_99) H_91)) ∧
 (((decide (s7l5 < (cr_1l5.fExprs.n : Int))) && cp0l5.fok) = false →
 T_gnomon_gnomonref3_form_cond_j3 cp0l5 cr_1l5 H K)
def T_gnomon_gnomonref3_form_cond_j2 (s4j2 : Int) (s5j2 : Int) (s6j2 : Bool) (cr_1j2 : Tapi_Cond) (cp0j2 : Tgnomonref3_form) (H : Hp) (K : Tgnomonref3_form → Hp → Prop) : Prop :=
 TL ((0, (Tgnomonref3_form.mk (((cp0j2.fok && s6j2) && (decide ((cr_1j2.fExprs.n : Int) = s4j2))) && (decide ((cr_1j2.fParts.n : Int) = s5j2))) cp0j2.fnames)) : Int × Tgnomonref3_form) H fun (s : Int × Tgnomonref3_form) H n5 => T_gnomon_gnomonref3_form_cond_l5 cr_1j2 s.1 s.2 H n5 K
def T_gnomon_gnomonref3_form_cond_j1 (s4j1 : Int) (s5j1 : Int) (cr_1j1 : Tapi_Cond) (cp0j1 : Tgnomonref3_form) (H : Hp) (K : Tgnomonref3_form → Hp → Prop) : Prop :=
 (cr_1j1.fKind = 3 →
 T_gnomon_gnomonref3_form_cond_j2 s4j1 s5j1 ((decide (1 ≤ cr_1j1.fOp)) && (decide (cr_1j1.fOp ≤ 6))) cr_1j1 cp0j1 H K) ∧
 (¬ (cr_1j1.fKind = 3) →
 T_gnomon_gnomonref3_form_cond_j2 s4j1 s5j1 (decide (cr_1j1.fOp = 0)) cr_1j1 cp0j1 H K)
def T_gnomon_gnomonref3_form_cond_j7 (s4j7 : Int) (s5j7 : Int) (s21j7 : Bool) (cr_1j7 : Tapi_Cond) (cp0j7 : Tgnomonref3_form) (H : Hp) (K : Tgnomonref3_form → Hp → Prop) : Prop :=
 (s21j7 = true →
 T_gnomon_gnomonref3_form_cond_j1 s4j7 2 cr_1j7 cp0j7 H K) ∧
 (s21j7 = false →
 T_gnomon_gnomonref3_form_cond_j1 s4j7 s5j7 cr_1j7 (Tgnomonref3_form.mk false cp0j7.fnames) H K)
def T_gnomon_gnomonref3_form_cond_j6 (s4j6 : Int) (s5j6 : Int) (s10j6 : Int) (s14j6 : Bool) (cr_1j6 : Tapi_Cond) (cp0j6 : Tgnomonref3_form) (H : Hp) (K : Tgnomonref3_form → Hp → Prop) : Prop :=
 (s14j6 = true →
 T_gnomon_gnomonref3_form_cond_j1 s4j6 s5j6 cr_1j6 cp0j6 H K) ∧
 (s14j6 = false →
 (s10j6 = 3 →
 T_gnomon_gnomonref3_form_cond_j1 2 s5j6 cr_1j6 cp0j6 H K) ∧
 (¬ (s10j6 = 3) →
 (s10j6 = 4 →
 T_gnomon_gnomonref3_form_cond_j1 s4j6 1 cr_1j6 cp0j6 H K) ∧
 (¬ (s10j6 = 4) →
 (s10j6 = 5 →
 T_gnomon_gnomonref3_form_cond_j7 s4j6 s5j6 (decide (s10j6 = 5)) cr_1j6 cp0j6 H K) ∧
 (¬ (s10j6 = 5) →
 T_gnomon_gnomonref3_form_cond_j7 s4j6 s5j6 (decide (s10j6 = 6)) cr_1j6 cp0j6 H K))))
def T_gnomon_gnomonref3_form_cond (x0 : Tgnomonref3_form) (x1 : Tapi_Cond) (H : Hp) (K : Tgnomonref3_form → Hp → Prop) : Prop :=
 (x1.fKind = 1 →
 T_gnomon_gnomonref3_form_cond_j6 0 0 x1.fKind (decide (x1.fKind = 1)) x1 x0 H K) ∧
 (¬ (x1.fKind = 1) →
 T_gnomon_gnomonref3_form_cond_j6 0 0 x1.fKind (decide (x1.fKind = 2)) x1 x0 H K)
theorem LF_gnomon_gnomonref3_form_cond (x0 : Tgnomonref3_form) (x1 : Tapi_Cond) (g0 : Nat) {w0 w : World} {ps0 : Nat → Prop} {H0 H : Hp} {K : Tgnomonref3_form → Hp → Prop} {R : Value → World → Prop} {E : Pan} (I : Inv w0 ps0 H0 H [bx g0 102 (cs_gnomonref3_form x0)] w) (hR : ∀ (y0 : Tgnomonref3_form) (H' : Hp) (w' : World) (_ : Inv w0 ps0 H0 H' [bx g0 102 (cs_gnomonref3_form y0)] w') (_ : K y0 H'), R (Value.tuple #[]) w') (h : T_gnomon_gnomonref3_form_cond x0 x1 H K) : F62 (Value.pointer (some ⟨g0, 0, none⟩)) (Value.agg (cs_api_Cond x1).toArray) w R E := by
 unfold T_gnomon_gnomonref3_form_cond at h
 unfold F62
 refine s_box I (cs := (cs_api_Cond x1)) rfl fun g_2 w_3 I_4 k_5 => ?_
 have hj1 : ∀ (s4j1 : Int) (s5j1 : Int) (cp0j1 : Tgnomonref3_form) (H : Hp) (w : World) (_ : Inv w0 ps0 H0 H [bx g_2 33 (cs_api_Cond x1), bx g0 102 (cs_gnomonref3_form cp0j1)] w) (_ : T_gnomon_gnomonref3_form_cond_j1 s4j1 s5j1 x1 cp0j1 H K), F62_j1 (Value.pointer (some ⟨g0, 0, none⟩)) (Value.pointer (some ⟨g_2, 0, none⟩)) (vi s4j1) (vi s5j1) w R E := by
  intro s4j1 s5j1 cp0j1 H w I h
  unfold F62_j1
  intro _
  unfold T_gnomon_gnomonref3_form_cond_j1 at h
  refine opK_pu pu_fa_33_1 ?_
  refine opK_ld (ld1 Tryd.isAgg3 (I.at1 (o := 1) (vs := [(vi x1.fOp)]) (nb rfl) rfl)) ?_
  refine opK_pu (pu_eql _ _ _ _ _ _) ?_
  have hj2 : ∀ (s6j2 : Bool) (H : Hp) (w : World) (_ : Inv w0 ps0 H0 H [bx g_2 33 (cs_api_Cond x1), bx g0 102 (cs_gnomonref3_form cp0j1)] w) (_ : T_gnomon_gnomonref3_form_cond_j2 s4j1 s5j1 s6j2 x1 cp0j1 H K), F62_j2 (Value.pointer (some ⟨g0, 0, none⟩)) (Value.pointer (some ⟨g_2, 0, none⟩)) (vi s4j1) (vi s5j1) (Value.bool s6j2) w R E := by
   intro s6j2 H w I h
   unfold F62_j2
   intro _
   unfold T_gnomon_gnomonref3_form_cond_j2 at h
   refine opK_pu (pu_nilp _) ?_
   refine opK_pu pu_fa_102_0 ?_
   refine opK_ld (ld1 Tryd.isAgg4 ((I.bring 1).at1 (o := 0) (vs := [(Value.bool cp0j1.fok)]) (nb rfl) rfl)) ?_
   try simp only [gval_b]
   refine opK_pu (pu_and _ _) ?_
   refine opK_pu (Pu.g fun hb => by have hb_0 := hb; first | exact pu_fa_33_2 | (simp only [gval_t hb_0, gv_t hb_0, gv_t hb, gva_tt hb_0]; exact pu_fa_33_2) | (simp only [gval_t hb_0, gv_t hb_0, gv_t hb, gva_tf hb_0, gv_n]; exact pu_fa_33_2)) ?_
   refine opK_ld (Ld.g fun hb => by have hb_0 := hb; first | exact (ld1 Tryd.isAgg28 (I.at1 (o := 2) (vs := [(vs x1.fExprs)]) (nb rfl) rfl)) | (simp only [gv_t hb_0]; exact (ld1 Tryd.isAgg28 (I.at1 (o := 2) (vs := [(vs x1.fExprs)]) (nb rfl) rfl))) | (simp only [gval_t hb_0, gv_t hb_0, gv_t hb, gva_tf hb_0, gv_n]; exact (ld1 Tryd.isAgg28 (I.at1 (o := 2) (vs := [(vs x1.fExprs)]) (nb rfl) rfl)))) ?_
   refine opK_pu (Pu.g fun hb => by have hb_0 := hb; first | exact (pu_len_28 _ _ _) | (simp only [gv_t hb_0]; exact (pu_len_28 _ _ _)) | (simp only [gval_t hb_0, gv_t hb_0, gv_t hb, gva_tf hb_0, gv_n]; exact (pu_len_28 _ _ _))) ?_
   try simp only [gval_b]
   refine opK_pu (Pu.g fun hb => by have hb_0 := hb; first | exact (pu_eql _ _ _ _ _ _) | (simp only [gv_t hb_0]; exact (pu_eql _ _ _ _ _ _)) | (simp only [gval_t hb_0, gv_t hb_0, gv_t hb, gva_tf hb_0, gv_n]; exact (pu_eql _ _ _ _ _ _))) ?_
   refine opK_pu (pu_and _ _) ?_
   refine opK_pu (Pu.g fun hb => by have hb_0 := hb; first | exact pu_fa_33_3 | (simp only [gval_t hb_0, gv_t hb_0, gv_t hb, gva_tt hb_0]; exact pu_fa_33_3) | (simp only [gval_t hb_0, gv_t hb_0, gv_t hb, gva_tf hb_0, gv_n]; exact pu_fa_33_3)) ?_
   refine opK_ld (Ld.g fun hb => by have hb_0 := hb; first | exact (ld1 Tryd.isAgg31 (I.at1 (o := 3) (vs := [(vs x1.fParts)]) (nb rfl) rfl)) | (simp only [gv_t hb_0]; exact (ld1 Tryd.isAgg31 (I.at1 (o := 3) (vs := [(vs x1.fParts)]) (nb rfl) rfl))) | (simp only [gval_t hb_0, gv_t hb_0, gv_t hb, gva_tf hb_0, gv_n]; exact (ld1 Tryd.isAgg31 (I.at1 (o := 3) (vs := [(vs x1.fParts)]) (nb rfl) rfl)))) ?_
   refine opK_pu (Pu.g fun hb => by have hb_0 := hb; first | exact (pu_len_31 _ _ _) | (simp only [gv_t hb_0]; exact (pu_len_31 _ _ _)) | (simp only [gval_t hb_0, gv_t hb_0, gv_t hb, gva_tf hb_0, gv_n]; exact (pu_len_31 _ _ _))) ?_
   try simp only [gval_b]
   refine opK_pu (Pu.g fun hb => by have hb_0 := hb; first | exact (pu_eql _ _ _ _ _ _) | (simp only [gv_t hb_0]; exact (pu_eql _ _ _ _ _ _)) | (simp only [gval_t hb_0, gv_t hb_0, gv_t hb, gva_tf hb_0, gv_n]; exact (pu_eql _ _ _ _ _ _))) ?_
   refine opK_pu (pu_and _ _) ?_
   refine opK_pu (pu_nilp _) ?_
   refine opK_pu pu_fa_102_0 ?_
   refine s_store (I.bring 1) Tryd.sizeOf4 (vs := [(Value.bool (((cp0j1.fok && s6j2) && (decide ((x1.fExprs.n : Int) = s4j1))) && (decide ((x1.fParts.n : Int) = s5j1))))]) (cs' := [(Value.bool (((cp0j1.fok && s6j2) && (decide ((x1.fExprs.n : Int) = s4j1))) && (decide ((x1.fParts.n : Int) = s5j1)))), (Value.bool cp0j1.fnames)]) rfl rfl (nb rfl) rfl rfl fun w_6 I_7 k_8 => ?_
   have hj3 : ∀ (cp0j3 : Tgnomonref3_form) (H : Hp) (w : World) (_ : Inv w0 ps0 H0 H [bx g0 102 (cs_gnomonref3_form cp0j3), bx g_2 33 (cs_api_Cond x1)] w) (_ : T_gnomon_gnomonref3_form_cond_j3 cp0j3 x1 H K), F62_j3 (Value.pointer (some ⟨g0, 0, none⟩)) (Value.pointer (some ⟨g_2, 0, none⟩)) w R E := by
    intro cp0j3 H w I h
    unfold F62_j3
    intro _
    unfold T_gnomon_gnomonref3_form_cond_j3 at h
    obtain ⟨J_67, m_68, i_69, b_70⟩ := h
    refine xloop_J (J := fun n l w => ∃ (s : Int × Tgnomonref3_form) (H : Hp) , n = m_68 s ∧ l = (match s with | (s8l4, cp0l4) => [(vi s8l4)]) ∧ (match s with | (s8l4, cp0l4) => Inv w0 ps0 H0 H [bx g0 102 (cs_gnomonref3_form cp0l4), bx g_2 33 (cs_api_Cond x1)] w) ∧ J_67 s H) ⟨_, (0, cp0j3), H, rfl, rfl, ((I.bring 1).bring 1), i_69⟩ ?_
    rintro n_71 τ_72 w next4 ⟨⟨s8l4, cp0l4⟩, H, rfl, l_73, I, s_74⟩ hn4
    dsimp only at l_73 I
    simp only [List.map_cons, List.map_nil, List.cons.injEq, and_true] at l_73
    have e8 := l_73
    simp only [e8]
    obtain ⟨n4, hm4, h⟩ : ∃ n4 : (Int × Tgnomonref3_form) → Hp → Prop, (∀ s' H', n4 s' H' → J_67 s' H' ∧ m_68 s' < m_68 (s8l4, cp0l4)) ∧ T_gnomon_gnomonref3_form_cond_l4 x1 s8l4 cp0l4 H n4 K := ⟨_, fun _ _ h => h, b_70 (s8l4, cp0l4) H (fun s' H' => J_67 s' H' ∧ m_68 s' < m_68 (s8l4, cp0l4)) s_74 (fun _ _ a b => ⟨a, b⟩)⟩
    unfold F62_l4
    unfold T_gnomon_gnomonref3_form_cond_l4 at h
    refine opK_pu pu_fa_33_3 ?_
    refine opK_ld (ld1 Tryd.isAgg31 ((I.bring 1).at1 (o := 3) (vs := [(vs x1.fParts)]) (nb rfl) rfl)) ?_
    refine opK_pu (pu_len_31 _ _ _) ?_
    refine opK_pu (pu_lss _ _ _ _ _ _) ?_
    try simp only [gval_b]
    refine opK_pu (Pu.g fun hb => by have hb_0 := hb; first | exact (pu_nilp _) | (simp only [gv_t hb_0]; exact (pu_nilp _)) | (simp only [gval_t hb_0, gv_t hb_0, gv_t hb, gva_tf hb_0, gv_n]; exact (pu_nilp _))) ?_
    refine opK_pu (Pu.g fun hb => by have hb_0 := hb; first | exact pu_fa_102_0 | (simp only [gv_t hb_0]; exact pu_fa_102_0) | (simp only [gval_t hb_0, gv_t hb_0, gv_t hb, gva_tf hb_0, gv_n]; exact pu_fa_102_0)) ?_
    refine opK_ld (Ld.g fun hb => by have hb_0 := hb; first | exact (ld1 Tryd.isAgg4 (I.at1 (o := 0) (vs := [(Value.bool cp0l4.fok)]) (nb rfl) rfl)) | (simp only [gv_t hb_0]; exact (ld1 Tryd.isAgg4 (I.at1 (o := 0) (vs := [(Value.bool cp0l4.fok)]) (nb rfl) rfl))) | (simp only [gval_t hb_0, gv_t hb_0, gv_t hb, gva_tf hb_0, gv_n]; exact (ld1 Tryd.isAgg4 (I.at1 (o := 0) (vs := [(Value.bool cp0l4.fok)]) (nb rfl) rfl)))) ?_
    refine opK_pu (pu_and _ _) ?_
    refine xcond_b (fun c_66 => ?_) (fun c_66 => ?_)
    ·replace h := h.1 c_66
     refine opK_pu pu_fa_33_3 ?_
     refine opK_ld (ld1 Tryd.isAgg31 ((I.bring 1).at1 (o := 3) (vs := [(vs x1.fParts)]) (nb rfl) rfl)) ?_
     obtain ⟨h_53, h_54, x_50, h_56, h⟩ := h
     obtain ⟨g_51, o_52, h_55, h_56⟩ := h_56
     refine opK_pu (pu_ix_31 h_55 _ _ _ _ h_53 h_54) ?_
     refine opK_ld (ldA (vs := (cs_api_Cond x_50)) Tryd.isAgg33 Tryd.sizeOf33 rfl (I.atH h_56)) ?_
     refine opK_calls (cap := []) (fun args w => Tryd.call62 args w) ?_
     refine Cv_ct (Fi := [bx g0 102 (cs_gnomonref3_form cp0l4)]) (Fr := [bx g_2 33 (cs_api_Cond x1)]) I (h g0) (fun v_61 H_57 F_62 w_58 I_59 l_64 k_60 q_63 => ?_) (fun _ _ _ _ _ q => q.elim)
     obtain ⟨y0_65, rfl, rfl, h⟩ := q_63
     refine opK_pu (pu_add _ _ _ _ _ _) ?_
     exact hn4 _ _ _ (hm4 _ _ h).2 ⟨((IntKind.wrap .i64 (s8l4 + 1)), y0_65), H_57, rfl, rfl, ((I_59.bring 1).bring 1), (hm4 _ _ h).1⟩
    ·replace h := h.2 c_66
     exact hR cp0l4 H _ (I.bring 1).drop h
   refine xcut_i fun j3 hx3 => ?_
   obtain ⟨J_101, m_102, i_103, b_104⟩ := h
   refine xloop_J (J := fun n l w => ∃ (s : Int × Tgnomonref3_form) (H : Hp) , n = m_102 s ∧ l = (match s with | (s7l5, cp0l5) => [(vi s7l5)]) ∧ (match s with | (s7l5, cp0l5) => Inv w0 ps0 H0 H [bx g0 102 (cs_gnomonref3_form cp0l5), bx g_2 33 (cs_api_Cond x1)] w) ∧ J_101 s H) ⟨_, (0, (Tgnomonref3_form.mk (((cp0j1.fok && s6j2) && (decide ((x1.fExprs.n : Int) = s4j1))) && (decide ((x1.fParts.n : Int) = s5j1))) cp0j1.fnames)), H, rfl, rfl, ((I_7.bring 1).bring 1), i_103⟩ ?_
   rintro n_105 τ_106 w next5 ⟨⟨s7l5, cp0l5⟩, H, rfl, l_107, I, s_108⟩ hn5
   dsimp only at l_107 I
   simp only [List.map_cons, List.map_nil, List.cons.injEq, and_true] at l_107
   have e7 := l_107
   simp only [e7]
   obtain ⟨n5, hm5, h⟩ : ∃ n5 : (Int × Tgnomonref3_form) → Hp → Prop, (∀ s' H', n5 s' H' → J_101 s' H' ∧ m_102 s' < m_102 (s7l5, cp0l5)) ∧ T_gnomon_gnomonref3_form_cond_l5 x1 s7l5 cp0l5 H n5 K := ⟨_, fun _ _ h => h, b_104 (s7l5, cp0l5) H (fun s' H' => J_101 s' H' ∧ m_102 s' < m_102 (s7l5, cp0l5)) s_108 (fun _ _ a b => ⟨a, b⟩)⟩
   unfold F62_l5
   unfold T_gnomon_gnomonref3_form_cond_l5 at h
   refine opK_pu pu_fa_33_2 ?_
   refine opK_ld (ld1 Tryd.isAgg28 ((I.bring 1).at1 (o := 2) (vs := [(vs x1.fExprs)]) (nb rfl) rfl)) ?_
   refine opK_pu (pu_len_28 _ _ _) ?_
   refine opK_pu (pu_lss _ _ _ _ _ _) ?_
   try simp only [gval_b]
   refine opK_pu (Pu.g fun hb => by have hb_0 := hb; first | exact (pu_nilp _) | (simp only [gv_t hb_0]; exact (pu_nilp _)) | (simp only [gval_t hb_0, gv_t hb_0, gv_t hb, gva_tf hb_0, gv_n]; exact (pu_nilp _))) ?_
   refine opK_pu (Pu.g fun hb => by have hb_0 := hb; first | exact pu_fa_102_0 | (simp only [gv_t hb_0]; exact pu_fa_102_0) | (simp only [gval_t hb_0, gv_t hb_0, gv_t hb, gva_tf hb_0, gv_n]; exact pu_fa_102_0)) ?_
   refine opK_ld (Ld.g fun hb => by have hb_0 := hb; first | exact (ld1 Tryd.isAgg4 (I.at1 (o := 0) (vs := [(Value.bool cp0l5.fok)]) (nb rfl) rfl)) | (simp only [gv_t hb_0]; exact (ld1 Tryd.isAgg4 (I.at1 (o := 0) (vs := [(Value.bool cp0l5.fok)]) (nb rfl) rfl))) | (simp only [gval_t hb_0, gv_t hb_0, gv_t hb, gva_tf hb_0, gv_n]; exact (ld1 Tryd.isAgg4 (I.at1 (o := 0) (vs := [(Value.bool cp0l5.fok)]) (nb rfl) rfl)))) ?_
   refine opK_pu (pu_and _ _) ?_
   refine xcond_b (fun c_100 => ?_) (fun c_100 => ?_)
   ·replace h := h.1 c_100
    refine opK_pu pu_fa_33_2 ?_
    refine opK_ld (ld1 Tryd.isAgg28 ((I.bring 1).at1 (o := 2) (vs := [(vs x1.fExprs)]) (nb rfl) rfl)) ?_
    obtain ⟨h_87, h_88, x_84, h_90, h⟩ := h
    obtain ⟨g_85, o_86, h_89, h_90⟩ := h_90
    refine opK_pu (pu_ix_28 h_89 _ _ _ _ h_87 h_88) ?_
    refine opK_ld (ldA (vs := (cs_api_Expr x_84)) Tryd.isAgg30 Tryd.sizeOf30 rfl (I.atH h_90)) ?_
    refine opK_calls (cap := []) (fun args w => Tryd.call59 args w) ?_
    refine Cv_ct (Fi := [bx g0 102 (cs_gnomonref3_form cp0l5)]) (Fr := [bx g_2 33 (cs_api_Cond x1)]) I (h g0) (fun v_95 H_91 F_96 w_92 I_93 l_98 k_94 q_97 => ?_) (fun _ _ _ _ _ q => q.elim)
    obtain ⟨y0_99, rfl, rfl, h⟩ := q_97
    refine opK_pu (pu_add _ _ _ _ _ _) ?_
    exact hn5 _ _ _ (hm5 _ _ h).2 ⟨((IntKind.wrap .i64 (s7l5 + 1)), y0_99), H_91, rfl, rfl, ((I_93.bring 1).bring 1), (hm5 _ _ h).1⟩
   ·replace h := h.2 c_100
    exact hx3 _ _ (hj3 cp0l5 H _ ((I.bring 1).bring 1) h)
  refine xcut_i fun j2 hx2 => ?_
  refine opK_pu pu_fa_33_0 ?_
  refine opK_ld (ld1 Tryd.isAgg3 (I.at1 (o := 0) (vs := [(vi x1.fKind)]) (nb rfl) rfl)) ?_
  refine opK_pu (pu_eql _ _ _ _ _ _) ?_
  refine xcond_p (fun c_109 => ?_) (fun c_109 => ?_)
  ·replace h := h.1 c_109
   refine opK_pu pu_fa_33_1 ?_
   refine opK_ld (ld1 Tryd.isAgg3 (I.at1 (o := 1) (vs := [(vi x1.fOp)]) (nb rfl) rfl)) ?_
   refine opK_pu (pu_geq _ _ _ _ _ _) ?_
   refine opK_pu (Pu.g fun hb => by have hb_0 := hb; first | exact pu_fa_33_1 | (simp only [gval_t hb_0, gv_t hb_0, gv_t hb, gva_tt hb_0]; exact pu_fa_33_1) | (simp only [gval_t hb_0, gv_t hb_0, gv_t hb, gva_tf hb_0, gv_n]; exact pu_fa_33_1)) ?_
   refine opK_ld (Ld.g fun hb => by have hb_0 := hb; first | exact (ld1 Tryd.isAgg3 (I.at1 (o := 1) (vs := [(vi x1.fOp)]) (nb rfl) rfl)) | (simp only [gv_t hb_0]; exact (ld1 Tryd.isAgg3 (I.at1 (o := 1) (vs := [(vi x1.fOp)]) (nb rfl) rfl))) | (simp only [gval_t hb_0, gv_t hb_0, gv_t hb, gva_tf hb_0, gv_n]; exact (ld1 Tryd.isAgg3 (I.at1 (o := 1) (vs := [(vi x1.fOp)]) (nb rfl) rfl)))) ?_
   refine opK_pu (Pu.g fun hb => by have hb_0 := hb; first | exact (pu_leq _ _ _ _ _ _) | (simp only [gv_t hb_0]; exact (pu_leq _ _ _ _ _ _)) | (simp only [gval_t hb_0, gv_t hb_0, gv_t hb, gva_tf hb_0, gv_n]; exact (pu_leq _ _ _ _ _ _))) ?_
   refine opK_pu (pu_and _ _) ?_
   exact hx2 _ _ (hj2 ((decide (1 ≤ x1.fOp)) && (decide (x1.fOp ≤ 6))) H _ ((I.bring 1).bring 1) h)
  ·replace h := h.2 c_109
   exact hx2 _ _ (hj2 (decide (x1.fOp = 0)) H _ ((I.bring 1).bring 1) h)
 refine xcut_i fun j1 hx1 => ?_
 refine opK_pu pu_fa_33_0 ?_
 refine opK_ld (ld1 Tryd.isAgg3 (I_4.at1 (o := 0) (vs := [(vi x1.fKind)]) (nb rfl) rfl)) ?_
 have hj6 : ∀ (s14j6 : Bool) (H : Hp) (w : World) (_ : Inv w0 ps0 H0 H [bx g_2 33 (cs_api_Cond x1), bx g0 102 (cs_gnomonref3_form x0)] w) (_ : T_gnomon_gnomonref3_form_cond_j6 0 0 x1.fKind s14j6 x1 x0 H K), F62_j6 (Value.pointer (some ⟨g0, 0, none⟩)) (Value.pointer (some ⟨g_2, 0, none⟩)) (vi 0) (vi 0) (vi x1.fKind) (Value.bool s14j6) w j1 R E := by
  intro s14j6 H w I h
  unfold F62_j6
  intro _
  unfold T_gnomon_gnomonref3_form_cond_j6 at h
  refine xcond_b (fun c_117 => ?_) (fun c_117 => ?_)
  ·replace h := h.1 c_117
   exact hx1 _ _ (hj1 0 0 x0 H _ ((I.bring 1).bring 1) h)
  ·replace h := h.2 c_117
   refine opK_pu (pu_eql _ _ _ _ _ _) ?_
   refine xcond_p (fun c_116 => ?_) (fun c_116 => ?_)
   ·replace h := h.1 c_116
    exact hx1 _ _ (hj1 2 0 x0 H _ ((I.bring 1).bring 1) h)
   ·replace h := h.2 c_116
    refine opK_pu (pu_eql _ _ _ _ _ _) ?_
    refine xcond_p (fun c_115 => ?_) (fun c_115 => ?_)
    ·replace h := h.1 c_115
     exact hx1 _ _ (hj1 0 1 x0 H _ ((I.bring 1).bring 1) h)
    ·replace h := h.2 c_115
     have hj7 : ∀ (s21j7 : Bool) (H : Hp) (w : World) (_ : Inv w0 ps0 H0 H [bx g_2 33 (cs_api_Cond x1), bx g0 102 (cs_gnomonref3_form x0)] w) (_ : T_gnomon_gnomonref3_form_cond_j7 0 0 s21j7 x1 x0 H K), F62_j7 (Value.pointer (some ⟨g0, 0, none⟩)) (Value.pointer (some ⟨g_2, 0, none⟩)) (vi 0) (vi 0) (Value.bool s21j7) w j1 R E := by
      intro s21j7 H w I h
      unfold F62_j7
      intro _
      unfold T_gnomon_gnomonref3_form_cond_j7 at h
      refine xcond_b (fun c_113 => ?_) (fun c_113 => ?_)
      ·replace h := h.1 c_113
       exact hx1 _ _ (hj1 0 2 x0 H _ ((I.bring 1).bring 1) h)
      ·replace h := h.2 c_113
       refine opK_pu (pu_nilp _) ?_
       refine opK_pu pu_fa_102_0 ?_
       refine s_store (I.bring 1) Tryd.sizeOf4 (vs := [(Value.bool false)]) (cs' := [(Value.bool false), (Value.bool x0.fnames)]) rfl rfl (nb rfl) rfl rfl fun w_110 I_111 k_112 => ?_
       exact hx1 _ _ (hj1 0 0 (Tgnomonref3_form.mk false x0.fnames) H _ (I_111.bring 1) h)
     refine xcut_i fun j7 hx7 => ?_
     refine opK_pu (pu_eql _ _ _ _ _ _) ?_
     refine xcond_p (fun c_114 => ?_) (fun c_114 => ?_)
     ·replace h := h.1 c_114
      exact hx7 _ _ (hj7 (decide (x1.fKind = 5)) H _ ((I.bring 1).bring 1) h)
     ·replace h := h.2 c_114
      refine opK_pu (pu_eql _ _ _ _ _ _) ?_
      exact hx7 _ _ (hj7 (decide (x1.fKind = 6)) H _ ((I.bring 1).bring 1) h)
 refine xcut_i fun j6 hx6 => ?_
 refine opK_pu (pu_eql _ _ _ _ _ _) ?_
 refine xcond_p (fun c_118 => ?_) (fun c_118 => ?_)
 ·replace h := h.1 c_118
  exact hx6 _ _ (hj6 (decide (x1.fKind = 1)) H _ ((I_4.bring 1).bring 1) h)
 ·replace h := h.2 c_118
  refine opK_pu (pu_eql _ _ _ _ _ _) ?_
  exact hx6 _ _ (hj6 (decide (x1.fKind = 2)) H _ ((I_4.bring 1).bring 1) h)
theorem L_gnomon_gnomonref3_form_cond (x0 : Tgnomonref3_form) (x1 : Tapi_Cond) {H : Hp} {K : Tgnomonref3_form → Hp → Prop} (h : T_gnomon_gnomonref3_form_cond x0 x1 H K) : C_gnomon_gnomonref3_form_cond x0 x1 H K := by
 intro g0 w I
 refine F62_ok ?_
 refine LF_gnomon_gnomonref3_form_cond x0 x1 g0 I (fun y0 H' w' I' hk => ⟨H', _, I', y0, rfl, rfl, hk⟩) h


/- function 20: gnomon/gnomonref3.Cond -/
def T_gnomon_gnomonref3_Cond (x0 : Tapi_Cond) (H : Hp) (K : Int → Hp → Prop) : Prop :=
 C_gnomon_gnomonref3_walk_cond (Tgnomonref3_walk.mk 0 0 0) x0 1 H (fun (y0_22 : Tgnomonref3_walk) (H_14 : Hp) => 
 (¬ (y0_22.fbad = 0) →
 K y0_22.fbad H_14) ∧
 (y0_22.fbad = 0 →
 C_gnomon_gnomonref3_form_cond (Tgnomonref3_form.mk true true) x0 H_14 (fun (y0_39 : Tgnomonref3_form) (H_31 : Hp) => 
 C_gnomon_gnomonref3_form_told y0_39 H_31 (fun (r0_48 : Int) (H_40 : Hp) => 
 K r0_48 H_40))))
theorem LF_gnomon_gnomonref3_Cond (x0 : Tapi_Cond) {w0 w : World} {ps0 : Nat → Prop} {H0 H : Hp} {K : Int → Hp → Prop} {R : Value → World → Prop} {E : Pan} (I : Inv w0 ps0 H0 H [] w) (hR : ∀ (r0 : Int) (H' : Hp) (w' : World) (_ : Inv w0 ps0 H0 H' [] w') (_ : K r0 H'), R (vi r0) w') (h : T_gnomon_gnomonref3_Cond x0 H K) : F20 (Value.agg (cs_api_Cond x0).toArray) w R E := by
 unfold T_gnomon_gnomonref3_Cond at h
 unfold F20
 refine s_box I (cs := (cs_api_Cond x0)) rfl fun g_2 w_3 I_4 k_5 => ?_
 refine opK_pu (pu_bld_99 ) ?_
 refine s_alloc I_4 Tryd.zeroValue99 (cs := [(vi 0), (vi 0), (vi 0)]) rfl fun g_7 w_8 I_9 k_10 => ?_
 refine s_store I_9 Tryd.sizeOf99 (vs := [(vi 0), (vi 0), (vi 0)]) (cs' := [(vi 0), (vi 0), (vi 0)]) rfl rfl (nb rfl) rfl rfl fun w_11 I_12 k_13 => ?_
 refine opK_ld (ldA Tryd.isAgg33 Tryd.sizeOf33 rfl ((I_12.bring 1).at1 (o := 0) (vs := (cs_api_Cond x0)) (nb rfl) rfl)) ?_
 refine opK_calls (cap := []) (fun args w => Tryd.call61 args w) ?_
 refine Cv_ct (Fi := [bx g_7 99 [(vi 0), (vi 0), (vi 0)]]) (Fr := [bx g_2 33 (cs_api_Cond x0)]) I_12 (h g_7) (fun v_18 H_14 F_19 w_15 I_16 l_21 k_17 q_20 => ?_) (fun _ _ _ _ _ q => q.elim)
 obtain ⟨y0_22, rfl, rfl, h⟩ := q_20
 refine opK_pu pu_fa_99_2 ?_
 refine opK_ld (ld1 Tryd.isAgg3 (I_16.at1 (o := 2) (vs := [(vi y0_22.fbad)]) (nb rfl) rfl)) ?_
 refine opK_pu (pu_neq _ _ _ _ _ _) ?_
 refine xcond_n (fun c_49 => ?_) (fun c_49 => ?_)
 ·replace h := h.1 c_49
  refine opK_pu pu_fa_99_2 ?_
  refine opK_ld (ld1 Tryd.isAgg3 (I_16.at1 (o := 2) (vs := [(vi y0_22.fbad)]) (nb rfl) rfl)) ?_
  exact hR y0_22.fbad H_14 _ I_16.drop.drop h
 ·replace h := h.2 c_49
  refine opK_pu (pu_bld_102_0_1 _ _) ?_
  refine s_alloc I_16 Tryd.zeroValue102 (cs := [(Value.bool false), (Value.bool false)]) rfl fun g_24 w_25 I_26 k_27 => ?_
  refine s_store I_26 Tryd.sizeOf102 (vs := [(Value.bool true), (Value.bool true)]) (cs' := [(Value.bool true), (Value.bool true)]) rfl rfl (nb rfl) rfl rfl fun w_28 I_29 k_30 => ?_
  refine opK_ld (ldA Tryd.isAgg33 Tryd.sizeOf33 rfl ((I_29.bring 2).at1 (o := 0) (vs := (cs_api_Cond x0)) (nb rfl) rfl)) ?_
  refine opK_calls (cap := []) (fun args w => Tryd.call62 args w) ?_
  refine Cv_ct (Fi := [bx g_24 102 [(Value.bool true), (Value.bool true)]]) (Fr := [bx g_7 99 (cs_gnomonref3_walk y0_22), bx g_2 33 (cs_api_Cond x0)]) I_29 (h g_24) (fun v_35 H_31 F_36 w_32 I_33 l_38 k_34 q_37 => ?_) (fun _ _ _ _ _ q => q.elim)
  obtain ⟨y0_39, rfl, rfl, h⟩ := q_37
  refine opK_ld (ldA Tryd.isAgg102 Tryd.sizeOf102 rfl (I_33.at1 (o := 0) (vs := (cs_gnomonref3_form y0_39)) (nb rfl) rfl)) ?_
  refine opK_calls (cap := []) (fun args w => Tryd.call60 args w) ?_
  refine Cv_ct (Fi := []) (Fr := [bx g_24 102 (cs_gnomonref3_form y0_39), bx g_7 99 (cs_gnomonref3_walk y0_22), bx g_2 33 (cs_api_Cond x0)]) I_33 (h) (fun v_44 H_40 F_45 w_41 I_42 l_47 k_43 q_46 => ?_) (fun _ _ _ _ _ q => q.elim)
  obtain ⟨r0_48, rfl, rfl, h⟩ := q_46
  exact hR r0_48 H_40 _ I_42.drop.drop.drop h
theorem L_gnomon_gnomonref3_Cond (x0 : Tapi_Cond) {H : Hp} {K : Int → Hp → Prop} (h : T_gnomon_gnomonref3_Cond x0 H K) : C_gnomon_gnomonref3_Cond x0 H K := by
 intro w I
 refine F20_ok ?_
 refine LF_gnomon_gnomonref3_Cond x0 I (fun r0 H' w' I' hk => ⟨H', _, I', r0, rfl, rfl, hk⟩) h


/- function 4: gnomon/gnomonlaw3.TreeParts -/
def T_gnomon_gnomonlaw3_TreeParts (x0 : Tapi_Expr) (x1 : Tapi_Cond) (H : Hp) (K : Bool → Hp → Prop) : Prop :=
 C_gnomon_gnomonlaw3_known H (fun (r0_21 : Bool) (H_13 : Hp) => 
 TG (r0_21 = true) (C_gnomon_tree_Expr x0 H_13) 0 H_13 (fun (r0_30 : Int) (H_22 : Hp) =>
 TG (r0_21 = true) (C_gnomon_gnomonref3_Expr x0 H_22) 0 H_22 (fun (r0_39 : Int) (H_31 : Hp) =>
 TG ((r0_21 && (decide (r0_30 = r0_39))) = true) (C_gnomon_tree_Cond x1 H_31) 0 H_31 (fun (r0_48 : Int) (H_40 : Hp) =>
 TG ((r0_21 && (decide (r0_30 = r0_39))) = true) (C_gnomon_gnomonref3_Cond x1 H_40) 0 H_40 (fun (r0_57 : Int) (H_49 : Hp) =>
 K ((r0_21 && (decide (r0_30 = r0_39))) && (decide (r0_48 = r0_57))) H_49)))))
theorem LF_gnomon_gnomonlaw3_TreeParts (x0 : Tapi_Expr) (x1 : Tapi_Cond) {w0 w : World} {ps0 : Nat → Prop} {H0 H : Hp} {K : Bool → Hp → Prop} {R : Value → World → Prop} {E : Pan} (I : Inv w0 ps0 H0 H [] w) (hR : ∀ (r0 : Bool) (H' : Hp) (w' : World) (_ : Inv w0 ps0 H0 H' [] w') (_ : K r0 H'), R (Value.bool r0) w') (h : T_gnomon_gnomonlaw3_TreeParts x0 x1 H K) : F4 (Value.agg (cs_api_Expr x0).toArray) (Value.agg (cs_api_Cond x1).toArray) w R E := by
 unfold T_gnomon_gnomonlaw3_TreeParts at h
 unfold F4
 refine s_box I (cs := (cs_api_Expr x0)) rfl fun g_2 w_3 I_4 k_5 => ?_
 refine s_box I_4 (cs := (cs_api_Cond x1)) rfl fun g_7 w_8 I_9 k_10 => ?_
 refine s_dX I_9 fun w_11 I_12 => ?_
 refine opK_calls (cap := []) (fun args w => Tryd.call14 args w) ?_
 refine Cv_ct (Fi := []) (Fr := [bx g_7 33 (cs_api_Cond x1), bx g_2 30 (cs_api_Expr x0)]) I_12 (h) (fun v_17 H_13 F_18 w_14 I_15 l_20 k_16 q_19 => ?_) (fun _ _ _ _ _ q => q.elim)
 obtain ⟨r0_21, rfl, rfl, h⟩ := q_19
 refine qL_ld (Ld.g fun hb => by have hb_0 := hb; first | exact (ldA Tryd.isAgg30 Tryd.sizeOf30 rfl ((I_15.bring 1).at1 (o := 0) (vs := (cs_api_Expr x0)) (nb rfl) rfl)) | (simp only [gval_t hb_0, gv_t hb_0, gv_t hb, gva_tt hb_0]; exact (ldA Tryd.isAgg30 Tryd.sizeOf30 rfl ((I_15.bring 1).at1 (o := 0) (vs := (cs_api_Expr x0)) (nb rfl) rfl))) | (simp only [gval_t hb_0, gv_t hb_0, gv_t hb, gva_tf hb_0, gv_n]; exact (ldA Tryd.isAgg30 Tryd.sizeOf30 rfl ((I_15.bring 1).at1 (o := 0) (vs := (cs_api_Expr x0)) (nb rfl) rfl)))) ?_
 refine qL_ld (Ld.g fun hb => by have hb_0 := hb; first | exact (ldA Tryd.isAgg30 Tryd.sizeOf30 rfl ((I_15.bring 1).at1 (o := 0) (vs := (cs_api_Expr x0)) (nb rfl) rfl)) | (simp only [gval_t hb_0, gv_t hb_0, gv_t hb, gva_tt hb_0]; exact (ldA Tryd.isAgg30 Tryd.sizeOf30 rfl ((I_15.bring 1).at1 (o := 0) (vs := (cs_api_Expr x0)) (nb rfl) rfl))) | (simp only [gval_t hb_0, gv_t hb_0, gv_t hb, gva_tf hb_0, gv_n]; exact (ldA Tryd.isAgg30 Tryd.sizeOf30 rfl ((I_15.bring 1).at1 (o := 0) (vs := (cs_api_Expr x0)) (nb rfl) rfl)))) ?_
 refine opK_g2 (D := fun v_26 w_23 => ∃ (r0_30 : Int) (H_22 : Hp) , v_26 = (gv r0_21 true (vi r0_30)) ∧ (Inv w0 ps0 H0 H_22 [bx g_7 33 (cs_api_Cond x1), bx g_2 30 (cs_api_Expr x0)] w_23) ∧ (∀ i, i < w_14.heap.size → ¬ inF [] i → w_23.heap[i]? = w_14.heap[i]?) ∧ Hle H_13 H_22 ∧ (TG (r0_21 = true) (C_gnomon_gnomonref3_Expr x0 H_22) 0 H_22 (fun (r0_39 : Int) (H_31 : Hp) =>
 TG ((r0_21 && (decide (r0_30 = r0_39))) = true) (C_gnomon_tree_Cond x1 H_31) 0 H_31 (fun (r0_48 : Int) (H_40 : Hp) =>
 TG ((r0_21 && (decide (r0_30 = r0_39))) = true) (C_gnomon_gnomonref3_Cond x1 H_40) 0 H_40 (fun (r0_57 : Int) (H_49 : Hp) =>
 K ((r0_21 && (decide (r0_30 = r0_39))) && (decide (r0_48 = r0_57))) H_49))))) (fun b_61 => ?_) (fun b_61 => ?_) ?_
 ·replace h := h.1 b_61
  have hb_0 := b_61
  try simp only [gv_t hb_0]
  refine opK_calls (cap := []) (fun args w => Tryd.call17 args w) ?_
  refine Cv_ct (Fi := []) (Fr := [bx g_7 33 (cs_api_Cond x1), bx g_2 30 (cs_api_Expr x0)]) I_15 (h) (fun v_26 H_22 F_27 w_23 I_24 l_29 k_25 q_28 => ?_) (fun _ _ _ _ _ q => q.elim)
  obtain ⟨r0_30, rfl, rfl, h⟩ := q_28
  exact ⟨r0_30, H_22, by first | rfl | rw [gv_t b_61], I_24, k_25, l_29, h⟩
 ·exact ⟨0, H_13, by first | rfl | rw [gv_f b_61], I_15, fun _ _ _ => rfl, Hle.refl _, h.2 b_61⟩
 ·clear h
  rintro v_26 w_23 ⟨r0_30, H_22, rfl, I_24, k_25, l_29, h⟩
  refine ⟨(k_25 _ (I_15.bring 1).lt1 (Inv.not_in (Fi := []) (I_15.bring 1))), ?_⟩
  refine opK_g2 (D := fun v_35 w_32 => ∃ (r0_39 : Int) (H_31 : Hp) , v_35 = (gv r0_21 true (vi r0_39)) ∧ (Inv w0 ps0 H0 H_31 [bx g_7 33 (cs_api_Cond x1), bx g_2 30 (cs_api_Expr x0)] w_32) ∧ (∀ i, i < w_23.heap.size → ¬ inF [] i → w_32.heap[i]? = w_23.heap[i]?) ∧ Hle H_22 H_31 ∧ (TG ((r0_21 && (decide (r0_30 = r0_39))) = true) (C_gnomon_tree_Cond x1 H_31) 0 H_31 (fun (r0_48 : Int) (H_40 : Hp) =>
 TG ((r0_21 && (decide (r0_30 = r0_39))) = true) (C_gnomon_gnomonref3_Cond x1 H_40) 0 H_40 (fun (r0_57 : Int) (H_49 : Hp) =>
 K ((r0_21 && (decide (r0_30 = r0_39))) && (decide (r0_48 = r0_57))) H_49)))) (fun b_60 => ?_) (fun b_60 => ?_) ?_
  ·replace h := h.1 b_60
   have hb_0 := b_60
   try simp only [gv_t hb_0]
   refine opK_calls (cap := []) (fun args w => Tryd.call18 args w) ?_
   refine Cv_ct (Fi := []) (Fr := [bx g_7 33 (cs_api_Cond x1), bx g_2 30 (cs_api_Expr x0)]) I_24 (h) (fun v_35 H_31 F_36 w_32 I_33 l_38 k_34 q_37 => ?_) (fun _ _ _ _ _ q => q.elim)
   obtain ⟨r0_39, rfl, rfl, h⟩ := q_37
   exact ⟨r0_39, H_31, by first | rfl | rw [gv_t b_60], I_33, k_34, l_38, h⟩
  ·exact ⟨0, H_22, by first | rfl | rw [gv_f b_60], I_24, fun _ _ _ => rfl, Hle.refl _, h.2 b_60⟩
  ·clear h
   rintro v_35 w_32 ⟨r0_39, H_31, rfl, I_33, k_34, l_38, h⟩
   refine qP_pu (Pu.g fun hb => by have hb_0 := hb; first | exact (pu_eql _ _ _ _ _ _) | (simp only [gv_t hb_0]; exact (pu_eql _ _ _ _ _ _)) | (simp only [gval_t hb_0, gv_t hb_0, gv_t hb, gva_tf hb_0, gv_n]; exact (pu_eql _ _ _ _ _ _))) ?_
   refine qP_pu (pu_and _ _) ?_
   refine qL_ld (Ld.g fun hb => by have hb_0 := hb; first | exact (ldA Tryd.isAgg33 Tryd.sizeOf33 rfl (I_33.at1 (o := 0) (vs := (cs_api_Cond x1)) (nb rfl) rfl)) | (simp only [gval_t hb_0, gv_t hb_0, gv_t hb, gva_tt hb_0]; exact (ldA Tryd.isAgg33 Tryd.sizeOf33 rfl (I_33.at1 (o := 0) (vs := (cs_api_Cond x1)) (nb rfl) rfl))) | (simp only [gval_t hb_0, gv_t hb_0, gv_t hb, gva_tf hb_0, gv_n]; exact (ldA Tryd.isAgg33 Tryd.sizeOf33 rfl (I_33.at1 (o := 0) (vs := (cs_api_Cond x1)) (nb rfl) rfl)))) ?_
   refine qL_ld (Ld.g fun hb => by have hb_0 := hb; first | exact (ldA Tryd.isAgg33 Tryd.sizeOf33 rfl (I_33.at1 (o := 0) (vs := (cs_api_Cond x1)) (nb rfl) rfl)) | (simp only [gval_t hb_0, gv_t hb_0, gv_t hb, gva_tt hb_0]; exact (ldA Tryd.isAgg33 Tryd.sizeOf33 rfl (I_33.at1 (o := 0) (vs := (cs_api_Cond x1)) (nb rfl) rfl))) | (simp only [gval_t hb_0, gv_t hb_0, gv_t hb, gva_tf hb_0, gv_n]; exact (ldA Tryd.isAgg33 Tryd.sizeOf33 rfl (I_33.at1 (o := 0) (vs := (cs_api_Cond x1)) (nb rfl) rfl)))) ?_
   refine opK_g2 (D := fun v_44 w_41 => ∃ (r0_48 : Int) (H_40 : Hp) , v_44 = (gv (r0_21 && (decide (r0_30 = r0_39))) true (vi r0_48)) ∧ (Inv w0 ps0 H0 H_40 [bx g_7 33 (cs_api_Cond x1), bx g_2 30 (cs_api_Expr x0)] w_41) ∧ (∀ i, i < w_32.heap.size → ¬ inF [] i → w_41.heap[i]? = w_32.heap[i]?) ∧ Hle H_31 H_40 ∧ (TG ((r0_21 && (decide (r0_30 = r0_39))) = true) (C_gnomon_gnomonref3_Cond x1 H_40) 0 H_40 (fun (r0_57 : Int) (H_49 : Hp) =>
 K ((r0_21 && (decide (r0_30 = r0_39))) && (decide (r0_48 = r0_57))) H_49))) (fun b_59 => ?_) (fun b_59 => ?_) ?_
   ·replace h := h.1 b_59
    have hb_0 := b_59
    try simp only [gv_t hb_0]
    refine opK_calls (cap := []) (fun args w => Tryd.call19 args w) ?_
    refine Cv_ct (Fi := []) (Fr := [bx g_7 33 (cs_api_Cond x1), bx g_2 30 (cs_api_Expr x0)]) I_33 (h) (fun v_44 H_40 F_45 w_41 I_42 l_47 k_43 q_46 => ?_) (fun _ _ _ _ _ q => q.elim)
    obtain ⟨r0_48, rfl, rfl, h⟩ := q_46
    exact ⟨r0_48, H_40, by first | rfl | rw [gv_t b_59], I_42, k_43, l_47, h⟩
   ·exact ⟨0, H_31, by first | rfl | rw [gv_f b_59], I_33, fun _ _ _ => rfl, Hle.refl _, h.2 b_59⟩
   ·clear h
    rintro v_44 w_41 ⟨r0_48, H_40, rfl, I_42, k_43, l_47, h⟩
    refine ⟨(k_43 _ I_33.lt1 (Inv.not_in (Fi := []) I_33)), ?_⟩
    refine opK_g2 (D := fun v_53 w_50 => ∃ (r0_57 : Int) (H_49 : Hp) , v_53 = (gv (r0_21 && (decide (r0_30 = r0_39))) true (vi r0_57)) ∧ (Inv w0 ps0 H0 H_49 [bx g_7 33 (cs_api_Cond x1), bx g_2 30 (cs_api_Expr x0)] w_50) ∧ (∀ i, i < w_41.heap.size → ¬ inF [] i → w_50.heap[i]? = w_41.heap[i]?) ∧ Hle H_40 H_49 ∧ (K ((r0_21 && (decide (r0_30 = r0_39))) && (decide (r0_48 = r0_57))) H_49)) (fun b_58 => ?_) (fun b_58 => ?_) ?_
    ·replace h := h.1 b_58
     have hb_0 := b_58
     try simp only [gv_t hb_0]
     refine opK_calls (cap := []) (fun args w => Tryd.call20 args w) ?_
     refine Cv_ct (Fi := []) (Fr := [bx g_7 33 (cs_api_Cond x1), bx g_2 30 (cs_api_Expr x0)]) I_42 (h) (fun v_53 H_49 F_54 w_50 I_51 l_56 k_52 q_55 => ?_) (fun _ _ _ _ _ q => q.elim)
     obtain ⟨r0_57, rfl, rfl, h⟩ := q_55
     exact ⟨r0_57, H_49, by first | rfl | rw [gv_t b_58], I_51, k_52, l_56, h⟩
    ·exact ⟨0, H_40, by first | rfl | rw [gv_f b_58], I_42, fun _ _ _ => rfl, Hle.refl _, h.2 b_58⟩
    ·clear h
     rintro v_53 w_50 ⟨r0_57, H_49, rfl, I_51, k_52, l_56, h⟩
     refine qP_pu (Pu.g fun hb => by have hb_0 := hb; first | exact (pu_eql _ _ _ _ _ _) | (simp only [gv_t hb_0]; exact (pu_eql _ _ _ _ _ _)) | (simp only [gval_t hb_0, gv_t hb_0, gv_t hb, gva_tf hb_0, gv_n]; exact (pu_eql _ _ _ _ _ _))) ?_
     refine qP_pu (pu_and _ _) ?_
     exact hR ((r0_21 && (decide (r0_30 = r0_39))) && (decide (r0_48 = r0_57))) H_49 _ I_51.drop.drop h
theorem L_gnomon_gnomonlaw3_TreeParts (x0 : Tapi_Expr) (x1 : Tapi_Cond) {H : Hp} {K : Bool → Hp → Prop} (h : T_gnomon_gnomonlaw3_TreeParts x0 x1 H K) : C_gnomon_gnomonlaw3_TreeParts x0 x1 H K := by
 intro w I
 refine F4_ok ?_
 refine LF_gnomon_gnomonlaw3_TreeParts x0 x1 I (fun r0 H' w' I' hk => ⟨H', _, I', r0, rfl, rfl, hk⟩) h


/- function 65: (*gnomon/gnomonref3.form).stmt -/
def T_gnomon_gnomonref3_form_stmt_l5 (cr_1l5 : Tapi_Stmt) (s9l5 : Int) (cp0l5 : Tgnomonref3_form) (H : Hp) (n5 : (Int × Tgnomonref3_form) → Hp → Prop) (K : Tgnomonref3_form → Hp → Prop) : Prop :=
 (((decide (s9l5 < (cr_1l5.fElse.n : Int))) && cp0l5.fok) = true →
 (0 : Int) ≤ s9l5 ∧ (s9l5 : Int) < cr_1l5.fElse.n ∧ ∃ x_91 : Tapi_Stmt, EltH H cr_1l5.fElse s9l5 6 (cs_api_Stmt x_91) ∧ 
 C_gnomon_gnomonref3_form_stmt cp0l5 x_91 H (fun (y0_106 : Tgnomonref3_form) (H_98 : Hp) => 
 n5 ((IntKind.wrap .i64 (s9l5 + 1)), y0_106) H_98)) ∧
 (((decide (s9l5 < (cr_1l5.fElse.n : Int))) && cp0l5.fok) = false →
 K cp0l5 H)
def T_gnomon_gnomonref3_form_stmt_j4 (cp0j4 : Tgnomonref3_form) (cr_1j4 : Tapi_Stmt) (H : Hp) (K : Tgnomonref3_form → Hp → Prop) : Prop :=
 TL ((0, cp0j4) : Int × Tgnomonref3_form) H fun (s : Int × Tgnomonref3_form) H n5 => T_gnomon_gnomonref3_form_stmt_l5 cr_1j4 s.1 s.2 H n5 K
def T_gnomon_gnomonref3_form_stmt_l6 (cr_1l6 : Tapi_Stmt) (s8l6 : Int) (cp0l6 : Tgnomonref3_form) (H : Hp) (n6 : (Int × Tgnomonref3_form) → Hp → Prop) (K : Tgnomonref3_form → Hp → Prop) : Prop :=
 (((decide (s8l6 < (cr_1l6.fThen.n : Int))) && cp0l6.fok) = true →
 (0 : Int) ≤ s8l6 ∧ (s8l6 : Int) < cr_1l6.fThen.n ∧ ∃ x_125 : Tapi_Stmt, EltH H cr_1l6.fThen s8l6 6 (cs_api_Stmt x_125) ∧ 
 C_gnomon_gnomonref3_form_stmt cp0l6 x_125 H (fun (y0_140 : Tgnomonref3_form) (H_132 : Hp) => 
 n6 ((IntKind.wrap .i64 (s8l6 + 1)), y0_140) H_132)) ∧
 (((decide (s8l6 < (cr_1l6.fThen.n : Int))) && cp0l6.fok) = false →
 T_gnomon_gnomonref3_form_stmt_j4 cp0l6 cr_1l6 H K)
def T_gnomon_gnomonref3_form_stmt_j3 (cp0j3 : Tgnomonref3_form) (cr_1j3 : Tapi_Stmt) (H : Hp) (K : Tgnomonref3_form → Hp → Prop) : Prop :=
 TL ((0, cp0j3) : Int × Tgnomonref3_form) H fun (s : Int × Tgnomonref3_form) H n6 => T_gnomon_gnomonref3_form_stmt_l6 cr_1j3 s.1 s.2 H n6 K
def T_gnomon_gnomonref3_form_stmt_l7 (cr_1l7 : Tapi_Stmt) (s7l7 : Int) (cp0l7 : Tgnomonref3_form) (H : Hp) (n7 : (Int × Tgnomonref3_form) → Hp → Prop) (K : Tgnomonref3_form → Hp → Prop) : Prop :=
 (((decide (s7l7 < (cr_1l7.fExprs.n : Int))) && cp0l7.fok) = true →
 (0 : Int) ≤ s7l7 ∧ (s7l7 : Int) < cr_1l7.fExprs.n ∧ ∃ x_159 : Tapi_Expr, EltH H cr_1l7.fExprs s7l7 4 (cs_api_Expr x_159) ∧ 
 C_gnomon_gnomonref3_form_expr cp0l7 x_159 H (fun (y0_174 : Tgnomonref3_form) (H_166 : Hp) => 
 n7 ((IntKind.wrap .i64 (s7l7 + 1)), y0_174) H_166)) ∧
 (((decide (s7l7 < (cr_1l7.fExprs.n : Int))) && cp0l7.fok) = false →
 T_gnomon_gnomonref3_form_stmt_j3 cp0l7 cr_1l7 H K)
def T_gnomon_gnomonref3_form_stmt_j2 (cp0j2 : Tgnomonref3_form) (cr_1j2 : Tapi_Stmt) (H : Hp) (K : Tgnomonref3_form → Hp → Prop) : Prop :=
 TL ((0, cp0j2) : Int × Tgnomonref3_form) H fun (s : Int × Tgnomonref3_form) H n7 => T_gnomon_gnomonref3_form_stmt_l7 cr_1j2 s.1 s.2 H n7 K
def T_gnomon_gnomonref3_form_stmt_l8 (cr_1l8 : Tapi_Stmt) (s6l8 : Int) (cp0l8 : Tgnomonref3_form) (H : Hp) (n8 : (Int × Tgnomonref3_form) → Hp → Prop) (K : Tgnomonref3_form → Hp → Prop) : Prop :=
 (((decide (s6l8 < (cr_1l8.fConds.n : Int))) && cp0l8.fok) = true →
 (0 : Int) ≤ s6l8 ∧ (s6l8 : Int) < cr_1l8.fConds.n ∧ ∃ x_193 : Tapi_Cond, EltH H cr_1l8.fConds s6l8 4 (cs_api_Cond x_193) ∧ 
 C_gnomon_gnomonref3_form_cond cp0l8 x_193 H (fun (y0_208 : Tgnomonref3_form) (H_200 : Hp) => 
 n8 ((IntKind.wrap .i64 (s6l8 + 1)), y0_208) H_200)) ∧
 (((decide (s6l8 < (cr_1l8.fConds.n : Int))) && cp0l8.fok) = false →
 T_gnomon_gnomonref3_form_stmt_j2 cp0l8 cr_1l8 H K)
def T_gnomon_gnomonref3_form_stmt_j1 (s4j1 : Int) (s5j1 : Int) (cr_1j1 : Tapi_Stmt) (cp0j1 : Tgnomonref3_form) (H : Hp) (K : Tgnomonref3_form → Hp → Prop) : Prop :=
 C_gnomon_gnomonref3_form_name cp0j1 cr_1j1.fName ((decide (cr_1j1.fKind = 1)) || (decide (cr_1j1.fKind = 2))) H (fun (y0_14 : Tgnomonref3_form) (H_6 : Hp) => 
 TL ((0, (Tgnomonref3_form.mk ((((y0_14.fok && (decide ((cr_1j1.fExprs.n : Int) = s4j1))) && (decide ((cr_1j1.fConds.n : Int) = s5j1))) && (((decide ((cr_1j1.fThen.n : Int) = 0)) || (decide (cr_1j1.fKind = 3))) || (decide (cr_1j1.fKind = 4)))) && ((decide ((cr_1j1.fElse.n : Int) = 0)) || (decide (cr_1j1.fKind = 3)))) y0_14.fnames)) : Int × Tgnomonref3_form) H_6 fun (s : Int × Tgnomonref3_form) H n8 => T_gnomon_gnomonref3_form_stmt_l8 cr_1j1 s.1 s.2 H n8 K)
def T_gnomon_gnomonref3_form_stmt_j9 (s4j9 : Int) (s5j9 : Int) (s11j9 : Int) (s19j9 : Bool) (cr_1j9 : Tapi_Stmt) (cp0j9 : Tgnomonref3_form) (H : Hp) (K : Tgnomonref3_form → Hp → Prop) : Prop :=
 (s19j9 = true →
 T_gnomon_gnomonref3_form_stmt_j1 s4j9 1 cr_1j9 cp0j9 H K) ∧
 (s19j9 = false →
 (s11j9 = 7 →
 T_gnomon_gnomonref3_form_stmt_j1 s4j9 s5j9 cr_1j9 cp0j9 H K) ∧
 (¬ (s11j9 = 7) →
 T_gnomon_gnomonref3_form_stmt_j1 s4j9 s5j9 cr_1j9 (Tgnomonref3_form.mk false cp0j9.fnames) H K))
def T_gnomon_gnomonref3_form_stmt (x0 : Tgnomonref3_form) (x1 : Tapi_Stmt) (H : Hp) (K : Tgnomonref3_form → Hp → Prop) : Prop :=
 (x1.fKind = 1 →
 T_gnomon_gnomonref3_form_stmt_j1 1 0 x1 x0 H K) ∧
 (¬ (x1.fKind = 1) →
 (x1.fKind = 2 →
 T_gnomon_gnomonref3_form_stmt_j1 2 0 x1 x0 H K) ∧
 (¬ (x1.fKind = 2) →
 (x1.fKind = 3 →
 T_gnomon_gnomonref3_form_stmt_j9 0 0 x1.fKind (decide (x1.fKind = 3)) x1 x0 H K) ∧
 (¬ (x1.fKind = 3) →
 (x1.fKind = 4 →
 T_gnomon_gnomonref3_form_stmt_j9 0 0 x1.fKind (decide (x1.fKind = 4)) x1 x0 H K) ∧
 (¬ (x1.fKind = 4) →
 (x1.fKind = 5 →
 T_gnomon_gnomonref3_form_stmt_j9 0 0 x1.fKind (decide (x1.fKind = 5)) x1 x0 H K) ∧
 (¬ (x1.fKind = 5) →
 T_gnomon_gnomonref3_form_stmt_j9 0 0 x1.fKind (decide (x1.fKind = 6)) x1 x0 H K)))))
theorem LF_gnomon_gnomonref3_form_stmt (x0 : Tgnomonref3_form) (x1 : Tapi_Stmt) (g0 : Nat) {w0 w : World} {ps0 : Nat → Prop} {H0 H : Hp} {K : Tgnomonref3_form → Hp → Prop} {R : Value → World → Prop} {E : Pan} (I : Inv w0 ps0 H0 H [bx g0 102 (cs_gnomonref3_form x0)] w) (hR : ∀ (y0 : Tgnomonref3_form) (H' : Hp) (w' : World) (_ : Inv w0 ps0 H0 H' [bx g0 102 (cs_gnomonref3_form y0)] w') (_ : K y0 H'), R (Value.tuple #[]) w') (h : T_gnomon_gnomonref3_form_stmt x0 x1 H K) : F65 (Value.pointer (some ⟨g0, 0, none⟩)) (Value.agg (cs_api_Stmt x1).toArray) w R E := by
 unfold T_gnomon_gnomonref3_form_stmt at h
 unfold F65
 refine s_box I (cs := (cs_api_Stmt x1)) rfl fun g_2 w_3 I_4 k_5 => ?_
 have hj1 : ∀ (s4j1 : Int) (s5j1 : Int) (cp0j1 : Tgnomonref3_form) (H : Hp) (w : World) (_ : Inv w0 ps0 H0 H [bx g_2 88 (cs_api_Stmt x1), bx g0 102 (cs_gnomonref3_form cp0j1)] w) (_ : T_gnomon_gnomonref3_form_stmt_j1 s4j1 s5j1 x1 cp0j1 H K), F65_j1 (Value.pointer (some ⟨g0, 0, none⟩)) (Value.pointer (some ⟨g_2, 0, none⟩)) (vi s4j1) (vi s5j1) w R E := by
  intro s4j1 s5j1 cp0j1 H w I h
  unfold F65_j1
  intro _
  unfold T_gnomon_gnomonref3_form_stmt_j1 at h
  refine opK_pu pu_fa_88_1 ?_
  refine opK_ld (ld1 Tryd.isAgg9 (I.at1 (o := 1) (vs := [(Value.string x1.fName)]) (nb rfl) rfl)) ?_
  refine opK_pu pu_fa_88_0 ?_
  refine opK_ld (ld1 Tryd.isAgg3 (I.at1 (o := 0) (vs := [(vi x1.fKind)]) (nb rfl) rfl)) ?_
  refine opK_pu (pu_eql _ _ _ _ _ _) ?_
  refine opK_pu (Pu.g fun hb => by have hb_0 := hb; first | exact pu_fa_88_0 | (simp only [gval_t hb_0, gv_t hb_0, gv_t hb, gva_ft hb_0]; exact pu_fa_88_0) | (simp only [gval_t hb_0, gv_t hb_0, gv_t hb, gva_ff hb_0, gv_n]; exact pu_fa_88_0)) ?_
  refine opK_ld (Ld.g fun hb => by have hb_0 := hb; first | exact (ld1 Tryd.isAgg3 (I.at1 (o := 0) (vs := [(vi x1.fKind)]) (nb rfl) rfl)) | (simp only [gv_t hb_0]; exact (ld1 Tryd.isAgg3 (I.at1 (o := 0) (vs := [(vi x1.fKind)]) (nb rfl) rfl))) | (simp only [gval_t hb_0, gv_t hb_0, gv_t hb, gva_ff hb_0, gv_n]; exact (ld1 Tryd.isAgg3 (I.at1 (o := 0) (vs := [(vi x1.fKind)]) (nb rfl) rfl)))) ?_
  refine opK_pu (Pu.g fun hb => by have hb_0 := hb; first | exact (pu_eql _ _ _ _ _ _) | (simp only [gv_t hb_0]; exact (pu_eql _ _ _ _ _ _)) | (simp only [gval_t hb_0, gv_t hb_0, gv_t hb, gva_ff hb_0, gv_n]; exact (pu_eql _ _ _ _ _ _))) ?_
  refine opK_pu (pu_or _ _) ?_
  refine opK_calls (cap := []) (fun args w => Tryd.call64 args w) ?_
  refine Cv_ct (Fi := [bx g0 102 (cs_gnomonref3_form cp0j1)]) (Fr := [bx g_2 88 (cs_api_Stmt x1)]) (I.bring 1) (h g0) (fun v_10 H_6 F_11 w_7 I_8 l_13 k_9 q_12 => ?_) (fun _ _ _ _ _ q => q.elim)
  obtain ⟨y0_14, rfl, rfl, h⟩ := q_12
  refine opK_pu (pu_nilp _) ?_
  refine opK_pu pu_fa_102_0 ?_
  refine opK_ld (ld1 Tryd.isAgg4 (I_8.at1 (o := 0) (vs := [(Value.bool y0_14.fok)]) (nb rfl) rfl)) ?_
  refine opK_pu (Pu.g fun hb => by have hb_0 := hb; first | exact pu_fa_88_2 | (simp only [gval_t hb_0, gv_t hb_0, gv_t hb, gva_tt hb_0]; exact pu_fa_88_2) | (simp only [gval_t hb_0, gv_t hb_0, gv_t hb, gva_tf hb_0, gv_n]; exact pu_fa_88_2)) ?_
  refine opK_ld (Ld.g fun hb => by have hb_0 := hb; first | exact (ld1 Tryd.isAgg28 ((I_8.bring 1).at1 (o := 2) (vs := [(vs x1.fExprs)]) (nb rfl) rfl)) | (simp only [gv_t hb_0]; exact (ld1 Tryd.isAgg28 ((I_8.bring 1).at1 (o := 2) (vs := [(vs x1.fExprs)]) (nb rfl) rfl))) | (simp only [gval_t hb_0, gv_t hb_0, gv_t hb, gva_tf hb_0, gv_n]; exact (ld1 Tryd.isAgg28 ((I_8.bring 1).at1 (o := 2) (vs := [(vs x1.fExprs)]) (nb rfl) rfl)))) ?_
  refine opK_pu (Pu.g fun hb => by have hb_0 := hb; first | exact (pu_len_28 _ _ _) | (simp only [gv_t hb_0]; exact (pu_len_28 _ _ _)) | (simp only [gval_t hb_0, gv_t hb_0, gv_t hb, gva_tf hb_0, gv_n]; exact (pu_len_28 _ _ _))) ?_
  try simp only [gval_b]
  refine opK_pu (Pu.g fun hb => by have hb_0 := hb; first | exact (pu_eql _ _ _ _ _ _) | (simp only [gv_t hb_0]; exact (pu_eql _ _ _ _ _ _)) | (simp only [gval_t hb_0, gv_t hb_0, gv_t hb, gva_tf hb_0, gv_n]; exact (pu_eql _ _ _ _ _ _))) ?_
  refine opK_pu (pu_and _ _) ?_
  refine opK_pu (Pu.g fun hb => by have hb_0 := hb; first | exact pu_fa_88_3 | (simp only [gval_t hb_0, gv_t hb_0, gv_t hb, gva_tt hb_0]; exact pu_fa_88_3) | (simp only [gval_t hb_0, gv_t hb_0, gv_t hb, gva_tf hb_0, gv_n]; exact pu_fa_88_3)) ?_
  refine opK_ld (Ld.g fun hb => by have hb_0 := hb; first | exact (ld1 Tryd.isAgg31 ((I_8.bring 1).at1 (o := 3) (vs := [(vs x1.fConds)]) (nb rfl) rfl)) | (simp only [gv_t hb_0]; exact (ld1 Tryd.isAgg31 ((I_8.bring 1).at1 (o := 3) (vs := [(vs x1.fConds)]) (nb rfl) rfl))) | (simp only [gval_t hb_0, gv_t hb_0, gv_t hb, gva_tf hb_0, gv_n]; exact (ld1 Tryd.isAgg31 ((I_8.bring 1).at1 (o := 3) (vs := [(vs x1.fConds)]) (nb rfl) rfl)))) ?_
  refine opK_pu (Pu.g fun hb => by have hb_0 := hb; first | exact (pu_len_31 _ _ _) | (simp only [gv_t hb_0]; exact (pu_len_31 _ _ _)) | (simp only [gval_t hb_0, gv_t hb_0, gv_t hb, gva_tf hb_0, gv_n]; exact (pu_len_31 _ _ _))) ?_
  try simp only [gval_b]
  refine opK_pu (Pu.g fun hb => by have hb_0 := hb; first | exact (pu_eql _ _ _ _ _ _) | (simp only [gv_t hb_0]; exact (pu_eql _ _ _ _ _ _)) | (simp only [gval_t hb_0, gv_t hb_0, gv_t hb, gva_tf hb_0, gv_n]; exact (pu_eql _ _ _ _ _ _))) ?_
  refine opK_pu (pu_and _ _) ?_
  refine opK_pu (Pu.g fun hb => by have hb_0 := hb; first | exact pu_fa_88_4 | (simp only [gval_t hb_0, gv_t hb_0, gv_t hb, gva_tt hb_0]; exact pu_fa_88_4) | (simp only [gval_t hb_0, gv_t hb_0, gv_t hb, gva_tf hb_0, gv_n]; exact pu_fa_88_4)) ?_
  refine opK_ld (Ld.g fun hb => by have hb_0 := hb; first | exact (ld1 Tryd.isAgg23 ((I_8.bring 1).at1 (o := 4) (vs := [(vs x1.fThen)]) (nb rfl) rfl)) | (simp only [gv_t hb_0]; exact (ld1 Tryd.isAgg23 ((I_8.bring 1).at1 (o := 4) (vs := [(vs x1.fThen)]) (nb rfl) rfl))) | (simp only [gval_t hb_0, gv_t hb_0, gv_t hb, gva_tf hb_0, gv_n]; exact (ld1 Tryd.isAgg23 ((I_8.bring 1).at1 (o := 4) (vs := [(vs x1.fThen)]) (nb rfl) rfl)))) ?_
  refine opK_pu (Pu.g fun hb => by have hb_0 := hb; first | exact (pu_len_23 _ _ _) | (simp only [gv_t hb_0]; exact (pu_len_23 _ _ _)) | (simp only [gval_t hb_0, gv_t hb_0, gv_t hb, gva_tf hb_0, gv_n]; exact (pu_len_23 _ _ _))) ?_
  refine opK_pu (Pu.g fun hb => by have hb_0 := hb; first | exact (pu_eql _ _ _ _ _ _) | (simp only [gv_t hb_0]; exact (pu_eql _ _ _ _ _ _)) | (simp only [gval_t hb_0, gv_t hb_0, gv_t hb, gva_tf hb_0, gv_n]; exact (pu_eql _ _ _ _ _ _))) ?_
  try simp only [gval_b, gv_gv]
  refine opK_pu (Pu.e (gsgg_tf _ _ _) (Pu.g fun hb => by obtain ⟨hb_0, hb_1⟩ := gg_tf hb; first | exact pu_fa_88_0 | (simp only [gval_t hb_0, gv_t hb_0, gval_t hb_1, gv_t hb_1, gv_t hb, gv_n]; exact pu_fa_88_0) | (simp only [gval_t hb_0, gv_t hb_0, gval_t hb_1, gv_t hb_1, gv_t hb, gva_tt hb]; exact pu_fa_88_0) | (simp only [gval_t hb_0, gv_t hb_0, gval_t hb_1, gv_t hb_1, gv_t hb, gva_tf hb, gv_n]; exact pu_fa_88_0))) ?_
  refine opK_ld (Ld.e (gsgg_tf _ _ _) (Ld.g fun hb => by obtain ⟨hb_0, hb_1⟩ := gg_tf hb; first | exact (ld1 Tryd.isAgg3 ((I_8.bring 1).at1 (o := 0) (vs := [(vi x1.fKind)]) (nb rfl) rfl)) | (simp only [gv_t hb]; exact (ld1 Tryd.isAgg3 ((I_8.bring 1).at1 (o := 0) (vs := [(vi x1.fKind)]) (nb rfl) rfl))) | (simp only [gval_t hb_0, gv_t hb_0, gval_t hb_1, gv_t hb_1, gv_t hb, gva_tt hb]; exact (ld1 Tryd.isAgg3 ((I_8.bring 1).at1 (o := 0) (vs := [(vi x1.fKind)]) (nb rfl) rfl))) | (simp only [gval_t hb_0, gv_t hb_0, gval_t hb_1, gv_t hb_1, gv_t hb, gva_tf hb, gv_n]; exact (ld1 Tryd.isAgg3 ((I_8.bring 1).at1 (o := 0) (vs := [(vi x1.fKind)]) (nb rfl) rfl))))) ?_
  refine opK_pu (Pu.e (gsgg_tf _ _ _) (Pu.g fun hb => by obtain ⟨hb_0, hb_1⟩ := gg_tf hb; first | exact (pu_eql _ _ _ _ _ _) | (simp only [gv_t hb]; exact (pu_eql _ _ _ _ _ _)) | (simp only [gval_t hb_0, gv_t hb_0, gval_t hb_1, gv_t hb_1, gv_t hb, gva_tt hb]; exact (pu_eql _ _ _ _ _ _)) | (simp only [gval_t hb_0, gv_t hb_0, gval_t hb_1, gv_t hb_1, gv_t hb, gva_tf hb, gv_n]; exact (pu_eql _ _ _ _ _ _)))) ?_
  refine opK_pu (Pu.g fun hb => by have hb_0 := hb; first | exact (pu_or _ _) | (simp only [gv_t hb_0, gva_tt hb_0]; exact (pu_or _ _)) | (simp only [gv_t hb_0, gva_tf hb_0]; exact (pu_or _ _))) ?_
  try simp only [gv_gv]
  refine opK_pu (Pu.e (gsgg_tf _ _ _) (Pu.g fun hb => by obtain ⟨hb_0, hb_1⟩ := gg_tf hb; first | exact pu_fa_88_0 | (simp only [gval_t hb_0, gv_t hb_0, gval_t hb_1, gv_t hb_1, gv_t hb, gv_n]; exact pu_fa_88_0) | (simp only [gval_t hb_0, gv_t hb_0, gval_t hb_1, gv_t hb_1, gv_t hb, gva_tt hb]; exact pu_fa_88_0) | (simp only [gval_t hb_0, gv_t hb_0, gval_t hb_1, gv_t hb_1, gv_t hb, gva_tf hb, gv_n]; exact pu_fa_88_0))) ?_
  refine opK_ld (Ld.e (gsgg_tf _ _ _) (Ld.g fun hb => by obtain ⟨hb_0, hb_1⟩ := gg_tf hb; first | exact (ld1 Tryd.isAgg3 ((I_8.bring 1).at1 (o := 0) (vs := [(vi x1.fKind)]) (nb rfl) rfl)) | (simp only [gv_t hb]; exact (ld1 Tryd.isAgg3 ((I_8.bring 1).at1 (o := 0) (vs := [(vi x1.fKind)]) (nb rfl) rfl))) | (simp only [gval_t hb_0, gv_t hb_0, gval_t hb_1, gv_t hb_1, gv_t hb, gva_tt hb]; exact (ld1 Tryd.isAgg3 ((I_8.bring 1).at1 (o := 0) (vs := [(vi x1.fKind)]) (nb rfl) rfl))) | (simp only [gval_t hb_0, gv_t hb_0, gval_t hb_1, gv_t hb_1, gv_t hb, gva_tf hb, gv_n]; exact (ld1 Tryd.isAgg3 ((I_8.bring 1).at1 (o := 0) (vs := [(vi x1.fKind)]) (nb rfl) rfl))))) ?_
  refine opK_pu (Pu.e (gsgg_tf _ _ _) (Pu.g fun hb => by obtain ⟨hb_0, hb_1⟩ := gg_tf hb; first | exact (pu_eql _ _ _ _ _ _) | (simp only [gv_t hb]; exact (pu_eql _ _ _ _ _ _)) | (simp only [gval_t hb_0, gv_t hb_0, gval_t hb_1, gv_t hb_1, gv_t hb, gva_tt hb]; exact (pu_eql _ _ _ _ _ _)) | (simp only [gval_t hb_0, gv_t hb_0, gval_t hb_1, gv_t hb_1, gv_t hb, gva_tf hb, gv_n]; exact (pu_eql _ _ _ _ _ _)))) ?_
  refine opK_pu (Pu.g fun hb => by have hb_0 := hb; first | exact (pu_or _ _) | (simp only [gv_t hb_0, gva_tt hb_0]; exact (pu_or _ _)) | (simp only [gv_t hb_0, gva_tf hb_0]; exact (pu_or _ _))) ?_
  refine opK_pu (pu_and _ _) ?_
  refine opK_pu (Pu.g fun hb => by have hb_0 := hb; first | exact pu_fa_88_5 | (simp only [gval_t hb_0, gv_t hb_0, gv_t hb, gva_tt hb_0]; exact pu_fa_88_5) | (simp only [gval_t hb_0, gv_t hb_0, gv_t hb, gva_tf hb_0, gv_n]; exact pu_fa_88_5)) ?_
  refine opK_ld (Ld.g fun hb => by have hb_0 := hb; first | exact (ld1 Tryd.isAgg23 ((I_8.bring 1).at1 (o := 5) (vs := [(vs x1.fElse)]) (nb rfl) rfl)) | (simp only [gv_t hb_0]; exact (ld1 Tryd.isAgg23 ((I_8.bring 1).at1 (o := 5) (vs := [(vs x1.fElse)]) (nb rfl) rfl))) | (simp only [gval_t hb_0, gv_t hb_0, gv_t hb, gva_tf hb_0, gv_n]; exact (ld1 Tryd.isAgg23 ((I_8.bring 1).at1 (o := 5) (vs := [(vs x1.fElse)]) (nb rfl) rfl)))) ?_
  refine opK_pu (Pu.g fun hb => by have hb_0 := hb; first | exact (pu_len_23 _ _ _) | (simp only [gv_t hb_0]; exact (pu_len_23 _ _ _)) | (simp only [gval_t hb_0, gv_t hb_0, gv_t hb, gva_tf hb_0, gv_n]; exact (pu_len_23 _ _ _))) ?_
  refine opK_pu (Pu.g fun hb => by have hb_0 := hb; first | exact (pu_eql _ _ _ _ _ _) | (simp only [gv_t hb_0]; exact (pu_eql _ _ _ _ _ _)) | (simp only [gval_t hb_0, gv_t hb_0, gv_t hb, gva_tf hb_0, gv_n]; exact (pu_eql _ _ _ _ _ _))) ?_
  try simp only [gval_b, gv_gv]
  refine opK_pu (Pu.e (gsgg_tf _ _ _) (Pu.g fun hb => by obtain ⟨hb_0, hb_1⟩ := gg_tf hb; first | exact pu_fa_88_0 | (simp only [gval_t hb_0, gv_t hb_0, gval_t hb_1, gv_t hb_1, gv_t hb, gv_n]; exact pu_fa_88_0) | (simp only [gval_t hb_0, gv_t hb_0, gval_t hb_1, gv_t hb_1, gv_t hb, gva_tt hb]; exact pu_fa_88_0) | (simp only [gval_t hb_0, gv_t hb_0, gval_t hb_1, gv_t hb_1, gv_t hb, gva_tf hb, gv_n]; exact pu_fa_88_0))) ?_
  refine opK_ld (Ld.e (gsgg_tf _ _ _) (Ld.g fun hb => by obtain ⟨hb_0, hb_1⟩ := gg_tf hb; first | exact (ld1 Tryd.isAgg3 ((I_8.bring 1).at1 (o := 0) (vs := [(vi x1.fKind)]) (nb rfl) rfl)) | (simp only [gv_t hb]; exact (ld1 Tryd.isAgg3 ((I_8.bring 1).at1 (o := 0) (vs := [(vi x1.fKind)]) (nb rfl) rfl))) | (simp only [gval_t hb_0, gv_t hb_0, gval_t hb_1, gv_t hb_1, gv_t hb, gva_tt hb]; exact (ld1 Tryd.isAgg3 ((I_8.bring 1).at1 (o := 0) (vs := [(vi x1.fKind)]) (nb rfl) rfl))) | (simp only [gval_t hb_0, gv_t hb_0, gval_t hb_1, gv_t hb_1, gv_t hb, gva_tf hb, gv_n]; exact (ld1 Tryd.isAgg3 ((I_8.bring 1).at1 (o := 0) (vs := [(vi x1.fKind)]) (nb rfl) rfl))))) ?_
  refine opK_pu (Pu.e (gsgg_tf _ _ _) (Pu.g fun hb => by obtain ⟨hb_0, hb_1⟩ := gg_tf hb; first | exact (pu_eql _ _ _ _ _ _) | (simp only [gv_t hb]; exact (pu_eql _ _ _ _ _ _)) | (simp only [gval_t hb_0, gv_t hb_0, gval_t hb_1, gv_t hb_1, gv_t hb, gva_tt hb]; exact (pu_eql _ _ _ _ _ _)) | (simp only [gval_t hb_0, gv_t hb_0, gval_t hb_1, gv_t hb_1, gv_t hb, gva_tf hb, gv_n]; exact (pu_eql _ _ _ _ _ _)))) ?_
  refine opK_pu (Pu.g fun hb => by have hb_0 := hb; first | exact (pu_or _ _) | (simp only [gv_t hb_0, gva_tt hb_0]; exact (pu_or _ _)) | (simp only [gv_t hb_0, gva_tf hb_0]; exact (pu_or _ _))) ?_
  refine opK_pu (pu_and _ _) ?_
  refine opK_pu (pu_nilp _) ?_
  refine opK_pu pu_fa_102_0 ?_
  refine s_store I_8 Tryd.sizeOf4 (vs := [(Value.bool ((((y0_14.fok && (decide ((x1.fExprs.n : Int) = s4j1))) && (decide ((x1.fConds.n : Int) = s5j1))) && (((decide ((x1.fThen.n : Int) = 0)) || (decide (x1.fKind = 3))) || (decide (x1.fKind = 4)))) && ((decide ((x1.fElse.n : Int) = 0)) || (decide (x1.fKind = 3)))))]) (cs' := [(Value.bool ((((y0_14.fok && (decide ((x1.fExprs.n : Int) = s4j1))) && (decide ((x1.fConds.n : Int) = s5j1))) && (((decide ((x1.fThen.n : Int) = 0)) || (decide (x1.fKind = 3))) || (decide (x1.fKind = 4)))) && ((decide ((x1.fElse.n : Int) = 0)) || (decide (x1.fKind = 3))))), (Value.bool y0_14.fnames)]) rfl rfl (nb rfl) rfl rfl fun w_15 I_16 k_17 => ?_
  have hj2 : ∀ (cp0j2 : Tgnomonref3_form) (H : Hp) (w : World) (_ : Inv w0 ps0 H0 H [bx g0 102 (cs_gnomonref3_form cp0j2), bx g_2 88 (cs_api_Stmt x1)] w) (_ : T_gnomon_gnomonref3_form_stmt_j2 cp0j2 x1 H K), F65_j2 (Value.pointer (some ⟨g0, 0, none⟩)) (Value.pointer (some ⟨g_2, 0, none⟩)) w R E := by
   intro cp0j2 H w I h
   unfold F65_j2
   intro _
   unfold T_gnomon_gnomonref3_form_stmt_j2 at h
   have hj3 : ∀ (cp0j3 : Tgnomonref3_form) (H : Hp) (w : World) (_ : Inv w0 ps0 H0 H [bx g0 102 (cs_gnomonref3_form cp0j3), bx g_2 88 (cs_api_Stmt x1)] w) (_ : T_gnomon_gnomonref3_form_stmt_j3 cp0j3 x1 H K), F65_j3 (Value.pointer (some ⟨g0, 0, none⟩)) (Value.pointer (some ⟨g_2, 0, none⟩)) w R E := by
    intro cp0j3 H w I h
    unfold F65_j3
    intro _
    unfold T_gnomon_gnomonref3_form_stmt_j3 at h
    have hj4 : ∀ (cp0j4 : Tgnomonref3_form) (H : Hp) (w : World) (_ : Inv w0 ps0 H0 H [bx g0 102 (cs_gnomonref3_form cp0j4), bx g_2 88 (cs_api_Stmt x1)] w) (_ : T_gnomon_gnomonref3_form_stmt_j4 cp0j4 x1 H K), F65_j4 (Value.pointer (some ⟨g0, 0, none⟩)) (Value.pointer (some ⟨g_2, 0, none⟩)) w R E := by
     intro cp0j4 H w I h
     unfold F65_j4
     intro _
     unfold T_gnomon_gnomonref3_form_stmt_j4 at h
     obtain ⟨J_108, m_109, i_110, b_111⟩ := h
     refine xloop_J (J := fun n l w => ∃ (s : Int × Tgnomonref3_form) (H : Hp) , n = m_109 s ∧ l = (match s with | (s9l5, cp0l5) => [(vi s9l5)]) ∧ (match s with | (s9l5, cp0l5) => Inv w0 ps0 H0 H [bx g0 102 (cs_gnomonref3_form cp0l5), bx g_2 88 (cs_api_Stmt x1)] w) ∧ J_108 s H) ⟨_, (0, cp0j4), H, rfl, rfl, ((I.bring 1).bring 1), i_110⟩ ?_
     rintro n_112 τ_113 w next5 ⟨⟨s9l5, cp0l5⟩, H, rfl, l_114, I, s_115⟩ hn5
     dsimp only at l_114 I
     simp only [List.map_cons, List.map_nil, List.cons.injEq, and_true] at l_114
     have e9 := l_114
     simp only [e9]
     obtain ⟨n5, hm5, h⟩ : ∃ n5 : (Int × Tgnomonref3_form) → Hp → Prop, (∀ s' H', n5 s' H' → J_108 s' H' ∧ m_109 s' < m_109 (s9l5, cp0l5)) ∧ T_gnomon_gnomonref3_form_stmt_l5 x1 s9l5 cp0l5 H n5 K := ⟨_, fun _ _ h => h, b_111 (s9l5, cp0l5) H (fun s' H' => J_108 s' H' ∧ m_109 s' < m_109 (s9l5, cp0l5)) s_115 (fun _ _ a b => ⟨a, b⟩)⟩
     unfold F65_l5
     unfold T_gnomon_gnomonref3_form_stmt_l5 at h
     refine opK_pu pu_fa_88_5 ?_
     refine opK_ld (ld1 Tryd.isAgg23 ((I.bring 1).at1 (o := 5) (vs := [(vs x1.fElse)]) (nb rfl) rfl)) ?_
     refine opK_pu (pu_len_23 _ _ _) ?_
     refine opK_pu (pu_lss _ _ _ _ _ _) ?_
     try simp only [gval_b]
     refine opK_pu (Pu.g fun hb => by have hb_0 := hb; first | exact (pu_nilp _) | (simp only [gv_t hb_0]; exact (pu_nilp _)) | (simp only [gval_t hb_0, gv_t hb_0, gv_t hb, gva_tf hb_0, gv_n]; exact (pu_nilp _))) ?_
     refine opK_pu (Pu.g fun hb => by have hb_0 := hb; first | exact pu_fa_102_0 | (simp only [gv_t hb_0]; exact pu_fa_102_0) | (simp only [gval_t hb_0, gv_t hb_0, gv_t hb, gva_tf hb_0, gv_n]; exact pu_fa_102_0)) ?_
     refine opK_ld (Ld.g fun hb => by have hb_0 := hb; first | exact (ld1 Tryd.isAgg4 (I.at1 (o := 0) (vs := [(Value.bool cp0l5.fok)]) (nb rfl) rfl)) | (simp only [gv_t hb_0]; exact (ld1 Tryd.isAgg4 (I.at1 (o := 0) (vs := [(Value.bool cp0l5.fok)]) (nb rfl) rfl))) | (simp only [gval_t hb_0, gv_t hb_0, gv_t hb, gva_tf hb_0, gv_n]; exact (ld1 Tryd.isAgg4 (I.at1 (o := 0) (vs := [(Value.bool cp0l5.fok)]) (nb rfl) rfl)))) ?_
     refine opK_pu (pu_and _ _) ?_
     refine xcond_b (fun c_107 => ?_) (fun c_107 => ?_)
     ·replace h := h.1 c_107
      refine opK_pu pu_fa_88_5 ?_
      refine opK_ld (ld1 Tryd.isAgg23 ((I.bring 1).at1 (o := 5) (vs := [(vs x1.fElse)]) (nb rfl) rfl)) ?_
      obtain ⟨h_94, h_95, x_91, h_97, h⟩ := h
      obtain ⟨g_92, o_93, h_96, h_97⟩ := h_97
      refine opK_pu (pu_ix_23 h_96 _ _ _ _ h_94 h_95) ?_
      refine opK_ld (ldA (vs := (cs_api_Stmt x_91)) Tryd.isAgg88 Tryd.sizeOf88 rfl (I.atH h_97)) ?_
      refine opK_calls (cap := []) (fun args w => Tryd.call65 args w) ?_
      refine Cv_ct (Fi := [bx g0 102 (cs_gnomonref3_form cp0l5)]) (Fr := [bx g_2 88 (cs_api_Stmt x1)]) I (h g0) (fun v_102 H_98 F_103 w_99 I_100 l_105 k_101 q_104 => ?_) (fun _ _ _ _ _ q => q.elim)
      obtain ⟨y0_106, rfl, rfl, h⟩ := q_104
      refine opK_pu (pu_add _ _ _ _ _ _) ?_
      exact hn5 _ _ _ (hm5 _ _ h).2 ⟨((IntKind.wrap .i64 (s9l5 + 1)), y0_106), H_98, rfl, rfl, ((I_100.bring 1).bring 1), (hm5 _ _ h).1⟩
     ·replace h := h.2 c_107
      exact hR cp0l5 H _ (I.bring 1).drop h
    refine xcut_i fun j4 hx4 => ?_
    obtain ⟨J_142, m_143, i_144, b_145⟩ := h
    refine xloop_J (J := fun n l w => ∃ (s : Int × Tgnomonref3_form) (H : Hp) , n = m_143 s ∧ l = (match s with | (s8l6, cp0l6) => [(vi s8l6)]) ∧ (match s with | (s8l6, cp0l6) => Inv w0 ps0 H0 H [bx g0 102 (cs_gnomonref3_form cp0l6), bx g_2 88 (cs_api_Stmt x1)] w) ∧ J_142 s H) ⟨_, (0, cp0j3), H, rfl, rfl, ((I.bring 1).bring 1), i_144⟩ ?_
    rintro n_146 τ_147 w next6 ⟨⟨s8l6, cp0l6⟩, H, rfl, l_148, I, s_149⟩ hn6
    dsimp only at l_148 I
    simp only [List.map_cons, List.map_nil, List.cons.injEq, and_true] at l_148
    have e8 := l_148
    simp only [e8]
    obtain ⟨n6, hm6, h⟩ : ∃ n6 : (Int × Tgnomonref3_form) → Hp → Prop, (∀ s' H', n6 s' H' → J_142 s' H' ∧ m_143 s' < m_143 (s8l6, cp0l6)) ∧ T_gnomon_gnomonref3_form_stmt_l6 x1 s8l6 cp0l6 H n6 K := ⟨_, fun _ _ h => h, b_145 (s8l6, cp0l6) H (fun s' H' => J_142 s' H' ∧ m_143 s' < m_143 (s8l6, cp0l6)) s_149 (fun _ _ a b => ⟨a, b⟩)⟩
    unfold F65_l6
    unfold T_gnomon_gnomonref3_form_stmt_l6 at h
    refine opK_pu pu_fa_88_4 ?_
    refine opK_ld (ld1 Tryd.isAgg23 ((I.bring 1).at1 (o := 4) (vs := [(vs x1.fThen)]) (nb rfl) rfl)) ?_
    refine opK_pu (pu_len_23 _ _ _) ?_
    refine opK_pu (pu_lss _ _ _ _ _ _) ?_
    try simp only [gval_b]
    refine opK_pu (Pu.g fun hb => by have hb_0 := hb; first | exact (pu_nilp _) | (simp only [gv_t hb_0]; exact (pu_nilp _)) | (simp only [gval_t hb_0, gv_t hb_0, gv_t hb, gva_tf hb_0, gv_n]; exact (pu_nilp _))) ?_
    refine opK_pu (Pu.g fun hb => by have hb_0 := hb; first | exact pu_fa_102_0 | (simp only [gv_t hb_0]; exact pu_fa_102_0) | (simp only [gval_t hb_0, gv_t hb_0, gv_t hb, gva_tf hb_0, gv_n]; exact pu_fa_102_0)) ?_
    refine opK_ld (Ld.g fun hb => by have hb_0 := hb; first | exact (ld1 Tryd.isAgg4 (I.at1 (o := 0) (vs := [(Value.bool cp0l6.fok)]) (nb rfl) rfl)) | (simp only [gv_t hb_0]; exact (ld1 Tryd.isAgg4 (I.at1 (o := 0) (vs := [(Value.bool cp0l6.fok)]) (nb rfl) rfl))) | (simp only [gval_t hb_0, gv_t hb_0, gv_t hb, gva_tf hb_0, gv_n]; exact (ld1 Tryd.isAgg4 (I.at1 (o := 0) (vs := [(Value.bool cp0l6.fok)]) (nb rfl) rfl)))) ?_
    refine opK_pu (pu_and _ _) ?_
    refine xcond_b (fun c_141 => ?_) (fun c_141 => ?_)
    ·replace h := h.1 c_141
     refine opK_pu pu_fa_88_4 ?_
     refine opK_ld (ld1 Tryd.isAgg23 ((I.bring 1).at1 (o := 4) (vs := [(vs x1.fThen)]) (nb rfl) rfl)) ?_
     obtain ⟨h_128, h_129, x_125, h_131, h⟩ := h
     obtain ⟨g_126, o_127, h_130, h_131⟩ := h_131
     refine opK_pu (pu_ix_23 h_130 _ _ _ _ h_128 h_129) ?_
     refine opK_ld (ldA (vs := (cs_api_Stmt x_125)) Tryd.isAgg88 Tryd.sizeOf88 rfl (I.atH h_131)) ?_
     refine opK_calls (cap := []) (fun args w => Tryd.call65 args w) ?_
     refine Cv_ct (Fi := [bx g0 102 (cs_gnomonref3_form cp0l6)]) (Fr := [bx g_2 88 (cs_api_Stmt x1)]) I (h g0) (fun v_136 H_132 F_137 w_133 I_134 l_139 k_135 q_138 => ?_) (fun _ _ _ _ _ q => q.elim)
     obtain ⟨y0_140, rfl, rfl, h⟩ := q_138
     refine opK_pu (pu_add _ _ _ _ _ _) ?_
     exact hn6 _ _ _ (hm6 _ _ h).2 ⟨((IntKind.wrap .i64 (s8l6 + 1)), y0_140), H_132, rfl, rfl, ((I_134.bring 1).bring 1), (hm6 _ _ h).1⟩
    ·replace h := h.2 c_141
     exact hx4 _ _ (hj4 cp0l6 H _ ((I.bring 1).bring 1) h)
   refine xcut_i fun j3 hx3 => ?_
   obtain ⟨J_176, m_177, i_178, b_179⟩ := h
   refine xloop_J (J := fun n l w => ∃ (s : Int × Tgnomonref3_form) (H : Hp) , n = m_177 s ∧ l = (match s with | (s7l7, cp0l7) => [(vi s7l7)]) ∧ (match s with | (s7l7, cp0l7) => Inv w0 ps0 H0 H [bx g0 102 (cs_gnomonref3_form cp0l7), bx g_2 88 (cs_api_Stmt x1)] w) ∧ J_176 s H) ⟨_, (0, cp0j2), H, rfl, rfl, ((I.bring 1).bring 1), i_178⟩ ?_
   rintro n_180 τ_181 w next7 ⟨⟨s7l7, cp0l7⟩, H, rfl, l_182, I, s_183⟩ hn7
   dsimp only at l_182 I
   simp only [List.map_cons, List.map_nil, List.cons.injEq, and_true] at l_182
   have e7 := l_182
   simp only [e7]
   obtain ⟨n7, hm7, h⟩ : ∃ n7 : (Int × Tgnomonref3_form) → Hp → Prop, (∀ s' H', n7 s' H' → J_176 s' H' ∧ m_177 s' < m_177 (s7l7, cp0l7)) ∧ T_gnomon_gnomonref3_form_stmt_l7 x1 s7l7 cp0l7 H n7 K := ⟨_, fun _ _ h => h, b_179 (s7l7, cp0l7) H (fun s' H' => J_176 s' H' ∧ m_177 s' < m_177 (s7l7, cp0l7)) s_183 (fun _ _ a b => ⟨a, b⟩)⟩
   unfold F65_l7
   unfold T_gnomon_gnomonref3_form_stmt_l7 at h
   refine opK_pu pu_fa_88_2 ?_
   refine opK_ld (ld1 Tryd.isAgg28 ((I.bring 1).at1 (o := 2) (vs := [(vs x1.fExprs)]) (nb rfl) rfl)) ?_
   refine opK_pu (pu_len_28 _ _ _) ?_
   refine opK_pu (pu_lss _ _ _ _ _ _) ?_
   try simp only [gval_b]
   refine opK_pu (Pu.g fun hb => by have hb_0 := hb; first | exact (pu_nilp _) | (simp only [gv_t hb_0]; exact (pu_nilp _)) | (simp only [gval_t hb_0, gv_t hb_0, gv_t hb, gva_tf hb_0, gv_n]; exact (pu_nilp _))) ?_
   refine opK_pu (Pu.g fun hb => by have hb_0 := hb; first | exact pu_fa_102_0 | (simp only [gv_t hb_0]; exact pu_fa_102_0) | (simp only [gval_t hb_0, gv_t hb_0, gv_t hb, gva_tf hb_0, gv_n]; exact pu_fa_102_0)) ?_
   refine opK_ld (Ld.g fun hb => by have hb_0 := hb; first | exact (ld1 Tryd.isAgg4 (I.at1 (o := 0) (vs := [(Value.bool cp0l7.fok)]) (nb rfl) rfl)) | (simp only [gv_t hb_0]; exact (ld1 Tryd.isAgg4 (I.at1 (o := 0) (vs := [(Value.bool cp0l7.fok)]) (nb rfl) rfl))) | (simp only [gval_t hb_0, gv_t hb_0, gv_t hb, gva_tf hb_0, gv_n]; exact (ld1 Tryd.isAgg4 (I.at1 (o := 0) (vs := [(Value.bool cp0l7.fok)]) (nb rfl) rfl)))) ?_
   refine opK_pu (pu_and _ _) ?_
   refine xcond_b (fun c_175 => ?_) (fun c_175 => ?_)
   ·replace h := h.1 c_175
    refine opK_pu pu_fa_88_2 ?_
    refine opK_ld (ld1 Tryd.isAgg28 ((I.bring 1).at1 (o := 2) (vs := [(vs x1.fExprs)]) (nb rfl) rfl)) ?_
    obtain ⟨h_162, h_163, x_159, h_165, h⟩ := h
    obtain ⟨g_160, o_161, h_164, h_165⟩ := h_165
    refine opK_pu (pu_ix_28 h_164 _ _ _ _ h_162 h_163) ?_
    refine opK_ld (ldA (vs := (cs_api_Expr x_159)) Tryd.isAgg30 Tryd.sizeOf30 rfl (I.atH h_165)) ?_
    refine opK_calls (cap := []) (fun args w => Tryd.call59 args w) ?_
    refine Cv_ct (Fi := [bx g0 102 (cs_gnomonref3_form cp0l7)]) (Fr := [bx g_2 88 (cs_api_Stmt x1)]) I (h g0) (fun v_170 H_166 F_171 w_167 I_168 l_173 k_169 q_172 => ?_) (fun _ _ _ _ _ q => q.elim)
    obtain ⟨y0_174, rfl, rfl, h⟩ := q_172
    refine opK_pu (pu_add _ _ _ _ _ _) ?_
    exact hn7 _ _ _ (hm7 _ _ h).2 ⟨((IntKind.wrap .i64 (s7l7 + 1)), y0_174), H_166, rfl, rfl, ((I_168.bring 1).bring 1), (hm7 _ _ h).1⟩
   ·replace h := h.2 c_175
    exact hx3 _ _ (hj3 cp0l7 H _ ((I.bring 1).bring 1) h)
  refine xcut_i fun j2 hx2 => ?_
  obtain ⟨J_210, m_211, i_212, b_213⟩ := h
  refine xloop_J (J := fun n l w => ∃ (s : Int × Tgnomonref3_form) (H : Hp) , n = m_211 s ∧ l = (match s with | (s6l8, cp0l8) => [(vi s6l8)]) ∧ (match s with | (s6l8, cp0l8) => Inv w0 ps0 H0 H [bx g0 102 (cs_gnomonref3_form cp0l8), bx g_2 88 (cs_api_Stmt x1)] w) ∧ J_210 s H) ⟨_, (0, (Tgnomonref3_form.mk ((((y0_14.fok && (decide ((x1.fExprs.n : Int) = s4j1))) && (decide ((x1.fConds.n : Int) = s5j1))) && (((decide ((x1.fThen.n : Int) = 0)) || (decide (x1.fKind = 3))) || (decide (x1.fKind = 4)))) && ((decide ((x1.fElse.n : Int) = 0)) || (decide (x1.fKind = 3)))) y0_14.fnames)), H_6, rfl, rfl, ((I_16.bring 1).bring 1), i_212⟩ ?_
  rintro n_214 τ_215 w next8 ⟨⟨s6l8, cp0l8⟩, H, rfl, l_216, I, s_217⟩ hn8
  dsimp only at l_216 I
  simp only [List.map_cons, List.map_nil, List.cons.injEq, and_true] at l_216
  have e6 := l_216
  simp only [e6]
  obtain ⟨n8, hm8, h⟩ : ∃ n8 : (Int × Tgnomonref3_form) → Hp → Prop, (∀ s' H', n8 s' H' → J_210 s' H' ∧ m_211 s' < m_211 (s6l8, cp0l8)) ∧ T_gnomon_gnomonref3_form_stmt_l8 x1 s6l8 cp0l8 H n8 K := ⟨_, fun _ _ h => h, b_213 (s6l8, cp0l8) H (fun s' H' => J_210 s' H' ∧ m_211 s' < m_211 (s6l8, cp0l8)) s_217 (fun _ _ a b => ⟨a, b⟩)⟩
  unfold F65_l8
  unfold T_gnomon_gnomonref3_form_stmt_l8 at h
  refine opK_pu pu_fa_88_3 ?_
  refine opK_ld (ld1 Tryd.isAgg31 ((I.bring 1).at1 (o := 3) (vs := [(vs x1.fConds)]) (nb rfl) rfl)) ?_
  refine opK_pu (pu_len_31 _ _ _) ?_
  refine opK_pu (pu_lss _ _ _ _ _ _) ?_
  try simp only [gval_b]
  refine opK_pu (Pu.g fun hb => by have hb_0 := hb; first | exact (pu_nilp _) | (simp only [gv_t hb_0]; exact (pu_nilp _)) | (simp only [gval_t hb_0, gv_t hb_0, gv_t hb, gva_tf hb_0, gv_n]; exact (pu_nilp _))) ?_
  refine opK_pu (Pu.g fun hb => by have hb_0 := hb; first | exact pu_fa_102_0 | (simp only [gv_t hb_0]; exact pu_fa_102_0) | (simp only [gval_t hb_0, gv_t hb_0, gv_t hb, gva_tf hb_0, gv_n]; exact pu_fa_102_0)) ?_
  refine opK_ld (Ld.g fun hb => by have hb_0 := hb; first | exact (ld1 Tryd.isAgg4 (I.at1 (o := 0) (vs := [(Value.bool cp0l8.fok)]) (nb rfl) rfl)) | (simp only [gv_t hb_0]; exact (ld1 Tryd.isAgg4 (I.at1 (o := 0) (vs := [(Value.bool cp0l8.fok)]) (nb rfl) rfl))) | (simp only [gval_t hb_0, gv_t hb_0, gv_t hb, gva_tf hb_0, gv_n]; exact (ld1 Tryd.isAgg4 (I.at1 (o := 0) (vs := [(Value.bool cp0l8.fok)]) (nb rfl) rfl)))) ?_
  refine opK_pu (pu_and _ _) ?_
  refine xcond_b (fun c_209 => ?_) (fun c_209 => ?_)
  ·replace h := h.1 c_209
   refine opK_pu pu_fa_88_3 ?_
   refine opK_ld (ld1 Tryd.isAgg31 ((I.bring 1).at1 (o := 3) (vs := [(vs x1.fConds)]) (nb rfl) rfl)) ?_
   obtain ⟨h_196, h_197, x_193, h_199, h⟩ := h
   obtain ⟨g_194, o_195, h_198, h_199⟩ := h_199
   refine opK_pu (pu_ix_31 h_198 _ _ _ _ h_196 h_197) ?_
   refine opK_ld (ldA (vs := (cs_api_Cond x_193)) Tryd.isAgg33 Tryd.sizeOf33 rfl (I.atH h_199)) ?_
   refine opK_calls (cap := []) (fun args w => Tryd.call62 args w) ?_
   refine Cv_ct (Fi := [bx g0 102 (cs_gnomonref3_form cp0l8)]) (Fr := [bx g_2 88 (cs_api_Stmt x1)]) I (h g0) (fun v_204 H_200 F_205 w_201 I_202 l_207 k_203 q_206 => ?_) (fun _ _ _ _ _ q => q.elim)
   obtain ⟨y0_208, rfl, rfl, h⟩ := q_206
   refine opK_pu (pu_add _ _ _ _ _ _) ?_
   exact hn8 _ _ _ (hm8 _ _ h).2 ⟨((IntKind.wrap .i64 (s6l8 + 1)), y0_208), H_200, rfl, rfl, ((I_202.bring 1).bring 1), (hm8 _ _ h).1⟩
  ·replace h := h.2 c_209
   exact hx2 _ _ (hj2 cp0l8 H _ ((I.bring 1).bring 1) h)
 refine xcut_i fun j1 hx1 => ?_
 refine opK_pu pu_fa_88_0 ?_
 refine opK_ld (ld1 Tryd.isAgg3 (I_4.at1 (o := 0) (vs := [(vi x1.fKind)]) (nb rfl) rfl)) ?_
 refine opK_pu (pu_eql _ _ _ _ _ _) ?_
 refine xcond_p (fun c_227 => ?_) (fun c_227 => ?_)
 ·replace h := h.1 c_227
  exact hx1 _ _ (hj1 1 0 x0 H _ ((I_4.bring 1).bring 1) h)
 ·replace h := h.2 c_227
  refine opK_pu (pu_eql _ _ _ _ _ _) ?_
  refine xcond_p (fun c_226 => ?_) (fun c_226 => ?_)
  ·replace h := h.1 c_226
   exact hx1 _ _ (hj1 2 0 x0 H _ ((I_4.bring 1).bring 1) h)
  ·replace h := h.2 c_226
   have hj9 : ∀ (s19j9 : Bool) (H : Hp) (w : World) (_ : Inv w0 ps0 H0 H [bx g_2 88 (cs_api_Stmt x1), bx g0 102 (cs_gnomonref3_form x0)] w) (_ : T_gnomon_gnomonref3_form_stmt_j9 0 0 x1.fKind s19j9 x1 x0 H K), F65_j9 (Value.pointer (some ⟨g0, 0, none⟩)) (Value.pointer (some ⟨g_2, 0, none⟩)) (vi 0) (vi 0) (vi x1.fKind) (Value.bool s19j9) w j1 R E := by
    intro s19j9 H w I h
    unfold F65_j9
    intro _
    unfold T_gnomon_gnomonref3_form_stmt_j9 at h
    refine xcond_b (fun c_222 => ?_) (fun c_222 => ?_)
    ·replace h := h.1 c_222
     exact hx1 _ _ (hj1 0 1 x0 H _ ((I.bring 1).bring 1) h)
    ·replace h := h.2 c_222
     refine opK_pu (pu_eql _ _ _ _ _ _) ?_
     refine xcond_p (fun c_221 => ?_) (fun c_221 => ?_)
     ·replace h := h.1 c_221
      exact hx1 _ _ (hj1 0 0 x0 H _ ((I.bring 1).bring 1) h)
     ·replace h := h.2 c_221
      refine opK_pu (pu_nilp _) ?_
      refine opK_pu pu_fa_102_0 ?_
      refine s_store (I.bring 1) Tryd.sizeOf4 (vs := [(Value.bool false)]) (cs' := [(Value.bool false), (Value.bool x0.fnames)]) rfl rfl (nb rfl) rfl rfl fun w_218 I_219 k_220 => ?_
      exact hx1 _ _ (hj1 0 0 (Tgnomonref3_form.mk false x0.fnames) H _ (I_219.bring 1) h)
   refine xcut_i fun j9 hx9 => ?_
   refine opK_pu (pu_eql _ _ _ _ _ _) ?_
   refine xcond_p (fun c_225 => ?_) (fun c_225 => ?_)
   ·replace h := h.1 c_225
    exact hx9 _ _ (hj9 (decide (x1.fKind = 3)) H _ ((I_4.bring 1).bring 1) h)
   ·replace h := h.2 c_225
    refine opK_pu (pu_eql _ _ _ _ _ _) ?_
    refine xcond_p (fun c_224 => ?_) (fun c_224 => ?_)
    ·replace h := h.1 c_224
     exact hx9 _ _ (hj9 (decide (x1.fKind = 4)) H _ ((I_4.bring 1).bring 1) h)
    ·replace h := h.2 c_224
     refine opK_pu (pu_eql _ _ _ _ _ _) ?_
     refine xcond_p (fun c_223 => ?_) (fun c_223 => ?_)
     ·replace h := h.1 c_223
      exact hx9 _ _ (hj9 (decide (x1.fKind = 5)) H _ ((I_4.bring 1).bring 1) h)
     ·replace h := h.2 c_223
      refine opK_pu (pu_eql _ _ _ _ _ _) ?_
      exact hx9 _ _ (hj9 (decide (x1.fKind = 6)) H _ ((I_4.bring 1).bring 1) h)
theorem L_gnomon_gnomonref3_form_stmt (x0 : Tgnomonref3_form) (x1 : Tapi_Stmt) {H : Hp} {K : Tgnomonref3_form → Hp → Prop} (h : T_gnomon_gnomonref3_form_stmt x0 x1 H K) : C_gnomon_gnomonref3_form_stmt x0 x1 H K := by
 intro g0 w I
 refine F65_ok ?_
 refine LF_gnomon_gnomonref3_form_stmt x0 x1 g0 I (fun y0 H' w' I' hk => ⟨H', _, I', y0, rfl, rfl, hk⟩) h


/- function 23: gnomon/gnomonref3.Check -/
def T_gnomon_gnomonref3_Check_j2 (cr_23j2 : Tgnomonref3_form) (_cr_15j2 : Tgnomonref3_walk) (_cr_1j2 : Tapi_Prog) (H : Hp) (K : Int → Hp → Prop) : Prop :=
 C_gnomon_gnomonref3_form_told cr_23j2 H (fun (r0_88 : Int) (H_80 : Hp) => 
 K r0_88 H_80)
def T_gnomon_gnomonref3_Check_l3 (cr_15l3 : Tgnomonref3_walk) (cr_1l3 : Tapi_Prog) (s6l3 : Int) (cr_23l3 : Tgnomonref3_form) (H : Hp) (n3 : (Int × Tgnomonref3_form) → Hp → Prop) (K : Int → Hp → Prop) : Prop :=
 (((decide (s6l3 < (cr_1l3.fBody.n : Int))) && cr_23l3.fok) = true →
 (0 : Int) ≤ s6l3 ∧ (s6l3 : Int) < cr_1l3.fBody.n ∧ ∃ x_98 : Tapi_Stmt, EltH H cr_1l3.fBody s6l3 6 (cs_api_Stmt x_98) ∧ 
 C_gnomon_gnomonref3_form_stmt cr_23l3 x_98 H (fun (y0_113 : Tgnomonref3_form) (H_105 : Hp) => 
 n3 ((IntKind.wrap .i64 (s6l3 + 1)), y0_113) H_105)) ∧
 (((decide (s6l3 < (cr_1l3.fBody.n : Int))) && cr_23l3.fok) = false →
 T_gnomon_gnomonref3_Check_j2 cr_23l3 cr_15l3 cr_1l3 H K)
def T_gnomon_gnomonref3_Check_j1 (cr_23j1 : Tgnomonref3_form) (cr_15j1 : Tgnomonref3_walk) (cr_1j1 : Tapi_Prog) (H : Hp) (K : Int → Hp → Prop) : Prop :=
 TL ((0, cr_23j1) : Int × Tgnomonref3_form) H fun (s : Int × Tgnomonref3_form) H n3 => T_gnomon_gnomonref3_Check_l3 cr_15j1 cr_1j1 s.1 s.2 H n3 K
def T_gnomon_gnomonref3_Check_l4 (cr_15l4 : Tgnomonref3_walk) (cr_1l4 : Tapi_Prog) (s5l4 : Int) (cr_23l4 : Tgnomonref3_form) (H : Hp) (n4 : (Int × Tgnomonref3_form) → Hp → Prop) (K : Int → Hp → Prop) : Prop :=
 (s5l4 < (cr_1l4.fDecls.n : Int) →
 ∃ x_132 : Tapi_Decl, (cr_23l4.fok = true → (0 : Int) ≤ s5l4 ∧ (s5l4 : Int) < cr_1l4.fDecls.n ∧ EltH H cr_1l4.fDecls s5l4 2 (cs_api_Decl x_132)) ∧ 
 ∃ x_139 : Tapi_Decl, ((cr_23l4.fok && (decide (0 ≤ x_132.fSize))) = true → (0 : Int) ≤ s5l4 ∧ (s5l4 : Int) < cr_1l4.fDecls.n ∧ EltH H cr_1l4.fDecls s5l4 2 (cs_api_Decl x_139)) ∧ 
 (0 : Int) ≤ s5l4 ∧ (s5l4 : Int) < cr_1l4.fDecls.n ∧ ∃ x_149 : Tapi_Decl, EltH H cr_1l4.fDecls s5l4 2 (cs_api_Decl x_149) ∧ 
 C_gnomon_gnomonref3_form_name (Tgnomonref3_form.mk ((cr_23l4.fok && (decide (0 ≤ x_132.fSize))) && (decide (x_139.fSize ≤ 2147483647))) cr_23l4.fnames) x_149.fName true H (fun (y0_164 : Tgnomonref3_form) (H_156 : Hp) => 
 n4 ((IntKind.wrap .i64 (s5l4 + 1)), y0_164) H_156)) ∧
 (¬ (s5l4 < (cr_1l4.fDecls.n : Int)) →
 T_gnomon_gnomonref3_Check_j1 cr_23l4 cr_15l4 cr_1l4 H K)
def T_gnomon_gnomonref3_Check (x0 : Tapi_Prog) (H : Hp) (K : Int → Hp → Prop) : Prop :=
 C_gnomon_gnomonref3_walked x0 H (fun (r0_14 : Tgnomonref3_walk) (H_6 : Hp) => 
 (¬ (r0_14.fbad = 0) →
 K r0_14.fbad H_6) ∧
 (r0_14.fbad = 0 →
 TL ((0, (Tgnomonref3_form.mk true true)) : Int × Tgnomonref3_form) H_6 fun (s : Int × Tgnomonref3_form) H n4 => T_gnomon_gnomonref3_Check_l4 r0_14 x0 s.1 s.2 H n4 K))
theorem LF_gnomon_gnomonref3_Check (x0 : Tapi_Prog) {w0 w : World} {ps0 : Nat → Prop} {H0 H : Hp} {K : Int → Hp → Prop} {R : Value → World → Prop} {E : Pan} (I : Inv w0 ps0 H0 H [] w) (hR : ∀ (r0 : Int) (H' : Hp) (w' : World) (_ : Inv w0 ps0 H0 H' [] w') (_ : K r0 H'), R (vi r0) w') (h : T_gnomon_gnomonref3_Check x0 H K) : F23 (Value.agg (cs_api_Prog x0).toArray) w R E := by
 unfold T_gnomon_gnomonref3_Check at h
 unfold F23
 refine s_box I (cs := (cs_api_Prog x0)) rfl fun g_2 w_3 I_4 k_5 => ?_
 refine opK_ld (ldA Tryd.isAgg25 Tryd.sizeOf25 rfl (I_4.at1 (o := 0) (vs := (cs_api_Prog x0)) (nb rfl) rfl)) ?_
 refine opK_calls (cap := []) (fun args w => Tryd.call63 args w) ?_
 refine Cv_ct (Fi := []) (Fr := [bx g_2 25 (cs_api_Prog x0)]) I_4 (h) (fun v_10 H_6 F_11 w_7 I_8 l_13 k_9 q_12 => ?_) (fun _ _ _ _ _ q => q.elim)
 obtain ⟨r0_14, rfl, rfl, h⟩ := q_12
 refine s_alloc I_8 Tryd.zeroValue99 (cs := [(vi 0), (vi 0), (vi 0)]) rfl fun g_16 w_17 I_18 k_19 => ?_
 refine s_store I_18 Tryd.sizeOf99 (vs := (cs_gnomonref3_walk r0_14)) (cs' := (cs_gnomonref3_walk r0_14)) rfl rfl (nb rfl) rfl rfl fun w_20 I_21 k_22 => ?_
 refine opK_pu pu_fa_99_2 ?_
 refine opK_ld (ld1 Tryd.isAgg3 (I_21.at1 (o := 2) (vs := [(vi r0_14.fbad)]) (nb rfl) rfl)) ?_
 refine opK_pu (pu_neq _ _ _ _ _ _) ?_
 refine xcond_n (fun c_174 => ?_) (fun c_174 => ?_)
 ·replace h := h.1 c_174
  refine opK_pu pu_fa_99_2 ?_
  refine opK_ld (ld1 Tryd.isAgg3 (I_21.at1 (o := 2) (vs := [(vi r0_14.fbad)]) (nb rfl) rfl)) ?_
  exact hR r0_14.fbad H_6 _ I_21.drop.drop h
 ·replace h := h.2 c_174
  refine opK_pu (pu_bld_102_0_1 _ _) ?_
  refine s_alloc I_21 Tryd.zeroValue102 (cs := [(Value.bool false), (Value.bool false)]) rfl fun g_24 w_25 I_26 k_27 => ?_
  refine s_store I_26 Tryd.sizeOf102 (vs := [(Value.bool true), (Value.bool true)]) (cs' := [(Value.bool true), (Value.bool true)]) rfl rfl (nb rfl) rfl rfl fun w_28 I_29 k_30 => ?_
  have hj1 : ∀ (cr_23j1 : Tgnomonref3_form) (H : Hp) (w : World) (_ : Inv w0 ps0 H0 H [bx g_24 102 (cs_gnomonref3_form cr_23j1), bx g_16 99 (cs_gnomonref3_walk r0_14), bx g_2 25 (cs_api_Prog x0)] w) (_ : T_gnomon_gnomonref3_Check_j1 cr_23j1 r0_14 x0 H K), F23_j1 (Value.pointer (some ⟨g_2, 0, none⟩)) (Value.pointer (some ⟨g_24, 0, none⟩)) w R E := by
   intro cr_23j1 H w I h
   unfold F23_j1
   intro _
   unfold T_gnomon_gnomonref3_Check_j1 at h
   have hj2 : ∀ (cr_23j2 : Tgnomonref3_form) (H : Hp) (w : World) (_ : Inv w0 ps0 H0 H [bx g_24 102 (cs_gnomonref3_form cr_23j2), bx g_16 99 (cs_gnomonref3_walk r0_14), bx g_2 25 (cs_api_Prog x0)] w) (_ : T_gnomon_gnomonref3_Check_j2 cr_23j2 r0_14 x0 H K), F23_j2 (Value.pointer (some ⟨g_24, 0, none⟩)) w R E := by
    intro cr_23j2 H w I h
    unfold F23_j2
    intro _
    unfold T_gnomon_gnomonref3_Check_j2 at h
    refine opK_ld (ldA Tryd.isAgg102 Tryd.sizeOf102 rfl (I.at1 (o := 0) (vs := (cs_gnomonref3_form cr_23j2)) (nb rfl) rfl)) ?_
    refine opK_calls (cap := []) (fun args w => Tryd.call60 args w) ?_
    refine Cv_ct (Fi := []) (Fr := [bx g_24 102 (cs_gnomonref3_form cr_23j2), bx g_16 99 (cs_gnomonref3_walk r0_14), bx g_2 25 (cs_api_Prog x0)]) I (h) (fun v_84 H_80 F_85 w_81 I_82 l_87 k_83 q_86 => ?_) (fun _ _ _ _ _ q => q.elim)
    obtain ⟨r0_88, rfl, rfl, h⟩ := q_86
    exact hR r0_88 H_80 _ I_82.drop.drop.drop h
   refine xcut_i fun j2 hx2 => ?_
   obtain ⟨J_115, m_116, i_117, b_118⟩ := h
   refine xloop_J (J := fun n l w => ∃ (s : Int × Tgnomonref3_form) (H : Hp) , n = m_116 s ∧ l = (match s with | (s6l3, cr_23l3) => [(vi s6l3)]) ∧ (match s with | (s6l3, cr_23l3) => Inv w0 ps0 H0 H [bx g_24 102 (cs_gnomonref3_form cr_23l3), bx g_16 99 (cs_gnomonref3_walk r0_14), bx g_2 25 (cs_api_Prog x0)] w) ∧ J_115 s H) ⟨_, (0, cr_23j1), H, rfl, rfl, (((I.bring 2).bring 2).bring 2), i_117⟩ ?_
   rintro n_119 τ_120 w next3 ⟨⟨s6l3, cr_23l3⟩, H, rfl, l_121, I, s_122⟩ hn3
   dsimp only at l_121 I
   simp only [List.map_cons, List.map_nil, List.cons.injEq, and_true] at l_121
   have e6 := l_121
   simp only [e6]
   obtain ⟨n3, hm3, h⟩ : ∃ n3 : (Int × Tgnomonref3_form) → Hp → Prop, (∀ s' H', n3 s' H' → J_115 s' H' ∧ m_116 s' < m_116 (s6l3, cr_23l3)) ∧ T_gnomon_gnomonref3_Check_l3 r0_14 x0 s6l3 cr_23l3 H n3 K := ⟨_, fun _ _ h => h, b_118 (s6l3, cr_23l3) H (fun s' H' => J_115 s' H' ∧ m_116 s' < m_116 (s6l3, cr_23l3)) s_122 (fun _ _ a b => ⟨a, b⟩)⟩
   unfold F23_l3
   unfold T_gnomon_gnomonref3_Check_l3 at h
   refine opK_pu pu_fa_25_1 ?_
   refine opK_ld (ld1 Tryd.isAgg23 ((I.bring 2).at1 (o := 1) (vs := [(vs x0.fBody)]) (nb rfl) rfl)) ?_
   refine opK_pu (pu_len_23 _ _ _) ?_
   refine opK_pu (pu_lss _ _ _ _ _ _) ?_
   refine opK_pu (Pu.g fun hb => by have hb_0 := hb; first | exact pu_fa_102_0 | (simp only [gval_t hb_0, gv_t hb_0, gv_t hb, gva_tt hb_0]; exact pu_fa_102_0) | (simp only [gval_t hb_0, gv_t hb_0, gv_t hb, gva_tf hb_0, gv_n]; exact pu_fa_102_0)) ?_
   refine opK_ld (Ld.g fun hb => by have hb_0 := hb; first | exact (ld1 Tryd.isAgg4 (I.at1 (o := 0) (vs := [(Value.bool cr_23l3.fok)]) (nb rfl) rfl)) | (simp only [gv_t hb_0]; exact (ld1 Tryd.isAgg4 (I.at1 (o := 0) (vs := [(Value.bool cr_23l3.fok)]) (nb rfl) rfl))) | (simp only [gval_t hb_0, gv_t hb_0, gv_t hb, gva_tf hb_0, gv_n]; exact (ld1 Tryd.isAgg4 (I.at1 (o := 0) (vs := [(Value.bool cr_23l3.fok)]) (nb rfl) rfl)))) ?_
   refine opK_pu (pu_and _ _) ?_
   refine xcond_b (fun c_114 => ?_) (fun c_114 => ?_)
   ·replace h := h.1 c_114
    refine opK_pu pu_fa_25_1 ?_
    refine opK_ld (ld1 Tryd.isAgg23 ((I.bring 2).at1 (o := 1) (vs := [(vs x0.fBody)]) (nb rfl) rfl)) ?_
    obtain ⟨h_101, h_102, x_98, h_104, h⟩ := h
    obtain ⟨g_99, o_100, h_103, h_104⟩ := h_104
    refine opK_pu (pu_ix_23 h_103 _ _ _ _ h_101 h_102) ?_
    refine opK_ld (ldA (vs := (cs_api_Stmt x_98)) Tryd.isAgg88 Tryd.sizeOf88 rfl (I.atH h_104)) ?_
    refine opK_calls (cap := []) (fun args w => Tryd.call65 args w) ?_
    refine Cv_ct (Fi := [bx g_24 102 (cs_gnomonref3_form cr_23l3)]) (Fr := [bx g_16 99 (cs_gnomonref3_walk r0_14), bx g_2 25 (cs_api_Prog x0)]) I (h g_24) (fun v_109 H_105 F_110 w_106 I_107 l_112 k_108 q_111 => ?_) (fun _ _ _ _ _ q => q.elim)
    obtain ⟨y0_113, rfl, rfl, h⟩ := q_111
    refine opK_pu (pu_add _ _ _ _ _ _) ?_
    exact hn3 _ _ _ (hm3 _ _ h).2 ⟨((IntKind.wrap .i64 (s6l3 + 1)), y0_113), H_105, rfl, rfl, (((I_107.bring 2).bring 2).bring 2), (hm3 _ _ h).1⟩
   ·replace h := h.2 c_114
    exact hx2 _ _ (hj2 cr_23l3 H _ (((I.bring 2).bring 2).bring 2) h)
  refine xcut_i fun j1 hx1 => ?_
  obtain ⟨J_166, m_167, i_168, b_169⟩ := h
  refine xloop_J (J := fun n l w => ∃ (s : Int × Tgnomonref3_form) (H : Hp) , n = m_167 s ∧ l = (match s with | (s5l4, cr_23l4) => [(vi s5l4)]) ∧ (match s with | (s5l4, cr_23l4) => Inv w0 ps0 H0 H [bx g_24 102 (cs_gnomonref3_form cr_23l4), bx g_16 99 (cs_gnomonref3_walk r0_14), bx g_2 25 (cs_api_Prog x0)] w) ∧ J_166 s H) ⟨_, (0, (Tgnomonref3_form.mk true true)), H_6, rfl, rfl, (((I_29.bring 2).bring 2).bring 2), i_168⟩ ?_
  rintro n_170 τ_171 w next4 ⟨⟨s5l4, cr_23l4⟩, H, rfl, l_172, I, s_173⟩ hn4
  dsimp only at l_172 I
  simp only [List.map_cons, List.map_nil, List.cons.injEq, and_true] at l_172
  have e5 := l_172
  simp only [e5]
  obtain ⟨n4, hm4, h⟩ : ∃ n4 : (Int × Tgnomonref3_form) → Hp → Prop, (∀ s' H', n4 s' H' → J_166 s' H' ∧ m_167 s' < m_167 (s5l4, cr_23l4)) ∧ T_gnomon_gnomonref3_Check_l4 r0_14 x0 s5l4 cr_23l4 H n4 K := ⟨_, fun _ _ h => h, b_169 (s5l4, cr_23l4) H (fun s' H' => J_166 s' H' ∧ m_167 s' < m_167 (s5l4, cr_23l4)) s_173 (fun _ _ a b => ⟨a, b⟩)⟩
  unfold F23_l4
  unfold T_gnomon_gnomonref3_Check_l4 at h
  refine opK_pu pu_fa_25_0 ?_
  refine opK_ld (ld1 Tryd.isAgg22 ((I.bring 2).at1 (o := 0) (vs := [(vs x0.fDecls)]) (nb rfl) rfl)) ?_
  refine opK_pu (pu_len_22 _ _ _) ?_
  refine opK_pu (pu_lss _ _ _ _ _ _) ?_
  refine xcond_p (fun c_165 => ?_) (fun c_165 => ?_)
  ·replace h := h.1 c_165
   refine opK_pu pu_fa_102_0 ?_
   refine opK_ld (ld1 Tryd.isAgg4 (I.at1 (o := 0) (vs := [(Value.bool cr_23l4.fok)]) (nb rfl) rfl)) ?_
   refine opK_pu (Pu.g fun hb => by have hb_0 := hb; first | exact pu_fa_25_0 | (simp only [gval_t hb_0, gv_t hb_0, gv_t hb, gva_tt hb_0]; exact pu_fa_25_0) | (simp only [gval_t hb_0, gv_t hb_0, gv_t hb, gva_tf hb_0, gv_n]; exact pu_fa_25_0)) ?_
   refine opK_ld (Ld.g fun hb => by have hb_0 := hb; first | exact (ld1 Tryd.isAgg22 ((I.bring 2).at1 (o := 0) (vs := [(vs x0.fDecls)]) (nb rfl) rfl)) | (simp only [gv_t hb_0]; exact (ld1 Tryd.isAgg22 ((I.bring 2).at1 (o := 0) (vs := [(vs x0.fDecls)]) (nb rfl) rfl))) | (simp only [gval_t hb_0, gv_t hb_0, gv_t hb, gva_tf hb_0, gv_n]; exact (ld1 Tryd.isAgg22 ((I.bring 2).at1 (o := 0) (vs := [(vs x0.fDecls)]) (nb rfl) rfl)))) ?_
   try simp only [gval_b]
   obtain ⟨x_132, h_138, h⟩ := h
   obtain ⟨g_133, o_134, h_138⟩ := elt_g h_138
   refine opK_pu (Pu.g fun hb => by have hb_0 := hb; first | exact (pu_ix_22 (h_138 hb).2.2.1 _ _ _ _ (h_138 hb).1 (h_138 hb).2.1) | (simp only [gv_t hb_0]; exact (pu_ix_22 (h_138 hb).2.2.1 _ _ _ _ (h_138 hb).1 (h_138 hb).2.1)) | (simp only [gval_t hb_0, gv_t hb_0, gv_t hb, gva_tf hb_0, gv_n]; exact (pu_ix_22 (h_138 hb).2.2.1 _ _ _ _ (h_138 hb).1 (h_138 hb).2.1))) ?_
   refine opK_pu (Pu.g fun hb => by have hb_0 := hb; first | exact pu_fa_67_1 | (simp only [gv_t hb_0]; exact pu_fa_67_1) | (simp only [gval_t hb_0, gv_t hb_0, gv_t hb, gva_tf hb_0, gv_n]; exact pu_fa_67_1)) ?_
   refine opK_ld (Ld.g fun hb => by have hb_0 := hb; first | exact (ld1 (v := (vi x_132.fSize)) Tryd.isAgg3 ((I.atH (h_138 hb).2.2.2).sub (k := 1) (n := 1) (nb rfl))) | (simp only [gv_t hb_0]; exact (ld1 (v := (vi x_132.fSize)) Tryd.isAgg3 ((I.atH (h_138 hb).2.2.2).sub (k := 1) (n := 1) (nb rfl)))) | (simp only [gval_t hb_0, gv_t hb_0, gv_t hb, gva_tf hb_0, gv_n]; exact (ld1 (v := (vi x_132.fSize)) Tryd.isAgg3 ((I.atH (h_138 hb).2.2.2).sub (k := 1) (n := 1) (nb rfl))))) ?_
   refine opK_pu (Pu.g fun hb => by have hb_0 := hb; first | exact (pu_geq _ _ _ _ _ _) | (simp only [gv_t hb_0]; exact (pu_geq _ _ _ _ _ _)) | (simp only [gval_t hb_0, gv_t hb_0, gv_t hb, gva_tf hb_0, gv_n]; exact (pu_geq _ _ _ _ _ _))) ?_
   refine opK_pu (pu_and _ _) ?_
   refine opK_pu (Pu.g fun hb => by have hb_0 := hb; first | exact pu_fa_25_0 | (simp only [gval_t hb_0, gv_t hb_0, gv_t hb, gva_tt hb_0]; exact pu_fa_25_0) | (simp only [gval_t hb_0, gv_t hb_0, gv_t hb, gva_tf hb_0, gv_n]; exact pu_fa_25_0)) ?_
   refine opK_ld (Ld.g fun hb => by have hb_0 := hb; first | exact (ld1 Tryd.isAgg22 ((I.bring 2).at1 (o := 0) (vs := [(vs x0.fDecls)]) (nb rfl) rfl)) | (simp only [gv_t hb_0]; exact (ld1 Tryd.isAgg22 ((I.bring 2).at1 (o := 0) (vs := [(vs x0.fDecls)]) (nb rfl) rfl))) | (simp only [gval_t hb_0, gv_t hb_0, gv_t hb, gva_tf hb_0, gv_n]; exact (ld1 Tryd.isAgg22 ((I.bring 2).at1 (o := 0) (vs := [(vs x0.fDecls)]) (nb rfl) rfl)))) ?_
   try simp only [gval_b]
   obtain ⟨x_139, h_145, h⟩ := h
   obtain ⟨g_140, o_141, h_145⟩ := elt_g h_145
   refine opK_pu (Pu.g fun hb => by have hb_0 := hb; first | exact (pu_ix_22 (h_145 hb).2.2.1 _ _ _ _ (h_145 hb).1 (h_145 hb).2.1) | (simp only [gv_t hb_0]; exact (pu_ix_22 (h_145 hb).2.2.1 _ _ _ _ (h_145 hb).1 (h_145 hb).2.1)) | (simp only [gval_t hb_0, gv_t hb_0, gv_t hb, gva_tf hb_0, gv_n]; exact (pu_ix_22 (h_145 hb).2.2.1 _ _ _ _ (h_145 hb).1 (h_145 hb).2.1))) ?_
   refine opK_pu (Pu.g fun hb => by have hb_0 := hb; first | exact pu_fa_67_1 | (simp only [gv_t hb_0]; exact pu_fa_67_1) | (simp only [gval_t hb_0, gv_t hb_0, gv_t hb, gva_tf hb_0, gv_n]; exact pu_fa_67_1)) ?_
   refine opK_ld (Ld.g fun hb => by have hb_0 := hb; first | exact (ld1 (v := (vi x_139.fSize)) Tryd.isAgg3 ((I.atH (h_145 hb).2.2.2).sub (k := 1) (n := 1) (nb rfl))) | (simp only [gv_t hb_0]; exact (ld1 (v := (vi x_139.fSize)) Tryd.isAgg3 ((I.atH (h_145 hb).2.2.2).sub (k := 1) (n := 1) (nb rfl)))) | (simp only [gval_t hb_0, gv_t hb_0, gv_t hb, gva_tf hb_0, gv_n]; exact (ld1 (v := (vi x_139.fSize)) Tryd.isAgg3 ((I.atH (h_145 hb).2.2.2).sub (k := 1) (n := 1) (nb rfl))))) ?_
   refine opK_pu (Pu.g fun hb => by have hb_0 := hb; first | exact (pu_leq _ _ _ _ _ _) | (simp only [gv_t hb_0]; exact (pu_leq _ _ _ _ _ _)) | (simp only [gval_t hb_0, gv_t hb_0, gv_t hb, gva_tf hb_0, gv_n]; exact (pu_leq _ _ _ _ _ _))) ?_
   refine opK_pu (pu_and _ _) ?_
   refine opK_pu pu_fa_102_0 ?_
   refine s_store I Tryd.sizeOf4 (vs := [(Value.bool ((cr_23l4.fok && (decide (0 ≤ x_132.fSize))) && (decide (x_139.fSize ≤ 2147483647))))]) (cs' := [(Value.bool ((cr_23l4.fok && (decide (0 ≤ x_132.fSize))) && (decide (x_139.fSize ≤ 2147483647)))), (Value.bool cr_23l4.fnames)]) rfl rfl (nb rfl) rfl rfl fun w_146 I_147 k_148 => ?_
   refine opK_pu pu_fa_25_0 ?_
   refine opK_ld (ld1 Tryd.isAgg22 ((I_147.bring 2).at1 (o := 0) (vs := [(vs x0.fDecls)]) (nb rfl) rfl)) ?_
   obtain ⟨h_152, h_153, x_149, h_155, h⟩ := h
   obtain ⟨g_150, o_151, h_154, h_155⟩ := h_155
   refine opK_pu (pu_ix_22 h_154 _ _ _ _ h_152 h_153) ?_
   refine opK_pu pu_fa_67_0 ?_
   refine opK_ld (ld1 (v := (Value.string x_149.fName)) Tryd.isAgg9 ((I_147.atH h_155).sub (k := 0) (n := 1) (nb rfl))) ?_
   refine opK_calls (cap := []) (fun args w => Tryd.call64 args w) ?_
   refine Cv_ct (Fi := [bx g_24 102 [(Value.bool ((cr_23l4.fok && (decide (0 ≤ x_132.fSize))) && (decide (x_139.fSize ≤ 2147483647)))), (Value.bool cr_23l4.fnames)]]) (Fr := [bx g_16 99 (cs_gnomonref3_walk r0_14), bx g_2 25 (cs_api_Prog x0)]) I_147 (h g_24) (fun v_160 H_156 F_161 w_157 I_158 l_163 k_159 q_162 => ?_) (fun _ _ _ _ _ q => q.elim)
   obtain ⟨y0_164, rfl, rfl, h⟩ := q_162
   refine opK_pu (pu_add _ _ _ _ _ _) ?_
   exact hn4 _ _ _ (hm4 _ _ h).2 ⟨((IntKind.wrap .i64 (s5l4 + 1)), y0_164), H_156, rfl, rfl, (((I_158.bring 2).bring 2).bring 2), (hm4 _ _ h).1⟩
  ·replace h := h.2 c_165
   exact hx1 _ _ (hj1 cr_23l4 H _ (((I.bring 2).bring 2).bring 2) h)
theorem L_gnomon_gnomonref3_Check (x0 : Tapi_Prog) {H : Hp} {K : Int → Hp → Prop} (h : T_gnomon_gnomonref3_Check x0 H K) : C_gnomon_gnomonref3_Check x0 H K := by
 intro w I
 refine F23_ok ?_
 refine LF_gnomon_gnomonref3_Check x0 I (fun r0 H' w' I' hk => ⟨H', _, I', r0, rfl, rfl, hk⟩) h


end Go.Proofs.YthldnpmfelniiaaDoor
