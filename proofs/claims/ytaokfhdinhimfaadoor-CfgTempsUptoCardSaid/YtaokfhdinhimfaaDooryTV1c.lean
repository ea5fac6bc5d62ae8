/- Typed formulas of the program's functions, and the theorems that the contracts follow from them; printed by lift.py off the code. -/
import Derived.Test.YtaokfhdinhimfaaDooryTV1
namespace Go.Proofs.YtaokfhdinhimfaaDoor
open Go.RowKit
set_option maxRecDepth 100000
set_option maxHeartbeats 2000000
def F8 (a2m : Int) (o : Int) (p : Int) (q : ByteArray) (r : (List d8)) (H : Hp) (K : Bool → Hp → Prop) : Prop :=
 ∀ (b : Sl) (i : Hp), Hle H i → SlH i 4 d9 b r → b.n ≤ b.c →
 ∀ (d : Sl) (j : Hp), Hle i j → SlH j 4 d9 d [(d8.mk o p q b)] → d.n ≤ d.c →
 ∀ (e : Sl) (k : Hp), Hle j k → SlH k 2 f7 e [(i8.mk ⟨#[120]⟩ 0)] → e.n ≤ e.c →
 ∀ (f : Sl) (l : Hp), Hle k l → SlH l 6 l0 f [(l9.mk 1 ⟨#[120]⟩ d (Sl.mk none 0 0) (Sl.mk none 0 0) (Sl.mk none 0 0))] → f.n ≤ f.c →
 a0K (o8.mk e f) l (fun a g m =>
 (a2m < 2 →
 K ((decide (g = 0)) && (decide (a.C5 = 0))) m) ∧
 (¬ (a2m < 2) →
 (((decide (g = 0)) && (decide (a.C5 = a2m))) = true → (0 : Int) ≤ a2m) ∧
 ((((decide (g = 0)) && (decide (a.C5 = a2m))) && (decide ((a.Z8.n : Int) = (IntKind.wrap .i64 ((shlI .i64 1 a2m) - 1))))) = true → (0 : Int) ≤ a2m) ∧
 K ((((decide (g = 0)) && (decide (a.C5 = a2m))) && (decide ((a.Z8.n : Int) = (IntKind.wrap .i64 ((shlI .i64 1 a2m) - 1))))) && (decide (a.y1 = (shlI .i64 1 a2m)))) m))
def G0 (b3i : Int) (a2u : Int) (b : Int) (d : Int) (e : ByteArray) (g : (List d8)) (H : Hp) (n2 : (Int × Int × Int × ByteArray × (List d8)) → Hp → Prop) (K : Bool → Hp → Prop) : Prop :=
 (a2u < b3i →
 ∀ (a : Sl) (f : Hp), Hle H f → SlH f 4 d9 a g → a.n ≤ a.c →
 n2 ((IntKind.wrap .i64 (a2u + 1)), 6, 0, ⟨#[]⟩, [(d8.mk b d e a), (d8.mk b d e a)]) f) ∧
 (¬ (a2u < b3i) →
 F8 b3i b d e g H K)
def P0 (x0 : Int) (H : Hp) (K : Bool → Hp → Prop) : Prop :=
 T1 H (fun b a =>
 ((!b) = true →
 K false a) ∧
 ((!b) = false →
 (((decide (x0 < 0)) || (decide (9 < x0))) = true →
 K true a) ∧
 (((decide (x0 < 0)) || (decide (9 < x0))) = false →
 TL ((0, 2, 0, ⟨#[120]⟩, []) : Int × Int × Int × ByteArray × (List d8)) a fun (s : Int × Int × Int × ByteArray × (List d8)) H n2 => G0 x0 s.1 s.2.1 s.2.2.1 s.2.2.2.1 s.2.2.2.2 H n2 K)))
theorem a2v (x0 : Int) {H : Hp} {K : Bool → Hp → Prop} (h : P0 x0 H K) : O6 x0 H K := by
 refine Ct.of fun w0 w ps0 H0 R E I hR => b7p ?_
 unfold P0 at h
 unfold F3
 refine f5 Tryd.call6 h I ?_
 rintro _ ae _ co af _ _ ⟨cp, rfl, rfl, h⟩
 refine c5 (V1 _) ?_
 refine r7 h (fun _ h => ?_) (fun _ h => ?_)
 ·exact hR _ ae _ _ af ⟨false, rfl, rfl, h⟩
 ·refine c5 (B7 _ _ _ _ _ _) ?_
  simp only [Q2]
  refine c5 (Pu.g fun hb => by have d := hb; simp only [m6 d]; with_reducible exact (Z6 _ _ _ _ _ _)) ?_
  refine c5 (a0V _ _) ?_
  refine r7 h (fun _ h => ?_) (fun _ h => ?_)
  ·exact hR _ ae _ _ af ⟨true, rfl, rfl, h⟩
  ·refine c5 (a8B _ _) ?_
   refine o9 af Tryd.zeroValue25 (cs := [(vi 0), (vi 0), (Value.string ⟨#[]⟩), (Value.slice none 0 0)]) rfl fun ag cq av cr => ?_
   refine s8 av Tryd.sizeOf25 (vs := [(vi 2), (vi 0), (Value.string ⟨#[120]⟩), (Value.slice none 0 0)]) fun ct aw cu => ?_
   have hj1 : ∀ (v : Int) (y : Int) (z : ByteArray) (ah : (List d8)) (r : Sl) (ai : Frag) (H : Hp) (w : World) (_ : RowL 25 4 d9 r ah ai) (_ : Inv w0 ps0 H0 H [bx ag 25 [(vi v), (vi y), (Value.string z), (vs r)], ai] w) (_ : F8 x0 v y z ah H K), b1f (vi x0) (Value.pointer (some ⟨ag, 0, none⟩)) w R E := by
    intro v y z ah r ai H w ax I h
    unfold b1f
    intro _
    unfold F8 at h
    refine c5 (b0r _) ?_
    refine V2 (e := 35) (c := f7) (xs := [(i8.mk ⟨#[120]⟩ 0)]) I (b4C _ _) rfl rfl a1C a2Y (nb rfl) fun ay cv cw az ao cx => ?_
    refine d3 (ldA Tryd.isAgg25 Tryd.sizeOf25 rfl ((ao.bring 1).at1 (o := 0) (vs := [(vi v), (vi y), (Value.string z), (vs r)]) (nb rfl) rfl)) ?_
    obtain ⟨ba, bb, bc, bd, be⟩ := Inv.freezeC (ao.bring 2) ax (by decide)
    replace h := h r ba bc bd be
    refine V2 (e := 25) (c := d9) (xs := [(d8.mk v y z r)]) bb (b4D _ _ _ _ _ _) rfl rfl a2W a2X (nb rfl) fun ap cy cz bf bg da => ?_
    refine c5 (a7p _ _ _ _ _) ?_
    obtain ⟨bh, bi, bj, bk, bl⟩ := Inv.freezeC bg bf (by decide)
    replace h := h ap bh bj bk bl
    refine V2 (e := 39) (c := l0) (xs := [(l9.mk 1 ⟨#[120]⟩ ap (Sl.mk none 0 0) (Sl.mk none 0 0) (Sl.mk none 0 0))]) bi (b0H _ _ _ _ _ _ _ _ _ _ _ _ _ _) rfl rfl a5J a5K (nb rfl) fun bm db dc bn bo dd => ?_
    refine c5 (a8D _ _ _ _ _ _) ?_
    obtain ⟨bp, bq, br, bs, bt⟩ := Inv.freezeC (bo.bring 1) az (by decide)
    replace h := h ay bp br bs bt
    obtain ⟨bu, bv, bw, bz, ca⟩ := Inv.freezeC bq bn (by decide)
    replace h := h bm bu bw bz ca
    refine f5 Tryd.call7 h bv ?_
    rintro _ aq _ de cb _ _ ⟨aa, aj, rfl, rfl, h⟩
    refine c5 (g8 _ _ _ rfl) ?_
    refine c5 (g8 _ _ (vi aj) rfl) ?_
    refine o9 cb Tryd.zeroValue30 (cs := [(Value.slice none 0 0), (vi 0), (Value.slice none 0 0), (vi 0), (vi 0), (Value.slice none 0 0)]) rfl fun ak df cc dg => ?_
    refine s8 cc Tryd.sizeOf30 (vs := (A4 aa)) fun dh ab di => ?_
    refine c5 (B7 _ _ _ _ _ _) ?_
    refine d7 h (fun _ h => ?_) (fun _ h => ?_)
    ·refine c5 (f9 _ _ _ _ _ _) ?_
     refine c5 (Pu.g fun hb => by have d := hb; with_reducible exact a1S) ?_
     refine d3 (Ld.g fun hb => by have d := hb; simp only [m6 d]; exact (l1 Tryd.isAgg3 ab rfl)) ?_
     refine c5 (Pu.g fun hb => by have d := hb; simp only [m6 d]; with_reducible exact (f9 _ _ _ _ _ _)) ?_
     refine c5 (E6 _ _) ?_
     exact hR _ aq _ _ ab.drop.drop ⟨((decide (aj = 0)) && (decide (aa.C5 = 0))), rfl, rfl, h⟩
    ·refine M9 ab fun dj m => ?_
     refine f6 (f9 _ _ _ _ _ _) ?_
     refine f6 (Pu.g fun hb => by have d := hb; with_reducible exact a1S) ?_
     simp only [Q2]
     refine a8T (p := (Value.pointer (some ⟨ak, 1, none⟩))) rfl (Ld.g fun hb => by have d := hb; simp only [m6 d]; exact (l1 Tryd.isAgg3 m rfl)) ?_
     refine f6 (Pu.g fun hb => by have d := hb; simp only [m6 d]; with_reducible exact (f9 _ _ _ _ _ _)) ?_
     refine f6 (E6 _ _) ?_
     refine f6 (Pu.g fun hb => by have d := hb; with_reducible exact a0Z) ?_
     simp only [Q2]
     obtain ⟨t, h⟩ := h
     refine f6 (Pu.g fun hb => by have d := hb; simp only [m6 d]; with_reducible exact (b0G _ _ _ _ _ _ _ (t hb))) ?_
     refine f6 (Pu.g fun hb => by have d := hb; simp only [m6 d]; with_reducible exact (a4G _ _ _ _ _ _)) ?_
     refine a8T (p := (Value.pointer (some ⟨ak, 5, none⟩))) rfl (Ld.g fun hb => by have d := hb; simp only [m6 d]; exact (l1 Tryd.isAgg28 m rfl)) ?_
     refine f6 (Pu.g fun hb => by have d := hb; simp only [m6 d]; with_reducible exact (a8n _ _ _)) ?_
     refine f6 (Pu.g fun hb => by have d := hb; simp only [m6 d]; with_reducible exact (f9 _ _ _ _ _ _)) ?_
     refine f6 (E6 _ _) ?_
     refine f6 (Pu.g fun hb => by have d := hb; with_reducible exact a1b) ?_
     simp only [Q2]
     obtain ⟨u, h⟩ := h
     refine f6 (Pu.g fun hb => by have d := hb; simp only [m6 d]; with_reducible exact (b0G _ _ _ _ _ _ _ (u hb))) ?_
     refine a8T (p := (Value.pointer (some ⟨ak, 3, none⟩))) rfl (Ld.g fun hb => by have d := hb; simp only [m6 d]; exact (l1 Tryd.isAgg3 m rfl)) ?_
     refine f6 (Pu.g fun hb => by have d := hb; simp only [m6 d]; with_reducible exact (f9 _ _ _ _ _ _)) ?_
     refine f6 (E6 _ _) ?_
     exact hR _ aq _ _ m.drop.drop ⟨((((decide (aj = 0)) && (decide (aa.C5 = x0))) && (decide ((aa.Z8.n : Int) = (IntKind.wrap .i64 ((shlI .i64 1 x0) - 1))))) && (decide (aa.y1 = (shlI .i64 1 x0)))), rfl, rfl, h⟩
   refine s7 fun j1 hx1 => ?_
   obtain ⟨al, ac, cd, ce⟩ := h
   refine E0 (J := fun n l w => ∃ (s : Int × Int × Int × ByteArray × (List d8)) (H : Hp) (k : Sl) (ad : Frag) , n = ac s ∧ l = (match s with | (a2u, f, i, j, q) => [(vi a2u)]) ∧ (match s with | (a2u, f, i, j, q) => RowL 25 4 d9 k q ad) ∧ (match s with | (a2u, f, i, j, q) => Inv w0 ps0 H0 H [bx ag 25 [(vi f), (vi i), (Value.string j), (vs k)], ad] w) ∧ al s H) ⟨_, (0, 2, 0, ⟨#[120]⟩, []), ae, (Sl.mk none 0 0), [], rfl, rfl, (RowL.nil a2W a2X), (aw.nil.bring 1), cd⟩ ?_
   rintro dk dl w next2 ⟨⟨a2u, f, i, j, q⟩, H, k, ad, rfl, am, an, I, cf⟩ hn2
   dsimp only at am I an
   simp only [List.map_cons, List.map_nil, List.cons.injEq, and_true] at am
   have e4 := am
   simp only [e4]
   obtain ⟨n2, hm2, h⟩ : ∃ n2 : (Int × Int × Int × ByteArray × (List d8)) → Hp → Prop, (∀ s' H', n2 s' H' → al s' H' ∧ ac s' < ac (a2u, f, i, j, q)) ∧ G0 x0 a2u f i j q H n2 K := ⟨_, fun _ _ h => h, ce (a2u, f, i, j, q) H (fun s' H' => al s' H' ∧ ac s' < ac (a2u, f, i, j, q)) cf (fun _ _ a b => ⟨a, b⟩)⟩
   unfold b3R
   unfold G0 at h
   refine c5 (B7 _ _ _ _ _ _) ?_
   refine d7 h (fun _ h => ?_) (fun _ h => ?_)
   ·refine d3 (ldA Tryd.isAgg25 Tryd.sizeOf25 rfl (I.at1 (o := 0) (vs := [(vi f), (vi i), (Value.string j), (vs k)]) (nb rfl) rfl)) ?_
    refine d3 (ldA Tryd.isAgg25 Tryd.sizeOf25 rfl (I.at1 (o := 0) (vs := [(vi f), (vi i), (Value.string j), (vs k)]) (nb rfl) rfl)) ?_
    obtain ⟨ar, cg, ch, ci, cj⟩ := Inv.freezeC (I.bring 1) an (by decide)
    replace h := h k ar ch ci cj
    refine V2 (e := 25) (c := d9) (xs := [(d8.mk f i j k), (d8.mk f i j k)]) cg (b4B _ _ _ _ _ _ _ _ _ _ _ _) rfl rfl a2W a2X (nb rfl) fun au ck dm cl cm dn => ?_
    refine c5 (a8C _ _ _ _) ?_
    refine s8 (cm.bring 1) Tryd.sizeOf25 (vs := [(vi 6), (vi 0), (Value.string ⟨#[]⟩), (vs au)]) fun dp cn dq => ?_
    refine c5 (v2 _ _ _ _ _ _) ?_
    exact hn2 _ _ _ (hm2 _ _ h).2 ⟨((IntKind.wrap .i64 (a2u + 1)), 6, 0, ⟨#[]⟩, [(d8.mk f i j k), (d8.mk f i j k)]), ar, au, ck, rfl, rfl, cl, ((cn.bring 1).bring 1), (hm2 _ _ h).1⟩
   ·exact hx1 _ _ (hj1 f i j q k ad H _ an ((I.bring 1).bring 1) h)
def R2 (a3Q : Int) (a7B : (List ByteArray)) (b : o8) (H : Hp) (K : Sl → Int → Hp → Prop) : Prop :=
 ∀ (a2G : Sl) (a : Hp), Hle H a → SlH a 1 r9 a2G a7B → a2G.n ≤ a2G.c →
 K a2G a3Q a
def R3 (b3h : Int) (b3Y : Sl) (b3Z : Int) (b : o8) (a0o : (List ByteArray)) (Z0 : Int) (H : Hp) (n2 : ((List ByteArray) × Int) → Hp → Prop) (K : Sl → Int → Hp → Prop) : Prop :=
 (Z0 < b3Z →
 (0 : Int) ≤ Z0 ∧ (Z0 : Int) < b3Y.n ∧ ∃ a : i8, EltH H b3Y Z0 2 (f7 a) ∧
 (a0o.length + ([a.f0] : List ByteArray).length) * 17 ≤ 140737488355328 ∧
 n2 ((a0o ++ [a.f0]), (IntKind.wrap .i64 (Z0 + 1))) H) ∧
 (¬ (Z0 < b3Z) →
 R2 b3h a0o b H K)
def a0Q (x0 : o8) (H : Hp) (K : Sl → Int → Hp → Prop) : Prop :=
 a1G x0 1 H (fun a b c =>
 TL (([], 0) : (List ByteArray) × Int) c fun (s : (List ByteArray) × Int) H n2 => R3 b a (a.n : Int) x0 s.1 s.2 H n2 K)
theorem a6b (x0 : o8) {H : Hp} {K : Sl → Int → Hp → Prop} (h : a0Q x0 H K) : a2J x0 H K := by
 refine Ct.of fun w0 w ps0 H0 R E I hR => b5C ?_
 unfold a0Q at h
 unfold F10
 refine B8 I (cs := (m5 x0)) rfl fun m ap o aq => ?_
 refine d3 (lW Tryd.isAgg41 Tryd.sizeOf41 rfl o) ?_
 refine f5 Tryd.call18 h o ?_
 rintro _ u _ ar v _ _ ⟨p, d, rfl, rfl, h⟩
 refine c5 (g8 _ _ _ rfl) ?_
 refine c5 (g8 _ _ (vi d) rfl) ?_
 have hj1 : ∀ (a7B : (List ByteArray)) (a2G : Sl) (Fs6j1 : Frag) (H : Hp) (w : World) (_ : RowL 9 1 r9 a2G a7B Fs6j1) (_ : Inv w0 ps0 H0 H [bx m 41 (m5 x0), Fs6j1] w) (_ : R2 d a7B x0 H K), a9m (vi d) (vs a2G) w R E := by
  intro a7B a2G Fs6j1 H w b7E I h
  unfold a9m
  intro _
  unfold R2 at h
  obtain ⟨q, y, z, aa, ab⟩ := Inv.freezeC (I.bring 1) b7E (by decide)
  replace h := h a2G q z aa ab
  exact hR _ q _ _ y.drop ⟨a2G, d, rfl, rfl, h⟩
 refine s7 fun j1 hx1 => ?_
 refine c5 (a4m _ _ _) ?_
 obtain ⟨i, f, ac, ad⟩ := h
 refine E0 (J := fun n l w => ∃ (s : (List ByteArray) × Int) (H : Hp) (a7C : Sl) (Fs6l2 : Frag) , n = f s ∧ l = (match s with | (a0o, Z0) => [(vs a7C), (vi Z0)]) ∧ (match s with | (a0o, Z0) => RowL 9 1 r9 a7C a0o Fs6l2) ∧ (match s with | (a0o, Z0) => Inv w0 ps0 H0 H [bx m 41 (m5 x0), Fs6l2] w) ∧ i s H) ⟨_, ([], 0), u, (Sl.mk none 0 0), [], rfl, rfl, (RowL.nil a2D a2E), (v.nil.bring 1), ac⟩ ?_
 rintro au av w next2 ⟨⟨a0o, Z0⟩, H, a7C, Fs6l2, rfl, j, b1n, I, ae⟩ hn2
 dsimp only at j I b1n
 simp only [List.map_cons, List.map_nil, List.cons.injEq, and_true] at j
 obtain ⟨e6, e16⟩ := j
 simp only [e6, e16]
 obtain ⟨n2, hm2, h⟩ : ∃ n2 : ((List ByteArray) × Int) → Hp → Prop, (∀ s' H', n2 s' H' → i s' H' ∧ f s' < f (a0o, Z0)) ∧ R3 d p (p.n : Int) x0 a0o Z0 H n2 K := ⟨_, fun _ _ h => h, ad (a0o, Z0) H (fun s' H' => i s' H' ∧ f s' < f (a0o, Z0)) ae (fun _ _ a b => ⟨a, b⟩)⟩
 unfold b1Z
 unfold R3 at h
 refine c5 (B7 _ _ _ _ _ _) ?_
 refine d7 h (fun _ h => ?_) (fun _ h => ?_)
 ·obtain ⟨af, ag, g, k, h⟩ := h
  obtain ⟨aw, ax, ah, k⟩ := k
  refine c5 (a1E ah _ _ _ _ af ag) ?_
  refine d3 (ldA (vs := (f7 g)) Tryd.isAgg35 Tryd.sizeOf35 rfl (I.atH k)) ?_
  refine o9 I Tryd.zeroValue35 (cs := [(Value.string ⟨#[]⟩), (vi 0)]) rfl fun ay az ai ba => ?_
  refine s8 ai Tryd.sizeOf35 (vs := (f7 g)) fun bb r bc => ?_
  refine c5 X6 ?_
  refine d3 (l1 Tryd.isAgg9 r rfl) ?_
  refine V2 (e := 9) (c := r9) (xs := [g.f0]) r (b0I _) rfl rfl a2D a2E (nb rfl) fun bd be bf aj t bg => ?_
  obtain ⟨ak, h⟩ := h
  refine b1R (s := a7C) (xs := a0o) (t.bring 3) b1n (aj.srcO ((t.bring 3).bring 1)) ak fun al am bh an ao bi => ?_
  refine c5 (v2 _ _ _ _ _ _) ?_
  exact hn2 _ _ _ (hm2 _ _ h).2 ⟨((a0o ++ [g.f0]), (IntKind.wrap .i64 (Z0 + 1))), H, al, am, rfl, rfl, an, (((ao.bring 1).drop.bring 1).drop.bring 1), (hm2 _ _ h).1⟩
 ·exact hx1 _ _ (hj1 a0o a7C Fs6l2 H _ b1n ((I.bring 1).bring 1) h)
def S3 (x0 : d2) (a : (List c8)) (H : Hp) (K : Int → d2 → (List c8) → Hp → Prop) : Prop :=
 K (IntKind.wrap .i64 ((IntKind.wrap .i64 (x0.fc.y1 + 1)) - 1)) (d2.mk (D3.mk x0.fc.u6 x0.fc.C5 x0.fc.z8 (IntKind.wrap .i64 (x0.fc.y1 + 1)) x0.fc.B5 (Sl.mk none 0 0)) x0.fvars x0.farrays) a H
theorem a3f (x0 : d2) (a : (List c8)) {H : Hp} {K : Int → d2 → (List c8) → Hp → Prop} (h : S3 x0 a H K) : r6 x0 a H K := by
 intro g0 c d e
 refine Ct.of fun w0 w ps0 H0 R E I hR => b5E ?_
 unfold S3 at h
 unfold F12
 refine c5 (m3 _) ?_
 refine c5 D2 ?_
 refine c5 a1b ?_
 refine d3 (l1 Tryd.isAgg3 I rfl) ?_
 refine c5 (v2 _ _ _ _ _ _) ?_
 refine c5 (m3 _) ?_
 refine c5 D2 ?_
 refine c5 a1b ?_
 refine N0 I Tryd.sizeOf3 fun f b g => ?_
 refine c5 (m3 _) ?_
 refine c5 D2 ?_
 refine c5 a1b ?_
 refine d3 (l1 Tryd.isAgg3 b rfl) ?_
 refine c5 (a4G _ _ _ _ _ _) ?_
 exact hR _ H _ _ ((b.bring 1).bring 1) ⟨(IntKind.wrap .i64 ((IntKind.wrap .i64 (x0.fc.y1 + 1)) - 1)), (d2.mk (D3.mk x0.fc.u6 x0.fc.C5 x0.fc.z8 (IntKind.wrap .i64 (x0.fc.y1 + 1)) x0.fc.B5 (Sl.mk none 0 0)) x0.fvars x0.farrays), a, c, d, rfl, rfl, e, h⟩
def a3k (x0 : Int) (x1 : Int) (x2 : Int) (H : Hp) (K : c8 → Hp → Prop) : Prop :=
 N5 H (fun a b =>
 N5 b (fun c d =>
 K (c8.mk x0 x1 x2 (-1) (-1) 0 a c) d))
theorem a6K (x0 : Int) (x1 : Int) (x2 : Int) {H : Hp} {K : c8 → Hp → Prop} (h : a3k x0 x1 x2 H K) : B1 x0 x1 x2 H K := by
 refine Ct.of fun w0 w ps0 H0 R E I hR => b5O ?_
 unfold a3k at h
 unfold F29
 refine o9 I Tryd.zeroValue46 (cs := [(vi 0), (vi 0), (vi 0), (vi 0), (vi 0), (vi 0), (vi 0), (vi 0), (vi 0), (vi 0)]) rfl fun i j d k => ?_
 refine f5 Tryd.call39 h d ?_
 rintro _ _ _ l e _ _ ⟨a, rfl, rfl, h⟩
 refine f5 Tryd.call39 h e ?_
 rintro _ f _ m g _ _ ⟨b, rfl, rfl, h⟩
 refine c5 (a4h _ _ _ _ _ _ _ _ _) ?_
 refine s8 g Tryd.sizeOf46 (vs := [(vi x0), (vi x1), (vi x2), (vi (-1)), (vi (-1)), (vi 0), (vi a.E7), (vi a.v8), (vi b.E7), (vi b.v8)]) fun n c o => ?_
 refine R0 Tryd.isAgg46 Tryd.sizeOf46 rfl c ?_
 exact hR _ f _ _ c.drop ⟨(c8.mk x0 x1 x2 (-1) (-1) 0 a b), rfl, rfl, h⟩
def P1 (x0 : d2) (a : (List c8)) (x1 : d8) (x2 : Int) (x3 : Int) (H : Hp) (K : j7 → Int → d2 → (List c8) → Hp → Prop) : Prop :=
 L0 (c6 x0) a x1 H (fun f b c =>
 (b = true →
 K f x2 (c6 x0) a c) ∧
 (b = false →
 r6 (c6 x0) a c (fun d g i j =>
 T2 (c6 g) i x3 j (fun e k l m =>
 M1 (c6 k) l x1 e x2 d x3 m (fun n o p =>
 K (j7.mk e 0) d (c6 n) o p)))))
theorem a2w (x0 : d2) (b : (List c8)) (x1 : d8) (x2 : Int) (x3 : Int) {H : Hp} {K : j7 → Int → d2 → (List c8) → Hp → Prop} (h : P1 x0 b x1 x2 x3 H K) : D5 x0 b x1 x2 x3 H K := by
 intro g0 c d e
 refine Ct.of fun w0 w ps0 H0 R E I hR => b6b ?_
 unfold P1 at h
 unfold F47
 refine B8 I (cs := (d9 x1)) rfl fun al am n an => ?_
 refine o9 n Tryd.zeroValue44 (cs := [(vi 0), (vi 0)]) rfl fun ao ap j aq => ?_
 refine d3 (lW Tryd.isAgg25 Tryd.sizeOf25 rfl (j.bring 1)) ?_
 refine f5 Tryd.call45 (h g0 c d e) ((j.bring 3).bring 3) ?_
 rintro _ p _ ar q _ _ ⟨f, r, rfl, rfl, h⟩
 refine c5 (g8 _ _ _ rfl) ?_
 refine c5 (g8 _ _ (Value.bool r) rfl) ?_
 refine o9 q Tryd.zeroValue44 (cs := [(vi 0), (vi 0)]) rfl fun au av s aw => ?_
 refine s8 s Tryd.sizeOf44 (vs := (m1 f)) fun ax g ay => ?_
 refine r7 h (fun _ h => ?_) (fun _ h => ?_)
 ·refine d3 (lW Tryd.isAgg44 Tryd.sizeOf44 rfl g) ?_
  refine s8 (g.bring 3) Tryd.sizeOf44 (vs := (m1 f)) fun az k ba => ?_
  refine R0 Tryd.isAgg44 Tryd.sizeOf44 rfl k ?_
  exact hR _ p _ _ (((k.drop.drop.bring 2).drop.bring 1).bring 1) ⟨f, x2, (c6 x0), b, c, d, rfl, rfl, e, h⟩
 ·refine f5 Tryd.call12 (h g0 c d e) ((g.bring 2).bring 2) ?_
  rintro _ _ _ bb t _ _ ⟨u, bc, bd, v, y, rfl, rfl, z, h⟩
  refine f5 Tryd.call53 (h g0 v y z) ((t.bring 1).bring 1) ?_
  rintro _ _ _ be aa _ _ ⟨a, bf, bg, ab, ac, rfl, rfl, ad, h⟩
  refine c5 (a1y _) ?_
  refine o9 aa Tryd.zeroValue44 (cs := [(vi 0), (vi 0)]) rfl fun bh bi ae bj => ?_
  refine s8 ae Tryd.sizeOf44 (vs := [(vi a), (vi 0)]) fun bk i bl => ?_
  refine d3 (lW Tryd.isAgg25 Tryd.sizeOf25 rfl (i.bring 5)) ?_
  refine c5 a7t ?_
  refine d3 (l1 Tryd.isAgg3 i rfl) ?_
  refine f5 Tryd.call46 (h g0 ab ac ad) ((i.bring 2).bring 2) ?_
  rintro _ af _ bm l _ _ ⟨ag, ah, ai, aj, rfl, rfl, ak, h⟩
  refine d3 (ldA Tryd.isAgg44 Tryd.sizeOf44 rfl ((l.bring 2).at1 (o := 0) (vs := [(vi a), (vi 0)]) (nb rfl) rfl)) ?_
  refine s8 (l.bring 4) Tryd.sizeOf44 (vs := [(vi a), (vi 0)]) fun bn m bo => ?_
  refine R0 Tryd.isAgg44 Tryd.sizeOf44 rfl m ?_
  exact hR _ af _ _ (((((m.drop.bring 2).drop.bring 2).drop.bring 2).drop.bring 1).bring 1) ⟨(j7.mk a 0), u, (c6 ag), ah, ai, aj, rfl, rfl, ak, h⟩
def a0p (x0 : i8) (H : Hp) (K : c7 → Hp → Prop) : Prop :=
 K (c7.A6 (J9.mk x0)) H
theorem a5o (x0 : i8) {H : Hp} {K : c7 → Hp → Prop} (h : a0p x0 H K) : a1Y x0 H K := by
 refine Ct.of fun w0 w ps0 H0 R E I hR => b6l ?_
 unfold a0p at h
 unfold F57
 refine B8 I (cs := (f7 x0)) rfl fun b c a d => ?_
 refine d3 (lW Tryd.isAgg35 Tryd.sizeOf35 rfl a) ?_
 refine c5 (a9h _ _) ?_
 refine c5 (a7Q (J9.mk x0)) ?_
 exact hR _ H _ _ a.drop ⟨(c7.A6 (J9.mk x0)), rfl, rfl, h⟩
def a0R (x0 : c7) (H : Hp) (K : ByteArray → Bool → Hp → Prop) : Prop :=
 (x0.a0W = true →
 K x0.U6.M0.f0 true H) ∧
 (x0.a0W = false →
 (x0.a0X = true →
 K x0.m0.d6.f0 ((decide (x0.m0.d6.d5 = 1)) || (decide (x0.m0.d6.d5 = 2))) H) ∧
 (x0.a0X = false →
 (x0.a0Y = true →
 K x0.v1.j9.f0 ((decide (x0.v1.j9.d5 = 2)) || (decide (x0.v1.j9.d5 = 4))) H) ∧
 (x0.a0Y = false →
 K ⟨#[]⟩ false H)))
theorem a6c (x0 : c7) {H : Hp} {K : ByteArray → Bool → Hp → Prop} (h : a0R x0 H K) : Q5 x0 H K := by
 refine Ct.of fun w0 w ps0 H0 R E I hR => b6r ?_
 unfold a0R at h
 unfold F63
 refine c5 (a8E x0) ?_
 refine c5 (g8 _ _ (Value.bool x0.a0W) rfl) ?_
 refine c5 (g8 _ _ _ rfl) ?_
 refine r7 h (fun _ h => ?_) (fun _ h => ?_)
 ·refine o9 I Tryd.zeroValue138 (cs := [(Value.string ⟨#[]⟩), (vi 0)]) rfl fun n o e q => ?_
  refine s8 e Tryd.sizeOf138 (vs := [(Value.string x0.U6.M0.f0), (vi x0.U6.M0.X5)]) fun r d s => ?_
  refine c5 a4y ?_
  refine c5 X6 ?_
  refine d3 (l1 Tryd.isAgg9 d rfl) ?_
  exact hR _ H _ _ d.drop ⟨x0.U6.M0.f0, true, rfl, rfl, h⟩
 ·refine c5 (a8F x0) ?_
  refine c5 (g8 _ _ (Value.bool x0.a0X) rfl) ?_
  refine c5 (g8 _ _ _ rfl) ?_
  refine r7 h (fun _ h => ?_) (fun _ h => ?_)
  ·refine o9 I Tryd.zeroValue140 (cs := [(vi 0), (Value.string ⟨#[]⟩), (Value.slice none 0 0), (Value.slice none 0 0), (Value.slice none 0 0), (Value.slice none 0 0)]) rfl fun f t i u => ?_
   refine s8 i Tryd.sizeOf140 (vs := [(vi x0.m0.d6.d5), (Value.string x0.m0.d6.f0), (vs x0.m0.d6.g5), (vs x0.m0.d6.o3), (vs x0.m0.d6.E2), (vs x0.m0.d6.E3)]) fun v j y => ?_
   refine M9 j fun z b => ?_
   refine f6 B6 ?_
   refine f6 X7 ?_
   refine f6 B6 ?_
   refine f6 a1T ?_
   refine p5 (l1 Tryd.isAgg9 b rfl) ?_
   refine p5 (l1 Tryd.isAgg3 b rfl) ?_
   refine f6 (f9 _ _ _ _ _ _) ?_
   refine f6 (Pu.g fun hb => by have a := hb; with_reducible exact B6) ?_
   refine f6 (Pu.g fun hb => by have a := hb; simp only [m6 a]; with_reducible exact a1T) ?_
   refine a8T (p := (Value.pointer (some ⟨f, 0, none⟩))) rfl (Ld.g fun hb => by have a := hb; simp only [m6 a]; exact (l1 Tryd.isAgg3 b rfl)) ?_
   refine f6 (Pu.g fun hb => by have a := hb; simp only [m6 a]; with_reducible exact (f9 _ _ _ _ _ _)) ?_
   refine f6 (a0V _ _) ?_
   exact hR _ H _ _ b.drop ⟨x0.m0.d6.f0, ((decide (x0.m0.d6.d5 = 1)) || (decide (x0.m0.d6.d5 = 2))), rfl, rfl, h⟩
  ·refine c5 (a8G x0) ?_
   refine c5 (g8 _ _ (Value.bool x0.a0Y) rfl) ?_
   refine c5 (g8 _ _ _ rfl) ?_
   refine r7 h (fun _ h => ?_) (fun _ h => ?_)
   ·refine o9 I Tryd.zeroValue146 (cs := [(vi 0), (vi 0), (Value.string ⟨#[]⟩), (Value.slice none 0 0)]) rfl fun k aa l ab => ?_
    refine s8 l Tryd.sizeOf146 (vs := [(vi x0.v1.j9.d5), (vi x0.v1.j9.v8), (Value.string x0.v1.j9.f0), (vs x0.v1.j9.u5)]) fun ac m ad => ?_
    refine M9 m fun ae c => ?_
    refine f6 M7 ?_
    refine f6 a1e ?_
    refine f6 M7 ?_
    refine f6 N4 ?_
    refine p5 (l1 Tryd.isAgg9 c rfl) ?_
    refine p5 (l1 Tryd.isAgg3 c rfl) ?_
    refine f6 (f9 _ _ _ _ _ _) ?_
    refine f6 (Pu.g fun hb => by have a := hb; with_reducible exact M7) ?_
    refine f6 (Pu.g fun hb => by have a := hb; simp only [m6 a]; with_reducible exact N4) ?_
    refine a8T (p := (Value.pointer (some ⟨k, 0, none⟩))) rfl (Ld.g fun hb => by have a := hb; simp only [m6 a]; exact (l1 Tryd.isAgg3 c rfl)) ?_
    refine f6 (Pu.g fun hb => by have a := hb; simp only [m6 a]; with_reducible exact (f9 _ _ _ _ _ _)) ?_
    refine f6 (a0V _ _) ?_
    exact hR _ H _ _ c.drop ⟨x0.v1.j9.f0, ((decide (x0.v1.j9.d5 = 2)) || (decide (x0.v1.j9.d5 = 4))), rfl, rfl, h⟩
   ·exact hR _ H _ _ I ⟨⟨#[]⟩, false, rfl, rfl, h⟩
def C9 (a7Y : Int) (H : Hp) (K : Int → Hp → Prop) : Prop :=
 K a7Y H
def K1 (b : ByteArray) (a6d : Int) (a : Nat) (H : Hp) (n2 : (Int × Nat) → Hp → Prop) (K : Int → Hp → Prop) : Prop :=
 (a < b.size →
 n2 ((IntKind.wrap .i64 (a6d + 1)), (a + (Utf8.decode b a).2)) H) ∧
 (¬ (a < b.size) →
 C9 a6d H K)
def L3 (x0 : ByteArray) (H : Hp) (K : Int → Hp → Prop) : Prop :=
 TL ((0, 0) : Int × Nat) H fun (s : Int × Nat) H n2 => K1 x0 s.1 s.2 H n2 K
theorem a1H (x0 : ByteArray) {H : Hp} {K : Int → Hp → Prop} (h : L3 x0 H K) : L2 x0 H K := by
 refine Ct.of fun w0 w ps0 H0 R E I hR => b6z ?_
 unfold L3 at h
 unfold F73
 have hj1 : ∀ (a7Y : Int) (H : Hp) (w : World) (_ : Inv w0 ps0 H0 H [] w) (_ : C9 a7Y H K), a9O (vi a7Y) w R E := by
  intro a7Y H w I h
  unfold a9O
  intro _
  unfold C9 at h
  exact hR _ H _ _ I ⟨a7Y, rfl, rfl, h⟩
 refine s7 fun j1 hx1 => ?_
 refine b0F Tryd.underlying9 x0 I fun d i f j => ?_
 refine a3L (σ := Int × Nat) (fun (a6d, a) => [(vi a6d)]) (fun (a6d, a) => [itf d x0 a]) h rfl f ?_
 rintro ⟨a6d, a⟩ H k w next2 n2 b I h hn2
 dsimp only at b I h
 simp only [List.map_cons, List.map_nil, List.cons.injEq, and_true] at b
 have e2 := b
 simp only [e2]
 unfold b2x
 unfold K1 at h
 refine b1O I (fun c l g m => ?_) (fun c => ?_)
 ·replace h := h.1 c
  refine c5 (g8 _ _ (Value.bool true) rfl) ?_
  refine Z7 (fun e => ?_) (fun e => by cases e)
  refine c5 (v2 _ _ _ _ _ _) ?_
  exact hn2 ((IntKind.wrap .i64 (a6d + 1)), (a + (Utf8.decode x0 a).2)) _ _ h g
 ·replace h := h.2 c
  refine c5 (g8 _ _ (Value.bool false) rfl) ?_
  refine Z7 (fun e => by cases e) (fun e => ?_)
  exact hx1 _ _ (hj1 a6d H _ I.drop h)
def i7 (o0 : Bool) (H : Hp) (K : Bool → Hp → Prop) : Prop :=
 (o0 = true →
 K true H) ∧
 (o0 = false →
 K false H)
def a1u (x0 : ByteArray) (H : Hp) (K : Bool → Hp → Prop) : Prop :=
 (x0 = ⟨#[118, 97, 114]⟩ →
 i7 (decide (x0 = ⟨#[118, 97, 114]⟩)) H K) ∧
 (¬ (x0 = ⟨#[118, 97, 114]⟩) →
 (x0 = ⟨#[97, 114, 114, 97, 121]⟩ →
 i7 (decide (x0 = ⟨#[97, 114, 114, 97, 121]⟩)) H K) ∧
 (¬ (x0 = ⟨#[97, 114, 114, 97, 121]⟩) →
 (x0 = ⟨#[105, 102]⟩ →
 i7 (decide (x0 = ⟨#[105, 102]⟩)) H K) ∧
 (¬ (x0 = ⟨#[105, 102]⟩) →
 (x0 = ⟨#[101, 108, 115, 101]⟩ →
 i7 (decide (x0 = ⟨#[101, 108, 115, 101]⟩)) H K) ∧
 (¬ (x0 = ⟨#[101, 108, 115, 101]⟩) →
 (x0 = ⟨#[119, 104, 105, 108, 101]⟩ →
 i7 (decide (x0 = ⟨#[119, 104, 105, 108, 101]⟩)) H K) ∧
 (¬ (x0 = ⟨#[119, 104, 105, 108, 101]⟩) →
 (x0 = ⟨#[97, 115, 115, 101, 114, 116]⟩ →
 i7 (decide (x0 = ⟨#[97, 115, 115, 101, 114, 116]⟩)) H K) ∧
 (¬ (x0 = ⟨#[97, 115, 115, 101, 114, 116]⟩) →
 (x0 = ⟨#[97, 115, 115, 117, 109, 101]⟩ →
 i7 (decide (x0 = ⟨#[97, 115, 115, 117, 109, 101]⟩)) H K) ∧
 (¬ (x0 = ⟨#[97, 115, 115, 117, 109, 101]⟩) →
 (x0 = ⟨#[115, 107, 105, 112]⟩ →
 i7 (decide (x0 = ⟨#[115, 107, 105, 112]⟩)) H K) ∧
 (¬ (x0 = ⟨#[115, 107, 105, 112]⟩) →
 (x0 = ⟨#[105, 110, 112, 117, 116]⟩ →
 i7 (decide (x0 = ⟨#[105, 110, 112, 117, 116]⟩)) H K) ∧
 (¬ (x0 = ⟨#[105, 110, 112, 117, 116]⟩) →
 (x0 = ⟨#[116, 114, 117, 101]⟩ →
 i7 (decide (x0 = ⟨#[116, 114, 117, 101]⟩)) H K) ∧
 (¬ (x0 = ⟨#[116, 114, 117, 101]⟩) →
 i7 (decide (x0 = ⟨#[102, 97, 108, 115, 101]⟩)) H K))))))))))
theorem a6L (x0 : ByteArray) {H : Hp} {K : Bool → Hp → Prop} (h : a1u x0 H K) : a1r x0 H K := by
 refine Ct.of fun w0 w ps0 H0 R E I hR => b6v ?_
 unfold a1u at h
 unfold F68
 have hj1 : ∀ (o0 : Bool) (H : Hp) (w : World) (_ : Inv w0 ps0 H0 H [] w) (_ : i7 o0 H K), a9I (Value.bool o0) w R E := by
  intro o0 H w I h
  unfold a9I
  intro _
  unfold i7 at h
  refine r7 h (fun _ h => ?_) (fun _ h => ?_)
  ·exact hR _ H _ _ I ⟨true, rfl, rfl, h⟩
  ·exact hR _ H _ _ I ⟨false, rfl, rfl, h⟩
 refine s7 fun j1 hx1 => ?_
 refine c5 (T0 _ _ _ _ _) ?_
 refine d7 h (fun _ h => ?_) (fun _ h => ?_)
 ·exact hx1 _ _ (hj1 (decide (x0 = ⟨#[118, 97, 114]⟩)) H _ I h)
 ·refine c5 (T0 _ _ _ _ _) ?_
  refine d7 h (fun _ h => ?_) (fun _ h => ?_)
  ·exact hx1 _ _ (hj1 (decide (x0 = ⟨#[97, 114, 114, 97, 121]⟩)) H _ I h)
  ·refine c5 (T0 _ _ _ _ _) ?_
   refine d7 h (fun _ h => ?_) (fun _ h => ?_)
   ·exact hx1 _ _ (hj1 (decide (x0 = ⟨#[105, 102]⟩)) H _ I h)
   ·refine c5 (T0 _ _ _ _ _) ?_
    refine d7 h (fun _ h => ?_) (fun _ h => ?_)
    ·exact hx1 _ _ (hj1 (decide (x0 = ⟨#[101, 108, 115, 101]⟩)) H _ I h)
    ·refine c5 (T0 _ _ _ _ _) ?_
     refine d7 h (fun _ h => ?_) (fun _ h => ?_)
     ·exact hx1 _ _ (hj1 (decide (x0 = ⟨#[119, 104, 105, 108, 101]⟩)) H _ I h)
     ·refine c5 (T0 _ _ _ _ _) ?_
      refine d7 h (fun _ h => ?_) (fun _ h => ?_)
      ·exact hx1 _ _ (hj1 (decide (x0 = ⟨#[97, 115, 115, 101, 114, 116]⟩)) H _ I h)
      ·refine c5 (T0 _ _ _ _ _) ?_
       refine d7 h (fun _ h => ?_) (fun _ h => ?_)
       ·exact hx1 _ _ (hj1 (decide (x0 = ⟨#[97, 115, 115, 117, 109, 101]⟩)) H _ I h)
       ·refine c5 (T0 _ _ _ _ _) ?_
        refine d7 h (fun _ h => ?_) (fun _ h => ?_)
        ·exact hx1 _ _ (hj1 (decide (x0 = ⟨#[115, 107, 105, 112]⟩)) H _ I h)
        ·refine c5 (T0 _ _ _ _ _) ?_
         refine d7 h (fun _ h => ?_) (fun _ h => ?_)
         ·exact hx1 _ _ (hj1 (decide (x0 = ⟨#[105, 110, 112, 117, 116]⟩)) H _ I h)
         ·refine c5 (T0 _ _ _ _ _) ?_
          refine d7 h (fun _ h => ?_) (fun _ h => ?_)
          ·exact hx1 _ _ (hj1 (decide (x0 = ⟨#[116, 114, 117, 101]⟩)) H _ I h)
          ·refine c5 (T0 _ _ _ _ _) ?_
           exact hx1 _ _ (hj1 (decide (x0 = ⟨#[102, 97, 108, 115, 101]⟩)) H _ I h)
def t6 (a3E : Int) (E1 : Int) (D7 : Int) (a3F : Bool) (a3G : Bool) (a2x : (List ByteArray)) (H : Hp) (K : Bool → f8 → (List ByteArray) → Hp → Prop) : Prop :=
 K true (f8.mk a3E E1 D7 a3F a3G (Sl.mk none 0 0)) a2x H
def S4 (x0 : f8) (a : (List ByteArray)) (x1 : c7) (x2 : Int) (H : Hp) (K : Bool → f8 → (List ByteArray) → Hp → Prop) : Prop :=
 (4096 < (IntKind.wrap .i64 (x0.fnodes + 1)) →
 K false (f8.mk (IntKind.wrap .i64 (x0.fnodes + 1)) x0.fdepth 33 x0.fform x0.fnamed (Sl.mk none 0 0)) a H) ∧
 (¬ (4096 < (IntKind.wrap .i64 (x0.fnodes + 1))) →
 (64 < x2 →
 K false (f8.mk (IntKind.wrap .i64 (x0.fnodes + 1)) x0.fdepth 32 x0.fform x0.fnamed (Sl.mk none 0 0)) a H) ∧
 (¬ (64 < x2) →
 TG (x0.fform = false) (a0i x1 H) false H (fun (c : Bool) (j : Hp) =>
 Q5 x1 j (fun b e d =>
 (e = true →
 TG (x0.fnamed = false) (Y8 b d) false d (fun (f : Bool) (k : Hp) =>
 E9 a b k (fun g i =>
 ((!g) = true →
 (a.length + ([b] : List ByteArray).length) * 17 ≤ 140737488355328 ∧
 t6 (IntKind.wrap .i64 (x0.fnodes + 1)) (if x2 > x0.fdepth then x2 else x0.fdepth) x0.fe (x0.fform || (!c)) (x0.fnamed || (!f)) (a ++ [b]) i K) ∧
 ((!g) = false →
 t6 (IntKind.wrap .i64 (x0.fnodes + 1)) (if x2 > x0.fdepth then x2 else x0.fdepth) x0.fe (x0.fform || (!c)) (x0.fnamed || (!f)) a i K)))) ∧
 (e = false →
 t6 (IntKind.wrap .i64 (x0.fnodes + 1)) (if x2 > x0.fdepth then x2 else x0.fdepth) x0.fe (x0.fform || (!c)) x0.fnamed a d K)))))
theorem a3g (x0 : f8) (b : (List ByteArray)) (x1 : c7) (x2 : Int) {H : Hp} {K : Bool → f8 → (List ByteArray) → Hp → Prop} (h : S4 x0 b x1 x2 H K) : R6 x0 b x1 x2 H K := by
 intro g0 k l m
 refine Ct.of fun w0 w ps0 H0 R E I hR => b6p ?_
 unfold S4 at h
 unfold F61
 refine c5 (m3 _) ?_
 refine c5 a4u ?_
 refine d3 (l1 Tryd.isAgg3 I rfl) ?_
 refine c5 (v2 _ _ _ _ _ _) ?_
 refine c5 (m3 _) ?_
 refine c5 a4u ?_
 refine N0 I Tryd.sizeOf3 fun ba p bb => ?_
 refine c5 (m3 _) ?_
 refine c5 a4u ?_
 refine d3 (l1 Tryd.isAgg3 p rfl) ?_
 refine c5 (Z6 _ _ _ _ _ _) ?_
 refine d7 h (fun _ h => ?_) (fun _ h => ?_)
 ·refine c5 (m3 _) ?_
  refine c5 a1A ?_
  refine N0 p Tryd.sizeOf31 fun bc an bd => ?_
  exact hR _ H _ _ ((an.bring 1).bring 1) ⟨false, (f8.mk (IntKind.wrap .i64 (x0.fnodes + 1)) x0.fdepth 33 x0.fform x0.fnamed (Sl.mk none 0 0)), b, k, l, rfl, rfl, m, h⟩
 ·refine c5 (Z6 _ _ _ _ _ _) ?_
  refine d7 h (fun _ h => ?_) (fun _ h => ?_)
  ·refine c5 (m3 _) ?_
   refine c5 a1A ?_
   refine N0 p Tryd.sizeOf31 fun be ao bf => ?_
   exact hR _ H _ _ ((ao.bring 1).bring 1) ⟨false, (f8.mk (IntKind.wrap .i64 (x0.fnodes + 1)) x0.fdepth 32 x0.fform x0.fnamed (Sl.mk none 0 0)), b, k, l, rfl, rfl, m, h⟩
  ·refine c5 (m3 _) ?_
   refine c5 a6Q ?_
   refine d3 (l1 Tryd.isAgg3 p rfl) ?_
   refine c5 (b1K _ _ _ _ _) ?_
   refine c5 (m3 _) ?_
   refine c5 a6Q ?_
   refine N0 p Tryd.sizeOf3 fun ae z bg => ?_
   refine c5 (m3 _) ?_
   refine c5 a4v ?_
   refine d3 (l1 Tryd.isAgg4 z rfl) ?_
   simp only [Q2]
   refine a7o (D := fun af t => ∃ (d : Bool) (n : Hp), af = (gv x0.fform false (Value.bool d)) ∧ (Inv w0 ps0 H0 n [bx g0 116 [(vi (IntKind.wrap .i64 (x0.fnodes + 1))), (vi (if x2 > x0.fdepth then x2 else x0.fdepth)), (vi x0.fe), (Value.bool x0.fform), (Value.bool x0.fnamed), (vs k)], l] t) ∧ (∀ i, i < ae.heap.size → ¬ inF [] i → t.heap[i]? = ae.heap[i]?) ∧ Hle H n ∧ (Q5 x1 n (fun (j : ByteArray) (u : Bool) (q : Hp) =>
 (u = true →
 TG (x0.fnamed = false) (Y8 j q) false q (fun (f : Bool) (v : Hp) =>
 E9 b j v (fun (aa : Bool) (r : Hp) =>
 ((!aa) = true →
 (b.length + ([j] : List ByteArray).length) * 17 ≤ 140737488355328 ∧
 t6 (IntKind.wrap .i64 (x0.fnodes + 1)) (if x2 > x0.fdepth then x2 else x0.fdepth) x0.fe (x0.fform || (!d)) (x0.fnamed || (!f)) (b ++ [j]) r K) ∧
 ((!aa) = false →
 t6 (IntKind.wrap .i64 (x0.fnodes + 1)) (if x2 > x0.fdepth then x2 else x0.fdepth) x0.fe (x0.fform || (!d)) (x0.fnamed || (!f)) b r K)))) ∧
 (u = false →
 t6 (IntKind.wrap .i64 (x0.fnodes + 1)) (if x2 > x0.fdepth then x2 else x0.fdepth) x0.fe (x0.fform || (!d)) x0.fnamed b q K)))) (fun o => ?_) (fun o => ?_) ?_
   ·replace h := h.1 o
    have a := o
    simp only [m6 a]
    refine a4L z h (fun d n t ab ag ah h => ?_)
    exact ⟨d, n, by rfl, ab, ah, ag, h⟩
   ·exact ⟨false, H, by rw [a8S o], z, fun _ _ _ => rfl, Hle.refl _, h.2 o⟩
   ·clear h
    rintro af t ⟨d, n, rfl, ab, ah, ag, h⟩
    refine c5 (Pu.g fun hb => by have a := hb; simp only [m6 a]; with_reducible exact (V1 _)) ?_
    refine c5 (a0V _ _) ?_
    refine c5 (m3 _) ?_
    refine c5 a4v ?_
    refine N0 ab Tryd.sizeOf4 fun bh ap bi => ?_
    have hj1 : ∀ (a3E : Int) (E1 : Int) (D7 : Int) (a3F : Bool) (a3G : Bool) (a2x : (List ByteArray)) (a5p : Sl) (a5q : Frag) (H : Hp) (w : World) (_ : RowL 9 1 r9 a5p a2x a5q) (_ : Inv w0 ps0 H0 H [bx g0 116 [(vi a3E), (vi E1), (vi D7), (Value.bool a3F), (Value.bool a3G), (vs a5p)], a5q] w) (_ : t6 a3E E1 D7 a3F a3G a2x H K), a9F w R E := by
     intro a3E E1 D7 a3F a3G a2x a5p a5q H w b3j I h
     unfold a9F
     intro _
     unfold t6 at h
     exact hR _ H _ _ ((I.bring 1).bring 1) ⟨true, (f8.mk a3E E1 D7 a3F a3G (Sl.mk none 0 0)), a2x, a5p, a5q, rfl, rfl, b3j, h⟩
    refine s7 fun j1 hx1 => ?_
    refine f5 Tryd.call63 h ap ?_
    rintro _ q _ bj y _ _ ⟨j, u, rfl, rfl, h⟩
    refine c5 (g8 _ _ (Value.string j) rfl) ?_
    refine c5 (g8 _ _ (Value.bool u) rfl) ?_
    refine r7 h (fun _ h => ?_) (fun _ h => ?_)
    ·refine c5 (m3 _) ?_
     refine c5 a4w ?_
     refine d3 (l1 Tryd.isAgg4 y rfl) ?_
     simp only [Q2]
     refine a5V [] (fun f : Bool => (Value.bool f)) h y (fun ai h => ?_) fun f v aq ac aj ak h => ?_
     ·have a := ai
      simp only [m6 a]
      refine f5 Tryd.call64 h y ?_
      rintro _ v _ aq ac ak aj ⟨f, rfl, rfl, h⟩
      exact ⟨f, v, rfl, ac, aj, ak, h⟩
     refine c5 (Pu.g fun hb => by have a := hb; simp only [m6 a]; with_reducible exact (V1 _)) ?_
     refine c5 (a0V _ _) ?_
     refine c5 (m3 _) ?_
     refine c5 a4w ?_
     refine N0 ac Tryd.sizeOf4 fun bk al bl => ?_
     refine c5 (m3 _) ?_
     refine c5 a4x ?_
     refine d3 (l1 Tryd.isAgg26 al rfl) ?_
     refine f5 Tryd.call65 (h k l m) (al.bring 1) ?_
     rintro _ r _ bm ad _ _ ⟨aa, rfl, rfl, h⟩
     refine c5 (V1 _) ?_
     refine r7 h (fun _ h => ?_) (fun _ h => ?_)
     ·refine c5 (m3 _) ?_
      refine c5 a4x ?_
      refine d3 (l1 Tryd.isAgg26 (ad.bring 1) rfl) ?_
      refine V2 (e := 9) (c := r9) (xs := [j]) ad (b0I _) rfl rfl a2D a2E (nb rfl) fun bn bo bp ar am bq => ?_
      obtain ⟨au, h⟩ := h
      refine b1R (s := k) (xs := b) (am.bring 1) m (ar.srcO ((am.bring 1).bring 1)) au fun av aw br ax ay bs => ?_
      refine c5 (m3 _) ?_
      refine c5 a4x ?_
      refine N0 ((ay.bring 1).drop.bring 1) Tryd.sizeOf26 fun bt az bu => ?_
      exact hx1 _ _ (hj1 (IntKind.wrap .i64 (x0.fnodes + 1)) (if x2 > x0.fdepth then x2 else x0.fdepth) x0.fe (x0.fform || (!d)) (x0.fnamed || (!f)) (b ++ [j]) av aw r _ ax ((az.bring 1).bring 1) h)
     ·exact hx1 _ _ (hj1 (IntKind.wrap .i64 (x0.fnodes + 1)) (if x2 > x0.fdepth then x2 else x0.fdepth) x0.fe (x0.fform || (!d)) (x0.fnamed || (!f)) b k l r _ m (ad.bring 1) h)
    ·exact hx1 _ _ (hj1 (IntKind.wrap .i64 (x0.fnodes + 1)) (if x2 > x0.fdepth then x2 else x0.fdepth) x0.fe (x0.fform || (!d)) x0.fnamed b k l q _ m ((y.bring 1).bring 1) h)
def A9 (d : Int) (e : Int) (f : Int) (g : Bool) (i : Bool) (j : (List ByteArray)) (H : Hp) (K : f8 → Hp → Prop) : Prop :=
 ∀ (a : Sl) (b : Hp), Hle H b → SlH b 1 r9 a j → a.n ≤ a.c →
 K (f8.mk d e f g i a) b
def a0q (x0 : Sl) (H : Hp) (K : f8 → Hp → Prop) : Prop :=
 K8 x0 1 (f8.mk 0 0 0 false false (Sl.mk none 0 0)) [] H (fun d a b c =>
 ((!d) = true →
 A9 a.fnodes a.fdepth a.fe a.fform a.fnamed b c K) ∧
 ((!d) = false →
 (a.fform = true →
 A9 a.fnodes a.fdepth 30 a.fform a.fnamed b c K) ∧
 (a.fform = false →
 (a.fnamed = true →
 A9 a.fnodes a.fdepth 31 a.fform a.fnamed b c K) ∧
 (a.fnamed = false →
 A9 a.fnodes a.fdepth a.fe a.fform a.fnamed b c K))))
theorem a5r (x0 : Sl) {H : Hp} {K : f8 → Hp → Prop} (h : a0q x0 H K) : a0h x0 H K := by
 refine Ct.of fun w0 w ps0 H0 R E I hR => b6i ?_
 unfold a0q at h
 unfold F54
 refine c5 (b1c ) ?_
 refine B8 I (cs := [(vi 0), (vi 0), (vi 0), (Value.bool false), (Value.bool false), (Value.slice none 0 0)]) rfl fun d aj y ak => ?_
 refine o9 y Tryd.zeroValue117 (cs := [(Value.pointer none)]) rfl fun c al z am => ?_
 refine s8 z Tryd.sizeOf117 (vs := [(Value.pointer (some ⟨d, 0, none⟩))]) fun an aa ao => ?_
 refine o9 aa Tryd.zeroValue132 (cs := [Value.nilFunc]) rfl fun f ap ab aq => ?_
 refine c5 (a2C _ _ _) ?_
 refine s8 ab Tryd.sizeOf132 (vs := [(Value.func (.func 60) #[] #[(Value.pointer (some ⟨c, 0, none⟩)), (Value.pointer (some ⟨f, 0, none⟩))])]) fun ar u au => ?_
 have hj1 : ∀ (i : Int) (j : Int) (k : Int) (l : Bool) (m : Bool) (s : (List ByteArray)) (g : Sl) (t : Frag) (H : Hp) (w : World) (_ : RowL 9 1 r9 g s t) (_ : Inv w0 ps0 H0 H [bx c 117 [(Value.pointer (some ⟨d, 0, none⟩))], bx d 116 [(vi i), (vi j), (vi k), (Value.bool l), (Value.bool m), (vs g)], bx f 132 [(Value.func (.func 60) #[] #[(Value.pointer (some ⟨c, 0, none⟩)), (Value.pointer (some ⟨f, 0, none⟩))])], t] w) (_ : A9 i j k l m s H K), a9y (Value.pointer (some ⟨c, 0, none⟩)) w R E := by
  intro i j k l m s g t H w ac I h
  unfold a9y
  intro _
  unfold A9 at h
  refine d3 (l1 Tryd.isAgg117 I rfl) ?_
  obtain ⟨v, ad, ae, af, ag⟩ := Inv.freezeC (I.bring 3) ac (by decide)
  replace h := h g v ae af ag
  exact hR _ v _ _ (ad.drop.bring 1).drop ⟨(f8.mk i j k l m g), d, rfl, rfl, h⟩
 refine s7 fun j1 hx1 => ?_
 refine d3 (l1 Tryd.isAgg132 u rfl) ?_
 refine a1P (cap := [(Value.pointer (some ⟨c, 0, none⟩)), (Value.pointer (some ⟨f, 0, none⟩))]) Tryd.call60 (h c d f (Sl.mk none 0 0) ([]) (RowL.nil (e := 9) a2D a2E)) ((((u.nil.bring 1).bring 1).bring 3).bring 3) ?_
 rintro _ n _ av b _ _ ⟨aw, a, o, p, q, rfl, rfl, r, h⟩
 refine c5 (V1 _) ?_
 refine r7 h (fun _ h => ?_) (fun _ h => ?_)
 ·exact hx1 _ _ (hj1 a.fnodes a.fdepth a.fe a.fform a.fnamed o p q n _ r ((((b.bring 2).bring 3).bring 3).bring 3) h)
 ·refine d3 (l1 Tryd.isAgg117 b rfl) ?_
  refine c5 (m3 _) ?_
  refine c5 a4v ?_
  refine d3 (l1 Tryd.isAgg4 (b.bring 1) rfl) ?_
  refine r7 h (fun _ h => ?_) (fun _ h => ?_)
  ·refine d3 (l1 Tryd.isAgg117 b rfl) ?_
   refine c5 (m3 _) ?_
   refine c5 a1A ?_
   refine N0 (b.bring 1) Tryd.sizeOf31 fun ax ah ay => ?_
   exact hx1 _ _ (hj1 a.fnodes a.fdepth 30 a.fform a.fnamed o p q n _ r ((((ah.bring 2).bring 3).bring 2).bring 3) h)
  ·refine d3 (l1 Tryd.isAgg117 b rfl) ?_
   refine c5 (m3 _) ?_
   refine c5 a4w ?_
   refine d3 (l1 Tryd.isAgg4 (b.bring 1) rfl) ?_
   refine r7 h (fun _ h => ?_) (fun _ h => ?_)
   ·refine d3 (l1 Tryd.isAgg117 b rfl) ?_
    refine c5 (m3 _) ?_
    refine c5 a1A ?_
    refine N0 (b.bring 1) Tryd.sizeOf31 fun az ai ba => ?_
    exact hx1 _ _ (hj1 a.fnodes a.fdepth 31 a.fform a.fnamed o p q n _ r ((((ai.bring 2).bring 3).bring 2).bring 3) h)
   ·exact hx1 _ _ (hj1 a.fnodes a.fdepth a.fe a.fform a.fnamed o p q n _ r ((((b.bring 2).bring 3).bring 3).bring 3) h)
def a1v (x0 : o8) (H : Hp) (K : f8 → Hp → Prop) : Prop :=
 y3 x0.a3M H (fun d e =>
 m8 x0.a3l e (fun f g =>
 ∀ (a : Sl) (b : Hp), Hle g b → SlH b 1 csl a [d, f] → a.n ≤ a.c →
 r5 a b (fun i j =>
 a0h i j (fun k l =>
 K k l))))
theorem a6M (x0 : o8) {H : Hp} {K : f8 → Hp → Prop} (h : a1v x0 H K) : a1s x0 H K := by
 refine Ct.of fun w0 w ps0 H0 R E I hR => b6d ?_
 unfold a1v at h
 unfold F49
 refine B8 I (cs := (m5 x0)) rfl fun z aa b ab => ?_
 refine M9 b fun ac a => ?_
 refine f6 a5f ?_
 refine f6 a3m ?_
 refine p5 (l1 Tryd.isAgg27 a rfl) ?_
 refine p5 (l1 Tryd.isAgg37 a rfl) ?_
 refine f5 Tryd.call56 h a ?_
 rintro _ _ _ ad d _ f ⟨g, rfl, rfl, h⟩
 refine ⟨(f _ a.lt1 (Inv.a1Q (Fi := []) a)), ?_⟩
 refine f5 Tryd.call58 h d ?_
 rintro _ _ _ ae i _ _ ⟨j, rfl, rfl, h⟩
 refine V2 (e := 123) (c := csl) (xs := [g, j]) i (a9g _ _ _ _ _ _) rfl rfl a8H a8I (nb rfl) fun k af ag l m ah => ?_
 obtain ⟨n, o, p, q, r⟩ := Inv.freezeC m l (by decide)
 replace h := h k n p q r
 refine f5 Tryd.call55 h o ?_
 rintro _ _ _ ai s _ _ ⟨aj, rfl, rfl, h⟩
 refine f5 Tryd.call54 h s ?_
 rintro _ t _ ak u _ _ ⟨v, y, rfl, rfl, h⟩
 exact hR _ t _ _ (u.bring 1).drop ⟨v, y, rfl, rfl, h⟩
def a0G (x0 : o8) (H : Hp) (K : Int → Hp → Prop) : Prop :=
 a1s x0 H (fun a b =>
 K a.fe b)
theorem a5P (x0 : o8) {H : Hp} {K : Int → Hp → Prop} (h : a0G x0 H K) : a0D x0 H K := by
 refine Ct.of fun w0 w ps0 H0 R E I hR => b5V ?_
 unfold a0G at h
 unfold F41
 refine B8 I (cs := (m5 x0)) rfl fun e f a g => ?_
 refine d3 (lW Tryd.isAgg41 Tryd.sizeOf41 rfl a) ?_
 refine f5 Tryd.call49 h a ?_
 rintro _ c _ i b _ _ ⟨d, j, rfl, rfl, h⟩
 refine c5 (m3 _) ?_
 refine c5 a1A ?_
 refine d3 (l1 Tryd.isAgg31 b rfl) ?_
 exact hR _ c _ _ b.drop.drop ⟨d.fe, rfl, rfl, h⟩
def G5 (b8l : Sl) (a5j : Int) (b7F : Int) (a2y : (List d4)) (H : Hp) (n1 : (Int × (List d4)) → Hp → Prop) (K : f4 → (List d4) → Hp → Prop) : Prop :=
 n1 ((IntKind.wrap .i64 (b7F + 1)), a2y) H
def G6 (b3U : Sl) (b1j : Int) (b7G : Int) (a3U : (List d4)) (a : l9) (H : Hp) (n1 : (Int × (List d4)) → Hp → Prop) (K : f4 → (List d4) → Hp → Prop) : Prop :=
 E8 (f4.mk (Sl.mk none 0 0)) a3U a.E2 H (fun f b c =>
 E8 (f4.mk (Sl.mk none 0 0)) b a.E3 c (fun g d e =>
 G5 b3U b1j b7G d e n1 K))
def G7 (b7H : Sl) (b7I : Int) (b7J : Int) (b4a : Sl) (b4b : Int) (b : l9) (Z1 : Int) (S5 : (List d4)) (H : Hp) (n1 : (Int × (List d4)) → Hp → Prop) (n6 : (Int × (List d4)) → Hp → Prop) (K : f4 → (List d4) → Hp → Prop) : Prop :=
 (Z1 < b4b →
 (0 : Int) ≤ Z1 ∧ (Z1 : Int) < b4a.n ∧ ∃ a : d8, EltH H b4a Z1 4 (d9 a) ∧
 G3 (f4.mk (Sl.mk none 0 0)) S5 a H (fun e c d =>
 n6 ((IntKind.wrap .i64 (Z1 + 1)), c) d)) ∧
 (¬ (Z1 < b4b) →
 G6 b7H b7I b7J S5 b H n1 K)
def G8 (b7K : Sl) (b7L : Int) (b7M : Int) (a2z : (List d4)) (a : l9) (H : Hp) (n1 : (Int × (List d4)) → Hp → Prop) (K : f4 → (List d4) → Hp → Prop) : Prop :=
 TL ((0, a2z) : Int × (List d4)) H fun (s : Int × (List d4)) H n6 => G7 b7K b7L b7M a.g5 (a.g5.n : Int) a s.1 s.2 H n1 n6 K
def G9 (b7N : Sl) (b7O : Int) (b7P : Int) (b4c : Sl) (b4d : Int) (b : l9) (Z2 : Int) (S6 : (List d4)) (H : Hp) (n1 : (Int × (List d4)) → Hp → Prop) (n7 : (Int × (List d4)) → Hp → Prop) (K : f4 → (List d4) → Hp → Prop) : Prop :=
 (Z2 < b4d →
 (0 : Int) ≤ Z2 ∧ (Z2 : Int) < b4c.n ∧ ∃ a : m2, EltH H b4c Z2 4 (i4 a) ∧
 M2 (f4.mk (Sl.mk none 0 0)) S6 a H (fun e c d =>
 n7 ((IntKind.wrap .i64 (Z2 + 1)), c) d)) ∧
 (¬ (Z2 < b4d) →
 G8 b7N b7O b7P S6 b H n1 K)
def v6 (b7Q : Sl) (b7R : Int) (b7S : Int) (a2A : (List d4)) (a : l9) (H : Hp) (n1 : (Int × (List d4)) → Hp → Prop) (K : f4 → (List d4) → Hp → Prop) : Prop :=
 TL ((0, a2A) : Int × (List d4)) H fun (s : Int × (List d4)) H n7 => G9 b7Q b7R b7S a.o3 (a.o3.n : Int) a s.1 s.2 H n1 n7 K
def H9 (a7D : Sl) (a7E : Int) (I0 : Int) (C8 : (List d4)) (H : Hp) (n1 : (Int × (List d4)) → Hp → Prop) (K : f4 → (List d4) → Hp → Prop) : Prop :=
 (I0 < a7E →
 (0 : Int) ≤ I0 ∧ (I0 : Int) < a7D.n ∧ ∃ a : l9, EltH H a7D I0 6 (l0 a) ∧
 (a.d5 = 1 →
 (C8.length + ([(d4.mk a.f0 1)] : List d4).length) * 25 ≤ 140737488355328 ∧
 v6 a7D a7E I0 (C8 ++ [(d4.mk a.f0 1)]) a H n1 K) ∧
 (¬ (a.d5 = 1) →
 (a.d5 = 2 →
 (C8.length + ([(d4.mk a.f0 2)] : List d4).length) * 25 ≤ 140737488355328 ∧
 v6 a7D a7E I0 (C8 ++ [(d4.mk a.f0 2)]) a H n1 K) ∧
 (¬ (a.d5 = 2) →
 v6 a7D a7E I0 C8 a H n1 K))) ∧
 (¬ (I0 < a7E) →
 K (f4.mk (Sl.mk none 0 0)) C8 H)
def S7 (x0 : f4) (a : (List d4)) (x1 : Sl) (H : Hp) (K : f4 → (List d4) → Hp → Prop) : Prop :=
 TL ((0, a) : Int × (List d4)) H fun (s : Int × (List d4)) H n1 => H9 x1 (x1.n : Int) s.1 s.2 H n1 K
theorem a3h (x0 : f4) (p : (List d4)) (x1 : Sl) {H : Hp} {K : f4 → (List d4) → Hp → Prop} (h : S7 x0 p x1 H K) : E8 x0 p x1 H K := by
 intro g0 al am an
 refine Ct.of fun w0 w ps0 H0 R E I hR => b5X ?_
 unfold S7 at h
 unfold F43
 refine c5 (U4 _ _ _) ?_
 obtain ⟨q, g, ao, ap⟩ := h
 refine E0 (J := fun n l w => ∃ (s : Int × (List d4)) (H : Hp) (a1I : Sl) (a3V : Frag) , n = g s ∧ l = (match s with | (I0, C8) => [(vi I0)]) ∧ (match s with | (I0, C8) => RowL 106 2 o4 a1I C8 a3V) ∧ (match s with | (I0, C8) => Inv w0 ps0 H0 H [bx g0 103 [(vs a1I)], a3V] w) ∧ q s H) ⟨_, (0, p), H, al, am, rfl, rfl, an, ((I.bring 1).bring 1), ao⟩ ?_
 rintro cx cy w next1 ⟨⟨I0, C8⟩, H, a1I, a3V, rfl, r, a3W, I, aq⟩ hn1
 dsimp only at r I a3W
 simp only [List.map_cons, List.map_nil, List.cons.injEq, and_true] at r
 have e12 := r
 simp only [e12]
 obtain ⟨n1, hm1, h⟩ : ∃ n1 : (Int × (List d4)) → Hp → Prop, (∀ s' H', n1 s' H' → q s' H' ∧ g s' < g (I0, C8)) ∧ H9 x1 (x1.n : Int) I0 C8 H n1 K := ⟨_, fun _ _ h => h, ap (I0, C8) H (fun s' H' => q s' H' ∧ g s' < g (I0, C8)) aq (fun _ _ a b => ⟨a, b⟩)⟩
 unfold b2j
 unfold H9 at h
 refine c5 (B7 _ _ _ _ _ _) ?_
 refine d7 h (fun _ h => ?_) (fun _ h => ?_)
 ·have hj2 : ∀ (a2y : (List d4)) (a5s : Sl) (a5t : Frag) (H : Hp) (w : World) (_ : RowL 106 2 o4 a5s a2y a5t) (_ : Inv w0 ps0 H0 H [bx g0 103 [(vs a5s)], a5t] w) (_ : G5 x1 (x1.n : Int) I0 a2y H n1 K), a9q (Value.pointer (some ⟨g0, 0, none⟩)) (vs x1) (vi (x1.n : Int)) (vi I0) w next1 R E := by
   intro a2y a5s a5t H w b3k I h
   unfold a9q
   intro _
   unfold G5 at h
   refine c5 (v2 _ _ _ _ _ _) ?_
   exact hn1 _ _ _ (hm1 _ _ h).2 ⟨((IntKind.wrap .i64 (I0 + 1)), a2y), H, a5s, a5t, rfl, rfl, b3k, ((I.bring 1).bring 1), (hm1 _ _ h).1⟩
  refine s7 fun j2 hx2 => ?_
  obtain ⟨ar, au, d, t, h⟩ := h
  obtain ⟨cz, da, av, t⟩ := t
  refine c5 (a6Y av _ _ _ _ ar au) ?_
  refine d3 (ldA (vs := (l0 d)) Tryd.isAgg39 Tryd.sizeOf39 rfl (I.atH t)) ?_
  refine o9 I Tryd.zeroValue39 (cs := [(vi 0), (Value.string ⟨#[]⟩), (Value.slice none 0 0), (Value.slice none 0 0), (Value.slice none 0 0), (Value.slice none 0 0)]) rfl fun f db aw dc => ?_
  refine s8 aw Tryd.sizeOf39 (vs := (l0 d)) fun dd k de => ?_
  have hj3 : ∀ (a2A : (List d4)) (a5u : Sl) (a5v : Frag) (H : Hp) (w : World) (_ : RowL 106 2 o4 a5u a2A a5v) (_ : Inv w0 ps0 H0 H [bx g0 103 [(vs a5u)], bx f 39 (l0 d), a5v] w) (_ : v6 x1 (x1.n : Int) I0 a2A d H n1 K), a9t (Value.pointer (some ⟨g0, 0, none⟩)) (Value.pointer (some ⟨f, 0, none⟩)) (vs x1) (vi (x1.n : Int)) (vi I0) w j2 R E := by
   intro a2A a5u a5v H w b3l I h
   unfold a9t
   intro _
   unfold v6 at h
   have hj4 : ∀ (a2z : (List d4)) (a5w : Sl) (a5x : Frag) (H : Hp) (w : World) (_ : RowL 106 2 o4 a5w a2z a5x) (_ : Inv w0 ps0 H0 H [bx g0 103 [(vs a5w)], bx f 39 (l0 d), a5x] w) (_ : G8 x1 (x1.n : Int) I0 a2z d H n1 K), a9s (Value.pointer (some ⟨g0, 0, none⟩)) (Value.pointer (some ⟨f, 0, none⟩)) (vs x1) (vi (x1.n : Int)) (vi I0) w j2 R E := by
    intro a2z a5w a5x H w b3m I h
    unfold a9s
    intro _
    unfold G8 at h
    have hj5 : ∀ (a3U : (List d4)) (a5y : Sl) (a5z : Frag) (H : Hp) (w : World) (_ : RowL 106 2 o4 a5y a3U a5z) (_ : Inv w0 ps0 H0 H [bx g0 103 [(vs a5y)], bx f 39 (l0 d), a5z] w) (_ : G6 x1 (x1.n : Int) I0 a3U d H n1 K), a9r (Value.pointer (some ⟨g0, 0, none⟩)) (Value.pointer (some ⟨f, 0, none⟩)) (vs x1) (vi (x1.n : Int)) (vi I0) w j2 R E := by
     intro a3U a5y a5z H w b3n I h
     unfold a9r
     intro _
     unfold G6 at h
     refine c5 a0f ?_
     refine d3 (l1 Tryd.isAgg37 (I.bring 1) rfl) ?_
     refine f5 Tryd.call43 (h g0 a5y a5z b3n) ((I.bring 2).bring 1) ?_
     rintro _ _ _ df ac _ _ ⟨dg, dh, ax, ay, rfl, rfl, az, h⟩
     refine c5 a1d ?_
     refine d3 (l1 Tryd.isAgg37 (ac.bring 2) rfl) ?_
     refine f5 Tryd.call43 (h g0 ax ay az) ((ac.bring 1).bring 1) ?_
     rintro _ ba _ di bb _ _ ⟨dj, bc, bd, be, rfl, rfl, bf, h⟩
     exact hx2 _ _ (hj2 bc bd be ba _ bf (((bb.bring 2).drop.bring 1).bring 1) h)
    refine s7 fun j5 hx5 => ?_
    refine c5 a1U ?_
    refine d3 (l1 Tryd.isAgg23 (I.bring 1) rfl) ?_
    refine c5 (a0d _ _ _) ?_
    obtain ⟨u, i, bg, bh⟩ := h
    refine E0 (J := fun n l w => ∃ (s : Int × (List d4)) (H : Hp) (a3X : Sl) (a3Y : Frag) , n = i s ∧ l = (match s with | (Z1, S5) => [(vi Z1)]) ∧ (match s with | (Z1, S5) => RowL 106 2 o4 a3X S5 a3Y) ∧ (match s with | (Z1, S5) => Inv w0 ps0 H0 H [bx g0 103 [(vs a3X)], bx f 39 (l0 d), a3Y] w) ∧ u s H) ⟨_, (0, a2z), H, a5w, a5x, rfl, rfl, b3m, (((I.bring 2).bring 2).bring 2), bg⟩ ?_
    rintro dk dl w next6 ⟨⟨Z1, S5⟩, H, a3X, a3Y, rfl, v, a7c, I, bi⟩ hn6
    dsimp only at v I a7c
    simp only [List.map_cons, List.map_nil, List.cons.injEq, and_true] at v
    have e60 := v
    simp only [e60]
    obtain ⟨n6, hm6, h⟩ : ∃ n6 : (Int × (List d4)) → Hp → Prop, (∀ s' H', n6 s' H' → u s' H' ∧ i s' < i (Z1, S5)) ∧ G7 x1 (x1.n : Int) I0 d.g5 (d.g5.n : Int) d Z1 S5 H n1 n6 K := ⟨_, fun _ _ h => h, bh (Z1, S5) H (fun s' H' => u s' H' ∧ i s' < i (Z1, S5)) bi (fun _ _ a b => ⟨a, b⟩)⟩
    unfold b2h
    unfold G7 at h
    refine c5 (B7 _ _ _ _ _ _) ?_
    refine d7 h (fun _ h => ?_) (fun _ h => ?_)
    ·obtain ⟨bj, bk, ad, y, h⟩ := h
     obtain ⟨dm, dn, bl, y⟩ := y
     refine c5 (Y3 bl _ _ _ _ bj bk) ?_
     refine d3 (ldA (vs := (d9 ad)) Tryd.isAgg25 Tryd.sizeOf25 rfl (I.atH y)) ?_
     refine o9 I Tryd.zeroValue25 (cs := [(vi 0), (vi 0), (Value.string ⟨#[]⟩), (Value.slice none 0 0)]) rfl fun dp dq bm dr => ?_
     refine s8 bm Tryd.sizeOf25 (vs := (d9 ad)) fun ds ae dt => ?_
     refine d3 (lW Tryd.isAgg25 Tryd.sizeOf25 rfl ae) ?_
     refine f5 Tryd.call51 (h g0 a3X a3Y a7c) ((ae.bring 3).bring 2) ?_
     rintro _ bn _ du bo _ _ ⟨dv, bp, bq, br, rfl, rfl, bs, h⟩
     refine c5 (v2 _ _ _ _ _ _) ?_
     exact hn6 _ _ _ (hm6 _ _ h).2 ⟨((IntKind.wrap .i64 (Z1 + 1)), bp), bn, bq, br, rfl, rfl, bs, ((((bo.bring 2).drop.bring 1).bring 2).bring 2), (hm6 _ _ h).1⟩
    ·exact hx5 _ _ (hj5 S5 a3X a3Y H _ a7c (((I.bring 2).bring 2).bring 2) h)
   refine s7 fun j4 hx4 => ?_
   refine c5 a0g ?_
   refine d3 (l1 Tryd.isAgg36 (I.bring 1) rfl) ?_
   refine c5 (a2H _ _ _) ?_
   obtain ⟨z, j, bt, bu⟩ := h
   refine E0 (J := fun n l w => ∃ (s : Int × (List d4)) (H : Hp) (a3Z : Sl) (a4a : Frag) , n = j s ∧ l = (match s with | (Z2, S6) => [(vi Z2)]) ∧ (match s with | (Z2, S6) => RowL 106 2 o4 a3Z S6 a4a) ∧ (match s with | (Z2, S6) => Inv w0 ps0 H0 H [bx g0 103 [(vs a3Z)], bx f 39 (l0 d), a4a] w) ∧ z s H) ⟨_, (0, a2A), H, a5u, a5v, rfl, rfl, b3l, (((I.bring 2).bring 2).bring 2), bt⟩ ?_
   rintro dw dx w next7 ⟨⟨Z2, S6⟩, H, a3Z, a4a, rfl, aa, a7d, I, bv⟩ hn7
   dsimp only at aa I a7d
   simp only [List.map_cons, List.map_nil, List.cons.injEq, and_true] at aa
   have e49 := aa
   simp only [e49]
   obtain ⟨n7, hm7, h⟩ : ∃ n7 : (Int × (List d4)) → Hp → Prop, (∀ s' H', n7 s' H' → z s' H' ∧ j s' < j (Z2, S6)) ∧ G9 x1 (x1.n : Int) I0 d.o3 (d.o3.n : Int) d Z2 S6 H n1 n7 K := ⟨_, fun _ _ h => h, bu (Z2, S6) H (fun s' H' => z s' H' ∧ j s' < j (Z2, S6)) bv (fun _ _ a b => ⟨a, b⟩)⟩
   unfold b2i
   unfold G9 at h
   refine c5 (B7 _ _ _ _ _ _) ?_
   refine d7 h (fun _ h => ?_) (fun _ h => ?_)
   ·obtain ⟨bw, bz, af, ab, h⟩ := h
    obtain ⟨dy, dz, ca, ab⟩ := ab
    refine c5 (R5 ca _ _ _ _ bw bz) ?_
    refine d3 (ldA (vs := (i4 af)) Tryd.isAgg89 Tryd.sizeOf89 rfl (I.atH ab)) ?_
    refine o9 I Tryd.zeroValue89 (cs := [(vi 0), (vi 0), (Value.slice none 0 0), (Value.slice none 0 0)]) rfl fun ea eb cb ec => ?_
    refine s8 cb Tryd.sizeOf89 (vs := (i4 af)) fun ed ag ee => ?_
    refine d3 (lW Tryd.isAgg89 Tryd.sizeOf89 rfl ag) ?_
    refine f5 Tryd.call50 (h g0 a3Z a4a a7d) ((ag.bring 3).bring 2) ?_
    rintro _ cc _ ef cd _ _ ⟨eg, ce, cf, cg, rfl, rfl, ch, h⟩
    refine c5 (v2 _ _ _ _ _ _) ?_
    exact hn7 _ _ _ (hm7 _ _ h).2 ⟨((IntKind.wrap .i64 (Z2 + 1)), ce), cc, cf, cg, rfl, rfl, ch, ((((cd.bring 2).drop.bring 1).bring 2).bring 2), (hm7 _ _ h).1⟩
   ·exact hx4 _ _ (hj4 S6 a3Z a4a H _ a7d (((I.bring 2).bring 2).bring 2) h)
  refine s7 fun j3 hx3 => ?_
  refine c5 a1T ?_
  refine d3 (l1 Tryd.isAgg3 k rfl) ?_
  refine c5 (f9 _ _ _ _ _ _) ?_
  refine d7 h (fun _ h => ?_) (fun _ h => ?_)
  ·refine M9 k fun eh m => ?_
   refine f6 (m3 _) ?_
   refine f6 P8 ?_
   refine f6 X7 ?_
   refine p5 (l1 Tryd.isAgg101 (m.bring 1) rfl) ?_
   refine p5 (l1 Tryd.isAgg9 m rfl) ?_
   refine f6 (a1f _ _) ?_
   refine V2 (e := 106) (c := o4) (xs := [(d4.mk d.f0 1)]) m (a5g _ _) rfl rfl a0y a0z (nb rfl) fun ei ej ek ci ah cj => ?_
   refine ⟨(cj _ (m.bring 1).lt1), ?_⟩
   obtain ⟨ck, h⟩ := h
   refine a6t (s := a1I) (xs := C8) (ah.bring 3) a3W (ci.srcO ((ah.bring 3).bring 1)) ck fun ai cl el cm cn em => ?_
   refine f6 (m3 _) ?_
   refine f6 P8 ?_
   refine s8 ((cn.bring 1).drop.bring 2) Tryd.sizeOf101 (vs := [(vs ai)]) fun en co eo => ?_
   exact hx3 _ _ (hj3 (C8 ++ [(d4.mk d.f0 1)]) ai cl H _ cm (((co.bring 1).bring 2).bring 2) h)
  ·refine c5 (f9 _ _ _ _ _ _) ?_
   refine d7 h (fun _ h => ?_) (fun _ h => ?_)
   ·refine M9 k fun ep o => ?_
    refine f6 (m3 _) ?_
    refine f6 P8 ?_
    refine f6 X7 ?_
    refine p5 (l1 Tryd.isAgg101 (o.bring 1) rfl) ?_
    refine p5 (l1 Tryd.isAgg9 o rfl) ?_
    refine f6 (a1f _ _) ?_
    refine V2 (e := 106) (c := o4) (xs := [(d4.mk d.f0 2)]) o (a5g _ _) rfl rfl a0y a0z (nb rfl) fun eq er es cp aj cq => ?_
    refine ⟨(cq _ (o.bring 1).lt1), ?_⟩
    obtain ⟨cr, h⟩ := h
    refine a6t (s := a1I) (xs := C8) (aj.bring 3) a3W (cp.srcO ((aj.bring 3).bring 1)) cr fun ak ct et cu cv eu => ?_
    refine f6 (m3 _) ?_
    refine f6 P8 ?_
    refine s8 ((cv.bring 1).drop.bring 2) Tryd.sizeOf101 (vs := [(vs ak)]) fun ev cw ew => ?_
    exact hx3 _ _ (hj3 (C8 ++ [(d4.mk d.f0 2)]) ak ct H _ cu (((cw.bring 1).bring 2).bring 2) h)
   ·exact hx3 _ _ (hj3 C8 a1I a3V H _ a3W (((k.bring 2).bring 1).bring 2) h)
 ·exact hR _ H _ _ ((I.bring 1).bring 1) ⟨(f4.mk (Sl.mk none 0 0)), C8, a1I, a3V, rfl, rfl, a3W, h⟩
def V7 (x0 : J9) (H : Hp) (K : Sl → Hp → Prop) : Prop :=
 K (Sl.mk none 0 0) H
theorem a4b (x0 : J9) {H : Hp} {K : Sl → Hp → Prop} (h : V7 x0 H K) : a0L x0 H K := by
 refine Ct.of fun w0 w ps0 H0 R E I hR => b6C ?_
 unfold V7 at h
 unfold F92
 refine B8 I (cs := (f7 x0.M0)) rfl fun b c a d => ?_
 exact hR _ H _ _ a.drop ⟨(Sl.mk none 0 0), rfl, rfl, h⟩
def a0r (x0 : d8) (H : Hp) (K : c7 → Hp → Prop) : Prop :=
 K (c7.u7 (B2.mk x0)) H
theorem a5A (x0 : d8) {H : Hp} {K : c7 → Hp → Prop} (h : a0r x0 H K) : a2d x0 H K := by
 refine Ct.of fun w0 w ps0 H0 R E I hR => b6I ?_
 unfold a0r at h
 unfold F98
 refine B8 I (cs := (d9 x0)) rfl fun b c a d => ?_
 refine d3 (lW Tryd.isAgg25 Tryd.sizeOf25 rfl a) ?_
 refine c5 (a9l _ _ _ _ _ _) ?_
 refine c5 (a4J (B2.mk x0)) ?_
 exact hR _ H _ _ a.drop ⟨(c7.u7 (B2.mk x0)), rfl, rfl, h⟩
end Go.Proofs.YtaokfhdinhimfaaDoor
