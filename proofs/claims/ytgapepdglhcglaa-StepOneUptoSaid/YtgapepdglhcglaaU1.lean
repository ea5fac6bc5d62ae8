/-
  Single operations at this program's types, and its structures; printed by lift.py.
-/
import Derived.Test.YtgapepdglhcglaaProg
import Derived.Test.YtgapepdglhcglaaS3
import Derived.KernelRfl
import Derived.Laws.StructEq
import Derived.Laws.Tables
import Derived.Laws.Cover2
namespace Go.Proofs.Ytgapepdglhcglaa
open Go.RowKit
set_option maxRecDepth 100000
set_option maxHeartbeats 2000000

structure Tapi_Cfg where
  fVars : Sl
  fTemps : Int
  fArrays : Sl
  fPoints : Int
  fExit : Int
  fEdges : Sl
structure Tapi_Outcome where
  fStatus : Int
  fWrong : Int
  fSteps : Int
  fEvents : Sl
  fVars : Sl
  fArrays : Sl
structure Tapi_Operand where
  fVar : Int
  fNum : Int
structure Tapi_Edge where
  fFrom : Int
  fTo : Int
  fKind : Int
  fDst : Int
  fArr : Int
  fOp : Int
  fA : Tapi_Operand
  fB : Tapi_Operand
structure Tapi_Decl where
  fName : ByteArray
  fSize : Int
structure Tstep_state where
  fc : Tapi_Cfg
  ffrom : Sl
  fpoint : Int
  fvars : Sl
  farrays : Sl
  fscript : Sl
  fevents : Sl
structure Tapi_Event where
  fInput : Bool
  fNum : Int
  fHeld : Bool
structure Tgnomonref10_state where
  fvars : Sl
  farrays : Sl
structure Tcfg_graph where
  fCfg : Tapi_Cfg
structure Tcfg_wants where
  fdst : Bool
  farr : Bool
  fop : Bool
  fa : Bool
  fb : Bool
abbrev cs_int64 (x : Int) : List Value := [(Value.int .i64 x)]
theorem cs_int64_l (x : Int) : (cs_int64 x).length = 1 := rfl
theorem cs_int64_o (x : Int) : (cs_int64 x).all (·.oneCell') = true := rfl
theorem inf_2 : Try.prog.info? 2 = some ((Try.prog.info? 2).getD default) := by kernel_rfl
theorem app_27 {E : Pan} {w0 w : World} {ps : Nat → Prop} {H0 H : Hp} {Fs : List Frag} {K : Value → World → Prop} {s : Sl} {xs : List Int} {F : Frag} {t2 : Sl} {ys : List Int} {ks : List Bool} {ty : TypeId} (I : Inv w0 ps H0 H (F :: Fs) w) (hr : RowL 2 1 cs_int64 s xs F) (hs : SrcO w cs_int64 t2 ys) (hb : (xs.length + ys.length) * 9 ≤ 140737488355328) (h : ∀ (s' : Sl) (F' : Frag) (w' : World), RowL 2 1 cs_int64 s' (xs ++ ys) F' → Inv w0 ps H0 H (F' :: Fs) w' → (∀ k, k < w.heap.size → (∀ p ∈ F, p.1 ≠ k) → w'.heap[k]? = w.heap[k]?) → K (.slice s'.a s'.n s'.c) w') : opK Try.prog E (xBuiltin .append #[27, 27] ty ks [.slice s.a s.n s.c, .slice t2.a t2.n t2.c]) w K :=
  s_app (bytes := 8) Try.underlying27 inf_2 (z := (Value.int .i64 0)) (by kernel_rfl) (by kernel_rfl) (by kernel_rfl) (by kernel_rfl) I hr hs hb h
theorem pu_len_32 (a : Option Addr) (n c : Nat) : Pu Try.prog (xBuiltin .len #[32] 3 [false] [.slice a n c]) (.int .i64 (n : Int)) := pu_len_slice Try.underlying32 a n c
theorem pu_ix_32 {a : Option Addr} {g o : Nat} (ha : a = some ⟨g, o, none⟩) (len cap : Nat) (k : IntKind) (i : Int) (h0 : 0 ≤ i) (h1 : i < len) : Pu Try.prog (xV (Instr.indexAt 32 (.slice a len cap) (.int k i))) (.pointer (some ⟨g, o + i.toNat * 1, none⟩)) := pu_indexAt Try.underlying32 Try.sizeOf27 ha len cap k i h0 h1
theorem bs_32_1 (a0a : Option Addr) (a0n a0c : Nat) (w : World) : (Instr.buildSlice 32 1 #[(0, (Value.slice a0a a0n a0c))]).run Try.prog w = .ok (.slice (some ⟨w.heap.size, 0, none⟩) 1 1) (w.alloc (.cells [(Value.slice a0a a0n a0c)].toArray 27)) := by kernel_rfl
theorem inf_27 : Try.prog.info? 27 = some ((Try.prog.info? 27).getD default) := by kernel_rfl
theorem app_32 {E : Pan} {w0 w : World} {ps : Nat → Prop} {H0 H : Hp} {Fs : List Frag} {K : Value → World → Prop} {s : Sl} {xs : List Sl} {F : Frag} {t2 : Sl} {ys : List Sl} {ks : List Bool} {ty : TypeId} (I : Inv w0 ps H0 H (F :: Fs) w) (hr : RowL 27 1 csl s xs F) (hs : SrcO w csl t2 ys) (hb : (xs.length + ys.length) * 25 ≤ 140737488355328) (h : ∀ (s' : Sl) (F' : Frag) (w' : World), RowL 27 1 csl s' (xs ++ ys) F' → Inv w0 ps H0 H (F' :: Fs) w' → (∀ k, k < w.heap.size → (∀ p ∈ F, p.1 ≠ k) → w'.heap[k]? = w.heap[k]?) → K (.slice s'.a s'.n s'.c) w') : opK Try.prog E (xBuiltin .append #[32, 32] ty ks [.slice s.a s.n s.c, .slice t2.a t2.n t2.c]) w K :=
  s_app (bytes := 24) Try.underlying32 inf_27 (z := (Value.slice none 0 0)) (by kernel_rfl) (by kernel_rfl) (by kernel_rfl) (by kernel_rfl) I hr hs hb h
abbrev cs_string (x : ByteArray) : List Value := [(Value.string x)]
theorem cs_string_l (x : ByteArray) : (cs_string x).length = 1 := rfl
theorem cs_string_o (x : ByteArray) : (cs_string x).all (·.oneCell') = true := rfl
theorem bs_22_1 (a0 : ByteArray) (w : World) : (Instr.buildSlice 22 1 #[(0, (Value.string a0))]).run Try.prog w = .ok (.slice (some ⟨w.heap.size, 0, none⟩) 1 1) (w.alloc (.cells [(Value.string a0)].toArray 9)) := by kernel_rfl
theorem pu_bld_50_0_1 (a0 : Int) (a1 : Int) : Pu Try.prog (xV (Instr.build 50 #[(0, (Value.int .i64 a0)), (1, (Value.int .i64 a1))])) (.agg #[(Value.int .i64 a0), (Value.int .i64 a1)]) := Pu.ok fun w => by kernel_rfl
theorem pu_bld_50_0 (a0 : Int) : Pu Try.prog (xV (Instr.build 50 #[(0, (Value.int .i64 a0))])) (.agg #[(Value.int .i64 a0), (Value.int .i64 0)]) := Pu.ok fun w => by kernel_rfl
theorem pu_bld_52_1_2_4_6_7 (a1 : Int) (a2 : Int) (a4 : Int) (a6_0 : Int) (a6_1 : Int) (a7_0 : Int) (a7_1 : Int) : Pu Try.prog (xV (Instr.build 52 #[(1, (Value.int .i64 a1)), (2, (Value.int .i64 a2)), (4, (Value.int .i64 a4)), (6, (Value.agg #[(Value.int .i64 a6_0), (Value.int .i64 a6_1)])), (7, (Value.agg #[(Value.int .i64 a7_0), (Value.int .i64 a7_1)]))])) (.agg #[(Value.int .i64 0), (Value.int .i64 a1), (Value.int .i64 a2), (Value.int .i64 0), (Value.int .i64 a4), (Value.int .i64 0), (Value.int .i64 a6_0), (Value.int .i64 a6_1), (Value.int .i64 a7_0), (Value.int .i64 a7_1)]) := Pu.ok fun w => by kernel_rfl
abbrev cs_api_Edge (x : Tapi_Edge) : List Value := [(Value.int .i64 x.fFrom), (Value.int .i64 x.fTo), (Value.int .i64 x.fKind), (Value.int .i64 x.fDst), (Value.int .i64 x.fArr), (Value.int .i64 x.fOp), (Value.int .i64 x.fA.fVar), (Value.int .i64 x.fA.fNum), (Value.int .i64 x.fB.fVar), (Value.int .i64 x.fB.fNum)]
theorem cs_api_Edge_l (x : Tapi_Edge) : (cs_api_Edge x).length = 10 := rfl
theorem cs_api_Edge_o (x : Tapi_Edge) : (cs_api_Edge x).all (·.oneCell') = true := rfl
theorem bs_24_1 (a0_0 : Int) (a0_1 : Int) (a0_2 : Int) (a0_3 : Int) (a0_4 : Int) (a0_5 : Int) (a0_6_0 : Int) (a0_6_1 : Int) (a0_7_0 : Int) (a0_7_1 : Int) (w : World) : (Instr.buildSlice 24 1 #[(0, (Value.agg #[(Value.int .i64 a0_0), (Value.int .i64 a0_1), (Value.int .i64 a0_2), (Value.int .i64 a0_3), (Value.int .i64 a0_4), (Value.int .i64 a0_5), (Value.int .i64 a0_6_0), (Value.int .i64 a0_6_1), (Value.int .i64 a0_7_0), (Value.int .i64 a0_7_1)]))]).run Try.prog w = .ok (.slice (some ⟨w.heap.size, 0, none⟩) 1 1) (w.alloc (.cells [(Value.int .i64 a0_0), (Value.int .i64 a0_1), (Value.int .i64 a0_2), (Value.int .i64 a0_3), (Value.int .i64 a0_4), (Value.int .i64 a0_5), (Value.int .i64 a0_6_0), (Value.int .i64 a0_6_1), (Value.int .i64 a0_7_0), (Value.int .i64 a0_7_1)].toArray 52)) := by kernel_rfl
theorem pu_bld_26_0_3_4_5 (a0a : Option Addr) (a0n a0c : Nat) (a3 : Int) (a4 : Int) (a5a : Option Addr) (a5n a5c : Nat) : Pu Try.prog (xV (Instr.build 26 #[(0, (Value.slice a0a a0n a0c)), (3, (Value.int .i64 a3)), (4, (Value.int .i64 a4)), (5, (Value.slice a5a a5n a5c))])) (.agg #[(Value.slice a0a a0n a0c), (Value.int .i64 0), (Value.slice none 0 0), (Value.int .i64 a3), (Value.int .i64 a4), (Value.slice a5a a5n a5c)]) := Pu.ok fun w => by kernel_rfl
theorem pu_fa_34_0 {g o : Nat} : Pu Try.prog (xV (Instr.fieldAt 34 (.pointer (some ⟨g, o, none⟩)) 0)) (.pointer (some ⟨g, o + 0, none⟩)) := Pu.ok fun w => by kernel_rfl
theorem pu_fa_34_2 {g o : Nat} : Pu Try.prog (xV (Instr.fieldAt 34 (.pointer (some ⟨g, o, none⟩)) 2)) (.pointer (some ⟨g, o + 2, none⟩)) := Pu.ok fun w => by kernel_rfl
theorem pu_fa_34_4 {g o : Nat} : Pu Try.prog (xV (Instr.fieldAt 34 (.pointer (some ⟨g, o, none⟩)) 4)) (.pointer (some ⟨g, o + 4, none⟩)) := Pu.ok fun w => by kernel_rfl
theorem pu_len_27 (a : Option Addr) (n c : Nat) : Pu Try.prog (xBuiltin .len #[27] 3 [false] [.slice a n c]) (.int .i64 (n : Int)) := pu_len_slice Try.underlying27 a n c
theorem pu_ix_27 {a : Option Addr} {g o : Nat} (ha : a = some ⟨g, o, none⟩) (len cap : Nat) (k : IntKind) (i : Int) (h0 : 0 ≤ i) (h1 : i < len) : Pu Try.prog (xV (Instr.indexAt 27 (.slice a len cap) (.int k i))) (.pointer (some ⟨g, o + i.toNat * 1, none⟩)) := pu_indexAt Try.underlying27 Try.sizeOf2 ha len cap k i h0 h1
theorem pu_fa_26_0 {g o : Nat} : Pu Try.prog (xV (Instr.fieldAt 26 (.pointer (some ⟨g, o, none⟩)) 0)) (.pointer (some ⟨g, o + 0, none⟩)) := Pu.ok fun w => by kernel_rfl
theorem inf_9 : Try.prog.info? 9 = some ((Try.prog.info? 9).getD default) := by kernel_rfl
theorem app_22 {E : Pan} {w0 w : World} {ps : Nat → Prop} {H0 H : Hp} {Fs : List Frag} {K : Value → World → Prop} {s : Sl} {xs : List ByteArray} {F : Frag} {t2 : Sl} {ys : List ByteArray} {ks : List Bool} {ty : TypeId} (I : Inv w0 ps H0 H (F :: Fs) w) (hr : RowL 9 1 cs_string s xs F) (hs : SrcO w cs_string t2 ys) (hb : (xs.length + ys.length) * 17 ≤ 140737488355328) (h : ∀ (s' : Sl) (F' : Frag) (w' : World), RowL 9 1 cs_string s' (xs ++ ys) F' → Inv w0 ps H0 H (F' :: Fs) w' → (∀ k, k < w.heap.size → (∀ p ∈ F, p.1 ≠ k) → w'.heap[k]? = w.heap[k]?) → K (.slice s'.a s'.n s'.c) w') : opK Try.prog E (xBuiltin .append #[22, 22] ty ks [.slice s.a s.n s.c, .slice t2.a t2.n t2.c]) w K :=
  s_app (bytes := 16) Try.underlying22 inf_9 (z := (Value.string ⟨#[]⟩)) (by kernel_rfl) (by kernel_rfl) (by kernel_rfl) (by kernel_rfl) I hr hs hb h
theorem pu_fa_26_2 {g o : Nat} : Pu Try.prog (xV (Instr.fieldAt 26 (.pointer (some ⟨g, o, none⟩)) 2)) (.pointer (some ⟨g, o + 2, none⟩)) := Pu.ok fun w => by kernel_rfl
abbrev cs_api_Decl (x : Tapi_Decl) : List Value := [(Value.string x.fName), (Value.int .i64 x.fSize)]
theorem cs_api_Decl_l (x : Tapi_Decl) : (cs_api_Decl x).length = 2 := rfl
theorem cs_api_Decl_o (x : Tapi_Decl) : (cs_api_Decl x).all (·.oneCell') = true := rfl
theorem inf_60 : Try.prog.info? 60 = some ((Try.prog.info? 60).getD default) := by kernel_rfl
theorem app_23 {E : Pan} {w0 w : World} {ps : Nat → Prop} {H0 H : Hp} {Fs : List Frag} {K : Value → World → Prop} {s : Sl} {xs : List Tapi_Decl} {F : Frag} {t2 : Sl} {ys : List Tapi_Decl} {ks : List Bool} {ty : TypeId} (I : Inv w0 ps H0 H (F :: Fs) w) (hr : RowL 60 2 cs_api_Decl s xs F) (hs : SrcO w cs_api_Decl t2 ys) (hb : (xs.length + ys.length) * 25 ≤ 140737488355328) (h : ∀ (s' : Sl) (F' : Frag) (w' : World), RowL 60 2 cs_api_Decl s' (xs ++ ys) F' → Inv w0 ps H0 H (F' :: Fs) w' → (∀ k, k < w.heap.size → (∀ p ∈ F, p.1 ≠ k) → w'.heap[k]? = w.heap[k]?) → K (.slice s'.a s'.n s'.c) w') : opK Try.prog E (xBuiltin .append #[23, 23] ty ks [.slice s.a s.n s.c, .slice t2.a t2.n t2.c]) w K :=
  s_app (bytes := 24) Try.underlying23 inf_60 (z := (Value.agg #[(Value.string ⟨#[]⟩), (Value.int .i64 0)])) (by kernel_rfl) (by kernel_rfl) (by kernel_rfl) (by kernel_rfl) I hr hs hb h
theorem pu_fa_26_5 {g o : Nat} : Pu Try.prog (xV (Instr.fieldAt 26 (.pointer (some ⟨g, o, none⟩)) 5)) (.pointer (some ⟨g, o + 5, none⟩)) := Pu.ok fun w => by kernel_rfl
theorem inf_52 : Try.prog.info? 52 = some ((Try.prog.info? 52).getD default) := by kernel_rfl
theorem app_24 {E : Pan} {w0 w : World} {ps : Nat → Prop} {H0 H : Hp} {Fs : List Frag} {K : Value → World → Prop} {s : Sl} {xs : List Tapi_Edge} {F : Frag} {t2 : Sl} {ys : List Tapi_Edge} {ks : List Bool} {ty : TypeId} (I : Inv w0 ps H0 H (F :: Fs) w) (hr : RowL 52 10 cs_api_Edge s xs F) (hs : SrcO w cs_api_Edge t2 ys) (hb : (xs.length + ys.length) * 81 ≤ 140737488355328) (h : ∀ (s' : Sl) (F' : Frag) (w' : World), RowL 52 10 cs_api_Edge s' (xs ++ ys) F' → Inv w0 ps H0 H (F' :: Fs) w' → (∀ k, k < w.heap.size → (∀ p ∈ F, p.1 ≠ k) → w'.heap[k]? = w.heap[k]?) → K (.slice s'.a s'.n s'.c) w') : opK Try.prog E (xBuiltin .append #[24, 24] ty ks [.slice s.a s.n s.c, .slice t2.a t2.n t2.c]) w K :=
  s_app (bytes := 80) Try.underlying24 inf_52 (z := (Value.agg #[(Value.int .i64 0), (Value.int .i64 0), (Value.int .i64 0), (Value.int .i64 0), (Value.int .i64 0), (Value.int .i64 0), (Value.int .i64 0), (Value.int .i64 0), (Value.int .i64 0), (Value.int .i64 0)])) (by kernel_rfl) (by kernel_rfl) (by kernel_rfl) (by kernel_rfl) I hr hs hb h
theorem pu_bld_34  : Pu Try.prog (xV (Instr.build 34 #[])) (.agg #[(Value.int .i64 0), (Value.int .i64 0), (Value.int .i64 0), (Value.slice none 0 0), (Value.slice none 0 0), (Value.slice none 0 0)]) := Pu.ok fun w => by kernel_rfl
theorem pu_fa_26_1 {g o : Nat} : Pu Try.prog (xV (Instr.fieldAt 26 (.pointer (some ⟨g, o, none⟩)) 1)) (.pointer (some ⟨g, o + 1, none⟩)) := Pu.ok fun w => by kernel_rfl
theorem pu_len_22 (a : Option Addr) (n c : Nat) : Pu Try.prog (xBuiltin .len #[22] 3 [false] [.slice a n c]) (.int .i64 (n : Int)) := pu_len_slice Try.underlying22 a n c
theorem mks_27 {E : Pan} {w0 w : World} {ps : Nat → Prop} {H0 H : Hp} {Fs : List Frag} {K : Value → World → Prop} {kl kc : IntKind} {n : Int} (I : Inv w0 ps H0 H Fs w) (hn : 0 ≤ n) (hb : n * 9 ≤ 140737488355328) (h : ∀ (s' : Sl) (F' : Frag) (w' : World), RowL 2 1 cs_int64 s' (List.replicate n.toNat 0) F' → Inv w0 ps H0 H (F' :: Fs) w' → (∀ k, k < w.heap.size → w'.heap[k]? = w.heap[k]?) → K (.slice s'.a s'.n s'.c) w') : opK Try.prog E (xV (Instr.makeSlice 27 (.int kl n) (.int kc n))) w K :=
  s_make (bytes := 8) (x0 := 0) Try.underlying27 inf_2 (z := (Value.int .i64 0)) (by kernel_rfl) (by kernel_rfl) (by kernel_rfl) (by kernel_rfl) I cs_int64_l cs_int64_o (by decide) kl kc n hn hb h
theorem pu_bld_58_0_1_3_5 (a0_0a : Option Addr) (a0_0n a0_0c : Nat) (a0_1 : Int) (a0_2a : Option Addr) (a0_2n a0_2c : Nat) (a0_3 : Int) (a0_4 : Int) (a0_5a : Option Addr) (a0_5n a0_5c : Nat) (a1a : Option Addr) (a1n a1c : Nat) (a3a : Option Addr) (a3n a3c : Nat) (a5a : Option Addr) (a5n a5c : Nat) : Pu Try.prog (xV (Instr.build 58 #[(0, (Value.agg #[(Value.slice a0_0a a0_0n a0_0c), (Value.int .i64 a0_1), (Value.slice a0_2a a0_2n a0_2c), (Value.int .i64 a0_3), (Value.int .i64 a0_4), (Value.slice a0_5a a0_5n a0_5c)])), (1, (Value.slice a1a a1n a1c)), (3, (Value.slice a3a a3n a3c)), (5, (Value.slice a5a a5n a5c))])) (.agg #[(Value.slice a0_0a a0_0n a0_0c), (Value.int .i64 a0_1), (Value.slice a0_2a a0_2n a0_2c), (Value.int .i64 a0_3), (Value.int .i64 a0_4), (Value.slice a0_5a a0_5n a0_5c), (Value.slice a1a a1n a1c), (Value.int .i64 0), (Value.slice a3a a3n a3c), (Value.slice none 0 0), (Value.slice a5a a5n a5c), (Value.slice none 0 0)]) := Pu.ok fun w => by kernel_rfl
theorem pu_len_23 (a : Option Addr) (n c : Nat) : Pu Try.prog (xBuiltin .len #[23] 3 [false] [.slice a n c]) (.int .i64 (n : Int)) := pu_len_slice Try.underlying23 a n c
theorem pu_ix_23 {a : Option Addr} {g o : Nat} (ha : a = some ⟨g, o, none⟩) (len cap : Nat) (k : IntKind) (i : Int) (h0 : 0 ≤ i) (h1 : i < len) : Pu Try.prog (xV (Instr.indexAt 23 (.slice a len cap) (.int k i))) (.pointer (some ⟨g, o + i.toNat * 2, none⟩)) := pu_indexAt Try.underlying23 Try.sizeOf60 ha len cap k i h0 h1
theorem pu_fa_58_4 {g o : Nat} : Pu Try.prog (xV (Instr.fieldAt 58 (.pointer (some ⟨g, o, none⟩)) 4)) (.pointer (some ⟨g, o + 9, none⟩)) := Pu.ok fun w => by kernel_rfl
theorem pu_fa_60_1 {g o : Nat} : Pu Try.prog (xV (Instr.fieldAt 60 (.pointer (some ⟨g, o, none⟩)) 1)) (.pointer (some ⟨g, o + 1, none⟩)) := Pu.ok fun w => by kernel_rfl
theorem pu_bld_34_0 (a0 : Int) : Pu Try.prog (xV (Instr.build 34 #[(0, (Value.int .i64 a0))])) (.agg #[(Value.int .i64 a0), (Value.int .i64 0), (Value.int .i64 0), (Value.slice none 0 0), (Value.slice none 0 0), (Value.slice none 0 0)]) := Pu.ok fun w => by kernel_rfl
theorem pu_blf_63_30_31_32_33_34_35_36_37_38_39_40_30_41_42 : Pu Try.prog (xV (Instr.build 63 #[(1, (Value.func (.func 30) #[] #[])), (2, (Value.func (.func 31) #[] #[])), (3, (Value.func (.func 32) #[] #[])), (4, (Value.func (.func 33) #[] #[])), (5, (Value.func (.func 34) #[] #[])), (6, (Value.func (.func 35) #[] #[])), (7, (Value.func (.func 36) #[] #[])), (8, (Value.func (.func 37) #[] #[])), (9, (Value.func (.func 38) #[] #[])), (10, (Value.func (.func 39) #[] #[])), (11, (Value.func (.func 40) #[] #[])), (12, (Value.func (.func 30) #[] #[])), (13, (Value.func (.func 41) #[] #[])), (14, (Value.func (.func 42) #[] #[]))])) (.agg #[Value.nilFunc, (Value.func (.func 30) #[] #[]), (Value.func (.func 31) #[] #[]), (Value.func (.func 32) #[] #[]), (Value.func (.func 33) #[] #[]), (Value.func (.func 34) #[] #[]), (Value.func (.func 35) #[] #[]), (Value.func (.func 36) #[] #[]), (Value.func (.func 37) #[] #[]), (Value.func (.func 38) #[] #[]), (Value.func (.func 39) #[] #[]), (Value.func (.func 40) #[] #[]), (Value.func (.func 30) #[] #[]), (Value.func (.func 41) #[] #[]), (Value.func (.func 42) #[] #[])]) := Pu.ok fun w => by kernel_rfl
abbrev cs_api_Event (x : Tapi_Event) : List Value := [(Value.bool x.fInput), (Value.int .i64 x.fNum), (Value.bool x.fHeld)]
theorem cs_api_Event_l (x : Tapi_Event) : (cs_api_Event x).length = 3 := rfl
theorem cs_api_Event_o (x : Tapi_Event) : (cs_api_Event x).all (·.oneCell') = true := rfl
theorem pu_fa_58_1 {g o : Nat} : Pu Try.prog (xV (Instr.fieldAt 58 (.pointer (some ⟨g, o, none⟩)) 1)) (.pointer (some ⟨g, o + 6, none⟩)) := Pu.ok fun w => by kernel_rfl
theorem pu_fa_58_2 {g o : Nat} : Pu Try.prog (xV (Instr.fieldAt 58 (.pointer (some ⟨g, o, none⟩)) 2)) (.pointer (some ⟨g, o + 7, none⟩)) := Pu.ok fun w => by kernel_rfl
theorem pu_ix_55 {a : Option Addr} {g o : Nat} (ha : a = some ⟨g, o, none⟩) (len cap : Nat) (k : IntKind) (i : Int) (h0 : 0 ≤ i) (h1 : i < len) : Pu Try.prog (xV (Instr.indexAt 55 (.slice a len cap) (.int k i))) (.pointer (some ⟨g, o + i.toNat * 1, none⟩)) := pu_indexAt Try.underlying55 Try.sizeOf68 ha len cap k i h0 h1
theorem pu_fa_58_0 {g o : Nat} : Pu Try.prog (xV (Instr.fieldAt 58 (.pointer (some ⟨g, o, none⟩)) 0)) (.pointer (some ⟨g, o + 0, none⟩)) := Pu.ok fun w => by kernel_rfl
theorem pu_fa_26_4 {g o : Nat} : Pu Try.prog (xV (Instr.fieldAt 26 (.pointer (some ⟨g, o, none⟩)) 4)) (.pointer (some ⟨g, o + 4, none⟩)) := Pu.ok fun w => by kernel_rfl
theorem pu_len_68 (a : Option Addr) (n c : Nat) : Pu Try.prog (xBuiltin .len #[68] 3 [false] [.slice a n c]) (.int .i64 (n : Int)) := pu_len_slice Try.underlying68 a n c
theorem pu_ix_68 {a : Option Addr} {g o : Nat} (ha : a = some ⟨g, o, none⟩) (len cap : Nat) (k : IntKind) (i : Int) (h0 : 0 ≤ i) (h1 : i < len) : Pu Try.prog (xV (Instr.indexAt 68 (.slice a len cap) (.int k i))) (.pointer (some ⟨g, o + i.toNat * 1, none⟩)) := pu_indexAt Try.underlying68 Try.sizeOf3 ha len cap k i h0 h1
theorem pu_ix_24 {a : Option Addr} {g o : Nat} (ha : a = some ⟨g, o, none⟩) (len cap : Nat) (k : IntKind) (i : Int) (h0 : 0 ≤ i) (h1 : i < len) : Pu Try.prog (xV (Instr.indexAt 24 (.slice a len cap) (.int k i))) (.pointer (some ⟨g, o + i.toNat * 10, none⟩)) := pu_indexAt Try.underlying24 Try.sizeOf52 ha len cap k i h0 h1
theorem pu_fa_52_2 {g o : Nat} : Pu Try.prog (xV (Instr.fieldAt 52 (.pointer (some ⟨g, o, none⟩)) 2)) (.pointer (some ⟨g, o + 2, none⟩)) := Pu.ok fun w => by kernel_rfl
theorem pu_fa_52_5 {g o : Nat} : Pu Try.prog (xV (Instr.fieldAt 52 (.pointer (some ⟨g, o, none⟩)) 5)) (.pointer (some ⟨g, o + 5, none⟩)) := Pu.ok fun w => by kernel_rfl
theorem pu_fa_52_6 {g o : Nat} : Pu Try.prog (xV (Instr.fieldAt 52 (.pointer (some ⟨g, o, none⟩)) 6)) (.pointer (some ⟨g, o + 6, none⟩)) := Pu.ok fun w => by kernel_rfl
theorem pu_fa_52_7 {g o : Nat} : Pu Try.prog (xV (Instr.fieldAt 52 (.pointer (some ⟨g, o, none⟩)) 7)) (.pointer (some ⟨g, o + 8, none⟩)) := Pu.ok fun w => by kernel_rfl
theorem pu_fa_50_0 {g o : Nat} : Pu Try.prog (xV (Instr.fieldAt 50 (.pointer (some ⟨g, o, none⟩)) 0)) (.pointer (some ⟨g, o + 0, none⟩)) := Pu.ok fun w => by kernel_rfl
theorem pu_fa_50_1 {g o : Nat} : Pu Try.prog (xV (Instr.fieldAt 50 (.pointer (some ⟨g, o, none⟩)) 1)) (.pointer (some ⟨g, o + 1, none⟩)) := Pu.ok fun w => by kernel_rfl
theorem pu_fa_58_3 {g o : Nat} : Pu Try.prog (xV (Instr.fieldAt 58 (.pointer (some ⟨g, o, none⟩)) 3)) (.pointer (some ⟨g, o + 8, none⟩)) := Pu.ok fun w => by kernel_rfl
theorem pu_fa_58_5 {g o : Nat} : Pu Try.prog (xV (Instr.fieldAt 58 (.pointer (some ⟨g, o, none⟩)) 5)) (.pointer (some ⟨g, o + 10, none⟩)) := Pu.ok fun w => by kernel_rfl
theorem pu_fa_58_6 {g o : Nat} : Pu Try.prog (xV (Instr.fieldAt 58 (.pointer (some ⟨g, o, none⟩)) 6)) (.pointer (some ⟨g, o + 11, none⟩)) := Pu.ok fun w => by kernel_rfl
theorem pu_fa_34_3 {g o : Nat} : Pu Try.prog (xV (Instr.fieldAt 34 (.pointer (some ⟨g, o, none⟩)) 3)) (.pointer (some ⟨g, o + 3, none⟩)) := Pu.ok fun w => by kernel_rfl
theorem pu_fa_34_5 {g o : Nat} : Pu Try.prog (xV (Instr.fieldAt 34 (.pointer (some ⟨g, o, none⟩)) 5)) (.pointer (some ⟨g, o + 5, none⟩)) := Pu.ok fun w => by kernel_rfl
theorem pu_ixp_63 {g o : Nat} (k : IntKind) (i : Int) (h0 : 0 ≤ i) (h1 : i < 15) : Pu Try.prog (xV (Instr.indexAt 63 (.pointer (some ⟨g, o, none⟩)) (.int k i))) (.pointer (some ⟨g, o + i.toNat * 1, none⟩)) := pu_indexArr Try.underlying63 Try.sizeOf62 k i h0 h1
theorem pu_fa_34_1 {g o : Nat} : Pu Try.prog (xV (Instr.fieldAt 34 (.pointer (some ⟨g, o, none⟩)) 1)) (.pointer (some ⟨g, o + 1, none⟩)) := Pu.ok fun w => by kernel_rfl
theorem pu_fa_52_1 {g o : Nat} : Pu Try.prog (xV (Instr.fieldAt 52 (.pointer (some ⟨g, o, none⟩)) 1)) (.pointer (some ⟨g, o + 1, none⟩)) := Pu.ok fun w => by kernel_rfl
theorem pu_fa_52_3 {g o : Nat} : Pu Try.prog (xV (Instr.fieldAt 52 (.pointer (some ⟨g, o, none⟩)) 3)) (.pointer (some ⟨g, o + 3, none⟩)) := Pu.ok fun w => by kernel_rfl
theorem pu_bld_74_0_1 (a0 : Bool) (a1 : Int) : Pu Try.prog (xV (Instr.build 74 #[(0, (Value.bool a0)), (1, (Value.int .i64 a1))])) (.agg #[(Value.bool a0), (Value.int .i64 a1), (Value.bool false)]) := Pu.ok fun w => by kernel_rfl
theorem bs_31_1 (a0_0 : Bool) (a0_1 : Int) (a0_2 : Bool) (w : World) : (Instr.buildSlice 31 1 #[(0, (Value.agg #[(Value.bool a0_0), (Value.int .i64 a0_1), (Value.bool a0_2)]))]).run Try.prog w = .ok (.slice (some ⟨w.heap.size, 0, none⟩) 1 1) (w.alloc (.cells [(Value.bool a0_0), (Value.int .i64 a0_1), (Value.bool a0_2)].toArray 74)) := by kernel_rfl
theorem inf_74 : Try.prog.info? 74 = some ((Try.prog.info? 74).getD default) := by kernel_rfl
theorem app_31 {E : Pan} {w0 w : World} {ps : Nat → Prop} {H0 H : Hp} {Fs : List Frag} {K : Value → World → Prop} {s : Sl} {xs : List Tapi_Event} {F : Frag} {t2 : Sl} {ys : List Tapi_Event} {ks : List Bool} {ty : TypeId} (I : Inv w0 ps H0 H (F :: Fs) w) (hr : RowL 74 3 cs_api_Event s xs F) (hs : SrcO w cs_api_Event t2 ys) (hb : (xs.length + ys.length) * 25 ≤ 140737488355328) (h : ∀ (s' : Sl) (F' : Frag) (w' : World), RowL 74 3 cs_api_Event s' (xs ++ ys) F' → Inv w0 ps H0 H (F' :: Fs) w' → (∀ k, k < w.heap.size → (∀ p ∈ F, p.1 ≠ k) → w'.heap[k]? = w.heap[k]?) → K (.slice s'.a s'.n s'.c) w') : opK Try.prog E (xBuiltin .append #[31, 31] ty ks [.slice s.a s.n s.c, .slice t2.a t2.n t2.c]) w K :=
  s_app (bytes := 24) Try.underlying31 inf_74 (z := (Value.agg #[(Value.bool false), (Value.int .i64 0), (Value.bool false)])) (by kernel_rfl) (by kernel_rfl) (by kernel_rfl) (by kernel_rfl) I hr hs hb h
theorem pu_fa_52_4 {g o : Nat} : Pu Try.prog (xV (Instr.fieldAt 52 (.pointer (some ⟨g, o, none⟩)) 4)) (.pointer (some ⟨g, o + 4, none⟩)) := Pu.ok fun w => by kernel_rfl
theorem pu_nilt_104 (x y : Operand) : Pu Try.prog (xBin .eql 104 x y (.pointer none) (.pointer none)) (.bool true) := pu_isnil _ _ _ none Try.underlying104
theorem pu_nnilt_104 (x y : Operand) : Pu Try.prog (xBin .neq 104 x y (.pointer none) (.pointer none)) (.bool false) := pu_isnnil _ _ _ none Try.underlying104
theorem pu_nilf_104 (x y : Operand) (a : Addr) : Pu Try.prog (xBin .eql 104 x y (.pointer (some a)) (.pointer none)) (.bool false) := pu_isnil _ _ _ (some a) Try.underlying104
theorem pu_nnilf_104 (x y : Operand) (a : Addr) : Pu Try.prog (xBin .neq 104 x y (.pointer (some a)) (.pointer none)) (.bool true) := pu_isnnil _ _ _ (some a) Try.underlying104
theorem pu_bld_74_2 (a2 : Bool) : Pu Try.prog (xV (Instr.build 74 #[(2, (Value.bool a2))])) (.agg #[(Value.bool false), (Value.int .i64 0), (Value.bool a2)]) := Pu.ok fun w => by kernel_rfl
theorem pu_bld_74  : Pu Try.prog (xV (Instr.build 74 #[])) (.agg #[(Value.bool false), (Value.int .i64 0), (Value.bool false)]) := Pu.ok fun w => by kernel_rfl
theorem pu_fa_26_3 {g o : Nat} : Pu Try.prog (xV (Instr.fieldAt 26 (.pointer (some ⟨g, o, none⟩)) 3)) (.pointer (some ⟨g, o + 3, none⟩)) := Pu.ok fun w => by kernel_rfl
theorem inf_68 : Try.prog.info? 68 = some ((Try.prog.info? 68).getD default) := by kernel_rfl
theorem mks_55 {E : Pan} {w0 w : World} {ps : Nat → Prop} {H0 H : Hp} {Fs : List Frag} {K : Value → World → Prop} {kl kc : IntKind} {n : Int} (I : Inv w0 ps H0 H Fs w) (hn : 0 ≤ n) (hb : n * 25 ≤ 140737488355328) (h : ∀ (s' : Sl) (F' : Frag) (w' : World), RowL 68 1 csl s' (List.replicate n.toNat (Sl.mk none 0 0)) F' → Inv w0 ps H0 H (F' :: Fs) w' → (∀ k, k < w.heap.size → w'.heap[k]? = w.heap[k]?) → K (.slice s'.a s'.n s'.c) w') : opK Try.prog E (xV (Instr.makeSlice 55 (.int kl n) (.int kc n))) w K :=
  s_make (bytes := 24) (x0 := (Sl.mk none 0 0)) Try.underlying55 inf_68 (z := (Value.slice none 0 0)) (by kernel_rfl) (by kernel_rfl) (by kernel_rfl) (by kernel_rfl) I csl_l csl_o (by decide) kl kc n hn hb h
abbrev cs_int (x : Int) : List Value := [(Value.int .i64 x)]
theorem cs_int_l (x : Int) : (cs_int x).length = 1 := rfl
theorem cs_int_o (x : Int) : (cs_int x).all (·.oneCell') = true := rfl
theorem pu_len_24 (a : Option Addr) (n c : Nat) : Pu Try.prog (xBuiltin .len #[24] 3 [false] [.slice a n c]) (.int .i64 (n : Int)) := pu_len_slice Try.underlying24 a n c
theorem pu_fa_52_0 {g o : Nat} : Pu Try.prog (xV (Instr.fieldAt 52 (.pointer (some ⟨g, o, none⟩)) 0)) (.pointer (some ⟨g, o + 0, none⟩)) := Pu.ok fun w => by kernel_rfl
theorem bs_68_1 (a0 : Int) (w : World) : (Instr.buildSlice 68 1 #[(0, (Value.int .i64 a0))]).run Try.prog w = .ok (.slice (some ⟨w.heap.size, 0, none⟩) 1 1) (w.alloc (.cells [(Value.int .i64 a0)].toArray 3)) := by kernel_rfl
theorem inf_3 : Try.prog.info? 3 = some ((Try.prog.info? 3).getD default) := by kernel_rfl
theorem app_68 {E : Pan} {w0 w : World} {ps : Nat → Prop} {H0 H : Hp} {Fs : List Frag} {K : Value → World → Prop} {s : Sl} {xs : List Int} {F : Frag} {t2 : Sl} {ys : List Int} {ks : List Bool} {ty : TypeId} (I : Inv w0 ps H0 H (F :: Fs) w) (hr : RowL 3 1 cs_int s xs F) (hs : SrcO w cs_int t2 ys) (hb : (xs.length + ys.length) * 9 ≤ 140737488355328) (h : ∀ (s' : Sl) (F' : Frag) (w' : World), RowL 3 1 cs_int s' (xs ++ ys) F' → Inv w0 ps H0 H (F' :: Fs) w' → (∀ k, k < w.heap.size → (∀ p ∈ F, p.1 ≠ k) → w'.heap[k]? = w.heap[k]?) → K (.slice s'.a s'.n s'.c) w') : opK Try.prog E (xBuiltin .append #[68, 68] ty ks [.slice s.a s.n s.c, .slice t2.a t2.n t2.c]) w K :=
  s_app (bytes := 8) Try.underlying68 inf_3 (z := (Value.int .i64 0)) (by kernel_rfl) (by kernel_rfl) (by kernel_rfl) (by kernel_rfl) I hr hs hb h
theorem pu_bld_71_0 (a0a : Option Addr) (a0n a0c : Nat) : Pu Try.prog (xV (Instr.build 71 #[(0, (Value.slice a0a a0n a0c))])) (.agg #[(Value.slice a0a a0n a0c), (Value.slice none 0 0)]) := Pu.ok fun w => by kernel_rfl
theorem pu_fa_71_1 {g o : Nat} : Pu Try.prog (xV (Instr.fieldAt 71 (.pointer (some ⟨g, o, none⟩)) 1)) (.pointer (some ⟨g, o + 1, none⟩)) := Pu.ok fun w => by kernel_rfl
theorem pu_fa_71_0 {g o : Nat} : Pu Try.prog (xV (Instr.fieldAt 71 (.pointer (some ⟨g, o, none⟩)) 0)) (.pointer (some ⟨g, o + 0, none⟩)) := Pu.ok fun w => by kernel_rfl
theorem pu_len_31 (a : Option Addr) (n c : Nat) : Pu Try.prog (xBuiltin .len #[31] 3 [false] [.slice a n c]) (.int .i64 (n : Int)) := pu_len_slice Try.underlying31 a n c
theorem pu_ix_31 {a : Option Addr} {g o : Nat} (ha : a = some ⟨g, o, none⟩) (len cap : Nat) (k : IntKind) (i : Int) (h0 : 0 ≤ i) (h1 : i < len) : Pu Try.prog (xV (Instr.indexAt 31 (.slice a len cap) (.int k i))) (.pointer (some ⟨g, o + i.toNat * 3, none⟩)) := pu_indexAt Try.underlying31 Try.sizeOf74 ha len cap k i h0 h1
theorem equ_74 (d : Nat) (a0 b0 : Bool) (a1 b1 : Int) (a2 b2 : Bool) (w : World) : (Op.equalIn (d + 2) 74 (.agg #[(Value.bool a0), (Value.int .i64 a1), (Value.bool a2)]) (.agg #[(Value.bool b0), (Value.int .i64 b1), (Value.bool b2)])).run Try.prog w = .ok (decide (a0 = b0 ∧ a1 = b1 ∧ a2 = b2)) w := by
  have u4 := Try.underlying4
  have i4 := Try.isAgg4
  have s4 := Try.sizeOf4
  have u2 := Try.underlying2
  have i2 := Try.isAgg2
  have s2 := Try.sizeOf2
  have hS : Try.prog.underlying 74 = some (.struct (Try.prog.fieldsOf 74)) := by kernel_rfl
  rw [run_equalIn_agg w (d + 1) 74 _ _ hS (by kernel_rfl)]
  simp only [Program.fieldsOf, Try.underlying74]
  go_simp
  try simp only [bytes_tl]
  by_cases h0 : a0 = b0
  · by_cases h1 : a1 = b1
    · by_cases h2 : a2 = b2
      · simp [h0, h1, h2]
      · simp [h0, h1, h2]
    · simp [h0, h1]
  · simp [h0]
theorem pu_eq_74 (x y : Operand) (a0 b0 : Bool) (a1 b1 : Int) (a2 b2 : Bool) : Pu Try.prog (xBin .eql 74 x y (.agg #[(Value.bool a0), (Value.int .i64 a1), (Value.bool a2)]) (.agg #[(Value.bool b0), (Value.int .i64 b1), (Value.bool b2)])) (.bool (decide (a0 = b0 ∧ a1 = b1 ∧ a2 = b2))) := by
  refine Pu.ok (s := do eqGuard .eql 74 x y (.agg #[(Value.bool a0), (Value.int .i64 a1), (Value.bool a2)]) (.agg #[(Value.bool b0), (Value.int .i64 b1), (Value.bool b2)]); binOp .eql 74 (.agg #[(Value.bool a0), (Value.int .i64 a1), (Value.bool a2)]) (.agg #[(Value.bool b0), (Value.int .i64 b1), (Value.bool b2)])) fun w => ?_
  rw [Sem.run_bind, run_eqGuard_agg w _ _ _ _ _ _ (by kernel_rfl), Result.andThen_ok, run_eql_struct, show (10000 : Nat) = 9998 + 2 from rfl, equ_74]
  rfl
theorem pu_ne_74 (x y : Operand) (a0 b0 : Bool) (a1 b1 : Int) (a2 b2 : Bool) : Pu Try.prog (xBin .neq 74 x y (.agg #[(Value.bool a0), (Value.int .i64 a1), (Value.bool a2)]) (.agg #[(Value.bool b0), (Value.int .i64 b1), (Value.bool b2)])) (.bool (!decide (a0 = b0 ∧ a1 = b1 ∧ a2 = b2))) := by
  refine Pu.ok (s := do eqGuard .neq 74 x y (.agg #[(Value.bool a0), (Value.int .i64 a1), (Value.bool a2)]) (.agg #[(Value.bool b0), (Value.int .i64 b1), (Value.bool b2)]); binOp .neq 74 (.agg #[(Value.bool a0), (Value.int .i64 a1), (Value.bool a2)]) (.agg #[(Value.bool b0), (Value.int .i64 b1), (Value.bool b2)])) fun w => ?_
  rw [Sem.run_bind, run_eqGuard_agg w _ _ _ _ _ _ (by kernel_rfl), Result.andThen_ok, run_neq_struct, show (10000 : Nat) = 9998 + 2 from rfl, equ_74]
  rfl
theorem equ_50 (d : Nat) (a0 b0 : Int) (a1 b1 : Int) (w : World) : (Op.equalIn (d + 2) 50 (.agg #[(Value.int .i64 a0), (Value.int .i64 a1)]) (.agg #[(Value.int .i64 b0), (Value.int .i64 b1)])).run Try.prog w = .ok (decide (a0 = b0 ∧ a1 = b1)) w := by
  have u3 := Try.underlying3
  have i3 := Try.isAgg3
  have s3 := Try.sizeOf3
  have u2 := Try.underlying2
  have i2 := Try.isAgg2
  have s2 := Try.sizeOf2
  have hS : Try.prog.underlying 50 = some (.struct (Try.prog.fieldsOf 50)) := by kernel_rfl
  rw [run_equalIn_agg w (d + 1) 50 _ _ hS (by kernel_rfl)]
  simp only [Program.fieldsOf, Try.underlying50]
  go_simp
  try simp only [bytes_tl]
  by_cases h0 : a0 = b0
  · by_cases h1 : a1 = b1
    · simp [h0, h1]
    · simp [h0, h1]
  · simp [h0]
theorem pu_eq_50 (x y : Operand) (a0 b0 : Int) (a1 b1 : Int) : Pu Try.prog (xBin .eql 50 x y (.agg #[(Value.int .i64 a0), (Value.int .i64 a1)]) (.agg #[(Value.int .i64 b0), (Value.int .i64 b1)])) (.bool (decide (a0 = b0 ∧ a1 = b1))) := by
  refine Pu.ok (s := do eqGuard .eql 50 x y (.agg #[(Value.int .i64 a0), (Value.int .i64 a1)]) (.agg #[(Value.int .i64 b0), (Value.int .i64 b1)]); binOp .eql 50 (.agg #[(Value.int .i64 a0), (Value.int .i64 a1)]) (.agg #[(Value.int .i64 b0), (Value.int .i64 b1)])) fun w => ?_
  rw [Sem.run_bind, run_eqGuard_agg w _ _ _ _ _ _ (by kernel_rfl), Result.andThen_ok, run_eql_struct, show (10000 : Nat) = 9998 + 2 from rfl, equ_50]
  rfl
theorem pu_ne_50 (x y : Operand) (a0 b0 : Int) (a1 b1 : Int) : Pu Try.prog (xBin .neq 50 x y (.agg #[(Value.int .i64 a0), (Value.int .i64 a1)]) (.agg #[(Value.int .i64 b0), (Value.int .i64 b1)])) (.bool (!decide (a0 = b0 ∧ a1 = b1))) := by
  refine Pu.ok (s := do eqGuard .neq 50 x y (.agg #[(Value.int .i64 a0), (Value.int .i64 a1)]) (.agg #[(Value.int .i64 b0), (Value.int .i64 b1)]); binOp .neq 50 (.agg #[(Value.int .i64 a0), (Value.int .i64 a1)]) (.agg #[(Value.int .i64 b0), (Value.int .i64 b1)])) fun w => ?_
  rw [Sem.run_bind, run_eqGuard_agg w _ _ _ _ _ _ (by kernel_rfl), Result.andThen_ok, run_neq_struct, show (10000 : Nat) = 9998 + 2 from rfl, equ_50]
  rfl
theorem equ_52 (d : Nat) (a0 b0 : Int) (a1 b1 : Int) (a2 b2 : Int) (a3 b3 : Int) (a4 b4 : Int) (a5 b5 : Int) (a6 b6 : Int) (a7 b7 : Int) (a8 b8 : Int) (a9 b9 : Int) (w : World) : (Op.equalIn (d + 3) 52 (.agg #[(Value.int .i64 a0), (Value.int .i64 a1), (Value.int .i64 a2), (Value.int .i64 a3), (Value.int .i64 a4), (Value.int .i64 a5), (Value.int .i64 a6), (Value.int .i64 a7), (Value.int .i64 a8), (Value.int .i64 a9)]) (.agg #[(Value.int .i64 b0), (Value.int .i64 b1), (Value.int .i64 b2), (Value.int .i64 b3), (Value.int .i64 b4), (Value.int .i64 b5), (Value.int .i64 b6), (Value.int .i64 b7), (Value.int .i64 b8), (Value.int .i64 b9)])).run Try.prog w = .ok (decide (a0 = b0 ∧ a1 = b1 ∧ a2 = b2 ∧ a3 = b3 ∧ a4 = b4 ∧ a5 = b5 ∧ a6 = b6 ∧ a7 = b7 ∧ a8 = b8 ∧ a9 = b9)) w := by
  have u3 := Try.underlying3
  have i3 := Try.isAgg3
  have s3 := Try.sizeOf3
  have u2 := Try.underlying2
  have i2 := Try.isAgg2
  have s2 := Try.sizeOf2
  have e50 := equ_50 d
  have i50 := Try.isAgg50
  have s50 := Try.sizeOf50
  have e50 := equ_50 d
  have i50 := Try.isAgg50
  have s50 := Try.sizeOf50
  have hS : Try.prog.underlying 52 = some (.struct (Try.prog.fieldsOf 52)) := by kernel_rfl
  rw [run_equalIn_agg w (d + 2) 52 _ _ hS (by kernel_rfl)]
  simp only [Program.fieldsOf, Try.underlying52]
  go_simp
  try simp only [bytes_tl]
  by_cases h0 : a0 = b0
  · by_cases h1 : a1 = b1
    · by_cases h2 : a2 = b2
      · by_cases h3 : a3 = b3
        · by_cases h4 : a4 = b4
          · by_cases h5 : a5 = b5
            · by_cases h6 : a6 = b6
              · by_cases h7 : a7 = b7
                · by_cases h8 : a8 = b8
                  · by_cases h9 : a9 = b9
                    · simp [h0, h1, h2, h3, h4, h5, h6, h7, h8, h9]
                    · simp [h0, h1, h2, h3, h4, h5, h6, h7, h8, h9]
                  · simp [h0, h1, h2, h3, h4, h5, h6, h7, h8]
                · simp [h0, h1, h2, h3, h4, h5, h6, h7]
              · simp [h0, h1, h2, h3, h4, h5, h6]
            · simp [h0, h1, h2, h3, h4, h5]
          · simp [h0, h1, h2, h3, h4]
        · simp [h0, h1, h2, h3]
      · simp [h0, h1, h2]
    · simp [h0, h1]
  · simp [h0]
theorem pu_eq_52 (x y : Operand) (a0 b0 : Int) (a1 b1 : Int) (a2 b2 : Int) (a3 b3 : Int) (a4 b4 : Int) (a5 b5 : Int) (a6 b6 : Int) (a7 b7 : Int) (a8 b8 : Int) (a9 b9 : Int) : Pu Try.prog (xBin .eql 52 x y (.agg #[(Value.int .i64 a0), (Value.int .i64 a1), (Value.int .i64 a2), (Value.int .i64 a3), (Value.int .i64 a4), (Value.int .i64 a5), (Value.int .i64 a6), (Value.int .i64 a7), (Value.int .i64 a8), (Value.int .i64 a9)]) (.agg #[(Value.int .i64 b0), (Value.int .i64 b1), (Value.int .i64 b2), (Value.int .i64 b3), (Value.int .i64 b4), (Value.int .i64 b5), (Value.int .i64 b6), (Value.int .i64 b7), (Value.int .i64 b8), (Value.int .i64 b9)])) (.bool (decide (a0 = b0 ∧ a1 = b1 ∧ a2 = b2 ∧ a3 = b3 ∧ a4 = b4 ∧ a5 = b5 ∧ a6 = b6 ∧ a7 = b7 ∧ a8 = b8 ∧ a9 = b9))) := by
  refine Pu.ok (s := do eqGuard .eql 52 x y (.agg #[(Value.int .i64 a0), (Value.int .i64 a1), (Value.int .i64 a2), (Value.int .i64 a3), (Value.int .i64 a4), (Value.int .i64 a5), (Value.int .i64 a6), (Value.int .i64 a7), (Value.int .i64 a8), (Value.int .i64 a9)]) (.agg #[(Value.int .i64 b0), (Value.int .i64 b1), (Value.int .i64 b2), (Value.int .i64 b3), (Value.int .i64 b4), (Value.int .i64 b5), (Value.int .i64 b6), (Value.int .i64 b7), (Value.int .i64 b8), (Value.int .i64 b9)]); binOp .eql 52 (.agg #[(Value.int .i64 a0), (Value.int .i64 a1), (Value.int .i64 a2), (Value.int .i64 a3), (Value.int .i64 a4), (Value.int .i64 a5), (Value.int .i64 a6), (Value.int .i64 a7), (Value.int .i64 a8), (Value.int .i64 a9)]) (.agg #[(Value.int .i64 b0), (Value.int .i64 b1), (Value.int .i64 b2), (Value.int .i64 b3), (Value.int .i64 b4), (Value.int .i64 b5), (Value.int .i64 b6), (Value.int .i64 b7), (Value.int .i64 b8), (Value.int .i64 b9)])) fun w => ?_
  rw [Sem.run_bind, run_eqGuard_agg w _ _ _ _ _ _ (by kernel_rfl), Result.andThen_ok, run_eql_struct, show (10000 : Nat) = 9997 + 3 from rfl, equ_52]
  rfl
theorem pu_ne_52 (x y : Operand) (a0 b0 : Int) (a1 b1 : Int) (a2 b2 : Int) (a3 b3 : Int) (a4 b4 : Int) (a5 b5 : Int) (a6 b6 : Int) (a7 b7 : Int) (a8 b8 : Int) (a9 b9 : Int) : Pu Try.prog (xBin .neq 52 x y (.agg #[(Value.int .i64 a0), (Value.int .i64 a1), (Value.int .i64 a2), (Value.int .i64 a3), (Value.int .i64 a4), (Value.int .i64 a5), (Value.int .i64 a6), (Value.int .i64 a7), (Value.int .i64 a8), (Value.int .i64 a9)]) (.agg #[(Value.int .i64 b0), (Value.int .i64 b1), (Value.int .i64 b2), (Value.int .i64 b3), (Value.int .i64 b4), (Value.int .i64 b5), (Value.int .i64 b6), (Value.int .i64 b7), (Value.int .i64 b8), (Value.int .i64 b9)])) (.bool (!decide (a0 = b0 ∧ a1 = b1 ∧ a2 = b2 ∧ a3 = b3 ∧ a4 = b4 ∧ a5 = b5 ∧ a6 = b6 ∧ a7 = b7 ∧ a8 = b8 ∧ a9 = b9))) := by
  refine Pu.ok (s := do eqGuard .neq 52 x y (.agg #[(Value.int .i64 a0), (Value.int .i64 a1), (Value.int .i64 a2), (Value.int .i64 a3), (Value.int .i64 a4), (Value.int .i64 a5), (Value.int .i64 a6), (Value.int .i64 a7), (Value.int .i64 a8), (Value.int .i64 a9)]) (.agg #[(Value.int .i64 b0), (Value.int .i64 b1), (Value.int .i64 b2), (Value.int .i64 b3), (Value.int .i64 b4), (Value.int .i64 b5), (Value.int .i64 b6), (Value.int .i64 b7), (Value.int .i64 b8), (Value.int .i64 b9)]); binOp .neq 52 (.agg #[(Value.int .i64 a0), (Value.int .i64 a1), (Value.int .i64 a2), (Value.int .i64 a3), (Value.int .i64 a4), (Value.int .i64 a5), (Value.int .i64 a6), (Value.int .i64 a7), (Value.int .i64 a8), (Value.int .i64 a9)]) (.agg #[(Value.int .i64 b0), (Value.int .i64 b1), (Value.int .i64 b2), (Value.int .i64 b3), (Value.int .i64 b4), (Value.int .i64 b5), (Value.int .i64 b6), (Value.int .i64 b7), (Value.int .i64 b8), (Value.int .i64 b9)])) fun w => ?_
  rw [Sem.run_bind, run_eqGuard_agg w _ _ _ _ _ _ (by kernel_rfl), Result.andThen_ok, run_neq_struct, show (10000 : Nat) = 9997 + 3 from rfl, equ_52]
  rfl
theorem bs_27_1 (a0 : Int) (w : World) : (Instr.buildSlice 27 1 #[(0, (Value.int .i64 a0))]).run Try.prog w = .ok (.slice (some ⟨w.heap.size, 0, none⟩) 1 1) (w.alloc (.cells [(Value.int .i64 a0)].toArray 2)) := by kernel_rfl
theorem pu_bld_58_0_1_2_3_5 (a0_0a : Option Addr) (a0_0n a0_0c : Nat) (a0_1 : Int) (a0_2a : Option Addr) (a0_2n a0_2c : Nat) (a0_3 : Int) (a0_4 : Int) (a0_5a : Option Addr) (a0_5n a0_5c : Nat) (a1a : Option Addr) (a1n a1c : Nat) (a2 : Int) (a3a : Option Addr) (a3n a3c : Nat) (a5a : Option Addr) (a5n a5c : Nat) : Pu Try.prog (xV (Instr.build 58 #[(0, (Value.agg #[(Value.slice a0_0a a0_0n a0_0c), (Value.int .i64 a0_1), (Value.slice a0_2a a0_2n a0_2c), (Value.int .i64 a0_3), (Value.int .i64 a0_4), (Value.slice a0_5a a0_5n a0_5c)])), (1, (Value.slice a1a a1n a1c)), (2, (Value.int .i64 a2)), (3, (Value.slice a3a a3n a3c)), (5, (Value.slice a5a a5n a5c))])) (.agg #[(Value.slice a0_0a a0_0n a0_0c), (Value.int .i64 a0_1), (Value.slice a0_2a a0_2n a0_2c), (Value.int .i64 a0_3), (Value.int .i64 a0_4), (Value.slice a0_5a a0_5n a0_5c), (Value.slice a1a a1n a1c), (Value.int .i64 a2), (Value.slice a3a a3n a3c), (Value.slice none 0 0), (Value.slice a5a a5n a5c), (Value.slice none 0 0)]) := Pu.ok fun w => by kernel_rfl
theorem pu_ixf_63__40_Value_func_func_30_Value_func_func_41_Value_func_func_42 (k : IntKind) (i : Int) (h0 : 0 ≤ i) (h1 : i < 15) : Pu Try.prog (xV (Instr.index 63 (.agg #[Value.nilFunc, (Value.func (.func 30) #[] #[]), (Value.func (.func 31) #[] #[]), (Value.func (.func 32) #[] #[]), (Value.func (.func 33) #[] #[]), (Value.func (.func 34) #[] #[]), (Value.func (.func 35) #[] #[]), (Value.func (.func 36) #[] #[]), (Value.func (.func 37) #[] #[]), (Value.func (.func 38) #[] #[]), (Value.func (.func 39) #[] #[]), (Value.func (.func 40) #[] #[]), (Value.func (.func 30) #[] #[]), (Value.func (.func 41) #[] #[]), (Value.func (.func 42) #[] #[])]) (.int k i))) (([Value.nilFunc, (Value.func (.func 30) #[] #[]), (Value.func (.func 31) #[] #[]), (Value.func (.func 32) #[] #[]), (Value.func (.func 33) #[] #[]), (Value.func (.func 34) #[] #[]), (Value.func (.func 35) #[] #[]), (Value.func (.func 36) #[] #[]), (Value.func (.func 37) #[] #[]), (Value.func (.func 38) #[] #[]), (Value.func (.func 39) #[] #[]), (Value.func (.func 40) #[] #[]), (Value.func (.func 30) #[] #[]), (Value.func (.func 41) #[] #[]), (Value.func (.func 42) #[] #[])] : List Value).getD i.toNat undef) := by
  obtain rfl | rfl | rfl | rfl | rfl | rfl | rfl | rfl | rfl | rfl | rfl | rfl | rfl | rfl | rfl := (by omega : i = 0 ∨ i = 1 ∨ i = 2 ∨ i = 3 ∨ i = 4 ∨ i = 5 ∨ i = 6 ∨ i = 7 ∨ i = 8 ∨ i = 9 ∨ i = 10 ∨ i = 11 ∨ i = 12 ∨ i = 13 ∨ i = 14)
  · exact Pu.ok fun w => by kernel_rfl
  · exact Pu.ok fun w => by kernel_rfl
  · exact Pu.ok fun w => by kernel_rfl
  · exact Pu.ok fun w => by kernel_rfl
  · exact Pu.ok fun w => by kernel_rfl
  · exact Pu.ok fun w => by kernel_rfl
  · exact Pu.ok fun w => by kernel_rfl
  · exact Pu.ok fun w => by kernel_rfl
  · exact Pu.ok fun w => by kernel_rfl
  · exact Pu.ok fun w => by kernel_rfl
  · exact Pu.ok fun w => by kernel_rfl
  · exact Pu.ok fun w => by kernel_rfl
  · exact Pu.ok fun w => by kernel_rfl
  · exact Pu.ok fun w => by kernel_rfl
  · exact Pu.ok fun w => by kernel_rfl
theorem pu_bld_81_0 (a0_0a : Option Addr) (a0_0n a0_0c : Nat) (a0_1 : Int) (a0_2a : Option Addr) (a0_2n a0_2c : Nat) (a0_3 : Int) (a0_4 : Int) (a0_5a : Option Addr) (a0_5n a0_5c : Nat) : Pu Try.prog (xV (Instr.build 81 #[(0, (Value.agg #[(Value.slice a0_0a a0_0n a0_0c), (Value.int .i64 a0_1), (Value.slice a0_2a a0_2n a0_2c), (Value.int .i64 a0_3), (Value.int .i64 a0_4), (Value.slice a0_5a a0_5n a0_5c)]))])) (.agg #[(Value.slice a0_0a a0_0n a0_0c), (Value.int .i64 a0_1), (Value.slice a0_2a a0_2n a0_2c), (Value.int .i64 a0_3), (Value.int .i64 a0_4), (Value.slice a0_5a a0_5n a0_5c)]) := Pu.ok fun w => by kernel_rfl
theorem inf_24 : Try.prog.info? 24 = some ((Try.prog.info? 24).getD default) := by kernel_rfl
theorem mks_83 {E : Pan} {w0 w : World} {ps : Nat → Prop} {H0 H : Hp} {Fs : List Frag} {K : Value → World → Prop} {kl kc : IntKind} {n : Int} (I : Inv w0 ps H0 H Fs w) (hn : 0 ≤ n) (hb : n * 25 ≤ 140737488355328) (h : ∀ (s' : Sl) (F' : Frag) (w' : World), RowL 24 1 csl s' (List.replicate n.toNat (Sl.mk none 0 0)) F' → Inv w0 ps H0 H (F' :: Fs) w' → (∀ k, k < w.heap.size → w'.heap[k]? = w.heap[k]?) → K (.slice s'.a s'.n s'.c) w') : opK Try.prog E (xV (Instr.makeSlice 83 (.int kl n) (.int kc n))) w K :=
  s_make (bytes := 24) (x0 := (Sl.mk none 0 0)) Try.underlying83 inf_24 (z := (Value.slice none 0 0)) (by kernel_rfl) (by kernel_rfl) (by kernel_rfl) (by kernel_rfl) I csl_l csl_o (by decide) kl kc n hn hb h
theorem pu_ix_83 {a : Option Addr} {g o : Nat} (ha : a = some ⟨g, o, none⟩) (len cap : Nat) (k : IntKind) (i : Int) (h0 : 0 ≤ i) (h1 : i < len) : Pu Try.prog (xV (Instr.indexAt 83 (.slice a len cap) (.int k i))) (.pointer (some ⟨g, o + i.toNat * 1, none⟩)) := pu_indexAt Try.underlying83 Try.sizeOf24 ha len cap k i h0 h1
theorem pu_ix_22 {a : Option Addr} {g o : Nat} (ha : a = some ⟨g, o, none⟩) (len cap : Nat) (k : IntKind) (i : Int) (h0 : 0 ≤ i) (h1 : i < len) : Pu Try.prog (xV (Instr.indexAt 22 (.slice a len cap) (.int k i))) (.pointer (some ⟨g, o + i.toNat * 1, none⟩)) := pu_indexAt Try.underlying22 Try.sizeOf9 ha len cap k i h0 h1
theorem equ_60 (d : Nat) (a0 b0 : ByteArray) (a1 b1 : Int) (w : World) : (Op.equalIn (d + 2) 60 (.agg #[(Value.string a0), (Value.int .i64 a1)]) (.agg #[(Value.string b0), (Value.int .i64 b1)])).run Try.prog w = .ok (decide (a0 = b0 ∧ a1 = b1)) w := by
  have u9 := Try.underlying9
  have i9 := Try.isAgg9
  have s9 := Try.sizeOf9
  have u3 := Try.underlying3
  have i3 := Try.isAgg3
  have s3 := Try.sizeOf3
  have hS : Try.prog.underlying 60 = some (.struct (Try.prog.fieldsOf 60)) := by kernel_rfl
  rw [run_equalIn_agg w (d + 1) 60 _ _ hS (by kernel_rfl)]
  simp only [Program.fieldsOf, Try.underlying60]
  go_simp
  try simp only [bytes_tl]
  by_cases h0 : a0 = b0
  · by_cases h1 : a1 = b1
    · simp [h0, h1]
    · simp [h0, h1]
  · simp [h0]
theorem pu_eq_60 (x y : Operand) (a0 b0 : ByteArray) (a1 b1 : Int) : Pu Try.prog (xBin .eql 60 x y (.agg #[(Value.string a0), (Value.int .i64 a1)]) (.agg #[(Value.string b0), (Value.int .i64 b1)])) (.bool (decide (a0 = b0 ∧ a1 = b1))) := by
  refine Pu.ok (s := do eqGuard .eql 60 x y (.agg #[(Value.string a0), (Value.int .i64 a1)]) (.agg #[(Value.string b0), (Value.int .i64 b1)]); binOp .eql 60 (.agg #[(Value.string a0), (Value.int .i64 a1)]) (.agg #[(Value.string b0), (Value.int .i64 b1)])) fun w => ?_
  rw [Sem.run_bind, run_eqGuard_agg w _ _ _ _ _ _ (by kernel_rfl), Result.andThen_ok, run_eql_struct, show (10000 : Nat) = 9998 + 2 from rfl, equ_60]
  rfl
theorem pu_ne_60 (x y : Operand) (a0 b0 : ByteArray) (a1 b1 : Int) : Pu Try.prog (xBin .neq 60 x y (.agg #[(Value.string a0), (Value.int .i64 a1)]) (.agg #[(Value.string b0), (Value.int .i64 b1)])) (.bool (!decide (a0 = b0 ∧ a1 = b1))) := by
  refine Pu.ok (s := do eqGuard .neq 60 x y (.agg #[(Value.string a0), (Value.int .i64 a1)]) (.agg #[(Value.string b0), (Value.int .i64 b1)]); binOp .neq 60 (.agg #[(Value.string a0), (Value.int .i64 a1)]) (.agg #[(Value.string b0), (Value.int .i64 b1)])) fun w => ?_
  rw [Sem.run_bind, run_eqGuard_agg w _ _ _ _ _ _ (by kernel_rfl), Result.andThen_ok, run_neq_struct, show (10000 : Nat) = 9998 + 2 from rfl, equ_60]
  rfl
theorem pu_fa_81_0 {g o : Nat} : Pu Try.prog (xV (Instr.fieldAt 81 (.pointer (some ⟨g, o, none⟩)) 0)) (.pointer (some ⟨g, o + 0, none⟩)) := Pu.ok fun w => by kernel_rfl
theorem pu_fa_95_0 {g o : Nat} : Pu Try.prog (xV (Instr.fieldAt 95 (.pointer (some ⟨g, o, none⟩)) 0)) (.pointer (some ⟨g, o + 0, none⟩)) := Pu.ok fun w => by kernel_rfl
theorem pu_fa_95_1 {g o : Nat} : Pu Try.prog (xV (Instr.fieldAt 95 (.pointer (some ⟨g, o, none⟩)) 1)) (.pointer (some ⟨g, o + 1, none⟩)) := Pu.ok fun w => by kernel_rfl
theorem pu_fa_95_2 {g o : Nat} : Pu Try.prog (xV (Instr.fieldAt 95 (.pointer (some ⟨g, o, none⟩)) 2)) (.pointer (some ⟨g, o + 2, none⟩)) := Pu.ok fun w => by kernel_rfl
theorem pu_fa_95_3 {g o : Nat} : Pu Try.prog (xV (Instr.fieldAt 95 (.pointer (some ⟨g, o, none⟩)) 3)) (.pointer (some ⟨g, o + 3, none⟩)) := Pu.ok fun w => by kernel_rfl
theorem pu_fa_95_4 {g o : Nat} : Pu Try.prog (xV (Instr.fieldAt 95 (.pointer (some ⟨g, o, none⟩)) 4)) (.pointer (some ⟨g, o + 4, none⟩)) := Pu.ok fun w => by kernel_rfl
theorem pu_blf_107_79_80_81_82_83_84_85 : Pu Try.prog (xV (Instr.build 107 #[(0, (Value.func (.func 79) #[] #[])), (1, (Value.func (.func 80) #[] #[])), (2, (Value.func (.func 81) #[] #[])), (3, (Value.func (.func 82) #[] #[])), (4, (Value.func (.func 83) #[] #[])), (5, (Value.func (.func 84) #[] #[])), (6, (Value.func (.func 85) #[] #[]))])) (.agg #[(Value.func (.func 79) #[] #[]), (Value.func (.func 80) #[] #[]), (Value.func (.func 81) #[] #[]), (Value.func (.func 82) #[] #[]), (Value.func (.func 83) #[] #[]), (Value.func (.func 84) #[] #[]), (Value.func (.func 85) #[] #[])]) := Pu.ok fun w => by kernel_rfl
theorem pu_ixf_107__82_Value_func_func_83_Value_func_func_84_Value_func_func_85 (k : IntKind) (i : Int) (h0 : 0 ≤ i) (h1 : i < 7) : Pu Try.prog (xV (Instr.index 107 (.agg #[(Value.func (.func 79) #[] #[]), (Value.func (.func 80) #[] #[]), (Value.func (.func 81) #[] #[]), (Value.func (.func 82) #[] #[]), (Value.func (.func 83) #[] #[]), (Value.func (.func 84) #[] #[]), (Value.func (.func 85) #[] #[])]) (.int k i))) (([(Value.func (.func 79) #[] #[]), (Value.func (.func 80) #[] #[]), (Value.func (.func 81) #[] #[]), (Value.func (.func 82) #[] #[]), (Value.func (.func 83) #[] #[]), (Value.func (.func 84) #[] #[]), (Value.func (.func 85) #[] #[])] : List Value).getD i.toNat undef) := by
  obtain rfl | rfl | rfl | rfl | rfl | rfl | rfl := (by omega : i = 0 ∨ i = 1 ∨ i = 2 ∨ i = 3 ∨ i = 4 ∨ i = 5 ∨ i = 6)
  · exact Pu.ok fun w => by kernel_rfl
  · exact Pu.ok fun w => by kernel_rfl
  · exact Pu.ok fun w => by kernel_rfl
  · exact Pu.ok fun w => by kernel_rfl
  · exact Pu.ok fun w => by kernel_rfl
  · exact Pu.ok fun w => by kernel_rfl
  · exact Pu.ok fun w => by kernel_rfl
theorem pu_bld_95_3 (a3 : Bool) : Pu Try.prog (xV (Instr.build 95 #[(3, (Value.bool a3))])) (.agg #[(Value.bool false), (Value.bool false), (Value.bool false), (Value.bool a3), (Value.bool false)]) := Pu.ok fun w => by kernel_rfl
theorem pu_bld_95_0 (a0 : Bool) : Pu Try.prog (xV (Instr.build 95 #[(0, (Value.bool a0))])) (.agg #[(Value.bool a0), (Value.bool false), (Value.bool false), (Value.bool false), (Value.bool false)]) := Pu.ok fun w => by kernel_rfl
theorem pu_bld_95  : Pu Try.prog (xV (Instr.build 95 #[])) (.agg #[(Value.bool false), (Value.bool false), (Value.bool false), (Value.bool false), (Value.bool false)]) := Pu.ok fun w => by kernel_rfl
theorem pu_bla_110_0_1_2_3_4_5_6 (a0 a1 a2 a3 a4 a5 a6 : Int) : Pu Try.prog (xV (Instr.build 110 #[(0, .int .i64 a0), (1, .int .i64 a1), (2, .int .i64 a2), (3, .int .i64 a3), (4, .int .i64 a4), (5, .int .i64 a5), (6, .int .i64 a6)])) (.agg #[.int .i64 a0, .int .i64 a1, .int .i64 a2, .int .i64 a3, .int .i64 a4, .int .i64 a5, .int .i64 a6]) := Pu.ok fun w => by kernel_rfl
theorem pu_ixa_110 (a0 a1 a2 a3 a4 a5 a6 : Int) (k : IntKind) (i : Int) (h0 : 0 ≤ i) (h1 : i < 7) : Pu Try.prog (xV (Instr.index 110 (.agg #[.int .i64 a0, .int .i64 a1, .int .i64 a2, .int .i64 a3, .int .i64 a4, .int .i64 a5, .int .i64 a6]) (.int k i))) (.int .i64 (([a0, a1, a2, a3, a4, a5, a6] : List Int).getD i.toNat 0)) := by
  obtain rfl | rfl | rfl | rfl | rfl | rfl | rfl := (by omega : i = 0 ∨ i = 1 ∨ i = 2 ∨ i = 3 ∨ i = 4 ∨ i = 5 ∨ i = 6)
  · exact Pu.ok fun w => by kernel_rfl
  · exact Pu.ok fun w => by kernel_rfl
  · exact Pu.ok fun w => by kernel_rfl
  · exact Pu.ok fun w => by kernel_rfl
  · exact Pu.ok fun w => by kernel_rfl
  · exact Pu.ok fun w => by kernel_rfl
  · exact Pu.ok fun w => by kernel_rfl
theorem pu_eqb_4 (x y : Operand) (a b : Bool) : Pu Try.prog (xBin .eql 4 x y (.bool a) (.bool b)) (.bool (a == b)) := pu_eqB _ _ _ a b Try.underlying4
theorem pu_neb_4 (x y : Operand) (a b : Bool) : Pu Try.prog (xBin .neq 4 x y (.bool a) (.bool b)) (.bool (a != b)) := pu_neB _ _ _ a b Try.underlying4
theorem pu_cv_2_111 (k : IntKind) (n : Int) : Pu Try.prog (xV (convert 2 111 (.int k n))) (.int .u64 (IntKind.wrap .u64 n)) := Pu.ok fun w => run_convert_int (P := Try.prog) (w := w) 2 111 k n (by rw [Try.underlying2]; rfl) Try.underlying111
abbrev cs_api_Cfg (x : Tapi_Cfg) : List Value := [(Value.slice x.fVars.a x.fVars.n x.fVars.c), (Value.int .i64 x.fTemps), (Value.slice x.fArrays.a x.fArrays.n x.fArrays.c), (Value.int .i64 x.fPoints), (Value.int .i64 x.fExit), (Value.slice x.fEdges.a x.fEdges.n x.fEdges.c)]
theorem cs_api_Cfg_l (x : Tapi_Cfg) : (cs_api_Cfg x).length = 6 := rfl
theorem cs_api_Cfg_o (x : Tapi_Cfg) : (cs_api_Cfg x).all (·.oneCell') = true := rfl
abbrev cs_api_Outcome (x : Tapi_Outcome) : List Value := [(Value.int .i64 x.fStatus), (Value.int .i64 x.fWrong), (Value.int .i64 x.fSteps), (Value.slice x.fEvents.a x.fEvents.n x.fEvents.c), (Value.slice x.fVars.a x.fVars.n x.fVars.c), (Value.slice x.fArrays.a x.fArrays.n x.fArrays.c)]
theorem cs_api_Outcome_l (x : Tapi_Outcome) : (cs_api_Outcome x).length = 6 := rfl
theorem cs_api_Outcome_o (x : Tapi_Outcome) : (cs_api_Outcome x).all (·.oneCell') = true := rfl
abbrev cs_api_Operand (x : Tapi_Operand) : List Value := [(Value.int .i64 x.fVar), (Value.int .i64 x.fNum)]
theorem cs_api_Operand_l (x : Tapi_Operand) : (cs_api_Operand x).length = 2 := rfl
theorem cs_api_Operand_o (x : Tapi_Operand) : (cs_api_Operand x).all (·.oneCell') = true := rfl
abbrev cs_step_state (x : Tstep_state) : List Value := [(Value.slice x.fc.fVars.a x.fc.fVars.n x.fc.fVars.c), (Value.int .i64 x.fc.fTemps), (Value.slice x.fc.fArrays.a x.fc.fArrays.n x.fc.fArrays.c), (Value.int .i64 x.fc.fPoints), (Value.int .i64 x.fc.fExit), (Value.slice x.fc.fEdges.a x.fc.fEdges.n x.fc.fEdges.c), (Value.slice x.ffrom.a x.ffrom.n x.ffrom.c), (Value.int .i64 x.fpoint), (Value.slice x.fvars.a x.fvars.n x.fvars.c), (Value.slice x.farrays.a x.farrays.n x.farrays.c), (Value.slice x.fscript.a x.fscript.n x.fscript.c), (Value.slice x.fevents.a x.fevents.n x.fevents.c)]
theorem cs_step_state_l (x : Tstep_state) : (cs_step_state x).length = 12 := rfl
theorem cs_step_state_o (x : Tstep_state) : (cs_step_state x).all (·.oneCell') = true := rfl
abbrev cs_gnomonref10_state (x : Tgnomonref10_state) : List Value := [(Value.slice x.fvars.a x.fvars.n x.fvars.c), (Value.slice x.farrays.a x.farrays.n x.farrays.c)]
theorem cs_gnomonref10_state_l (x : Tgnomonref10_state) : (cs_gnomonref10_state x).length = 2 := rfl
theorem cs_gnomonref10_state_o (x : Tgnomonref10_state) : (cs_gnomonref10_state x).all (·.oneCell') = true := rfl
abbrev cs_cfg_graph (x : Tcfg_graph) : List Value := [(Value.slice x.fCfg.fVars.a x.fCfg.fVars.n x.fCfg.fVars.c), (Value.int .i64 x.fCfg.fTemps), (Value.slice x.fCfg.fArrays.a x.fCfg.fArrays.n x.fCfg.fArrays.c), (Value.int .i64 x.fCfg.fPoints), (Value.int .i64 x.fCfg.fExit), (Value.slice x.fCfg.fEdges.a x.fCfg.fEdges.n x.fCfg.fEdges.c)]
theorem cs_cfg_graph_l (x : Tcfg_graph) : (cs_cfg_graph x).length = 6 := rfl
theorem cs_cfg_graph_o (x : Tcfg_graph) : (cs_cfg_graph x).all (·.oneCell') = true := rfl
abbrev cs_cfg_wants (x : Tcfg_wants) : List Value := [(Value.bool x.fdst), (Value.bool x.farr), (Value.bool x.fop), (Value.bool x.fa), (Value.bool x.fb)]
theorem cs_cfg_wants_l (x : Tcfg_wants) : (cs_cfg_wants x).length = 5 := rfl
theorem cs_cfg_wants_o (x : Tcfg_wants) : (cs_cfg_wants x).all (·.oneCell') = true := rfl
end Go.Proofs.Ytgapepdglhcglaa
