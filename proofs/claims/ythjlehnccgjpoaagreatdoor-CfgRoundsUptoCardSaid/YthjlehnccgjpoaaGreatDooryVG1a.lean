/- Lemmas. -/
import Derived.KernelRfl
import Derived.Test.YthjlehnccgjpoaaGreatDoorProg
import Derived.Laws.StructEq
import Derived.Laws.Cover2
import Derived.Test.YthjlehnccgjpoaaGreatDooryVS5
namespace Go.Proofs.YthjlehnccgjpoaaGreatDoor
open Tryz Go.RowKit
set_option maxRecDepth 100000
set_option maxHeartbeats 2000000
section
abbrev oP (E : Pan) (s : Sem Next) (w : World) (K : Value -> World -> Prop) : Prop := opK Tryz.prog E s w K
abbrev RT := Value -> World -> Prop
abbrev NT := List Value -> World -> Prop
abbrev lA (t : TypeId) (p : Value) : Sem Next := xV (Instr.loadAt t p)
abbrev fA (t : TypeId) (p : Value) (i : Nat) : Sem Next := xV (Instr.fieldAt t p i)
abbrev iA (t : TypeId) (p i : Value) : Sem Next := xV (Instr.indexAt t p i)
abbrev xT (v : Value) (i : Nat) : Sem Next := xV (Instr.extract v i)
abbrev sA (t : TypeId) (p v : Value) : Sem Next := xU (Instr.storeAt t p v)
abbrev vB (b : Bool) : Value := Value.bool b
abbrev gYs (a : Value) (s : Sem Next) : Sem Next := gsem (asB a) true s
abbrev gNo (a : Value) (s : Sem Next) : Sem Next := gsem (asB a) false s
abbrev zT (a x : Value) : Value := gval (asB a) true x
abbrev zF (a x : Value) : Value := gval (asB a) false x
abbrev bN (o : BinOp) (t : TypeId) (i j : Nat) (x y : Value) : Sem Next := xBin o t (.tmp i) (.tmp j) x y
abbrev bC (o : BinOp) (t : TypeId) (i : Nat) (x c : Value) : Sem Next := xBin o t (.tmp i) (.const c) x c
abbrev fC (n : Nat) : Value := Value.func (.func n) #[] #[]
theorem nB {n m : Nat} (h : Nat.ble n m = true) : n <= m := Nat.le_of_ble_eq_true h
abbrev vI (n : Int) : Value := Value.int .i64 n
abbrev nS : Value := Value.slice none 0 0
abbrev eS : Value := Value.string ⟨#[]⟩
noncomputable abbrev pG : Program := Tryz.prog
theorem pLs {P : Program} {t : TypeId} {x y : Operand} {k : IntKind} {a b : Int} : Pu P (xBin .lss t x y (.int k a) (.int k b)) (.bool (decide (a < b))) := D1 _ _ _ _ _ _
theorem pLe {P : Program} {t : TypeId} {x y : Operand} {k : IntKind} {a b : Int} : Pu P (xBin .leq t x y (.int k a) (.int k b)) (.bool (decide (a <= b))) := b9h _ _ _ _ _ _
theorem pGt {P : Program} {t : TypeId} {x y : Operand} {k : IntKind} {a b : Int} : Pu P (xBin .gtr t x y (.int k a) (.int k b)) (.bool (decide (b < a))) := X3 _ _ _ _ _ _
theorem pGe {P : Program} {t : TypeId} {x y : Operand} {k : IntKind} {a b : Int} : Pu P (xBin .geq t x y (.int k a) (.int k b)) (.bool (decide (b <= a))) := a5V _ _ _ _ _ _
theorem pEq {P : Program} {t : TypeId} {x y : Operand} {k : IntKind} {a b : Int} : Pu P (xBin .eql t x y (.int k a) (.int k b)) (.bool (decide (a = b))) := o9 _ _ _ _ _ _
theorem pNe {P : Program} {t : TypeId} {x y : Operand} {k : IntKind} {a b : Int} : Pu P (xBin .neq t x y (.int k a) (.int k b)) (.bool (!decide (a = b))) := O4 _ _ _ _ _ _
theorem pAd {P : Program} {t : TypeId} {x y : Operand} {k : IntKind} {a b : Int} : Pu P (xBin .add t x y (.int k a) (.int k b)) (.int k (k.wrap (a + b))) := A7 _ _ _ _ _ _
theorem pSu {P : Program} {t : TypeId} {x y : Operand} {k : IntKind} {a b : Int} : Pu P (xBin .sub t x y (.int k a) (.int k b)) (.int k (k.wrap (a - b))) := a5j _ _ _ _ _ _
abbrev sQ (h : Hint) : Hint := .seq .none h
abbrev hN : Hint := .none
abbrev hS (a b : Hint) : Hint := .seq a b
abbrev hC (a b : Hint) : Hint := .cond a b
abbrev hU (s : List Nat) (a b : Hint) : Hint := .cut s a b
abbrev hB (a : Hint) : Hint := .block a
abbrev hL (s : List Nat) (a : Hint) : Hint := .loop s a
abbrev oN (E : Pan) (s : Sem Next) (k : Value -> World -> Prop) : World -> Prop := λw => opK Tryz.prog E s w k
abbrev xC (v : Value) (a b : World -> Prop) : World -> Prop := λw => xcond v (a w) (b w)
abbrev xK (K : List Value -> World -> Prop) (b : (List Value -> World -> Prop) -> World -> Prop) : World -> Prop := λw => xcut K λj => b j w
abbrev xL (S : List Nat) (i : List Value) (b : Fr -> World -> (List Value -> World -> Prop) -> Prop) : World -> Prop := λw => xloop S i w b
abbrev dN (b : World -> Prop) : World -> Prop := λw => dX w b
abbrev xE (t : TypeId) (v : Value) (k : Value -> World -> Prop) : World -> Prop := λw => xcell Tryz.prog t v w λr => k r w
theorem okG {f : FuncId} {fn : Func} (h : Hint) {args : List Value} {w : World} {R : RT} {E : Pan} {X : Prop} (hf : pG.funcs[f]? = some fn) (hx : X) (hk : chkF pG fn h args.length = true := by kernel_rfl) (e : X = callX pG fn.results.toList (fn.body.getD .skip) h args w R E := by kernel_rfl) : Cv pG f args.toArray w R E := okF hf hk e hx
abbrev KT (α : Type) := α -> Hp -> Prop
abbrev C1 {τ : Type} (n : FuncId) (a : List Value) (H : Hp) (f : τ -> Value) (K : τ -> Hp -> Prop) : Prop := Ct pG n a H [] (λv H' Fo => ∃ r0 : τ, v = f r0 /\ Fo = [] /\ K r0 H') noQE
abbrev sN : Sl := Sl.mk none 0 0
abbrev wS (s : BA) : Value := Value.string s
abbrev pt (g : Nat) : Value := Value.pointer (some ⟨g, 0, none⟩)
abbrev fQ (t : TypeId) (i d g o : Nat) : Prop := Pu pG (xV (Instr.fieldAt t (.pointer (some ⟨g, o, none⟩)) i)) (.pointer (some ⟨g, o + d, none⟩))
theorem puk {s : Sem Value} {v : Value} (h : ∀ w, s.run pG w = .ok v w := by intro w; kernel_rfl) : Pu pG (xV s) v := Pu.ok h
theorem lE1 {a b : Value} (h : [a] = [b]) : a = b := (List.cons.inj h).1
theorem lE2 {a b c d : Value} (h : [a, b] = [c, d]) : a = c /\ b = d := ⟨(List.cons.inj h).1, lE1 (List.cons.inj h).2⟩
theorem lE3 {a b c d e f : Value} (h : [a, b, c] = [d, e, f]) : a = d /\ b = e /\ c = f := ⟨(List.cons.inj h).1, lE2 (List.cons.inj h).2⟩
theorem lE4 {a b c d e f g i : Value} (h : [a, b, c, g] = [d, e, f, i]) : a = d /\ b = e /\ c = f /\ g = i := ⟨(List.cons.inj h).1, lE3 (List.cons.inj h).2⟩
theorem tlA {σ : Type} {f : σ -> Hp -> Prop} {d : σ -> Nat} {x : σ} {H : Hp} {B : (σ -> Hp -> Prop) -> Prop} (y : ∀ n : σ -> Hp -> Prop, f x H -> (∀ s' H', f s' H' -> d s' < d x -> n s' H') -> B n) (z : f x H) : ∃ n : σ -> Hp -> Prop, (∀ s' H', n s' H' -> f s' H' /\ d s' < d x) /\ B n := ⟨_, λ_ _ h => h, y _ z λ_ _ a b => ⟨a, b⟩⟩
abbrev yA (t : TypeId) : Sem Next := xV (Instr.alloc t true (.tuple #[]))
abbrev yN (t : TypeId) (x : Value) : Sem Next := xBuiltin .len #[t] 3 [false] [x]
abbrev yP (t : TypeId) (x y : Value) : Sem Next := xBuiltin .append #[t, t] t [false, false] [x, y]
abbrev yI (t : TypeId) (l : Array (Nat × Value)) : Sem Next := xV (Instr.build t l)
abbrev yS (t : TypeId) (n : Nat) (l : Array (Nat × Value)) : Sem Next := xV (Instr.buildSlice t n l)
abbrev yB (t : TypeId) (x : Value) : Sem Next := xV (Instr.box t x)
abbrev yT (x : Value) : Sem Next := xV (Op.unary .not x)
abbrev yM (t : TypeId) (x y : Value) : Sem Next := xV (Instr.makeSlice t x y)
abbrev yF (t : TypeId) (x : Value) (i : Nat) : Sem Next := xV (Instr.field t x i)
abbrev yX (t : TypeId) (x y : Value) : Sem Next := xV (Instr.index t x y)
abbrev yE (t : TypeId) (x : Value) : Sem Next := xV (Instr.makeInterface t x)
abbrev yG (l : List Value) : Value := .agg l.toArray
abbrev yU (l : List Value) : Value := Value.tuple l.toArray
abbrev eO (i : Nat) (k : Ord) : Ord := .early i k
abbrev lO (i : Nat) (k : Ord) : Ord := .load i k
abbrev sO (i : Nat) (k : Ord) : Ord := .step i k
abbrev dO : Ord := .done
set_option maxRecDepth 100000
theorem oc1 {τ : Type} {E : Pan} {w0 w : World} {ps : Nat → Prop} {H0 H : Hp} {Fr : List Frag} {K : Value → World → Prop} {f : FuncId} {args : List Value} {g : τ → Value} {k : τ → Hp → Prop} (he : ∀ args w, (callFunc f args).run pG w = .ok (.enter f args) w) (hc : C1 f args H g k) (I : Inv w0 ps H0 H Fr w) (hq : ∀ r H' w', Inv w0 ps H0 H' Fr w' → k r H' → K (g r) w') : opK pG E (xCall (.func (.func f) #[] #[]) args) w K := by
 refine f7 he hc (Fi := []) I ?_
 rintro _ _ _ _ J _ _ ⟨r,rfl,rfl,h⟩
 exact hq r _ _ J h
theorem hr1 {τ : Type} {w0 : World} {ps : Nat → Prop} {H0 : Hp} {R : Value → World → Prop} {g : τ → Value} {k : τ → Hp → Prop} (hR : ∀ v H' Fo w', Inv w0 ps H0 H' Fo w' → (∃ r, v = g r ∧ Fo = [] ∧ k r H') → R v w') {r : τ} {H' : Hp} {w' : World} (I : Inv w0 ps H0 H' [] w') (h : k r H') : R (g r) w' := hR _ _ _ _ I ⟨r, rfl, rfl, h⟩
end
structure o8 where
  a2h:Sl
  a7s:Sl
structure s6 where
  E0:Sl
  D7:Int
  C1:Sl
  i7:Int
  K8:Int
  E1:Sl
structure f8 where
  Q3:Int
  Z6:Int
structure z6 where
  K3:Int
  A6:Int
structure d8 where
  D6:Int
  fTo:Int
  d9:Int
  a4F:Int
  a1q:Int
  fOp:Int
  fA:z6
  fB:z6
structure i6 where
  d9:Int
  o7:BA
  z7:Sl
  D4:Sl
  T5:Sl
  T6:Sl
structure j9 where
  o7:BA
  D2:Int
structure p8 where
  C2:s6
structure L9 where
  faddr:(Option Addr)
  fbuf:Sl
structure g7 where
  O5:L9
  fdeep:Int
structure m0 where
  fc:s6
  fvars:(Option Nat)
  farrays:(Option Nat)
structure l9 where
  d9:Int
  A6:Int
  o7:BA
  L8:Sl
structure p5 where
  d9:Int
  fOp:Int
  z7:Sl
  E9:Sl
structure r7 where
  fdst:Bool
  farr:Bool
  fop:Bool
  fa:Bool
  fb:Bool
structure v6 where
  fnodes:Int
  fdepth:Int
  fe:Int
  fform:Bool
  fnamed:Bool
  fnames:Sl
structure c8 where
  fl:Sl
  fn:Int
structure d6 where
  d9:Int
  N9:BA
  A6:Int
  fAt:f8
structure e1D where
  fat:f8
  fe:Int
structure i8 where
  fs:BA
  fn:Int
  fat:f8
  fl:Sl
structure u4 where
  fl:Sl
structure m9 where
  fname:BA
  fas:Int
structure a1z where
  a2W:j9
structure a0D where
  t8:i6
structure U6 where
  C8:l9
structure a0E where
  C3:p5
structure a3i where
  f0:BA
  f1:BA
  f2:BA
  f3:BA
  f4:BA
  f5:BA
structure a3S where
  fsigns:Sl
  fkinds:Sl
  fpart:Value
structure T9 where
  f0:BA
  f1:BA
  f2:BA
  f3:BA
  f4:BA
  f5:BA
  f6:BA
structure N8 where
  fexprs:Int
  fconds:Int
structure C7 where
  fexprs:Int
  fparts:Int
abbrev A8(x:m0)(s0:Sl):List Value:=[(vs x.fc.E0),(vi x.fc.D7),(vs x.fc.C1),(vi x.fc.i7),(vi x.fc.K8),(vs s0),(Value.map x.fvars),(Value.map x.farrays)]
abbrev j6(x:m0):m0:=m0.mk (s6.mk x.fc.E0 x.fc.D7 x.fc.C1 x.fc.i7 x.fc.K8 sN) x.fvars x.farrays
abbrev B9(x:i8)(s0:Sl):List Value:=[(wS x.fs),(vi x.fn),(vi x.fat.Q3),(vi x.fat.Z6),(vs s0)]
abbrev C9(x:i8):i8:=i8.mk x.fs x.fn x.fat sN
abbrev adv(g:Nat)(x:Option Addr):Value:=Value.pointer (match x with | none=>none | some _=>some ⟨g,0,none⟩)
abbrev q8(g:Nat)(x:g7)(s0:Sl):List Value:=[(adv g x.O5.faddr),(vs s0),(vi x.fdeep)]
abbrev s8(x:g7):g7:=g7.mk (L9.mk x.O5.faddr sN) x.fdeep
abbrev a3j(x:v6)(s0:Sl):List Value:=[(vi x.fnodes),(vi x.fdepth),(vi x.fe),(vB x.fform),(vB x.fnamed),(vs s0)]
abbrev a2i(x:v6):v6:=v6.mk x.fnodes x.fdepth x.fe x.fform x.fnamed sN
inductive j8 where
  | nil
  | T7 (x:a1z)
  | Q8 (x:a0D)
  | Q2 (x:U6)
  | U9 (x:a0E)
def O2:j8->Value
  | .nil=>.nilIface
  | .T7 x=>.iface 200 (.agg #[(wS x.a2W.o7),(vi x.a2W.D2)])
  | .Q8 x=>.iface 202 (.agg #[(vi x.t8.d9),(wS x.t8.o7),(vs x.t8.z7),(vs x.t8.D4),(vs x.t8.T5),(vs x.t8.T6)])
  | .Q2 x=>.iface 253 (.agg #[(vi x.C8.d9),(vi x.C8.A6),(wS x.C8.o7),(vs x.C8.L8)])
  | .U9 x=>.iface 300 (.agg #[(vi x.C3.d9),(vi x.C3.fOp),(vs x.C3.z7),(vs x.C3.E9)])
theorem c5l(x:j8):[O2 x].all (·.oneCell')=true:=by cases x<;>rfl
def j8.a5c:j8->a1z
  | .T7 x=>x
  | _=>(a1z.mk (j9.mk ⟨#[]⟩ 0))
def j8.a9E:j8->Bool
  | .T7 _=>true
  | _=>false
def j8.D5:j8->a0D
  | .Q8 x=>x
  | _=>(a0D.mk (i6.mk 0 ⟨#[]⟩ sN sN sN sN))
def j8.a9F:j8->Bool
  | .Q8 _=>true
  | _=>false
def j8.O8:j8->U6
  | .Q2 x=>x
  | _=>(U6.mk (l9.mk 0 0 ⟨#[]⟩ sN))
def j8.a9G:j8->Bool
  | .Q2 _=>true
  | _=>false
theorem O6{g o}:fQ 31 3 3 g o:=puk
abbrev a5S(x:Bool):List Value:=[(vB x)]
theorem d2f(x:Bool):(a5S x).length=1:=rfl
theorem d2g(x:Bool):(a5S x).all (·.oneCell')=true:=rfl
theorem e5N:Tryz.prog.info? 4=some ((Tryz.prog.info? 4).getD default):=by kernel_rfl
theorem c6b{E:Pan}{w0 w:World}{ps:Nat->Prop}{H0 H:Hp}{Fs:List Frag}{K:Value->World->Prop}{kl kc:IntKind}{n:Int}(I:Inv w0 ps H0 H Fs w)(hn:0<=n)(hb:n*2<=140737488355328)(h:∀(s':Sl)(F':Frag)(w':World),RowL 4 1 a5S s' (List.replicate n.toNat false) F'->Inv w0 ps H0 H (F'::Fs) w'->(∀k,k < w.heap.size->w'.heap[k]? = w.heap[k]?)->K (.slice s'.a s'.n s'.c) w'):opK pG E (yM 38 (.int kl n) (.int kc n)) w K:=
  c2m (bytes:=1) (x0:=false) underlying38 e5N (z:=(vB false)) (by kernel_rfl) (by kernel_rfl) (by kernel_rfl) (by kernel_rfl) I d2f d2g (by decide) kl kc n hn hb h
theorem a8X(a:Option Addr)(n c:Nat):Pu pG (xBuiltin .len #[26] 3 [false] [.slice a n c]) (.int .i64 (n:Int)):=a1u underlying26 a n c
theorem a0R{a:Option Addr}{g o:Nat}(ha:a=some ⟨g,o,none⟩)(len cap:Nat)(k:IntKind)(i:Int)(h0:0<=i)(h1:i < len):Pu pG (xV (Instr.indexAt 26 (.slice a len cap) (.int k i))) (.pointer (some ⟨g,o+i.toNat*1,none⟩)):=a0B underlying26 sizeOf3 ha len cap k i h0 h1
theorem a8Y{a:Option Addr}{g o:Nat}(ha:a=some ⟨g,o,none⟩)(len cap:Nat)(k:IntKind)(i:Int)(h0:0<=i)(h1:i < len):Pu pG (xV (Instr.indexAt 38 (.slice a len cap) (.int k i))) (.pointer (some ⟨g,o+i.toNat*1,none⟩)):=a0B underlying38 sizeOf4 ha len cap k i h0 h1
theorem X9{g o}:fQ 31 5 5 g o:=puk
theorem a5k{a:Option Addr}{g o:Nat}(ha:a=some ⟨g,o,none⟩)(len cap:Nat)(k:IntKind)(i:Int)(h0:0<=i)(h1:i < len):Pu pG (xV (Instr.indexAt 29 (.slice a len cap) (.int k i))) (.pointer (some ⟨g,o+i.toNat*10,none⟩)):=a0B underlying29 sizeOf43 ha len cap k i h0 h1
theorem a7t{g o}:fQ 43 1 1 g o:=puk
theorem c8e(a0:Int):Pu pG (yI 55 #[(0,(vi a0))]) (.agg #[(vi a0),(eS),(nS),(nS),(nS),(nS)]):=puk
abbrev q9(x:i6):List Value:=[(vi x.d9),(wS x.o7),(vs x.z7),(vs x.D4),(vs x.T5),(vs x.T6)]
theorem a7S(x:i6):(q9 x).length=6:=rfl
theorem a7T(x:i6):(q9 x).all (·.oneCell')=true:=rfl
theorem c3I(aa:Int)(Y2:BA)(a0_2a:Option Addr)(a0_2n a0_2c:Nat)(a0_3a:Option Addr)(a0_3n a0_3c:Nat)(a0_4a:Option Addr)(a0_4n a0_4c:Nat)(a0_5a:Option Addr)(a0_5n a0_5c:Nat)(w:World):(Instr.buildSlice 23 1 #[(0,(Value.agg #[(vi aa),(wS Y2),(Value.slice a0_2a a0_2n a0_2c),(Value.slice a0_3a a0_3n a0_3c),(Value.slice a0_4a a0_4n a0_4c),(Value.slice a0_5a a0_5n a0_5c)]))]).run pG w=.ok (.slice (some ⟨w.heap.size,0,none⟩) 1 1) (w.alloc (.cells [(vi aa),(wS Y2),(Value.slice a0_2a a0_2n a0_2c),(Value.slice a0_3a a0_3n a0_3c),(Value.slice a0_4a a0_4n a0_4c),(Value.slice a0_5a a0_5n a0_5c)].toArray 55)):=by kernel_rfl
theorem c8f(aa:Option Addr)(ab ad:Nat):Pu pG (yI 25 #[(1,(Value.slice aa ab ad))]) (.agg #[(nS),(Value.slice aa ab ad)]):=puk
theorem a5W{g o}:fQ 31 4 4 g o:=puk
theorem a5X(a:Option Addr)(n c:Nat):Pu pG (xBuiltin .len #[29] 3 [false] [.slice a n c]) (.int .i64 (n:Int)):=a1u underlying29 a n c
theorem b0p(a0:Int):Pu pG (yI 41 #[(0,(vi a0))]) (.agg #[(vi a0),(vi 0)]):=puk
theorem b6P(a1:Int)(a2:Int)(a3:Int)(a4:Int)(aa:Int)(ab:Int)(ad:Int)(ae:Int):Pu pG (yI 43 #[(1,(vi a1)),(2,(vi a2)),(3,(vi a3)),(4,(vi a4)),(6,(Value.agg #[(vi aa),(vi ab)])),(7,(Value.agg #[(vi ad),(vi ae)]))]) (.agg #[(vi 0),(vi a1),(vi a2),(vi a3),(vi a4),(vi 0),(vi aa),(vi ab),(vi ad),(vi ae)]):=puk
theorem c6g(d:Nat)(a0 b0:Int)(a1 b1:Int)(w:World):(Op.equalIn (d+2) 41 (.agg #[(vi a0),(vi a1)]) (.agg #[(vi b0),(vi b1)])).run pG w=.ok (decide (a0=b0/\a1=b1)) w:=by
  have u3:=underlying3
  have i3:=isAgg3
  have s3:=sizeOf3
  have u2:=underlying2
  have i2:=isAgg2
  have s2:=sizeOf2
  have hS:Tryz.prog.underlying 41=some (.struct (Tryz.prog.fieldsOf 41)):=by kernel_rfl
  rw [run_equalIn_agg w (d+1) 41 _ _ hS (by kernel_rfl)]
  simp only [Program.fieldsOf,underlying41]
  go_simp
  try simp only [b5b]
  by_cases h0:a0=b0
  · by_cases h1:a1=b1
    · simp [h0,h1]
    · simp [h0,h1]
  · simp [h0]
theorem b7J(x y:Operand)(a0 b0:Int)(a1 b1:Int):Pu pG (xBin .eql 41 x y (.agg #[(vi a0),(vi a1)]) (.agg #[(vi b0),(vi b1)])) (.bool (decide (a0=b0/\a1=b1))):=by
  refine Pu.ok (s:=do eqGuard .eql 41 x y (.agg #[(vi a0),(vi a1)]) (.agg #[(vi b0),(vi b1)]);binOp .eql 41 (.agg #[(vi a0),(vi a1)]) (.agg #[(vi b0),(vi b1)])) λw=>?_
  rw [Sem.run_bind,run_eqGuard_agg w _ _ _ _ _ _ (by kernel_rfl),Result.andThen_ok,run_eql_struct,show (10000:Nat)=9998+2 from rfl,c6g]
  rfl
theorem d2h(d:Nat)(a0 b0:Int)(a1 b1:Int)(a2 b2:Int)(a3 b3:Int)(a4 b4:Int)(a5 b5:Int)(a6 b6:Int)(a7 b7:Int)(a8 b8:Int)(a9 b9:Int)(w:World):(Op.equalIn (d+3) 43 (.agg #[(vi a0),(vi a1),(vi a2),(vi a3),(vi a4),(vi a5),(vi a6),(vi a7),(vi a8),(vi a9)]) (.agg #[(vi b0),(vi b1),(vi b2),(vi b3),(vi b4),(vi b5),(vi b6),(vi b7),(vi b8),(vi b9)])).run pG w=.ok (decide (a0=b0/\a1=b1/\a2=b2/\a3=b3/\a4=b4/\a5=b5/\a6=b6/\a7=b7/\a8=b8/\a9=b9)) w:=by
  have u3:=underlying3
  have i3:=isAgg3
  have s3:=sizeOf3
  have u2:=underlying2
  have i2:=isAgg2
  have s2:=sizeOf2
  have e41:=c6g d
  have i41:=isAgg41
  have s41:=sizeOf41
  have e41:=c6g d
  have i41:=isAgg41
  have s41:=sizeOf41
  have hS:Tryz.prog.underlying 43=some (.struct (Tryz.prog.fieldsOf 43)):=by kernel_rfl
  rw [run_equalIn_agg w (d+2) 43 _ _ hS (by kernel_rfl)]
  simp only [Program.fieldsOf,underlying43]
  go_simp
  try simp only [b5b]
  by_cases h0:a0=b0
  · by_cases h1:a1=b1
    · by_cases h2:a2=b2
      · by_cases h3:a3=b3
        · by_cases h4:a4=b4
          · by_cases h5:a5=b5
            · by_cases h6:a6=b6
              · by_cases h7:a7=b7
                · by_cases h8:a8=b8
                  · by_cases h9:a9=b9
                    · simp [h0,h1,h2,h3,h4,h5,h6,h7,h8,h9]
                    · simp [h0,h1,h2,h3,h4,h5,h6,h7,h8,h9]
                  · simp [h0,h1,h2,h3,h4,h5,h6,h7,h8]
                · simp [h0,h1,h2,h3,h4,h5,h6,h7]
              · simp [h0,h1,h2,h3,h4,h5,h6]
            · simp [h0,h1,h2,h3,h4,h5]
          · simp [h0,h1,h2,h3,h4]
        · simp [h0,h1,h2,h3]
      · simp [h0,h1,h2]
    · simp [h0,h1]
  · simp [h0]
theorem d5l(x y:Operand)(a0 b0:Int)(a1 b1:Int)(a2 b2:Int)(a3 b3:Int)(a4 b4:Int)(a5 b5:Int)(a6 b6:Int)(a7 b7:Int)(a8 b8:Int)(a9 b9:Int):Pu pG (xBin .eql 43 x y (.agg #[(vi a0),(vi a1),(vi a2),(vi a3),(vi a4),(vi a5),(vi a6),(vi a7),(vi a8),(vi a9)]) (.agg #[(vi b0),(vi b1),(vi b2),(vi b3),(vi b4),(vi b5),(vi b6),(vi b7),(vi b8),(vi b9)])) (.bool (decide (a0=b0/\a1=b1/\a2=b2/\a3=b3/\a4=b4/\a5=b5/\a6=b6/\a7=b7/\a8=b8/\a9=b9))):=by
  refine Pu.ok (s:=do eqGuard .eql 43 x y (.agg #[(vi a0),(vi a1),(vi a2),(vi a3),(vi a4),(vi a5),(vi a6),(vi a7),(vi a8),(vi a9)]) (.agg #[(vi b0),(vi b1),(vi b2),(vi b3),(vi b4),(vi b5),(vi b6),(vi b7),(vi b8),(vi b9)]);binOp .eql 43 (.agg #[(vi a0),(vi a1),(vi a2),(vi a3),(vi a4),(vi a5),(vi a6),(vi a7),(vi a8),(vi a9)]) (.agg #[(vi b0),(vi b1),(vi b2),(vi b3),(vi b4),(vi b5),(vi b6),(vi b7),(vi b8),(vi b9)])) λw=>?_
  rw [Sem.run_bind,run_eqGuard_agg w _ _ _ _ _ _ (by kernel_rfl),Result.andThen_ok,run_eql_struct,show (10000:Nat)=9997+3 from rfl,d2h]
  rfl
theorem d5m(x y:Operand)(a0 b0:Int)(a1 b1:Int)(a2 b2:Int)(a3 b3:Int)(a4 b4:Int)(a5 b5:Int)(a6 b6:Int)(a7 b7:Int)(a8 b8:Int)(a9 b9:Int):Pu pG (xBin .neq 43 x y (.agg #[(vi a0),(vi a1),(vi a2),(vi a3),(vi a4),(vi a5),(vi a6),(vi a7),(vi a8),(vi a9)]) (.agg #[(vi b0),(vi b1),(vi b2),(vi b3),(vi b4),(vi b5),(vi b6),(vi b7),(vi b8),(vi b9)])) (.bool (!decide (a0=b0/\a1=b1/\a2=b2/\a3=b3/\a4=b4/\a5=b5/\a6=b6/\a7=b7/\a8=b8/\a9=b9))):=by
  refine Pu.ok (s:=do eqGuard .neq 43 x y (.agg #[(vi a0),(vi a1),(vi a2),(vi a3),(vi a4),(vi a5),(vi a6),(vi a7),(vi a8),(vi a9)]) (.agg #[(vi b0),(vi b1),(vi b2),(vi b3),(vi b4),(vi b5),(vi b6),(vi b7),(vi b8),(vi b9)]);binOp .neq 43 (.agg #[(vi a0),(vi a1),(vi a2),(vi a3),(vi a4),(vi a5),(vi a6),(vi a7),(vi a8),(vi a9)]) (.agg #[(vi b0),(vi b1),(vi b2),(vi b3),(vi b4),(vi b5),(vi b6),(vi b7),(vi b8),(vi b9)])) λw=>?_
  rw [Sem.run_bind,run_eqGuard_agg w _ _ _ _ _ _ (by kernel_rfl),Result.andThen_ok,run_neq_struct,show (10000:Nat)=9997+3 from rfl,d2h]
  rfl
theorem b9n  : Pu pG (yI 31 #[]) (.agg #[(nS),(vi 0),(nS),(vi 0),(vi 0),(nS)]):=puk
theorem c2o(aa:Option Addr)(ab ad:Nat)(ae:Option Addr)(ag ah:Nat)(a3:Int):Pu pG (yI 31 #[(0,(Value.slice aa ab ad)),(2,(Value.slice ae ag ah)),(3,(vi a3))]) (.agg #[(Value.slice aa ab ad),(vi 0),(Value.slice ae ag ah),(vi a3),(vi 0),(nS)]):=puk
abbrev K4(x:Int):List Value:=[(vi x)]
theorem a3k(x:Int):(K4 x).length=1:=rfl
theorem a3l(x:Int):(K4 x).all (·.oneCell')=true:=rfl
theorem d7b:Tryz.prog.info? 3=some ((Tryz.prog.info? 3).getD default):=by kernel_rfl
theorem e1E{E:Pan}{w0 w:World}{ps:Nat->Prop}{H0 H:Hp}{Fs:List Frag}{K:Value->World->Prop}{kl kc:IntKind}{n:Int}(I:Inv w0 ps H0 H Fs w)(hn:0<=n)(hb:n*9<=140737488355328)(h:∀(s':Sl)(F':Frag)(w':World),RowL 3 1 K4 s' (List.replicate n.toNat 0) F'->Inv w0 ps H0 H (F'::Fs) w'->(∀k,k < w.heap.size->w'.heap[k]? = w.heap[k]?)->K (.slice s'.a s'.n s'.c) w'):opK pG E (yM 26 (.int kl n) (.int kc n)) w K:=
  c2m (bytes:=8) (x0:=0) underlying26 d7b (z:=(vi 0)) (by kernel_rfl) (by kernel_rfl) (by kernel_rfl) (by kernel_rfl) I a3k a3l (by decide) kl kc n hn hb h
theorem a3E{g o}:fQ 43 0 0 g o:=puk
theorem b2g(a0:Int)(w:World):(Instr.buildSlice 26 1 #[(0,(vi a0))]).run pG w=.ok (.slice (some ⟨w.heap.size,0,none⟩) 1 1) (w.alloc (.cells [(vi a0)].toArray 3)):=by kernel_rfl
theorem b6Q{E:Pan}{w0 w:World}{ps:Nat->Prop}{H0 H:Hp}{Fs:List Frag}{K:Value->World->Prop}{s:Sl}{xs:List Int}{F:Frag}{t2:Sl}{ys:List Int}{ks:List Bool}{ty:TypeId}(I:Inv w0 ps H0 H (F::Fs) w)(hr:RowL 3 1 K4 s xs F)(hs:SrcO w K4 t2 ys)(hb:(xs.length+ys.length)*9<=140737488355328)(h:∀(s':Sl)(F':Frag)(w':World),RowL 3 1 K4 s' (xs++ys) F'->Inv w0 ps H0 H (F'::Fs) w'->(∀k,k < w.heap.size->(∀p∈F,p.1≠k)->w'.heap[k]? = w.heap[k]?)->K (.slice s'.a s'.n s'.c) w'):opK pG E (xBuiltin .append #[26,26] ty ks [.slice s.a s.n s.c,.slice t2.a t2.n t2.c]) w K:=
  b4t (bytes:=8) underlying26 d7b (z:=(vi 0)) (by kernel_rfl) (by kernel_rfl) (by kernel_rfl) (by kernel_rfl) I hr hs hb h
theorem a4G{g o}:fQ 31 1 1 g o:=puk
theorem a9H{g o}:fQ 31 0 0 g o:=puk
theorem a3T(a:Option Addr)(n c:Nat):Pu pG (xBuiltin .len #[28] 3 [false] [.slice a n c]) (.int .i64 (n:Int)):=a1u underlying28 a n c
theorem b1e{g o}:fQ 31 2 2 g o:=puk
theorem a3U(a:Option Addr)(n c:Nat):Pu pG (xBuiltin .len #[22] 3 [false] [.slice a n c]) (.int .i64 (n:Int)):=a1u underlying22 a n c
theorem a5l{a:Option Addr}{g o:Nat}(ha:a=some ⟨g,o,none⟩)(len cap:Nat)(k:IntKind)(i:Int)(h0:0<=i)(h1:i < len):Pu pG (xV (Instr.indexAt 22 (.slice a len cap) (.int k i))) (.pointer (some ⟨g,o+i.toNat*2,none⟩)):=a0B underlying22 sizeOf65 ha len cap k i h0 h1
theorem a4H{g o}:fQ 65 1 1 g o:=puk
theorem c8g(a0_0a:Option Addr)(a0_0n a0_0c:Nat)(Y2:Int)(a0_2a:Option Addr)(a0_2n a0_2c:Nat)(aa:Int)(ab:Int)(a0_5a:Option Addr)(a0_5n a0_5c:Nat):Pu pG (yI 69 #[(0,(Value.agg #[(Value.slice a0_0a a0_0n a0_0c),(vi Y2),(Value.slice a0_2a a0_2n a0_2c),(vi aa),(vi ab),(Value.slice a0_5a a0_5n a0_5c)]))]) (.agg #[(Value.slice a0_0a a0_0n a0_0c),(vi Y2),(Value.slice a0_2a a0_2n a0_2c),(vi aa),(vi ab),(Value.slice a0_5a a0_5n a0_5c)]):=puk
theorem e1F:Tryz.prog.info? 29=some ((Tryz.prog.info? 29).getD default):=by kernel_rfl
theorem e1G{E:Pan}{w0 w:World}{ps:Nat->Prop}{H0 H:Hp}{Fs:List Frag}{K:Value->World->Prop}{kl kc:IntKind}{n:Int}(I:Inv w0 ps H0 H Fs w)(hn:0<=n)(hb:n*25<=140737488355328)(h:∀(s':Sl)(F':Frag)(w':World),RowL 29 1 csl s' (List.replicate n.toNat sN) F'->Inv w0 ps H0 H (F'::Fs) w'->(∀k,k < w.heap.size->w'.heap[k]? = w.heap[k]?)->K (.slice s'.a s'.n s'.c) w'):opK pG E (yM 71 (.int kl n) (.int kc n)) w K:=
  c2m (bytes:=24) (x0:=sN) underlying71 e1F (z:=(nS)) (by kernel_rfl) (by kernel_rfl) (by kernel_rfl) (by kernel_rfl) I c0f c0g (by decide) kl kc n hn hb h
abbrev p7(x:d8):List Value:=[(vi x.D6),(vi x.fTo),(vi x.d9),(vi x.a4F),(vi x.a1q),(vi x.fOp),(vi x.fA.K3),(vi x.fA.A6),(vi x.fB.K3),(vi x.fB.A6)]
theorem a7U(x:d8):(p7 x).length=10:=rfl
theorem a7V(x:d8):(p7 x).all (·.oneCell')=true:=rfl
theorem c1x{a:Option Addr}{g o:Nat}(ha:a=some ⟨g,o,none⟩)(len cap:Nat)(k:IntKind)(i:Int)(h0:0<=i)(h1:i < len):Pu pG (xV (Instr.indexAt 71 (.slice a len cap) (.int k i))) (.pointer (some ⟨g,o+i.toNat*1,none⟩)):=a0B underlying71 sizeOf29 ha len cap k i h0 h1
theorem c8P(aa:Int)(Y2:Int)(ab:Int)(ad:Int)(ae:Int)(ag:Int)(ah:Int)(ai:Int)(aj:Int)(ak:Int)(w:World):(Instr.buildSlice 29 1 #[(0,(Value.agg #[(vi aa),(vi Y2),(vi ab),(vi ad),(vi ae),(vi ag),(vi ah),(vi ai),(vi aj),(vi ak)]))]).run pG w=.ok (.slice (some ⟨w.heap.size,0,none⟩) 1 1) (w.alloc (.cells [(vi aa),(vi Y2),(vi ab),(vi ad),(vi ae),(vi ag),(vi ah),(vi ai),(vi aj),(vi ak)].toArray 43)):=by kernel_rfl
theorem e1I:Tryz.prog.info? 43=some ((Tryz.prog.info? 43).getD default):=by kernel_rfl
theorem d2m{E:Pan}{w0 w:World}{ps:Nat->Prop}{H0 H:Hp}{Fs:List Frag}{K:Value->World->Prop}{s:Sl}{xs:List d8}{F:Frag}{t2:Sl}{ys:List d8}{ks:List Bool}{ty:TypeId}(I:Inv w0 ps H0 H (F::Fs) w)(hr:RowL 43 10 p7 s xs F)(hs:SrcO w p7 t2 ys)(hb:(xs.length+ys.length)*81<=140737488355328)(h:∀(s':Sl)(F':Frag)(w':World),RowL 43 10 p7 s' (xs++ys) F'->Inv w0 ps H0 H (F'::Fs) w'->(∀k,k < w.heap.size->(∀p∈F,p.1≠k)->w'.heap[k]? = w.heap[k]?)->K (.slice s'.a s'.n s'.c) w'):opK pG E (xBuiltin .append #[29,29] ty ks [.slice s.a s.n s.c,.slice t2.a t2.n t2.c]) w K:=
  b4t (bytes:=80) underlying29 e1I (z:=(Value.agg #[(vi 0),(vi 0),(vi 0),(vi 0),(vi 0),(vi 0),(vi 0),(vi 0),(vi 0),(vi 0)])) (by kernel_rfl) (by kernel_rfl) (by kernel_rfl) (by kernel_rfl) I hr hs hb h
theorem b7K{a:Option Addr}{g o:Nat}(ha:a=some ⟨g,o,none⟩)(len cap:Nat)(k:IntKind)(i:Int)(h0:0<=i)(h1:i < len):Pu pG (xV (Instr.indexAt 74 (.slice a len cap) (.int k i))) (.pointer (some ⟨g,o+i.toNat*1,none⟩)):=a0B underlying74 sizeOf26 ha len cap k i h0 h1
theorem d2n  : Pu pG (yI 83 #[]) (.agg #[(Value.pointer none),(nS),(vi 0)]):=puk
theorem a9I{g o}:fQ 25 0 0 g o:=puk
theorem a3F{g o}:fQ 65 0 0 g o:=puk
abbrev v7(x:BA):List Value:=[(wS x)]
theorem N6(x:BA):(v7 x).length=1:=rfl
theorem N7(x:BA):(v7 x).all (·.oneCell')=true:=rfl
theorem c0i(a0:BA)(a1:BA)(a2:BA)(w:World):(Instr.buildSlice 28 3 #[(0,(wS a0)),(1,(wS a1)),(2,(wS a2))]).run pG w=.ok (.slice (some ⟨w.heap.size,0,none⟩) 3 3) (w.alloc (.cells [(wS a0),(wS a1),(wS a2)].toArray 9)):=by kernel_rfl
abbrev B7(x:Int):List Value:=[(Value.int .u8 x)]
theorem d0z(x:Int):(B7 x).length=1:=rfl
theorem d0A(x:Int):(B7 x).all (·.oneCell')=true:=rfl
theorem d8v(a0:BA)(a1:BA)(a2:BA)(a3:BA)(a4:BA)(w:World):(Instr.buildSlice 28 5 #[(0,(wS a0)),(1,(wS a1)),(2,(wS a2)),(3,(wS a3)),(4,(wS a4))]).run pG w=.ok (.slice (some ⟨w.heap.size,0,none⟩) 5 5) (w.alloc (.cells [(wS a0),(wS a1),(wS a2),(wS a3),(wS a4)].toArray 9)):=by kernel_rfl
theorem a7u{g o}:fQ 25 1 1 g o:=puk
theorem a1P(a:Option Addr)(n c:Nat):Pu pG (xBuiltin .len #[23] 3 [false] [.slice a n c]) (.int .i64 (n:Int)):=a1u underlying23 a n c
theorem b5d{a:Option Addr}{g o:Nat}(ha:a=some ⟨g,o,none⟩)(len cap:Nat)(k:IntKind)(i:Int)(h0:0<=i)(h1:i < len):Pu pG (xV (Instr.indexAt 23 (.slice a len cap) (.int k i))) (.pointer (some ⟨g,o+i.toNat*6,none⟩)):=a0B underlying23 sizeOf55 ha len cap k i h0 h1
theorem b7L{g o}:fQ 83 0 0 g o:=puk
theorem b1f{g o}:fQ 81 1 1 g o:=puk
theorem a1d{g o}:fQ 55 0 0 g o:=puk
theorem a0L(a0:BA)(w:World):(Instr.buildSlice 28 1 #[(0,(wS a0))]).run pG w=.ok (.slice (some ⟨w.heap.size,0,none⟩) 1 1) (w.alloc (.cells [(wS a0)].toArray 9)):=by kernel_rfl
theorem e5O:Tryz.prog.info? 9=some ((Tryz.prog.info? 9).getD default):=by kernel_rfl
theorem d2o{E:Pan}{w0 w:World}{ps:Nat->Prop}{H0 H:Hp}{Fs:List Frag}{K:Value->World->Prop}{s:Sl}{xs:List BA}{F:Frag}{t2:Sl}{ys:List BA}{ks:List Bool}{ty:TypeId}(I:Inv w0 ps H0 H (F::Fs) w)(hr:RowL 9 1 v7 s xs F)(hs:SrcO w v7 t2 ys)(hb:(xs.length+ys.length)*17<=140737488355328)(h:∀(s':Sl)(F':Frag)(w':World),RowL 9 1 v7 s' (xs++ys) F'->Inv w0 ps H0 H (F'::Fs) w'->(∀k,k < w.heap.size->(∀p∈F,p.1≠k)->w'.heap[k]? = w.heap[k]?)->K (.slice s'.a s'.n s'.c) w'):opK pG E (xBuiltin .append #[28,28] ty ks [.slice s.a s.n s.c,.slice t2.a t2.n t2.c]) w K:=
  b4t (bytes:=16) underlying28 e5O (z:=(eS)) (by kernel_rfl) (by kernel_rfl) (by kernel_rfl) (by kernel_rfl) I hr hs hb h
theorem Y0{g o}:fQ 63 0 0 g o:=puk
theorem b7M{g o}:fQ 63 1 6 g o:=puk
theorem a2j{g o}:fQ 55 1 1 g o:=puk
theorem a1A{g o}:fQ 55 2 2 g o:=puk
theorem Z7{a:Option Addr}{g o:Nat}(ha:a=some ⟨g,o,none⟩)(len cap:Nat)(k:IntKind)(i:Int)(h0:0<=i)(h1:i < len):Pu pG (xV (Instr.indexAt 52 (.slice a len cap) (.int k i))) (.pointer (some ⟨g,o+i.toNat*4,none⟩)):=a0B underlying52 sizeOf112 ha len cap k i h0 h1
theorem W7{g o}:fQ 112 0 0 g o:=puk
theorem b0q{g o}:fQ 112 1 1 g o:=puk
theorem b8T(a0:Int)(a1:Int):Pu pG (yI 41 #[(0,(vi a0)),(1,(vi a1))]) (.agg #[(vi a0),(vi a1)]):=puk
theorem a0Z{g o}:fQ 112 3 3 g o:=puk
theorem a4Y{g o}:fQ 112 2 2 g o:=puk
theorem b4v{g o}:fQ 43 3 3 g o:=puk
theorem a7e(a:Option Addr)(n c:Nat):Pu pG (xBuiltin .len #[52] 3 [false] [.slice a n c]) (.int .i64 (n:Int)):=a1u underlying52 a n c
theorem b4w{g o}:fQ 41 0 0 g o:=puk
theorem a4I{g o}:fQ 43 6 6 g o:=puk
theorem b7N{g o}:fQ 63 2 7 g o:=puk
theorem b4x{g o}:fQ 43 4 4 g o:=puk
theorem a7v{g o}:fQ 43 7 8 g o:=puk
theorem a2k{g o}:fQ 55 4 4 g o:=puk
theorem a4J{g o}:fQ 55 5 5 g o:=puk
theorem Z8{g o}:fQ 55 3 3 g o:=puk
theorem Z9{a:Option Addr}{g o:Nat}(ha:a=some ⟨g,o,none⟩)(len cap:Nat)(k:IntKind)(i:Int)(h0:0<=i)(h1:i < len):Pu pG (xV (Instr.indexAt 53 (.slice a len cap) (.int k i))) (.pointer (some ⟨g,o+i.toNat*4,none⟩)):=a0B underlying53 sizeOf115 ha len cap k i h0 h1
theorem a8t{g o}:fQ 115 0 0 g o:=puk
theorem a1v{g o}:fQ 115 3 3 g o:=puk
theorem a8u{g o}:fQ 115 2 2 g o:=puk
theorem a8v{g o}:fQ 115 1 1 g o:=puk
theorem a7w{g o}:fQ 43 5 5 g o:=puk
theorem b1g{g o}:fQ 69 0 0 g o:=puk
theorem a9J{g o}:fQ 43 2 2 g o:=puk
theorem b4y{g o}:fQ 99 0 0 g o:=puk
theorem b7O{g o}:fQ 99 1 1 g o:=puk
theorem c2p{g o}:fQ 99 2 2 g o:=puk
theorem d0B{g o}:fQ 99 3 3 g o:=puk
theorem b4z{g o}:fQ 99 4 4 g o:=puk
theorem e1J:Tryz.prog.info? 26=some ((Tryz.prog.info? 26).getD default):=by kernel_rfl
theorem e1K{E:Pan}{w0 w:World}{ps:Nat->Prop}{H0 H:Hp}{Fs:List Frag}{K:Value->World->Prop}{kl kc:IntKind}{n:Int}(I:Inv w0 ps H0 H Fs w)(hn:0<=n)(hb:n*25<=140737488355328)(h:∀(s':Sl)(F':Frag)(w':World),RowL 26 1 csl s' (List.replicate n.toNat sN) F'->Inv w0 ps H0 H (F'::Fs) w'->(∀k,k < w.heap.size->w'.heap[k]? = w.heap[k]?)->K (.slice s'.a s'.n s'.c) w'):opK pG E (yM 74 (.int kl n) (.int kc n)) w K:=
  c2m (bytes:=24) (x0:=sN) underlying74 e1J (z:=(nS)) (by kernel_rfl) (by kernel_rfl) (by kernel_rfl) (by kernel_rfl) I c0f c0g (by decide) kl kc n hn hb h
theorem b0r{g o}:fQ 106 2 2 g o:=puk
theorem c8h{g o}:fQ 125 0 0 g o:=puk
theorem a6i{g o}:fQ 125 1 1 g o:=puk
theorem d2p{a:Option Addr}{g o:Nat}(ha:a=some ⟨g,o,none⟩)(len cap:Nat)(k:IntKind)(i:Int)(h0:0<=i)(h1:i < len):Pu pG (xV (Instr.indexAt 118 (.slice a len cap) (.int k i))) (.pointer (some ⟨g,o+i.toNat*5,none⟩)):=a0B underlying118 sizeOf127 ha len cap k i h0 h1
theorem a6j{g o}:fQ 127 0 0 g o:=puk
theorem a0w{g o}:fQ 127 1 1 g o:=puk
theorem b1h{a0 a1 a2 a3 a4:Value}:Pu pG (yF 127 (.agg #[a0,a1,a2,a3,a4]) 0) a0:=puk
theorem b9o{a0 a1 a2 a3 a4:Value}:Pu pG (yF 127 (.agg #[a0,a1,a2,a3,a4]) 3) (.agg #[a3,a4]):=puk
theorem b6R(aa:Int)(Y2:Int)(a1:Int):Pu pG (yI 122 #[(0,(Value.agg #[(vi aa),(vi Y2)])),(1,(vi a1))]) (.agg #[(vi aa),(vi Y2),(vi a1)]):=puk
theorem b9p(aa:Int)(ab:Int)(a_1:Int):Pu pG (yE 122 (.agg #[(vi aa),(vi ab),(vi a_1)])) (.iface 122 (.agg #[(vi aa),(vi ab),(vi a_1)])):=puk
theorem c6j{a0 a1 a2 a3 a4:Value}:Pu pG (yF 127 (.agg #[a0,a1,a2,a3,a4]) 1) a1:=puk
theorem c8i(a0:BA):Pu pG (yI 65 #[(0,(wS a0))]) (.agg #[(wS a0),(vi 0)]):=puk
theorem b2M{g o}:fQ 127 2 2 g o:=puk
theorem c6k{a0 a1 a2 a3 a4:Value}:Pu pG (yF 127 (.agg #[a0,a1,a2,a3,a4]) 2) a2:=puk
abbrev q6(x:j9):List Value:=[(wS x.o7),(vi x.D2)]
theorem a7W(x:j9):(q6 x).length=2:=rfl
theorem b0B(x:j9):(q6 x).all (·.oneCell')=true:=rfl
theorem d8w(aa:BA)(Y2:Int)(w:World):(Instr.buildSlice 22 1 #[(0,(Value.agg #[(wS aa),(vi Y2)]))]).run pG w=.ok (.slice (some ⟨w.heap.size,0,none⟩) 1 1) (w.alloc (.cells [(wS aa),(vi Y2)].toArray 65)):=by kernel_rfl
theorem e1L:Tryz.prog.info? 65=some ((Tryz.prog.info? 65).getD default):=by kernel_rfl
theorem d2q{E:Pan}{w0 w:World}{ps:Nat->Prop}{H0 H:Hp}{Fs:List Frag}{K:Value->World->Prop}{s:Sl}{xs:List j9}{F:Frag}{t2:Sl}{ys:List j9}{ks:List Bool}{ty:TypeId}(I:Inv w0 ps H0 H (F::Fs) w)(hr:RowL 65 2 q6 s xs F)(hs:SrcO w q6 t2 ys)(hb:(xs.length+ys.length)*25<=140737488355328)(h:∀(s':Sl)(F':Frag)(w':World),RowL 65 2 q6 s' (xs++ys) F'->Inv w0 ps H0 H (F'::Fs) w'->(∀k,k < w.heap.size->(∀p∈F,p.1≠k)->w'.heap[k]? = w.heap[k]?)->K (.slice s'.a s'.n s'.c) w'):opK pG E (xBuiltin .append #[22,22] ty ks [.slice s.a s.n s.c,.slice t2.a t2.n t2.c]) w K:=
  b4t (bytes:=24) underlying22 e1L (z:=(Value.agg #[(eS),(vi 0)])) (by kernel_rfl) (by kernel_rfl) (by kernel_rfl) (by kernel_rfl) I hr hs hb h
theorem b6S(a0:BA)(a1:BA)(w:World):(Instr.buildSlice 28 2 #[(0,(wS a0)),(1,(wS a1))]).run pG w=.ok (.slice (some ⟨w.heap.size,0,none⟩) 2 2) (w.alloc (.cells [(wS a0),(wS a1)].toArray 9)):=by kernel_rfl
theorem d8x(a0:Int)(a1:Int)(w:World):(Instr.buildSlice 26 2 #[(0,(vi a0)),(1,(vi a1))]).run pG w=.ok (.slice (some ⟨w.heap.size,0,none⟩) 2 2) (w.alloc (.cells [(vi a0),(vi a1)].toArray 3)):=by kernel_rfl
abbrev g9(x:l9):List Value:=[(vi x.d9),(vi x.A6),(wS x.o7),(vs x.L8)]
theorem a0j(x:l9):(g9 x).length=4:=rfl
theorem a0k(x:l9):(g9 x).all (·.oneCell')=true:=rfl
theorem c0j(aa:Int)(Y2:Int)(ab:BA)(a0_3a:Option Addr)(a0_3n a0_3c:Nat)(w:World):(Instr.buildSlice 52 1 #[(0,(Value.agg #[(vi aa),(vi Y2),(wS ab),(Value.slice a0_3a a0_3n a0_3c)]))]).run pG w=.ok (.slice (some ⟨w.heap.size,0,none⟩) 1 1) (w.alloc (.cells [(vi aa),(vi Y2),(wS ab),(Value.slice a0_3a a0_3n a0_3c)].toArray 112)):=by kernel_rfl
theorem d8y:Tryz.prog.info? 112=some ((Tryz.prog.info? 112).getD default):=by kernel_rfl
theorem d2r{E:Pan}{w0 w:World}{ps:Nat->Prop}{H0 H:Hp}{Fs:List Frag}{K:Value->World->Prop}{s:Sl}{xs:List l9}{F:Frag}{t2:Sl}{ys:List l9}{ks:List Bool}{ty:TypeId}(I:Inv w0 ps H0 H (F::Fs) w)(hr:RowL 112 4 g9 s xs F)(hs:SrcO w g9 t2 ys)(hb:(xs.length+ys.length)*57<=140737488355328)(h:∀(s':Sl)(F':Frag)(w':World),RowL 112 4 g9 s' (xs++ys) F'->Inv w0 ps H0 H (F'::Fs) w'->(∀k,k < w.heap.size->(∀p∈F,p.1≠k)->w'.heap[k]? = w.heap[k]?)->K (.slice s'.a s'.n s'.c) w'):opK pG E (xBuiltin .append #[52,52] ty ks [.slice s.a s.n s.c,.slice t2.a t2.n t2.c]) w K:=
  b4t (bytes:=56) underlying52 d8y (z:=(Value.agg #[(vi 0),(vi 0),(eS),(nS)])) (by kernel_rfl) (by kernel_rfl) (by kernel_rfl) (by kernel_rfl) I hr hs hb h
abbrev l7(x:p5):List Value:=[(vi x.d9),(vi x.fOp),(vs x.z7),(vs x.E9)]
theorem a1B(x:p5):(l7 x).length=4:=rfl
theorem a1C(x:p5):(l7 x).all (·.oneCell')=true:=rfl
theorem b6T(aa:Int)(Y2:Int)(a0_2a:Option Addr)(a0_2n a0_2c:Nat)(a0_3a:Option Addr)(a0_3n a0_3c:Nat)(w:World):(Instr.buildSlice 53 1 #[(0,(Value.agg #[(vi aa),(vi Y2),(Value.slice a0_2a a0_2n a0_2c),(Value.slice a0_3a a0_3n a0_3c)]))]).run pG w=.ok (.slice (some ⟨w.heap.size,0,none⟩) 1 1) (w.alloc (.cells [(vi aa),(vi Y2),(Value.slice a0_2a a0_2n a0_2c),(Value.slice a0_3a a0_3n a0_3c)].toArray 115)):=by kernel_rfl
theorem e1M:Tryz.prog.info? 55=some ((Tryz.prog.info? 55).getD default):=by kernel_rfl
theorem d2s{E:Pan}{w0 w:World}{ps:Nat->Prop}{H0 H:Hp}{Fs:List Frag}{K:Value->World->Prop}{s:Sl}{xs:List i6}{F:Frag}{t2:Sl}{ys:List i6}{ks:List Bool}{ty:TypeId}(I:Inv w0 ps H0 H (F::Fs) w)(hr:RowL 55 6 q9 s xs F)(hs:SrcO w q9 t2 ys)(hb:(xs.length+ys.length)*121<=140737488355328)(h:∀(s':Sl)(F':Frag)(w':World),RowL 55 6 q9 s' (xs++ys) F'->Inv w0 ps H0 H (F'::Fs) w'->(∀k,k < w.heap.size->(∀p∈F,p.1≠k)->w'.heap[k]? = w.heap[k]?)->K (.slice s'.a s'.n s'.c) w'):opK pG E (xBuiltin .append #[23,23] ty ks [.slice s.a s.n s.c,.slice t2.a t2.n t2.c]) w K:=
  b4t (bytes:=120) underlying23 e1M (z:=(Value.agg #[(vi 0),(eS),(nS),(nS),(nS),(nS)])) (by kernel_rfl) (by kernel_rfl) (by kernel_rfl) (by kernel_rfl) I hr hs hb h
theorem b2h{a:Option Addr}{g o:Nat}(ha:a=some ⟨g,o,none⟩)(len cap:Nat)(k:IntKind)(i:Int)(h0:0<=i)(h1:i < len):Pu pG (xV (Instr.indexAt 28 (.slice a len cap) (.int k i))) (.pointer (some ⟨g,o+i.toNat*1,none⟩)):=a0B underlying28 sizeOf9 ha len cap k i h0 h1
theorem e1N(d:Nat)(a0 b0:BA)(a1 b1:Int)(w:World):(Op.equalIn (d+2) 65 (.agg #[(wS a0),(vi a1)]) (.agg #[(wS b0),(vi b1)])).run pG w=.ok (decide (a0=b0/\a1=b1)) w:=by
  have u9:=underlying9
  have i9:=isAgg9
  have s9:=sizeOf9
  have u3:=underlying3
  have i3:=isAgg3
  have s3:=sizeOf3
  have hS:Tryz.prog.underlying 65=some (.struct (Tryz.prog.fieldsOf 65)):=by kernel_rfl
  rw [run_equalIn_agg w (d+1) 65 _ _ hS (by kernel_rfl)]
  simp only [Program.fieldsOf,underlying65]
  go_simp
  try simp only [b5b]
  by_cases h0:a0=b0
  · by_cases h1:a1=b1
    · simp [h0,h1]
    · simp [h0,h1]
  · simp [h0]
theorem d5n(x y:Operand)(a0 b0:BA)(a1 b1:Int):Pu pG (xBin .neq 65 x y (.agg #[(wS a0),(vi a1)]) (.agg #[(wS b0),(vi b1)])) (.bool (!decide (a0=b0/\a1=b1))):=by
  refine Pu.ok (s:=do eqGuard .neq 65 x y (.agg #[(wS a0),(vi a1)]) (.agg #[(wS b0),(vi b1)]);binOp .neq 65 (.agg #[(wS a0),(vi a1)]) (.agg #[(wS b0),(vi b1)])) λw=>?_
  rw [Sem.run_bind,run_eqGuard_agg w _ _ _ _ _ _ (by kernel_rfl),Result.andThen_ok,run_neq_struct,show (10000:Nat)=9998+2 from rfl,e1N]
  rfl
theorem c8j(a3:Bool):Pu pG (yI 99 #[(3,(vB a3))]) (.agg #[(vB false),(vB false),(vB false),(vB a3),(vB false)]):=puk
theorem c8k(a0:Bool):Pu pG (yI 99 #[(0,(vB a0))]) (.agg #[(vB a0),(vB false),(vB false),(vB false),(vB false)]):=puk
theorem d2t  : Pu pG (yI 99 #[]) (.agg #[(vB false),(vB false),(vB false),(vB false),(vB false)]):=puk
theorem d0C{g o}:fQ 41 1 1 g o:=puk
theorem b5e(a0 a1 a2 a3 a4 a5 a6:Int):Pu pG (yI 144 #[(0,.int .i64 a0),(1,.int .i64 a1),(2,.int .i64 a2),(3,.int .i64 a3),(4,.int .i64 a4),(5,.int .i64 a5),(6,.int .i64 a6)]) (.agg #[.int .i64 a0,.int .i64 a1,.int .i64 a2,.int .i64 a3,.int .i64 a4,.int .i64 a5,.int .i64 a6]):=puk
theorem d0D(a0 a1 a2 a3 a4 a5 a6:Int)(k:IntKind)(i:Int)(h0:0<=i)(h1:i < 7):Pu pG (yX 144 (.agg #[.int .i64 a0,.int .i64 a1,.int .i64 a2,.int .i64 a3,.int .i64 a4,.int .i64 a5,.int .i64 a6]) (.int k i)) (.int .i64 (([a0,a1,a2,a3,a4,a5,a6]:List Int).getD i.toNat 0)):=by
  obtain rfl | rfl | rfl | rfl | rfl | rfl | rfl:=(by omega:i=0\/i=1\/i=2\/i=3\/i=4\/i=5\/i=6)
  · exact Pu.ok λw=>by kernel_rfl
  · exact Pu.ok λw=>by kernel_rfl
  · exact Pu.ok λw=>by kernel_rfl
  · exact Pu.ok λw=>by kernel_rfl
  · exact Pu.ok λw=>by kernel_rfl
  · exact Pu.ok λw=>by kernel_rfl
  · exact Pu.ok λw=>by kernel_rfl
theorem c6l(aa:Option Addr)(ab ad:Nat)(ae:Option Addr)(ag ah:Nat)(w:World):(Instr.buildSlice 197 2 #[(0,(Value.slice aa ab ad)),(1,(Value.slice ae ag ah))]).run pG w=.ok (.slice (some ⟨w.heap.size,0,none⟩) 2 2) (w.alloc (.cells [(Value.slice aa ab ad),(Value.slice ae ag ah)].toArray 146)):=by kernel_rfl
theorem b1i{g o}:fQ 83 1 2 g o:=puk
theorem b7P{g o}:fQ 81 0 0 g o:=puk
theorem e5P:Tryz.prog.info? 5=some ((Tryz.prog.info? 5).getD default):=by kernel_rfl
theorem d2u{E:Pan}{w0 w:World}{ps:Nat->Prop}{H0 H:Hp}{Fs:List Frag}{K:Value->World->Prop}{s:Sl}{xs:List Int}{F:Frag}{b:BA}{ks:List Bool}{ty:TypeId}(I:Inv w0 ps H0 H (F::Fs) w)(hr:RowL 5 1 B7 s xs F)(hb:(xs.length+b.size)*2<=140737488355328)(h:∀(s':Sl)(F':Frag)(w':World),RowL 5 1 B7 s' (xs++sbytes b) F'->Inv w0 ps H0 H (F'::Fs) w'->(∀k,k < w.heap.size->(∀p∈F,p.1≠k)->w'.heap[k]? = w.heap[k]?)->K (.slice s'.a s'.n s'.c) w'):opK pG E (xBuiltin .append #[79,9] ty ks [.slice s.a s.n s.c,.string b]) w K:=
  d5j (bytes:=1) (λ_=>rfl) underlying79 underlying9 e5P (by kernel_rfl) (by kernel_rfl) (by kernel_rfl) I hr b hb h
theorem b0F(s:BA):Pu pG (xBuiltin .len #[9] 3 [false] [.string s]) (.int .i64 (s.size:Int)):=d0u _ _ s underlying9
theorem c3J(a0:BA)(aa:Int)(ab:Int):Pu pG (yI 167 #[(0,(wS a0)),(2,(Value.agg #[(vi aa),(vi ab)]))]) (.agg #[(wS a0),(vi 0),(vi aa),(vi ab),(nS)]):=puk
abbrev m8(x:d6):List Value:=[(vi x.d9),(wS x.N9),(vi x.A6),(vi x.fAt.Q3),(vi x.fAt.Z6)]
theorem a9K(x:d6):(m8 x).length=5:=rfl
theorem a9L(x:d6):(m8 x).all (·.oneCell')=true:=rfl
theorem a1b{g o}:fQ 167 1 1 g o:=puk
theorem b0s{g o}:fQ 167 0 0 g o:=puk
theorem a8w{g o}:fQ 167 2 2 g o:=puk
theorem b7Q{g o}:fQ 47 1 1 g o:=puk
theorem b7R{g o}:fQ 47 0 0 g o:=puk
theorem b0C(a0:Int)(a1:Int):Pu pG (yI 47 #[(0,(vi a0)),(1,(vi a1))]) (.agg #[(vi a0),(vi a1)]):=puk
theorem b2N{g o}:fQ 167 3 4 g o:=puk
theorem d0E  : Pu pG (yI 184 #[]) (.agg #[(nS)]):=puk
abbrev G9(x:m9):List Value:=[(wS x.fname),(vi x.fas)]
theorem a7X(x:m9):(G9 x).length=2:=rfl
theorem a7Y(x:m9):(G9 x).all (·.oneCell')=true:=rfl
theorem a3G{g o}:fQ 184 0 0 g o:=puk
theorem a9M(a0:BA)(a1:Int):Pu pG (yI 186 #[(0,(wS a0)),(1,(vi a1))]) (.agg #[(wS a0),(vi a1)]):=puk
theorem b7S(aa:BA)(Y2:Int)(w:World):(Instr.buildSlice 182 1 #[(0,(Value.agg #[(wS aa),(vi Y2)]))]).run pG w=.ok (.slice (some ⟨w.heap.size,0,none⟩) 1 1) (w.alloc (.cells [(wS aa),(vi Y2)].toArray 186)):=by kernel_rfl
theorem d8z:Tryz.prog.info? 186=some ((Tryz.prog.info? 186).getD default):=by kernel_rfl
theorem c0k{E:Pan}{w0 w:World}{ps:Nat->Prop}{H0 H:Hp}{Fs:List Frag}{K:Value->World->Prop}{s:Sl}{xs:List m9}{F:Frag}{t2:Sl}{ys:List m9}{ks:List Bool}{ty:TypeId}(I:Inv w0 ps H0 H (F::Fs) w)(hr:RowL 186 2 G9 s xs F)(hs:SrcO w G9 t2 ys)(hb:(xs.length+ys.length)*25<=140737488355328)(h:∀(s':Sl)(F':Frag)(w':World),RowL 186 2 G9 s' (xs++ys) F'->Inv w0 ps H0 H (F'::Fs) w'->(∀k,k < w.heap.size->(∀p∈F,p.1≠k)->w'.heap[k]? = w.heap[k]?)->K (.slice s'.a s'.n s'.c) w'):opK pG E (xBuiltin .append #[182,182] ty ks [.slice s.a s.n s.c,.slice t2.a t2.n t2.c]) w K:=
  b4t (bytes:=24) underlying182 d8z (z:=(Value.agg #[(eS),(vi 0)])) (by kernel_rfl) (by kernel_rfl) (by kernel_rfl) (by kernel_rfl) I hr hs hb h
theorem b2T(a:Option Addr)(n c:Nat):Pu pG (xBuiltin .len #[53] 3 [false] [.slice a n c]) (.int .i64 (n:Int)):=a1u underlying53 a n c
theorem d2v{a:Option Addr}{g o:Nat}(ha:a=some ⟨g,o,none⟩)(len cap:Nat)(k:IntKind)(i:Int)(h0:0<=i)(h1:i < len):Pu pG (xV (Instr.indexAt 182 (.slice a len cap) (.int k i))) (.pointer (some ⟨g,o+i.toNat*2,none⟩)):=a0B underlying182 sizeOf186 ha len cap k i h0 h1
theorem b6y{g o}:fQ 186 0 0 g o:=puk
theorem c8l{g o}:fQ 186 1 1 g o:=puk
theorem c8m(x y:Operand)(s:Sl):Pu pG (xBin .eql 22 x y (vs s) (.slice none 0 0)) (.bool s.a.isNone):=d2e _ _ _ s underlying22
theorem d8A(w:World):(Instr.buildSlice 22 0 #[]).run pG w=.ok (.slice (some ⟨w.heap.size,0,none⟩) 0 0) (w.alloc (.cells [].toArray 65)):=by kernel_rfl
theorem b5X(a0:Int)(a1:Int)(a2:Int)(a3:Int)(a4:Int)(aa:Int)(ab:Int)(ad:Int)(ae:Int):Pu pG (yI 43 #[(0,(vi a0)),(1,(vi a1)),(2,(vi a2)),(3,(vi a3)),(4,(vi a4)),(6,(Value.agg #[(vi aa),(vi ab)])),(7,(Value.agg #[(vi ad),(vi ae)]))]) (.agg #[(vi a0),(vi a1),(vi a2),(vi a3),(vi a4),(vi 0),(vi aa),(vi ab),(vi ad),(vi ae)]):=puk
theorem d0F  : Pu pG (yI 106 #[]) (.agg #[(vi 0),(vi 0),(vi 0),(vB false),(vB false),(nS)]):=puk
theorem b4A(a:Option Addr)(n c:Nat):Pu pG (xBuiltin .len #[146] 3 [false] [.slice a n c]) (.int .i64 (n:Int)):=a1u underlying146 a n c
theorem d2w{a:Option Addr}{g o:Nat}(ha:a=some ⟨g,o,none⟩)(len cap:Nat)(k:IntKind)(i:Int)(h0:0<=i)(h1:i < len):Pu pG (xV (Instr.indexAt 146 (.slice a len cap) (.int k i))) (.pointer (some ⟨g,o+i.toNat*1,none⟩)):=a0B underlying146 sizeOf149 ha len cap k i h0 h1
theorem b6z{g o}:fQ 106 0 0 g o:=puk
theorem c1e{g o}:fQ 106 1 1 g o:=puk
theorem b6A{g o}:fQ 106 3 3 g o:=puk
theorem b6B{g o}:fQ 106 4 4 g o:=puk
theorem b6C{g o}:fQ 106 5 5 g o:=puk
theorem c2q(a:Option Addr)(n c:Nat):Pu pG (xBuiltin .len #[197] 3 [false] [.slice a n c]) (.int .i64 (n:Int)):=a1u underlying197 a n c
theorem c4I{a:Option Addr}{g o:Nat}(ha:a=some ⟨g,o,none⟩)(len cap:Nat)(k:IntKind)(i:Int)(h0:0<=i)(h1:i < len):Pu pG (xV (Instr.indexAt 197 (.slice a len cap) (.int k i))) (.pointer (some ⟨g,o+i.toNat*1,none⟩)):=a0B underlying197 sizeOf146 ha len cap k i h0 h1
theorem d2x(s:BA):Pu pG (yE 9 (.string s)) (.iface 9 (.string s)):=puk
abbrev C0(x:j8):List Value:=[(O2 x)]
theorem Y3(x:j8):(C0 x).length=1:=rfl
theorem a0x(x:j8):(C0 x).all (·.oneCell')=true:=c5l x
theorem c8Q:Tryz.prog.info? 149=some ((Tryz.prog.info? 149).getD default):=by kernel_rfl
theorem b6U{E:Pan}{w0 w:World}{ps:Nat->Prop}{H0 H:Hp}{Fs:List Frag}{K:Value->World->Prop}{s:Sl}{xs:List j8}{F:Frag}{t2:Sl}{ys:List j8}{ks:List Bool}{ty:TypeId}(I:Inv w0 ps H0 H (F::Fs) w)(hr:RowL 149 1 C0 s xs F)(hs:SrcO w C0 t2 ys)(hb:(xs.length+ys.length)*17<=140737488355328)(h:∀(s':Sl)(F':Frag)(w':World),RowL 149 1 C0 s' (xs++ys) F'->Inv w0 ps H0 H (F'::Fs) w'->(∀k,k < w.heap.size->(∀p∈F,p.1≠k)->w'.heap[k]? = w.heap[k]?)->K (.slice s'.a s'.n s'.c) w'):opK pG E (xBuiltin .append #[146,146] ty ks [.slice s.a s.n s.c,.slice t2.a t2.n t2.c]) w K:=
  b4t (bytes:=16) underlying146 c8Q (z:=Value.nilIface) (by kernel_rfl) (by kernel_rfl) (by kernel_rfl) (by kernel_rfl) I hr hs hb h
theorem c6m(aa:BA)(Y2:Int):Pu pG (yI 200 #[(0,(Value.agg #[(wS aa),(vi Y2)]))]) (.agg #[(wS aa),(vi Y2)]):=puk
theorem c3K(x:a1z):Pu pG (yE 200 (.agg #[(wS x.a2W.o7),(vi x.a2W.D2)])) (O2 (j8.T7 x)):=Pu.ok λ_=>rfl
theorem c6n(aa:Int)(Y2:BA)(a0_2a:Option Addr)(a0_2n a0_2c:Nat)(a0_3a:Option Addr)(a0_3n a0_3c:Nat)(a0_4a:Option Addr)(a0_4n a0_4c:Nat)(a0_5a:Option Addr)(a0_5n a0_5c:Nat):Pu pG (yI 202 #[(0,(Value.agg #[(vi aa),(wS Y2),(Value.slice a0_2a a0_2n a0_2c),(Value.slice a0_3a a0_3n a0_3c),(Value.slice a0_4a a0_4n a0_4c),(Value.slice a0_5a a0_5n a0_5c)]))]) (.agg #[(vi aa),(wS Y2),(Value.slice a0_2a a0_2n a0_2c),(Value.slice a0_3a a0_3n a0_3c),(Value.slice a0_4a a0_4n a0_4c),(Value.slice a0_5a a0_5n a0_5c)]):=puk
theorem c3L(x:a0D):Pu pG (yE 202 (.agg #[(vi x.t8.d9),(wS x.t8.o7),(vs x.t8.z7),(vs x.t8.D4),(vs x.t8.T5),(vs x.t8.T6)])) (O2 (j8.Q8 x)):=Pu.ok λ_=>rfl
theorem b7T(a0 a1 a2 a3 a4:BA):Pu pG (yI 214 #[(0,.string a0),(1,.string a1),(2,.string a2),(3,.string a3),(4,.string a4)]) (.agg #[.string a0,.string a1,.string a2,.string a3,.string a4]):=puk
theorem d0G(a0 a1 a2 a3 a4:BA)(k:IntKind)(i:Int)(h0:0<=i)(h1:i < 5):Pu pG (yX 214 (.agg #[.string a0,.string a1,.string a2,.string a3,.string a4]) (.int k i)) (.string (([a0,a1,a2,a3,a4]:List BA).getD i.toNat ⟨#[]⟩)):=by
  obtain rfl | rfl | rfl | rfl | rfl:=(by omega:i=0\/i=1\/i=2\/i=3\/i=4)
  · exact Pu.ok λw=>by kernel_rfl
  · exact Pu.ok λw=>by kernel_rfl
  · exact Pu.ok λw=>by kernel_rfl
  · exact Pu.ok λw=>by kernel_rfl
  · exact Pu.ok λw=>by kernel_rfl
theorem b0t(a0 a1 a2 a3 a4 a5:BA):Pu pG (yI 215 #[(0,.string a0),(1,.string a1),(2,.string a2),(3,.string a3),(4,.string a4),(5,.string a5)]) (.agg #[.string a0,.string a1,.string a2,.string a3,.string a4,.string a5]):=puk
theorem c2r(a0 a1 a2 a3 a4 a5:BA)(k:IntKind)(i:Int)(h0:0<=i)(h1:i < 6):Pu pG (yX 215 (.agg #[.string a0,.string a1,.string a2,.string a3,.string a4,.string a5]) (.int k i)) (.string (([a0,a1,a2,a3,a4,a5]:List BA).getD i.toNat ⟨#[]⟩)):=by
  obtain rfl | rfl | rfl | rfl | rfl | rfl:=(by omega:i=0\/i=1\/i=2\/i=3\/i=4\/i=5)
  · exact Pu.ok λw=>by kernel_rfl
  · exact Pu.ok λw=>by kernel_rfl
  · exact Pu.ok λw=>by kernel_rfl
  · exact Pu.ok λw=>by kernel_rfl
  · exact Pu.ok λw=>by kernel_rfl
  · exact Pu.ok λw=>by kernel_rfl
theorem a9N(a0:Int)(a1:BA):Pu pG (yI 127 #[(0,(vi a0)),(1,(wS a1))]) (.agg #[(vi a0),(wS a1),(vi 0),(vi 0),(vi 0)]):=puk
theorem d0H(x:Operand){v:Value}(h:okI v):Pu pG (xBin .neq 156 x (.const Value.nilIface) v Value.nilIface) (.bool (!isNilI v)):=d5e _ _ (by kernel_rfl) h
theorem d8B(s:BA)(k:IntKind)(i:Int)(h0:0<=i)(h1:i < s.size):Pu pG (yX 9 (.string s) (.int k i)) (.int .u8 ((s.get! i.toNat).toNat:Int)):=c5Q _ s k i underlying9 h0 h1
theorem c2s  : Pu pG (yI 127 #[]) (.agg #[(vi 0),(eS),(vi 0),(vi 0),(vi 0)]):=puk
theorem c1f{g o}:fQ 228 2 2 g o:=puk
theorem d8C(a0:Int)(a1:Int)(a2:Int)(w:World):(Instr.buildSlice 26 3 #[(0,(vi a0)),(1,(vi a1)),(2,(vi a2))]).run pG w=.ok (.slice (some ⟨w.heap.size,0,none⟩) 3 3) (w.alloc (.cells [(vi a0),(vi a1),(vi a2)].toArray 3)):=by kernel_rfl
theorem b5f(a0 a1 a2 a3 a4 a5 a6:BA):Pu pG (yI 263 #[(0,.string a0),(1,.string a1),(2,.string a2),(3,.string a3),(4,.string a4),(5,.string a5),(6,.string a6)]) (.agg #[.string a0,.string a1,.string a2,.string a3,.string a4,.string a5,.string a6]):=puk
theorem d0I(a0 a1 a2 a3 a4 a5 a6:BA)(k:IntKind)(i:Int)(h0:0<=i)(h1:i < 7):Pu pG (yX 263 (.agg #[.string a0,.string a1,.string a2,.string a3,.string a4,.string a5,.string a6]) (.int k i)) (.string (([a0,a1,a2,a3,a4,a5,a6]:List BA).getD i.toNat ⟨#[]⟩)):=by
  obtain rfl | rfl | rfl | rfl | rfl | rfl | rfl:=(by omega:i=0\/i=1\/i=2\/i=3\/i=4\/i=5\/i=6)
  · exact Pu.ok λw=>by kernel_rfl
  · exact Pu.ok λw=>by kernel_rfl
  · exact Pu.ok λw=>by kernel_rfl
  · exact Pu.ok λw=>by kernel_rfl
  · exact Pu.ok λw=>by kernel_rfl
  · exact Pu.ok λw=>by kernel_rfl
  · exact Pu.ok λw=>by kernel_rfl
theorem c8R(aa:Int)(Y2:Int)(ab:BA)(a0_3a:Option Addr)(a0_3n a0_3c:Nat)(ad:Int)(ae:Int)(ag:BA)(a1_3a:Option Addr)(a1_3n a1_3c:Nat)(w:World):(Instr.buildSlice 52 2 #[(0,(Value.agg #[(vi aa),(vi Y2),(wS ab),(Value.slice a0_3a a0_3n a0_3c)])),(1,(Value.agg #[(vi ad),(vi ae),(wS ag),(Value.slice a1_3a a1_3n a1_3c)]))]).run pG w=.ok (.slice (some ⟨w.heap.size,0,none⟩) 2 2) (w.alloc (.cells [(vi aa),(vi Y2),(wS ab),(Value.slice a0_3a a0_3n a0_3c),(vi ad),(vi ae),(wS ag),(Value.slice a1_3a a1_3n a1_3c)].toArray 112)):=by kernel_rfl
theorem c1y(a0:Int)(a1:Int)(aa:Option Addr)(ab ad:Nat):Pu pG (yI 115 #[(0,(vi a0)),(1,(vi a1)),(2,(Value.slice aa ab ad))]) (.agg #[(vi a0),(vi a1),(Value.slice aa ab ad),(nS)]):=puk
theorem b9q(a0:Int):Pu pG (yI 115 #[(0,(vi a0))]) (.agg #[(vi a0),(vi 0),(nS),(nS)]):=puk
theorem b6V(a0:Int)(aa:Option Addr)(ab ad:Nat):Pu pG (yI 115 #[(0,(vi a0)),(3,(Value.slice aa ab ad))]) (.agg #[(vi a0),(vi 0),(nS),(Value.slice aa ab ad)]):=puk
theorem b2U(a5 a6 a7 a8 a9 a10 a3 a4:Int):Pu pG (yI 251 #[(5,.int .i64 a5),(6,.int .i64 a6),(7,.int .i64 a7),(8,.int .i64 a8),(9,.int .i64 a9),(10,.int .i64 a10),(3,.int .i64 a3),(4,.int .i64 a4)]) (.agg #[.int .i64 0,.int .i64 0,.int .i64 0,.int .i64 a3,.int .i64 a4,.int .i64 a5,.int .i64 a6,.int .i64 a7,.int .i64 a8,.int .i64 a9,.int .i64 a10]):=puk
theorem d0J(a0 a1 a2 a3 a4 a5 a6 a7 a8 a9 a10:Int)(k:IntKind)(i:Int)(h0:0<=i)(h1:i < 11):Pu pG (yX 251 (.agg #[.int .i64 a0,.int .i64 a1,.int .i64 a2,.int .i64 a3,.int .i64 a4,.int .i64 a5,.int .i64 a6,.int .i64 a7,.int .i64 a8,.int .i64 a9,.int .i64 a10]) (.int k i)) (.int .i64 (([a0,a1,a2,a3,a4,a5,a6,a7,a8,a9,a10]:List Int).getD i.toNat 0)):=by
  obtain rfl | rfl | rfl | rfl | rfl | rfl | rfl | rfl | rfl | rfl | rfl:=(by omega:i=0\/i=1\/i=2\/i=3\/i=4\/i=5\/i=6\/i=7\/i=8\/i=9\/i=10)
  · exact Pu.ok λw=>by kernel_rfl
  · exact Pu.ok λw=>by kernel_rfl
  · exact Pu.ok λw=>by kernel_rfl
  · exact Pu.ok λw=>by kernel_rfl
  · exact Pu.ok λw=>by kernel_rfl
  · exact Pu.ok λw=>by kernel_rfl
  · exact Pu.ok λw=>by kernel_rfl
  · exact Pu.ok λw=>by kernel_rfl
  · exact Pu.ok λw=>by kernel_rfl
  · exact Pu.ok λw=>by kernel_rfl
  · exact Pu.ok λw=>by kernel_rfl
theorem c5m(x:j8):Pu pG (xV (Instr.typeAssert (O2 x) 149 200 true)) (.tuple #[(Value.agg #[(wS ((((x.a5c)).a2W).o7)),(vi ((((x.a5c)).a2W).D2))]),.bool (x.a9E)]):=by
  cases x<;>exact Pu.ok λw=>by kernel_rfl
theorem b6D{g o}:fQ 200 0 0 g o:=puk
theorem c5n(x:j8):Pu pG (xV (Instr.typeAssert (O2 x) 149 202 true)) (.tuple #[(Value.agg #[(vi ((((x.D5)).t8).d9)),(wS ((((x.D5)).t8).o7)),(Value.slice ((((x.D5)).t8).z7).a ((((x.D5)).t8).z7).n ((((x.D5)).t8).z7).c),(Value.slice ((((x.D5)).t8).D4).a ((((x.D5)).t8).D4).n ((((x.D5)).t8).D4).c),(Value.slice ((((x.D5)).t8).T5).a ((((x.D5)).t8).T5).n ((((x.D5)).t8).T5).c),(Value.slice ((((x.D5)).t8).T6).a ((((x.D5)).t8).T6).n ((((x.D5)).t8).T6).c)]),.bool (x.a9F)]):=by
  cases x<;>exact Pu.ok λw=>by kernel_rfl
theorem V0{g o}:fQ 202 0 0 g o:=puk
theorem c5o(x:j8):Pu pG (xV (Instr.typeAssert (O2 x) 149 253 true)) (.tuple #[(Value.agg #[(vi ((((x.O8)).C8).d9)),(vi ((((x.O8)).C8).A6)),(wS ((((x.O8)).C8).o7)),(Value.slice ((((x.O8)).C8).L8).a ((((x.O8)).C8).L8).n ((((x.O8)).C8).L8).c)]),.bool (x.a9G)]):=by
  cases x<;>exact Pu.ok λw=>by kernel_rfl
theorem a2e{g o}:fQ 253 0 0 g o:=puk
theorem c8n{g o}:fQ 228 0 0 g o:=puk
theorem c8o{g o}:fQ 228 1 1 g o:=puk
theorem c3M(a0:Int)(a1:Int):Pu pG (yI 112 #[(0,(vi a0)),(1,(vi a1))]) (.agg #[(vi a0),(vi a1),(eS),(nS)]):=puk
theorem c3N(a0:Int)(a2:BA):Pu pG (yI 112 #[(0,(vi a0)),(2,(wS a2))]) (.agg #[(vi a0),(vi 0),(wS a2),(nS)]):=puk
theorem c1z(a0:Int)(a2:BA)(aa:Option Addr)(ab ad:Nat):Pu pG (yI 112 #[(0,(vi a0)),(2,(wS a2)),(3,(Value.slice aa ab ad))]) (.agg #[(vi a0),(vi 0),(wS a2),(Value.slice aa ab ad)]):=puk
theorem b6W(a0:Int)(aa:Option Addr)(ab ad:Nat):Pu pG (yI 112 #[(0,(vi a0)),(3,(Value.slice aa ab ad))]) (.agg #[(vi a0),(vi 0),(eS),(Value.slice aa ab ad)]):=puk
theorem c6q(a0:Int):Pu pG (yI 112 #[(0,(vi a0))]) (.agg #[(vi a0),(vi 0),(eS),(nS)]):=puk
theorem a5d(a0:Int)(a1:Int):Pu pG (yI 294 #[(0,(vi a0)),(1,(vi a1))]) (.agg #[(vi a0),(vi a1)]):=puk
theorem d8D(d:Nat)(a0 b0:Int)(a1 b1:Int)(w:World):(Op.equalIn (d+2) 294 (.agg #[(vi a0),(vi a1)]) (.agg #[(vi b0),(vi b1)])).run pG w=.ok (decide (a0=b0/\a1=b1)) w:=by
  have u3:=underlying3
  have i3:=isAgg3
  have s3:=sizeOf3
  have hS:Tryz.prog.underlying 294=some (.struct (Tryz.prog.fieldsOf 294)):=by kernel_rfl
  rw [run_equalIn_agg w (d+1) 294 _ _ hS (by kernel_rfl)]
  simp only [Program.fieldsOf,underlying294]
  go_simp
  try simp only [b5b]
  by_cases h0:a0=b0
  · by_cases h1:a1=b1
    · simp [h0,h1]
    · simp [h0,h1]
  · simp [h0]
theorem b0S(x y:Operand)(a0 b0:Int)(a1 b1:Int):Pu pG (xBin .eql 294 x y (.agg #[(vi a0),(vi a1)]) (.agg #[(vi b0),(vi b1)])) (.bool (decide (a0=b0/\a1=b1))):=by
  refine Pu.ok (s:=do eqGuard .eql 294 x y (.agg #[(vi a0),(vi a1)]) (.agg #[(vi b0),(vi b1)]);binOp .eql 294 (.agg #[(vi a0),(vi a1)]) (.agg #[(vi b0),(vi b1)])) λw=>?_
  rw [Sem.run_bind,run_eqGuard_agg w _ _ _ _ _ _ (by kernel_rfl),Result.andThen_ok,run_eql_struct,show (10000:Nat)=9998+2 from rfl,d8D]
  rfl
theorem d0K  : Pu pG (yI 294 #[]) (.agg #[(vi 0),(vi 0)]):=puk
theorem d5o(aa:Option Addr)(ab ad:Nat)(ae:Option Addr)(ag ah:Nat)(ai:Option Addr)(aj ak:Nat)(al:Option Addr)(am an:Nat)(w:World):(Instr.buildSlice 197 4 #[(0,(Value.slice aa ab ad)),(1,(Value.slice ae ag ah)),(2,(Value.slice ai aj ak)),(3,(Value.slice al am an))]).run pG w=.ok (.slice (some ⟨w.heap.size,0,none⟩) 4 4) (w.alloc (.cells [(Value.slice aa ab ad),(Value.slice ae ag ah),(Value.slice ai aj ak),(Value.slice al am an)].toArray 146)):=by kernel_rfl
theorem c6r(aa:Int)(Y2:Int)(a0_2a:Option Addr)(a0_2n a0_2c:Nat)(a0_3a:Option Addr)(a0_3n a0_3c:Nat):Pu pG (yI 300 #[(0,(Value.agg #[(vi aa),(vi Y2),(Value.slice a0_2a a0_2n a0_2c),(Value.slice a0_3a a0_3n a0_3c)]))]) (.agg #[(vi aa),(vi Y2),(Value.slice a0_2a a0_2n a0_2c),(Value.slice a0_3a a0_3n a0_3c)]):=puk
theorem c3O(x:a0E):Pu pG (yE 300 (.agg #[(vi x.C3.d9),(vi x.C3.fOp),(vs x.C3.z7),(vs x.C3.E9)])) (O2 (j8.U9 x)):=Pu.ok λ_=>rfl
theorem c6s(aa:Int)(Y2:Int)(ab:BA)(a0_3a:Option Addr)(a0_3n a0_3c:Nat):Pu pG (yI 253 #[(0,(Value.agg #[(vi aa),(vi Y2),(wS ab),(Value.slice a0_3a a0_3n a0_3c)]))]) (.agg #[(vi aa),(vi Y2),(wS ab),(Value.slice a0_3a a0_3n a0_3c)]):=puk
theorem b6X(x:U6):Pu pG (yE 253 (.agg #[(vi x.C8.d9),(vi x.C8.A6),(wS x.C8.o7),(vs x.C8.L8)])) (O2 (j8.Q2 x)):=Pu.ok λ_=>rfl
theorem a3H{g o}:fQ 300 0 0 g o:=puk
theorem a9O(a0:Int)(a1:Int):Pu pG (yI 302 #[(0,(vi a0)),(1,(vi a1))]) (.agg #[(vi a0),(vi a1)]):=puk
theorem d8E(d:Nat)(a0 b0:Int)(a1 b1:Int)(w:World):(Op.equalIn (d+2) 302 (.agg #[(vi a0),(vi a1)]) (.agg #[(vi b0),(vi b1)])).run pG w=.ok (decide (a0=b0/\a1=b1)) w:=by
  have u3:=underlying3
  have i3:=isAgg3
  have s3:=sizeOf3
  have hS:Tryz.prog.underlying 302=some (.struct (Tryz.prog.fieldsOf 302)):=by kernel_rfl
  rw [run_equalIn_agg w (d+1) 302 _ _ hS (by kernel_rfl)]
  simp only [Program.fieldsOf,underlying302]
  go_simp
  try simp only [b5b]
  by_cases h0:a0=b0
  · by_cases h1:a1=b1
    · simp [h0,h1]
    · simp [h0,h1]
  · simp [h0]
theorem b6j(x y:Operand)(a0 b0:Int)(a1 b1:Int):Pu pG (xBin .eql 302 x y (.agg #[(vi a0),(vi a1)]) (.agg #[(vi b0),(vi b1)])) (.bool (decide (a0=b0/\a1=b1))):=by
  refine Pu.ok (s:=do eqGuard .eql 302 x y (.agg #[(vi a0),(vi a1)]) (.agg #[(vi b0),(vi b1)]);binOp .eql 302 (.agg #[(vi a0),(vi a1)]) (.agg #[(vi b0),(vi b1)])) λw=>?_
  rw [Sem.run_bind,run_eqGuard_agg w _ _ _ _ _ _ (by kernel_rfl),Result.andThen_ok,run_eql_struct,show (10000:Nat)=9998+2 from rfl,d8E]
  rfl
theorem d0L  : Pu pG (yI 302 #[]) (.agg #[(vi 0),(vi 0)]):=puk
theorem b7U(a0:j8)(w:World):(Instr.buildSlice 146 1 #[(0,(O2 a0))]).run pG w=.ok (.slice (some ⟨w.heap.size,0,none⟩) 1 1) (w.alloc (.cells [(O2 a0)].toArray 149)):=by cases a0<;>kernel_rfl
abbrev q7(x:o8):List Value:=[(vs x.a2h),(vs x.a7s)]
abbrev r9(x:s6):List Value:=[(vs x.E0),(vi x.D7),(vs x.C1),(vi x.i7),(vi x.K8),(vs x.E1)]
abbrev p9(x:f8):List Value:=[(vi x.Q3),(vi x.Z6)]
abbrev A0(x:z6):List Value:=[(vi x.K3),(vi x.A6)]
abbrev b1j(x:r7):List Value:=[(vB x.fdst),(vB x.farr),(vB x.fop),(vB x.fa),(vB x.fb)]
abbrev b6Y(x:v6):List Value:=[(vi x.fnodes),(vi x.fdepth),(vi x.fe),(vB x.fform),(vB x.fnamed),(vs x.fnames)]
abbrev f9(x:c8):List Value:=[(vs x.fl),(vi x.fn)]
abbrev a0y(x:a3S):List Value:=[(vs x.fsigns),(vs x.fkinds),x.fpart]
set_option maxHeartbeats 4000000
variable {w:World}{R:RT}{E:Pan}
def d7e(x2 x5 w)(R:RT)(E):=
 ∀_τ:Fr,(opK pG E (lA 25 x2) w λj=>oN E (xCall (fC 9) [j]) λd=>oN E (xT d 0) λm=>oN E (xT d 1) λo=>oN E (xCall (fC 10) [m]) λb=>oN E (xT b 0) λr=>oN E (xT b 1) λt=>oN E (xT b 2) λv=>oN E (yA 25) λe=>oN E (yA 47) λaa=>oN E (sA 25 e r) λ_=>oN E (sA 47 aa t) λ_=>oN E (bC .neq 32 143 o (vI 0)) λc=>oN E (gNo c (bC .neq 32 146 (gval (asB c) false v) (vI 0))) λaf=>oN E (xPick c (vB true) af) λah=>xC ah
 (R (vB true))
 (oN E (lA 25 e) λai=>oN E (xCall (fC 5) [ai]) λg=>oN E (xT g 0) λal=>oN E (xT g 1) λan=>oN E (yA 31) λi=>oN E (sA 31 i al) λ_=>oN E (bC .eql 32 154 an (vI 0)) λa=>oN E (gYs a (lA 31 x5)) λau=>oN E (gYs a (lA 31 i)) λaw=>oN E (gYs a (xCall (fC 11) [au,aw])) λay=>oN E (xPick a ay (vB false)) λba=>R ba))
def d7f(_x1 _x2 x5 _x9 x11 x12 x13 x14:Value)(w)(next3:NT)(R:RT)(E):=
 ∀_τ:Fr,(opK pG E (fA 31 x5 3) w λc=>oN E (lA 3 c) λe=>oN E (bN .gtr 3 124 126 x12 e) λa=>oN E (gYs a (yT (gval (asB a) true x13))) λi=>oN E (xPick a i (vB false)) λk=>xC k
 (R (vB false))
 (oN E (bC .add 3 85 x14 (vI 1)) λl=>next3 [x11,x12,x13,l]))
def d7g(x1 x2 x5 x9 x12 x13 x14 x15 x17 w)(next3:NT)(R:RT)(E):=
 ∀_τ:Fr,(dX w λa=>qP pG (fA 31 x5 5) λb=>qP pG (iA 26 x15 x17) λc=>qL pG a (blk b) (lA 29 b) λg=>qL pG a (blk c) (lA 3 c) λi=>qP pG (iA 29 g i) λj=>qP pG (fA 43 j 1) λd=>qL pG a (blk d) (lA 3 d) λe=>(oN E (bC .add 3 118 x12 (vI 1)) λk=>xK (λm n=>d7f x1 x2 x5 x9 e k (nth m 0) x14 n next3 R E) λj5=>oN E (iA 38 x9 e) λo=>oN E (lA 4 o) λq=>xC q
 (j5 [(vB true)])
 (j5 [x13])) a)
def e5Q(x1 x2 x5 x9 x11 x12 x13 x14 w)(j2:NT)(next3:NT)(R:RT)(E):=
 opK pG E (yN 26 x1) w λi=>oN E (bN .lss 3 77 79 x14 i) λb=>oN E (gYs b (bC .lss 3 82 (gval (asB b) true x14) (vI 2000))) λl=>oN E (xPick b l (vB false)) λn=>xC n
 (oN E (lA 31 x5) λo=>oN E (xCall (fC 8) [o,x11]) λe=>oN E (xT e 0) λa=>oN E (xT e 1) λ_t92_121=>oN E (yN 26 a) λt=>oN E (bC .eql 3 94 t (vI 0)) λv=>xC v
 (j2 [])
 (oN E (iA 26 x1 x14) λy=>oN E (lA 3 y) λaa=>oN E (yN 26 a) λac=>oN E (bN .rem 3 99 101 aa ac) λc=>xK (λaf ag=>d7g x1 x2 x5 x9 x12 x13 x14 a (nth af 0) ag next3 R E) λj4=>oN E (bC .lss 3 103 c (vI 0)) λah=>xC ah
 (oN E (yN 26 a) λai=>oN E (bN .add 3 105 107 c ai) λak=>j4 [ak])
 (j4 [c])))
 (j2 [])
def d7h(x1 x2 x5 x9 w)(R:RT)(E):=
 ∀_τ:Fr,(xcut (λ_ b=>d7e x2 x5 b R E) λj2=>xloop [11,12,13,14] [(vI 0),(vI 0),(vB false),(vI 0)] w λa c next3=>e5Q x1 x2 x5 x9 (a 11) (a 12) (a 13) (a 14) c j2 next3 R E)
def e5R(_x1 _x2 x5 x7 x9 x10:Value)(w)(next6:NT)(j1:NT)(R:RT)(E):=
 opK pG E (yN 26 x7) w λg=>oN E (bN .lss 3 51 53 x10 g) λj=>xC j
 (dN λb=>qP pG (iA 26 x7 x10) λd=>qL pG b (blk d) (lA 3 d) λk=>qP pG (bC .lss 3 60 k (vI 0)) λa=>qP pG (gNo a (iA 26 (gval (asB a) false x7) (gval (asB a) false x10))) λe=>qP pG (gNo a (fA 31 x5 3)) λf=>qL pG b (blk e) (gNo a (lA 3 e)) λl=>qL pG b (blk f) (gNo a (lA 3 f)) λm=>qP pG (gNo a (bN .geq 3 66 68 l m)) λn=>qP pG (xPick a (vB true) n) λo=>xcond o
 (R (vB false) b)
 ((oN E (iA 26 x7 x10) λp=>oN E (lA 3 p) λr=>oN E (iA 38 x9 r) λt=>oN E (sA 4 t (vB true)) λ_=>oN E (bC .add 3 55 x10 (vI 1)) λy=>next6 [y]) b))
 (j1 [])
def F3(x0 x1 w)(R:RT)(E):=
 opK pG E (yB 25 x0) w λc=>oN E (xCall (fC 4) []) λn=>oN E (yT n) λp=>xC p
 (R (vB false))
 (oN E (lA 25 c) λq=>oN E (xCall (fC 5) [q]) λf=>oN E (xT f 0) λt=>oN E (xT f 1) λv=>oN E (yA 31) λa=>oN E (sA 31 a t) λ_=>oN E (bC .neq 32 29 v (vI 0)) λb=>oN E (gNo b (fA 31 a 3)) λac=>oN E (gNo b (lA 3 ac)) λae=>oN E (gNo b (bC .gtr 3 33 ae (vI 400))) λag=>oN E (xPick b (vB true) ag) λai=>xC ai
 (R (vB true))
 (oN E (lA 31 a) λaj=>oN E (xCall (fC 6) [aj]) λi=>oN E (xT i 0) λam=>oN E (xT i 1) λao=>oN E (lA 31 a) λaq=>oN E (xCall (fC 7) [aq]) λau=>oN E (bC .neq 32 42 au (vI 0)) λd=>oN E (gNo d (bC .neq 32 45 (gval (asB d) false ao) (vI 0))) λax=>oN E (xPick d (vB true) ax) λaz=>xC az
 (R (vB false))
 (oN E (fA 31 a 3) λba=>oN E (lA 3 ba) λk=>oN E (yM 38 k k) λl=>xK (λ_ be=>d7h x1 c a l be R E) λj1=>xL [10] [(vI 0)] λbf bg next6=>e5R x1 c a am l (bf 10) bg next6 j1 R E)))
def h3:Hint:=(sQ (hS (sQ (hC (sQ hN) hN)) (sQ (hS (sQ (hC (sQ hN) hN)) (sQ (hS (sQ (hC (sQ hN) hN)) (sQ (hU [] (sQ (hB (hL [10] (hS (sQ (hC hN hN)) (hS (hB (hS (hS (.reg [(0,2^57,128),(0,2^58,1024),(3,2^59,2^57+2^58),(4,2^60,2^59),(8,2^61,2^60),(16,2^62,2^61),(32,2^63,2^7+2^62),(32,2^64,2^10+2^62),(224,2^65,2^62+2^63+2^64),(288,2^66,2^62+2^65),(32,2^67,2^5+2^62),(1056,2^68,2^62+2^67),(2592,2^69,2^62+2^66+2^68),(4128,2^70,2^62+2^69)] [2568,2568,2568,2560,2568,2568,2568,2568,2568,2056,2568,520,2568,2568] (eO 0 (eO 1 (eO 2 (lO 3 (eO 4 (eO 5 (eO 6 (eO 7 (eO 8 (eO 10 (lO 9 (lO 11 (eO 12 (eO 13 dO))))))))))))))) (hC (sQ hN) hN)) hN)) hN))))) (sQ (hU [] (sQ (hB (hL [11,12,13,14] (hS (sQ (hC hN hN)) (hS (hB (sQ (hS (sQ (hC hN hN)) (sQ (hU [17] (sQ (hC hN hN)) (hS (.reg [(0,2^109,32),(1,2^110,2^109),(0,2^111,2^15),(0,2^112,2^17),(12,2^113,2^111+2^112),(16,2^114,2^113),(34,2^115,2^110+2^114),(64,2^116,2^115),(128,2^117,2^116),(511,2048,2^117)] [290,288,290,290,290,258,290,290,34,290] (eO 0 (eO 2 (eO 3 (eO 4 (lO 1 (lO 5 (eO 6 (eO 7 (lO 8 (eO 9 dO))))))))))) (sQ (hU [13] (sQ (hC hN hN)) (sQ (hC (sQ hN) hN)))))))))) hN))))) (sQ (sQ (hS (sQ (hC (sQ hN) hN)) (sQ (sQ hN)))))))))))))))
theorem e5S{x0 x1}(h:F3 x0 x1 w R E):Cv pG 3 #[x0,x1] w R E:=okG (h3) func3 h
def F4(w)(R:RT)(E):=
 opK pG E (yI 55 #[(0,(vI 7))]) w λg=>oN E (yS 23 1 #[(0,g)]) λj=>oN E (yI 25 #[(1,j)]) λl=>oN E (xCall (fC 5) [l]) λf=>oN E (xT f 0) λo=>oN E (xT f 1) λq=>oN E (yA 31) λb=>oN E (sA 31 b o) λ_=>oN E (bC .eql 32 10 q (vI 0)) λd=>oN E (gYs d (fA 31 b 3)) λv=>oN E (gYs d (lA 3 v)) λz=>oN E (gYs d (bC .eql 3 14 z (vI 2))) λab=>oN E (xPick d ab (vB false)) λe=>oN E (gYs e (fA 31 b 4)) λae=>oN E (gYs e (lA 3 ae)) λag=>oN E (gYs e (bC .eql 3 19 ag (vI 1))) λai=>oN E (xPick e ai (vB false)) λc=>oN E (gYs c (fA 31 b 5)) λal=>oN E (gYs c (lA 29 al)) λan=>oN E (gYs c (yN 29 an)) λap=>oN E (gYs c (bC .eql 3 25 ap (vI 1))) λar=>oN E (xPick c ar (vB false)) λa=>oN E (gYs a (fA 31 b 5)) λaw=>oN E (gYs a (lA 29 aw)) λay=>oN E (gYs a (iA 29 ay (vI 0))) λba=>oN E (gYs a (lA 43 ba)) λbc=>oN E (gYs a (yI 41 #[(0,(vI (-1)))])) λbe=>oN E (gYs a (yI 41 #[(0,(vI (-1)))])) λbg=>oN E (gYs a (yI 43 #[(1,(vI 1)),(2,(vI 1)),(3,(vI (-1))),(4,(vI (-1))),(6,be),(7,bg)])) λbi=>oN E (gYs a (bN .eql 43 32 35 bc bi)) λbk=>oN E (xPick a bk (vB false)) λbm=>R bm
def h4:Hint:=(sQ (sQ (sQ hN)))
theorem e5T(h:F4  w R E):Cv pG 4 #[] w R E:=okG (h4) func4 h
def d0M(x1 x2 x4 x8 w)(R:RT)(E):=
 ∀_τ:Fr,(opK pG E (xV (Instr.makeFunc (.func 15) #[x8] #[])) w λl=>dN λb=>qP pG (fA 25 x1 1) λc=>qP pG (xNil x8) λn=>qP pG (fA 63 n 0) λo=>qP pG (fA 31 o 4) λd=>qL pG b (blk c) (lA 23 c) λp=>qL pG b (blk d) (lA 3 d) λq=>opK pG E (xCall l [p,(vI 0),q]) b λ_t84_47 e=>keepX [] b e (opK pG E (yN 28 x4) e λr=>oN E (xNil x8) λt=>oN E (fA 63 t 0) λv=>oN E (fA 31 v 1) λz=>oN E (lA 3 z) λab=>oN E (bN .add 3 87 92 r ab) λad=>oN E (bC .gtr 3 93 ad (vI 64)) λaf=>xC af
 (oN E (yI 31 #[]) λag=>oN E (sA 31 x2 ag) λ_=>xE 31 x2 λai=>R (yU [ai,(vI 90)]))
 (oN E (xNil x8) λaj=>oN E (fA 63 aj 0) λal=>oN E (fA 31 al 3) λan=>oN E (lA 3 an) λap=>oN E (bC .gtr 3 101 ap (vI 4096)) λa=>oN E (gNo a (xNil (gval (asB a) false x8))) λau=>oN E (gNo a (fA 63 au 0)) λaw=>oN E (gNo a (fA 31 aw 5)) λay=>oN E (gNo a (lA 29 ay)) λba=>oN E (gNo a (yN 29 ba)) λbc=>oN E (gNo a (bC .gtr 3 109 bc (vI 8192))) λbe=>oN E (xPick a (vB true) be) λbg=>xC bg
 (oN E (yI 31 #[]) λbh=>oN E (sA 31 x2 bh) λ_=>xE 31 x2 λbj=>R (yU [bj,(vI 91)]))
 (oN E (xNil x8) λbk=>oN E (fA 63 bk 0) λbm=>oN E (lA 31 bm) λbo=>oN E (sA 31 x2 bo) λ_=>xE 31 x2 λbq=>R (yU [bq,(vI 0)])))))
def d0N(x1 x2 x4 x8 w)(R:RT)(E):=
 ∀_τ:Fr,(xcut (λ_ b=>d0M x1 x2 x4 x8 b R E) λj3=>(oN E (fA 25 x1 1) λc=>oN E (lA 23 c) λe=>oN E (yN 23 e) λg=>oN E (bC .gtr 3 66 g (vI 0)) λj=>xC j
 (oN E (xCall (fC 14) [x8]) λk=>oN E (xNil x8) λm=>oN E (fA 63 m 0) λo=>oN E (fA 31 o 4) λq=>oN E (sA 3 q k) λ_=>j3 [])
 (j3 [])) w)
def d7i(_x1 _x2 _x4 x8 x49 x50 x51:Value)(w)(next4:NT)(j2:NT)(_R:RT)(E):=
 opK pG E (bN .lss 3 51 50 x51 x50) w λg=>xC g
 (oN E (iA 22 x49 x51) λi=>oN E (lA 65 i) λk=>oN E (yA 65) λc=>oN E (sA 65 c k) λ_=>dN λa=>qP pG (xNil x8) λo=>qP pG (fA 63 o 2) λd=>qP pG (fA 65 c 0) λe=>qL pG a (blk d) (lA 61 d) λp=>qL pG a (blk e) (lA 9 e) λq=>opK pG E (xU (Instr.mapUpdate 61 p q x51)) a λ_ f=>keepX [] a f (opK pG E (bC .add 3 51 x51 (vI 1)) f λr=>next4 [r]))
 (j2 [])
def d0O(x1 x2 x4 x6 x8 w)(R:RT)(E):=
 ∀_τ:Fr,(xcut (λ_ a=>d0N x1 x2 x4 x8 a R E) λj2=>(oN E (yN 22 x6) λb=>xL [51] [(vI 0)] λd e next4=>d7i x1 x2 x4 x8 x6 b (d 51) e next4 j2 R E) w)
def d7j(_x1 _x2 _x4 _x6 x8 x35 x36 x37:Value)(w)(next5:NT)(j1:NT)(_R:RT)(E):=
 opK pG E (bN .lss 3 37 36 x37 x36) w λb=>xC b
 (oN E (iA 28 x35 x37) λc=>oN E (lA 9 c) λe=>oN E (xNil x8) λg=>oN E (fA 63 g 1) λj=>oN E (lA 61 j) λl=>oN E (xU (Instr.mapUpdate 61 l e x37)) λ_=>oN E (bC .add 3 37 x37 (vI 1)) λo=>next5 [o])
 (j1 [])
def F5(x0 w)(R:RT)(E):=
 opK pG E (yB 25 x0) w λb=>oN E (yA 31) λc=>oN E (lA 25 b) λn=>oN E (xCall (fC 12) [n]) λe=>oN E (xT e 0) λa=>oN E (xT e 1) λf=>oN E (bC .neq 32 19 f (vI 0)) λs=>xC s
 (oN E (yI 31 #[]) λt=>oN E (sA 31 c t) λ_=>xE 31 c λv=>R (yU [v,f]))
 (oN E (lA 25 b) λy=>oN E (xCall (fC 13) [y]) λj=>oN E (xT j 0) λd=>oN E (xT j 1) λ_t27_26=>oN E (yI 31 #[(0,a),(2,d),(3,(vI 1))]) λad=>oN E (xV (Instr.makeMap 61 none)) λaf=>oN E (xV (Instr.makeMap 61 none)) λah=>oN E (yI 63 #[(0,ad),(1,af),(2,ah)]) λaj=>oN E (yB 63 aj) λk=>xK (λ_ am=>d0O b c a d k am R E) λj1=>oN E (yN 28 a) λan=>xL [37] [(vI 0)] λap aq next5=>d7j b c a d k a an (ap 37) aq next5 j1 R E)
def h5:Hint:=(sQ (sQ (hS (sQ (hC (sQ hN) hN)) (sQ (sQ (hU [] (sQ (hB (hL [37] (sQ (hS (hC hN hN) (hS (hB (sQ hN)) hN)))))) (hU [] (sQ (hB (hL [51] (sQ (hS (hC hN hN) (hS (hB (sQ (.reg [(0,2^56,256),(1,2^57,2^56),(2,2^58,2^57),(4,2^59,2^58),(0,2^60,4096),(16,2^61,2^60),(0,2^62,2048),(127,0,2^59+2^61+2^62)] [40,40,40,32,40,8,40,0] (eO 0 (eO 1 (eO 2 (eO 4 (eO 6 (lO 3 (lO 5 (sO 7 dO))))))))))) hN)))))) (hU [] (sQ (hC hN hN)) (sQ (hS (.reg [(0,2^76,8192),(0,2^77,2),(2,2^78,2^77),(0,2^79,256),(8,2^80,2^79),(16,2^81,2^80),(32,2^82,2^81),(64,2^83,2^82),(133,2^84,2^76+2^78+2^83)] [132,132,128,132,132,132,132,4,0] (eO 0 (eO 1 (eO 3 (eO 4 (eO 5 (eO 6 (lO 2 (lO 7 (sO 8 dO)))))))))) (hS (hB (sQ (hC (sQ hN) (sQ (hC (sQ hN) hN))))) (sQ hN))))))))))))
theorem e5U{x0}(h:F5 x0 w R E):Cv pG 5 #[x0] w R E:=okG (h5) func5 h
def d7k(x13 w)(R:RT)(_E:Pan):=
 ∀_τ:Fr,(R (yU [x13,(vI 0)]) w)
def d7l(_x10 x13 _x74 x75:Value)(w)(next4:NT)(_R:RT)(E):=
 ∀_τ:Fr,(oP E (bC .add 3 75 x75 (vI 1)) w λa b=>next4 [x13,a] b)
def e5V(x10 x13 x74 x75 w)(next4:NT)(j3:NT)(R:RT)(E):=
 opK pG E (bN .lss 3 75 74 x75 x74) w λc=>xC c
 (xK (λd e=>d7l x10 (nth d 0) x74 x75 e next4 R E) λj5=>oN E (iA 38 x10 x75) λf=>oN E (lA 4 f) λi=>xC i
 (oN E (yS 26 1 #[(0,x75)]) λj=>oN E (yP 26 x13 j) λl=>j5 [l])
 (j5 [x13]))
 (j3 [x13])
def d7m(x1 x10 w)(R:RT)(E):=
 ∀_τ:Fr,(xcut (λb c=>d7k (nth b 0) c R E) λj3=>(oN E (fA 31 x1 3) λd=>oN E (lA 3 d) λf=>xL [13,75] [(nS),(vI 0)] λa i next4=>e5V x10 (a 13) f (a 75) i next4 j3 R E) w)
def e5W(_x1 x7 x10 x44 x45 x46:Value)(w)(next6:NT)(j2:NT)(_R:RT)(E):=
 opK pG E (bN .lss 3 46 45 x46 x45) w λn=>xC n
 (oN E (iA 29 x44 x46) λo=>oN E (lA 43 o) λq=>oN E (yA 43) λc=>oN E (sA 43 c q) λ_=>dN λb=>qP pG (fA 43 c 1) λe=>qP pG (fA 43 c 1) λf=>qL pG b (blk e) (lA 3 e) λu=>qL pG b (blk f) (lA 3 f) λv=>qP pG (iA 38 x10 v) λg=>qL pG b (blk g) (lA 4 g) λa=>qP pG (gNo a (fA 43 c 0)) λi=>qP pG (gNo a (fA 43 c 1)) λj=>qL pG b (blk i) (gNo a (lA 3 i)) λy=>qP pG (gNo a (iA 26 (gval (asB a) false x7) y)) λk=>qL pG b (blk k) (gNo a (lA 3 k)) λz=>qL pG b (blk j) (gNo a (lA 3 j)) λaa=>qP pG (gNo a (iA 26 (gval (asB a) false x7) aa)) λl=>qL pG b (blk l) (gNo a (lA 3 l)) λab=>qP pG (gNo a (bN .geq 3 63 68 z ab)) λac=>qP pG (xPick a (vB true) ac) λad=>qP pG (iA 38 x10 u) λae=>opK pG E (sA 4 ae ad) b λ_ m=>keepX [] b m (opK pG E (bC .add 3 46 x46 (vI 1)) m λaf=>next6 [af]))
 (j2 [])
def d7n(x1 x7 w)(R:RT)(E):=
 ∀_τ:Fr,(opK pG E (fA 31 x1 3) w λd=>oN E (lA 3 d) λa=>oN E (yM 38 a a) λb=>xK (λ_ i=>d7m x1 b i R E) λj2=>oN E (fA 31 x1 5) λj=>oN E (lA 29 j) λc=>oN E (yN 29 c) λm=>xL [46] [(vI 0)] λo p next6=>e5W x1 x7 b c m (o 46) p next6 j2 R E)
def e5X(_x1 x7 x28 x29 x30:Value)(w)(next7:NT)(j1:NT)(_R:RT)(E):=
 opK pG E (bN .lss 3 30 29 x30 x29) w λb=>xC b
 (oN E (iA 26 x28 x30) λc=>oN E (lA 3 c) λe=>oN E (iA 26 x7 e) λg=>oN E (sA 3 g x30) λ_=>oN E (bC .add 3 30 x30 (vI 1)) λk=>next7 [k])
 (j1 [])
def h6:Hint:=(sQ (hS (sQ (sQ (hC (sQ hN) hN))) (sQ (sQ (hU [] (sQ (hB (hL [30] (sQ (hS (hC hN hN) (hS (hB (sQ hN)) hN)))))) (sQ (hU [] (sQ (hB (hL [46] (sQ (hS (hC hN hN) (hS (hB (sQ (.reg [(0,2^50,1024),(0,2^51,4096),(2,2^52,2^51),(0,2^53,1024),(0,2^54,4096),(16,2^55,2^54),(40,2^56,2^53+2^55),(64,2^57,2^56),(128,2^58,2^57),(256,2^59,2^7+2^58),(256,2^60,2^12+2^58),(1280,2^61,2^58+2^60),(2816,2^62,2^58+2^59+2^61),(4352,2^63,2^58+2^62),(256,2^64,2^7+2^58),(256,2^65,2^12+2^58),(33024,2^66,2^58+2^65),(82176,2^67,2^58+2^64+2^66),(131328,2^68,2^58+2^67),(270592,2^69,2^58+2^63+2^68),(524544,2^70,2^58+2^69),(2097151,2^71,2^50+2^52),(4194303,0,2^70+2^71)] [338084,338084,338080,338084,338084,338052,338084,337956,338084,338084,338084,336036,338084,329892,338084,338084,272548,338084,75940,338084,338084,338084,0] (eO 0 (eO 1 (eO 3 (eO 4 (lO 2 (lO 5 (eO 6 (lO 7 (eO 8 (eO 9 (eO 10 (eO 14 (eO 15 (lO 11 (eO 12 (lO 13 (lO 16 (eO 17 (lO 18 (eO 19 (eO 20 (eO 21 (sO 22 dO)))))))))))))))))))))))))) hN)))))) (sQ (hU [13] (sQ (hB (hL [13,75] (sQ (hS (hC hN hN) (hU [13] (hB (sQ (sQ (hC hN hN)))) hN)))))) (sQ hN))))))))))
theorem e5Y{x0}(h:opK pG E (yB 31 x0) w λa=>oN E (lA 31 a) λj=>oN E (xCall (fC 7) [j]) λb=>oN E (bC .neq 32 17 b (vI 0)) λm=>xC m
 (R (yU [(nS),b]))
 (oN E (lA 31 a) λn=>oN E (xCall (fC 16) [n]) λd=>oN E (xT d 0) λe=>oN E (xT d 1) λ_t24_15=>oN E (fA 31 a 3) λs=>oN E (lA 3 s) λf=>oN E (yM 26 f f) λg=>xK (λ_ y=>d7n a g y R E) λj1=>oN E (yN 26 e) λz=>xL [30] [(vI 0)] λab ac next7=>e5X a g e z (ab 30) ac next7 j1 R E)):Cv pG 6 #[x0] w R E:=okG (h6) func6 h
def d7o(w)(R:RT)(_E:Pan):=
 ∀_τ:Fr,(R (vI 0) w)
def e5Z(x6 x99 x100 w)(next4:NT)(j3:NT)(R:RT)(E):=
 opK pG E (bN .lss 3 100 99 x100 x99) w λc=>xC c
 (oN E (iA 71 x6 x100) λd=>oN E (lA 29 d) λf=>oN E (xCall (fC 19) [f]) λi=>oN E (yT i) λk=>xC k
 (R (vI 92))
 (oN E (bC .add 3 100 x100 (vI 1)) λl=>next4 [l]))
 (j3 [])
def d7p(x1 x6 w)(R:RT)(E):=
 ∀_τ:Fr,(xcut (λ_ a=>d7o a R E) λj3=>(oN E (fA 31 x1 3) λb=>oN E (lA 3 b) λd=>xL [100] [(vI 0)] λf g next4=>e5Z x6 d (f 100) g next4 j3 R E) w)
def e6a(_x1 x5 x6 x75 x76 x77:Value)(w)(next5:NT)(j2:NT)(R:RT)(E):=
 opK pG E (bN .lss 3 77 76 x77 x76) w λl=>xC l
 (oN E (iA 29 x75 x77) λm=>oN E (lA 43 m) λo=>oN E (yA 43) λa=>oN E (sA 43 a o) λ_=>oN E (lA 69 x5) λs=>oN E (lA 43 a) λu=>oN E (xCall (fC 18) [s,u]) λy=>oN E (yT y) λaa=>xC aa
 (R (vI 92))
 (dN λb=>qP pG (fA 43 a 0) λc=>qP pG (fA 43 a 0) λd=>qL pG b (blk c) (lA 3 c) λab=>qL pG b (blk d) (lA 3 d) λac=>qP pG (iA 71 x6 ac) λe=>qL pG b (blk e) (lA 29 e) λad=>qL pG b (blk a) (lA 43 a) λae=>opK pG E (yS 29 1 #[(0,ae)]) b λaf f=>keepX [(blk e),(blk d),(blk c)] b f (opK pG E (yP 29 ad af) f λag g=>keepX [(blk c)] f g (qP pG (iA 71 x6 ab) λah=>opK pG E (sA 29 ah ag) g λ_ k=>keepX [] g k (opK pG E (bC .add 3 77 x77 (vI 1)) k λai=>next5 [ai])))))
 (j2 [])
def d7q(x1 w)(R:RT)(E):=
 ∀_τ:Fr,(opK pG E (lA 31 x1) w λf=>oN E (yI 69 #[(0,f)]) λi=>oN E (yA 69) λa=>oN E (sA 69 a i) λ_=>oN E (lA 69 a) λm=>oN E (fA 31 x1 4) λo=>oN E (lA 3 o) λq=>oN E (xCall (fC 17) [m,q]) λs=>oN E (yT s) λu=>xC u
 (R (vI 92))
 (oN E (fA 31 x1 3) λv=>oN E (lA 3 v) λc=>oN E (yM 71 c c) λd=>xK (λ_ ab=>d7p x1 d ab R E) λj2=>oN E (fA 31 x1 5) λac=>oN E (lA 29 ac) λe=>oN E (yN 29 e) λaf=>xL [77] [(vI 0)] λah ai next5=>e6a x1 a d e af (ah 77) ai next5 j2 R E))
def e6b(_x1 x49 x50 x51:Value)(w)(next6:NT)(j1:NT)(R:RT)(E):=
 opK pG E (bN .lss 3 51 50 x51 x50) w λe=>xC e
 (oN E (iA 22 x49 x51) λf=>oN E (lA 65 f) λi=>oN E (yA 65) λb=>oN E (sA 65 b i) λ_=>oN E (fA 65 b 1) λm=>oN E (lA 3 m) λo=>oN E (bC .lss 3 56 o (vI 1)) λa=>oN E (gNo a (fA 65 b 1)) λr=>oN E (gNo a (lA 3 r)) λt=>oN E (gNo a (bC .gtr 3 60 t (vI 1024))) λv=>oN E (xPick a (vB true) v) λz=>xC z
 (R (vI 92))
 (oN E (bC .add 3 51 x51 (vI 1)) λaa=>next6 [aa]))
 (j1 [])
def h7:Hint:=(sQ (hS (hB (sQ (hC (sQ hN) (sQ (hC (sQ hN) (sQ (hC (sQ hN) hN))))))) (hU [] (sQ (hB (hL [51] (sQ (hS (hC hN hN) (hS (hB (sQ (sQ (hC (sQ hN) hN)))) hN)))))) (sQ (hS (sQ (hC (sQ hN) hN)) (sQ (hU [] (sQ (hB (hL [77] (sQ (hS (hC hN hN) (hS (hB (sQ (hS (sQ (hC (sQ hN) hN)) (.reg [(0,2^85,64),(0,2^86,256),(2,2^87,2^86),(0,2^88,64),(0,2^89,256),(16,2^90,2^89),(40,2^91,2^88+2^90),(64,2^92,2^91),(0,2^93,256),(256,2^94,2^93),(640,2^95,2^92+2^94),(2047,2^96,2^85+2^87),(4095,0,2^95+2^96)] [420,420,416,420,420,388,420,292,164,164,4,420,0] (eO 0 (eO 1 (eO 3 (eO 4 (lO 2 (lO 5 (eO 6 (lO 7 (lO 8 (sO 9 (sO 10 (eO 11 (sO 12 dO))))))))))))))))) hN)))))) (hU [] (sQ (hB (hL [100] (sQ (hS (hC hN hN) (hS (hB (sQ (sQ (hC (sQ hN) hN)))) hN)))))) (sQ hN)))))))))
theorem e6c{x0}(h:opK pG E (yB 31 x0) w λa=>oN E (fA 31 a 1) λl=>oN E (lA 3 l) λn=>oN E (bC .lss 3 12 n (vI 0)) λd=>oN E (gNo d (fA 31 a 1)) λq=>oN E (gNo d (lA 3 q)) λs=>oN E (gNo d (bC .gtr 3 16 s (vI 64))) λu=>oN E (xPick d (vB true) u) λb=>oN E (gNo b (fA 31 a 0)) λz=>oN E (gNo b (lA 28 z)) λab=>oN E (gNo b (yN 28 ab)) λad=>oN E (gNo b (fA 31 a 1)) λaf=>oN E (gNo b (lA 3 af)) λah=>oN E (gNo b (bN .add 3 22 24 ad ah)) λaj=>oN E (gNo b (bC .gtr 3 25 aj (vI 64))) λal=>oN E (xPick b (vB true) al) λan=>xC an
 (R (vI 90))
 (oN E (fA 31 a 3) λao=>oN E (lA 3 ao) λaq=>oN E (bC .lss 3 30 aq (vI 1)) λe=>oN E (gNo e (fA 31 a 3)) λav=>oN E (gNo e (lA 3 av)) λax=>oN E (gNo e (bC .gtr 3 34 ax (vI 4096))) λaz=>oN E (xPick e (vB true) az) λc=>oN E (gNo c (fA 31 a 5)) λbc=>oN E (gNo c (lA 29 bc)) λbe=>oN E (gNo c (yN 29 be)) λbg=>oN E (gNo c (bC .gtr 3 40 bg (vI 8192))) λbi=>oN E (xPick c (vB true) bi) λbk=>xC bk
 (R (vI 91))
 (oN E (fA 31 a 2) λbl=>oN E (lA 22 bl) λbn=>oN E (yN 22 bn) λbp=>oN E (bC .gtr 3 46 bp (vI 16)) λbr=>xC br
 (R (vI 92))
 (xK (λ_ bs=>d7q a bs R E) λj1=>oN E (fA 31 a 2) λbt=>oN E (lA 22 bt) λj=>oN E (yN 22 j) λbw=>xL [51] [(vI 0)] λca cb next6=>e6b a j bw (ca 51) cb next6 j1 R E)))):Cv pG 7 #[x0] w R E:=okG (h7) func7 h
def h8:Hint:=(sQ (hS (sQ (sQ (hC (sQ hN) hN))) (hS (sQ (hC (sQ hN) hN)) (sQ hN))))
theorem e6d{x0 x1}(h:opK pG E (yB 31 x0) w λb=>oN E (lA 31 b) λg=>oN E (xCall (fC 7) [g]) λc=>oN E (bC .neq 32 9 c (vI 0)) λk=>xC k
 (R (yU [(nS),c]))
 (oN E (bC .lss 3 12 x1 (vI 0)) λa=>oN E (gNo a (fA 31 b 3)) λm=>oN E (gNo a (lA 3 m)) λo=>oN E (gNo a (bN .geq 3 15 17 (gval (asB a) false x1) o)) λq=>oN E (xPick a (vB true) q) λs=>xC s
 (R (yU [(nS),(vI 92)]))
 (oN E (lA 31 b) λt=>oN E (xCall (fC 20) [t]) λv=>oN E (iA 74 v x1) λz=>oN E (lA 26 z) λab=>R (yU [ab,(vI 0)])))):Cv pG 8 #[x0,x1] w R E:=okG (h8) func8 h
def d7r(x5 w)(R:RT)(E):=
 ∀_τ:Fr,(opK pG E (xCall (fC 25) [x5]) w λb=>xC b
 (R (yU [(eS),(vI 50)]))
 (oN E (xNil x5) λc=>oN E (fA 83 c 0) λe=>oN E (xCall (fC 26) [e]) λg=>R (yU [g,(vI 0)])))
def e6e(x5 x42 x43 x44 w)(next3:NT)(j2:NT)(_R:RT)(E):=
 opK pG E (bN .lss 3 44 43 x44 x43) w λc=>xC c
 (oN E (iA 23 x42 x44) λd=>oN E (lA 55 d) λf=>oN E (yA 55) λb=>oN E (sA 55 b f) λ_=>oN E (lA 55 b) λk=>oN E (xCall (fC 24) [x5,k]) λ_t50_41=>oN E (bC .add 3 44 x44 (vI 1)) λn=>next3 [n])
 (j2 [])
def d7s(x1 x5 w)(R:RT)(E):=
 ∀_τ:Fr,(xcut (λ_ b=>d7r x5 b R E) λj2=>(oN E (fA 25 x1 1) λc=>oN E (lA 23 c) λa=>oN E (yN 23 a) λf=>xL [44] [(vI 0)] λi j next3=>e6e x5 a f (i 44) j next3 j2 R E) w)
def d7t(_x1 _x5 _x18 _x19 x20:Value)(w)(next4:NT)(_R:RT)(E):=
 ∀_τ:Fr,(oP E (bC .add 3 20 x20 (vI 1)) w λa b=>next4 [a] b)
def e6f(x1 x5 x18 x19 x20 w)(next4:NT)(j1:NT)(R:RT)(E):=
 opK pG E (bN .lss 3 20 19 x20 x19) w λk=>xC k
 (xK (λ_ l=>d7t x1 x5 x18 x19 x20 l next4 R E) λj5=>oN E (iA 22 x18 x20) λm=>oN E (lA 65 m) λo=>oN E (yA 65) λa=>oN E (sA 65 a o) λ_=>oN E (fA 65 a 1) λs=>oN E (lA 3 s) λu=>oN E (bC .eql 3 25 u (vI 0)) λy=>xC y
 (oN E (fA 65 a 0) λz=>oN E (lA 9 z) λab=>oN E (yS 28 3 #[(0,(Value.string ⟨#[118,97,114,32]⟩)),(1,ab),(2,(Value.string ⟨#[59]⟩))]) λad=>oN E (xCall (fC 22) [x5,ad]) λ_t31_81=>j5 [])
 (dN λb=>qP pG (fA 65 a 0) λc=>qP pG (fA 65 a 1) λi=>qL pG b (blk c) (lA 9 c) λag=>qL pG b (blk i) (lA 3 i) λah=>opK pG E (xCall (fC 23) [ah]) b λai d=>keepX [(blk c)] b d (opK pG E (yS 28 5 #[(0,(Value.string ⟨#[97,114,114,97,121,32]⟩)),(1,ag),(2,(Value.string ⟨#[91]⟩)),(3,ai),(4,(Value.string ⟨#[93,59]⟩))]) d λaj e=>keepX [] d e (opK pG E (xCall (fC 22) [x5,aj]) e λ_t39_92 j=>keepX [] e j (j5 [] j)))))
 (j1 [])
def F9(x0 w)(R:RT)(E):=
 opK pG E (yB 25 x0) w λa=>oN E (lA 25 a) λg=>oN E (xCall (fC 21) [g]) λb=>oN E (bC .neq 32 12 b (vI 0)) λk=>xC k
 (R (yU [(eS),b]))
 (oN E (yI 83 #[]) λl=>oN E (yB 83 l) λd=>xK (λ_ o=>d7s a d o R E) λj1=>oN E (fA 25 a 0) λp=>oN E (lA 22 p) λe=>oN E (yN 22 e) λs=>xL [20] [(vI 0)] λu v next4=>e6f a d e s (u 20) v next4 j1 R E)
def h9:Hint:=(sQ (hS (sQ (sQ (hC (sQ hN) hN))) (sQ (hU [] (sQ (hB (hL [20] (sQ (hS (hC hN hN) (hU [] (hB (sQ (hS (sQ (hC (sQ hN) hN)) (.reg [(0,2^32,32),(0,2^33,128),(2,2^34,2^33),(0,2^35,128),(8,2^36,2^35),(16,2^37,2^36),(36,2^38,2^34+2^37),(97,2^39,2^32+2^38)] [20,20,16,20,4,4,0,0] (eO 0 (eO 1 (eO 3 (lO 2 (lO 4 (sO 5 (sO 6 (sO 7 dO)))))))))))) hN)))))) (hU [] (sQ (hB (hL [44] (sQ (hS (hC hN hN) (hS (hB (sQ hN)) hN)))))) (hS (sQ (hC (sQ hN) hN)) (sQ hN)))))))
theorem e6g{x0}(h:F9 x0 w R E):Cv pG 9 #[x0] w R E:=okG (h9) func9 h
theorem e1R{x0}(h:opK pG E (yA 25) w λc=>oN E (yA 47) λd=>oN E (xCall (fC 27) [x0,(fC 28),(fC 21)]) λa=>oN E (xT a 0) λi=>oN E (xT a 1) λk=>oN E (xT a 2) λm=>oN E (sA 25 c i) λ_=>oN E (sA 47 d k) λ_=>xE 25 c λp=>xE 47 d λq=>R (yU [p,q,m])):Cv pG 10 #[x0] w R E:=okG ((sQ (sQ hN))) func10 h
def d2y(w)(R:RT)(_E:Pan):=
 ∀_τ:Fr,(R (vB true) w)
def e1S(x2 x3 x5 w)(next2:NT)(j1:NT)(R:RT)(E):=
 opK pG E (fA 31 x2 5) w λg=>oN E (lA 29 g) λj=>oN E (yN 29 j) λl=>oN E (bN .lss 3 50 53 x5 l) λn=>xC n
 (dN λa=>qP pG (fA 31 x2 5) λc=>qP pG (fA 31 x3 5) λd=>qL pG a (blk c) (lA 29 c) λo=>qP pG (iA 29 o x5) λe=>qL pG a (blk e) (lA 43 e) λp=>qL pG a (blk d) (lA 29 d) λq=>qP pG (iA 29 q x5) λf=>qL pG a (blk f) (lA 43 f) λr=>qP pG (bN .neq 43 61 66 p r) λs=>xcond s
 (R (vB false) a)
 (opK pG E (bC .add 3 55 x5 (vI 1)) a λt u=>next2 [t] u))
 (j1 [])
theorem e1T{x0 x1}(h:opK pG E (yB 31 x0) w λb=>oN E (yB 31 x1) λc=>oN E (fA 31 b 0) λl=>oN E (lA 28 l) λn=>oN E (fA 31 c 0) λp=>oN E (lA 28 p) λr=>oN E (xCall (fC 29) [n,r]) λt=>oN E (yT t) λe=>oN E (gNo e (fA 31 b 1)) λy=>oN E (gNo e (lA 3 y)) λaa=>oN E (gNo e (fA 31 c 1)) λac=>oN E (gNo e (lA 3 ac)) λae=>oN E (gNo e (bN .neq 3 14 16 aa ae)) λag=>oN E (xPick e (vB true) ag) λd=>oN E (gNo d (fA 31 b 2)) λaj=>oN E (gNo d (lA 22 aj)) λal=>oN E (gNo d (fA 31 c 2)) λan=>oN E (gNo d (lA 22 an)) λap=>oN E (gNo d (xCall (fC 30) [al,ap])) λar=>oN E (gNo d (yT ar)) λav=>oN E (xPick d (vB true) av) λf=>oN E (gNo f (fA 31 b 3)) λay=>oN E (gNo f (lA 3 ay)) λba=>oN E (gNo f (fA 31 c 3)) λbc=>oN E (gNo f (lA 3 bc)) λbe=>oN E (gNo f (bN .neq 3 29 31 ba be)) λbg=>oN E (xPick f (vB true) bg) λg=>oN E (gNo g (fA 31 b 4)) λbj=>oN E (gNo g (lA 3 bj)) λbl=>oN E (gNo g (fA 31 c 4)) λbn=>oN E (gNo g (lA 3 bn)) λbp=>oN E (gNo g (bN .neq 3 36 38 bl bp)) λbr=>oN E (xPick g (vB true) br) λa=>oN E (gNo a (fA 31 b 5)) λbu=>oN E (gNo a (lA 29 bu)) λbw=>oN E (gNo a (yN 29 bw)) λca=>oN E (gNo a (fA 31 c 5)) λcc=>oN E (gNo a (lA 29 cc)) λce=>oN E (gNo a (yN 29 ce)) λcg=>oN E (gNo a (bN .neq 3 44 47 ca cg)) λci=>oN E (xPick a (vB true) ci) λck=>xC ck
 (R (vB false))
 (xK (λ_ cl=>d2y cl R E) λj1=>xL [5] [(vI 0)] λcm cn next2=>e1S b c (cm 5) cn next2 j1 R E)):Cv pG 11 #[x0,x1] w R E:=okG ((sQ (hS (sQ (hC (sQ hN) hN)) (hU [] (sQ (hB (hL [5] (hS (sQ (hC hN hN)) (hS (hB (hS (.reg [(0,2^57,4),(1,2^58,2^57),(0,2^59,32),(6,2^60,2^58+2^59),(8,2^61,2^60),(0,2^62,8),(32,2^63,2^62),(0,2^64,32),(192,2^65,2^63+2^64),(256,2^66,2^65),(528,2^67,2^61+2^66)] [594,592,594,594,578,594,530,594,594,82,594] (eO 0 (eO 2 (eO 5 (eO 7 (lO 1 (eO 3 (lO 4 (lO 6 (eO 8 (lO 9 (eO 10 dO)))))))))))) (hC (sQ hN) hN))) hN))))) (sQ hN))))) func11 h
def d2z(x5 x6 w)(R:RT)(_E:Pan):=
 ∀_τ:Fr,(R (yU [x6,x5]) w)
def e1U(_x5 x6 x14 x15 x16:Value)(w)(next2:NT)(j1:NT)(_R:RT)(E):=
 opK pG E (bN .lss 3 16 15 x16 x15) w λc=>xC c
 (oN E (iA 22 x14 x16) λd=>oN E (lA 65 d) λf=>oN E (yA 65) λb=>oN E (sA 65 b f) λ_=>oN E (fA 65 b 0) λk=>oN E (lA 9 k) λm=>oN E (yS 28 1 #[(0,m)]) λo=>oN E (yP 28 x6 o) λq=>oN E (bC .add 3 16 x16 (vI 1)) λs=>next2 [q,s])
 (j1 [x6])
def h12:Hint:=(sQ (sQ (sQ (hU [6] (sQ (hB (hL [6,16] (sQ (hS (hC hN hN) (hS (hB (sQ hN)) hN)))))) (sQ hN)))))
theorem e1V{x0}(h:opK pG E (yB 25 x0) w λe=>oN E (lA 25 e) λg=>oN E (xCall (fC 31) [g,(vI 1)]) λa=>oN E (xT a 0) λb=>oN E (xT a 1) λc=>xK (λm n=>d2z c (nth m 0) n R E) λj1=>oN E (yN 22 b) λo=>xL [6,16] [(nS),(vI 0)] λd q next2=>e1U c (d 6) b o (d 16) q next2 j1 R E):Cv pG 12 #[x0] w R E:=okG (h12) func12 h
theorem e1W{x0}(h:opK pG E (yB 25 x0) w λb=>oN E (lA 25 b) λd=>oN E (xCall (fC 31) [d,(vI 2)]) λa=>oN E (xT a 0) λg=>oN E (xT a 1) λj=>R (yU [g,j])):Cv pG 13 #[x0] w R E:=okG ((sQ (sQ hN))) func13 h
theorem e1X{x0}(h:opK pG E (xNil x0) w λa=>oN E (fA 63 a 0) λc=>oN E (fA 31 c 3) λe=>oN E (lA 3 e) λg=>oN E (bC .add 3 7 g (vI 1)) λj=>oN E (xNil x0) λl=>oN E (fA 63 l 0) λn=>oN E (fA 31 n 3) λp=>oN E (sA 3 p j) λ_=>oN E (xNil x0) λs=>oN E (fA 63 s 0) λu=>oN E (fA 31 u 3) λy=>oN E (lA 3 y) λaa=>oN E (bC .sub 3 16 aa (vI 1)) λac=>R ac):Cv pG 14 #[x0] w R E:=okG ((sQ (sQ (sQ hN)))) func14 h
def e1Y(x0 x8 x31 x32 x33 w)(next2:NT)(R:RT)(E):=
 opK pG E (bN .lss 3 33 32 x33 x32) w λg=>xC g
 (oN E (iA 23 x31 x33) λi=>oN E (lA 55 i) λk=>oN E (yA 55) λb=>oN E (sA 55 b k) λ_=>dN λa=>qP pG (iA 26 x8 x33) λd=>qP pG (bC .add 3 45 x33 (vI 1)) λo=>qP pG (iA 26 x8 o) λe=>qL pG a (blk b) (lA 55 b) λp=>qL pG a (blk d) (lA 3 d) λq=>qL pG a (blk e) (lA 3 e) λr=>opK pG E (xCall (fC 32) [x0,p,q,r]) a λ_t49_30 f=>keepX [] a f (opK pG E (bC .add 3 33 x33 (vI 1)) f λs=>next2 [s]))
 (R (yU []))
def d2A(x0 x1 x3 x8 w)(R:RT)(E):=
 ∀_τ:Fr,(opK pG E (yS 26 1 #[(0,x3)]) w λa=>oN E (yP 26 x8 a) λc=>oN E (yN 23 x1) λe=>xL [33] [(vI 0)] λg i next2=>e1Y x0 c x1 e (g 33) i next2 R E)
def e1Z(x0 _x1 _x3 x8 x18 x19:Value)(w)(next3:NT)(j1:NT)(_R:RT)(E):=
 opK pG E (bN .lss 3 19 18 x19 x18) w λb=>xC b
 (oN E (xCall (fC 14) [x0]) λc=>oN E (yS 26 1 #[(0,c)]) λe=>oN E (yP 26 x8 e) λg=>oN E (bC .add 3 19 x19 (vI 1)) λj=>next3 [g,j])
 (j1 [x8])
theorem e2a{x0 x1 x2 x3}(h:opK pG E (yN 23 x1) w λc=>oN E (bC .eql 3 12 c (vI 0)) λe=>xC e
 (R (yU []))
 (oN E (yS 26 1 #[(0,x2)]) λf=>xK (λi j=>d2A x0 x1 x3 (nth i 0) j R E) λj1=>oN E (yN 23 x1) λk=>oN E (bC .sub 3 17 k (vI 1)) λm=>xL [8,19] [f,(vI 0)] λb o next3=>e1Z x0 x1 x3 (b 8) m (b 19) o next3 j1 R E)):Cv pG 15 #[x0,x1,x2,x3] w R E:=okG ((hS (sQ (hC hN hN)) (sQ (hU [8] (sQ (hB (hL [8,19] (sQ (hS (hC hN hN) (hS (hB hN) hN)))))) (sQ (sQ (hB (hL [33] (sQ (hS (hC hN hN) (hS (hB (sQ (.reg [(0,2^38,1),(0,2^39,1024),(0,2^40,256),(0,2^41,512),(12,2^42,2^40+2^41),(16,2^43,2^42),(0,2^44,256),(0,2^45,512),(128,2^46,2^45),(320,2^47,2^44+2^46),(512,2^48,2^47),(1059,2^49,291095703453696)] [1058,1056,1058,1058,1058,1026,1058,1058,1058,1058,34,0] (eO 0 (eO 2 (eO 3 (eO 4 (eO 6 (eO 7 (eO 8 (eO 9 (lO 1 (lO 5 (lO 10 (sO 11 dO))))))))))))))) hN))))))))))) func15 h
def d2B(x7 w)(R:RT)(E):=
 ∀_τ:Fr,(oP E (lA 26 x7) w λa b=>R (yU [a,(vI 0)]) b)
def d2C(_x6 _x7 _x26 x27:Value)(w)(next2:NT)(_R:RT)(E):=
 ∀_τ:Fr,(oP E (bC .add 3 27 x27 (vI 1)) w λa b=>next2 [a] b)
def e2b(x6 x7 x26 x27 w)(next2:NT)(j1:NT)(R:RT)(E):=
 opK pG E (bN .lss 3 27 26 x27 x26) w λc=>xC c
 (xK (λ_ d=>d2C x6 x7 x26 x27 d next2 R E) λj3=>oN E (lA 38 x6) λe=>oN E (iA 38 e x27) λg=>oN E (lA 4 g) λj=>oN E (yT j) λl=>xC l
 (oN E (lA 26 x7) λm=>oN E (yS 26 1 #[(0,x27)]) λo=>oN E (yP 26 m o) λq=>oN E (sA 26 x7 q) λ_=>j3 [])
 (j3 []))
 (j1 [])
theorem e2c{x0}(h:opK pG E (yB 31 x0) w λa=>oN E (lA 31 a) λk=>oN E (xCall (fC 7) [k]) λe=>oN E (bC .neq 32 12 e (vI 0)) λn=>xC n
 (R (yU [(nS),e]))
 (oN E (lA 31 a) λo=>oN E (xCall (fC 20) [o]) λq=>oN E (yA 74) λg=>oN E (sA 74 g q) λ_=>oN E (fA 31 a 3) λu=>oN E (lA 3 u) λi=>oN E (yM 38 i i) λz=>oN E (yA 38) λc=>oN E (sA 38 c z) λ_=>oN E (yA 26) λb=>oN E (yA 96) λd=>oN E (xV (Instr.makeFunc (.func 33) #[] #[c,g,a,d,b])) λaf=>oN E (sA 96 d af) λ_=>oN E (lA 96 d) λai=>oN E (xCall ai [(vI 0)]) λ_t22_37=>oN E (lA 26 b) λal=>oN E (xCall (fC 34) [al]) λ_t24_41=>xK (λ_ ao=>d2B b ao R E) λj1=>oN E (fA 31 a 3) λap=>oN E (lA 3 ap) λar=>xL [27] [(vI 0)] λav aw next2=>e2b c b ar (av 27) aw next2 j1 R E)):Cv pG 16 #[x0] w R E:=okG ((sQ (hS (sQ (sQ (hC (sQ hN) hN))) (sQ (sQ (sQ (sQ (sQ (sQ (sQ (hU [] (sQ (hB (hL [27] (sQ (hS (hC hN hN) (hU [] (hB (sQ (sQ (hC hN hN)))) hN)))))) (sQ hN)))))))))))) func16 h
theorem e2d{x0 x1}(h:opK pG E (yB 69 x0) w λb=>oN E (bC .geq 3 5 x1 (vI 0)) λa=>oN E (gYs a (fA 69 b 0)) λe=>oN E (gYs a (fA 31 e 3)) λg=>oN E (gYs a (lA 3 g)) λj=>oN E (gYs a (bN .lss 3 8 11 (gval (asB a) true x1) j)) λl=>oN E (xPick a l (vB false)) λn=>R n):Cv pG 17 #[x0,x1] w R E:=okG ((sQ (sQ hN))) func17 h
theorem e2e{x0 x1}(h:opK pG E (yB 69 x0) w λe=>oN E (yB 43 x1) λa=>oN E (lA 69 e) λaw=>oN E (fA 43 a 0) λay=>oN E (lA 3 ay) λba=>oN E (xCall (fC 17) [aw,ba]) λbc=>oN E (yT bc) λm=>oN E (gNo m (lA 69 e)) λbf=>oN E (gNo m (fA 43 a 1)) λbh=>oN E (gNo m (lA 3 bh)) λbj=>oN E (gNo m (xCall (fC 17) [bf,bj])) λbl=>oN E (gNo m (yT bl)) λbn=>oN E (xPick m (vB true) bn) λg=>oN E (gNo g (fA 43 a 0)) λbq=>oN E (gNo g (lA 3 bq)) λbs=>oN E (gNo g (fA 69 e 0)) λbu=>oN E (gNo g (fA 31 bu 4)) λbw=>oN E (gNo g (lA 3 bw)) λca=>oN E (gNo g (bN .eql 3 20 23 bs ca)) λcc=>oN E (xPick g (vB true) cc) λp=>oN E (gNo p (fA 43 a 2)) λcf=>oN E (gNo p (lA 3 cf)) λch=>oN E (gNo p (bC .lss 3 28 ch (vI 1))) λcj=>oN E (xPick p (vB true) cj) λq=>oN E (gNo q (fA 43 a 2)) λcm=>oN E (gNo q (lA 3 cm)) λco=>oN E (gNo q (bC .gtr 3 33 co (vI 14))) λcq=>oN E (xPick q (vB true) cq) λcs=>xC cs
 (R (vB false))
 (oN E (fA 43 a 2) λct=>oN E (lA 3 ct) λcv=>oN E (xCall (fC 35) [cv]) λcx=>oN E (yA 99) λn=>oN E (sA 99 n cx) λ_=>dN λo=>qP pG (fA 99 n 0) λy=>qP pG (fA 43 a 3) λaj=>qP pG (fA 43 a 3) λz=>qL pG o (blk y) (lA 4 y) λdb=>qL pG o (blk e) (lA 69 e) λdc=>qL pG o (blk aj) (lA 3 aj) λdd=>qL pG o (blk z) (lA 3 z) λde=>qP pG (bC .eql 3 46 de (vI (-1))) λdf=>opK pG E (xCall (fC 37) [dc,dd]) o λdg aa=>keepX [(blk z),(blk y)] o aa (opK pG E (xCall (fC 36) [db,dg,df]) aa λf i=>keepX [] aa i (qP pG (gYs f (fA 99 n 1)) λab=>qP pG (gYs f (fA 43 a 4)) λak=>qP pG (gYs f (fA 43 a 4)) λac=>qL pG i (blk ab) (gYs f (lA 4 ab)) λdh=>qL pG i (blk e) (gYs f (lA 69 e)) λdi=>qL pG i (blk ak) (gYs f (lA 3 ak)) λdj=>qL pG i (blk ac) (gYs f (lA 3 ac)) λdk=>qP pG (gYs f (bC .eql 3 57 dk (vI (-1)))) λdl=>opK pG E (gYs f (xCall (fC 38) [di,dj])) i λdm ad=>keepX [(blk ac),(blk ab)] i ad (opK pG E (gYs f (xCall (fC 36) [dh,dm,dl])) ad λdn j=>keepX [] ad j (qP pG (xPick f dn (vB false)) λb=>qP pG (gYs b (fA 99 n 2)) λal=>qP pG (gYs b (fA 43 a 5)) λam=>qP pG (gYs b (fA 43 a 5)) λan=>qL pG j (blk al) (gYs b (lA 4 al)) λdp=>qL pG j (blk am) (gYs b (lA 3 am)) λdq=>qP pG (gYs b (bC .geq 3 65 dq (vI 1))) λr=>qP pG (gsem (asB (gval (asB b) true r)) true (fA 43 a 5)) λao=>qL pG j (blk ao) (gsem (asB (gval (asB b) true r)) true (lA 3 ao)) λdr=>qP pG (gsem (asB (gval (asB b) true r)) true (bC .leq 3 69 dr (vI 6))) λds=>qP pG (gYs b (xPick (gval (asB b) true r) ds (vB false))) λdt=>qL pG j (blk an) (gYs b (lA 3 an)) λdu=>qP pG (gYs b (bC .eql 3 73 du (vI 0))) λdv=>opK pG E (gYs b (xCall (fC 36) [dp,dt,dv])) j λdw k=>keepX [] j k (qP pG (xPick b dw (vB false)) λc=>qP pG (gYs c (fA 99 n 3)) λs=>qP pG (gYs c (fA 43 a 6)) λap=>qP pG (gYs c (fA 43 a 6)) λt=>qL pG k (blk s) (gYs c (lA 4 s)) λdx=>qL pG k (blk e) (gYs c (lA 69 e)) λdy=>qL pG k (blk ap) (gYs c (lA 41 ap)) λdz=>qL pG k (blk t) (gYs c (lA 41 t)) λea=>opK pG E (gYs c (xCall (fC 39) [dy,dz])) k λeb ae=>keepX [(blk t),(blk s)] k ae (opK pG E (gYs c (xCall (fC 40) [])) ae λec af=>keepX [(blk t),(blk s)] ae af (qP pG (gYs c (bN .eql 41 85 86 ea ec)) λed=>opK pG E (gYs c (xCall (fC 36) [dx,eb,ed])) af λee l=>keepX [] af l (qP pG (xPick c ee (vB false)) λd=>qP pG (gYs d (fA 99 n 4)) λu=>qP pG (gYs d (fA 43 a 7)) λaq=>qP pG (gYs d (fA 43 a 7)) λv=>qL pG l (blk u) (gYs d (lA 4 u)) λef=>qL pG l (blk e) (gYs d (lA 69 e)) λeg=>qL pG l (blk aq) (gYs d (lA 41 aq)) λeh=>qL pG l (blk v) (gYs d (lA 41 v)) λei=>opK pG E (gYs d (xCall (fC 39) [eg,eh])) l λej ag=>keepX [(blk v),(blk u)] l ag (opK pG E (gYs d (xCall (fC 40) [])) ag λek ah=>keepX [(blk v),(blk u)] ag ah (qP pG (gYs d (bN .eql 41 98 99 ei ek)) λel=>opK pG E (gYs d (xCall (fC 36) [ef,ej,el])) ah λem ar=>keepX [] ah ar (qP pG (xPick d em (vB false)) λen=>R en ar))))))))))))):Cv pG 18 #[x0,x1] w R E:=okG ((sQ (hS (sQ (hC (sQ hN) hN)) (sQ (hS (.reg [(0,2^39,32),(1,2^40,2^39),(0,2^41,4),(0,2^42,8),(8,2^43,2^42),(20,2^44,2^41+2^43),(0,2^45,8),(64,2^46,2^45),(128,2^47,2^46),(290,2^48,2^40+2^44+2^47),(512,2^49,2^48),(1024,2^50,2^5+2^49),(3072,2^51,2^49+2^50),(1024,2^52,2^2+2^49),(1024,2^53,2^3+2^49),(17408,2^54,2^49+2^53),(41984,2^55,2^49+2^52+2^54),(1024,2^56,2^3+2^49),(132096,2^57,2^49+2^56),(263168,2^58,2^49+2^57),(594944,2^59,327073922937782272),(1049600,2^60,2^49+2^59),(3145728,2^61,2^60),(2^22,2^62,2^5+2^61),(12582912,2^63,2^61+2^62),(2^22,2^64,2^3+2^61),(37748736,2^65,2^61+2^64),(71303168,2^66,2^61+2^65),(138412032,2^67,2^61+2^66),(2^28,2^68,2^3+2^67),(805306368,2^69,2^67+2^68),(2^28+2^30,2^70,2^67+2^69),(2420113408,2^71,2^61+2^67+2^70),(2^22,2^72,2^3+2^61),(2^22+2^33,2^73,2^61+2^72),(2^22+2^34,2^74,2^61+2^73),(38944112640,2^75,2^61+2^63+2^71+2^74),(2^22+2^36,2^76,2^61+2^75),(2^36+2^37,2^77,2^76),(2^38,2^78,2^5+2^77),(2^38+2^39,2^79,2^77+2^78),(2^38,2^80,2^2+2^77),(2^38,2^81,2^3+2^77),(2^38+2^42,2^82,2^77+2^81),(11269994184704,2^83,2^77+2^80+2^82),(2^38,2^84,2^3+2^77),(2^38+2^45,2^85,2^77+2^84),(2^38+2^44,2^86,2^77),(2^38+2^46+2^47,2^87,2^77+2^85+2^86),(441179040645120,2^88,2^77+2^79+2^83+2^87),(2^38+2^49,2^89,2^77+2^88),(2^49+2^50,2^90,2^89),(2^51,2^91,2^5+2^90),(2^51+2^52,2^92,2^90+2^91),(2^51,2^93,2^2+2^90),(2^51,2^94,2^3+2^90),(2^51+2^55,2^95,2^90+2^94),(2^51+2^54+2^56,2^96,2^90+2^93+2^95),(2^51,2^97,2^3+2^90),(2^51+2^58,2^98,2^90+2^97),(2^51+2^57,2^99,2^90),(2^51+2^59+2^60,2^100,2^90+2^98+2^99),(3614138700964823040,2^101,2^90+2^92+2^96+2^100),(2^51+2^62,2^102,2^90+2^101),(18446744073709551615,16,2^102)] [675622425815462038,675622425815462036,675622425815462034,675622425815462038,675622425815462022,130,675622425815462038,675622425815461910,675622425815462038,0,675622425815462038,675622425815462038,675622425815457942,675622425815453846,675622425815462038,675622425815429270,266240,675622425815462038,675622425815199894,675622425815462038,0,675622425815462038,675622425815462038,675622425815462038,675622425798684822,675622425815462038,675622425748353174,675622425815462038,675622425815462038,675622425815462038,675622424741720214,675622425815462038,675622425815462038,675622425815462038,675622408635592854,675622425815462038,0,675622425815462038,675622425815462038,675622425815462038,675621326303834262,675620226792206486,675622425815462038,675613629722439830,2^40+2^46,675622425815462038,675552057071284374,2^40+2^46,675622425815462038,0,675622425815462038,675622425815462038,675622425815462038,666615226560721046,657608027305980054,675622425815462038,603564831777534102,2^53+2^59,675622425815462038,99161673512038550,2^53+2^59,675622425815462038,0,675622425815462038,675622425815462038] (eO 0 (eO 3 (eO 6 (lO 1 (lO 2 (lO 4 (lO 7 (eO 8 (sO 5 (sO 9 (eO 10 (eO 11 (eO 14 (eO 17 (lO 12 (lO 13 (lO 15 (lO 18 (eO 19 (sO 16 (sO 20 (eO 21 (eO 22 (eO 23 (eO 25 (eO 33 (lO 24 (lO 26 (eO 27 (eO 28 (eO 29 (lO 30 (eO 31 (eO 32 (lO 34 (eO 35 (sO 36 (eO 37 (eO 38 (eO 39 (eO 42 (eO 45 (lO 40 (lO 41 (lO 43 (lO 46 (sO 44 (sO 47 (eO 48 (sO 49 (eO 50 (eO 51 (eO 52 (eO 55 (eO 58 (lO 53 (lO 54 (lO 56 (lO 59 (sO 57 (sO 60 (eO 61 (sO 62 (eO 63 (eO 64 dO)))))))))))))))))))))))))))))))))))))))))))))))))))))))))))))))))) hN))))) func18 h
def d2D(x3 x4 w)(R:RT)(E):=
 ∀_τ:Fr,(dX w λa=>qP pG (fA 43 x3 2) λg=>qL pG a (blk g) (lA 3 g) λp=>qP pG (bC .eql 3 25 p (vI 12)) λe=>qP pG (gYs e (fA 43 x4 2)) λi=>qL pG a (blk i) (gYs e (lA 3 i)) λq=>qP pG (gYs e (bC .eql 3 29 q (vI 12))) λr=>qP pG (xPick e r (vB false)) λc=>qP pG (gYs c (fA 43 x3 6)) λj=>qP pG (gYs c (fA 43 x4 6)) λk=>qL pG a (blk j) (gYs c (lA 41 j)) λs=>qL pG a (blk k) (gYs c (lA 41 k)) λt=>qP pG (gYs c (bN .eql 41 34 36 s t)) λu=>qP pG (xPick c u (vB false)) λd=>qP pG (gYs d (fA 43 x3 7)) λl=>qP pG (gYs d (fA 43 x4 7)) λm=>qL pG a (blk l) (gYs d (lA 41 l)) λv=>qL pG a (blk m) (gYs d (lA 41 m)) λy=>qP pG (gYs d (bN .eql 41 41 43 v y)) λz=>qP pG (xPick d z (vB false)) λb=>qP pG (gYs b (fA 43 x4 5)) λf=>qP pG (gYs b (fA 43 x3 5)) λn=>qL pG a (blk f) (gYs b (lA 3 f)) λaa=>qL pG a (blk n) (gYs b (lA 3 n)) λab=>oP E (gYs b (xCall (fC 41) [ab])) a λac o=>keepX [(blk f)] a o (qP pG (gYs b (bN .eql 3 48 51 aa ac)) λad=>qP pG (xPick b ad (vB false)) λae=>R ae o))
theorem e2f{x0}(h:opK pG E (yN 29 x0) w λd=>oN E (bC .eql 3 6 d (vI 0)) λaa=>xC aa
 (R (vB true))
 (oN E (bC .eql 3 6 d (vI 1)) λab=>xC ab
 (oN E (iA 29 x0 (vI 0)) λac=>oN E (fA 43 ac 2) λae=>oN E (lA 3 ae) λag=>oN E (bC .neq 3 14 ag (vI 12)) λai=>R ai)
 (oN E (bC .eql 3 6 d (vI 2)) λak=>xC ak
 (xK (λo al=>d2D (nth o 0) (nth o.tail 0) al R E) λj1=>dN λb=>qP pG (iA 29 x0 (vI 0)) λc=>qP pG (iA 29 x0 (vI 1)) λa=>qL pG b (blk c) (lA 43 c) λp=>qL pG b (blk a) (lA 43 a) λq=>(opK pG E (yA 43) b λr e=>keepX [(blk a),(blk c)] b e (opK pG E (yA 43) e λs f=>keepX [(blk a),(blk c)] e f (opK pG E (sA 43 r p) f λ_ g=>keepX [(blk a)] f g (opK pG E (sA 43 s q) g λ_ t=>keepX [] g t (j1 [r,s] t))))) /\ (opK pG E (yA 43) b λu i=>keepX [(blk a),(blk c)] b i (opK pG E (yA 43) i λv j=>keepX [(blk a),(blk c)] i j (opK pG E (sA 43 v p) j λ_ k=>keepX [(blk a)] j k (opK pG E (sA 43 u q) k λ_ y=>keepX [] k y (j1 [v,u] y))))))
 (R (vB false))))):Cv pG 19 #[x0] w R E:=okG ((sQ (hS (sQ (hB (sQ (hC (sQ hN) (sQ (hC (sQ hN) (sQ (hC (hU [3,4] (.reg [(0,2^18,1),(1,2^19,2^18),(2,2^20,2^19),(0,2^21,1),(8,2^22,2^21),(16,2^23,2^22),(0,8,0),(0,16,0),(199,0,1048584),(511,0,8388624)] [36,36,32,36,36,4,36,36,32,0] (eO 0 (eO 1 (eO 3 (eO 4 (lO 2 (lO 5 (.alt 6 (sO 7 (sO 8 (sO 9 dO))) (sO 7 (sO 6 (sO 8 (sO 9 dO)))))))))))) (hS (.reg [(0,2^24,8),(1,2^25,2^24),(2,2^26,2^25),(4,2^27,2^26),(8,2^28,2^4+2^27),(24,2^29,402653184),(40,2^30,671088640),(72,2^31,2^27+2^30),(136,2^32,2^31),(256,2^33,2^3+2^32),(768,2^34,2^32+2^33),(256,2^35,2^4+2^32),(2304,2^36,2^32+2^35),(5376,2^37,90194313216),(8448,2^38,2^32+2^37),(16640,2^39,2^38),(2^15,2^40,2^3+2^39),(98304,2^41,2^39+2^40),(2^15,2^42,2^4+2^39),(294912,2^43,2^39+2^42),(688128,2^44,11544872091648),(1081344,2^45,2^39+2^44),(2129920,2^46,2^45),(2^22,2^47,2^4+2^46),(12582912,2^48,2^46+2^47),(2^22,2^49,2^3+2^46),(37748736,2^50,2^46+2^49),(71303168,2^51,2^46+2^50),(155189248,2^52,2^46+2^48+2^51),(272629760,2^53,2^46+2^52),(1073741823,4,2^53)] [84546594,84546592,84546594,84546594,84546594,84546562,84546594,84546594,84546594,84546594,84545570,84546594,84542498,84546594,84546594,84546594,84546594,84415522,84546594,84022306,84546594,84546594,84546594,84546594,67769378,84546594,17437730,2^24,84546594,84546594,84546594] (eO 0 (lO 1 (eO 2 (eO 3 (eO 4 (lO 5 (eO 6 (eO 7 (eO 8 (eO 9 (eO 11 (lO 10 (lO 12 (eO 13 (eO 14 (eO 15 (eO 16 (eO 18 (lO 17 (lO 19 (eO 20 (eO 21 (eO 22 (eO 23 (eO 25 (lO 24 (lO 26 (sO 27 (eO 28 (eO 29 (eO 30 dO)))))))))))))))))))))))))))))))) hN)) hN)))))))) (sQ hN)))) func19 h
def d2E(x3 w)(R:RT)(_E:Pan):=
 ∀_τ:Fr,(R x3 w)
def e2g(x3 x10 x11 x12 w)(next2:NT)(j1:NT)(_R:RT)(E):=
 opK pG E (bN .lss 3 12 11 x12 x11) w λk=>xC k
 (oN E (iA 29 x10 x12) λl=>oN E (lA 43 l) λn=>oN E (yA 43) λc=>oN E (sA 43 c n) λ_=>dN λa=>qP pG (fA 43 c 0) λb=>qP pG (fA 43 c 0) λd=>qL pG a (blk b) (lA 3 b) λr=>qL pG a (blk d) (lA 3 d) λs=>qP pG (iA 74 x3 s) λe=>qL pG a (blk e) (lA 26 e) λt=>opK pG E (yS 26 1 #[(0,x12)]) a λu f=>keepX [(blk e),(blk d),(blk b)] a f (opK pG E (yP 26 t u) f λv g=>keepX [(blk b)] f g (qP pG (iA 74 x3 r) λy=>opK pG E (sA 26 y v) g λ_ j=>keepX [] g j (opK pG E (bC .add 3 12 x12 (vI 1)) j λz=>next2 [z]))))
 (j1 [])
theorem e2h{x0}(h:opK pG E (yB 31 x0) w λa=>oN E (fA 31 a 3) λf=>oN E (lA 3 f) λb=>oN E (yM 74 b b) λc=>xK (λ_ k=>d2E c k R E) λj1=>oN E (fA 31 a 5) λl=>oN E (lA 29 l) λd=>oN E (yN 29 d) λo=>xL [12] [(vI 0)] λq r next2=>e2g c d o (q 12) r next2 j1 R E):Cv pG 20 #[x0] w R E:=okG ((sQ (sQ (hU [] (sQ (hB (hL [12] (sQ (hS (hC hN hN) (hS (hB (sQ (.reg [(0,2^17,8),(0,2^18,32),(2,2^19,2^18),(0,2^20,8),(0,2^21,32),(16,2^22,2^21),(40,2^23,5242880),(64,2^24,2^23),(0,2^25,16),(256,2^26,2^25),(640,2^27,83886080),(2047,2^28,655360),(4095,0,402653184)] [164,164,160,164,164,132,164,36,164,164,4,164,0] (eO 0 (eO 1 (eO 3 (eO 4 (eO 8 (lO 2 (lO 5 (eO 6 (lO 7 (sO 9 (sO 10 (eO 11 (sO 12 dO)))))))))))))))) hN)))))) (sQ hN))))) func20 h
theorem e2i{x0}(h:opK pG E (yB 25 x0) w λa=>oN E (lA 25 a) λc=>oN E (xCall (fC 42) [c]) λe=>oN E (xNil e) λg=>oN E (fA 106 g 2) λj=>oN E (lA 32 j) λl=>R l):Cv pG 21 #[x0] w R E:=okG ((sQ (sQ hN))) func21 h
def F22(x0 x1 w)(R:RT)(E):=
 opK pG E (yB 77 x0) w λa=>oN E (yB 28 x1) λc=>oN E (lA 77 a) λe=>oN E (xV (Instr.makeFunc (.func 44) #[] #[a,c])) λg=>oN E (xCall (fC 43) [e,g]) λ_t6_9=>R (yU [])
theorem e2j{x0 x1}(h:F22 x0 x1 w R E):Cv pG 22 #[x0,x1] w R E:=okG ((sQ hN)) func22 h
def c6t(x2 w)(R:RT)(E):=
 ∀_τ:Fr,(opK pG E (lA 77 x2) w λa=>oN E (yS 28 1 #[(0,(Value.string ⟨#[125]⟩))]) λc=>oN E (xCall (fC 22) [a,c]) λ_t46_51=>R (yU []))
def F24(x0 x1 w)(R:RT)(E):=
 opK pG E (yB 77 x0) w λa=>oN E (yB 55 x1) λb=>oN E (lA 77 a) λag=>oN E (xCall (fC 25) [ag]) λai=>xC ai
 (R (yU []))
 (oN E (fA 55 b 0) λaj=>oN E (lA 3 aj) λc=>oN E (bC .eql 3 7 c (vI 1)) λam=>xC am
 (oN E (lA 77 a) λan=>oN E (xV (Instr.makeFunc (.func 47) #[] #[a,b])) λap=>oN E (xCall (fC 43) [an,ap]) λ_t15_19=>R (yU []))
 (oN E (bC .eql 3 7 c (vI 2)) λau=>xC au
 (oN E (lA 77 a) λav=>oN E (xV (Instr.makeFunc (.func 49) #[] #[a,b])) λax=>oN E (xCall (fC 43) [av,ax]) λ_t20_27=>R (yU []))
 (oN E (bC .eql 3 7 c (vI 3)) λba=>xC ba
 (dN λd=>qP pG (fA 55 b 3) λm=>qL pG d (blk a) (lA 77 a) λbb=>qL pG d (blk m) (lA 53 m) λbc=>qP pG (iA 53 bc (vI 0)) λn=>qL pG d (blk n) (lA 115 n) λbd=>opK pG E (xCall (fC 50) [bb,(Value.string ⟨#[105,102]⟩),bd,(Value.string ⟨#[32,123]⟩)]) d λ_t28_37 o=>keepX [] d o (opK pG E (lA 77 a) o λbe=>oN E (fA 55 b 4) λbg=>oN E (lA 23 bg) λbi=>oN E (xCall (fC 51) [be,bi]) λ_t32_45=>xK (λ_ bl=>c6t a bl R E) λj1=>oN E (fA 55 b 5) λbm=>oN E (lA 23 bm) λbo=>oN E (yN 23 bo) λbq=>oN E (bC .gtr 3 35 bq (vI 0)) λbs=>xC bs
 (oN E (lA 77 a) λbt=>oN E (yS 28 1 #[(0,(Value.string ⟨#[125,32,101,108,115,101,32,123]⟩))]) λbv=>oN E (xCall (fC 22) [bt,bv]) λ_t39_67=>oN E (lA 77 a) λca=>oN E (fA 55 b 5) λcc=>oN E (lA 23 cc) λce=>oN E (xCall (fC 51) [ca,ce]) λ_t43_75=>j1 [])
 (j1 [])))
 (oN E (bC .eql 3 7 c (vI 4)) λch=>xC ch
 (dN λe=>qP pG (fA 55 b 3) λr=>qL pG e (blk a) (lA 77 a) λci=>qL pG e (blk r) (lA 53 r) λcj=>qP pG (iA 53 cj (vI 0)) λs=>qL pG e (blk s) (lA 115 s) λck=>opK pG E (xCall (fC 50) [ci,(Value.string ⟨#[119,104,105,108,101]⟩),ck,(Value.string ⟨#[32,123]⟩)]) e λ_t54_85 t=>keepX [] e t (opK pG E (lA 77 a) t λcl=>oN E (fA 55 b 4) λcn=>oN E (lA 23 cn) λcp=>oN E (xCall (fC 51) [cl,cp]) λ_t58_93=>oN E (lA 77 a) λcs=>oN E (yS 28 1 #[(0,(Value.string ⟨#[125]⟩))]) λcu=>oN E (xCall (fC 22) [cs,cu]) λ_t61_99=>R (yU [])))
 (oN E (bC .eql 3 7 c (vI 5)) λcx=>xC cx
 (dN λf=>qP pG (fA 55 b 3) λv=>qL pG f (blk a) (lA 77 a) λcy=>qL pG f (blk v) (lA 53 v) λcz=>qP pG (iA 53 cz (vI 0)) λy=>qL pG f (blk y) (lA 115 y) λda=>opK pG E (xCall (fC 50) [cy,(Value.string ⟨#[97,115,115,101,114,116]⟩),da,(Value.string ⟨#[59]⟩)]) f λ_t69_109 z=>keepX [] f z (R (yU []) z))
 (oN E (bC .eql 3 7 c (vI 6)) λdb=>xC db
 (dN λg=>qP pG (fA 55 b 3) λab=>qL pG g (blk a) (lA 77 a) λdc=>qL pG g (blk ab) (lA 53 ab) λdd=>qP pG (iA 53 dd (vI 0)) λac=>qL pG g (blk ac) (lA 115 ac) λde=>opK pG E (xCall (fC 50) [dc,(Value.string ⟨#[97,115,115,117,109,101]⟩),de,(Value.string ⟨#[59]⟩)]) g λ_t77_119 ad=>keepX [] g ad (R (yU []) ad))
 (oN E (lA 77 a) λdf=>oN E (yS 28 1 #[(0,(Value.string ⟨#[115,107,105,112,59]⟩))]) λdh=>oN E (xCall (fC 22) [df,dh]) λ_t10_125=>R (yU []))))))))
theorem e2k{x0 x1}(h:F24 x0 x1 w R E):Cv pG 24 #[x0,x1] w R E:=okG ((sQ (hS (sQ (hC hN hN)) (sQ (hB (sQ (hC hN (sQ (hC hN (sQ (hC (hS (.reg [(0,2^23,4),(0,2^24,8),(2,2^25,2^24),(4,2^26,2^25),(8,2^27,2^26),(17,2^28,142606336)] [20,21,17,21,5,0] (eO 1 (lO 0 (lO 2 (eO 3 (lO 4 (sO 5 dO))))))) (sQ (hU [] (sQ (hC (sQ hN) hN)) hN))) (sQ (hC (hS (.reg [(0,2^49,4),(0,2^50,8),(2,2^51,2^50),(4,2^52,2^51),(8,2^53,2^52),(17,2^54,2^49+2^53)] [20,21,17,21,5,0] (eO 1 (lO 0 (lO 2 (eO 3 (lO 4 (sO 5 dO))))))) (sQ hN)) (sQ (hC (.reg [(0,2^64,4),(0,2^65,8),(2,2^66,2^65),(4,2^67,2^66),(8,2^68,2^67),(17,2^69,2^64+2^68)] [20,21,17,21,5,0] (eO 1 (lO 0 (lO 2 (eO 3 (lO 4 (sO 5 dO))))))) (sQ (hC (.reg [(0,2^72,4),(0,2^73,8),(2,2^74,2^73),(4,2^75,2^74),(8,2^76,2^75),(17,2^77,2^72+2^76)] [20,21,17,21,5,0] (eO 1 (lO 0 (lO 2 (eO 3 (lO 4 (sO 5 dO))))))) hN))))))))))))))))) func24 h
theorem e2l{x0}(h:opK pG E (xNil x0) w λa=>oN E (fA 83 a 0) λc=>oN E (xCall (fC 52) [c]) λe=>oN E (bC .gtr 3 6 e (vI 65536)) λg=>R g):Cv pG 25 #[x0] w R E:=okG ((sQ (sQ hN))) func25 h
def F26(x0 w)(R:RT)(E):=
 dX w λa=>qP pG (xNil x0) λf=>qP pG (fA 81 f 1) λd=>qP pG (xNil x0) λg=>qP pG (fA 81 g 1) λb=>qL pG a (blk d) (lA 79 d) λi=>qL pG a (blk b) (lA 79 b) λj=>qP pG (yN 79 j) λk=>oP E (xBuiltin .unsafeSliceData #[79] 117 [false] [i]) a λl c=>keepX [(blk b)] a c (opK pG E (xBuiltin .unsafeString #[117,3] 9 [false,false] [l,k]) c λm e=>keepX [] c e (R m e))
theorem e2m{x0}(h:F26 x0 w R E):Cv pG 26 #[x0] w R E:=okG ((sQ (hS (.reg [(0,8,1),(1,16,8),(2,32,16),(4,64,32),(8,128,64),(0,256,1),(32,512,256),(64,1024,512),(128,2048,1024),(256,4096,2048),(528,8192,4224),(2047,4,8192)] [264,264,264,256,256,264,264,264,8,264,0,264] (eO 0 (eO 1 (eO 2 (eO 5 (eO 6 (eO 7 (lO 3 (lO 8 (eO 9 (sO 4 (sO 10 (eO 11 dO))))))))))))) hN))) func26 h
def d2F(x2 x3 w)(R:RT)(E):=
 ∀_τ:Fr,(opK pG E (lA 25 x3) w λb=>oN E (sA 25 x2 b) λ_=>xE 25 x2 λd=>R d)
def e2n(x0 _x2 x3:Value)(w)(next3:NT)(j2:NT)(_R:RT)(E):=
 opK pG E (xCall (fC 55) [x0]) w λi=>oN E (yF 127 i 0) λk=>oN E (bC .neq 3 19 k (vI 5)) λm=>xC m
 (oN E (xCall (fC 60) [x0]) λn=>oN E (xCall (fC 59) [x0,(vI 1),n]) λ_t24_20=>dN λb=>qP pG (fA 25 x3 1) λa=>qL pG b (blk a) (lA 23 a) λq=>opK pG E (xCall (fC 61) [x0,(vI 1)]) b λr c=>keepX [(blk a)] b c (opK pG E (yS 23 1 #[(0,r)]) c λs d=>keepX [(blk a)] c d (opK pG E (yP 23 q s) d λt e=>keepX [] d e (qP pG (fA 25 x3 1) λu=>opK pG E (sA 23 u t) e λ_ g=>keepX [] e g (next3 [] g)))))
 (j2 [])
def d2G(x0 x2 x3 w)(R:RT)(E):=
 ∀_τ:Fr,(xcut (λ_ a=>d2F x2 x3 a R E) λj2=>xloop [] [] w λ_ b next3=>e2n x0 x2 x3 b next3 j2 R E)
def e2o(x0 _x2 x3:Value)(w)(next4:NT)(j1:NT)(_R:RT)(E):=
 opK pG E (xCall (fC 57) [x0,(Value.string ⟨#[118,97,114]⟩)]) w λb=>oN E (gNo b (xCall (fC 57) [(gval (asB b) false x0),(Value.string ⟨#[97,114,114,97,121]⟩)])) λk=>oN E (xPick b (vB true) k) λm=>xC m
 (dN λc=>qP pG (fA 25 x3 0) λa=>qL pG c (blk a) (lA 22 a) λn=>opK pG E (xCall (fC 58) [x0]) c λo d=>keepX [(blk a)] c d (opK pG E (yS 22 1 #[(0,o)]) d λp e=>keepX [(blk a)] d e (opK pG E (yP 22 n p) e λq f=>keepX [] e f (qP pG (fA 25 x3 0) λr=>opK pG E (sA 22 r q) f λ_ i=>keepX [] f i (next4 [] i)))))
 (j1 [])
theorem e2p{x0}(h:opK pG E (yA 25) w λa=>oN E (yA 25) λb=>xK (λ_ e=>d2G x0 a b e R E) λj1=>xL [] [] λ_ f next4=>e2o x0 a b f next4 j1 R E):Cv pG 28 #[x0] w R E:=okG ((sQ (sQ (hU [] (hB (hL [] (hS (sQ (hC hN hN)) (hB (.reg [(0,1024,8),(1,2048,1024),(0,4096,1),(4,8192,4096),(8,2^14,8192),(26,2^15,18432),(63,2^16,8),(127,0,98304)] [2,0,2,2,2,0,2,0] (eO 0 (eO 2 (lO 1 (sO 3 (sO 4 (sO 5 (eO 6 (sO 7 dO))))))))))))) (hU [] (hB (hL [] (hS (sQ (hC hN hN)) (hB (sQ (.reg [(0,2^25,8),(1,2^26,2^25),(0,2^27,1),(4,2^28,2^27),(8,2^29,2^28),(26,2^30,603979776),(63,2^31,8),(127,0,2^30+2^31)] [2,0,2,2,2,0,2,0] (eO 0 (eO 2 (lO 1 (sO 3 (sO 4 (sO 5 (eO 6 (sO 7 dO)))))))))))))) (sQ hN)))))) func28 h
def d2H(w)(R:RT)(_E:Pan):=
 ∀_τ:Fr,(R (vB true) w)
def e2q(x0 x1 x5 w)(next2:NT)(j1:NT)(R:RT)(E):=
 opK pG E (yN 28 x0) w λe=>oN E (bN .lss 3 11 13 x5 e) λg=>xC g
 (dN λa=>qP pG (iA 28 x0 x5) λc=>qP pG (iA 28 x1 x5) λd=>qL pG a (blk c) (lA 9 c) λi=>qL pG a (blk d) (lA 9 d) λj=>qP pG (bN .neq 9 20 24 i j) λk=>xcond k
 (R (vB false) a)
 (opK pG E (bC .add 3 15 x5 (vI 1)) a λl m=>next2 [l] m))
 (j1 [])
theorem e2r{x0 x1}(h:opK pG E (yN 28 x0) w λb=>oN E (yN 28 x1) λd=>oN E (bN .neq 3 7 9 b d) λf=>xC f
 (R (vB false))
 (xK (λ_ g=>d2H g R E) λj1=>xL [5] [(vI 0)] λi j next2=>e2q x0 x1 (i 5) j next2 j1 R E)):Cv pG 29 #[x0,x1] w R E:=okG ((sQ (hS (sQ (hC (sQ hN) hN)) (hU [] (sQ (hB (hL [5] (hS (sQ (hC hN hN)) (hS (hB (hS (.reg [(0,2^17,1),(0,2^18,32),(3,2^19,393216),(4,2^20,2^19),(0,2^21,2),(0,2^22,32),(48,2^23,6291456),(64,2^24,2^23),(136,2^25,17825792)] [136,136,136,128,136,136,136,8,136] (eO 0 (eO 1 (eO 2 (eO 4 (eO 5 (eO 6 (lO 3 (lO 7 (eO 8 dO)))))))))) (hC (sQ hN) hN))) hN))))) (sQ hN))))) func29 h
def d2I(w)(R:RT)(_E:Pan):=
 ∀_τ:Fr,(R (vB true) w)
def e2s(x0 x1 x5 w)(next2:NT)(j1:NT)(R:RT)(E):=
 opK pG E (yN 22 x0) w λe=>oN E (bN .lss 3 11 13 x5 e) λg=>xC g
 (dN λa=>qP pG (iA 22 x0 x5) λc=>qP pG (iA 22 x1 x5) λd=>qL pG a (blk c) (lA 65 c) λi=>qL pG a (blk d) (lA 65 d) λj=>qP pG (bN .neq 65 20 24 i j) λk=>xcond k
 (R (vB false) a)
 (opK pG E (bC .add 3 15 x5 (vI 1)) a λl m=>next2 [l] m))
 (j1 [])
theorem e2t{x0 x1}(h:opK pG E (yN 22 x0) w λb=>oN E (yN 22 x1) λd=>oN E (bN .neq 3 7 9 b d) λf=>xC f
 (R (vB false))
 (xK (λ_ g=>d2I g R E) λj1=>xL [5] [(vI 0)] λi j next2=>e2s x0 x1 (i 5) j next2 j1 R E)):Cv pG 30 #[x0,x1] w R E:=okG ((sQ (hS (sQ (hC (sQ hN) hN)) (hU [] (sQ (hB (hL [5] (hS (sQ (hC hN hN)) (hS (hB (hS (.reg [(0,2^17,1),(0,2^18,32),(3,2^19,393216),(4,2^20,2^19),(0,2^21,2),(0,2^22,32),(48,2^23,6291456),(64,2^24,2^23),(136,2^25,17825792)] [136,136,136,128,136,136,136,8,136] (eO 0 (eO 1 (eO 2 (eO 4 (eO 5 (eO 6 (lO 3 (lO 7 (eO 8 dO)))))))))) (hC (sQ hN) hN))) hN))))) (sQ hN))))) func30 h
def F31(x0 x1 w)(R:RT)(E):=
 opK pG E (yB 25 x0) w λa=>oN E (yB 3 x1) λf=>oN E (lA 25 a) λi=>oN E (xCall (fC 62) [i]) λb=>oN E (xT b 0) λ_t11_9=>oN E (xT b 1) λc=>oN E (bC .neq 32 13 c (vI 0)) λn=>xC n
 (R (yU [(nS),c]))
 (oN E (fA 25 a 0) λo=>oN E (lA 22 o) λq=>oN E (xCall (fC 64) [q]) λs=>oN E (xV (Instr.makeFunc (.func 65) #[] #[f])) λu=>oN E (xCall (fC 63) [s,u]) λy=>R (yU [y,(vI 0)]))
theorem e2u{x0 x1}(h:F31 x0 x1 w R E):Cv pG 31 #[x0,x1] w R E:=okG ((sQ (hS (sQ (sQ (hC (sQ hN) hN))) (sQ hN)))) func31 h
theorem e2v{x0 x1 x2 x3}(h:opK pG E (yB 55 x1) w λa=>oN E (fA 55 a 0) λak=>oN E (lA 3 ak) λc=>oN E (bC .eql 3 15 c (vI 1)) λan=>xC an
 (dN λb=>qP pG (xNil x0) λao=>qP pG (fA 63 ao 1) λj=>qP pG (fA 55 a 1) λk=>qP pG (fA 55 a 2) λl=>qL pG b (blk j) (lA 61 j) λm=>qL pG b (blk k) (lA 9 k) λap=>qL pG b (blk m) (xV (Instr.lookup 61 m ap false)) λaq=>qL pG b (blk l) (lA 52 l) λar=>qP pG (iA 52 ar (vI 0)) λn=>qL pG b (blk n) (lA 112 n) λau=>opK pG E (xCall (fC 67) [x0,aq,au,x2,x3]) b λ_t37_20 o=>keepX [] b o (R (yU []) o))
 (oN E (bC .eql 3 15 c (vI 2)) λav=>xC av
 (oN E (xCall (fC 68) [x2,x3,(vI 11)]) λaw=>oN E (yA 43) λd=>oN E (sA 43 d aw) λ_=>dN λe=>qP pG (xNil x0) λba=>qP pG (fA 63 ba 2) λq=>qP pG (fA 55 a 1) λr=>qL pG e (blk q) (lA 61 q) λs=>qL pG e (blk r) (lA 9 r) λbb=>qL pG e (blk s) (xV (Instr.lookup 61 s bb false)) λbc=>qP pG (fA 43 d 4) λbd=>opK pG E (sA 3 bd bc) e λ_ t=>keepX [] e t (opK pG E (fA 55 a 2) t λbe=>oN E (lA 52 be) λbg=>oN E (xCall (fC 69) [x0,bg,x2,(vI 0)]) λg=>oN E (xT g 0) λbj=>oN E (xT g 1) λbl=>oN E (xT g 2) λbn=>oN E (fA 43 d 6) λbp=>oN E (sA 41 bp bj) λ_=>oN E (fA 43 d 7) λbs=>oN E (sA 41 bs bl) λ_=>oN E (fA 43 d 0) λbv=>oN E (sA 3 bv bn) λ_=>oN E (lA 43 d) λca=>oN E (xCall (fC 70) [x0,ca]) λ_t65_66=>R (yU [])))
 (oN E (bC .eql 3 15 c (vI 3)) λcd=>xC cd
 (oN E (fA 55 a 4) λce=>oN E (lA 23 ce) λcg=>oN E (xCall (fC 71) [x0,cg,x3]) λv=>oN E (fA 55 a 5) λcj=>oN E (lA 23 cj) λcl=>oN E (xCall (fC 71) [x0,cl,x3]) λy=>oN E (fA 55 a 3) λco=>oN E (lA 53 co) λcq=>oN E (iA 53 cq (vI 0)) λcs=>oN E (lA 115 cs) λcu=>oN E (xCall (fC 72) [x0,cu,x2,v,y]) λ_t86_90=>oN E (fA 55 a 4) λcx=>oN E (lA 23 cx) λcz=>oN E (xCall (fC 15) [x0,cz,v,x3]) λ_t92_96=>oN E (fA 55 a 5) λdc=>oN E (lA 23 dc) λde=>oN E (xCall (fC 15) [x0,de,y,x3]) λ_t98_102=>R (yU []))
 (oN E (bC .eql 3 15 c (vI 4)) λdh=>xC dh
 (oN E (fA 55 a 4) λdi=>oN E (lA 23 di) λdk=>oN E (xCall (fC 71) [x0,dk,x2]) λaa=>oN E (fA 55 a 3) λdn=>oN E (lA 53 dn) λdq=>oN E (iA 53 dq (vI 0)) λds=>oN E (lA 115 ds) λdu=>oN E (xCall (fC 72) [x0,du,x2,aa,x3]) λ_t114_120=>oN E (fA 55 a 4) λdx=>oN E (lA 23 dx) λdz=>oN E (xCall (fC 15) [x0,dz,aa,x2]) λ_t120_126=>R (yU []))
 (oN E (bC .eql 3 15 c (vI 5)) λec=>xC ec
 (oN E (xCall (fC 14) [x0]) λac=>oN E (xCall (fC 14) [x0]) λad=>oN E (fA 55 a 3) λef=>oN E (lA 53 ef) λeh=>oN E (iA 53 eh (vI 0)) λej=>oN E (lA 115 ej) λel=>oN E (xCall (fC 72) [x0,el,x2,ac,ad]) λ_t135_142=>oN E (xCall (fC 68) [ac,x3,(vI 13)]) λeo=>oN E (xCall (fC 70) [x0,eo]) λ_t140_146=>oN E (xCall (fC 68) [ad,x3,(vI 14)]) λer=>oN E (xCall (fC 70) [x0,er]) λ_t145_150=>R (yU []))
 (oN E (bC .eql 3 15 c (vI 6)) λeu=>xC eu
 (dN λf=>qP pG (fA 55 a 3) λaf=>qP pG (xNil x0) λev=>qP pG (fA 63 ev 0) λew=>qP pG (fA 31 ew 4) λag=>qL pG f (blk af) (lA 53 af) λex=>qP pG (iA 53 ex (vI 0)) λah=>qL pG f (blk ah) (lA 115 ah) λey=>qL pG f (blk ag) (lA 3 ag) λez=>opK pG E (xCall (fC 72) [x0,ey,x2,x3,ez]) f λ_t160_163 ai=>keepX [] f ai (R (yU []) ai))
 (oN E (xCall (fC 68) [x2,x3,(vI 1)]) λfa=>oN E (xCall (fC 70) [x0,fa]) λ_t20_167=>R (yU [])))))))):Cv pG 32 #[x0,x1,x2,x3] w R E:=okG ((sQ (sQ (hB (sQ (hC (.reg [(0,2^23,1),(0,2^24,1),(2,2^25,2^24),(4,2^26,2^25),(8,2^27,2^26),(0,2^28,32),(32,2^29,2^28),(80,2^30,671088640),(0,2^31,32),(256,2^32,2^31),(512,2^33,2^32),(1024,2^34,2^33),(0,2^35,4),(0,2^36,8),(14465,2^37,121341214720)] [2768,2768,2768,2768,2752,2768,2704,2640,2768,2256,2768,720,2768,2768,0] (eO 0 (eO 1 (eO 2 (eO 3 (eO 5 (eO 8 (eO 12 (eO 13 (lO 4 (lO 6 (lO 7 (lO 9 (eO 10 (lO 11 (sO 14 dO)))))))))))))))) (sQ (hC (sQ (hS (.reg [(0,2^43,1),(1,2^44,2^43),(2,2^45,2^44),(4,2^46,2^45),(0,2^47,32),(16,2^48,2^47),(40,2^49,2^46+2^48),(127,2^50,256),(255,0,2^49+2^50)] [104,104,104,96,104,72,40,104,0] (eO 0 (eO 1 (eO 2 (eO 4 (lO 3 (lO 5 (lO 6 (eO 7 (sO 8 dO)))))))))) (sQ hN))) (sQ (hC (sQ (sQ (sQ (sQ hN)))) (sQ (hC (sQ (sQ hN)) (sQ (hC (sQ (sQ (sQ hN))) (sQ (hC (.reg [(0,2^148,1),(0,2^149,32),(2,2^150,2^149),(4,2^151,2^150),(8,2^152,2^151),(0,2^153,4),(0,2^154,8),(0,2^155,1),(128,2^156,2^155),(256,2^157,2^156),(512,2^158,2^157),(1024,2^159,2^158),(2161,2^160,2^148+2^152+2^153+2^154+2^159)] [2068,2068,2064,2068,2052,2068,2068,2068,2068,2068,2068,20,0] (eO 0 (eO 1 (eO 5 (eO 6 (eO 7 (eO 8 (eO 9 (eO 10 (lO 2 (eO 3 (lO 4 (lO 11 (sO 12 dO)))))))))))))) hN)))))))))))))))) func32 h
def d2J(x0 x5 w)(R:RT)(E):=
 ∀_τ:Fr,(opK pG E (lA 26 x5) w λa=>oN E (yS 26 1 #[(0,x0)]) λc=>oN E (yP 26 a c) λe=>oN E (sA 26 x5 e) λ_=>R (yU []))
def d2K(_x0 _x1 _x3 _x4 _x5 _x16 _x17 x18:Value)(w)(next2:NT)(_R:RT)(E):=
 ∀_τ:Fr,(oP E (bC .add 3 18 x18 (vI 1)) w λa b=>next2 [a] b)
def e2w(x0 x1 x3 x4 x5 x16 x17 x18 w)(next2:NT)(j1:NT)(R:RT)(E):=
 opK pG E (bN .lss 3 18 17 x18 x17) w λd=>xC d
 (xK (λ_ e=>d2K x0 x1 x3 x4 x5 x16 x17 x18 e next2 R E) λj3=>oN E (iA 26 x16 x18) λf=>oN E (lA 3 f) λi=>oN E (fA 31 x3 5) λk=>oN E (lA 29 k) λm=>oN E (iA 29 m i) λo=>oN E (fA 43 o 1) λq=>oN E (lA 3 q) λb=>oN E (lA 38 x1) λt=>oN E (iA 38 t b) λv=>oN E (lA 4 v) λz=>oN E (yT z) λab=>xC ab
 (oN E (lA 96 x4) λac=>oN E (xCall ac [b]) λ_t35_55=>j3 [])
 (j3 []))
 (j1 [])
theorem e2x{x0 x1 x2 x3 x4 x5}(h:opK pG E (lA 38 x1) w λb=>oN E (iA 38 b x0) λd=>oN E (sA 4 d (vB true)) λ_=>xK (λ_ g=>d2J x0 x5 g R E) λj1=>oN E (lA 74 x2) λi=>oN E (iA 74 i x0) λk=>oN E (lA 26 k) λa=>oN E (yN 26 a) λn=>xL [18] [(vI 0)] λp q next2=>e2w x0 x1 x3 x4 x5 a n (p 18) q next2 j1 R E):Cv pG 33 #[x0,x1,x2,x3,x4,x5] w R E:=okG ((sQ (hU [] (sQ (hB (hL [18] (sQ (hS (hC hN hN) (hU [] (hB (sQ (sQ (sQ (hC hN hN))))) hN)))))) hN))) func33 h
def e2y(x0 x2 x3 w)(next1:NT)(R:RT)(E):=
 opK pG E (bN .lss 3 7 8 x2 x3) w λg=>xC g
 (dN λa=>qP pG (iA 26 x0 x3) λd=>qP pG (iA 26 x0 x2) λe=>qL pG a (blk d) (lA 3 d) λi=>qL pG a (blk e) (lA 3 e) λj=>qP pG (iA 26 x0 x2) λk=>opK pG E (sA 3 k i) a λ_ b=>keepX [] a b (qP pG (iA 26 x0 x3) λl=>opK pG E (sA 3 l j) b λ_ f=>keepX [] b f (opK pG E (bC .add 3 10 x2 (vI 1)) f λm=>oN E (bC .sub 3 12 x3 (vI 1)) λo=>next1 [m,o])))
 (R (yU []))
theorem e2z{x0}(h:opK pG E (yN 26 x0) w λb=>oN E (bC .sub 3 5 b (vI 1)) λd=>xL [2,3] [(vI 0),d] λa f next1=>e2y x0 (a 2) (a 3) f next1 R E):Cv pG 34 #[x0] w R E:=okG ((sQ (hB (hL [2,3] (hS (sQ (hC hN hN)) (hS (hB (.reg [(0,2^14,1),(0,2^15,4),(0,2^16,1),(0,2^17,8),(0,2^18,1),(0,2^19,8),(48,2^20,786432),(64,2^21,2^20),(0,2^22,1),(0,2^23,4),(768,2^24,12582912),(1024,2^25,2^24),(2291,2^26,49152),(6387,0,69206016),(16383,2^27,196608),(32767,0,167772160)] [2176,2176,2176,2176,2176,2176,2176,2048,2176,2176,2176,128,2176,0,2176,0] (eO 0 (eO 1 (eO 2 (eO 3 (eO 4 (eO 5 (eO 6 (eO 8 (eO 9 (eO 10 (lO 7 (lO 11 (eO 12 (sO 13 (eO 14 (sO 15 dO)))))))))))))))))) hN)))))) func34 h
def d2L(x2 x3 w)(R:RT)(E):=
 ∀_τ:Fr,(opK pG E (lA 99 x3) w λb=>oN E (sA 99 x2 b) λ_=>xE 99 x2 λd=>R d)
def d2M(x2 x3 x5 x11 w)(j1:NT)(R:RT)(E):=
 ∀_τ:Fr,(xcond x11
 ((oN E (fA 99 x3 0) λg=>oN E (sA 4 g (vB true)) λ_=>oN E (fA 99 x3 4) λk=>oN E (sA 4 k (vB true)) λ_=>j1 []) w)
 ((oN E (bC .eql 3 5 x5 (vI 9)) λn=>xC n
 (oN E (yI 99 #[(0,(vB true))]) λo=>oN E (sA 99 x2 o) λ_=>xE 99 x2 λq=>R q)
 (oN E (bC .eql 3 5 x5 (vI 10)) λr=>xC r
 (oN E (fA 99 x3 0) λs=>oN E (sA 4 s (vB true)) λ_=>oN E (fA 99 x3 1) λv=>oN E (sA 4 v (vB true)) λ_=>j1 [])
 (oN E (bC .eql 3 5 x5 (vI 11)) λaa=>xC aa
 (oN E (fA 99 x3 1) λab=>oN E (sA 4 ab (vB true)) λ_=>oN E (fA 99 x3 4) λae=>oN E (sA 4 ae (vB true)) λ_=>j1 [])
 (oN E (bC .eql 3 5 x5 (vI 12)) λah=>xC ah
 (oN E (fA 99 x3 2) λai=>oN E (sA 4 ai (vB true)) λ_=>oN E (fA 99 x3 4) λal=>oN E (sA 4 al (vB true)) λ_=>j1 [])
 (oN E (yI 99 #[]) λao=>oN E (sA 99 x2 ao) λ_=>xE 99 x2 λaq=>R aq))))) w))
def d2N(x2 x3 x5 x7 w)(j1:NT)(R:RT)(E):=
 ∀_τ:Fr,(xcond x7
 ((oN E (fA 99 x3 0) λj=>oN E (sA 4 j (vB true)) λ_=>j1 []) w)
 (xcut (λm n=>d2M x2 x3 x5 (nth m 0) n j1 R E) λj3=>(oN E (bC .eql 3 5 x5 (vI 4)) λa=>xC a
 (j3 [a])
 (oN E (bC .eql 3 5 x5 (vI 5)) λc=>xC c
 (j3 [c])
 (oN E (bC .eql 3 5 x5 (vI 6)) λe=>xC e
 (j3 [e])
 (oN E (bC .eql 3 5 x5 (vI 7)) λg=>xC g
 (j3 [g])
 (oN E (bC .eql 3 5 x5 (vI 8)) λo=>j3 [o]))))) w))
def h35:Hint:=(sQ (sQ (hU [] (sQ (hB (hU [7] (sQ (hC hN hN)) (hC hN (hU [11] (sQ (hC hN (sQ (hC hN (sQ (hC hN (sQ (hC hN hN)))))))) (hC hN (sQ (hC (sQ hN) (sQ (hC hN (sQ (hC hN (sQ (hC hN (sQ hN))))))))))))))) (sQ hN))))
theorem e2A{x0}(h:opK pG E (yA 99) w λb=>oN E (yI 99 #[(3,(vB true))]) λf=>oN E (yA 99) λa=>oN E (sA 99 a f) λ_=>xK (λ_ k=>d2L b a k R E) λj1=>xK (λl m=>d2N b a x0 (nth l 0) m j1 R E) λj2=>oN E (bC .eql 3 5 x0 (vI 2)) λc=>xC c
 (j2 [c])
 (oN E (bC .eql 3 5 x0 (vI 3)) λn=>j2 [n])):Cv pG 35 #[x0] w R E:=okG (h35) func35 h
def F36(x0 x1 x2 w)(R:RT)(_E:Pan):=
 xcond x0
 (R x1 w)
 (R x2 w)
theorem e2B{x0 x1 x2}(h:F36 x0 x1 x2 w R E):Cv pG 36 #[x0,x1,x2] w R E:=okG ((sQ (hS (sQ (hC (sQ hN) hN)) (sQ hN)))) func36 h
theorem e2C{x0 x1}(h:opK pG E (yB 69 x0) w λb=>oN E (bC .geq 3 5 x1 (vI 0)) λa=>oN E (gYs a (fA 69 b 0)) λe=>oN E (gYs a (fA 31 e 0)) λg=>oN E (gYs a (lA 28 g)) λj=>oN E (gYs a (yN 28 j)) λl=>oN E (gYs a (fA 69 b 0)) λn=>oN E (gYs a (fA 31 n 1)) λp=>oN E (gYs a (lA 3 p)) λr=>oN E (gYs a (bN .add 3 12 15 l r)) λt=>oN E (gYs a (bN .lss 3 8 16 (gval (asB a) true x1) t)) λv=>oN E (xPick a v (vB false)) λz=>R z):Cv pG 37 #[x0,x1] w R E:=okG ((sQ (sQ hN))) func37 h
theorem e2D{x0 x1}(h:opK pG E (yB 69 x0) w λb=>oN E (bC .geq 3 5 x1 (vI 0)) λa=>oN E (gYs a (fA 69 b 0)) λe=>oN E (gYs a (fA 31 e 2)) λg=>oN E (gYs a (lA 22 g)) λj=>oN E (gYs a (yN 22 j)) λl=>oN E (gYs a (bN .lss 3 8 12 (gval (asB a) true x1) l)) λn=>oN E (xPick a n (vB false)) λp=>R p):Cv pG 38 #[x0,x1] w R E:=okG ((sQ (sQ hN))) func38 h
theorem e2E{x0 x1}(h:opK pG E (yB 69 x0) w λd=>oN E (yB 41 x1) λc=>oN E (fA 41 c 0) λg=>oN E (lA 3 g) λj=>oN E (bC .eql 3 6 j (vI (-1))) λa=>oN E (gNo a (lA 69 d)) λm=>oN E (gNo a (fA 41 c 0)) λo=>oN E (gNo a (lA 3 o)) λq=>oN E (gNo a (xCall (fC 37) [m,q])) λb=>oN E (gsem (asB (gval (asB a) false b)) true (fA 41 c 1)) λt=>oN E (gsem (asB (gval (asB a) false b)) true (lA 2 t)) λv=>oN E (gsem (asB (gval (asB a) false b)) true (bC .eql 2 15 v (vI 0))) λz=>oN E (gNo a (xPick (gval (asB a) false b) z (vB false))) λab=>oN E (xPick a (vB true) ab) λad=>R ad):Cv pG 39 #[x0,x1] w R E:=okG ((sQ (sQ hN))) func39 h
theorem e2F(h:opK pG E (yA 41) w λa=>oN E (yI 41 #[(0,(vI (-1)))]) λd=>oN E (sA 41 a d) λ_=>xE 41 a λf=>R f):Cv pG 40 #[] w R E:=okG ((sQ (sQ hN))) func40 h
theorem e2G{x0}(h:opK pG E (bC .lss 3 3 x0 (vI 1)) w λa=>oN E (gNo a (bC .gtr 3 6 (gval (asB a) false x0) (vI 6))) λd=>oN E (xPick a (vB true) d) λf=>xC f
 (R (vI 0))
 (oN E (yI 144 #[(0,(vI 0)),(1,(vI 6)),(2,(vI 5)),(3,(vI 4)),(4,(vI 3)),(5,(vI 2)),(6,(vI 1))]) λg=>oN E (yX 144 g x0) λj=>R j)):Cv pG 41 #[x0] w R E:=okG ((sQ (hS (sQ (hC (sQ hN) hN)) (sQ hN)))) func41 h
theorem e2H{x0}(h:opK pG E (yB 25 x0) w λg k=>dX k λa=>qP pG (fA 25 g 0) λi=>qP pG (fA 25 g 1) λb=>qL pG a (blk i) (lA 22 i) λl=>qL pG a (blk b) (lA 23 b) λm=>oP E (xCall (fC 75) [l,(fC 76)]) a λn c=>keepX [(blk b)] a c (opK pG E (xCall (fC 77) [m,(fC 78)]) c λo d=>keepX [] c d (opK pG E (yS 197 2 #[(0,n),(1,o)]) d λp e=>keepX [] d e (opK pG E (xCall (fC 74) [p]) e λq f=>keepX [] e f (opK pG E (xCall (fC 73) [q]) f λr j=>keepX [] f j (R r j)))))):Cv pG 42 #[x0] w R E:=okG ((sQ (hS (.reg [(0,8,2),(1,16,8),(2,32,16),(0,64,2),(8,128,64),(20,256,128),(36,512,288),(96,1024,512),(128,2048,1024),(511,4,2048)] [18,16,16,18,2,0,0,0,0,18] (eO 0 (eO 3 (lO 1 (lO 4 (sO 2 (sO 5 (sO 6 (sO 7 (sO 8 (eO 9 dO))))))))))) hN))) func42 h
def F43(x0 x1 w)(R:RT)(E):=
 opK pG E (xNil x0) w λa=>oN E (fA 83 a 1) λc=>oN E (lA 3 c) λe=>oN E (xCall (fC 79) [(Value.string ⟨#[32,32]⟩),e]) λg=>oN E (yS 28 1 #[(0,g)]) λj=>oN E (xCall (fC 45) [x0,j]) λ_t11_11=>oN E (xCall x1 []) λ_t13_13=>oN E (yS 28 1 #[(0,(Value.string ⟨#[10]⟩))]) λn=>oN E (xCall (fC 45) [x0,n]) λ_t16_17=>R (yU [])
theorem e2I{x0 x1}(h:F43 x0 x1 w R E):Cv pG 43 #[x0,x1] w R E:=okG ((sQ (sQ hN))) func43 h
def F44(x0 x1 w)(R:RT)(E):=
 opK pG E (lA 77 x0) w λa=>oN E (lA 28 x1) λc=>oN E (xCall (fC 45) [a,c]) λ_t4_5=>R (yU [])
theorem e2J{x0 x1}(h:F44 x0 x1 w R E):Cv pG 44 #[x0,x1] w R E:=okG (hN) func44 h
def e2K(x0 x6 x7 x8 w)(next1:NT)(R:RT)(E):=
 opK pG E (bN .lss 3 8 7 x8 x7) w λc=>xC c
 (oN E (iA 28 x6 x8) λd=>oN E (lA 9 d) λf=>oN E (xCall (fC 25) [x0]) λi=>xC i
 (R (yU []))
 (oN E (xNil x0) λj=>oN E (fA 83 j 0) λl=>oN E (xCall (fC 80) [l,f]) λ_t18_15=>oN E (bC .add 3 8 x8 (vI 1)) λo=>next1 [o]))
 (R (yU []))
theorem e2L{x0 x1}(h:opK pG E (yN 28 x1) w λa=>xL [8] [(vI 0)] λc d next1=>e2K x0 x1 a (c 8) d next1 R E):Cv pG 45 #[x0,x1] w R E:=okG ((sQ (hB (hL [8] (sQ (hS (hC hN hN) (hS (hB (sQ (hS (sQ (hC hN hN)) hN))) hN))))))) func45 h
def F47(x0 x1 w)(R:RT)(E):=
 opK pG E (lA 77 x0) w λe=>oN E (fA 55 x1 1) λg=>oN E (lA 9 g) λj=>oN E (yS 28 2 #[(0,j),(1,(Value.string ⟨#[32,61,32]⟩))]) λl=>oN E (xCall (fC 45) [e,l]) λ_t6_9=>dN λa=>qP pG (fA 55 x1 2) λb=>qL pG a (blk x0) (lA 77 x0) λo=>qL pG a (blk b) (lA 52 b) λp=>qP pG (iA 52 p (vI 0)) λc=>qL pG a (blk c) (lA 112 c) λq=>opK pG E (xCall (fC 48) [o,q]) a λ_t12_17 d=>keepX [] a d (opK pG E (lA 77 x0) d λr=>oN E (yS 28 1 #[(0,(Value.string ⟨#[59]⟩))]) λt=>oN E (xCall (fC 45) [r,t]) λ_t15_23=>R (yU []))
theorem e2M{x0 x1}(h:F47 x0 x1 w R E):Cv pG 47 #[x0,x1] w R E:=okG ((sQ (hS (.reg [(0,128,1),(0,256,2),(2,512,256),(4,1024,512),(8,2048,1024),(17,4096,2176)] [20,21,17,21,5,0] (eO 1 (lO 0 (lO 2 (eO 3 (lO 4 (sO 5 dO))))))) hN))) func47 h
theorem e2N{x0 x1}(h:opK pG E (yB 112 x1) w λa=>oN E (fA 112 a 0) λk=>oN E (lA 3 k) λm=>oN E (xCall (fC 82) [m]) λc=>oN E (fA 112 a 0) λp=>oN E (lA 3 p) λb=>oN E (bC .eql 3 9 b (vI 1)) λs=>xC s
 (oN E (fA 112 a 1) λt=>oN E (lA 2 t) λv=>oN E (xCall (fC 83) [v,(vI 10)]) λz=>oN E (yS 28 1 #[(0,z)]) λab=>oN E (xCall (fC 45) [x0,ab]) λ_t38_23=>R (yU []))
 (oN E (bC .eql 3 9 b (vI 2)) λae=>xC ae
 (oN E (fA 112 a 2) λaf=>oN E (lA 9 af) λah=>oN E (yS 28 1 #[(0,ah)]) λaj=>oN E (xCall (fC 45) [x0,aj]) λ_t45_33=>R (yU []))
 (oN E (bC .eql 3 9 b (vI 3)) λam=>xC am
 (oN E (yS 28 1 #[(0,(Value.string ⟨#[105,110,112,117,116]⟩))]) λan=>oN E (xCall (fC 45) [x0,an]) λ_t50_39=>R (yU []))
 (oN E (bC .eql 3 9 b (vI 4)) λaq=>xC aq
 (oN E (fA 112 a 2) λar=>oN E (lA 9 ar) λav=>oN E (yS 28 2 #[(0,av),(1,(Value.string ⟨#[91]⟩))]) λax=>oN E (xCall (fC 45) [x0,ax]) λ_t57_49=>oN E (fA 112 a 3) λba=>oN E (lA 52 ba) λbc=>oN E (iA 52 bc (vI 0)) λbe=>oN E (lA 112 be) λbg=>oN E (xCall (fC 48) [x0,bg]) λ_t63_59=>oN E (yS 28 1 #[(0,(Value.string ⟨#[93]⟩))]) λbj=>oN E (xCall (fC 45) [x0,bj]) λ_t66_63=>R (yU []))
 (oN E (bC .eql 3 9 b (vI 5)) λbm=>xC bm
 (oN E (yS 28 1 #[(0,(Value.string ⟨#[45]⟩))]) λbn=>oN E (xCall (fC 45) [x0,bn]) λ_t71_69=>oN E (fA 112 a 3) λbq=>oN E (lA 52 bq) λbs=>oN E (iA 52 bs (vI 0)) λbu=>oN E (lA 112 bu) λbw=>oN E (xCall (fC 84) [x0,bw,c]) λ_t78_79=>R (yU []))
 (oN E (fA 112 a 3) λcb=>oN E (lA 52 cb) λcd=>oN E (iA 52 cd (vI 0)) λcf=>oN E (lA 112 cf) λch=>oN E (xCall (fC 84) [x0,ch,c]) λ_t16_89=>oN E (fA 112 a 0) λck=>oN E (lA 3 ck) λcm=>oN E (xCall (fC 85) [cm]) λco=>oN E (yS 28 3 #[(0,(Value.string ⟨#[32]⟩)),(1,co),(2,(Value.string ⟨#[32]⟩))]) λcq=>oN E (xCall (fC 45) [x0,cq]) λ_t22_99=>oN E (fA 112 a 3) λct=>oN E (lA 52 ct) λcv=>oN E (iA 52 cv (vI 1)) λcx=>oN E (lA 112 cx) λcz=>oN E (bC .add 3 28 c (vI 1)) λdb=>oN E (xCall (fC 84) [x0,cz,db]) λ_t30_111=>R (yU []))))))):Cv pG 48 #[x0,x1] w R E:=okG ((sQ (sQ (sQ (hB (sQ (hC hN (sQ (hC hN (sQ (hC hN (sQ (hC (sQ (sQ hN)) (sQ (hC (sQ hN) (sQ (sQ hN))))))))))))))))) func48 h
def F49(x0 x1 w)(R:RT)(E):=
 opK pG E (lA 77 x0) w λj=>oN E (fA 55 x1 1) λl=>oN E (lA 9 l) λn=>oN E (yS 28 2 #[(0,n),(1,(Value.string ⟨#[91]⟩))]) λp=>oN E (xCall (fC 45) [j,p]) λ_t6_9=>dN λa=>qP pG (fA 55 x1 2) λc=>qL pG a (blk x0) (lA 77 x0) λs=>qL pG a (blk c) (lA 52 c) λt=>qP pG (iA 52 t (vI 0)) λd=>qL pG a (blk d) (lA 112 d) λu=>opK pG E (xCall (fC 48) [s,u]) a λ_t12_17 e=>keepX [] a e (opK pG E (lA 77 x0) e λv=>oN E (yS 28 1 #[(0,(Value.string ⟨#[93,32,61,32]⟩))]) λz=>oN E (xCall (fC 45) [v,z]) λ_t15_23=>dN λb=>qP pG (fA 55 x1 2) λf=>qL pG b (blk x0) (lA 77 x0) λac=>qL pG b (blk f) (lA 52 f) λad=>qP pG (iA 52 ad (vI 1)) λg=>qL pG b (blk g) (lA 112 g) λae=>opK pG E (xCall (fC 48) [ac,ae]) b λ_t21_31 i=>keepX [] b i (opK pG E (lA 77 x0) i λaf=>oN E (yS 28 1 #[(0,(Value.string ⟨#[59]⟩))]) λah=>oN E (xCall (fC 45) [af,ah]) λ_t24_37=>R (yU [])))
theorem e2O{x0 x1}(h:F49 x0 x1 w R E):Cv pG 49 #[x0,x1] w R E:=okG ((sQ (hS (.reg [(0,128,1),(0,256,2),(2,512,256),(4,1024,512),(8,2048,1024),(17,4096,2176)] [20,21,17,21,5,0] (eO 1 (lO 0 (lO 2 (eO 3 (lO 4 (sO 5 dO))))))) (sQ (hS (.reg [(0,2^16,1),(0,2^17,2),(2,2^18,2^17),(4,2^19,2^18),(8,2^20,2^19),(17,2^21,1114112)] [20,21,17,21,5,0] (eO 1 (lO 0 (lO 2 (eO 3 (lO 4 (sO 5 dO))))))) hN))))) func49 h
def F50(x0 x1 x2 x3 w)(R:RT)(E):=
 opK pG E (yB 77 x0) w λa=>oN E (yB 9 x1) λc=>oN E (yB 115 x2) λe=>oN E (yB 9 x3) λg=>oN E (lA 77 a) λj=>oN E (xV (Instr.makeFunc (.func 86) #[] #[a,c,e,g])) λl=>oN E (xCall (fC 43) [j,l]) λ_t10_13=>R (yU [])
theorem e2P{x0 x1 x2 x3}(h:F50 x0 x1 x2 x3 w R E):Cv pG 50 #[x0,x1,x2,x3] w R E:=okG ((sQ hN)) func50 h
def d2O(x0 w)(R:RT)(E):=
 ∀_τ:Fr,(opK pG E (xNil x0) w λa=>oN E (fA 83 a 1) λc=>oN E (lA 3 c) λe=>oN E (bC .sub 3 26 e (vI 1)) λg=>oN E (xNil x0) λj=>oN E (fA 83 j 1) λl=>oN E (sA 3 l g) λ_=>R (yU []))
def e2Q(x0 x13 x14 x15 w)(next2:NT)(j1:NT)(_R:RT)(E):=
 opK pG E (bN .lss 3 15 14 x15 x14) w λc=>xC c
 (oN E (iA 23 x13 x15) λd=>oN E (lA 55 d) λf=>oN E (yA 55) λb=>oN E (sA 55 b f) λ_=>oN E (lA 55 b) λk=>oN E (xCall (fC 24) [x0,k]) λ_t21_45=>oN E (bC .add 3 15 x15 (vI 1)) λn=>next2 [n])
 (j1 [])
theorem e2R{x0 x1}(h:opK pG E (xNil x0) w λa=>oN E (fA 83 a 1) λc=>oN E (lA 3 c) λe=>oN E (bC .add 3 9 e (vI 1)) λg=>oN E (xNil x0) λj=>oN E (fA 83 j 1) λl=>oN E (sA 3 l g) λ_=>xK (λ_ o=>d2O x0 o R E) λj1=>oN E (yN 23 x1) λp=>xL [15] [(vI 0)] λr s next2=>e2Q x0 x1 p (r 15) s next2 j1 R E):Cv pG 51 #[x0,x1] w R E:=okG ((sQ (hU [] (sQ (hB (hL [15] (sQ (hS (hC hN hN) (hS (hB (sQ hN)) hN)))))) hN))) func51 h
theorem e2S{x0}(h:opK pG E (xNil x0) w λa=>oN E (fA 81 a 1) λc=>oN E (lA 79 c) λe=>oN E (yN 79 e) λg=>R g):Cv pG 52 #[x0] w R E:=okG ((sQ (sQ hN))) func52 h
def d2P(x3 x7 w)(R:RT)(E):=
 ∀_τ:Fr,(dX w λa=>qP pG (xNil x7) λg=>qP pG (fA 167 g 3) λb=>qP pG (xNil x7) λi=>qP pG (fA 167 i 2) λf=>qP pG (yI 47 #[]) λj=>qL pG a (blk b) (lA 118 b) λk=>qL pG a (blk f) (lA 47 f) λl=>qP pG (yI 127 #[(0,(vI 5)),(3,l)]) λm=>oP E (yS 118 1 #[(0,m)]) a λn c=>keepX [(blk b)] a c (opK pG E (yP 118 k n) c λo d=>keepX [] c d (opK pG E (sA 47 x3 j) d λ_ e=>keepX [] d e (xcell pG 47 x3 e λp=>R (yU [o,p,(vI 0)]) e))))
def d2Q(x0 x3 x7 w)(next2:NT)(j1:NT)(R:RT)(E):=
 opK pG E (xNil x7) w λs=>oN E (fA 167 s 1) λu=>oN E (lA 3 u) λy=>oN E (yN 9 x0) λaa=>oN E (bN .lss 3 34 36 y aa) λac=>xC ac
 (oN E (xNil x7) λad=>oN E (fA 167 ad 2) λaf=>oN E (lA 47 af) λah=>oN E (yA 47) λa=>oN E (sA 47 a ah) λ_=>oN E (xNil x7) λal=>oN E (fA 167 al 3) λan=>oN E (lA 118 an) λap=>oN E (yN 118 ap) λar=>oN E (bC .eql 3 48 ar (vI 32768)) λav=>xC av
 (dN λd=>qL pG d (blk a) (lA 47 a) λaw=>opK pG E (sA 47 x3 aw) d λ_ e=>keepX [] d e (xcell pG 47 x3 e λax=>R (yU [(nS),ax,(vI 23)]) e))
 (oN E (xCall (fC 91) [x7]) λn=>oN E (xT n 0) λaz=>oN E (xT n 1) λ_t55_81=>oN E (xCall (fC 92) [x7,az]) λbc=>oN E (xCall bc []) λo=>oN E (xT o 0) λbf=>oN E (xT o 1) λp=>oN E (yA 127) λb=>oN E (sA 127 b bf) λ_=>oN E (bC .neq 32 63 p (vI 0)) λbk=>xC bk
 (dN λf=>qL pG f (blk a) (lA 47 a) λbl=>opK pG E (sA 47 x3 bl) f λ_ g=>keepX [] f g (xcell pG 47 x3 g λbm=>R (yU [(nS),bm,p]) g))
 (oN E (lA 47 a) λbn=>oN E (fA 127 b 3) λbp=>oN E (sA 47 bp bn) λ_=>dN λc=>qP pG (xNil x7) λbs=>qP pG (fA 167 bs 3) λi=>qL pG c (blk i) (lA 118 i) λbt=>qL pG c (blk b) (lA 127 b) λbu=>opK pG E (yS 118 1 #[(0,bu)]) c λbv j=>keepX [(blk i)] c j (opK pG E (yP 118 bt bv) j λbw k=>keepX [] j k (qP pG (xNil x7) λbz=>qP pG (fA 167 bz 3) λca=>opK pG E (sA 118 ca bw) k λ_ r=>keepX [] k r (opK pG E (xCall (fC 90) [x7]) r λ_t39_121=>next2 []))))))
 (j1 [])
def F53(x0 w)(R:RT)(E):=
 opK pG E (yA 47) w λa=>oN E (xCall (fC 88) [x0]) λc=>oN E (xT c 0) λj=>oN E (xT c 1) λd=>oN E (bC .neq 32 18 d (vI 0)) λm=>xC m
 (oN E (xCall (fC 89) [x0,j]) λn=>oN E (sA 47 a n) λ_=>xE 47 a λp=>R (yU [(nS),p,d]))
 (oN E (xCall (fC 89) [x0,(vI 0)]) λq=>oN E (yI 167 #[(0,x0),(2,q)]) λs=>oN E (yB 167 s) λb=>xK (λ_ v=>d2P a b v R E) λj1=>oN E (xCall (fC 90) [b]) λ_t30_40=>xL [] [] λ_ z next2=>d2Q x0 a b z next2 j1 R E)
theorem e2T{x0}(h:F53 x0 w R E):Cv pG 53 #[x0] w R E:=okG ((sQ (hS (sQ (sQ (hC (sQ hN) hN))) (sQ (hU [] (sQ (hB (hL [] (hS (sQ (hC hN hN)) (hS (hB (sQ (hS (sQ (hC (hS (.reg [(0,2^50,256),(0,4,0),(3,0,2^3+2^50),(7,16,0)] [0,1,0,1] (eO 1 (lO 0 (sO 2 (eO 3 dO))))) hN) hN)) (sQ (sQ (hS (sQ (hC (hS (.reg [(0,2^65,256),(0,2^66,4096),(0,4,0),(5,0,2^3+2^65),(15,16,2^66)] [0,1,1,0,1] (eO 1 (eO 2 (lO 0 (sO 3 (eO 4 dO)))))) hN) hN)) (sQ (.reg [(0,2^69,128),(0,2^70,128),(2,2^71,2^70),(4,2^72,2^71),(8,2^73,2^72),(0,2^74,2048),(32,2^75,2^74),(80,2^76,2^73+2^75),(255,2^77,2^69),(511,2^78,2^77),(767,0,2^76+2^78)] [48,48,48,48,32,16,16,0,48,48,0] (eO 0 (eO 1 (eO 2 (eO 3 (lO 4 (lO 5 (sO 6 (sO 7 (eO 8 (eO 9 (sO 10 dO))))))))))))))))))) hN))))) (hS (.reg [(0,2^79,128),(1,2^80,2^79),(2,2^81,2^80),(4,2^82,2^81),(0,2^83,128),(16,2^84,2^83),(32,2^85,2^84),(64,2^86,2^85),(128,2^87,2^86),(256,2^88,2^87),(520,2^89,2^82+2^88),(0,2^90,0),(2047,4,2^89),(8191,0,2^3+2^90),(16383,16,0)] [136,136,136,128,136,136,136,8,136,8,0,136,136,0,136] (eO 0 (eO 1 (eO 2 (eO 4 (eO 5 (eO 6 (eO 11 (lO 3 (lO 7 (eO 8 (sO 9 (sO 10 (eO 12 (sO 13 (eO 14 dO)))))))))))))))) hN)))))) func53 h
theorem e2U{x0}(h:opK pG E (yA 127) w λc g=>dX g λa=>qP pG (xNil x0) λi=>qP pG (fA 125 i 0) λd=>qP pG (xNil x0) λj=>qP pG (fA 125 j 1) λe=>qL pG a (blk d) (lA 118 d) λk=>qL pG a (blk e) (lA 3 e) λl=>qP pG (iA 118 k l) λf=>qL pG a (blk f) (lA 127 f) λm=>oP E (sA 127 c m) a λ_ b=>keepX [] a b (xcell pG 127 c b λn=>R n b)):Cv pG 55 #[x0] w R E:=okG ((sQ (hS (.reg [(0,8,1),(1,16,8),(2,32,16),(4,64,32),(0,128,1),(16,256,128),(32,512,256),(64,1024,512),(136,2048,1088),(256,4096,2048),(1023,0,4100)] [648,648,648,640,648,648,648,520,648,136,0] (eO 0 (eO 1 (eO 2 (eO 4 (eO 5 (eO 6 (lO 3 (lO 7 (eO 8 (lO 9 (sO 10 dO)))))))))))) hN))) func55 h
def h56:Hint:=hN
theorem e2V{x0}(h:opK pG E (xCall (fC 55) [x0]) w λa=>oN E (yF 127 a 3) λc=>oN E (yI 122 #[(0,c),(1,(vI 40))]) λe=>oN E (yE 122 e) λg=>oN E (xV (Instr.panic g)) λ_=>R (yU [])):Cv pG 56 #[x0] w R E:=okG (h56) func56 h
theorem e2W{x0 x1}(h:opK pG E (xCall (fC 55) [x0]) w λd=>oN E (yA 127) λb=>oN E (sA 127 b d) λ_=>oN E (fA 127 b 0) λi=>oN E (lA 3 i) λk=>oN E (bC .eql 3 9 k (vI 3)) λc=>oN E (gNo c (fA 127 b 0)) λn=>oN E (gNo c (lA 3 n)) λp=>oN E (gNo c (bC .eql 3 13 p (vI 4))) λr=>oN E (xPick c (vB true) r) λa=>oN E (gYs a (fA 127 b 1)) λu=>oN E (gYs a (lA 9 u)) λy=>oN E (gYs a (bN .eql 9 18 19 y (gval (asB a) true x1))) λaa=>oN E (xPick a aa (vB false)) λac=>R ac):Cv pG 57 #[x0,x1] w R E:=okG ((sQ (sQ (sQ hN)))) func57 h
def d2R(x0 x2 x4 w)(R:RT)(E):=
 ∀_τ:Fr,(opK pG E (xCall (fC 94) [x0,(Value.string ⟨#[59]⟩)]) w λ_t46_29=>oN E (lA 65 x4) λc=>oN E (sA 65 x2 c) λ_=>xE 65 x2 λe=>R e)
def d2S(x0 _x2 x4:Value)(w)(j1:NT)(_R:RT)(E):=
 ∀_τ:Fr,(opK pG E (xCall (fC 95) [x0]) w λa=>oN E (yF 127 a 2) λc=>oN E (fA 65 x4 1) λe=>oN E (sA 3 e c) λ_=>oN E (xCall (fC 94) [x0,(Value.string ⟨#[93]⟩)]) λ_t44_48=>j1 [])
theorem e2X{x0}(h:opK pG E (yA 65) w λe=>oN E (xCall (fC 57) [x0,(Value.string ⟨#[97,114,114,97,121]⟩)]) λj=>oN E (xNil x0) λl=>oN E (fA 125 l 1) λn=>oN E (lA 3 n) λp=>oN E (bC .add 3 11 p (vI 1)) λr=>oN E (xNil x0) λt=>oN E (fA 125 t 1) λv=>oN E (sA 3 v r) λ_=>oN E (xCall (fC 93) [x0,(vI 1)]) λaa=>oN E (yF 127 aa 1) λac=>oN E (yI 65 #[(0,ac)]) λae=>oN E (yA 65) λd=>oN E (sA 65 d ae) λ_=>xK (λ_ ah=>d2R x0 e d ah R E) λj1=>xC j
 (oN E (xCall (fC 94) [x0,(Value.string ⟨#[91]⟩)]) λ_t21_38=>xK (λ_ aj=>d2S x0 e d aj j1 R E) λj2=>oN E (xCall (fC 55) [x0]) λak=>oN E (yA 127) λa=>oN E (sA 127 a ak) λ_=>oN E (fA 127 a 0) λao=>oN E (lA 3 ao) λaq=>oN E (bC .neq 3 25 aq (vI 2)) λb=>oN E (gNo b (fA 127 a 2)) λav=>oN E (gNo b (lA 2 av)) λax=>oN E (gNo b (bC .lss 2 29 ax (vI 1))) λaz=>oN E (xPick b (vB true) az) λc=>oN E (gNo c (fA 127 a 2)) λbc=>oN E (gNo c (lA 2 bc)) λbe=>oN E (gNo c (bC .gtr 2 34 be (vI 2147483647))) λbg=>oN E (xPick c (vB true) bg) λbi=>xC bi
 (oN E (xCall (fC 56) [x0]) λ_t38_80=>j2 [])
 (j2 []))
 (j1 [])):Cv pG 58 #[x0] w R E:=okG ((sQ (sQ (sQ (sQ (hU [] (sQ (hC (sQ (hU [] (sQ (sQ (hC hN hN))) (sQ hN))) hN)) (sQ (sQ hN)))))))) func58 h
def d2T(x0 x1 w)(R:RT)(E):=
 ∀_τ:Fr,(opK pG E (bC .gtr 3 10 x1 (vI 40)) w λb=>xC b
 (oN E (xCall (fC 55) [x0]) λc=>oN E (yF 127 c 3) λe=>oN E (yI 122 #[(0,e),(1,(vI 41))]) λg=>oN E (yE 122 g) λj=>oN E (xV (Instr.panic j)) λ_=>R (yU []))
 (R (yU [])))
theorem e2Y{x0 x1 x2}(h:xcut (λ_ b=>d2T x0 x1 b R E) λj1=>(oN E (yT x2) λc=>xC c
 (oN E (xCall (fC 56) [x0]) λ_t9_17=>j1 [])
 (j1 [])) w):Cv pG 59 #[x0,x1,x2] w R E:=okG ((hU [] (sQ (hC hN hN)) (sQ (hC hN hN)))) func59 h
theorem e2Z{x0}(h:opK pG E (xCall (fC 55) [x0]) w λf=>oN E (yF 127 f 0) λi=>oN E (bC .eql 3 5 i (vI 1)) λa=>oN E (gNo a (xCall (fC 57) [(gval (asB a) false x0),(Value.string ⟨#[105,102]⟩)])) λl=>oN E (xPick a (vB true) l) λb=>oN E (gNo b (xCall (fC 57) [(gval (asB b) false x0),(Value.string ⟨#[119,104,105,108,101]⟩)])) λo=>oN E (xPick b (vB true) o) λc=>oN E (gNo c (xCall (fC 57) [(gval (asB c) false x0),(Value.string ⟨#[97,115,115,101,114,116]⟩)])) λr=>oN E (xPick c (vB true) r) λd=>oN E (gNo d (xCall (fC 57) [(gval (asB d) false x0),(Value.string ⟨#[97,115,115,117,109,101]⟩)])) λu=>oN E (xPick d (vB true) u) λe=>oN E (gNo e (xCall (fC 57) [(gval (asB e) false x0),(Value.string ⟨#[115,107,105,112]⟩)])) λz=>oN E (xPick e (vB true) z) λab=>R ab):Cv pG 60 #[x0] w R E:=okG ((sQ (sQ hN))) func60 h
end Go.Proofs.YthjlehnccgjpoaaGreatDoor
