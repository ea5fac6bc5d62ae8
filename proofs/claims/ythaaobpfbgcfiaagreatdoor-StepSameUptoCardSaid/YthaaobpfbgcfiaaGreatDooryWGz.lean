/- Shorter words for the readings. -/
import Derived.Test.YthaaobpfbgcfiaaGreatDoorProg
import Derived.Test.YthaaobpfbgcfiaaGreatDooryWK1
namespace Go.Proofs.YthaaobpfbgcfiaaGreatDoor
open Go.RowKit
abbrev oP (E : Pan) (s : Sem Next) (w : World) (K : Value → World → Prop) : Prop := opK Tryz.prog E s w K
abbrev RT := Value → World → Prop
abbrev NT := List Value → World → Prop
abbrev lA (t : TypeId) (p : Value) : Sem Next := xV (Instr.loadAt t p)
abbrev fA (t : TypeId) (p : Value) (i : Nat) : Sem Next := xV (Instr.fieldAt t p i)
abbrev iA (t : TypeId) (p i : Value) : Sem Next := xV (Instr.indexAt t p i)
abbrev xT (v : Value) (i : Nat) : Sem Next := xV (Instr.extract v i)
abbrev sA (t : TypeId) (p v : Value) : Sem Next := xU (Instr.storeAt t p v)
abbrev vB (b : Bool) : Value := Value.bool b
abbrev gYs (a : Value) (s : Sem Next) : Sem Next := gsem (asB a) true s
abbrev gNo (a : Value) (s : Sem Next) : Sem Next := gsem (asB a) false s
abbrev zT (a x : Value) : Value := gval (asB a) true x
abbrev zF (a x : Value) : Value := gval (asB a) false x
abbrev bN (o : BinOp) (t : TypeId) (i j : Nat) (x y : Value) : Sem Next := xBin o t (.tmp i) (.tmp j) x y
abbrev bC (o : BinOp) (t : TypeId) (i : Nat) (x c : Value) : Sem Next := xBin o t (.tmp i) (.const c) x c
abbrev fC (n : Nat) : Value := Value.func (.func n) #[] #[]
theorem nB {n m : Nat} (h : Nat.ble n m = true) : n ≤ m := Nat.le_of_ble_eq_true h
abbrev vI (n : Int) : Value := Value.int .i64 n
abbrev nS : Value := Value.slice none 0 0
abbrev eS : Value := Value.string ⟨#[]⟩
noncomputable abbrev pG : Program := Tryz.prog
theorem pLs {P : Program} {t : TypeId} {x y : Operand} {k : IntKind} {a b : Int} : Pu P (xBin .lss t x y (.int k a) (.int k b)) (.bool (decide (a < b))) := A4 _ _ _ _ _ _
theorem pLe {P : Program} {t : TypeId} {x y : Operand} {k : IntKind} {a b : Int} : Pu P (xBin .leq t x y (.int k a) (.int k b)) (.bool (decide (a ≤ b))) := a8s _ _ _ _ _ _
theorem pGt {P : Program} {t : TypeId} {x y : Operand} {k : IntKind} {a b : Int} : Pu P (xBin .gtr t x y (.int k a) (.int k b)) (.bool (decide (b < a))) := O1 _ _ _ _ _ _
theorem pGe {P : Program} {t : TypeId} {x y : Operand} {k : IntKind} {a b : Int} : Pu P (xBin .geq t x y (.int k a) (.int k b)) (.bool (decide (b ≤ a))) := a3r _ _ _ _ _ _
theorem pEq {P : Program} {t : TypeId} {x y : Operand} {k : IntKind} {a b : Int} : Pu P (xBin .eql t x y (.int k a) (.int k b)) (.bool (decide (a = b))) := i7 _ _ _ _ _ _
theorem pNe {P : Program} {t : TypeId} {x y : Operand} {k : IntKind} {a b : Int} : Pu P (xBin .neq t x y (.int k a) (.int k b)) (.bool (!decide (a = b))) := O8 _ _ _ _ _ _
theorem pAd {P : Program} {t : TypeId} {x y : Operand} {k : IntKind} {a b : Int} : Pu P (xBin .add t x y (.int k a) (.int k b)) (.int k (k.wrap (a + b))) := B0 _ _ _ _ _ _
theorem pSu {P : Program} {t : TypeId} {x y : Operand} {k : IntKind} {a b : Int} : Pu P (xBin .sub t x y (.int k a) (.int k b)) (.int k (k.wrap (a - b))) := b0d _ _ _ _ _ _
theorem pMu {P : Program} {t : TypeId} {x y : Operand} {k : IntKind} {a b : Int} : Pu P (xBin .mul t x y (.int k a) (.int k b)) (.int k (k.wrap (a * b))) := b1A _ _ _ _ _ _
abbrev sQ (h : Hint) : Hint := .seq .none h
abbrev hN : Hint := .none
abbrev hS (a b : Hint) : Hint := .seq a b
abbrev hC (a b : Hint) : Hint := .cond a b
abbrev hU (s : List Nat) (a b : Hint) : Hint := .cut s a b
abbrev hB (a : Hint) : Hint := .block a
abbrev hL (s : List Nat) (a : Hint) : Hint := .loop s a
end Go.Proofs.YthaaobpfbgcfiaaGreatDoor
