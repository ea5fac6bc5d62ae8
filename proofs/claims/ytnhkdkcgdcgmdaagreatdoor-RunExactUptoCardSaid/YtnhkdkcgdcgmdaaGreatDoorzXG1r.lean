/- The second reading of some of the program's functions, printed by gen2.py off the code; each is held against the code by the kernel. -/
import Derived.KernelRfl
import Derived.Test.YtnhkdkcgdcgmdaaGreatDoorzXGz
namespace Go.Proofs.YtnhkdkcgdcgmdaaGreatDoor
open Go.RowKit
set_option maxRecDepth 100000
variable {w : World} {R : RT} {E : Pan}
def F73 (x0 x1 x2 w) (R : RT) (E) :=
 oP E (xBin .lss 3 (.tmp 7) (.const (vI 1)) x0 (vI 1)) w fun a c =>
 oP E (gsem (asB a) false (xBin .gtr 3 (.tmp 10) (.const (vI 6)) (gval (asB a) false x0) (vI 6))) c fun d e =>
 oP E (xPick a (vB true) d) e fun f b =>
 xcond f
 (R (vB false) b)
 (oP E (xCall (fC 118) []) b fun g i =>
 oP E (xV (Instr.index 177 g x0)) i fun j k =>
 oP E (xCall j [x1, x2]) k fun l m =>
 R l m)
def h73 : Hint := (sQ (hS (sQ (hC (sQ hN) hN)) (sQ hN)))
theorem d2j {x0 x1 x2 : Value} (h : F73 x0 x1 x2 w R E) : Cv pG 73 #[x0, x1, x2] w R E := okF (h := h73) Tryz.func73 (by kernel_rfl) (by kernel_rfl) h
def F96 (x0 x1 x2 w) (R : RT) (E) :=
 oP E (xBin .eql 3 (.tmp 7) (.const (vI 1)) x0 (vI 1)) w fun g a =>
 xcond g
 (oP E (xBin .lss 2 (.tmp 10) (.tmp 11) x1 x2) a fun i j =>
 R i j)
 (oP E (xBin .eql 3 (.tmp 7) (.const (vI 2)) x0 (vI 2)) a fun k b =>
 xcond k
 (oP E (xBin .leq 2 (.tmp 15) (.tmp 16) x1 x2) b fun l m =>
 R l m)
 (oP E (xBin .eql 3 (.tmp 7) (.const (vI 3)) x0 (vI 3)) b fun n c =>
 xcond n
 (oP E (xBin .eql 2 (.tmp 20) (.tmp 21) x1 x2) c fun o p =>
 R o p)
 (oP E (xBin .eql 3 (.tmp 7) (.const (vI 4)) x0 (vI 4)) c fun q d =>
 xcond q
 (oP E (xBin .neq 2 (.tmp 25) (.tmp 26) x1 x2) d fun r s =>
 R r s)
 (oP E (xBin .eql 3 (.tmp 7) (.const (vI 5)) x0 (vI 5)) d fun t e =>
 xcond t
 (oP E (xBin .gtr 2 (.tmp 30) (.tmp 31) x1 x2) e fun u v =>
 R u v)
 (oP E (xBin .eql 3 (.tmp 7) (.const (vI 6)) x0 (vI 6)) e fun y f =>
 xcond y
 (oP E (xBin .geq 2 (.tmp 35) (.tmp 36) x1 x2) f fun z aa =>
 R z aa)
 (R (vB false) f))))))
def h96 : Hint := (sQ (hS (sQ (hB (sQ (hC (sQ hN) (sQ (hC (sQ hN) (sQ (hC (sQ hN) (sQ (hC (sQ hN) (sQ (hC (sQ hN) (sQ (hC (sQ hN) hN)))))))))))))) (sQ hN)))
theorem d2k {x0 x1 x2 : Value} (h : F96 x0 x1 x2 w R E) : Cv pG 96 #[x0, x1, x2] w R E := okF (h := h96) Tryz.func96 (by kernel_rfl) (by kernel_rfl) h
def F98 (x0 x1 x2 w) (R : RT) (E) :=
 oP E (xBin .eql 3 (.tmp 8) (.const (vI 5)) x0 (vI 5)) w fun m a =>
 xcond m
 (oP E (xCall (fC 125) [x1]) a fun b n =>
 oP E (eX b 0) n fun o p =>
 oP E (eX b 1) p fun q r =>
 R (Value.tuple #[o, q]) r)
 (oP E (xBin .eql 3 (.tmp 8) (.const (vI 6)) x0 (vI 6)) a fun s c =>
 xcond s
 (oP E (xCall (fC 126) [x1, x2]) c fun d t =>
 oP E (eX d 0) t fun u v =>
 oP E (eX d 1) v fun y z =>
 R (Value.tuple #[u, y]) z)
 (oP E (xBin .eql 3 (.tmp 8) (.const (vI 7)) x0 (vI 7)) c fun aa e =>
 xcond aa
 (oP E (xCall (fC 127) [x1, x2]) e fun f ab =>
 oP E (eX f 0) ab fun ac ad =>
 oP E (eX f 1) ad fun ae af =>
 R (Value.tuple #[ac, ae]) af)
 (oP E (xBin .eql 3 (.tmp 8) (.const (vI 8)) x0 (vI 8)) e fun ag g =>
 xcond ag
 (oP E (xCall (fC 128) [x1, x2]) g fun i ah =>
 oP E (eX i 0) ah fun ai aj =>
 oP E (eX i 1) aj fun ak al =>
 R (Value.tuple #[ai, ak]) al)
 (oP E (xBin .eql 3 (.tmp 8) (.const (vI 9)) x0 (vI 9)) g fun am j =>
 xcond am
 (oP E (xCall (fC 129) [x1, x2]) j fun k an =>
 oP E (eX k 0) an fun ao ap =>
 oP E (eX k 1) ap fun aq ar =>
 R (Value.tuple #[ao, aq]) ar)
 (oP E (xCall (fC 130) [x1, x2]) j fun l au =>
 oP E (eX l 0) au fun av aw =>
 oP E (eX l 1) aw fun ax ay =>
 R (Value.tuple #[av, ax]) ay)))))
def h98 : Hint := (sQ (hS (sQ (hB (sQ (hC (sQ hN) (sQ (hC (sQ hN) (sQ (hC (sQ hN) (sQ (hC (sQ hN) (sQ (hC (sQ hN) hN)))))))))))) (sQ hN)))
theorem d2l {x0 x1 x2 : Value} (h : F98 x0 x1 x2 w R E) : Cv pG 98 #[x0, x1, x2] w R E := okF (h := h98) Tryz.func98 (by kernel_rfl) (by kernel_rfl) h
def d2m (x0 w) (R : RT) (E) :=
 oP E (xCall (fC 114) [(vI 0), x0]) w fun a b =>
 oP E (eX a 0) b fun c d =>
 oP E (eX a 1) d fun e f =>
 R (Value.tuple #[c, e]) f
def d5A : Hint := (sQ (sQ hN))
theorem c9o {x0 : Value} (h : d2m x0 w R E) : Cv pG 112 #[x0] w R E := okF (h := d5A) Tryz.func112 (by kernel_rfl) (by kernel_rfl) h
def d2n (x0 x1 w) (R : RT) (E) :=
 oP E (xBin .add 2 (.tmp 7) (.tmp 8) x0 x1) w fun b d =>
 oP E (xBin .lss 2 (.tmp 10) (.const (vI 0)) x0 (vI 0)) d fun e f =>
 oP E (xBin .lss 2 (.tmp 12) (.const (vI 0)) x1 (vI 0)) f fun g i =>
 oP E (xBin .eql 4 (.tmp 11) (.tmp 13) e g) i fun a j =>
 oP E (gsem (asB a) true (xBin .lss 2 (.tmp 16) (.const (vI 0)) (gval (asB a) true b) (vI 0))) j fun k l =>
 oP E (gsem (asB a) true (xBin .lss 2 (.tmp 18) (.const (vI 0)) (gval (asB a) true x0) (vI 0))) l fun m n =>
 oP E (gsem (asB a) true (xBin .neq 4 (.tmp 17) (.tmp 19) k m)) n fun o p =>
 oP E (xPick a o (vB false)) p fun q c =>
 xcond q
 (R (Value.tuple #[(vI 0), (vI 1)]) c)
 (R (Value.tuple #[b, (vI 0)]) c)
def d5B : Hint := (sQ (sQ (hS (sQ (hC (sQ hN) hN)) (sQ hN))))
theorem c9p {x0 x1 : Value} (h : d2n x0 x1 w R E) : Cv pG 113 #[x0, x1] w R E := okF (h := d5B) Tryz.func113 (by kernel_rfl) (by kernel_rfl) h
def d2o (x0 x1 w) (R : RT) (E) :=
 oP E (xBin .sub 2 (.tmp 7) (.tmp 8) x0 x1) w fun b d =>
 oP E (xBin .lss 2 (.tmp 10) (.const (vI 0)) x0 (vI 0)) d fun e f =>
 oP E (xBin .lss 2 (.tmp 12) (.const (vI 0)) x1 (vI 0)) f fun g i =>
 oP E (xBin .neq 4 (.tmp 11) (.tmp 13) e g) i fun a j =>
 oP E (gsem (asB a) true (xBin .lss 2 (.tmp 16) (.const (vI 0)) (gval (asB a) true b) (vI 0))) j fun k l =>
 oP E (gsem (asB a) true (xBin .lss 2 (.tmp 18) (.const (vI 0)) (gval (asB a) true x0) (vI 0))) l fun m n =>
 oP E (gsem (asB a) true (xBin .neq 4 (.tmp 17) (.tmp 19) k m)) n fun o p =>
 oP E (xPick a o (vB false)) p fun q c =>
 xcond q
 (R (Value.tuple #[(vI 0), (vI 1)]) c)
 (R (Value.tuple #[b, (vI 0)]) c)
def d5C : Hint := (sQ (sQ (hS (sQ (hC (sQ hN) hN)) (sQ hN))))
theorem c9q {x0 x1 : Value} (h : d2o x0 x1 w R E) : Cv pG 114 #[x0, x1] w R E := okF (h := d5C) Tryz.func114 (by kernel_rfl) (by kernel_rfl) h
def b7P (x0 x1 x6 x7 x8 w) (R : RT) (E) :=
 ∀ _τ : Fr, (oP E (xBin .neq 200 (.tmp 24) (.const (Value.int .u64 0)) x6 (Value.int .u64 0)) w fun a c =>
 oP E (gsem (asB a) false (xBin .gtr 200 (.tmp 27) (.tmp 28) (gval (asB a) false x7) (gval (asB a) false x8))) c fun d e =>
 oP E (xPick a (vB true) d) e fun f b =>
 xcond f
 (R (Value.tuple #[(vI 0), (vI 1)]) b)
 (oP E (xBin .mul 2 (.tmp 31) (.tmp 32) x0 x1) b fun g i =>
 R (Value.tuple #[g, (vI 0)]) i))
def d2p (x0 x1 w) (R : RT) (E) :=
 oP E (xCall (fC 147) [x0]) w fun c d =>
 oP E (xCall (fC 147) [x1]) d fun e f =>
 oP E (xCall (fC 146) [c, e]) f fun a g =>
 oP E (eX a 0) g fun i j =>
 oP E (eX a 1) j fun k l =>
 xcut (fun m n => b7P x0 x1 i k (nth m 0) n R E) fun j1 =>
 oP E (xBin .lss 2 (.tmp 17) (.const (vI 0)) x0 (vI 0)) l fun o p =>
 oP E (xBin .lss 2 (.tmp 19) (.const (vI 0)) x1 (vI 0)) p fun q r =>
 oP E (xBin .neq 4 (.tmp 18) (.tmp 20) o q) r fun s b =>
 xcond s
 (oP E (xBin .add 200 (.tmp 22) (.const (Value.int .u64 1)) (Value.int .u64 9223372036854775807) (Value.int .u64 1)) b fun t u =>
 j1 [t] u)
 (j1 [(Value.int .u64 9223372036854775807)] b)
def d5D : Hint := (sQ (sQ (sQ (hU [8] (sQ (hC hN hN)) (hS (sQ (hC (sQ hN) hN)) (sQ hN))))))
theorem c9r {x0 x1 : Value} (h : d2p x0 x1 w R E) : Cv pG 115 #[x0, x1] w R E := okF (h := d5D) Tryz.func115 (by kernel_rfl) (by kernel_rfl) h
def d2q (x0 x1 w) (R : RT) (E) :=
 oP E (xCall (fC 148) [x0, x1]) w fun a c =>
 oP E (xBin .neq 3 (.tmp 10) (.const (vI 0)) a (vI 0)) c fun d b =>
 xcond d
 (R (Value.tuple #[(vI 0), a]) b)
 (oP E (xBin .quo 2 (.tmp 13) (.tmp 14) x0 x1) b fun e f =>
 R (Value.tuple #[e, (vI 0)]) f)
def d5E : Hint := (sQ (hS (sQ (sQ (hC (sQ hN) hN))) (sQ hN)))
theorem c9s {x0 x1 : Value} (h : d2q x0 x1 w R E) : Cv pG 116 #[x0, x1] w R E := okF (h := d5E) Tryz.func116 (by kernel_rfl) (by kernel_rfl) h
def d2r (x0 x1 w) (R : RT) (E) :=
 oP E (xCall (fC 148) [x0, x1]) w fun a c =>
 oP E (xBin .neq 3 (.tmp 10) (.const (vI 0)) a (vI 0)) c fun d b =>
 xcond d
 (R (Value.tuple #[(vI 0), a]) b)
 (oP E (xBin .rem 2 (.tmp 13) (.tmp 14) x0 x1) b fun e f =>
 R (Value.tuple #[e, (vI 0)]) f)
def d5F : Hint := (sQ (hS (sQ (sQ (hC (sQ hN) hN))) (sQ hN)))
theorem c9t {x0 x1 : Value} (h : d2r x0 x1 w R E) : Cv pG 117 #[x0, x1] w R E := okF (h := d5F) Tryz.func117 (by kernel_rfl) (by kernel_rfl) h
def d2s (w) (R : RT) (E) :=
 oP E (xV (Instr.alloc 177 true (.tuple #[]))) w fun a c =>
 oP E (xV (Instr.build 177 #[(0, (fC 149)), (1, (fC 150)), (2, (fC 151)), (3, (fC 152)), (4, (fC 153)), (5, (fC 154)), (6, (fC 155))])) c fun d e =>
 oP E (sA 177 a d) e fun _ b =>
 xcell pG 177 a b fun f =>
 R f b
def d5G : Hint := (sQ (sQ hN))
theorem c9u (h : d2s  w R E) : Cv pG 118 #[] w R E := okF (h := d5G) Tryz.func118 (by kernel_rfl) (by kernel_rfl) h
def d2t (x0 w) (R : RT) (E) :=
 oP E (xBin .eql 2 (.tmp 4) (.const (vI (-9223372036854775808))) x0 (vI (-9223372036854775808))) w fun b a =>
 xcond b
 (R (Value.tuple #[(vI 0), (vI 1)]) a)
 (oP E (xV (Op.unary .neg x0)) a fun c d =>
 R (Value.tuple #[c, (vI 0)]) d)
def d5H : Hint := (sQ (hS (sQ (hC (sQ hN) hN)) (sQ hN)))
theorem c9v {x0 : Value} (h : d2t x0 w R E) : Cv pG 125 #[x0] w R E := okF (h := d5H) Tryz.func125 (by kernel_rfl) (by kernel_rfl) h
def d2u (x0 x1 w) (R : RT) (E) :=
 oP E (xBin .gtr 2 (.tmp 6) (.const (vI 0)) x1 (vI 0)) w fun b e =>
 oP E (gsem (asB b) true (xBin .sub 2 (.const (vI 9223372036854775807)) (.tmp 10) (vI 9223372036854775807) (gval (asB b) true x1))) e fun f g =>
 oP E (gsem (asB b) true (xBin .gtr 2 (.tmp 9) (.tmp 11) (gval (asB b) true x0) f)) g fun i j =>
 oP E (xPick b i (vB false)) j fun a k =>
 oP E (gsem (asB a) false (xBin .lss 2 (.tmp 15) (.const (vI 0)) (gval (asB a) false x1) (vI 0))) k fun c l =>
 oP E (gsem (asB (gval (asB a) false c)) true (xBin .sub 2 (.const (vI (-9223372036854775808))) (.tmp 19) (vI (-9223372036854775808)) (gval (asB (gval (asB a) false c)) true x1))) l fun m n =>
 oP E (gsem (asB (gval (asB a) false c)) true (xBin .lss 2 (.tmp 18) (.tmp 20) (gval (asB (gval (asB a) false c)) true x0) m)) n fun o p =>
 oP E (gsem (asB a) false (xPick (gval (asB a) false c) o (vB false))) p fun q r =>
 oP E (xPick a (vB true) q) r fun s d =>
 xcond s
 (R (Value.tuple #[(vI 0), (vI 1)]) d)
 (oP E (xBin .add 2 (.tmp 24) (.tmp 25) x0 x1) d fun t u =>
 R (Value.tuple #[t, (vI 0)]) u)
def d5I : Hint := (sQ (hS (sQ (hC (sQ hN) hN)) (sQ hN)))
theorem c9w {x0 x1 : Value} (h : d2u x0 x1 w R E) : Cv pG 126 #[x0, x1] w R E := okF (h := d5I) Tryz.func126 (by kernel_rfl) (by kernel_rfl) h
def d2v (x0 x1 w) (R : RT) (E) :=
 oP E (xBin .lss 2 (.tmp 6) (.const (vI 0)) x1 (vI 0)) w fun b e =>
 oP E (gsem (asB b) true (xBin .add 2 (.const (vI 9223372036854775807)) (.tmp 10) (vI 9223372036854775807) (gval (asB b) true x1))) e fun f g =>
 oP E (gsem (asB b) true (xBin .gtr 2 (.tmp 9) (.tmp 11) (gval (asB b) true x0) f)) g fun i j =>
 oP E (xPick b i (vB false)) j fun a k =>
 oP E (gsem (asB a) false (xBin .gtr 2 (.tmp 15) (.const (vI 0)) (gval (asB a) false x1) (vI 0))) k fun c l =>
 oP E (gsem (asB (gval (asB a) false c)) true (xBin .add 2 (.const (vI (-9223372036854775808))) (.tmp 19) (vI (-9223372036854775808)) (gval (asB (gval (asB a) false c)) true x1))) l fun m n =>
 oP E (gsem (asB (gval (asB a) false c)) true (xBin .lss 2 (.tmp 18) (.tmp 20) (gval (asB (gval (asB a) false c)) true x0) m)) n fun o p =>
 oP E (gsem (asB a) false (xPick (gval (asB a) false c) o (vB false))) p fun q r =>
 oP E (xPick a (vB true) q) r fun s d =>
 xcond s
 (R (Value.tuple #[(vI 0), (vI 1)]) d)
 (oP E (xBin .sub 2 (.tmp 24) (.tmp 25) x0 x1) d fun t u =>
 R (Value.tuple #[t, (vI 0)]) u)
def d5J : Hint := (sQ (hS (sQ (hC (sQ hN) hN)) (sQ hN)))
theorem c9x {x0 x1 : Value} (h : d2v x0 x1 w R E) : Cv pG 127 #[x0, x1] w R E := okF (h := d5J) Tryz.func127 (by kernel_rfl) (by kernel_rfl) h
def d2w (x0 x1 w) (R : RT) (E) :=
 oP E (xBin .eql 2 (.tmp 7) (.const (vI 0)) x0 (vI 0)) w fun a j =>
 oP E (gsem (asB a) false (xBin .eql 2 (.tmp 10) (.const (vI 0)) (gval (asB a) false x1) (vI 0))) j fun k l =>
 oP E (xPick a (vB true) k) l fun m b =>
 xcond m
 (R (Value.tuple #[(vI 0), (vI 0)]) b)
 (oP E (xBin .eql 2 (.tmp 13) (.const (vI (-1))) x0 (vI (-1))) b fun n c =>
 xcond n
 (oP E (xCall (fC 125) [x1]) c fun d o =>
 oP E (eX d 0) o fun p q =>
 oP E (eX d 1) q fun r s =>
 R (Value.tuple #[p, r]) s)
 (oP E (xBin .eql 2 (.tmp 19) (.const (vI (-1))) x1 (vI (-1))) c fun t e =>
 xcond t
 (oP E (xCall (fC 125) [x0]) e fun f u =>
 oP E (eX f 0) u fun v y =>
 oP E (eX f 1) y fun z aa =>
 R (Value.tuple #[v, z]) aa)
 (oP E (xBin .mul 2 (.tmp 25) (.tmp 26) x0 x1) e fun g ab =>
 oP E (xBin .quo 2 (.tmp 28) (.tmp 29) g x1) ab fun ac ad =>
 oP E (xBin .neq 2 (.tmp 30) (.tmp 31) ac x0) ad fun ae i =>
 xcond ae
 (R (Value.tuple #[(vI 0), (vI 1)]) i)
 (R (Value.tuple #[g, (vI 0)]) i))))
def d5K : Hint := (sQ (hS (sQ (hC (sQ hN) hN)) (hS (sQ (hC (sQ hN) hN)) (hS (sQ (hC (sQ hN) hN)) (sQ (hS (sQ (hC (sQ hN) hN)) (sQ hN)))))))
theorem c9y {x0 x1 : Value} (h : d2w x0 x1 w R E) : Cv pG 128 #[x0, x1] w R E := okF (h := d5K) Tryz.func128 (by kernel_rfl) (by kernel_rfl) h
def d2x (x0 x1 w) (R : RT) (E) :=
 oP E (xCall (fC 157) [x0, x1]) w fun a c =>
 oP E (xBin .neq 3 (.tmp 10) (.const (vI 0)) a (vI 0)) c fun d b =>
 xcond d
 (R (Value.tuple #[(vI 0), a]) b)
 (oP E (xBin .quo 2 (.tmp 13) (.tmp 14) x0 x1) b fun e f =>
 R (Value.tuple #[e, (vI 0)]) f)
def d5L : Hint := (sQ (sQ (hS (sQ (hC (sQ hN) hN)) (sQ hN))))
theorem c9z {x0 x1 : Value} (h : d2x x0 x1 w R E) : Cv pG 129 #[x0, x1] w R E := okF (h := d5L) Tryz.func129 (by kernel_rfl) (by kernel_rfl) h
def d2y (x0 x1 w) (R : RT) (E) :=
 oP E (xCall (fC 157) [x0, x1]) w fun a c =>
 oP E (xBin .neq 3 (.tmp 10) (.const (vI 0)) a (vI 0)) c fun d b =>
 xcond d
 (R (Value.tuple #[(vI 0), a]) b)
 (oP E (xBin .quo 2 (.tmp 14) (.tmp 15) x0 x1) b fun e f =>
 oP E (xBin .mul 2 (.tmp 16) (.tmp 17) e x1) f fun g i =>
 oP E (xBin .sub 2 (.tmp 13) (.tmp 18) x0 g) i fun j k =>
 R (Value.tuple #[j, (vI 0)]) k)
def d5M : Hint := (sQ (sQ (hS (sQ (hC (sQ hN) hN)) (sQ hN))))
theorem c9A {x0 x1 : Value} (h : d2y x0 x1 w R E) : Cv pG 130 #[x0, x1] w R E := okF (h := d5M) Tryz.func130 (by kernel_rfl) (by kernel_rfl) h
def d2z (x0 x1 w) (R : RT) (E) :=
 oP E (xBin .and 200 (.tmp 14) (.const (Value.int .u64 4294967295)) x0 (Value.int .u64 4294967295)) w fun a f =>
 oP E (xBin .shr 200 (.tmp 16) (.const (Value.int .u64 32)) x0 (Value.int .u64 32)) f fun b g =>
 oP E (xBin .and 200 (.tmp 18) (.const (Value.int .u64 4294967295)) x1 (Value.int .u64 4294967295)) g fun c i =>
 oP E (xBin .shr 200 (.tmp 20) (.const (Value.int .u64 32)) x1 (Value.int .u64 32)) i fun d j =>
 oP E (xBin .mul 200 (.tmp 22) (.tmp 23) a c) j fun k l =>
 oP E (xBin .mul 200 (.tmp 25) (.tmp 26) b c) l fun m n =>
 oP E (xBin .shr 200 (.tmp 28) (.const (Value.int .u64 32)) k (Value.int .u64 32)) n fun o p =>
 oP E (xBin .add 200 (.tmp 27) (.tmp 29) m o) p fun e q =>
 oP E (xBin .and 200 (.tmp 31) (.const (Value.int .u64 4294967295)) e (Value.int .u64 4294967295)) q fun r s =>
 oP E (xBin .shr 200 (.tmp 33) (.const (Value.int .u64 32)) e (Value.int .u64 32)) s fun t u =>
 oP E (xBin .mul 200 (.tmp 36) (.tmp 37) a d) u fun v y =>
 oP E (xBin .add 200 (.tmp 35) (.tmp 38) r v) y fun z aa =>
 oP E (xBin .mul 200 (.tmp 40) (.tmp 41) b d) aa fun ab ac =>
 oP E (xBin .add 200 (.tmp 42) (.tmp 43) ab t) ac fun ad ae =>
 oP E (xBin .shr 200 (.tmp 45) (.const (Value.int .u64 32)) z (Value.int .u64 32)) ae fun af ag =>
 oP E (xBin .add 200 (.tmp 44) (.tmp 46) ad af) ag fun ah ai =>
 oP E (xBin .mul 200 (.tmp 48) (.tmp 49) x0 x1) ai fun aj ak =>
 R (Value.tuple #[ah, aj]) ak
def d5N : Hint := (sQ (sQ (sQ (sQ (sQ (sQ (sQ (sQ (sQ (sQ (sQ (sQ hN))))))))))))
theorem c9B {x0 x1 : Value} (h : d2z x0 x1 w R E) : Cv pG 146 #[x0, x1] w R E := okF (h := d5N) Tryz.func146 (by kernel_rfl) (by kernel_rfl) h
def d2A (x0 w) (R : RT) (E) :=
 oP E (xBin .lss 2 (.tmp 3) (.const (vI 0)) x0 (vI 0)) w fun b a =>
 xcond b
 (oP E (xV (convert 2 200 x0)) a fun c d =>
 oP E (xV (Op.unary .neg c)) d fun e f =>
 R e f)
 (oP E (xV (convert 2 200 x0)) a fun g i =>
 R g i)
def d5O : Hint := (sQ (hS (sQ (hC (sQ hN) hN)) (sQ hN)))
theorem c9C {x0 : Value} (h : d2A x0 w R E) : Cv pG 147 #[x0] w R E := okF (h := d5O) Tryz.func147 (by kernel_rfl) (by kernel_rfl) h
def d2B (x0 x1 w) (R : RT) (E) :=
 oP E (xBin .eql 2 (.tmp 6) (.const (vI 0)) x1 (vI 0)) w fun d b =>
 xcond d
 (R (vI 2) b)
 (oP E (xBin .eql 2 (.tmp 9) (.const (vI (-9223372036854775808))) x0 (vI (-9223372036854775808))) b fun a e =>
 oP E (gsem (asB a) true (xBin .eql 2 (.tmp 12) (.const (vI (-1))) (gval (asB a) true x1) (vI (-1)))) e fun f g =>
 oP E (xPick a f (vB false)) g fun i c =>
 xcond i
 (R (vI 1) c)
 (R (vI 0) c))
def d5P : Hint := (sQ (hS (hB (sQ (hC (sQ hN) (sQ (hC (sQ hN) hN))))) (sQ hN)))
theorem c9D {x0 x1 : Value} (h : d2B x0 x1 w R E) : Cv pG 148 #[x0, x1] w R E := okF (h := d5P) Tryz.func148 (by kernel_rfl) (by kernel_rfl) h
def d2C (x0 x1 w) (R : RT) (E) :=
 oP E (xBin .lss 2 (.tmp 5) (.tmp 6) x0 x1) w fun a b =>
 R a b
def d5Q : Hint := (sQ (sQ hN))
theorem c9E {x0 x1 : Value} (h : d2C x0 x1 w R E) : Cv pG 150 #[x0, x1] w R E := okF (h := d5Q) Tryz.func150 (by kernel_rfl) (by kernel_rfl) h
def d2D (x0 x1 w) (R : RT) (E) :=
 oP E (xBin .leq 2 (.tmp 5) (.tmp 6) x0 x1) w fun a b =>
 R a b
def d5R : Hint := (sQ (sQ hN))
theorem c9F {x0 x1 : Value} (h : d2D x0 x1 w R E) : Cv pG 151 #[x0, x1] w R E := okF (h := d5R) Tryz.func151 (by kernel_rfl) (by kernel_rfl) h
def d2E (x0 x1 w) (R : RT) (E) :=
 oP E (xBin .eql 2 (.tmp 5) (.tmp 6) x0 x1) w fun a b =>
 R a b
def d5S : Hint := (sQ (sQ hN))
theorem c9G {x0 x1 : Value} (h : d2E x0 x1 w R E) : Cv pG 152 #[x0, x1] w R E := okF (h := d5S) Tryz.func152 (by kernel_rfl) (by kernel_rfl) h
def d2F (x0 x1 w) (R : RT) (E) :=
 oP E (xBin .neq 2 (.tmp 5) (.tmp 6) x0 x1) w fun a b =>
 R a b
def d5T : Hint := (sQ (sQ hN))
theorem c9H {x0 x1 : Value} (h : d2F x0 x1 w R E) : Cv pG 153 #[x0, x1] w R E := okF (h := d5T) Tryz.func153 (by kernel_rfl) (by kernel_rfl) h
def d2G (x0 x1 w) (R : RT) (E) :=
 oP E (xBin .gtr 2 (.tmp 5) (.tmp 6) x0 x1) w fun a b =>
 R a b
def d5U : Hint := (sQ (sQ hN))
theorem c9I {x0 x1 : Value} (h : d2G x0 x1 w R E) : Cv pG 154 #[x0, x1] w R E := okF (h := d5U) Tryz.func154 (by kernel_rfl) (by kernel_rfl) h
def d2H (x0 x1 w) (R : RT) (E) :=
 oP E (xBin .geq 2 (.tmp 5) (.tmp 6) x0 x1) w fun a b =>
 R a b
def d5V : Hint := (sQ (sQ hN))
theorem c9J {x0 x1 : Value} (h : d2H x0 x1 w R E) : Cv pG 155 #[x0, x1] w R E := okF (h := d5V) Tryz.func155 (by kernel_rfl) (by kernel_rfl) h
def d2I (x0 x1 w) (R : RT) (E) :=
 oP E (xBin .eql 2 (.tmp 5) (.const (vI 0)) x1 (vI 0)) w fun d b =>
 xcond d
 (R (vI 2) b)
 (oP E (xBin .eql 2 (.tmp 7) (.const (vI (-9223372036854775808))) x0 (vI (-9223372036854775808))) b fun a e =>
 oP E (gsem (asB a) true (xBin .eql 2 (.tmp 10) (.const (vI (-1))) (gval (asB a) true x1) (vI (-1)))) e fun f g =>
 oP E (xPick a f (vB false)) g fun i c =>
 xcond i
 (R (vI 1) c)
 (R (vI 0) c))
def d5W : Hint := (sQ (hS (sQ (hC (sQ hN) hN)) (hS (sQ (hC (sQ hN) hN)) (sQ hN))))
theorem c9K {x0 x1 : Value} (h : d2I x0 x1 w R E) : Cv pG 157 #[x0, x1] w R E := okF (h := d5W) Tryz.func157 (by kernel_rfl) (by kernel_rfl) h
end Go.Proofs.YtnhkdkcgdcgmdaaGreatDoor
