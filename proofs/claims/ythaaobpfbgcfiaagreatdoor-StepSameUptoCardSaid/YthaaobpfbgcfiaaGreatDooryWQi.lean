/- Arithmetic, comparisons, edges' forms: what the program's and the document's small functions answer. Contracts off the printed formulas. -/
import Derived.Laws.MathBits
import Derived.Test.YthaaobpfbgcfiaaGreatDooryWQ8
namespace Go.Proofs.YthaaobpfbgcfiaaGreatDoor
open Go.RowKit
set_option maxRecDepth 100000
set_option maxHeartbeats 2000000
def fit(x:Int):Int×Int:=if o8 x then (x,0) else (0,1)
def divS(a b:Int):Int×Int:=if b=0 then (0,2) else fit (Int.tdiv a b)
def remS(a b:Int):Int×Int:=if b=0 then (0,2) else if a = -9223372036854775808∧b = -1 then (0,1) else (Int.tmod a b,0)
def opS(k a b:Int):Int×Int:=if k=3 then fit (-a) else if k=4 then fit (a+b) else if k=5 then fit (a-b) else if k=6 then fit (a*b) else if k=7 then divS a b else remS a b
section
variable {a b:Int}{H:Hp}{K:Int→Int→Hp→Prop}
theorem b6e{x:Int}(h:o8 x):fit x=(x,0):=if_pos h
theorem b7R{x:Int}(h:¬o8 x):fit x=(0,1):=if_neg h
theorem b6f(ha:o8 a)(hb:o8 b)(h:K (fit (a+b)).1 (fit (a+b)).2 H):a6N a b H K:=by
 refine b5g _ _ ?_
 unfold b0n
 simp only [IntKind.wrap_i64]
 have ha':=ha;have hb':=hb
 unfold o8 at ha' hb'
 by_cases hf:o8 (a+b)
 ·rw [b6e hf] at h
  unfold o8 at hf
  refine ⟨fun hc=>?_,fun _=>?_⟩
  ·simp at hc;omega
  ·have:(a+b+9223372036854775808) % 18446744073709551616-9223372036854775808=a+b:=by omega
   rw [this];exact h
 ·rw [b7R hf] at h
  unfold o8 at hf
  refine ⟨fun _=>h,fun hc=>?_⟩
  simp at hc;omega
theorem b3b(ha:o8 a)(hb:o8 b)(h:K (fit (a-b)).1 (fit (a-b)).2 H):a3W a b H K:=by
 refine b5k _ _ ?_
 unfold b0D
 simp only [IntKind.wrap_i64]
 have ha':=ha;have hb':=hb
 unfold o8 at ha' hb'
 by_cases hf:o8 (a-b)
 ·rw [b6e hf] at h
  unfold o8 at hf
  refine ⟨fun hc=>?_,fun _=>?_⟩
  ·simp at hc;omega
  ·have:(a-b+9223372036854775808) % 18446744073709551616-9223372036854775808=a-b:=by omega
   rw [this];exact h
 ·rw [b7R hf] at h
  unfold o8 at hf
  refine ⟨fun _=>h,fun hc=>?_⟩
  simp at hc;omega
theorem b6g(ha:o8 a)(h:K (fit (-a)).1 (fit (-a)).2 H):a6M a H K:=by
 refine b5l _ ?_
 unfold b0E
 refine b3b (by decide) ha ?_
 rw [Int.zero_sub];exact h
theorem c8o{c:Int}(hb:o8 b)(h0:b≠0):-9223372036854775808 < Int.tmod c b∧Int.tmod c b < 9223372036854775808:=by
 have h:=Int.natAbs_tmod c b
 have h2:c.natAbs % b.natAbs < b.natAbs:=Nat.mod_lt _ (by omega)
 unfold o8 at hb
 omega
theorem b5s{x:Int}(h0:0≤x)(h1:x < 18446744073709551616):bandI .u64 x 4294967295=x % 4294967296:=by
 obtain ⟨n,rfl⟩:=Int.eq_ofNat_of_zero_le h0
 unfold bandI
 have e:(BitVec.ofInt (IntKind.bits .u64) (n:Int) &&& BitVec.ofInt (IntKind.bits .u64) 4294967295).toNat=n % 4294967296:=by
  rw [BitVec.toNat_and]
  have h2:(BitVec.ofInt (IntKind.bits .u64) (n:Int)).toNat=n:=by
   show (BitVec.ofInt 64 (n:Int)).toNat=n
   rw [BitVec.toNat_ofInt]
   omega
  have h3:(BitVec.ofInt (IntKind.bits .u64) 4294967295).toNat=2 ^ 32-1:=by decide
  rw [h2,h3,Nat.and_two_pow_sub_one_eq_mod]
 rw [e,IntKind.wrap_u64]
 omega
theorem c8p(x:Int):Int.fdiv x (2 ^ 32)=x / 4294967296:=by rw [Int.fdiv_eq_ediv_of_nonneg _ (by decide)];rfl
theorem b7O(ha:0≤a)(ha':a < 18446744073709551616)(hb:0≤b)(hb':b < 18446744073709551616)(h:K (a*b / 18446744073709551616) (a*b % 18446744073709551616) H):a6u a b H K:=by
 refine b4A _ _ ?_
 unfold a9n
 have wr:∀x,IntKind.wrap .u64 x=x % 18446744073709551616:=IntKind.wrap_u64
 have bn:∀x:Int,bandI .u64 (x % 18446744073709551616) 4294967295=x % 18446744073709551616 % 4294967296:=fun x=>b5s (by omega) (by omega)
 simp only [c8p,b5s ha ha',b5s hb hb',wr,bn]
 rw [mul64_arith a b ha ha' hb hb']
 exact h
theorem b4Q(ha:o8 a){K:Int→Hp→Prop}(h:K (a.natAbs:Int) H):a3f a H K:=by
 refine b4z _ ?_
 unfold a9m
 simp only [IntKind.wrap_u64]
 unfold o8 at ha
 refine ⟨fun hc=>?_,fun hc=>?_⟩
 ·have:(0-a % 18446744073709551616) % 18446744073709551616=(a.natAbs:Int):=by omega
  rw [this];exact h
 ·have:a % 18446744073709551616=(a.natAbs:Int):=by omega
  rw [this];exact h
theorem c8q(a b:Int):(a.natAbs:Int)*(b.natAbs:Int)=if (a < 0)=(b < 0) then a*b else -(a*b):=by
 rcases Int.natAbs_eq a with h1 | h1<;>rcases Int.natAbs_eq b with h2 | h2
 all_goals
  by_cases ca:a < 0<;>by_cases cb:b < 0
 all_goals first
  | (have e1:(a.natAbs:Int)=a:=by omega
     have e2:(b.natAbs:Int)=b:=by omega
     simp only [e1,e2,ca,cb,if_true];done)
  | (have e1:(a.natAbs:Int) = -a:=by omega
     have e2:(b.natAbs:Int)=b:=by omega
     simp [e1,e2,ca,cb,Int.neg_mul];done)
  | (have e1:(a.natAbs:Int)=a:=by omega
     have e2:(b.natAbs:Int) = -b:=by omega
     simp [e1,e2,ca,cb,Int.mul_neg];done)
  | (have e1:(a.natAbs:Int) = -a:=by omega
     have e2:(b.natAbs:Int) = -b:=by omega
     simp [e1,e2,ca,cb,Int.neg_mul_neg];done)
theorem b6h(ha:o8 a)(hb:o8 b)(h:K (fit (a*b)).1 (fit (a*b)).2 H):a6O a b H K:=by
 refine b5m _ _ ?_
 unfold b0G
 have hx:=ha;have hy:=hb
 unfold o8 at hx hy
 refine b4Q ha ?_
 refine b4Q hb ?_
 refine b7O (by omega) (by omega) (by omega) (by omega) ?_
 have hm:=c8q a b
 have hp0:0≤(a.natAbs:Int)*(b.natAbs:Int):=Int.mul_nonneg (by omega) (by omega)
 refine ⟨fun hc=>?_,fun hc=>?_⟩
 ·unfold a0H
  have hs:¬((a < 0)=(b < 0)):=by
   intro e
   simp [e] at hc
  rw [if_neg hs] at hm
  have e1:IntKind.wrap .u64 (9223372036854775807+1)=9223372036854775808:=by decide
  rw [e1]
  generalize (a.natAbs:Int)*(b.natAbs:Int)=p at *
  have hab:a*b = -p:=by omega
  rw [hab] at h ⊢
  by_cases hf:o8 (-p)
  ·rw [b6e hf] at h
   rw [Y2 hf]
   unfold o8 at hf
   refine ⟨fun hd=>?_,fun _=>h⟩
   simp at hd;omega
  ·rw [b7R hf] at h
   unfold o8 at hf
   refine ⟨fun _=>h,fun hd=>?_⟩
   simp at hd;omega
 ·unfold a0H
  have hs:(a < 0)=(b < 0):=by
   by_cases h1:a < 0<;>by_cases h2:b < 0<;>simp [h1,h2] at hc ⊢
  rw [if_pos hs] at hm
  generalize (a.natAbs:Int)*(b.natAbs:Int)=p at *
  rw [←hm] at h ⊢
  by_cases hf:o8 p
  ·rw [b6e hf] at h
   rw [Y2 hf]
   unfold o8 at hf
   refine ⟨fun hd=>?_,fun _=>h⟩
   simp at hd;omega
  ·rw [b7R hf] at h
   unfold o8 at hf
   refine ⟨fun _=>h,fun hd=>?_⟩
   simp at hd;omega
theorem c0M(ha:o8 a)(hb:b≠0)(h:¬(a = -9223372036854775808∧b = -1)):o8 (Int.tdiv a b):=by
 have hab:(Int.tdiv a b).natAbs=a.natAbs / b.natAbs:=Int.natAbs_tdiv a b
 unfold o8 at ha ⊢
 by_cases h1:b.natAbs=1
 ·rw [h1,Nat.div_one] at hab
  by_cases h2:a = -9223372036854775808
  ·have:b=1:=by omega
   subst this
   rw [Int.tdiv_one];omega
  ·omega
 ·have h4:a.natAbs / b.natAbs≤a.natAbs / 2:=Nat.div_le_div_left (by omega) (by decide)
  omega
theorem d1L(ha:o8 a):divS a b=if b=0 then (0,2) else if a = -9223372036854775808∧b = -1 then (0,1) else (Int.tdiv a b,0):=by
 unfold divS
 by_cases h0:b=0
 ·rw [if_pos h0,if_pos h0]
 ·rw [if_neg h0,if_neg h0]
  by_cases h1:a = -9223372036854775808∧b = -1
  ·rw [if_pos h1,h1.1,h1.2];rfl
  ·rw [if_neg h1,b6e (c0M ha h0 h1)]
def divW(a b:Int):Int:=if b=0 then 2 else if a = -9223372036854775808∧b = -1 then 1 else 0
theorem b1Q{K:Int→Hp→Prop}(h:K (divW a b) H):a1N a b H K:=by
 refine b2R _ _ ?_
 unfold a7G
 unfold divW at h
 refine ⟨fun hc=>by rwa [if_pos hc] at h,fun hc=>⟨fun hd=>?_,fun hd=>?_⟩⟩
 ·rw [if_neg hc,if_pos (by simpa using hd)] at h;exact h
 ·rw [if_neg hc,if_neg (by simpa using hd)] at h;exact h
theorem b6i(a b:Int):(b=0∧divW a b=2)∨(b≠0∧(a = -9223372036854775808∧b = -1)∧divW a b=1)∨(b≠0∧¬(a = -9223372036854775808∧b = -1)∧divW a b=0):=by
 unfold divW
 by_cases h0:b=0
 ·exact .inl ⟨h0,if_pos h0⟩
 ·by_cases h1:a = -9223372036854775808∧b = -1
  ·exact .inr (.inl ⟨h0,h1,by rw [if_neg h0,if_pos h1]⟩)
  ·exact .inr (.inr ⟨h0,h1,by rw [if_neg h0,if_neg h1]⟩)
theorem b6j(ha:o8 a)(h:K (divS a b).1 (divS a b).2 H):a6P a b H K:=by
 refine b5c _ _ (b1Q ?_)
 rw [d1L ha] at h
 rcases b6i a b with ⟨h0,e⟩ | ⟨h0,h1,e⟩ | ⟨h0,h1,e⟩
 ·rw [if_pos h0] at h;rw [e];exact ⟨fun _=>h,fun hc=>by cases hc⟩
 ·rw [if_neg h0,if_pos h1] at h;rw [e];exact ⟨fun _=>h,fun hc=>by cases hc⟩
 ·rw [if_neg h0,if_neg h1] at h;rw [e,Y2 (c0M ha h0 h1)];exact ⟨fun hc=>(hc rfl).elim,fun _=>⟨h0,h⟩⟩
theorem b6k(h:K (remS a b).1 (remS a b).2 H):a6Q a b H K:=by
 refine b5e _ _ (b1Q ?_)
 unfold remS at h
 rcases b6i a b with ⟨h0,e⟩ | ⟨h0,h1,e⟩ | ⟨h0,h1,e⟩
 ·rw [if_pos h0] at h;rw [e];exact ⟨fun _=>h,fun hc=>by cases hc⟩
 ·rw [if_neg h0,if_pos h1] at h;rw [e];exact ⟨fun _=>h,fun hc=>by cases hc⟩
 ·rw [if_neg h0,if_neg h1] at h;rw [e];exact ⟨fun hc=>(hc rfl).elim,fun _=>⟨h0,h⟩⟩
end
def cmpS(op a b:Int):Bool:=if op=1 then decide (a < b) else if op=2 then decide (a≤b) else if op=3 then decide (a=b) else if op=4 then !decide (a=b) else if op=5 then decide (b < a) else if op=6 then decide (b≤a) else false
section
variable {op a b:Int}{H:Hp}
theorem b6l{K:Hp→Prop}(h:K H):a3t H K:=b1N (by unfold a7d;exact h)
theorem b6m{K:Bool→Hp→Prop}(h:K (cmpS op a b) H):a6L op a b H K:=by
 refine b5p _ _ _ ?_
 unfold b0K
 unfold cmpS at h
 refine ⟨fun h1=>?_,fun h1=>b6l ⟨?_,?_,K,fun _ _ h=>h,?_,?_,?_,?_,?_,?_,?_⟩⟩
 ·simp at h1
  rw [if_neg (by omega),if_neg (by omega),if_neg (by omega),if_neg (by omega),if_neg (by omega),if_neg (by omega)] at h
  exact h
 ·simp at h1;omega
 ·simp at h1;omega
 ·intro e;simp at h1;omega
 ·rintro rfl;exact b0T _ _ (by unfold a6k;exact h)
 ·rintro rfl;exact b0U _ _ (by unfold a6l;exact h)
 ·rintro rfl;exact b0Z _ _ (by unfold a6q;exact h)
 ·rintro rfl;exact b0V _ _ (by unfold a6m;exact h)
 ·rintro rfl;exact b1b _ _ (by unfold a6s;exact h)
 ·rintro rfl;exact b0X _ _ (by unfold a6o;exact h)
end
def eN(k n:Int)(s:ByteArray)(cs:List PT):PT:=.mk (.expr k n s cs.length) cs
def kidC:List PT→Option Int
 | .mk (.expr k n _ _) _::_=>if k=1 then some (IntKind.wrap .i64 (0-n)) else none
 | _=>none
def cst:PT→Option Int
 | .mk (.expr k n _ _) cs=>if k=1 then some n else if k=5 then kidC cs else none
 | _=>none
def two(f:Int→Int→Option Int):Option Int→Option Int→Option Int
 | some x,some y=>f x y
 | _,_=>none
def cN(k op:Int)(xs ps:List PT):PT:=.mk (.cond k op xs.length ps.length) (xs++ps)
def kindC:PT→Int
 | .mk (.cond k _ _ _) _=>k
 | _=>0
def arE(k:Int)(n:Nat):Prop:=1≤k∧k≤10∧(k < 5→n≤1)∧(k=5→n=1)∧(6≤k→n=2)
inductive Ar:PT→Prop
 | mk {k n:Int} {s:ByteArray} {a:Nat} {cs:List PT}:arE k cs.length∧a=cs.length→o8 n→(∀t∈cs,Ar t)→Ar (.mk (.expr k n s a) cs)
def arC(k:Int)(e p:Nat):Prop:=(k=3→e=2)∧(k=4→p=1)∧(k=5→p=2)∧(k=6→p=2)
inductive ArC:PT→Prop
 | mk {k op:Int} {xs ps:List PT}:arC k xs.length ps.length→(∀t∈xs,Ar t)→(∀t∈ps,ArC t)→ArC (.mk (.cond k op xs.length ps.length) (xs++ps))
theorem b7w(n:Int):o8 (IntKind.wrap .i64 n):=by rw [IntKind.wrap_i64];unfold o8;omega
theorem d1M{t:PT}(h:Ar t){v:Int}(hv:cst t=some v):o8 v:=by
 cases h with
 | @mk k n s a cs h1 h2 h3=>
  rw [cst] at hv
  split at hv
  ·cases hv;exact h2
  ·split at hv
   ·unfold kidC at hv
    split at hv
    ·split at hv
     ·cases hv;exact b7w _
     ·cases hv
    ·cases hv
   ·cases hv
section
variable {H:Hp}
theorem EH.kid{e:q8}{ts:List PT}{l:Lab}(he:EH H e (.mk l ts)){i:Nat}{t:PT}(ht:ts[i]? = some t):∃x,EltH H e.D9 i 4 (j9 x)∧EH H x t∧(i:Int) < e.D9.n:=by
 cases he with
 | @mk _ xs _ hs hb hl hr=>
  obtain ⟨x,hx⟩:=y7 (l:=xs) (i:=i) (by have:=C3 ht;omega)
  have:=C3 hx
  have hn:=hs.1
  exact ⟨x,hs.2 i x hx,hr i x t hx ht,by omega⟩
theorem EH.inv{e:q8}{t:PT}(he:EH H e t):∃ts,t=eN e.b8 e.s8 e.f8 ts∧e.D9.n=ts.length:=by
 cases he with
 | @mk _ xs ts hs hb hl hr=>exact ⟨ts,rfl,by have:=hs.1;omega⟩
def cstP(t:PT):Int×Bool:=match cst t with | some v=>(v,true) | none=>(0,false)
theorem b7x{t:PT}{v:Int}(h:cst t=some v):cstP t=(v,true):=by unfold cstP;rw [h]
theorem b7y{t:PT}(h:cst t=none):cstP t=(0,false):=by unfold cstP;rw [h]
theorem d4W{k n:Int}{s:ByteArray}{a:Nat}{ts:List PT}(h:Ar (.mk (.expr k n s a) ts))(hk:k=5):∃t,ts=[t]∧Ar t:=by
 cases h with
 | mk h1 h2 h3=>
  have:=h1.1.2.2.2.1 hk
  match ts,this with
  | [t],_=>exact ⟨t,rfl,h3 t (by simp)⟩
theorem c8r{e:q8}{t:PT}(he:EH H e t)(ha:Ar t){K:Int→Bool→Hp→Prop}(h:K (cstP t).1 (cstP t).2 H):a3x e H K:=by
 obtain ⟨ts,rfl,hn⟩:=he.inv
 unfold a3x
 refine ⟨fun h1=>?_,fun h1=>?_⟩
 ·have:cst (eN e.b8 e.s8 e.f8 ts)=some e.s8:=by unfold eN;rw [cst,if_pos h1]
  rw [b7x this] at h;exact h
 ·by_cases h5:e.b8=5
  ·obtain ⟨t,rfl,hat⟩:=d4W ha h5
   obtain ⟨x,hE,hx,hl⟩:=he.kid (i:=0) rfl
   obtain ⟨us,rfl,_⟩:=hx.inv
   have hc:cst (eN e.b8 e.s8 e.f8 [eN x.b8 x.s8 x.f8 us])=if x.b8=1 then some (IntKind.wrap .i64 (0-x.s8)) else none:=by
    unfold eN;rw [cst,if_neg h1,if_pos h5,kidC]
   refine ⟨x,fun _=>⟨Int.le_refl _,hl,hE⟩,fun hq=>⟨Int.le_refl _,hl,x,hE,?_⟩,fun hq=>?_⟩
   ·simp only [Bool.and_eq_true,decide_eq_true_eq] at hq
    rw [if_pos hq.2] at hc
    rw [b7x hc] at h;exact h
   ·rw [if_neg (by rw [decide_eq_true h5,Bool.true_and] at hq;exact of_decide_eq_false hq)] at hc
    rw [b7y hc] at h;exact h
  ·have hc:cst (eN e.b8 e.s8 e.f8 ts)=none:=by unfold eN;rw [cst,if_neg h1,if_neg h5]
   rw [b7y hc] at h
   refine ⟨⟨0,0,⟨#[]⟩,⟨none,0,0⟩⟩,fun hq=>((h5 (of_decide_eq_true hq)).elim),fun hq=>?_,fun _=>h⟩
   rw [decide_eq_false h5,Bool.false_and] at hq;cases hq
end
section
variable {H:Hp}
theorem CH.kind{e:y9}{t:PT}(h:CH H e t):e.b8=kindC t:=by cases h;rfl
theorem SlH.at_{α:Type}{sz:Nat}{c:α→List Value}{s:Sl}{xs:List α}(hs:SlH H sz c s xs){i:Nat}{x:α}(hx:xs[i]? = some x):EltH H s i sz (c x)∧(i:Int) < s.n:=⟨hs.2 i x hx,by have:=C3 hx;have:=hs.1;omega⟩
end
theorem E7:∀{ts:List PT}(_:formTs ts=true){t:PT}(_:t∈ts),formT t=true
 | t::ts,h,u,hu=>by
  rw [formTs,Bool.and_eq_true] at h
  rcases List.mem_cons.1 hu with e | hu
  ·rw [e];exact h.1
  ·exact E7 h.2 hu
theorem c5e{k n:Int}{s:ByteArray}{a:Nat}(h:formE k n s a=true):arE k a:=by
 unfold formE at h
 split at h
 ·cases h
 ·split at h
  ·simp only [Bool.and_eq_true,decide_eq_true_eq] at h;unfold arE;omega
  ·split at h
   ·simp only [decide_eq_true_eq] at h;unfold arE;omega
   ·split at h
    ·simp only [decide_eq_true_eq] at h;unfold arE;omega
    ·split at h
     ·simp only [decide_eq_true_eq] at h;unfold arE;omega
     ·cases h
theorem c5f{k op:Int}{e p:Nat}(h:formC k op e p=true):arC k e p:=by
 unfold formC at h
 split at h
 ·simp only [Bool.and_eq_true,decide_eq_true_eq] at h;unfold arC;omega
 ·split at h
  ·split at h
   ·simp only [decide_eq_true_eq] at h;unfold arC;omega
   ·split at h
    ·simp only [decide_eq_true_eq] at h;unfold arC;omega
    ·split at h
     ·simp only [decide_eq_true_eq] at h;unfold arC;omega
     ·cases h
  ·cases h
section
variable {H:Hp}
theorem Sm.num{l:Lab}{cs:List PT}(h:Sm (.mk l cs)):o8 (numL l)∧∀t∈cs,Sm t:=by
 cases h with
 | mk h1 h2=>exact ⟨h1.2,h2⟩
theorem c6Q{e:q8}{t:PT}(he:EH H e t)(hf:formT t=true)(hs:Sm t):Ar t:=by
 induction he with
 | @mk e xs ts hsl hb hl hr ih=>
  rw [formT,Bool.and_eq_true] at hf
  refine .mk ⟨c5e hf.1,rfl⟩ hs.num.1 fun t ht=>?_
  obtain ⟨i,hi⟩:=List.getElem?_of_mem ht
  obtain ⟨x,hx⟩:=y7 (l:=xs) (i:=i) (by have:=C3 hi;omega)
  exact ih i x t hx hi (E7 hf.2 ht) (hs.num.2 t ht)
theorem d1N{e:y9}{t:PT}(he:CH H e t)(hf:formT t=true)(hs:Sm t):ArC t:=by
 induction he with
 | @mk e xs ts ys us hsl hb hr hc hcb hcl hcr ih=>
  rw [formT,Bool.and_eq_true] at hf
  refine .mk (c5f hf.1) (fun t ht=>?_) fun t ht=>?_
  ·obtain ⟨i,hi⟩:=List.getElem?_of_mem ht
   obtain ⟨x,hx⟩:=y7 (l:=xs) (i:=i) (by have:=C3 hi;have:=hr.1;omega)
   exact c6Q (hr.2 i x t hx hi) (E7 hf.2 (List.mem_append_left _ ht)) (hs.num.2 t (List.mem_append_left _ ht))
  ·obtain ⟨i,hi⟩:=List.getElem?_of_mem ht
   obtain ⟨x,hx⟩:=y7 (l:=ys) (i:=i) (by have:=C3 hi;omega)
   exact ih i x t hx hi (E7 hf.2 (List.mem_append_right _ ht)) (hs.num.2 t (List.mem_append_right _ ht))
end
end Go.Proofs.YthaaobpfbgcfiaaGreatDoor
