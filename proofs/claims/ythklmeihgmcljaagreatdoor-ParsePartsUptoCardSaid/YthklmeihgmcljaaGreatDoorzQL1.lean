/- Tokens: what the document's functions on runes and blanks answer. Off the printed formulas. -/
import Derived.Test.YthklmeihgmcljaaGreatDoorzQM5
namespace Go.Proofs.YthklmeihgmcljaaGreatDoor
open Go.RowKit
set_option maxRecDepth 100000
set_option maxHeartbeats 1000000
section
variable {H:Hp}
theorem b8B (s:ByteArray) (p:Nat):(s.get! p).toNat < 256:=UInt8.toNat_lt _
theorem a7M (a b:Nat) (h:a+b≤4398046511104):IntKind.wrap .i64 ((a:Int)+(b:Int))=((a+b:Nat):Int):=by
 rw [y4 ⟨by omega,by omega⟩];omega
theorem c1U (s:ByteArray) (p:Nat):IntKind.wrap .i64 ((s.get! p).toNat:Int)=((s.get! p).toNat:Int):=by
 have:=b8B s p
 exact y4 ⟨by omega,by omega⟩
theorem d2t {u b:Nat} (hu:u < 64 ^ 4) (h:128≤b) (hb:b < 256):IntKind.wrap .i64 ((IntKind.wrap .i64 ((IntKind.wrap .i64 (64*(u:Int)))+(IntKind.wrap .i64 (b:Int))))-128)=((64*u+b-128:Nat):Int):=by
 have e1:IntKind.wrap .i64 (64*(u:Int))=64*(u:Int):=y4 ⟨by omega,by omega⟩
 have e2:IntKind.wrap .i64 (b:Int)=(b:Int):=y4 ⟨by omega,by omega⟩
 rw [e1,e2,y4 (a:=64*(u:Int)+b) ⟨by omega,by omega⟩,y4 ⟨by omega,by omega⟩]
 omega
theorem c4p (s:ByteArray) {p n i u:Nat} (h:¬i < n):∀f,refTail s p n f i u=some u
 | 0=>rfl
 | f+1=>by simp [refTail,h]
theorem d2u {least n u:Nat} {K:Int→Int→Bool→Hp→Prop} (h:K ((refFin least n (some u)).1:Int) ((refFin least n (some u)).2.1:Int) (refFin least n (some u)).2.2 H):Q9 n least u H K:=by
 unfold Q9
 by_cases c:u < least∨1114111 < u∨(55296≤u∧u < 57344)
 ·rw [b5Z c] at h
  have:((decide ((u:Int) < least)||decide ((1114111:Int) < u))||(decide ((55296:Int)≤u)&&decide ((u:Int) < 57344)))=true:=by simp;omega
  rw [this]
  exact ⟨fun _=>h,fun hc=>(by cases hc)⟩
 ·rw [b5p c] at h
  have:((decide ((u:Int) < least)||decide ((1114111:Int) < u))||(decide ((55296:Int)≤u)&&decide ((u:Int) < 57344)))=false:=by simp;omega
  rw [this]
  exact ⟨fun hc=>(by cases hc),fun _=>h⟩
theorem b3f {s:ByteArray} {p n:Nat} {least:Nat} {K:Int→Int→Bool→Hp→Prop} (hs:s.size≤big) (hp:p < s.size) (hn:n≤4) (v:Nat) (hv:v < 64)
  (h:K ((refFin least n (refTail s p n 3 1 v)).1:Int) ((refFin least n (refTail s p n 3 1 v)).2.1:Int) (refFin least n (refTail s p n 3 1 v)).2.2 H):
  G8 s p n least v H K:=by
 unfold G8
 simp only [big] at hs
 refine L0 (fun (z:Int×Int) H'=>H'=H∧∃(i u:Nat),z=((u:Int),(i:Int))∧1≤i∧i≤4∧u < 64 ^ i∧refTail s p n (4-i) i u=refTail s p n 3 1 v) (fun z=>(4-z.2).toNat) ⟨rfl,1,v,rfl,by omega,by omega,by omega,rfl⟩ ?_
 rintro z H1 next ⟨rfl,i,u,rfl,hi,hi4,hu,he⟩ hk
 have hu4:u < 64 ^ 4:=Nat.lt_of_lt_of_le hu (Nat.pow_le_pow_right (by omega) hi4)
 unfold X0
 dsimp only
 rw [a7M p i (by omega)]
 simp only [Int.toNat_natCast]
 refine ⟨fun c=>?_,fun c=>?_⟩
 ·have hin:i < n:=by omega
  rw [c1L s p n (4-i) i u hin (by omega)] at he
  have hb:=b8B s (p+i)
  by_cases cc:p+i < s.size∧128≤(s.get! (p+i)).toNat∧(s.get! (p+i)).toNat < 192
  ·rw [if_pos cc] at he
   obtain ⟨c1,c2,c3⟩:=cc
   have e1:decide (((s.size:Nat):Int)≤((p+i:Nat):Int))=false:=decide_eq_false (by omega)
   have e2:decide (((s.get! (p+i)).toNat:Int) < 128)=false:=decide_eq_false (by omega)
   have e3:decide ((192:Int)≤((s.get! (p+i)).toNat:Int))=false:=decide_eq_false (by omega)
   rw [e1,e2,e3]
   refine ⟨fun _=>⟨by omega,by omega⟩,fun _=>⟨by omega,by omega⟩,fun hc=>(by cases hc),fun _=>⟨by omega,by omega,?_⟩⟩
   rw [d2t hu4 c2 hb,y4 (a:=(i:Int)+1) ⟨by omega,by omega⟩]
   have hx:64*u+(s.get! (p+i)).toNat-128 < 64 ^ (i+1):=by rw [Nat.pow_succ];omega
   exact hk _ _ ⟨rfl,i+1,64*u+(s.get! (p+i)).toNat-128,by rw [Int.natCast_add];rfl,by omega,by omega,hx,by rw [←he];congr 1⟩ (by dsimp only;omega)
  ·rw [if_neg cc] at he
   rw [←he] at h
   have e:(decide (((s.size:Nat):Int)≤((p+i:Nat):Int))||decide (((s.get! (p+i)).toNat:Int) < 128)||decide ((192:Int)≤((s.get! (p+i)).toNat:Int)))=true:=by simp;omega
   refine ⟨fun q=>?_,fun q=>?_,fun _=>h,fun q=>?_⟩
   ·have:=of_decide_eq_false q;omega
   ·have:=of_decide_eq_false (Bool.or_eq_false_iff.1 q).1;omega
   ·rw [e] at q;cases q
 ·rw [c4p s (by omega)] at he
  rw [←he] at h
  exact d2u h
theorem b4S {s:ByteArray} {p:Nat} (hs:s.size≤big) (hp:p < s.size) {K:Int→Int→Bool→Hp→Prop} (h:K (rn s p) (wd s p:Int) (!decide (bad s p)) H):O0 s p H K:=by
 refine a7r _ _ ?_
 have h':K ((refRune s p).1:Int) ((refRune s p).2.1:Int) (refRune s p).2.2 H:=by rw [b2y];exact h
 clear h
 unfold a2f
 simp only [Int.toNat_natCast,c1U]
 unfold refRune at h'
 dsimp only at h'
 have hb:=b8B s p
 generalize (s.get! p).toNat=c at hb h' ⊢
 refine ⟨by omega,by omega,fun c1=>?_,fun c1=>?_⟩
 ·rw [if_pos (by omega)] at h'
  exact h'
 rw [if_neg (by omega)] at h'
 have cut:∀(a b:Int),(decide (a≤(c:Int))&&decide ((c:Int) < b))=decide (a≤c∧(c:Int) < b):=fun a b=>by rw [Bool.decide_and]
 rw [cut,cut,cut]
 have sb:∀m:Nat,m≤c→IntKind.wrap .i64 ((c:Int)-(m:Int))=((c-m:Nat):Int):=fun m hm=>by rw [y4 ⟨by omega,by omega⟩];omega
 by_cases c2:194≤c∧c < 224
 ·rw [if_pos c2] at h'
  refine ⟨fun _=>?_,fun q=>absurd (of_decide_eq_false q) (by omega)⟩
  have e:IntKind.wrap .i64 ((c:Int)-192)=((c-192:Nat):Int):=sb 192 (by omega)
  rw [e]
  exact b3f (n:=2) (least:=128) hs hp (by omega) _ (by omega) h'
 rw [if_neg c2] at h'
 refine ⟨fun q=>absurd (of_decide_eq_true q) (by omega),fun _=>?_⟩
 by_cases c3:224≤c∧c < 240
 ·rw [if_pos c3] at h'
  refine ⟨fun _=>?_,fun q=>absurd (of_decide_eq_false q) (by omega)⟩
  have e:IntKind.wrap .i64 ((c:Int)-224)=((c-224:Nat):Int):=sb 224 (by omega)
  rw [e]
  exact b3f (n:=3) (least:=2048) hs hp (by omega) _ (by omega) h'
 rw [if_neg c3] at h'
 refine ⟨fun q=>absurd (of_decide_eq_true q) (by omega),fun _=>?_⟩
 by_cases c4:240≤c∧c < 245
 ·rw [if_pos c4] at h'
  refine ⟨fun _=>?_,fun q=>absurd (of_decide_eq_false q) (by omega)⟩
  have e:IntKind.wrap .i64 ((c:Int)-240)=((c-240:Nat):Int):=sb 240 (by omega)
  rw [e]
  exact b3f (n:=4) (least:=65536) hs hp (by omega) _ (by omega) h'
 rw [if_neg c4] at h'
 exact ⟨fun q=>absurd (of_decide_eq_true q) (by omega),fun _=>h'⟩
theorem b2B {a b r:Int} {K:Bool→Hp→Prop} (h:K (decide (a≤r)&&decide (r≤b)) H):y3 r a b H K:=a6c _ _ _ h
def b2C:ByteArray:=⟨#[59,44,123,125,40,41,91,93,61,33,60,62,43,45,42,47,37,38,124]⟩
theorem b7P {r:Int}:signR r↔∃i:Nat,i < 19∧r=((b2C.get! i).toNat:Int):=by
 have all:∀i:Nat,i < 19→signR ((b2C.get! i).toNat:Int):=by decide
 constructor
 ·intro h
  unfold signR at h
  rcases h with h | h | h | h | h | h | h | h | h | h | h | h | h | h | h | h | h | h | h
  ·exact ⟨0,by omega,h⟩
  ·exact ⟨1,by omega,h⟩
  ·exact ⟨2,by omega,h⟩
  ·exact ⟨3,by omega,h⟩
  ·exact ⟨4,by omega,h⟩
  ·exact ⟨5,by omega,h⟩
  ·exact ⟨6,by omega,h⟩
  ·exact ⟨7,by omega,h⟩
  ·exact ⟨8,by omega,h⟩
  ·exact ⟨9,by omega,h⟩
  ·exact ⟨10,by omega,h⟩
  ·exact ⟨11,by omega,h⟩
  ·exact ⟨12,by omega,h⟩
  ·exact ⟨13,by omega,h⟩
  ·exact ⟨14,by omega,h⟩
  ·exact ⟨15,by omega,h⟩
  ·exact ⟨16,by omega,h⟩
  ·exact ⟨17,by omega,h⟩
  ·exact ⟨18,by omega,h⟩
 ·rintro ⟨i,hi,rfl⟩
  exact all i hi
theorem d2v {r:Int} {K:Int→Hp→Prop} (h:K (if signR r then 5 else 6) H):TL (0:Int) H fun (s:Int) H n2=>C9 r b2C s H n2 K:=by
 refine L0 (fun (z:Int) H'=>H'=H∧∃i:Nat,z=i∧i≤19∧∀j:Nat,j < i→r≠((b2C.get! j).toNat:Int)) (fun z=>(19-z).toNat) ⟨rfl,0,rfl,by omega,fun j hj=>by omega⟩ ?_
 rintro z H1 next ⟨rfl,i,rfl,hi,hne⟩ hk
 unfold C9
 have hz:b2C.size=19:=rfl
 rw [hz]
 simp only [Int.toNat_natCast,c1U]
 refine ⟨fun c=>⟨by omega,by omega,fun e=>?_,fun e=>?_⟩,fun c=>?_⟩
 ·rw [if_pos (b7P.2 ⟨i,by omega,e⟩)] at h
  exact h
 ·rw [y4 ⟨by omega,by omega⟩]
  refine hk _ _ ⟨rfl,i+1,rfl,by omega,fun j hj=>?_⟩ (by omega)
  by_cases q:j=i
  ·rw [q];exact e
  ·exact hne j (by omega)
 ·unfold W3
  rw [if_neg (fun q=>by
   obtain ⟨j,hj,e⟩:=b7P.1 q
   exact hne j (by omega) e)] at h
  exact h
theorem d2w {r:Int} {K:Int→Hp→Prop} (h:K (classS r) H):a0e r H K:=by
 refine a6U _ ?_
 unfold a1H
 unfold classS at h
 have e1:((decide (r=32)||decide (r=9))||decide (r=13))=decide (r=32∨r=9∨r=13):=by rw [Bool.eq_iff_iff];simp [or_assoc]
 rw [e1]
 refine ⟨fun q=>?_,fun q=>⟨fun c2=>?_,fun c2=>b2B ⟨fun q3=>?_,fun q3=>b2B (a2V _ (fun _ K' hk=>b2B hk) (a2V _ (fun _ K' hk=>b2B hk) (a2V _ (fun _ K' hk=>b2B hk) (a2V _ (fun _ K' hk=>b2B hk) ⟨fun q4=>?_,fun q4=>?_⟩))))⟩⟩⟩
 ·rw [if_pos (of_decide_eq_true q)] at h;exact h
 ·rw [if_neg (of_decide_eq_false q),if_pos c2] at h;exact h
 ·have c3:48≤r∧r≤57:=by simpa using q3
  rw [if_neg (of_decide_eq_false q),if_neg c2,if_neg (by unfold signR;omega),if_neg (by omega),if_pos c3] at h;exact h
 ·have c1:=of_decide_eq_false q
  have c3:¬(48≤r∧r≤57):=by simpa using q3
  have hL:letterR r∧r≠215∧r≠247∧r≠930:=by
   clear h
   unfold letterR
   simp only [←Bool.decide_and,Bool.or_eq_true,Bool.and_eq_true,decide_eq_true_eq,Bool.not_eq_true',decide_eq_false_iff_not,Bool.if_false_right,Bool.or_eq_false_iff,Bool.and_eq_false_iff,Bool.not_eq_false'] at q4
   omega
  rw [if_neg c1,if_neg c2,if_neg (by have:=hL.1;unfold letterR at this;unfold signR;omega),if_neg (by omega),if_neg c3,if_pos hL.1] at h;exact h
 ·have c1:=of_decide_eq_false q
  have c3:¬(48≤r∧r≤57):=by simpa using q3
  have hL:¬letterR r∨r=215∨r=247∨r=930:=by
   clear h
   unfold letterR
   rw [Bool.eq_false_iff] at q4
   simp only [←Bool.decide_and,ne_eq,Bool.or_eq_true,Bool.and_eq_true,decide_eq_true_eq,Bool.not_eq_true',decide_eq_false_iff_not,Bool.if_false_right,Bool.or_eq_false_iff,Bool.and_eq_false_iff,Bool.not_eq_false'] at q4
   omega
  refine d2v ?_
  rw [if_neg c1,if_neg c2] at h
  by_cases c5:signR r
  ·rw [if_pos c5] at h ⊢;exact h
  ·rw [if_neg c5] at h ⊢
   rcases hL with hL | hL
   ·rw [if_neg c3,if_neg hL] at h
    split at h<;>exact h
   ·rw [if_pos hL] at h;exact h
end
end Go.Proofs.YthklmeihgmcljaaGreatDoor
