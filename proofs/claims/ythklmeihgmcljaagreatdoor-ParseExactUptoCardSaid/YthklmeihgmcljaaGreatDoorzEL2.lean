/- Tokens: what the document's functions on runes and blanks answer. Off the printed formulas. -/
import Derived.Test.YthklmeihgmcljaaGreatDoorzEM5
namespace Go.Proofs.YthklmeihgmcljaaGreatDoor
open Go.RowKit
set_option maxRecDepth 100000
set_option maxHeartbeats 1000000
section
variable {H:Hp}
theorem b9I(s:ByteArray)(p:Nat):(s.get! p).toNat < 256:=UInt8.toNat_lt _
theorem a8p(a b:Nat)(h:a+b≤4398046511104):IntKind.wrap .i64 ((a:Int)+(b:Int))=((a+b:Nat):Int):=by
 rw [z1 ⟨by omega,by omega⟩];omega
theorem c2M(s:ByteArray)(p:Nat):IntKind.wrap .i64 ((s.get! p).toNat:Int)=((s.get! p).toNat:Int):=by
 have:=b9I s p
 exact z1 ⟨by omega,by omega⟩
theorem d4j{u b:Nat}(hu:u < 64 ^ 4)(h:128≤b)(hb:b < 256):IntKind.wrap .i64 ((IntKind.wrap .i64 ((IntKind.wrap .i64 (64*(u:Int)))+(IntKind.wrap .i64 (b:Int))))-128)=((64*u+b-128:Nat):Int):=by
 have e1:IntKind.wrap .i64 (64*(u:Int))=64*(u:Int):=z1 ⟨by omega,by omega⟩
 have e2:IntKind.wrap .i64 (b:Int)=(b:Int):=z1 ⟨by omega,by omega⟩
 rw [e1,e2,z1 (a:=64*(u:Int)+b) ⟨by omega,by omega⟩,z1 ⟨by omega,by omega⟩]
 omega
theorem c5S(s:ByteArray){p n i u:Nat}(h:¬i < n):∀f,refTail s p n f i u=some u
 | 0=>rfl
 | f+1=>by simp [refTail,h]
theorem d4k{least n u:Nat}{K:Int→Int→Bool→Hp→Prop}(h:K ((refFin least n (some u)).1:Int) ((refFin least n (some u)).2.1:Int) (refFin least n (some u)).2.2 H):X7 n least u H K:=by
 unfold X7
 by_cases c:u < least∨1114111 < u∨(55296≤u∧u < 57344)
 ·rw [b7K c] at h
  have:((decide ((u:Int) < least)||decide ((1114111:Int) < u))||(decide ((55296:Int)≤u)&&decide ((u:Int) < 57344)))=true:=by simp;omega
  rw [this]
  exact ⟨fun _=>h,fun hc=>(by cases hc)⟩
 ·rw [b6X c] at h
  have:((decide ((u:Int) < least)||decide ((1114111:Int) < u))||(decide ((55296:Int)≤u)&&decide ((u:Int) < 57344)))=false:=by simp;omega
  rw [this]
  exact ⟨fun hc=>(by cases hc),fun _=>h⟩
theorem b5h{s:ByteArray}{p n:Nat}{least:Nat}{K:Int→Int→Bool→Hp→Prop}(hs:s.size≤big)(hp:p < s.size)(hn:n≤4)(v:Nat)(hv:v < 64)
  (h:K ((refFin least n (refTail s p n 3 1 v)).1:Int) ((refFin least n (refTail s p n 3 1 v)).2.1:Int) (refFin least n (refTail s p n 3 1 v)).2.2 H):
  K5 s p n least v H K:=by
 unfold K5
 simp only [big] at hs
 refine D1 (fun(z:Int×Int) H'=>H'=H∧∃(i u:Nat),z=((u:Int),(i:Int))∧1≤i∧i≤4∧u < 64 ^ i∧refTail s p n (4-i) i u=refTail s p n 3 1 v) (fun z=>(4-z.2).toNat) ⟨rfl,1,v,rfl,by omega,by omega,by omega,rfl⟩ ?_
 rintro z H1 next ⟨rfl,i,u,rfl,hi,hi4,hu,he⟩ hk
 have hu4:u < 64 ^ 4:=Nat.lt_of_lt_of_le hu (Nat.pow_le_pow_right (by omega) hi4)
 unfold a3h
 dsimp only
 rw [a8p p i (by omega)]
 simp only [Int.toNat_natCast]
 refine ⟨fun c=>?_,fun c=>?_⟩
 ·have hin:i < n:=by omega
  rw [c2D s p n (4-i) i u hin (by omega)] at he
  have hb:=b9I s (p+i)
  by_cases cc:p+i < s.size∧128≤(s.get! (p+i)).toNat∧(s.get! (p+i)).toNat < 192
  ·rw [if_pos cc] at he
   obtain ⟨c1,c2,c3⟩:=cc
   have e1:decide (((s.size:Nat):Int)≤((p+i:Nat):Int))=false:=decide_eq_false (by omega)
   have e2:decide (((s.get! (p+i)).toNat:Int) < 128)=false:=decide_eq_false (by omega)
   have e3:decide ((192:Int)≤((s.get! (p+i)).toNat:Int))=false:=decide_eq_false (by omega)
   rw [e1,e2,e3]
   refine ⟨fun _=>⟨by omega,by omega⟩,fun _=>⟨by omega,by omega⟩,fun hc=>(by cases hc),fun _=>⟨by omega,by omega,?_⟩⟩
   rw [d4j hu4 c2 hb,z1 (a:=(i:Int)+1) ⟨by omega,by omega⟩]
   have hx:64*u+(s.get! (p+i)).toNat-128 < 64 ^ (i+1):=by rw [Nat.pow_succ];omega
   exact hk _ _ ⟨rfl,i+1,64*u+(s.get! (p+i)).toNat-128,by rw [Int.natCast_add];rfl,by omega,by omega,hx,by rw [←he];congr 1⟩ (by dsimp only;omega)
  ·rw [if_neg cc] at he
   rw [←he] at h
   have e:(decide (((s.size:Nat):Int)≤((p+i:Nat):Int))||decide (((s.get! (p+i)).toNat:Int) < 128)||decide ((192:Int)≤((s.get! (p+i)).toNat:Int)))=true:=by simp;omega
   refine ⟨fun q=>?_,fun q=>?_,fun _=>h,fun q=>?_⟩
   ·have:=of_decide_eq_false q;omega
   ·have:=of_decide_eq_false (Bool.or_eq_false_iff.1 q).1;omega
   ·rw [e] at q;cases q
 ·rw [c5S s (by omega)] at he
  rw [←he] at h
  exact d4k h
theorem b6D{s:ByteArray}{p:Nat}(hs:s.size≤big)(hp:p < s.size){K:Int→Int→Bool→Hp→Prop}(h:K (rn s p) (wd s p:Int) (!decide (bad s p)) H):O5 s p H K:=by
 refine a7T _ _ ?_
 have h':K ((refRune s p).1:Int) ((refRune s p).2.1:Int) (refRune s p).2.2 H:=by rw [b4v];exact h
 clear h
 unfold a4I
 simp only [Int.toNat_natCast,c2M]
 unfold refRune at h'
 dsimp only at h'
 have hb:=b9I s p
 generalize (s.get! p).toNat=c at hb h' ⊢
 refine ⟨by omega,by omega,fun c1=>?_,fun c1=>?_⟩
 ·rw [if_pos (by omega)] at h'
  exact h'
 rw [if_neg (by omega)] at h'
 have cut:∀(a b:Int),(decide (a≤(c:Int))&&decide ((c:Int) < b))=decide (a≤c∧(c:Int) < b):=fun a b=>by rw [Bool.decide_and]
 rw [cut,cut,cut]
 have sb:∀m:Nat,m≤c→IntKind.wrap .i64 ((c:Int)-(m:Int))=((c-m:Nat):Int):=fun m hm=>by rw [z1 ⟨by omega,by omega⟩];omega
 by_cases c2:194≤c∧c < 224
 ·rw [if_pos c2] at h'
  refine ⟨fun _=>?_,fun q=>absurd (of_decide_eq_false q) (by omega)⟩
  have e:IntKind.wrap .i64 ((c:Int)-192)=((c-192:Nat):Int):=sb 192 (by omega)
  rw [e]
  exact b5h (n:=2) (least:=128) hs hp (by omega) _ (by omega) h'
 rw [if_neg c2] at h'
 refine ⟨fun q=>absurd (of_decide_eq_true q) (by omega),fun _=>?_⟩
 by_cases c3:224≤c∧c < 240
 ·rw [if_pos c3] at h'
  refine ⟨fun _=>?_,fun q=>absurd (of_decide_eq_false q) (by omega)⟩
  have e:IntKind.wrap .i64 ((c:Int)-224)=((c-224:Nat):Int):=sb 224 (by omega)
  rw [e]
  exact b5h (n:=3) (least:=2048) hs hp (by omega) _ (by omega) h'
 rw [if_neg c3] at h'
 refine ⟨fun q=>absurd (of_decide_eq_true q) (by omega),fun _=>?_⟩
 by_cases c4:240≤c∧c < 245
 ·rw [if_pos c4] at h'
  refine ⟨fun _=>?_,fun q=>absurd (of_decide_eq_false q) (by omega)⟩
  have e:IntKind.wrap .i64 ((c:Int)-240)=((c-240:Nat):Int):=sb 240 (by omega)
  rw [e]
  exact b5h (n:=4) (least:=65536) hs hp (by omega) _ (by omega) h'
 rw [if_neg c4] at h'
 exact ⟨fun q=>absurd (of_decide_eq_true q) (by omega),fun _=>h'⟩
theorem b4y{a b r:Int}{K:Bool→Hp→Prop}(h:K (decide (a≤r)&&decide (r≤b)) H):G5 r a b H K:=a6K _ _ _ h
def b4z:ByteArray:=⟨#[59,44,123,125,40,41,91,93,61,33,60,62,43,45,42,47,37,38,124]⟩
theorem b8T{r:Int}:signR r↔∃i:Nat,i < 19∧r=((b4z.get! i).toNat:Int):=by
 have all:∀i:Nat,i < 19→signR ((b4z.get! i).toNat:Int):=by decide
 constructor
 ·intro h
  unfold signR at h
  rcases h with h | h | h | h | h | h | h | h | h | h | h | h | h | h | h | h | h | h | h
  ·exact ⟨0,by omega,h⟩
  ·exact ⟨1,by omega,h⟩
  ·exact ⟨2,by omega,h⟩
  ·exact ⟨3,by omega,h⟩
  ·exact ⟨4,by omega,h⟩
  ·exact ⟨5,by omega,h⟩
  ·exact ⟨6,by omega,h⟩
  ·exact ⟨7,by omega,h⟩
  ·exact ⟨8,by omega,h⟩
  ·exact ⟨9,by omega,h⟩
  ·exact ⟨10,by omega,h⟩
  ·exact ⟨11,by omega,h⟩
  ·exact ⟨12,by omega,h⟩
  ·exact ⟨13,by omega,h⟩
  ·exact ⟨14,by omega,h⟩
  ·exact ⟨15,by omega,h⟩
  ·exact ⟨16,by omega,h⟩
  ·exact ⟨17,by omega,h⟩
  ·exact ⟨18,by omega,h⟩
 ·rintro ⟨i,hi,rfl⟩
  exact all i hi
theorem d4l{r:Int}{K:Int→Hp→Prop}(h:K (if signR r then 5 else 6) H):TL (0:Int) H fun(s:Int) H n2=>a0z r b4z s H n2 K:=by
 refine D1 (fun(z:Int) H'=>H'=H∧∃i:Nat,z=i∧i≤19∧∀j:Nat,j < i→r≠((b4z.get! j).toNat:Int)) (fun z=>(19-z).toNat) ⟨rfl,0,rfl,by omega,fun j hj=>by omega⟩ ?_
 rintro z H1 next ⟨rfl,i,rfl,hi,hne⟩ hk
 unfold a0z
 have hz:b4z.size=19:=rfl
 rw [hz]
 simp only [Int.toNat_natCast,c2M]
 refine ⟨fun c=>⟨by omega,by omega,fun e=>?_,fun e=>?_⟩,fun c=>?_⟩
 ·rw [if_pos (b8T.2 ⟨i,by omega,e⟩)] at h
  exact h
 ·rw [z1 ⟨by omega,by omega⟩]
  refine hk _ _ ⟨rfl,i+1,rfl,by omega,fun j hj=>?_⟩ (by omega)
  by_cases q:j=i
  ·rw [q];exact e
  ·exact hne j (by omega)
 ·unfold a0y
  rw [if_neg (fun q=>by
   obtain ⟨j,hj,e⟩:=b8T.1 q
   exact hne j (by omega) e)] at h
  exact h
theorem d4m{r:Int}{K:Int→Hp→Prop}(h:K (classS r) H):a0f r H K:=by
 refine a7t _ ?_
 unfold a3Q
 unfold classS at h
 have e1:((decide (r=32)||decide (r=9))||decide (r=13))=decide (r=32∨r=9∨r=13):=by rw [Bool.eq_iff_iff];simp [or_assoc]
 rw [e1]
 refine ⟨fun q=>?_,fun q=>⟨fun c2=>?_,fun c2=>b4y ⟨fun q3=>?_,fun q3=>b4y (a0T _ (fun _ K' hk=>b4y hk) (a0T _ (fun _ K' hk=>b4y hk) (a0T _ (fun _ K' hk=>b4y hk) (a0T _ (fun _ K' hk=>b4y hk) ⟨fun q4=>?_,fun q4=>?_⟩))))⟩⟩⟩
 ·rw [if_pos (of_decide_eq_true q)] at h;exact h
 ·rw [if_neg (of_decide_eq_false q),if_pos c2] at h;exact h
 ·have c3:48≤r∧r≤57:=by simpa using q3
  rw [if_neg (of_decide_eq_false q),if_neg c2,if_neg (by unfold signR;omega),if_neg (by omega),if_pos c3] at h;exact h
 ·have c1:=of_decide_eq_false q
  have c3:¬(48≤r∧r≤57):=by simpa using q3
  have hL:letterR r∧r≠215∧r≠247∧r≠930:=by
   clear h
   unfold letterR
   simp only [←Bool.decide_and,Bool.or_eq_true,Bool.and_eq_true,decide_eq_true_eq,Bool.not_eq_true',decide_eq_false_iff_not,Bool.if_false_right,Bool.or_eq_false_iff,Bool.and_eq_false_iff,Bool.not_eq_false'] at q4
   omega
  rw [if_neg c1,if_neg c2,if_neg (by have:=hL.1;unfold letterR at this;unfold signR;omega),if_neg (by omega),if_neg c3,if_pos hL.1] at h;exact h
 ·have c1:=of_decide_eq_false q
  have c3:¬(48≤r∧r≤57):=by simpa using q3
  have hL:¬letterR r∨r=215∨r=247∨r=930:=by
   clear h
   unfold letterR
   rw [Bool.eq_false_iff] at q4
   simp only [←Bool.decide_and,ne_eq,Bool.or_eq_true,Bool.and_eq_true,decide_eq_true_eq,Bool.not_eq_true',decide_eq_false_iff_not,Bool.if_false_right,Bool.or_eq_false_iff,Bool.and_eq_false_iff,Bool.not_eq_false'] at q4
   omega
  refine d4l ?_
  rw [if_neg c1,if_neg c2] at h
  by_cases c5:signR r
  ·rw [if_pos c5] at h ⊢;exact h
  ·rw [if_neg c5] at h ⊢
   rcases hL with hL | hL
   ·rw [if_neg c3,if_neg hL] at h
    split at h<;>exact h
   ·rw [if_pos hL] at h;exact h
end
abbrev plv(b:Int×Int):b8:=b8.mk b.1 b.2
def Pl(a:Int×Int)(p:Nat):Prop:=1≤a.1∧a.1≤p+1∧1≤a.2∧a.2≤p+1
section
variable {s:ByteArray}
theorem Pl.step{a:Int×Int}{p:Nat}(h:Pl a p):Pl (stepP a (rn s p)) (p+wd s p):=by
 have:=O9 s p
 unfold Pl at h ⊢
 unfold stepP
 split<;>(dsimp only;omega)
theorem Go2.pl{p q:Nat}{a b:Int×Int}(h:Go2 s p a q b):Pl a p→Pl b q:=by
 induction h with
 | refl=>exact id
 | step _ _ ih=>exact fun k=>ih k.step
theorem Pl0:Pl (1,1) 0:=⟨by decide,by decide,by decide,by decide⟩
theorem c8z{n:Nat}:∀{p:Nat}(a:Int×Int),s.size-p≤n→∃b,Go2 s p a (sk s p) b:=by
 induction n with
 | zero=>intro p a h;rw [a6C (.inl (by omega))];exact ⟨a,.refl⟩
 | succ n ih=>
  intro p a h
  by_cases hp:p < s.size
  ·by_cases c:by8 s p=35
   ·have h1:=b6y hp c
    have h2:=a7C (s:=s) notNl _ p a (Nat.le_refl _)
    rw [←c3H _ p a (Nat.le_refl _)] at h2
    obtain ⟨b,hb⟩:=ih (p:=nl s p) (Wr s notNl p a).2 (by omega)
    rw [b6A hp c]
    exact ⟨b,h2.trans hb⟩
   ·by_cases d:blankS (rn s p)=true
    ·have:=O9 s p
     obtain ⟨b,hb⟩:=ih (p:=p+wd s p) (stepP a (rn s p)) (by omega)
     rw [b5f hp c d]
     exact ⟨b,.step hp hb⟩
    ·rw [a6C (.inr ⟨c,by simpa using d⟩)];exact ⟨a,.refl⟩
  ·rw [a6C (.inl hp)];exact ⟨a,.refl⟩
theorem b7O{p:Nat}(hp:p≤s.size):p≤sk s p∧sk s p≤s.size:=by
 obtain ⟨b,h⟩:=c8z (s:=s) (p:=p) (0,0) (Nat.le_refl _)
 exact ⟨h.le,h.size hp⟩
theorem d4n{n:Nat}:∀{p:Nat},s.size-p≤n→sk s p < s.size→by8 s (sk s p)≠35∧blankS (rn s (sk s p))=false:=by
 induction n with
 | zero=>intro p h k;rw [a6C (.inl (by omega))] at k;omega
 | succ n ih=>
  intro p h
  by_cases hp:p < s.size
  ·by_cases c:by8 s p=35
   ·have h1:=b6y hp c
    rw [b6A hp c]
    exact ih (by omega)
   ·by_cases d:blankS (rn s p)=true
    ·have:=O9 s p
     rw [b5f hp c d]
     exact ih (by omega)
    ·intro _
     rw [a6C (.inr ⟨c,by simpa using d⟩)]
     exact ⟨c,by simpa using d⟩
  ·intro k;rw [a6C (.inl hp)] at k;omega
theorem c5T{p:Nat}(a:Int×Int)(hp:p < s.size)(h:by8 s p < 128):∃b,Go2 s p a (p+1) b:=by
 have:=Go2.one (s:=s) (a:=a) hp
 rw [(b1t h).2] at this
 exact ⟨_,this⟩
theorem b8U{p:Nat}(h:classS (rn s p)=5):by8 s p < 128:=by
 refine b7M ?_
 unfold classS at h
 split at h
 ·cases h
 ·split at h
  ·cases h
  ·split at h
   ·rename_i q;unfold signR at q;omega
   ·split at h
    ·cases h
    ·split at h
     ·cases h
     ·split at h<;>cases h
theorem c5U{p:Nat}(a:Int×Int)(hp:p < s.size)(h:(oneO s p).err=0):∃b,Go2 s p a (oneO s p).stop b:=by
 unfold oneO at h ⊢
 split at h
 ·rename_i c
  rw [if_pos c]
  have g:=a7C (s:=s) goesS _ p (0,0) (Nat.le_refl _)
  obtain ⟨b,hb⟩:∃b,Go2 s p a (Wr s goesS p (0,0)).1 b:=by
   have:=a7C (s:=s) goesS _ p a (Nat.le_refl _)
   have e:(Wr s goesS p a).1=(Wr s goesS p (0,0)).1:=by
    have:∀(f q:Nat)(a b:Int×Int),(whl s goesS f q a).1=(whl s goesS f q b).1:=by
     intro f
     induction f with
     | zero=>intro q a b;rw [whl,whl]
     | succ f ih=>
      intro q a b
      rw [whl,whl]
      split
      ·exact ih _ _ _
      ·rfl
    exact this _ _ _ _
   rw [e] at this
   exact ⟨_,this⟩
  unfold wordO at h ⊢
  split at h
  ·rename_i d;rw [if_pos d];exact ⟨b,hb⟩
  ·rename_i d
   rw [if_neg d]
   split at h
   ·cases h
   ·rename_i e;rw [if_neg e];exact ⟨b,hb⟩
 ·rename_i c
  rw [if_neg c]
  split at h
  ·rename_i c2
   rw [if_pos c2]
   unfold numO at h ⊢
   split at h
   ·cases h
   ·rename_i d
    rw [if_neg d]
    have g:=a7C (s:=s) digitR _ p a (Nat.le_refl _)
    rw [(b4w _ p 0 a (Nat.le_refl _)).2.2.2.2] at g
    exact ⟨_,g⟩
  ·rename_i c2
   rw [if_neg c2]
   split at h
   ·rename_i c3
    rw [if_pos c3]
    have ha:=b8U c3
    obtain ⟨b,hb⟩:=c5T a hp ha
    unfold signO at h ⊢
    split at h
    ·rename_i d
     rw [if_pos d]
     unfold two at d
     obtain ⟨b2,hb2⟩:=c5T (s:=s) (p:=p+1) b d.1 (by omega)
     exact ⟨b2,hb.trans hb2⟩
    ·rename_i d
     rw [if_neg d]
     split at h
     ·cases h
     ·rename_i e;rw [if_neg e];exact ⟨b,hb⟩
   ·cases h
theorem c5V{n:Nat}:∀{p q:Nat}(a:Int×Int),s.size-p≤n→chkAt s p=some q→q < s.size∧∃b,Go2 s p a q b:=by
 induction n with
 | zero=>intro p q a h k;rw [b3R s p (by omega)] at k;cases k
 | succ n ih=>
  intro p q a h k
  by_cases hp:p < s.size
  ·rw [b5d s p hp] at k
   split at k
   ·cases k;exact ⟨hp,a,.refl⟩
   ·have:=O9 s p
    obtain ⟨h1,b,h2⟩:=ih (stepP a (rn s p)) (by show s.size-(p+wd s p)≤n;omega) k
    exact ⟨h1,b,.step hp h2⟩
  ·rw [b3R s p (by omega)] at k;cases k
end
section
variable {H:Hp}{s:ByteArray}(hs:s.size≤big)
include hs
theorem c1v{K:Int→Int→Hp→Prop}(h:if 65536 < s.size then K 0 10 H else match chkAt s 0 with | some n=>K (n:Int) 11 H | none=>K 0 0 H):a3N s H K:=by
 refine b2z _ ?_
 unfold a7z
 have hs2:=hs
 simp only [big] at hs2
 refine ⟨fun c=>?_,fun c=>?_⟩
 ·rw [if_pos (by omega)] at h;exact h
 rw [if_neg (by omega)] at h
 refine D1 (fun(z:Int) H'=>H'=H∧∃p:Nat,z=p∧p≤s.size∧chkAt s p=chkAt s 0) (fun z=>(s.size-z).toNat) ⟨rfl,0,rfl,by omega,rfl⟩ ?_
 rintro z H1 next ⟨rfl,p,rfl,hp,he⟩ hk
 unfold a6B
 refine ⟨fun c=>b6D hs (by omega) ?_,fun c=>?_⟩
 ·have hp2:p < s.size:=by omega
  rw [b5d s p hp2] at he
  have h1:=O9 s p
  have h2:=a6X hp2
  by_cases hb:bad s p
  ·rw [if_pos hb] at he
   rw [←he] at h
   rw [decide_eq_true hb]
   exact ⟨fun _=>h,fun q=>(by cases q)⟩
  ·rw [if_neg hb] at he
   rw [decide_eq_false hb]
   refine ⟨fun q=>(by cases q),fun _=>?_⟩
   rw [a8p _ _ (by omega)]
   exact hk _ _ ⟨rfl,p+wd s p,rfl,h2,he⟩ (by omega)
 ·rw [b3R s p (by omega)] at he
  rw [←he] at h
  exact h
theorem c7k{n:Nat}(hn:n≤s.size){b:Int×Int}(hg:Go2 s 0 (1,1) n b){K:b8→Hp→Prop}(h:K (plv b) H):a5Q s n H K:=by
 refine b4d _ _ ?_
 unfold a8R
 have hs2:=hs
 simp only [big] at hs2
 refine D1 (fun(z:Int×b8×b8) H'=>H'=H∧∃(p:Nat)(c:Int×Int)(d:b8),z=((p:Int),plv c,d)∧Pl c p∧Go2 s p c n b) (fun z=>(n-z.1).toNat) ⟨rfl,0,(1,1),_,rfl,Pl0,hg⟩ ?_
 rintro z H1 next ⟨rfl,p,c,d,rfl,hpl,hgo⟩ hk
 unfold a7A
 dsimp only
 have hle:=hgo.le
 refine ⟨fun q=>?_,fun q=>?_⟩
 ·simp only [Bool.and_eq_true,decide_eq_true_eq] at q
  have hp:p < s.size:=by omega
  have h1:=O9 s p
  have h2:=a6X hp
  cases hgo with
  | refl=>omega
  | step _ hg2=>
   have hl2:=hg2.le
   have hp2:Pl (stepP c (rn s p)) (p+wd s p):=hpl.step
   unfold Pl at hpl
   refine b6D hs hp ⟨fun e=>?_,fun e=>?_⟩
   ·unfold a0j
    rw [a8p _ _ (by omega),z1 ⟨by omega,by omega⟩]
    refine hk _ _ ⟨rfl,p+wd s p,stepP c (rn s p),d,?_,hp2,hg2⟩ (by dsimp only;omega)
    unfold stepP;rw [if_pos e]
   ·unfold a0j
    rw [a8p _ _ (by omega),z1 (a:=c.2+1) ⟨by omega,by omega⟩]
    refine hk _ _ ⟨rfl,p+wd s p,stepP c (rn s p),d,?_,hp2,hg2⟩ (by dsimp only;omega)
    unfold stepP;rw [if_neg e]
 ·unfold a3T
  simp only [Bool.and_eq_false_iff,decide_eq_false_iff_not] at q
  have:p=n:=by omega
  subst this
  cases hgo with
  | refl=>exact h
  | step _ hg2=>have:=hg2.le;have:=O9 s p;omega
theorem c0B{p n:Nat}(hn:n≤s.size){a b:Int×Int}(ha:Pl a p)(hg:Go2 s p a n b){K:b8→Hp→Prop}(h:K (plv b) H):a1v s (plv a) p n H K:=by
 refine b2t _ _ _ _ ?_
 unfold a7w
 have hs2:=hs
 simp only [big] at hs2
 refine D1 (fun(z:Int×b8×b8) H'=>H'=H∧∃(p:Nat)(c:Int×Int)(d:b8),z=((p:Int),d,plv c)∧Pl c p∧Go2 s p c n b) (fun z=>(n-z.1).toNat) ⟨rfl,p,a,_,rfl,ha,hg⟩ ?_
 rintro z H1 next ⟨rfl,p,c,d,rfl,hpl,hgo⟩ hk
 unfold a6y
 dsimp only
 have hle:=hgo.le
 refine ⟨fun q=>?_,fun q=>?_⟩
 ·have hp:p < s.size:=by omega
  have h1:=O9 s p
  have h2:=a6X hp
  cases hgo with
  | refl=>omega
  | step _ hg2=>
   have hl2:=hg2.le
   have hp2:Pl (stepP c (rn s p)) (p+wd s p):=hpl.step
   unfold Pl at hpl
   refine b6D hs hp ⟨fun e=>?_,fun e=>?_⟩
   ·unfold W0
    rw [a8p _ _ (by omega),z1 ⟨by omega,by omega⟩]
    refine hk _ _ ⟨rfl,p+wd s p,stepP c (rn s p),d,?_,hp2,hg2⟩ (by dsimp only;omega)
    unfold stepP;rw [if_pos e]
   ·unfold W0
    rw [a8p _ _ (by omega),z1 (a:=c.2+1) ⟨by omega,by omega⟩]
    refine hk _ _ ⟨rfl,p+wd s p,stepP c (rn s p),d,?_,hp2,hg2⟩ (by dsimp only;omega)
    unfold stepP;rw [if_neg e]
 ·unfold a2G
  have:p=n:=by omega
  subst this
  cases hgo with
  | refl=>exact h
  | step _ hg2=>have:=hg2.le;have:=O9 s p;omega
theorem b6E{p:Nat}{K:Int→Int→Hp→Prop}(h:if p < s.size then K (classS (rn s p)) (wd s p:Int) H else K 0 0 H):U2 s p H K:=by
 refine b2s _ _ ?_
 unfold a7v
 refine ⟨fun c=>?_,fun c=>?_⟩
 ·rw [if_neg (by omega)] at h;exact h
 ·rw [if_pos (by omega)] at h
  exact b6D hs (by omega) (d4m h)
theorem d0I{p:Nat}(hp:p≤s.size){K:Int→Hp→Prop}(h:K (sk s p:Int) H):a4m s p H K:=by
 refine b3h _ _ ?_
 unfold a7P
 have hs2:=hs
 simp only [big] at hs2
 refine D1 (fun(z:Int) H'=>H'=H∧∃q:Nat,z=q∧q≤s.size∧sk s q=sk s p) (fun z=>(s.size-z).toNat) ⟨rfl,p,rfl,hp,rfl⟩ ?_
 rintro z H1 next ⟨rfl,q,rfl,hq,he⟩ hk
 unfold a6J
 refine ⟨fun c=>b6E hs ?_,fun c=>?_⟩
 ·have hq2:q < s.size:=by omega
  have h1:=O9 s q
  have h2:=a6X hq2
  rw [if_pos hq2]
  refine ⟨by omega,by omega,fun e=>?_,fun e=>?_⟩
  ·have e35:by8 s q=35:=by rw [Int.toNat_natCast] at e;unfold by8;omega
   have hgt:=b6y hq2 e35
   refine D1 (fun(z:Int) H'=>H'=H1∧∃r:Nat,z=r∧q≤r∧r≤s.size∧nl s r=nl s q) (fun z=>(s.size-z).toNat) ⟨rfl,q,rfl,by omega,by omega,rfl⟩ ?_
   rintro z H2 next2 ⟨rfl,r,rfl,hr,hr2,hn⟩ hk2
   unfold a6I
   simp only [Int.toNat_natCast]
   by_cases c2:r < s.size∧by8 s r≠10
   ·have c3:¬(((s.get! r).toNat:Int)=10):=fun x=>c2.2 (by unfold by8;omega)
    have e1:decide ((r:Int) < (s.size:Int))=true:=decide_eq_true (by omega)
    rw [e1,decide_eq_false c3]
    refine ⟨fun _=>⟨by omega,by omega⟩,fun _=>?_,fun x=>(by cases x)⟩
    rw [z1 ⟨by omega,by omega⟩]
    rw [b6x c2.1 c2.2] at hn
    exact hk2 _ _ ⟨rfl,r+1,by omega,by omega,by omega,hn⟩ (by omega)
   ·rw [b2J c2] at hn
    have e1:(decide ((r:Int) < (s.size:Int)) && !decide (((s.get! r).toNat:Int)=10))=false:=by
     rw [Bool.and_eq_false_iff]
     by_cases c3:r < s.size
     ·right
      have:by8 s r=10:=Classical.byContradiction fun x=>c2 ⟨c3,x⟩
      have:((s.get! r).toNat:Int)=10:=by unfold by8 at this;omega
      rw [decide_eq_true this];rfl
     ·left;exact decide_eq_false (by omega)
    rw [e1]
    refine ⟨fun x=>?_,fun x=>(by cases x),fun _=>?_⟩
    ·have:=of_decide_eq_true x;omega
    ·subst hn
     rw [b6A hq2 e35] at he
     exact hk _ _ ⟨rfl,_,rfl,hr2,he⟩ (by omega)
  ·have e35:by8 s q≠35:=fun x=>e (by rw [Int.toNat_natCast];unfold by8 at x;omega)
   unfold a3d
   rw [a8p _ _ (by omega)]
   by_cases cb:blankS (rn s q)=true
   ·have e1:((!decide (classS (rn s q)=1))&&(!decide (classS (rn s q)=2)))=false:=by
     unfold blankS at cb
     revert cb
     cases decide (classS (rn s q)=1)<;>cases decide (classS (rn s q)=2)<;>simp
    rw [e1]
    rw [b5f hq2 e35 cb] at he
    exact ⟨fun x=>(by cases x),fun _=>hk _ _ ⟨rfl,q+wd s q,rfl,h2,he⟩ (by omega)⟩
   ·have cb:blankS (rn s q)=false:=by simpa using cb
    have e1:((!decide (classS (rn s q)=1))&&(!decide (classS (rn s q)=2)))=true:=by
     unfold blankS at cb
     revert cb
     cases decide (classS (rn s q)=1)<;>cases decide (classS (rn s q)=2)<;>simp
    rw [e1]
    rw [a6C (.inr ⟨e35,cb⟩)] at he
    refine ⟨fun _=>?_,fun x=>(by cases x)⟩
    unfold X6
    rw [he];exact h
 ·rw [a6C (.inl (by omega))] at he
  unfold X6
  rw [he];exact h
theorem d4o{p:Nat}(hp:p≤s.size){K:Int→Int→Hp→Prop}(h:K ((Wr s goesS p (0,0)).1:Int) (cnt s goesS p 0:Int) H):a5p s p H K:=by
 refine b3x _ _ ?_
 unfold a8x
 have hs2:=hs
 simp only [big] at hs2
 refine D1 (fun(z:Int×Int) H'=>H'=H∧∃(q n:Nat)(a:Int×Int),z=((q:Int),(n:Int))∧q≤s.size∧n≤q∧(Wr s goesS q a).1=(Wr s goesS p (0,0)).1∧cnt s goesS q n=cnt s goesS p 0) (fun z=>(s.size-z.1).toNat) ⟨rfl,p,0,(0,0),rfl,hp,by omega,rfl,rfl⟩ ?_
 rintro z H1 next ⟨rfl,q,n,a,rfl,hq,hn,hw,hc⟩ hk
 unfold a7g
 refine b6E hs ?_
 dsimp only
 by_cases hq2:q < s.size
 ·rw [if_pos hq2]
  have h1:=O9 s q
  have h2:=a6X hq2
  by_cases cg:goesS (rn s q)=true
  ·have e1:((!decide (classS (rn s q)=3))&&(!decide (classS (rn s q)=4)))=false:=by
    unfold goesS at cg
    revert cg
    cases decide (classS (rn s q)=3)<;>cases decide (classS (rn s q)=4)<;>simp
   rw [e1]
   refine ⟨fun x=>(by cases x),fun _=>?_⟩
   rw [a8p _ _ (by omega),z1 (a:=(n:Int)+1) ⟨by omega,by omega⟩]
   rw [a5v hq2 cg] at hw
   rw [c0A hq2 cg] at hc
   exact hk _ _ ⟨rfl,q+wd s q,n+1,_,rfl,h2,by omega,hw,hc⟩ (by dsimp only;omega)
  ·have e1:((!decide (classS (rn s q)=3))&&(!decide (classS (rn s q)=4)))=true:=by
    have cg:goesS (rn s q)=false:=by simpa using cg
    unfold goesS at cg
    revert cg
    cases decide (classS (rn s q)=3)<;>cases decide (classS (rn s q)=4)<;>simp
   rw [e1]
   rw [a0E (fun x=>cg x.2)] at hw
   rw [b5g (fun x=>cg x.2)] at hc
   refine ⟨fun _=>?_,fun x=>(by cases x)⟩
   rw [←hw,← hc] at h
   exact h
 ·rw [if_neg hq2]
  rw [a0E (fun x=>hq2 x.1)] at hw
  rw [b5g (fun x=>hq2 x.1)] at hc
  refine ⟨fun _=>?_,fun x=>(by cases x)⟩
  rw [←hw,← hc] at h
  exact h
end
end Go.Proofs.YthklmeihgmcljaaGreatDoor
