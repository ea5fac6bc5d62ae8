/- Tokens: what both readers compute, in plain words: runes gone over, places, where comments end. No program in sight. -/
import Derived.Lib.SpaceUEq
import Derived.Test.YthklmeihgmcljaaGreatDoorzEQ3
namespace Go.Proofs.YthklmeihgmcljaaGreatDoor
open Go.RowKit
set_option maxRecDepth 100000
set_option maxHeartbeats 2000000
abbrev rn(s:ByteArray)(p:Nat):Int:=((Utf8.decode s p).1:Int)
abbrev wd(s:ByteArray)(p:Nat):Nat:=(Utf8.decode s p).2
abbrev by8(s:ByteArray)(p:Nat):Nat:=(s.get! p).toNat
theorem O9(s:ByteArray)(p:Nat):1≤wd s p:=S2 s p
def stepP(a:Int×Int)(r:Int):Int×Int:=if r=10 then (a.1+1,1) else (a.1,a.2+1)
section
variable (s:ByteArray)
def whl(is:Int→Bool):Nat→Nat→Int×Int→Nat×(Int×Int)
 | 0,p,a=>(p,a)
 | f+1,p,a=>if p < s.size∧is (rn s p)=true then whl is f (p+wd s p) (stepP a (rn s p)) else (p,a)
theorem c2H(is:Int→Bool):∀(f g p:Nat)(a:Int×Int),s.size-p≤f→s.size-p≤g→whl s is f p a=whl s is g p a
 | 0,0,_,_,_,_=>rfl
 | 0,g+1,p,a,h,_=>by rw [whl,whl,if_neg (by omega)]
 | f+1,0,p,a,_,h=>by rw [whl,whl,if_neg (by omega)]
 | f+1,g+1,p,a,h,h'=>by
  rw [whl,whl]
  have:=O9 s p
  split
  ·rw [c2H is f g _ _ (by omega) (by omega)]
  ·rfl
def Wr(is:Int→Bool)(p:Nat)(a:Int×Int):Nat×(Int×Int):=whl s is (s.size-p) p a
variable {s}
theorem a5v{is:Int→Bool}{p:Nat}{a:Int×Int}(hp:p < s.size)(hi:is (rn s p)=true):Wr s is p a=Wr s is (p+wd s p) (stepP a (rn s p)):=by
 have:=O9 s p
 obtain ⟨m,hm⟩:∃m,s.size-p=m+1:=⟨s.size-p-1,by omega⟩
 unfold Wr
 rw [hm,whl,if_pos ⟨hp,hi⟩,c2H s is m (s.size-(p+wd s p)) _ _ (by omega) (by omega)]
theorem a0E{is:Int→Bool}{p:Nat}{a:Int×Int}(h:¬(p < s.size∧is (rn s p)=true)):Wr s is p a=(p,a):=by
 unfold Wr
 cases s.size-p with
 | zero=>rw [whl]
 | succ f=>rw [whl,if_neg h]
inductive Go2 (s:ByteArray):Nat→Int×Int→Nat→Int×Int→Prop
 | refl {p:Nat} {a:Int×Int}:Go2 s p a p a
 | step {p q:Nat} {a b:Int×Int}:p < s.size→Go2 s (p+wd s p) (stepP a (rn s p)) q b→Go2 s p a q b
theorem Go2.le{p q:Nat}{a b:Int×Int}(h:Go2 s p a q b):p≤q:=by
 induction h with
 | refl=>exact Nat.le_refl _
 | step _ _ ih=>omega
theorem Go2.one{p:Nat}{a:Int×Int}(hp:p < s.size):Go2 s p a (p+wd s p) (stepP a (rn s p)):=.step hp .refl
theorem Go2.trans{p q r:Nat}{a b c:Int×Int}(h:Go2 s p a q b)(k:Go2 s q b r c):Go2 s p a r c:=by
 induction h with
 | refl=>exact k
 | step hp _ ih=>exact .step hp (ih k)
theorem Go2.fn{p q:Nat}{a b c:Int×Int}(h:Go2 s p a q b)(k:Go2 s p a q c):b=c:=by
 induction h with
 | @refl p a=>
  cases k with
  | refl=>rfl
  | step hp k=>
   have:=k.le
   have:=O9 s p
   omega
 | @step p q a b hp h ih=>
  cases k with
  | refl=>
   have:=h.le
   have:=O9 s p
   omega
  | step _ k=>exact ih k
theorem a7C(is:Int→Bool):∀(n p:Nat)(a:Int×Int),s.size-p≤n→Go2 s p a (Wr s is p a).1 (Wr s is p a).2
 | 0,p,a,h=>by rw [a0E (by omega)];exact .refl
 | n+1,p,a,h=>by
  by_cases c:p < s.size∧is (rn s p)=true
  ·have:=O9 s p
   rw [a5v c.1 c.2]
   exact .step c.1 (a7C is n _ _ (by omega))
  ·rw [a0E c];exact .refl
theorem c0x(is:Int→Bool):∀(n p:Nat)(a:Int×Int),s.size-p≤n→¬((Wr s is p a).1 < s.size∧is (rn s (Wr s is p a).1)=true)
 | 0,p,a,h=>by rw [a0E (by omega)];exact fun q=>by have:=q.1;dsimp only at this;omega
 | n+1,p,a,h=>by
  by_cases c:p < s.size∧is (rn s p)=true
  ·have:=O9 s p
   rw [a5v c.1 c.2]
   exact c0x is n _ _ (by omega)
  ·rw [a0E c];exact c
theorem b1t{p:Nat}(h:by8 s p < 128):rn s p=(by8 s p:Int)∧wd s p=1:=by
 unfold rn wd
 rw [Lib.decode_at,Lib.decodeN,if_pos h]
 exact ⟨rfl,rfl⟩
theorem b7M{p:Nat}(h:rn s p < 128):by8 s p < 128:=by
 unfold rn at h
 rw [Lib.decode_at] at h
 rcases Lib.decodeN_cases (s.size-p) (s.get! p).toNat (s.get! (p+1)).toNat (s.get! (p+2)).toNat (s.get! (p+3)).toNat with ⟨q,_⟩ | ⟨_,_,_,q,e⟩ | ⟨_,_,_,_,q,e⟩ | ⟨q,_⟩ | e
 ·exact q
 ·rw [e] at h;dsimp only at h;omega
 ·rw [e] at h;dsimp only at h;omega
 ·omega
 ·rw [e] at h;dsimp only at h;omega
theorem d5G{p:Nat}(hr:rn s p≠10):∀k,k < wd s p→by8 s (p+k)≠10:=by
 intro k hk e
 cases k with
 | zero=>
  rw [Nat.add_zero] at e
  have:=(b1t (s:=s) (p:=p) (by omega)).1
  rw [e] at this
  exact hr this
 | succ k=>
  unfold wd at hk
  rw [Lib.decode_at] at hk
  obtain ⟨c2,c3,c4,c5⟩:=Lib.decodeN_conts (s.size-p) (s.get! p).toNat (s.get! (p+1)).toNat (s.get! (p+2)).toNat (s.get! (p+3)).toNat
  unfold by8 at e
  have:k=0∨k=1∨k=2:=by omega
  rcases this with rfl | rfl | rfl
  ·have:=(c2 (by omega)).1;rw [show p+(0+1)=p+1 by omega] at e;omega
  ·have:=(c3 (by omega)).1;rw [show p+(1+1)=p+2 by omega] at e;omega
  ·have:=(c4 (by omega)).1;rw [show p+(2+1)=p+3 by omega] at e;omega
variable (s)
def nlF:Nat→Nat→Nat
 | 0,p=>p
 | f+1,p=>if p < s.size∧by8 s p≠10 then nlF f (p+1) else p
theorem c2I:∀(f g p:Nat),s.size-p≤f→s.size-p≤g→nlF s f p=nlF s g p
 | 0,0,_,_,_=>rfl
 | 0,g+1,p,h,_=>by rw [nlF,nlF,if_neg (by omega)]
 | f+1,0,p,_,h=>by rw [nlF,nlF,if_neg (by omega)]
 | f+1,g+1,p,h,h'=>by
  rw [nlF,nlF]
  split
  ·rw [c2I f g _ (by omega) (by omega)]
  ·rfl
def nl(p:Nat):Nat:=nlF s (s.size-p) p
variable {s}
theorem b6x{p:Nat}(hp:p < s.size)(h:by8 s p≠10):nl s p=nl s (p+1):=by
 obtain ⟨m,hm⟩:∃m,s.size-p=m+1:=⟨s.size-p-1,by omega⟩
 unfold nl
 rw [hm,nlF,if_pos ⟨hp,h⟩,c2I s m (s.size-(p+1)) _ (by omega) (by omega)]
theorem b2J{p:Nat}(h:¬(p < s.size∧by8 s p≠10)):nl s p=p:=by
 unfold nl
 cases s.size-p with
 | zero=>rw [nlF]
 | succ f=>rw [nlF,if_neg h]
theorem c0y{p:Nat}:∀(n:Nat),p+n≤s.size→(∀k,k < n→by8 s (p+k)≠10)→nl s p=nl s (p+n)
 | 0,_,_=>rfl
 | n+1,h,hk=>by
  rw [c0y n (by omega) fun k q=>hk k (by omega),b6x (by omega) (hk n (by omega))]
  rfl
theorem a6X{p:Nat}(hp:p < s.size):p+wd s p≤s.size:=by
 obtain ⟨c2,c3,c4,c5⟩:=Lib.decodeN_conts (s.size-p) (s.get! p).toNat (s.get! (p+1)).toNat (s.get! (p+2)).toNat (s.get! (p+3)).toNat
 unfold wd
 rw [Lib.decode_at]
 omega
def notNl(r:Int):Bool:=!decide (r=10)
theorem c3H:∀(n p:Nat)(a:Int×Int),s.size-p≤n→nl s p=(Wr s notNl p a).1
 | 0,p,a,h=>by rw [a0E (by omega),b2J (by omega)]
 | n+1,p,a,h=>by
  by_cases hp:p < s.size
  ·by_cases hr:rn s p=10
   ·rw [a0E (fun q=>by have:=q.2;unfold notNl at this;rw [decide_eq_true hr] at this;cases this)]
    rw [b2J]
    rintro ⟨_,q⟩
    have h1:=b7M (s:=s) (p:=p) (by omega)
    have h2:=(b1t h1).1
    omega
   ·have:=O9 s p
    rw [a5v hp (by unfold notNl;rw [decide_eq_false hr];rfl),← c3H n _ _ (by omega),c0y (wd s p) (a6X hp) (d5G hr)]
  ·rw [a0E (by omega),b2J (by omega)]
def blankS(r:Int):Bool:=decide (classS r=1)||decide (classS r=2)
variable (s)
def skF:Nat→Nat→Nat
 | 0,p=>p
 | f+1,p=>if p < s.size then (if by8 s p=35 then skF f (nl s p) else if blankS (rn s p)=true then skF f (p+wd s p) else p) else p
variable {s}
theorem d5H{p:Nat}:∀n,s.size-p≤n→p≤nl s p:=by
 intro n
 induction n generalizing p with
 | zero=>intro h;rw [b2J (by omega)];exact Nat.le_refl _
 | succ n ih=>
  intro h
  by_cases c:p < s.size∧by8 s p≠10
  ·rw [b6x c.1 c.2]
   have:=ih (p:=p+1) (by omega)
   omega
  ·rw [b2J c];exact Nat.le_refl _
theorem b6y{p:Nat}(hp:p < s.size)(h:by8 s p=35):p < nl s p:=by
 rw [b6x hp (by omega)]
 have:=d5H (s:=s) (p:=p+1) _ (Nat.le_refl _)
 omega
theorem b6z:∀(f g p:Nat),s.size-p≤f→s.size-p≤g→skF s f p=skF s g p
 | 0,0,_,_,_=>rfl
 | 0,g+1,p,h,_=>by rw [skF,skF,if_neg (by omega)]
 | f+1,0,p,_,h=>by rw [skF,skF,if_neg (by omega)]
 | f+1,g+1,p,h,h'=>by
  rw [skF,skF]
  have:=O9 s p
  split
  ·rename_i hp
   split
   ·rename_i hc
    have:=b6y hp hc
    rw [b6z f g _ (by omega) (by omega)]
   ·split
    ·rw [b6z f g _ (by omega) (by omega)]
    ·rfl
  ·rfl
def sk(s:ByteArray)(p:Nat):Nat:=skF s (s.size-p) p
theorem b6A{p:Nat}(hp:p < s.size)(h:by8 s p=35):sk s p=sk s (nl s p):=by
 have:=b6y hp h
 obtain ⟨m,hm⟩:∃m,s.size-p=m+1:=⟨s.size-p-1,by omega⟩
 unfold sk
 rw [hm,skF,if_pos hp,if_pos h,b6z m (s.size-nl s p) _ (by omega) (by omega)]
theorem b5f{p:Nat}(hp:p < s.size)(h:by8 s p≠35)(hb:blankS (rn s p)=true):sk s p=sk s (p+wd s p):=by
 have:=O9 s p
 obtain ⟨m,hm⟩:∃m,s.size-p=m+1:=⟨s.size-p-1,by omega⟩
 unfold sk
 rw [hm,skF,if_pos hp,if_neg h,if_pos hb,b6z m (s.size-(p+wd s p)) _ (by omega) (by omega)]
theorem a6C{p:Nat}(h:¬p < s.size∨(by8 s p≠35∧blankS (rn s p)=false)):sk s p=p:=by
 unfold sk
 cases s.size-p with
 | zero=>rw [skF]
 | succ f=>
  rw [skF]
  rcases h with h | ⟨h,k⟩
  ·rw [if_neg h]
  ·rw [if_neg h];simp [k]
theorem c7i:blankS 35=false:=by decide
theorem b7h:∀(n p:Nat)(a:Int×Int),s.size-p≤n→sk s p=sk s (Wr s blankS p a).1
 | 0,p,a,h=>by rw [a0E (by omega)]
 | n+1,p,a,h=>by
  by_cases c:p < s.size∧blankS (rn s p)=true
  ·have:=O9 s p
   have h35:by8 s p≠35:=fun e=>by
    have h1:=(b1t (s:=s) (p:=p) (by omega)).1
    rw [e] at h1
    have h2:=c.2
    rw [h1] at h2
    rw [show ((35:Nat):Int)=35 from rfl,c7i] at h2
    cases h2
   rw [a5v c.1 c.2,b5f c.1 h35 c.2]
   exact b7h n _ _ (by omega)
  ·rw [a0E c]
end
end Go.Proofs.YthklmeihgmcljaaGreatDoor
