/- Tokens: what both readers compute, in plain words: runes gone over, places, where comments end. No program in sight. -/
import Derived.Lib.SpaceUEq
import Derived.Test.YtoflkliecagjcaaGreatDooryBQ3
namespace Go.Proofs.YtoflkliecagjcaaGreatDoor
open Go.RowKit
set_option maxRecDepth 100000
set_option maxHeartbeats 2000000
abbrev rn(s:ByteArray)(p:Nat):Int:=((Utf8.decode s p).1:Int)
abbrev wd(s:ByteArray)(p:Nat):Nat:=(Utf8.decode s p).2
abbrev by8(s:ByteArray)(p:Nat):Nat:=(s.get! p).toNat
theorem O2(s:ByteArray)(p:Nat):1≤wd s p:=X5 s p
def stepP(a:Int×Int)(r:Int):Int×Int:=if r=10 then (a.1+1,1) else (a.1,a.2+1)
section
variable (s:ByteArray)
def whl(is:Int→Bool):Nat→Nat→Int×Int→Nat×(Int×Int)
 | 0,p,a=>(p,a)
 | f+1,p,a=>if p < s.size∧is (rn s p)=true then whl is f (p+wd s p) (stepP a (rn s p)) else (p,a)
theorem c0P(is:Int→Bool):∀(f g p:Nat)(a:Int×Int),s.size-p≤f→s.size-p≤g→whl s is f p a=whl s is g p a
 | 0,0,_,_,_,_=>rfl
 | 0,g+1,p,a,h,_=>by rw [whl,whl,if_neg (by omega)]
 | f+1,0,p,a,_,h=>by rw [whl,whl,if_neg (by omega)]
 | f+1,g+1,p,a,h,h'=>by
  rw [whl,whl]
  have:=O2 s p
  split
  ·rw [c0P is f g _ _ (by omega) (by omega)]
  ·rfl
def Wr(is:Int→Bool)(p:Nat)(a:Int×Int):Nat×(Int×Int):=whl s is (s.size-p) p a
variable {s}
theorem a1J{is:Int→Bool}{p:Nat}{a:Int×Int}(hp:p < s.size)(hi:is (rn s p)=true):Wr s is p a=Wr s is (p+wd s p) (stepP a (rn s p)):=by
 have:=O2 s p
 obtain ⟨m,hm⟩:∃m,s.size-p=m+1:=⟨s.size-p-1,by omega⟩
 unfold Wr
 rw [hm,whl,if_pos ⟨hp,hi⟩,c0P s is m (s.size-(p+wd s p)) _ _ (by omega) (by omega)]
theorem W2{is:Int→Bool}{p:Nat}{a:Int×Int}(h:¬(p < s.size∧is (rn s p)=true)):Wr s is p a=(p,a):=by
 unfold Wr
 cases s.size-p with
 | zero=>rw [whl]
 | succ f=>rw [whl,if_neg h]
inductive Go2 (s:ByteArray):Nat→Int×Int→Nat→Int×Int→Prop
 | refl {p:Nat} {a:Int×Int}:Go2 s p a p a
 | step {p q:Nat} {a b:Int×Int}:p < s.size→Go2 s (p+wd s p) (stepP a (rn s p)) q b→Go2 s p a q b
theorem Go2.le{p q:Nat}{a b:Int×Int}(h:Go2 s p a q b):p≤q:=by
 induction h with
 | refl=>exact Nat.le_refl _
 | step _ _ ih=>omega
theorem Go2.one{p:Nat}{a:Int×Int}(hp:p < s.size):Go2 s p a (p+wd s p) (stepP a (rn s p)):=.step hp .refl
theorem Go2.trans{p q r:Nat}{a b c:Int×Int}(h:Go2 s p a q b)(k:Go2 s q b r c):Go2 s p a r c:=by
 induction h with
 | refl=>exact k
 | step hp _ ih=>exact .step hp (ih k)
theorem Go2.fn{p q:Nat}{a b c:Int×Int}(h:Go2 s p a q b)(k:Go2 s p a q c):b=c:=by
 induction h with
 | @refl p a=>
  cases k with
  | refl=>rfl
  | step hp k=>
   have:=k.le
   have:=O2 s p
   omega
 | @step p q a b hp h ih=>
  cases k with
  | refl=>
   have:=h.le
   have:=O2 s p
   omega
  | step _ k=>exact ih k
theorem a3I(is:Int→Bool):∀(n p:Nat)(a:Int×Int),s.size-p≤n→Go2 s p a (Wr s is p a).1 (Wr s is p a).2
 | 0,p,a,h=>by rw [W2 (by omega)];exact .refl
 | n+1,p,a,h=>by
  by_cases c:p < s.size∧is (rn s p)=true
  ·have:=O2 s p
   rw [a1J c.1 c.2]
   exact .step c.1 (a3I is n _ _ (by omega))
  ·rw [W2 c];exact .refl
theorem b8v(is:Int→Bool):∀(n p:Nat)(a:Int×Int),s.size-p≤n→¬((Wr s is p a).1 < s.size∧is (rn s (Wr s is p a).1)=true)
 | 0,p,a,h=>by rw [W2 (by omega)];exact fun q=>by have:=q.1;dsimp only at this;omega
 | n+1,p,a,h=>by
  by_cases c:p < s.size∧is (rn s p)=true
  ·have:=O2 s p
   rw [a1J c.1 c.2]
   exact b8v is n _ _ (by omega)
  ·rw [W2 c];exact c
theorem a6e{p:Nat}(h:by8 s p < 128):rn s p=(by8 s p:Int)∧wd s p=1:=by
 unfold rn wd
 rw [Lib.decode_at,Lib.decodeN,if_pos h]
 exact ⟨rfl,rfl⟩
theorem b5c{p:Nat}(h:rn s p < 128):by8 s p < 128:=by
 unfold rn at h
 rw [Lib.decode_at] at h
 rcases Lib.decodeN_cases (s.size-p) (s.get! p).toNat (s.get! (p+1)).toNat (s.get! (p+2)).toNat (s.get! (p+3)).toNat with ⟨q,_⟩ | ⟨_,_,_,q,e⟩ | ⟨_,_,_,_,q,e⟩ | ⟨q,_⟩ | e
 ·exact q
 ·rw [e] at h;dsimp only at h;omega
 ·rw [e] at h;dsimp only at h;omega
 ·omega
 ·rw [e] at h;dsimp only at h;omega
theorem d4j{p:Nat}(hr:rn s p≠10):∀k,k < wd s p→by8 s (p+k)≠10:=by
 intro k hk e
 cases k with
 | zero=>
  rw [Nat.add_zero] at e
  have:=(a6e (s:=s) (p:=p) (by omega)).1
  rw [e] at this
  exact hr this
 | succ k=>
  unfold wd at hk
  rw [Lib.decode_at] at hk
  obtain ⟨c2,c3,c4,c5⟩:=Lib.decodeN_conts (s.size-p) (s.get! p).toNat (s.get! (p+1)).toNat (s.get! (p+2)).toNat (s.get! (p+3)).toNat
  unfold by8 at e
  have:k=0∨k=1∨k=2:=by omega
  rcases this with rfl | rfl | rfl
  ·have:=(c2 (by omega)).1;rw [show p+(0+1)=p+1 by omega] at e;omega
  ·have:=(c3 (by omega)).1;rw [show p+(1+1)=p+2 by omega] at e;omega
  ·have:=(c4 (by omega)).1;rw [show p+(2+1)=p+3 by omega] at e;omega
variable (s)
def nlF:Nat→Nat→Nat
 | 0,p=>p
 | f+1,p=>if p < s.size∧by8 s p≠10 then nlF f (p+1) else p
theorem c0Q:∀(f g p:Nat),s.size-p≤f→s.size-p≤g→nlF s f p=nlF s g p
 | 0,0,_,_,_=>rfl
 | 0,g+1,p,h,_=>by rw [nlF,nlF,if_neg (by omega)]
 | f+1,0,p,_,h=>by rw [nlF,nlF,if_neg (by omega)]
 | f+1,g+1,p,h,h'=>by
  rw [nlF,nlF]
  split
  ·rw [c0Q f g _ (by omega) (by omega)]
  ·rfl
def nl(p:Nat):Nat:=nlF s (s.size-p) p
variable {s}
theorem b5Y{p:Nat}(hp:p < s.size)(h:by8 s p≠10):nl s p=nl s (p+1):=by
 obtain ⟨m,hm⟩:∃m,s.size-p=m+1:=⟨s.size-p-1,by omega⟩
 unfold nl
 rw [hm,nlF,if_pos ⟨hp,h⟩,c0Q s m (s.size-(p+1)) _ (by omega) (by omega)]
theorem b0K{p:Nat}(h:¬(p < s.size∧by8 s p≠10)):nl s p=p:=by
 unfold nl
 cases s.size-p with
 | zero=>rw [nlF]
 | succ f=>rw [nlF,if_neg h]
theorem b8w{p:Nat}:∀(n:Nat),p+n≤s.size→(∀k,k < n→by8 s (p+k)≠10)→nl s p=nl s (p+n)
 | 0,_,_=>rfl
 | n+1,h,hk=>by
  rw [b8w n (by omega) fun k q=>hk k (by omega),b5Y (by omega) (hk n (by omega))]
  rfl
theorem a5y{p:Nat}(hp:p < s.size):p+wd s p≤s.size:=by
 obtain ⟨c2,c3,c4,c5⟩:=Lib.decodeN_conts (s.size-p) (s.get! p).toNat (s.get! (p+1)).toNat (s.get! (p+2)).toNat (s.get! (p+3)).toNat
 unfold wd
 rw [Lib.decode_at]
 omega
def notNl(r:Int):Bool:=!decide (r=10)
theorem c1W:∀(n p:Nat)(a:Int×Int),s.size-p≤n→nl s p=(Wr s notNl p a).1
 | 0,p,a,h=>by rw [W2 (by omega),b0K (by omega)]
 | n+1,p,a,h=>by
  by_cases hp:p < s.size
  ·by_cases hr:rn s p=10
   ·rw [W2 (fun q=>by have:=q.2;unfold notNl at this;rw [decide_eq_true hr] at this;cases this)]
    rw [b0K]
    rintro ⟨_,q⟩
    have h1:=b5c (s:=s) (p:=p) (by omega)
    have h2:=(a6e h1).1
    omega
   ·have:=O2 s p
    rw [a1J hp (by unfold notNl;rw [decide_eq_false hr];rfl),← c1W n _ _ (by omega),b8w (wd s p) (a5y hp) (d4j hr)]
  ·rw [W2 (by omega),b0K (by omega)]
def blankS(r:Int):Bool:=decide (classS r=1)||decide (classS r=2)
variable (s)
def skF:Nat→Nat→Nat
 | 0,p=>p
 | f+1,p=>if p < s.size then (if by8 s p=35 then skF f (nl s p) else if blankS (rn s p)=true then skF f (p+wd s p) else p) else p
variable {s}
theorem d4k{p:Nat}:∀n,s.size-p≤n→p≤nl s p:=by
 intro n
 induction n generalizing p with
 | zero=>intro h;rw [b0K (by omega)];exact Nat.le_refl _
 | succ n ih=>
  intro h
  by_cases c:p < s.size∧by8 s p≠10
  ·rw [b5Y c.1 c.2]
   have:=ih (p:=p+1) (by omega)
   omega
  ·rw [b0K c];exact Nat.le_refl _
theorem b5d{p:Nat}(hp:p < s.size)(h:by8 s p=35):p < nl s p:=by
 rw [b5Y hp (by omega)]
 have:=d4k (s:=s) (p:=p+1) _ (Nat.le_refl _)
 omega
theorem b3b:∀(f g p:Nat),s.size-p≤f→s.size-p≤g→skF s f p=skF s g p
 | 0,0,_,_,_=>rfl
 | 0,g+1,p,h,_=>by rw [skF,skF,if_neg (by omega)]
 | f+1,0,p,_,h=>by rw [skF,skF,if_neg (by omega)]
 | f+1,g+1,p,h,h'=>by
  rw [skF,skF]
  have:=O2 s p
  split
  ·rename_i hp
   split
   ·rename_i hc
    have:=b5d hp hc
    rw [b3b f g _ (by omega) (by omega)]
   ·split
    ·rw [b3b f g _ (by omega) (by omega)]
    ·rfl
  ·rfl
def sk(s:ByteArray)(p:Nat):Nat:=skF s (s.size-p) p
theorem b5Z{p:Nat}(hp:p < s.size)(h:by8 s p=35):sk s p=sk s (nl s p):=by
 have:=b5d hp h
 obtain ⟨m,hm⟩:∃m,s.size-p=m+1:=⟨s.size-p-1,by omega⟩
 unfold sk
 rw [hm,skF,if_pos hp,if_pos h,b3b m (s.size-nl s p) _ (by omega) (by omega)]
theorem b1w{p:Nat}(hp:p < s.size)(h:by8 s p≠35)(hb:blankS (rn s p)=true):sk s p=sk s (p+wd s p):=by
 have:=O2 s p
 obtain ⟨m,hm⟩:∃m,s.size-p=m+1:=⟨s.size-p-1,by omega⟩
 unfold sk
 rw [hm,skF,if_pos hp,if_neg h,if_pos hb,b3b m (s.size-(p+wd s p)) _ (by omega) (by omega)]
theorem a3Q{p:Nat}(h:¬p < s.size∨(by8 s p≠35∧blankS (rn s p)=false)):sk s p=p:=by
 unfold sk
 cases s.size-p with
 | zero=>rw [skF]
 | succ f=>
  rw [skF]
  rcases h with h | ⟨h,k⟩
  ·rw [if_neg h]
  ·rw [if_neg h];simp [k]
theorem c5T:blankS 35=false:=by decide
theorem b4f:∀(n p:Nat)(a:Int×Int),s.size-p≤n→sk s p=sk s (Wr s blankS p a).1
 | 0,p,a,h=>by rw [W2 (by omega)]
 | n+1,p,a,h=>by
  by_cases c:p < s.size∧blankS (rn s p)=true
  ·have:=O2 s p
   have h35:by8 s p≠35:=fun e=>by
    have h1:=(a6e (s:=s) (p:=p) (by omega)).1
    rw [e] at h1
    have h2:=c.2
    rw [h1] at h2
    rw [show ((35:Nat):Int)=35 from rfl,c5T] at h2
    cases h2
   rw [a1J c.1 c.2,b1w c.1 h35 c.2]
   exact b4f n _ _ (by omega)
  ·rw [W2 c]
end
end Go.Proofs.YtoflkliecagjcaaGreatDoor
