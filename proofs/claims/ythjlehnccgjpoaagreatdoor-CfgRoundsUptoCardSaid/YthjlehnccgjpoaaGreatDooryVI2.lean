/- Lemmas. -/
import Derived.Lib.SpaceUEq
import Derived.Lib.ParseIntBCases
import Derived.RangeFuncRecord
import Derived.RangeFuncLeaves
import Derived.RangeFuncIn
import Derived.TacticsIn
import Derived.Lib.TrimUEq
import Derived.Lib.ValidLaws
import Derived.Lib.UnsafeStr
import Derived.Lib.Builder
import Derived.Laws.Externs
import Derived.Lib.ItoaLen
import Derived.Laws.IdiomStrings
import Derived.Test.YthjlehnccgjpoaaGreatDooryVQo
namespace Go.Proofs.YthjlehnccgjpoaaGreatDoor
open Go.Proofs.Tryz Go.RowKit
set_option maxRecDepth 100000
set_option maxHeartbeats 4000000
abbrev rn(s:BA)(p:Nat):Int:=((Utf8.decode s p).1:Int)
abbrev wd(s:BA)(p:Nat):Nat:=(Utf8.decode s p).2
abbrev by8(s:BA)(p:Nat):Nat:=(s.get! p).toNat
theorem W6(s:BA)(p:Nat):1<=wd s p:=a3Q s p
def stepP(a:Int×Int)(r:Int):Int×Int:=if r=10 then (a.1+1,1) else (a.1,a.2+1)
section
variable (s:BA)
def whl(is:Int->Bool):Nat->Nat->Int×Int->Nat×(Int×Int)
 | 0,p,a=>(p,a)
 | f+1,p,a=>if p < s.size/\is (rn s p)=true then whl is f (p+wd s p) (stepP a (rn s p)) else (p,a)
theorem c9N(is:Int->Bool):∀(f g p:Nat)(a:Int×Int),s.size-p<=f->s.size-p<=g->whl s is f p a=whl s is g p a
 | 0,0,_,_,_,_=>rfl
 | 0,g+1,p,a,h,_=>by rw [whl,whl,if_neg (by omega)]
 | f+1,0,p,a,_,h=>by rw [whl,whl,if_neg (by omega)]
 | f+1,g+1,p,a,h,h'=>by
  rw [whl,whl]
  have:=W6 s p
  split
  ·rw [c9N is f g _ _ (by omega) (by omega)]
  ·rfl
def Wr(is:Int->Bool)(p:Nat)(a:Int×Int):Nat×(Int×Int):=whl s is (s.size-p) p a
variable {s}
theorem a5T{is:Int->Bool}{p:Nat}{a:Int×Int}(hp:p < s.size)(hi:is (rn s p)=true):Wr s is p a=Wr s is (p+wd s p) (stepP a (rn s p)):=by
 have:=W6 s p
 obtain ⟨m,hm⟩:∃m,s.size-p=m+1:=⟨s.size-p-1,by omega⟩
 unfold Wr
 rw [hm,whl,if_pos ⟨hp,hi⟩,c9N s is m (s.size-(p+wd s p)) _ _ (by omega) (by omega)]
theorem a1k{is:Int->Bool}{p:Nat}{a:Int×Int}(h:¬(p < s.size/\is (rn s p)=true)):Wr s is p a=(p,a):=by
 unfold Wr
 cases s.size-p with
 | zero=>rw [whl]
 | succ f=>rw [whl,if_neg h]
inductive Go2 (s:BA):Nat->Int×Int->Nat->Int×Int->Prop
 | refl {p:Nat} {a:Int×Int}:Go2 s p a p a
 | step {p q:Nat} {a b:Int×Int}:p < s.size->Go2 s (p+wd s p) (stepP a (rn s p)) q b->Go2 s p a q b
theorem Go2.le{p q:Nat}{a b:Int×Int}(h:Go2 s p a q b):p<=q:=by
 induction h with
 | refl=>exact Nat.le_refl _
 | step _ _ ih=>omega
theorem Go2.one{p:Nat}{a:Int×Int}(hp:p < s.size):Go2 s p a (p+wd s p) (stepP a (rn s p)):=.step hp .refl
theorem Go2.trans{p q r:Nat}{a b c:Int×Int}(h:Go2 s p a q b)(k:Go2 s q b r c):Go2 s p a r c:=by
 induction h with
 | refl=>exact k
 | step hp _ ih=>exact .step hp (ih k)
theorem Go2.fn{p q:Nat}{a b c:Int×Int}(h:Go2 s p a q b)(k:Go2 s p a q c):b=c:=by
 induction h with
 | @refl p a=>
  cases k with
  | refl=>rfl
  | step hp k=>
   have:=k.le
   have:=W6 s p
   omega
 | @step p q a b hp h ih=>
  cases k with
  | refl=>
   have:=h.le
   have:=W6 s p
   omega
  | step _ k=>exact ih k
theorem a9V(is:Int->Bool):∀(n p:Nat)(a:Int×Int),s.size-p<=n->Go2 s p a (Wr s is p a).1 (Wr s is p a).2
 | 0,p,a,h=>by rw [a1k (by omega)];exact .refl
 | n+1,p,a,h=>by
  by_cases c:p < s.size/\is (rn s p)=true
  ·have:=W6 s p
   rw [a5T c.1 c.2]
   exact .step c.1 (a9V is n _ _ (by omega))
  ·rw [a1k c];exact .refl
theorem c6I(is:Int->Bool):∀(n p:Nat)(a:Int×Int),s.size-p<=n->¬((Wr s is p a).1 < s.size/\is (rn s (Wr s is p a).1)=true)
 | 0,p,a,h=>by rw [a1k (by omega)];exact λq=>by have:=q.1;dsimp only at this;omega
 | n+1,p,a,h=>by
  by_cases c:p < s.size/\is (rn s p)=true
  ·have:=W6 s p
   rw [a5T c.1 c.2]
   exact c6I is n _ _ (by omega)
  ·rw [a1k c];exact c
theorem b0D{p:Nat}(h:by8 s p < 128):rn s p=(by8 s p:Int)/\wd s p=1:=by
 unfold rn wd
 rw [Lib.decode_at,Lib.decodeN,if_pos h]
 exact ⟨rfl,rfl⟩
theorem c2S{p:Nat}(h:rn s p < 128):by8 s p < 128:=by
 unfold rn at h
 rw [Lib.decode_at] at h
 rcases Lib.decodeN_cases (s.size-p) (s.get! p).toNat (s.get! (p+1)).toNat (s.get! (p+2)).toNat (s.get! (p+3)).toNat with ⟨q,_⟩ | ⟨_,_,_,q,e⟩ | ⟨_,_,_,_,q,e⟩ | ⟨q,_⟩ | e
 ·exact q
 ·rw [e] at h;dsimp only at h;omega
 ·rw [e] at h;dsimp only at h;omega
 ·omega
 ·rw [e] at h;dsimp only at h;omega
theorem e6D{p:Nat}(hr:rn s p≠10):∀k,k < wd s p->by8 s (p+k)≠10:=by
 intro k hk e
 cases k with
 | zero=>
  rw [Nat.add_zero] at e
  have:=(b0D (s:=s) (p:=p) (by omega)).1
  rw [e] at this
  exact hr this
 | succ k=>
  unfold wd at hk
  rw [Lib.decode_at] at hk
  obtain ⟨c2,c3,c4,c5⟩:=Lib.decodeN_conts (s.size-p) (s.get! p).toNat (s.get! (p+1)).toNat (s.get! (p+2)).toNat (s.get! (p+3)).toNat
  unfold by8 at e
  have:k=0\/k=1\/k=2:=by omega
  rcases this with rfl | rfl | rfl
  ·have:=(c2 (by omega)).1;rw [show p+(0+1)=p+1 by omega] at e;omega
  ·have:=(c3 (by omega)).1;rw [show p+(1+1)=p+2 by omega] at e;omega
  ·have:=(c4 (by omega)).1;rw [show p+(2+1)=p+3 by omega] at e;omega
variable (s)
def nlF:Nat->Nat->Nat
 | 0,p=>p
 | f+1,p=>if p < s.size/\by8 s p≠10 then nlF f (p+1) else p
theorem c9O:∀(f g p:Nat),s.size-p<=f->s.size-p<=g->nlF s f p=nlF s g p
 | 0,0,_,_,_=>rfl
 | 0,g+1,p,h,_=>by rw [nlF,nlF,if_neg (by omega)]
 | f+1,0,p,_,h=>by rw [nlF,nlF,if_neg (by omega)]
 | f+1,g+1,p,h,h'=>by
  rw [nlF,nlF]
  split
  ·rw [c9O f g _ (by omega) (by omega)]
  ·rfl
def nl(p:Nat):Nat:=nlF s (s.size-p) p
variable {s}
theorem c3Y{p:Nat}(hp:p < s.size)(h:by8 s p≠10):nl s p=nl s (p+1):=by
 obtain ⟨m,hm⟩:∃m,s.size-p=m+1:=⟨s.size-p-1,by omega⟩
 unfold nl
 rw [hm,nlF,if_pos ⟨hp,h⟩,c9O s m (s.size-(p+1)) _ (by omega) (by omega)]
theorem b7r{p:Nat}(h:¬(p < s.size/\by8 s p≠10)):nl s p=p:=by
 unfold nl
 cases s.size-p with
 | zero=>rw [nlF]
 | succ f=>rw [nlF,if_neg h]
theorem c6J{p:Nat}:∀(n:Nat),p+n<=s.size->(∀k,k < n->by8 s (p+k)≠10)->nl s p=nl s (p+n)
 | 0,_,_=>rfl
 | n+1,h,hk=>by
  rw [c6J n (by omega) λk q=>hk k (by omega),c3Y (by omega) (hk n (by omega))]
  rfl
theorem b0E{p:Nat}(hp:p < s.size):p+wd s p<=s.size:=by
 obtain ⟨c2,c3,c4,c5⟩:=Lib.decodeN_conts (s.size-p) (s.get! p).toNat (s.get! (p+1)).toNat (s.get! (p+2)).toNat (s.get! (p+3)).toNat
 unfold wd
 rw [Lib.decode_at]
 omega
def notNl(r:Int):Bool:=!decide (r=10)
theorem d1f:∀(n p:Nat)(a:Int×Int),s.size-p<=n->nl s p=(Wr s notNl p a).1
 | 0,p,a,h=>by rw [a1k (by omega),b7r (by omega)]
 | n+1,p,a,h=>by
  by_cases hp:p < s.size
  ·by_cases hr:rn s p=10
   ·rw [a1k (λq=>by have:=q.2;unfold notNl at this;rw [decide_eq_true hr] at this;cases this)]
    rw [b7r]
    rintro ⟨_,q⟩
    have h1:=c2S (s:=s) (p:=p) (by omega)
    have h2:=(b0D h1).1
    omega
   ·have:=W6 s p
    rw [a5T hp (by unfold notNl;rw [decide_eq_false hr];rfl),← d1f n _ _ (by omega),c6J (wd s p) (b0E hp) (e6D hr)]
  ·rw [a1k (by omega),b7r (by omega)]
def blankS(r:Int):Bool:=decide (classS r=1)||decide (classS r=2)
variable (s)
def skF:Nat->Nat->Nat
 | 0,p=>p
 | f+1,p=>if p < s.size then (if by8 s p=35 then skF f (nl s p) else if blankS (rn s p)=true then skF f (p+wd s p) else p) else p
variable {s}
theorem e6E{p:Nat}:∀n,s.size-p<=n->p<=nl s p:=by
 intro n
 induction n generalizing p with
 | zero=>intro h;rw [b7r (by omega)];exact Nat.le_refl _
 | succ n ih=>
  intro h
  by_cases c:p < s.size/\by8 s p≠10
  ·rw [c3Y c.1 c.2]
   have:=ih (p:=p+1) (by omega)
   omega
  ·rw [b7r c];exact Nat.le_refl _
theorem c2T{p:Nat}(hp:p < s.size)(h:by8 s p=35):p < nl s p:=by
 rw [c3Y hp (by omega)]
 have:=e6E (s:=s) (p:=p+1) _ (Nat.le_refl _)
 omega
theorem c0z:∀(f g p:Nat),s.size-p<=f->s.size-p<=g->skF s f p=skF s g p
 | 0,0,_,_,_=>rfl
 | 0,g+1,p,h,_=>by rw [skF,skF,if_neg (by omega)]
 | f+1,0,p,_,h=>by rw [skF,skF,if_neg (by omega)]
 | f+1,g+1,p,h,h'=>by
  rw [skF,skF]
  have:=W6 s p
  split
  ·rename_i hp
   split
   ·rename_i hc
    have:=c2T hp hc
    rw [c0z f g _ (by omega) (by omega)]
   ·split
    ·rw [c0z f g _ (by omega) (by omega)]
    ·rfl
  ·rfl
def sk(s:BA)(p:Nat):Nat:=skF s (s.size-p) p
theorem c3Z{p:Nat}(hp:p < s.size)(h:by8 s p=35):sk s p=sk s (nl s p):=by
 have:=c2T hp h
 obtain ⟨m,hm⟩:∃m,s.size-p=m+1:=⟨s.size-p-1,by omega⟩
 unfold sk
 rw [hm,skF,if_pos hp,if_pos h,c0z m (s.size-nl s p) _ (by omega) (by omega)]
theorem b8A{p:Nat}(hp:p < s.size)(h:by8 s p≠35)(hb:blankS (rn s p)=true):sk s p=sk s (p+wd s p):=by
 have:=W6 s p
 obtain ⟨m,hm⟩:∃m,s.size-p=m+1:=⟨s.size-p-1,by omega⟩
 unfold sk
 rw [hm,skF,if_pos hp,if_neg h,if_pos hb,c0z m (s.size-(p+wd s p)) _ (by omega) (by omega)]
theorem a6Z{p:Nat}(h:¬p < s.size\/(by8 s p≠35/\blankS (rn s p)=false)):sk s p=p:=by
 unfold sk
 cases s.size-p with
 | zero=>rw [skF]
 | succ f=>
  rw [skF]
  rcases h with h | ⟨h,k⟩
  ·rw [if_neg h]
  ·rw [if_neg h];simp [k]
theorem d5I:blankS 35=false:=by decide
theorem c1K:∀(n p:Nat)(a:Int×Int),s.size-p<=n->sk s p=sk s (Wr s blankS p a).1
 | 0,p,a,h=>by rw [a1k (by omega)]
 | n+1,p,a,h=>by
  by_cases c:p < s.size/\blankS (rn s p)=true
  ·have:=W6 s p
   have h35:by8 s p≠35:=λe=>by
    have h1:=(b0D (s:=s) (p:=p) (by omega)).1
    rw [e] at h1
    have h2:=c.2
    rw [h1] at h2
    rw [show ((35:Nat):Int)=35 from rfl,d5I] at h2
    cases h2
   rw [a5T c.1 c.2,b8A c.1 h35 c.2]
   exact c1K n _ _ (by omega)
  ·rw [a1k c]
end
section
def dval(a:Nat)(l:List UInt8):Nat:=l.foldl (λa c=>a*10+(c.toNat-48)) a
theorem c1L(a:Nat):dval a []=a:=rfl
theorem b0W(a:Nat)(c:UInt8)(r:List UInt8):dval a (c::r)=dval (a*10+(c.toNat-48)) r:=by
 unfold dval
 rw [List.foldl_cons]
theorem e0q(l:List UInt8):∀a:Nat,a<=dval a l:=by
 induction l with
 | nil=>exact λa=>Nat.le_refl _
 | cons c r ih=>
  intro a
  have:=ih (a*10+(c.toNat-48))
  rw [b0W]
  omega
def isDig(c:UInt8):Prop:=48<=c.toNat/\c.toNat<=57
theorem c8s{M:Nat}(hM:M<=18446744073709551615)(l:List UInt8):∀a:Nat,(∀c∈l,isDig c)->a<=M->Lib.parseUintM M a l=if dval a l<=M then .ok (dval a l) else .range:=by
 induction l with
 | nil=>intro a _ h;rw [c1L,if_pos h];rfl
 | cons c r ih=>
  intro a hd h
  have hc:=hd c (List.mem_cons_self ..)
  unfold isDig at hc
  have hl:=e0q r (a*10+(c.toNat-48))
  have ih:=ih (a*10+(c.toNat-48)) (λd q=>hd d (List.mem_cons_of_mem _ q))
  rw [b0W]
  generalize dval (a*10+(c.toNat-48)) r=D at hl ih
  unfold Lib.parseUintM
  rw [if_pos hc]
  by_cases c1:1844674407370955162<=a
  ·rw [if_pos c1,if_neg (by omega)]
  ·rw [if_neg c1]
   by_cases c2:M < a*10+(c.toNat-48)
   ·rw [if_pos c2,if_neg (by omega)]
   ·rw [if_neg c2]
    exact ih (by omega)
theorem d1g{l:List UInt8}(hn:l≠[])(hd:∀c∈l,isDig c):Lib.parseIntB 64 l=if dval 0 l < 9223372036854775808 then .ok (dval 0 l:Int) else .range:=by
 cases l with
 | nil=>exact (hn rfl).elim
 | cons c r=>
  have hc:=hd c (List.mem_cons_self ..)
  unfold isDig at hc
  rw [Lib.parseIntB_plain 64 c r (by omega) (by omega)]
  unfold Lib.parseUintB
  have hM:2 ^ 64-1<=18446744073709551615:=by decide
  rw [if_neg (by simp),c8s hM _ 0 hd (by decide)]
  generalize dval 0 (c::r)=D
  by_cases c1:D<=2 ^ 64-1
  ·rw [if_pos c1]
   show (if 2 ^ (64-1)<=D then Lib.NumEnd.range else .ok (D:Int))=_
   by_cases c2:D < 9223372036854775808
   ·rw [if_pos c2,if_neg (by omega)]
   ·rw [if_neg c2,if_pos (by omega)]
  ·rw [if_neg c1,if_neg (by omega)]
   rfl
section
variable (s:BA)
def dgF:Nat->Nat->Nat->Nat×Nat
 | 0,p,v=>(p,v)
 | f+1,p,v=>if p < s.size/\48<=by8 s p/\by8 s p<=57 then dgF f (p+1) (v*10+(by8 s p-48)) else (p,v)
theorem c9P:∀(f g p v:Nat),s.size-p<=f->s.size-p<=g->dgF s f p v=dgF s g p v
 | 0,0,_,_,_,_=>rfl
 | 0,g+1,p,v,h,_=>by rw [dgF,dgF,if_neg (by omega)]
 | f+1,0,p,v,_,h=>by rw [dgF,dgF,if_neg (by omega)]
 | f+1,g+1,p,v,h,h'=>by
  rw [dgF,dgF]
  split
  ·rw [c9P f g _ _ (by omega) (by omega)]
  ·rfl
def dg(p v:Nat):Nat×Nat:=dgF s (s.size-p) p v
variable {s}
theorem c0A{p v:Nat}(hp:p < s.size)(h:48<=by8 s p/\by8 s p<=57):dg s p v=dg s (p+1) (v*10+(by8 s p-48)):=by
 obtain ⟨m,hm⟩:∃m,s.size-p=m+1:=⟨s.size-p-1,by omega⟩
 unfold dg
 rw [hm,dgF,if_pos ⟨hp,h⟩,c9P s m (s.size-(p+1)) _ _ (by omega) (by omega)]
theorem c4a{p v:Nat}(h:¬(p < s.size/\48<=by8 s p/\by8 s p<=57)):dg s p v=(p,v):=by
 unfold dg
 cases s.size-p with
 | zero=>rw [dgF]
 | succ f=>rw [dgF,if_neg h]
def digitR(r:Int):Bool:=decide (classS r=4)
theorem b6p{r:Int}:digitR r=true↔48<=r/\r<=57:=by
 unfold digitR
 rw [decide_eq_true_eq]
 unfold classS
 constructor
 ·intro h
  by_cases c:48<=r/\r<=57
  ·exact c
  ·exfalso
   revert h
   repeat' split
   all_goals first | (intro h;omega) | (intro h;contradiction)
 ·intro h
  have h1:¬signR r:=by unfold signR;omega
  repeat' split
  all_goals first | rfl | omega | contradiction
theorem b7s{p:Nat}(hp:p < s.size):s.data.toList[p]? = some (s.get! p):=by
 have h2:p < s.data.size:=hp
 rw [Array.getElem?_toList,Array.getElem?_eq_getElem h2]
 congr 1
 show s.data[p]=s.data[p]!
 rw [getElem!_pos s.data p h2]
theorem b2B{p:Nat}(hp:p < s.size):s.data.toList.drop p=s.get! p::s.data.toList.drop (p+1):=by
 obtain ⟨h1,h2⟩:=List.getElem?_eq_some_iff.1 (b7s hp)
 rw [List.drop_eq_getElem_cons h1,h2]
theorem c0B:∀(n p v:Nat)(a:Int×Int),s.size-p<=n->
  p<=(dg s p v).1/\(dg s p v).1<=max p s.size/\(dg s p v).2=dval v ((s.data.toList.drop p).take ((dg s p v).1-p))/\(∀c∈(s.data.toList.drop p).take ((dg s p v).1-p),isDig c)/\(Wr s digitR p a).1=(dg s p v).1
 | 0,p,v,a,h=>by
  rw [c4a (by omega),a1k (by omega)]
  refine ⟨Nat.le_refl _,by dsimp only;omega,?_,λc hc=>?_,rfl⟩
  ·dsimp only;rw [Nat.sub_self,List.take_zero];rfl
  ·dsimp only at hc;rw [Nat.sub_self,List.take_zero] at hc;cases hc
 | n+1,p,v,a,h=>by
  by_cases c:p < s.size/\48<=by8 s p/\by8 s p<=57
  ·obtain ⟨i1,i2,i3,i4,i5⟩:=c0B n (p+1) (v*10+(by8 s p-48)) (stepP a (rn s p)) (by omega)
   have hr:=b0D (s:=s) (p:=p) (by omega)
   rw [c0A c.1 c.2,a5T c.1 (b6p.2 (by rw [hr.1];omega)),hr.2]
   have he:(dg s (p+1) (v*10+(by8 s p-48))).1-p=((dg s (p+1) (v*10+(by8 s p-48))).1-(p+1))+1:=by omega
   refine ⟨by omega,by omega,?_,?_,i5⟩
   ·rw [he,b2B c.1,List.take_succ_cons,b0W];exact i3
   ·rw [he,b2B c.1,List.take_succ_cons]
    intro d hd
    rcases List.mem_cons.1 hd with e | hd
    ·rw [e];exact c.2
    ·exact i4 d hd
  ·rw [c4a c,a1k (λq=>c ⟨q.1,by
    have:=b6p.1 q.2
    have h1:=c2S (s:=s) (p:=p) (by omega)
    have h2:=(b0D h1).1
    omega⟩)]
   refine ⟨Nat.le_refl _,by dsimp only;omega,?_,λc hc=>?_,rfl⟩
   ·dsimp only;rw [Nat.sub_self,List.take_zero];rfl
   ·dsimp only at hc;rw [Nat.sub_self,List.take_zero] at hc;cases hc
end
set_option maxHeartbeats 1000000
theorem c8t{n n' b0 b1 b2 b3 c1 c2 c3:Nat}(h:n'<=n)(h0:1<=n')(h1:1 < n'->c1=b1)(h2:2 < n'->c2=b2)(h3:3 < n'->c3=b3)(hw:(Lib.decodeN n b0 b1 b2 b3).2<=n'):Lib.decodeN n' b0 c1 c2 c3=Lib.decodeN n b0 b1 b2 b3:=by
 by_cases a0:b0 < 128
 ·unfold Lib.decodeN;rw [if_pos a0,if_pos a0]
 by_cases k4:3 < n'
 ·rw [h1 (by omega),h2 (by omega),h3 k4]
  unfold Lib.decodeN
  simp only [show (1 < n')=(1 < n) from propext ⟨λ_=>by omega,λ_=>by omega⟩,show (2 < n')=(2 < n) from propext ⟨λ_=>by omega,λ_=>by omega⟩,show (3 < n')=(3 < n) from propext ⟨λ_=>by omega,λ_=>by omega⟩]
 ·have n3:¬3 < n':=k4
  unfold Lib.decodeN at hw ⊢
  rw [if_neg a0] at hw ⊢
  rw [if_neg a0]
  by_cases k3:2 < n'
  ·rw [h1 (by omega),h2 k3]
   simp only [show (1 < n')=True from eq_true (by omega),show (2 < n')=True from eq_true k3,show (3 < n')=False from eq_false n3,show (1 < n)=True from eq_true (by omega),show (2 < n)=True from eq_true (by omega),true_and,false_and,and_false,if_false] at hw ⊢
   split
   ·rfl
   ·rename_i q1
    rw [if_neg q1] at hw
    split
    ·rfl
    ·rename_i q2
     rw [if_neg q2] at hw
     split
     ·rename_i q3
      rw [if_pos q3] at hw
      split
      ·rename_i q4;rw [if_pos q4] at hw;dsimp only at hw;omega
      ·rfl
     ·rfl
  ·by_cases k2:1 < n'
   ·rw [h1 k2]
    simp only [show (1 < n')=True from eq_true k2,show (2 < n')=False from eq_false k3,show (3 < n')=False from eq_false n3,show (1 < n)=True from eq_true (by omega),true_and,false_and,and_false,if_false] at hw ⊢
    split
    ·rfl
    ·rename_i q1
     rw [if_neg q1] at hw
     split
     ·rename_i q2
      rw [if_pos q2] at hw
      split
      ·rename_i q4;rw [if_pos q4] at hw;dsimp only at hw;omega
      ·rfl
     ·rename_i q2
      rw [if_neg q2] at hw
      split
      ·rename_i q3
       rw [if_pos q3] at hw
       split
       ·rename_i q4;rw [if_pos q4] at hw;dsimp only at hw;omega
       ·rfl
      ·rfl
   ·simp only [show (1 < n')=False from eq_false k2,show (2 < n')=False from eq_false k3,show (3 < n')=False from eq_false n3,false_and,and_false,if_false] at hw ⊢
    split
    ·rename_i q1
     rw [if_pos q1] at hw
     split
     ·rename_i q4;rw [if_pos q4] at hw;dsimp only at hw;omega
     ·rfl
    ·rename_i q1
     rw [if_neg q1] at hw
     split
     ·rename_i q2
      rw [if_pos q2] at hw
      split
      ·rename_i q4;rw [if_pos q4] at hw;dsimp only at hw;omega
      ·rfl
     ·rename_i q2
      rw [if_neg q2] at hw
      split
      ·rename_i q3
       rw [if_pos q3] at hw
       split
       ·rename_i q4;rw [if_pos q4] at hw;dsimp only at hw;omega
       ·rfl
      ·rfl
section
variable {s:BA}
theorem b2C{p e:Nat}(h:p<=e)(he:e<=s.size):(s.extract p e).size=e-p:=by
 rw [ByteArray.size_extract];omega
theorem b7t{p e i:Nat}(he:e<=s.size)(hi:p+i < e):(s.extract p e).get! i=s.get! (p+i):=by
 have h1:i < (s.extract p e).size:=by rw [ByteArray.size_extract];omega
 have h2:(s.extract p e).data.toList[i]? = some ((s.extract p e).get! i):=b7s h1
 rw [ByteArray.data_extract,Array.toList_extract,List.extract_eq_take_drop,List.getElem?_take_of_lt (by omega),List.getElem?_drop,b7s (by omega)] at h2
 exact (Option.some.inj h2).symm
theorem c2U{p e i:Nat}(he:e<=s.size)(hi:p+i < e)(hw:p+i+wd s (p+i)<=e):Utf8.decode (s.extract p e) i=Utf8.decode s (p+i):=by
 have hz:(s.extract p e).size=e-p:=b2C (by omega) he
 have hw':(Utf8.decode s (p+i)).2<=(s.extract p e).size-i:=by
  rw [hz]
  have:wd s (p+i)<=e-p-i:=by omega
  exact this
 rw [Lib.decode_at s (p+i)] at hw' ⊢
 rw [Lib.decode_at (s.extract p e) i]
 rw [b7t he hi]
 refine c8t (by omega) (by omega) (λq=>?_) (λq=>?_) (λq=>?_) hw'
 ·rw [show p+i+1=p+(i+1) by omega,b7t he (by omega)]
 ·rw [show p+i+2=p+(i+2) by omega,b7t he (by omega)]
 ·rw [show p+i+3=p+(i+3) by omega,b7t he (by omega)]
end
section
variable (s:BA)
def cntF(is:Int->Bool):Nat->Nat->Nat->Nat
 | 0,_,n=>n
 | f+1,p,n=>if p < s.size/\is (rn s p)=true then cntF is f (p+wd s p) (n+1) else n
theorem c6K(is:Int->Bool):∀(f g p n:Nat),s.size-p<=f->s.size-p<=g->cntF s is f p n=cntF s is g p n
 | 0,0,_,_,_,_=>rfl
 | 0,g+1,p,n,h,_=>by rw [cntF,cntF,if_neg (by omega)]
 | f+1,0,p,n,_,h=>by rw [cntF,cntF,if_neg (by omega)]
 | f+1,g+1,p,n,h,h'=>by
  rw [cntF,cntF]
  have:=W6 s p
  split
  ·rw [c6K is f g _ _ (by omega) (by omega)]
  ·rfl
def cnt(is:Int->Bool)(p n:Nat):Nat:=cntF s is (s.size-p) p n
variable {s}
theorem c6L{is:Int->Bool}{p n:Nat}(hp:p < s.size)(hi:is (rn s p)=true):cnt s is p n=cnt s is (p+wd s p) (n+1):=by
 have:=W6 s p
 obtain ⟨m,hm⟩:∃m,s.size-p=m+1:=⟨s.size-p-1,by omega⟩
 unfold cnt
 rw [hm,cntF,if_pos ⟨hp,hi⟩,c6K s is m (s.size-(p+wd s p)) _ _ (by omega) (by omega)]
theorem b8B{is:Int->Bool}{p n:Nat}(h:¬(p < s.size/\is (rn s p)=true)):cnt s is p n=n:=by
 unfold cnt
 cases s.size-p with
 | zero=>rw [cntF]
 | succ f=>rw [cntF,if_neg h]
theorem Go2.size{p q:Nat}{a b:Int×Int}(h:Go2 s p a q b)(hp:p<=s.size):q<=s.size:=by
 induction h with
 | refl=>exact hp
 | step hq _ ih=>exact ih (b0E hq)
theorem c4P{is:Int->Bool}{p e:Nat}:∀(n q m:Nat)(a:Int×Int),s.size-q<=n->p<=q->q<=s.size->(Wr s is q a).1=e->(runes (s.extract p e) (e-q) (q-p)).length+m=cnt s is q m
 | 0,q,m,a,h,h1,h2,he=>by
  rw [a1k (by omega)] at he
  subst he
  rw [b8B (by omega),Nat.sub_self,runes]
  exact Nat.zero_add _
 | n+1,q,m,a,h,h1,h2,he=>by
  by_cases c:q < s.size/\is (rn s q)=true
  ·have hw:=W6 s q
   have hl:=b0E c.1
   rw [a5T c.1 c.2] at he
   have hg:=a9V (s:=s) is _ (q+wd s q) (stepP a (rn s q)) (Nat.le_refl _)
   have h3:=hg.le
   have h4:=hg.size hl
   rw [he] at h3 h4
   have ih:=c4P (p:=p) n (q+wd s q) (m+1) _ (by omega) (by omega) hl he
   have hz:(s.extract p e).size=e-p:=b2C (by omega) h4
   have hd:Utf8.decode (s.extract p e) (q-p)=Utf8.decode s q:=by
    have:=c2U (s:=s) (p:=p) (e:=e) (i:=q-p) h4 (by omega) (by rw [show p+(q-p)=q by omega];exact h3)
    rw [this,show p+(q-p)=q by omega]
   obtain ⟨k,hk⟩:∃k,e-q=k+1:=⟨e-q-1,by omega⟩
   rw [c6L c.1 c.2,← ih,hk,runes,if_pos (by omega),hd,List.length_cons]
   rw [show q-p+(Utf8.decode s q).2=q+wd s q-p by show q-p+wd s q=_;omega]
   rw [b9E (s.extract p e) k (e-(q+wd s q)) _ (by omega) (by omega)]
   omega
  ·rw [a1k c] at he
   subst he
   rw [b8B c,Nat.sub_self,runes]
   exact Nat.zero_add _
theorem c8u{is:Int->Bool}{p:Nat}{a:Int×Int}(hp:p<=s.size):(runesOf (s.extract p (Wr s is p a).1)).length=cnt s is p 0:=by
 have hg:=a9V (s:=s) is _ p a (Nat.le_refl _)
 have hz:=b2C hg.le (hg.size hp)
 have:=c4P (s:=s) (is:=is) (p:=p) (e:=(Wr s is p a).1) _ p 0 a (Nat.le_refl _) (Nat.le_refl _) hp rfl
 rw [Nat.sub_self] at this
 unfold runesOf
 rw [hz]
 exact this
end
structure Tk where
 kind:Int
 text:BA
 num:Int
 at_:Int×Int
structure On where
 kind:Int
 text:BA
 num:Int
 stop:Nat
 err:Int
def On.bad(e:Int):On:=⟨0,⟨#[]⟩,0,0,e⟩
section
variable (s:BA)
def two(p:Nat):Prop:=p+1 < s.size/\((by8 s p=61/\by8 s (p+1)=61)\/(by8 s p=33/\by8 s (p+1)=61)\/(by8 s p=60/\by8 s (p+1)=61)\/(by8 s p=62/\by8 s (p+1)=61)\/(by8 s p=38/\by8 s (p+1)=38)\/(by8 s p=124/\by8 s (p+1)=124))
instance (p:Nat):Decidable (two s p):=by unfold two;infer_instance
def signO(p:Nat):On:=
 if two s p then ⟨4,s.extract p (p+2),0,p+2,0⟩
 else if by8 s p=38\/by8 s p=124 then .bad 20 else ⟨4,s.extract p (p+1),0,p+1,0⟩
def wordO(p:Nat):On:=
 if wordS (s.extract p (Wr s goesS p (0,0)).1)=true then ⟨3,s.extract p (Wr s goesS p (0,0)).1,0,(Wr s goesS p (0,0)).1,0⟩
 else if 32 < cnt s goesS p 0 then .bad 22 else ⟨1,s.extract p (Wr s goesS p (0,0)).1,0,(Wr s goesS p (0,0)).1,0⟩
def numO(p:Nat):On:=
 if 9223372036854775808<=(dg s p 0).2\/(by8 s p=48/\1 < (dg s p 0).1-p)\/((dg s p 0).1 < s.size/\classS (rn s (dg s p 0).1)=3) then .bad 21
 else ⟨2,s.extract p (dg s p 0).1,((dg s p 0).2:Int),(dg s p 0).1,0⟩
def oneO(p:Nat):On:=if classS (rn s p)=3 then wordO s p else if classS (rn s p)=4 then numO s p else if classS (rn s p)=5 then signO s p else .bad 20
def mvF(z:Nat):Nat->Nat->Int×Int->Int×Int
 | 0,_,a=>a
 | f+1,p,a=>if p < z then mvF z f (p+wd s p) (stepP a (rn s p)) else a
def mv(p z:Nat)(a:Int×Int):Int×Int:=mvF s z (z-p) p a
theorem c9Q(z:Nat):∀(f g p:Nat)(a:Int×Int),z-p<=f->z-p<=g->mvF s z f p a=mvF s z g p a
 | 0,0,_,_,_,_=>rfl
 | 0,g+1,p,a,h,_=>by rw [mvF,mvF,if_neg (by omega)]
 | f+1,0,p,a,_,h=>by rw [mvF,mvF,if_neg (by omega)]
 | f+1,g+1,p,a,h,h'=>by
  rw [mvF,mvF]
  have:=W6 s p
  split
  ·rw [c9Q z f g _ _ (by omega) (by omega)]
  ·rfl
variable {s}
theorem e0r{p z:Nat}{a:Int×Int}(h:p < z):mv s p z a=mv s (p+wd s p) z (stepP a (rn s p)):=by
 have:=W6 s p
 obtain ⟨m,hm⟩:∃m,z-p=m+1:=⟨z-p-1,by omega⟩
 unfold mv
 rw [hm,mvF,if_pos h,c9Q s z m (z-(p+wd s p)) _ _ (by omega) (by omega)]
theorem c4b{p z:Nat}{a:Int×Int}(h:¬p < z):mv s p z a=a:=by
 unfold mv
 rw [show z-p=0 by omega,mvF]
theorem d1h{p q:Nat}{a b:Int×Int}(h:Go2 s p a q b):mv s p q a=b:=by
 induction h with
 | refl=>exact c4b (Nat.lt_irrefl _)
 | @step p q a b hp h ih=>
  have h1:=h.le
  have h2:=W6 s p
  rw [e0r (by omega)]
  exact ih
variable (s)
def tkF:Nat->Nat->Int×Int->List Tk->List Tk×(Int×Int)×Int
 | 0,_,_,_=>([],(0,0),0)
 | f+1,p,a,out=>
  if ¬sk s p < s.size then (out++[⟨5,⟨#[]⟩,0,mv s p (sk s p) a⟩],(0,0),0)
  else if out.length=32768 then ([],mv s p (sk s p) a,23)
  else if (oneO s (sk s p)).err≠0 then ([],mv s p (sk s p) a,(oneO s (sk s p)).err)
  else tkF f (oneO s (sk s p)).stop (mv s (sk s p) (oneO s (sk s p)).stop (mv s p (sk s p) a)) (out++[⟨(oneO s (sk s p)).kind,(oneO s (sk s p)).text,(oneO s (sk s p)).num,mv s p (sk s p) a⟩])
def tkS:List Tk×(Int×Int)×Int:=
 if 65536 < s.size then ([],(1,1),10)
 else match chkAt s 0 with
  | some n=>([],mv s 0 n (1,1),11)
  | none=>tkF s (s.size+1) 0 (1,1) []
end
section
variable {H:Hp}
theorem e0s(a b:Nat)(h:a+b<=4398046511104):IntKind.wrap .i64 ((a:Int)+(b:Int))=((a+b:Nat):Int):=by
 rw [S3 ⟨by omega,by omega⟩];omega
end
abbrev plv(b:Int×Int):f8:=f8.mk b.1 b.2
def Pl(a:Int×Int)(p:Nat):Prop:=1<=a.1/\a.1<=p+1/\1<=a.2/\a.2<=p+1
section
variable {s:BA}
theorem Pl.step{a:Int×Int}{p:Nat}(h:Pl a p):Pl (stepP a (rn s p)) (p+wd s p):=by
 have:=W6 s p
 unfold Pl at h ⊢
 unfold stepP
 split<;>(dsimp only;omega)
theorem Go2.pl{p q:Nat}{a b:Int×Int}(h:Go2 s p a q b):Pl a p->Pl b q:=by
 induction h with
 | refl=>exact id
 | step _ _ ih=>exact λk=>ih k.step
theorem Pl0:Pl (1,1) 0:=⟨by decide,by decide,by decide,by decide⟩
theorem e6F{n:Nat}:∀{p:Nat}(a:Int×Int),s.size-p<=n->∃b,Go2 s p a (sk s p) b:=by
 induction n with
 | zero=>intro p a h;rw [a6Z (.inl (by omega))];exact ⟨a,.refl⟩
 | succ n ih=>
  intro p a h
  by_cases hp:p < s.size
  ·by_cases c:by8 s p=35
   ·have h1:=c2T hp c
    have h2:=a9V (s:=s) notNl _ p a (Nat.le_refl _)
    rw [←d1f _ p a (Nat.le_refl _)] at h2
    obtain ⟨b,hb⟩:=ih (p:=nl s p) (Wr s notNl p a).2 (by omega)
    rw [c3Z hp c]
    exact ⟨b,h2.trans hb⟩
   ·by_cases d:blankS (rn s p)=true
    ·have:=W6 s p
     obtain ⟨b,hb⟩:=ih (p:=p+wd s p) (stepP a (rn s p)) (by omega)
     rw [b8A hp c d]
     exact ⟨b,.step hp hb⟩
    ·rw [a6Z (.inr ⟨c,by simpa using d⟩)];exact ⟨a,.refl⟩
  ·rw [a6Z (.inl hp)];exact ⟨a,.refl⟩
theorem c2V{p:Nat}(hp:p<=s.size):p<=sk s p/\sk s p<=s.size:=by
 obtain ⟨b,h⟩:=e6F (s:=s) (p:=p) (0,0) (Nat.le_refl _)
 exact ⟨h.le,h.size hp⟩
theorem e4r{n:Nat}:∀{p:Nat},s.size-p<=n->sk s p < s.size->by8 s (sk s p)≠35/\blankS (rn s (sk s p))=false:=by
 induction n with
 | zero=>intro p h k;rw [a6Z (.inl (by omega))] at k;omega
 | succ n ih=>
  intro p h
  by_cases hp:p < s.size
  ·by_cases c:by8 s p=35
   ·have h1:=c2T hp c
    rw [c3Z hp c]
    exact ih (by omega)
   ·by_cases d:blankS (rn s p)=true
    ·have:=W6 s p
     rw [b8A hp c d]
     exact ih (by omega)
    ·intro _
     rw [a6Z (.inr ⟨c,by simpa using d⟩)]
     exact ⟨c,by simpa using d⟩
  ·intro k;rw [a6Z (.inl hp)] at k;omega
theorem d3D{p:Nat}(a:Int×Int)(hp:p < s.size)(h:by8 s p < 128):∃b,Go2 s p a (p+1) b:=by
 have:=Go2.one (s:=s) (a:=a) hp
 rw [(b0D h).2] at this
 exact ⟨_,this⟩
theorem c4Q{p:Nat}(h:classS (rn s p)=5):by8 s p < 128:=by
 refine c2S ?_
 unfold classS at h
 split at h
 ·cases h
 ·split at h
  ·cases h
  ·split at h
   ·rename_i q;unfold signR at q;omega
   ·split at h
    ·cases h
    ·split at h
     ·cases h
     ·split at h<;>cases h
theorem e4s{p:Nat}(a:Int×Int)(hp:p < s.size)(h:(oneO s p).err=0):∃b,Go2 s p a (oneO s p).stop b:=by
 unfold oneO at h ⊢
 split at h
 ·rename_i c
  rw [if_pos c]
  have g:=a9V (s:=s) goesS _ p (0,0) (Nat.le_refl _)
  obtain ⟨b,hb⟩:∃b,Go2 s p a (Wr s goesS p (0,0)).1 b:=by
   have:=a9V (s:=s) goesS _ p a (Nat.le_refl _)
   have e:(Wr s goesS p a).1=(Wr s goesS p (0,0)).1:=by
    have:∀(f q:Nat)(a b:Int×Int),(whl s goesS f q a).1=(whl s goesS f q b).1:=by
     intro f
     induction f with
     | zero=>intro q a b;rw [whl,whl]
     | succ f ih=>
      intro q a b
      rw [whl,whl]
      split
      ·exact ih _ _ _
      ·rfl
    exact this _ _ _ _
   rw [e] at this
   exact ⟨_,this⟩
  unfold wordO at h ⊢
  split at h
  ·rename_i d;rw [if_pos d];exact ⟨b,hb⟩
  ·rename_i d
   rw [if_neg d]
   split at h
   ·cases h
   ·rename_i e;rw [if_neg e];exact ⟨b,hb⟩
 ·rename_i c
  rw [if_neg c]
  split at h
  ·rename_i c2
   rw [if_pos c2]
   unfold numO at h ⊢
   split at h
   ·cases h
   ·rename_i d
    rw [if_neg d]
    have g:=a9V (s:=s) digitR _ p a (Nat.le_refl _)
    rw [(c0B _ p 0 a (Nat.le_refl _)).2.2.2.2] at g
    exact ⟨_,g⟩
  ·rename_i c2
   rw [if_neg c2]
   split at h
   ·rename_i c3
    rw [if_pos c3]
    have ha:=c4Q c3
    obtain ⟨b,hb⟩:=d3D a hp ha
    unfold signO at h ⊢
    split at h
    ·rename_i d
     rw [if_pos d]
     unfold two at d
     obtain ⟨b2,hb2⟩:=d3D (s:=s) (p:=p+1) b d.1 (by omega)
     exact ⟨b2,hb.trans hb2⟩
    ·rename_i d
     rw [if_neg d]
     split at h
     ·cases h
     ·rename_i e;rw [if_neg e];exact ⟨b,hb⟩
   ·cases h
theorem e4t{n:Nat}:∀{p q:Nat}(a:Int×Int),s.size-p<=n->chkAt s p=some q->q < s.size/\∃b,Go2 s p a q b:=by
 induction n with
 | zero=>intro p q a h k;rw [a7o s p (by omega)] at k;cases k
 | succ n ih=>
  intro p q a h k
  by_cases hp:p < s.size
  ·rw [a9U s p hp] at k
   split at k
   ·cases k;exact ⟨hp,a,.refl⟩
   ·have:=W6 s p
    obtain ⟨h1,b,h2⟩:=ih (stepP a (rn s p)) (by show s.size-(p+wd s p)<=n;omega) k
    exact ⟨h1,b,.step hp h2⟩
  ·rw [a7o s p (by omega)] at k;cases k
end
section
variable {H:Hp}{s:BA}(hs:s.size<=big)
include hs
end
abbrev tokO(o:On):d6:=d6.mk o.kind o.text o.num (f8.mk 0 0)
abbrev tkv(t:Tk):d6:=d6.mk t.kind t.text t.num (plv t.at_)
theorem w8{a:Int}(h0:0<=a)(h1:a < 256):IntKind.wrap .u8 a=a:=by
 simp [IntKind.wrap,IntKind.bits,IntKind.signed];omega
section
variable {s:BA}
theorem d8c{p v:Nat}(hp:p<=s.size):p<=(dg s p v).1/\(dg s p v).1<=s.size:=by
 have h:=c0B (s:=s) _ p v (0,0) (Nat.le_refl _)
 have:=h.2.1
 exact ⟨h.1,by omega⟩
theorem e9v{p:Nat}(h:p+2<=s.size):s.extract p (p+2)=⟨#[s.get! p,s.get! (p+1)]⟩:=by
 apply ByteArray.ext
 apply Array.toList_inj.1
 rw [ByteArray.data_extract,Array.toList_extract,List.extract_eq_take_drop,b2B (by omega),b2B (by omega),show p+2-p=2 by omega]
 rfl
theorem c6M{p:Nat}(h:p+2<=s.size)(x y:UInt8):s.extract p (p+2)=⟨#[x,y]⟩↔by8 s p=x.toNat/\by8 s (p+1)=y.toNat:=by
 rw [e9v h]
 rw [UInt8.toNat_inj,UInt8.toNat_inj]
 constructor
 ·intro e
  injection e with e
  have e:=congrArg Array.toList e
  injection e with e1 e2
  injection e2 with e2 _
  exact ⟨e1,e2⟩
 ·rintro ⟨e1,e2⟩;rw [e1,e2]
end
section
variable {H:Hp}{s:BA}(hs:s.size<=big)
include hs
end
section
variable {H:Hp}{s:BA}(hs:s.size<=big)
include hs
end
section
variable {s:BA}
theorem b8C{p:Nat}(hp:p < s.size)(h:(oneO s p).err=0):p < (oneO s p).stop/\(oneO s p).stop<=s.size:=by
 obtain ⟨b,g⟩:=e4s (0,0) hp h
 refine ⟨?_,g.size (by omega)⟩
 have hw:=W6 s p
 rcases Nat.lt_or_ge p (oneO s p).stop with q | q
 ·exact q
 exfalso
 unfold oneO at h q
 split at h
 ·rename_i c
  rw [if_pos c] at q
  have e:=a5T (s:=s) (is:=goesS) (a:=(0,0)) hp (by unfold goesS;rw [decide_eq_true c];rfl)
  have g2:=(a9V (s:=s) goesS _ (p+wd s p) (stepP (0,0) (rn s p)) (Nat.le_refl _)).le
  unfold wordO at h q
  split at h
  ·rename_i d;rw [if_pos d,e] at q;dsimp only at q;omega
  ·rename_i d
   rw [if_neg d] at q
   split at h
   ·cases h
   ·rename_i d2;rw [if_neg d2,e] at q;dsimp only at q;omega
 ·rename_i c
  rw [if_neg c] at q
  split at h
  ·rename_i c2
   rw [if_pos c2] at q
   unfold numO at h q
   split at h
   ·cases h
   ·rename_i d
    rw [if_neg d] at q
    dsimp only at q
    have hd:=b6p.1 (show digitR (rn s p)=true by unfold digitR;rw [decide_eq_true c2])
    have ha:=c2S (s:=s) (p:=p) (by omega)
    have hr:=(b0D ha).1
    rw [c0A hp (by omega)] at q
    have:=(d8c (s:=s) (p:=p+1) (v:=0*10+(by8 s p-48)) (by omega)).1
    omega
  ·rename_i c2
   rw [if_neg c2] at q
   split at h
   ·rename_i c3
    rw [if_pos c3] at q
    unfold signO at h q
    split at h
    ·rename_i d;rw [if_pos d] at q;dsimp only at q;omega
    ·rename_i d
     rw [if_neg d] at q
     split at h
     ·cases h
     ·rename_i d2;rw [if_neg d2] at q;dsimp only at q;omega
   ·cases h
theorem e0t:∀(f g p:Nat)(a:Int×Int)(out:List Tk),s.size+1-p<=f->s.size+1-p<=g->p<=s.size->tkF s f p a out=tkF s g p a out:=by
 intro f
 induction f with
 | zero=>intro g p a out h1 h2 hp;omega
 | succ f ih=>
  intro g p a out h1 h2 hp
  cases g with
  | zero=>omega
  | succ g=>
   rw [tkF,tkF]
   obtain ⟨k1,k2⟩:=c2V hp
   split
   ·rfl
   ·rename_i c
    split
    ·rfl
    ·split
     ·rfl
     ·rename_i c2
      have:=b8C (p:=sk s p) (by omega) (Classical.byContradiction λx=>c2 x)
      exact ih _ _ _ _ (by omega) (by omega) (by omega)
end
section
variable {H:Hp}{s:BA}(hs:s.size<=big)
include hs
end
open Go.Proofs.Tryz Go.RowKit
abbrev rd(s:BA)(p:Nat)(a:Int×Int):i8:=i8.mk s (p:Int) (plv a) (Sl.mk none 0 0)
def ErrH(H:Hp):Prop:=∃(tp:TypeId)(x:Value),∀w:World,Sub H w->w.cell? ⟨7,0,none⟩=some (.iface tp x)
theorem ErrH.le{H H':Hp}(h:ErrH H)(l:Hle H H'):ErrH H':=by
 obtain ⟨tp,x,h⟩:=h
 exact ⟨tp,x,λw s=>h w λi o e=>s i o (l i o e)⟩
section
variable {s:BA}
theorem c6N{p:Nat}(hp:p < s.size):Utf8.decode (s.extract p s.size) 0=Utf8.decode s p:=by
 have:=c2U (s:=s) (p:=p) (e:=s.size) (i:=0) (Nat.le_refl _) (by omega) (by have:=b0E hp;rw [Nat.add_zero];exact this)
 rw [Nat.add_zero] at this
 exact this
theorem tail_size{p:Nat}(hp:p<=s.size):(s.extract p s.size).size=s.size-p:=b2C hp (Nat.le_refl _)
end
section
variable {H:Hp}{s:BA}
theorem d3E(hT:TabsH H){p:Nat}(hp:p < s.size){K:Int->Int->Hp->Prop}(h:K (rn s p) (wd s p:Int) H):a1x (s.extract p s.size) H K:=by
 intro w I
 refine Calls.mono (Any.utf8_DecodeRuneInString Tryz.e0j _ w (hT w I.sub)) λe w' hb=>?_
 obtain ⟨rfl,hb⟩:=hb
 refine ⟨H,[],I.of_below hb,_,_,rfl,rfl,?_⟩
 have hz:¬(s.extract p s.size).size=0:=by rw [tail_size (by omega)];omega
 have e:Lib.decodeGo (s.extract p s.size)=Utf8.decode s p:=by
  simp only [Lib.decodeGo,hz,if_false]
  exact c6N hp
 rw [e]
 exact h
theorem b7u{p:Nat}{a:Int×Int}{l:List d6}(hp:p<=s.size){K:KT BA}(h:K (s.extract p s.size) H):Y5 (rd s p a) l H K:=by
 refine b5z _ _ ?_
 unfold a9o
 dsimp only
 rw [Int.toNat_natCast]
 exact ⟨by omega,by omega,h⟩
theorem a7a{p:Nat}{a:Int×Int}{l:List d6}(hp:p<=s.size){K:Int->Bool->Hp->Prop}(h:if p < s.size then K (rn s p) true H else K 0 false H):M0 (rd s p a) l H K:=by
 intro g0 e f hr
 refine Ct.of λw0 w ps0 H0 R E I hR=>e3H (u7 λj1 hx1=>?_)
 refine f7 call129 (b7u (H:=H) (a:=a) hp (K:=λr H'=>r=s.extract p s.size/\H=H') ⟨rfl,rfl⟩ g0 e f hr) I ?_
 rintro _ _ _ w1 I1 _ _ ⟨r,rfl,rfl,rfl,rfl⟩
 refine b6N underlying9 (s.extract p s.size) I1 λm w2 I2 _=>G6 (J:=λn l w=>l=[]/\Inv w0 ps0 H0 H (itf m (s.extract p s.size) 0::([bx g0 167 (B9 (rd s p a) e),f]++[])) w) ⟨0,rfl,I2⟩ ?_
 rintro _ τ w3 next ⟨_,I3⟩ _
 have hz:=tail_size hp
 refine b9m I3 (λg w4 I4 _=>?_) (λg=>?_)
 ·have c:p < s.size:=by omega
  rw [if_pos c] at h
  refine c7 (m7 _ _ (Value.bool true) rfl) (Z5 (λ_=>?_) (λe=>by cases e))
  refine c7 (m7 _ _ (Value.int .i32 ((Utf8.decode (s.extract p s.size) 0).1:Int)) rfl) (hR _ H _ _ I4.drop ⟨_,true,rfl,rfl,?_⟩)
  rw [c6N c]
  exact h
 ·have c:¬p < s.size:=by omega
  rw [if_neg c] at h
  refine c7 (m7 _ _ (Value.bool false) rfl) (Z5 (λe=>by cases e) (λ_=>?_))
  refine hx1 _ _ ?_
  intro _
  exact hR _ H _ _ I3.drop ⟨0,_,rfl,rfl,h⟩
end
section
variable {H:Hp}{s:BA}
theorem d3F{r:Int}{K:KT Bool}(h:K (blankS r) H):a3p r H K:=by
 exact b2p _ (b2A h)
theorem d3G{r:Int}{K:KT Bool}(h:K (notNl r) H):a3o r H K:=b2x _ h
theorem e0u{r:Int}{K:KT Bool}(h:K (digitR r) H):a3q r H K:=by
 exact b2q _ (b2A h)
theorem d3H{t x:BA}{K:KT Bool}(h:K (decide (x.size<=t.size/\t.extract 0 x.size=x)) H):a5E t x H K:=by
 refine b8X _ _ ?_
 unfold b2a
 refine b0M _ _ ?_
 unfold a5t
 rw [Int.toNat_natCast,← Bool.decide_and]
 refine ⟨λq=>⟨by omega,by have:=of_decide_eq_true q;omega⟩,?_⟩
 rw [show decide ((x.size:Int)<=(t.size:Int)/\t.extract 0 x.size=x)=decide (x.size<=t.size/\t.extract 0 x.size=x) from decide_eq_decide.2 ⟨λq=>⟨by omega,q.2⟩,λq=>⟨by omega,q.2⟩⟩]
 exact h
variable (hT:TabsH H)(hs:s.size<=big)
include hT hs
theorem a7O{p:Nat}{a:Int×Int}{l:List d6}(hp:p < s.size)(ha:Pl a p){K:i8->List d6->Hp->Prop}(h:K (rd s (p+wd s p) (stepP a (rn s p))) l H):O7 (rd s p a) l H K:=by
 refine b5A _ _ ?_
 unfold a9p
 have hs2:=hs
 simp only [big] at hs2
 have h2:=b0E hp
 unfold Pl at ha
 refine b7u (s:=s) (p:=p) (a:=a) (by omega) (d3E hT hp ?_)
 dsimp only
 rw [e0s _ _ (by omega)]
 unfold stepP at h
 refine ⟨λe=>?_,λe=>?_⟩
 ·rw [if_pos e] at h
  rw [S3 ⟨by omega,by omega⟩]
  exact h
 ·rw [if_neg e] at h
  rw [S3 ⟨by omega,by omega⟩]
  exact h
theorem c6O{p:Nat}{a:Int×Int}{l:List d6}(hp:p<=s.size)(ha:Pl a p){K:BA->i8->List d6->Hp->Prop}(h:K (s.extract p (Wr s goesS p a).1) (rd s (Wr s goesS p a).1 (Wr s goesS p a).2) l H):V3 (rd s p a) l H K:=by
 refine a5R _ _ ?_
 have hs2:=hs
 simp only [big] at hs2
 have start:∀(c:Int)(ok:Bool),(if p < s.size then c=rn s p/\ok=true else ok=false)->TL ((c,ok,s,(p:Int),plv a,l):Int×Bool×BA×Int×f8×(List d6)) H λ(s:Int×Bool×BA×Int×f8×(List d6)) H n2=>L5 p s.1 s.2.1 s.2.2.1 s.2.2.2.1 s.2.2.2.2.1 s.2.2.2.2.2 H n2 K:=by
  intro c ok h0
  refine P7 (λ(z:Int×Bool×BA×Int×f8×(List d6)) H'=>H'=H/\∃(q:Nat)(b:Int×Int)(c:Int)(ok:Bool),z=(c,ok,s,(q:Int),plv b,l)/\p<=q/\q<=s.size/\Pl b q/\(if q < s.size then c=rn s q/\ok=true else ok=false)/\Wr s goesS q b=Wr s goesS p a) (λz=>(s.size-z.2.2.2.1).toNat) ⟨rfl,p,a,c,ok,rfl,Nat.le_refl _,hp,ha,h0,rfl⟩ ?_
  rintro z H1 next ⟨rfl,q,b,c,ok,rfl,hpq,hq,hb,hc,he⟩ hk
  dsimp only
  refine a2g (goesS c) (λ_ K' hk=>c9L hk) ?_
  have fin:∀v:Bool,¬(q < s.size/\goesS (rn s q)=true)->L4 p s q (plv b) l H1 K:=by
   intro _ hn
   rw [a1k hn] at he
   rw [←he] at h
   refine ⟨by omega,by omega,by omega,?_⟩
   rw [Int.toNat_natCast,Int.toNat_natCast]
   exact h
  by_cases c1:q < s.size
  ·rw [if_pos c1] at hc
   obtain ⟨rfl,rfl⟩:=hc
   rw [if_pos rfl]
   cases hi:goesS (rn s q) with
   | true=>
    refine ⟨λ_=>?_,λx=>(by cases x)⟩
    have h1:=W6 s q
    have h2:=b0E c1
    rw [a5T c1 hi] at he
    refine a7O hT hs c1 hb (a7a h2 ?_)
    have hb2:=Pl.step (s:=s) hb
    by_cases c2:q+wd s q < s.size
    ·rw [if_pos c2]
     exact hk _ _ ⟨rfl,q+wd s q,stepP b (rn s q),_,true,rfl,by omega,h2,hb2,by rw [if_pos c2];exact ⟨rfl,rfl⟩,he⟩ (by dsimp only;omega)
    ·rw [if_neg c2]
     exact hk _ _ ⟨rfl,q+wd s q,stepP b (rn s q),_,false,rfl,by omega,h2,hb2,by rw [if_neg c2],he⟩ (by dsimp only;omega)
   | false=>exact ⟨λx=>(by cases x),λ_=>fin true (λx=>by rw [hi] at x;cases x.2)⟩
  ·rw [if_neg c1] at hc
   subst hc
   rw [if_neg (by decide)]
   exact ⟨λx=>(by cases x),λ_=>fin false (λx=>c1 x.1)⟩
 refine a7a hp ?_
 by_cases c1:p < s.size
 ·rw [if_pos c1];exact start _ _ (by rw [if_pos c1];exact ⟨rfl,rfl⟩)
 ·rw [if_neg c1];exact start _ _ (by rw [if_neg c1])
theorem b0X{p:Nat}{a:Int×Int}{l:List d6}(hp:p<=s.size)(ha:Pl a p){K:BA->i8->List d6->Hp->Prop}(h:K (s.extract p (Wr s blankS p a).1) (rd s (Wr s blankS p a).1 (Wr s blankS p a).2) l H):M7 (rd s p a) l H K:=by
 refine a3P _ _ ?_
 have hs2:=hs
 simp only [big] at hs2
 have start:∀(c:Int)(ok:Bool),(if p < s.size then c=rn s p/\ok=true else ok=false)->TL ((c,ok,s,(p:Int),plv a,l):Int×Bool×BA×Int×f8×(List d6)) H λ(s:Int×Bool×BA×Int×f8×(List d6)) H n2=>E8 p s.1 s.2.1 s.2.2.1 s.2.2.2.1 s.2.2.2.2.1 s.2.2.2.2.2 H n2 K:=by
  intro c ok h0
  refine P7 (λ(z:Int×Bool×BA×Int×f8×(List d6)) H'=>H'=H/\∃(q:Nat)(b:Int×Int)(c:Int)(ok:Bool),z=(c,ok,s,(q:Int),plv b,l)/\p<=q/\q<=s.size/\Pl b q/\(if q < s.size then c=rn s q/\ok=true else ok=false)/\Wr s blankS q b=Wr s blankS p a) (λz=>(s.size-z.2.2.2.1).toNat) ⟨rfl,p,a,c,ok,rfl,Nat.le_refl _,hp,ha,h0,rfl⟩ ?_
  rintro z H1 next ⟨rfl,q,b,c,ok,rfl,hpq,hq,hb,hc,he⟩ hk
  dsimp only
  refine a2g (blankS c) (λ_ K' hk=>d3F hk) ?_
  have fin:∀v:Bool,¬(q < s.size/\blankS (rn s q)=true)->E7 p s q (plv b) l H1 K:=by
   intro _ hn
   rw [a1k hn] at he
   rw [←he] at h
   refine ⟨by omega,by omega,by omega,?_⟩
   rw [Int.toNat_natCast,Int.toNat_natCast]
   exact h
  by_cases c1:q < s.size
  ·rw [if_pos c1] at hc
   obtain ⟨rfl,rfl⟩:=hc
   rw [if_pos rfl]
   cases hi:blankS (rn s q) with
   | true=>
    refine ⟨λ_=>?_,λx=>(by cases x)⟩
    have h1:=W6 s q
    have h2:=b0E c1
    rw [a5T c1 hi] at he
    refine a7O hT hs c1 hb (a7a h2 ?_)
    have hb2:=Pl.step (s:=s) hb
    by_cases c2:q+wd s q < s.size
    ·rw [if_pos c2]
     exact hk _ _ ⟨rfl,q+wd s q,stepP b (rn s q),_,true,rfl,by omega,h2,hb2,by rw [if_pos c2];exact ⟨rfl,rfl⟩,he⟩ (by dsimp only;omega)
    ·rw [if_neg c2]
     exact hk _ _ ⟨rfl,q+wd s q,stepP b (rn s q),_,false,rfl,by omega,h2,hb2,by rw [if_neg c2],he⟩ (by dsimp only;omega)
   | false=>exact ⟨λx=>(by cases x),λ_=>fin true (λx=>by rw [hi] at x;cases x.2)⟩
  ·rw [if_neg c1] at hc
   subst hc
   rw [if_neg (by decide)]
   exact ⟨λx=>(by cases x),λ_=>fin false (λx=>c1 x.1)⟩
 refine a7a hp ?_
 by_cases c1:p < s.size
 ·rw [if_pos c1];exact start _ _ (by rw [if_pos c1];exact ⟨rfl,rfl⟩)
 ·rw [if_neg c1];exact start _ _ (by rw [if_neg c1])
theorem b7v{p:Nat}{a:Int×Int}{l:List d6}(hp:p<=s.size)(ha:Pl a p){K:BA->i8->List d6->Hp->Prop}(h:K (s.extract p (Wr s notNl p a).1) (rd s (Wr s notNl p a).1 (Wr s notNl p a).2) l H):Q9 (rd s p a) l H K:=by
 refine a3N _ _ ?_
 have hs2:=hs
 simp only [big] at hs2
 have start:∀(c:Int)(ok:Bool),(if p < s.size then c=rn s p/\ok=true else ok=false)->TL ((c,ok,s,(p:Int),plv a,l):Int×Bool×BA×Int×f8×(List d6)) H λ(s:Int×Bool×BA×Int×f8×(List d6)) H n2=>E4 p s.1 s.2.1 s.2.2.1 s.2.2.2.1 s.2.2.2.2.1 s.2.2.2.2.2 H n2 K:=by
  intro c ok h0
  refine P7 (λ(z:Int×Bool×BA×Int×f8×(List d6)) H'=>H'=H/\∃(q:Nat)(b:Int×Int)(c:Int)(ok:Bool),z=(c,ok,s,(q:Int),plv b,l)/\p<=q/\q<=s.size/\Pl b q/\(if q < s.size then c=rn s q/\ok=true else ok=false)/\Wr s notNl q b=Wr s notNl p a) (λz=>(s.size-z.2.2.2.1).toNat) ⟨rfl,p,a,c,ok,rfl,Nat.le_refl _,hp,ha,h0,rfl⟩ ?_
  rintro z H1 next ⟨rfl,q,b,c,ok,rfl,hpq,hq,hb,hc,he⟩ hk
  dsimp only
  refine a2g (notNl c) (λ_ K' hk=>d3G hk) ?_
  have fin:∀v:Bool,¬(q < s.size/\notNl (rn s q)=true)->E3 p s q (plv b) l H1 K:=by
   intro _ hn
   rw [a1k hn] at he
   rw [←he] at h
   refine ⟨by omega,by omega,by omega,?_⟩
   rw [Int.toNat_natCast,Int.toNat_natCast]
   exact h
  by_cases c1:q < s.size
  ·rw [if_pos c1] at hc
   obtain ⟨rfl,rfl⟩:=hc
   rw [if_pos rfl]
   cases hi:notNl (rn s q) with
   | true=>
    refine ⟨λ_=>?_,λx=>(by cases x)⟩
    have h1:=W6 s q
    have h2:=b0E c1
    rw [a5T c1 hi] at he
    refine a7O hT hs c1 hb (a7a h2 ?_)
    have hb2:=Pl.step (s:=s) hb
    by_cases c2:q+wd s q < s.size
    ·rw [if_pos c2]
     exact hk _ _ ⟨rfl,q+wd s q,stepP b (rn s q),_,true,rfl,by omega,h2,hb2,by rw [if_pos c2];exact ⟨rfl,rfl⟩,he⟩ (by dsimp only;omega)
    ·rw [if_neg c2]
     exact hk _ _ ⟨rfl,q+wd s q,stepP b (rn s q),_,false,rfl,by omega,h2,hb2,by rw [if_neg c2],he⟩ (by dsimp only;omega)
   | false=>exact ⟨λx=>(by cases x),λ_=>fin true (λx=>by rw [hi] at x;cases x.2)⟩
  ·rw [if_neg c1] at hc
   subst hc
   rw [if_neg (by decide)]
   exact ⟨λx=>(by cases x),λ_=>fin false (λx=>c1 x.1)⟩
 refine a7a hp ?_
 by_cases c1:p < s.size
 ·rw [if_pos c1];exact start _ _ (by rw [if_pos c1];exact ⟨rfl,rfl⟩)
 ·rw [if_neg c1];exact start _ _ (by rw [if_neg c1])
theorem b7w{p:Nat}{a:Int×Int}{l:List d6}(hp:p<=s.size)(ha:Pl a p){K:BA->i8->List d6->Hp->Prop}(h:K (s.extract p (Wr s digitR p a).1) (rd s (Wr s digitR p a).1 (Wr s digitR p a).2) l H):R0 (rd s p a) l H K:=by
 refine a3O _ _ ?_
 have hs2:=hs
 simp only [big] at hs2
 have start:∀(c:Int)(ok:Bool),(if p < s.size then c=rn s p/\ok=true else ok=false)->TL ((c,ok,s,(p:Int),plv a,l):Int×Bool×BA×Int×f8×(List d6)) H λ(s:Int×Bool×BA×Int×f8×(List d6)) H n2=>E6 p s.1 s.2.1 s.2.2.1 s.2.2.2.1 s.2.2.2.2.1 s.2.2.2.2.2 H n2 K:=by
  intro c ok h0
  refine P7 (λ(z:Int×Bool×BA×Int×f8×(List d6)) H'=>H'=H/\∃(q:Nat)(b:Int×Int)(c:Int)(ok:Bool),z=(c,ok,s,(q:Int),plv b,l)/\p<=q/\q<=s.size/\Pl b q/\(if q < s.size then c=rn s q/\ok=true else ok=false)/\Wr s digitR q b=Wr s digitR p a) (λz=>(s.size-z.2.2.2.1).toNat) ⟨rfl,p,a,c,ok,rfl,Nat.le_refl _,hp,ha,h0,rfl⟩ ?_
  rintro z H1 next ⟨rfl,q,b,c,ok,rfl,hpq,hq,hb,hc,he⟩ hk
  dsimp only
  refine a2g (digitR c) (λ_ K' hk=>e0u hk) ?_
  have fin:∀v:Bool,¬(q < s.size/\digitR (rn s q)=true)->E5 p s q (plv b) l H1 K:=by
   intro _ hn
   rw [a1k hn] at he
   rw [←he] at h
   refine ⟨by omega,by omega,by omega,?_⟩
   rw [Int.toNat_natCast,Int.toNat_natCast]
   exact h
  by_cases c1:q < s.size
  ·rw [if_pos c1] at hc
   obtain ⟨rfl,rfl⟩:=hc
   rw [if_pos rfl]
   cases hi:digitR (rn s q) with
   | true=>
    refine ⟨λ_=>?_,λx=>(by cases x)⟩
    have h1:=W6 s q
    have h2:=b0E c1
    rw [a5T c1 hi] at he
    refine a7O hT hs c1 hb (a7a h2 ?_)
    have hb2:=Pl.step (s:=s) hb
    by_cases c2:q+wd s q < s.size
    ·rw [if_pos c2]
     exact hk _ _ ⟨rfl,q+wd s q,stepP b (rn s q),_,true,rfl,by omega,h2,hb2,by rw [if_pos c2];exact ⟨rfl,rfl⟩,he⟩ (by dsimp only;omega)
    ·rw [if_neg c2]
     exact hk _ _ ⟨rfl,q+wd s q,stepP b (rn s q),_,false,rfl,by omega,h2,hb2,by rw [if_neg c2],he⟩ (by dsimp only;omega)
   | false=>exact ⟨λx=>(by cases x),λ_=>fin true (λx=>by rw [hi] at x;cases x.2)⟩
  ·rw [if_neg c1] at hc
   subst hc
   rw [if_neg (by decide)]
   exact ⟨λx=>(by cases x),λ_=>fin false (λx=>c1 x.1)⟩
 refine a7a hp ?_
 by_cases c1:p < s.size
 ·rw [if_pos c1];exact start _ _ (by rw [if_pos c1];exact ⟨rfl,rfl⟩)
 ·rw [if_neg c1];exact start _ _ (by rw [if_neg c1])
theorem c4R{p:Nat}{a:Int×Int}{l:List d6}(hp:p<=s.size)(ha:Pl a p){K:i8->List d6->Hp->Prop}(h:∀b,Go2 s p a (sk s p) b->K (rd s (sk s p) b) l H):a1I (rd s p a) l H K:=by
 refine b4i _ _ (b0X hT hs hp ha ?_)
 have g1:=a9V (s:=s) blankS _ p a (Nat.le_refl _)
 refine P7 (λ(z:BA×Int×f8×(List d6)) H'=>H'=H/\∃(q:Nat)(b:Int×Int),z=(s,(q:Int),plv b,l)/\q<=s.size/\Go2 s p a q b/\sk s q=sk s p/\¬(q < s.size/\blankS (rn s q)=true)) (λz=>(s.size-z.2.1).toNat) ⟨rfl,(Wr s blankS p a).1,(Wr s blankS p a).2,rfl,g1.size hp,g1,(c1K _ p a (Nat.le_refl _)).symm,c6I _ _ _ _ (Nat.le_refl _)⟩ ?_
 rintro z H1 next ⟨rfl,q,b,rfl,hq,hg,he,hn⟩ hk
 have hb:=hg.pl ha
 have hz:=tail_size hq
 refine b7u hq (d3H ?_)
 have e1:decide ((⟨#[35]⟩:BA).size<=(s.extract q s.size).size/\(s.extract q s.size).extract 0 (⟨#[35]⟩:BA).size=⟨#[35]⟩)=decide (q < s.size/\by8 s q=35):=by
  refine decide_eq_decide.2 ?_
  rw [show (⟨#[35]⟩:BA).size=1 from rfl,hz]
  by_cases c:q < s.size
  ·have e2:(s.extract q s.size).extract 0 1=⟨#[s.get! q]⟩:=by
    apply ByteArray.ext
    apply Array.toList_inj.1
    rw [ByteArray.data_extract,Array.toList_extract,List.extract_eq_take_drop,ByteArray.data_extract,Array.toList_extract,List.extract_eq_take_drop,List.drop_zero,List.take_take,b2B c,Nat.min_eq_left (by omega)]
    rfl
   rw [e2]
   constructor
   ·rintro ⟨_,x⟩
    injection x with x
    have x:=congrArg Array.toList x
    injection x with x _
    exact ⟨c,by unfold by8;rw [x];rfl⟩
   ·rintro ⟨_,x⟩
    refine ⟨by omega,?_⟩
    have:s.get! q=35:=UInt8.toNat_inj.1 x
    rw [this]
  ·exact ⟨λx=>by omega,λx=>absurd x.1 c⟩
 rw [e1]
 by_cases c:q < s.size/\by8 s q=35
 ·rw [decide_eq_true c]
  refine ⟨λ_=>?_,λx=>(by cases x)⟩
  have hgt:=c2T c.1 c.2
  have g2:=a9V (s:=s) notNl _ q b (Nat.le_refl _)
  have e3:=d1f (s:=s) _ q b (Nat.le_refl _)
  refine b7v hT hs hq hb ?_
  rw [←e3] at g2 ⊢
  have hq2:=g2.size hq
  have g3:=a9V (s:=s) blankS _ (nl s q) (Wr s notNl q b).2 (Nat.le_refl _)
  refine b0X hT hs hq2 (g2.pl hb) ?_
  have hq3:=g3.size hq2
  have hle:=g3.le
  rw [c3Z c.1 c.2,c1K _ (nl s q) (Wr s notNl q b).2 (Nat.le_refl _)] at he
  exact hk _ _ ⟨rfl,_,_,rfl,hq3,(hg.trans g2).trans g3,he,c6I _ _ _ _ (Nat.le_refl _)⟩ (by dsimp only;omega)
 ·rw [decide_eq_false c]
  refine ⟨λx=>(by cases x),λ_=>?_⟩
  have:sk s q=q:=by
   refine a6Z ?_
   by_cases c2:q < s.size
   ·exact .inr ⟨λx=>c ⟨c2,x⟩,by
     cases hb2:blankS (rn s q) with
     | true=>exact absurd ⟨c2,hb2⟩ hn
     | false=>rfl⟩
   ·exact .inl c2
  rw [this] at he
  rw [←he] at h
  exact h b hg
end
section
variable {s:BA}
theorem e4u{is:Int->Bool}{p:Nat}(a b:Int×Int):(Wr s is p a).1=(Wr s is p b).1:=by
 have:∀(f q:Nat)(a b:Int×Int),(whl s is f q a).1=(whl s is f q b).1:=by
  intro f
  induction f with
  | zero=>intro q a b;rw [whl,whl]
  | succ f ih=>
   intro q a b
   rw [whl,whl]
   split
   ·exact ih _ _ _
   ·rfl
 exact this _ _ _ _
theorem a7P{p e:Nat}:(s.extract p e).data.toList=(s.data.toList.drop p).take (e-p):=by
 rw [ByteArray.data_extract,Array.toList_extract,List.extract_eq_take_drop]
theorem d5J{p:Nat}(h:classS (rn s p)=4):48<=by8 s p/\by8 s p<=57:=by
 have hd:=b6p.1 (show digitR (rn s p)=true by unfold digitR;rw [decide_eq_true h])
 have ha:=c2S (s:=s) (p:=p) (by omega)
 have hr:=(b0D ha).1
 omega
theorem e6G{p:Nat}(hp:p < s.size)(h:classS (rn s p)=4):p < (dg s p 0).1/\(dg s p 0).1<=s.size:=by
 rw [c0A hp (d5J h)]
 have:=d8c (s:=s) (p:=p+1) (v:=0*10+(by8 s p-48)) (by omega)
 omega
theorem e9w{p:Nat}(hp:p<=s.size)(x y:UInt8):((⟨#[x,y]⟩:BA).size<=(s.extract p s.size).size/\(s.extract p s.size).extract 0 (⟨#[x,y]⟩:BA).size=⟨#[x,y]⟩)↔(p+1 < s.size/\by8 s p=x.toNat/\by8 s (p+1)=y.toNat):=by
 rw [show (⟨#[x,y]⟩:BA).size=2 from rfl,tail_size hp]
 by_cases c:p+2<=s.size
 ·have e:(s.extract p s.size).extract 0 2=s.extract p (p+2):=by
   apply ByteArray.ext
   apply Array.toList_inj.1
   rw [a7P,a7P,a7P,List.drop_zero,List.take_take,Nat.min_eq_left (by omega),show p+2-p=2 by omega]
  rw [e,c6M c]
  exact ⟨λq=>⟨by omega,q.2⟩,λq=>⟨by omega,q.2⟩⟩
 ·exact ⟨λq=>by omega,λq=>by omega⟩
abbrev sg2:List BA:=[⟨#[61,61]⟩,⟨#[33,61]⟩,⟨#[60,61]⟩,⟨#[62,61]⟩,⟨#[38,38]⟩,⟨#[124,124]⟩]
def d5K:List (UInt8×UInt8):=[(61,61),(33,61),(60,61),(62,61),(38,38),(124,124)]
theorem e4v{i:Nat}(hi:i < 6):∃x y:UInt8,sg2.getD i ⟨#[]⟩=⟨#[x,y]⟩/\d5K[i]? = some (x,y):=by
 obtain rfl | rfl | rfl | rfl | rfl | rfl:=(by omega:i=0\/i=1\/i=2\/i=3\/i=4\/i=5)<;>exact ⟨_,_,rfl,rfl⟩
theorem c9R{p:Nat}:two s p↔∃(i:Nat)(x y:UInt8),d5K[i]? = some (x,y)/\p+1 < s.size/\by8 s p=x.toNat/\by8 s (p+1)=y.toNat:=by
 constructor
 ·rintro ⟨h0,h | h | h | h | h | h⟩
  ·exact ⟨0,_,_,rfl,h0,h⟩
  ·exact ⟨1,_,_,rfl,h0,h⟩
  ·exact ⟨2,_,_,rfl,h0,h⟩
  ·exact ⟨3,_,_,rfl,h0,h⟩
  ·exact ⟨4,_,_,rfl,h0,h⟩
  ·exact ⟨5,_,_,rfl,h0,h⟩
 ·rintro ⟨i,x,y,hi,h0,h1,h2⟩
  have hl:i < 6:=(List.getElem?_eq_some_iff.1 hi).1
  refine ⟨h0,?_⟩
  obtain rfl | rfl | rfl | rfl | rfl | rfl:=(by omega:i=0\/i=1\/i=2\/i=3\/i=4\/i=5)<;>cases hi
  ·exact .inl ⟨h1,h2⟩
  ·exact .inr (.inl ⟨h1,h2⟩)
  ·exact .inr (.inr (.inl ⟨h1,h2⟩))
  ·exact .inr (.inr (.inr (.inl ⟨h1,h2⟩)))
  ·exact .inr (.inr (.inr (.inr (.inl ⟨h1,h2⟩))))
  ·exact .inr (.inr (.inr (.inr (.inr ⟨h1,h2⟩))))
theorem e9x{p:Nat}(hp:p < s.size):(s.extract p s.size).extract 0 1=s.extract p (p+1)/\s.extract p (p+1)=⟨#[s.get! p]⟩:=by
 have e2:s.extract p (p+1)=⟨#[s.get! p]⟩:=by
  apply ByteArray.ext
  apply Array.toList_inj.1
  rw [a7P,b2B hp,show p+1-p=1 by omega]
  rfl
 refine ⟨?_,e2⟩
 apply ByteArray.ext
 apply Array.toList_inj.1
 rw [a7P,a7P,a7P,List.drop_zero,List.take_take,Nat.min_eq_left (by omega),show p+1-p=1 by omega]
end
def RdK(s:BA)(p:Nat)(a:Int×Int)(l:List d6)(o:On)(K:d6->Int->i8->List d6->Hp->Prop)(H:Hp):Prop:=
 (o.err=0->∀b,Go2 s p a o.stop b->K (tokO o) 0 (rd s o.stop b) l H)/\∀t r,o.err≠0->K t o.err r l H
section
variable {H:Hp}
theorem e4w(hE:ErrH H){t:BA}(ht:t.size<=big)(hn:t.data.toList≠[])(hd:∀c∈t.data.toList,isDig c){K:Int->Value->Hp->Prop}(h1:dval 0 t.data.toList < 9223372036854775808->K (dval 0 t.data.toList:Int) .nilIface H)
  (h2:¬dval 0 t.data.toList < 9223372036854775808->∀n v,(∃tp x,v=.iface tp x)->K n v H):b2X t 10 64 H K:=by
 intro w I
 have hi:=d1g hn hd
 simp only [big] at ht
 by_cases c:dval 0 t.data.toList < 9223372036854775808
 ·rw [if_pos c] at hi
  refine Calls.mono (Any.strconv_ParseInt_10_at64_ok Tryz.c6E t (by omega) _ hi w) λe w' hb=>?_
  obtain ⟨rfl,hw⟩:=hb
  have hb:Below w.heap.size w w':=by
   rcases hw with rfl | ⟨t,rfl⟩
   ·exact Below.refl _ _
   ·exact Lib.bytesWorld_below _ _ _
  exact ⟨H,[],I.of_below hb,_,_,rfl,rfl,h1 c⟩
 ·rw [if_neg c] at hi
  obtain ⟨tp,x,hv⟩:=hE
  refine Calls.mono (Any.strconv_ParseInt_10_at64_range Tryz.c6E t (by omega) hi (.iface tp x) w (hv w I.sub) (.inr ⟨tp,x,rfl⟩)) λe w' hb=>?_
  obtain ⟨N,rfl,_,_,hb⟩:=hb
  exact ⟨H,[],I.of_below hb,_,_,rfl,rfl,h2 c _ _ ⟨_,_,rfl⟩⟩
end
section
variable {H:Hp}{s:BA}(hT:TabsH H)(hs:s.size<=big)
include hT hs
theorem e6H{p:Nat}{a:Int×Int}{l:List d6}(hp:p<=s.size)(ha:Pl a p){K:d6->Int->i8->List d6->Hp->Prop}(h:RdK s p a l (wordO s p) K H):a9c (rd s p a) l H K:=by
 refine b5B _ _ ?_
 unfold a9q
 have g:=a9V (s:=s) goesS _ p a (Nat.le_refl _)
 have hz:=g.size hp
 have hc:=c8u (s:=s) (is:=goesS) (a:=a) hp
 obtain ⟨h1,h2⟩:=h
 unfold wordO at h1 h2
 rw [e4u (0,0) a] at h1 h2
 refine c6O hT hs hp ha (c9K ⟨λx=>?_,λx=>c9J (by have:=hs;simp only [big] at this ⊢;rw [b2C g.le hz];omega) ⟨λy=>?_,λy=>?_⟩⟩)
 ·rw [if_pos x] at h1
  exact h1 rfl _ g
 ·rw [if_neg (by rw [x];decide),if_pos (by have:=of_decide_eq_true y;omega)] at h2
  exact h2 _ _ (by decide)
 ·rw [if_neg (by rw [x];decide),if_neg (by have:=of_decide_eq_false y;omega)] at h1
  exact h1 rfl _ g
theorem e0v(hE:ErrH H){p:Nat}{a:Int×Int}{l:List d6}(hp:p < s.size)(hc:classS (rn s p)=4)(ha:Pl a p){K:d6->Int->i8->List d6->Hp->Prop}(h:RdK s p a l (numO s p) K H):a8a (rd s p a) l H K:=by
 refine b3Y _ _ ?_
 unfold a8l
 obtain ⟨d1,d2,d3,d4,d5⟩:=c0B (s:=s) _ p 0 a (Nat.le_refl _)
 obtain ⟨e1,e2⟩:=e6G hp hc
 have g:=a9V (s:=s) digitR _ p a (Nat.le_refl _)
 refine b7w hT hs (Nat.le_of_lt hp) ha ?_
 rw [d5] at g ⊢
 have hb:=g.pl ha
 generalize (Wr s digitR p a).2=b at g hb ⊢
 have hsz:(s.extract p (dg s p 0).1).size=(dg s p 0).1-p:=b2C d1 e2
 have hget:(s.extract p (dg s p 0).1).get! 0=s.get! p:=by have:=b7t (s:=s) (p:=p) (e:=(dg s p 0).1) (i:=0) e2 (by omega);rw [Nat.add_zero] at this;exact this
 have hs2:=hs
 simp only [big] at hs2
 have fin:∀(n:Int)(v:Value)(c:Int)(ok:Bool),okI v->isNilI v=decide ((dg s p 0).2 < 9223372036854775808)->((dg s p 0).2 < 9223372036854775808->n=((dg s p 0).2:Int))->(if (dg s p 0).1 < s.size then c=rn s (dg s p 0).1/\ok=true else ok=false)->
   okI v/\((!(!isNilI v)&&(decide (1 < ((s.extract p (dg s p 0).1).size:Int))))=true->(0:Int)<=0/\0 < ((s.extract p (dg s p 0).1).size:Int))/\
   TG ((!((!isNilI v)||((decide (1 < ((s.extract p (dg s p 0).1).size:Int)))&&(decide ((((s.extract p (dg s p 0).1).get! (0:Int).toNat).toNat:Int)=48))))&&ok)=true) (X8 c H) 0 H (λ(g:Int)(i:Hp)=>
   ((((!isNilI v)||((decide (1 < ((s.extract p (dg s p 0).1).size:Int)))&&(decide ((((s.extract p (dg s p 0).1).get! (0:Int).toNat).toNat:Int)=48))))||(ok&&(decide (g=3))))=true->
    K (d6.mk 2 (s.extract p (dg s p 0).1) 0 (f8.mk 0 0)) 21 (rd s (dg s p 0).1 b) l i)/\
   ((((!isNilI v)||((decide (1 < ((s.extract p (dg s p 0).1).size:Int)))&&(decide ((((s.extract p (dg s p 0).1).get! (0:Int).toNat).toNat:Int)=48))))||(ok&&(decide (g=3))))=false->
    K (d6.mk 2 (s.extract p (dg s p 0).1) n (f8.mk 0 0)) 0 (rd s (dg s p 0).1 b) l i)):=by
  intro n v c ok hv hnil hn hck
  refine ⟨hv,λ_=>⟨Int.le_refl _,by omega⟩,a2g (classS c) (λ_ K' hk=>b2A hk) ?_⟩
  rw [show (0:Int).toNat=0 from rfl,hget,hnil,hsz]
  obtain ⟨h1,h2⟩:=h
  unfold numO at h1 h2
  have bad:(9223372036854775808<=(dg s p 0).2\/(by8 s p=48/\1 < (dg s p 0).1-p)\/((dg s p 0).1 < s.size/\classS (rn s (dg s p 0).1)=3))->K (d6.mk 2 (s.extract p (dg s p 0).1) 0 (f8.mk 0 0)) 21 (rd s (dg s p 0).1 b) l H:=λq=>by
   rw [if_pos q] at h2
   exact h2 _ _ (by decide)
  have good:¬(9223372036854775808<=(dg s p 0).2\/(by8 s p=48/\1 < (dg s p 0).1-p)\/((dg s p 0).1 < s.size/\classS (rn s (dg s p 0).1)=3))->K (d6.mk 2 (s.extract p (dg s p 0).1) n (f8.mk 0 0)) 0 (rd s (dg s p 0).1 b) l H:=λq=>by
   rw [if_neg q] at h1
   rw [hn (by omega)]
   exact h1 rfl b g
  have hA:((!decide ((dg s p 0).2 < 9223372036854775808))||(decide (1 < (((dg s p 0).1-p:Nat):Int))&&decide (((s.get! p).toNat:Int)=48)))=decide (9223372036854775808<=(dg s p 0).2\/(by8 s p=48/\1 < (dg s p 0).1-p)):=by
   rw [Bool.eq_iff_iff]
   simp only [Bool.or_eq_true,Bool.and_eq_true,Bool.not_eq_true',decide_eq_true_eq,decide_eq_false_iff_not]
   unfold by8
   omega
  rw [hA]
  by_cases q:9223372036854775808<=(dg s p 0).2\/(by8 s p=48/\1 < (dg s p 0).1-p)
  ·rw [decide_eq_true q]
   refine ⟨λ_=>bad ?_,λx=>(by cases x)⟩
   rcases q with q | q
   ·exact .inl q
   ·exact .inr (.inl q)
  ·rw [decide_eq_false q]
   by_cases c2:(dg s p 0).1 < s.size
   ·rw [if_pos c2] at hck
    obtain ⟨rfl,rfl⟩:=hck
    rw [if_pos (show (!false&&true)=true from rfl)]
    refine ⟨λx=>bad (.inr (.inr ⟨c2,by simpa using x⟩)),λx=>good ?_⟩
    rintro (y | y | y)
    ·exact q (.inl y)
    ·exact q (.inr y)
    ·have:¬classS (rn s (dg s p 0).1)=3:=by simpa using x
     exact this y.2
   ·rw [if_neg c2] at hck
    subst hck
    refine ⟨λx=>(by cases x),λ_=>good ?_⟩
    rintro (y | y | y)
    ·exact q (.inl y)
    ·exact q (.inr y)
    ·exact c2 y.1
 have ht:(s.extract p (dg s p 0).1).data.toList=(s.data.toList.drop p).take ((dg s p 0).1-p):=a7P
 have hv:dval 0 (s.extract p (dg s p 0).1).data.toList=(dg s p 0).2:=by rw [ht];exact d3.symm
 refine e4w hE (by rw [hsz];simp only [big];omega) ?_ (by rw [ht];exact d4) (λc=>a7a e2 ?_) (λc n v hv2=>a7a e2 ?_)
 ·intro x
  have:=congrArg List.length x
  rw [Array.length_toList] at this
  have h3:(s.extract p (dg s p 0).1).data.size=(s.extract p (dg s p 0).1).size:=rfl
  rw [h3,hsz] at this
  simp only [List.length_nil] at this
  omega
 ·rw [hv] at c
  by_cases c2:(dg s p 0).1 < s.size
  ·rw [if_pos c2]
   exact fin _ .nilIface _ _ (.inl rfl) (by rw [decide_eq_true c];rfl) (λ_=>by rw [hv]) (by rw [if_pos c2];exact ⟨rfl,rfl⟩)
  ·rw [if_neg c2]
   exact fin _ .nilIface _ _ (.inl rfl) (by rw [decide_eq_true c];rfl) (λ_=>by rw [hv]) (by rw [if_neg c2])
 ·rw [hv] at c
  obtain ⟨tp,x,rfl⟩:=hv2
  by_cases c2:(dg s p 0).1 < s.size
  ·rw [if_pos c2]
   exact fin _ (.iface tp x) _ _ (.inr ⟨_,_,rfl⟩) (by rw [decide_eq_false c];rfl) (λy=>absurd y c) (by rw [if_pos c2];exact ⟨rfl,rfl⟩)
  ·rw [if_neg c2]
   exact fin _ (.iface tp x) _ _ (.inr ⟨_,_,rfl⟩) (by rw [decide_eq_false c];rfl) (λy=>absurd y c) (by rw [if_neg c2])
theorem e6I{p:Nat}{a:Int×Int}{l:List d6}(hp:p < s.size)(hc:classS (rn s p)=5)(ha:Pl a p){K:d6->Int->i8->List d6->Hp->Prop}(h:RdK s p a l (signO s p) K H):a9d (rd s p a) l H K:=by
 refine b5C _ _ ?_
 unfold a9r
 have hasc:=c4Q hc
 have hw:=(b0D hasc).2
 obtain ⟨h1,h2⟩:=h
 unfold signO at h1 h2
 have g1:=Go2.one (s:=s) (a:=a) hp
 rw [hw] at g1
 refine P7 (λ(z:Int×d6×BA×Int×f8×(List d6)) H'=>H'=H/\∃(i:Nat)(t:d6),z=((i:Int),t,s,(p:Int),plv a,l)/\i<=6/\∀(j:Nat)(x y:UInt8),j < i->d5K[j]? = some (x,y)->¬(p+1 < s.size/\by8 s p=x.toNat/\by8 s (p+1)=y.toNat)) (λz=>(6-z.1).toNat) ⟨rfl,0,_,rfl,by omega,λj x y hj=>by omega⟩ ?_
 rintro z H1 next ⟨rfl,i,t,rfl,hi,hne⟩ hk
 unfold a4h
 refine ⟨λc=>⟨by omega,c,b7u (Nat.le_of_lt hp) (d3H ?_)⟩,λc=>?_⟩
 ·obtain ⟨x,y,e1,e2⟩:=e4v (i:=i) (by omega)
  rw [Int.toNat_natCast]
  rw [show (([⟨#[61,61]⟩,⟨#[33,61]⟩,⟨#[60,61]⟩,⟨#[62,61]⟩,⟨#[38,38]⟩,⟨#[124,124]⟩]:List BA).getD i ⟨#[]⟩)=⟨#[x,y]⟩ from e1,decide_eq_decide.2 (e9w (Nat.le_of_lt hp) x y)]
  by_cases q:p+1 < s.size/\by8 s p=x.toNat/\by8 s (p+1)=y.toNat
  ·rw [decide_eq_true q]
   refine ⟨λ_=>?_,λx=>(by cases x)⟩
   have ht:two s p:=c9R.2 ⟨i,x,y,e2,q⟩
   rw [if_pos ht] at h1
   have hasc2:by8 s (p+1) < 128:=by unfold two at ht;omega
   have hw2:=(b0D hasc2).2
   have g2:=Go2.one (s:=s) (a:=stepP a (rn s p)) q.1
   rw [hw2] at g2
   refine a7O hT hs hp ha ?_
   rw [hw]
   refine a7O hT hs q.1 (g1.pl ha) ?_
   rw [hw2]
   have:=h1 rfl _ (g1.trans g2)
   rw [show s.extract p (p+2)=⟨#[x,y]⟩ from (c6M (by omega) x y).2 q.2] at this
   exact this
  ·rw [decide_eq_false q]
   refine ⟨λx=>(by cases x),λ_=>?_⟩
   rw [S3 ⟨by omega,by omega⟩]
   refine hk _ _ ⟨rfl,i+1,t,rfl,by omega,λj x' y' hj he=>?_⟩ (by dsimp only;omega)
   by_cases hji:j=i
   ·subst hji
    rw [e2] at he
    cases he
    exact q
   ·exact hne j x' y' (by omega) he
 ·have hn2:¬two s p:=λq=>by
   obtain ⟨j,x,y,e,q⟩:=c9R.1 q
   have hl:j < 6:=(List.getElem?_eq_some_iff.1 e).1
   exact hne j x y (by omega) e q
  rw [if_neg hn2] at h1 h2
  unfold a4g
  refine b7u (s:=s) (p:=p) (a:=a) (Nat.le_of_lt hp) ⟨by decide,by rw [tail_size (Nat.le_of_lt hp)];omega,a7O hT hs hp ha ?_⟩
  rw [hw]
  obtain ⟨c1,c2⟩:=e9x hp
  have one:∀x:UInt8,decide ((s.extract p s.size).extract 0 (1:Int).toNat=⟨#[x]⟩)=decide (by8 s p=x.toNat):=λx=>by
   refine decide_eq_decide.2 ?_
   rw [show (1:Int).toNat=1 from rfl,c1,c2]
   unfold by8
   constructor
   ·intro e
    injection e with e
    have e:=congrArg Array.toList e
    injection e with e _
    rw [e]
   ·intro e;rw [UInt8.toNat_inj.1 e]
  rw [one,one,← Bool.decide_or,show (38:UInt8).toNat=38 from rfl,show (124:UInt8).toNat=124 from rfl]
  by_cases q:by8 s p=38\/by8 s p=124
  ·rw [decide_eq_true q]
   rw [if_pos q] at h2
   exact ⟨λ_=>h2 _ _ (by decide),λx=>(by cases x)⟩
  ·rw [decide_eq_false q]
   rw [if_neg q] at h1
   refine ⟨λx=>(by cases x),λ_=>?_⟩
   rw [show (1:Int).toNat=1 from rfl,c1]
   exact h1 rfl _ g1
end
section
variable {H:Hp}{s:BA}(hT:TabsH H)
include hT
theorem e4x{K:Int->Int->Hp->Prop}(h:if 65536 < s.size then K 0 10 H else match chkAt s 0 with | some n=>K (n:Int) 11 H | none=>K 0 0 H):b1X s H K:=by
 refine b9d _ ⟨λc=>?_,λc=>?_⟩
 ·rw [if_pos (by omega)] at h;exact h
 rw [if_neg (by omega)] at h
 refine P7 (λ(p:Nat) H'=>H'=H/\chkAt s p=chkAt s 0) (λp=>s.size-p) ⟨rfl,rfl⟩ ?_
 rintro p H1 next ⟨rfl,he⟩ hk
 refine ⟨λc=>?_,λc=>?_⟩
 ·rw [a9U s p c] at he
  have h1:=W6 s p
  have h2:=b0E c
  refine ⟨λe=>?_,λe=>⟨by omega,by omega,?_⟩⟩
  ·rw [if_neg (λx=>e (by rw [x.1];rfl))] at he
   exact hk _ _ ⟨rfl,he⟩ (by show s.size-(p+wd s p) < _;omega)
  ·rw [Int.toNat_natCast]
   refine d3E hT c ⟨λx=>?_,λx=>?_⟩
   ·rw [if_pos (show bad s p by unfold bad;unfold wd at x;constructor<;>omega)] at he
    rw [←he] at h
    exact h
   ·rw [if_neg (λy=>x (by have:=y.2;unfold wd;omega))] at he
    exact hk _ _ ⟨rfl,he⟩ (by show s.size-(p+wd s p) < _;omega)
 ·rw [a7o s p (by omega)] at he
  rw [←he] at h
  exact h
end
end
section
def FW(ro:Option Nat):Fence:={ Fence.wide with round:=ro }
section
variable {P:Program}{ro:Option Nat}{ops:Array Oper}{Q:Exit->Act->World->Prop}{o:Oper}{r:List Oper}{a:Act}{w:World}
theorem wi(s:Sem Next)(h:opK P noPan s w λv w'=>wpListIn (FW ro) 0 P ops Q r (a.put o.dst v) w')(hnd:∀c,o.op≠.defer c:=by intro c h;cases h)(hg:o.guard=none:=by rfl)(hs:execOp a.eval o=s:=by kernel_rfl):wpListIn (FW ro) 0 P ops Q (o::r) a w:=by
 refine wpListIn_plain hg λK' hK'=>⟨λ_ _=>trivial,?_⟩
 rw [Oper.semAt_eq _ _ _ hnd,hs]
 unfold opK at h
 generalize s.run P w=x at h
 cases x with
 | halt x w'=>cases x<;>exact h.elim
 | ok n w'=>
  cases n<;>simp only at h<;>simp only [Oper.uponIn]
  case value v=>exact hK' _ _ h
  case skip=>exact hK' _ _ h
  case enter f args=>
   refine ⟨(λhd=>by cases hd),?_⟩
   exact CallsIn.mono (F:=FW ro) (show CallsIn Fence.wide 0 P f args w' _ from callsIn_wide.2 h) λe w'' q=>by
    cases e with
    | returned v=>exact hK' _ _ q
    | panicked c=>exact q.elim
    | outgrown=>exact q.elim
theorem wiR{s:Sem Next}{l:Nat}{f:FuncId}{tm:Array Value}{cA bd:Code}(hnd:∀c,o.op≠.defer c)(hg:o.guard=none)(hs:execOp a.eval o=s)(he:s.run P w=.ok (.round l f tm cA bd) w)(h:RoundIn Fence.wide 0 P l f tm cA bd w λe w'=>∃v,e=.returned v/\wpListIn (FW ro) 0 P ops Q r (a.put o.dst v) w'):wpListIn (FW ro) 0 P ops Q (o::r) a w:=by
 refine wpListIn_plain hg λK' hK'=>⟨λ_ _=>trivial,?_⟩
 rw [Oper.semAt_eq _ _ _ hnd,hs,he]
 simp only [Oper.uponIn]
 refine ⟨(λhd=>by cases hd),?_⟩
 exact RoundIn.mono (F:=FW ro) h λe w'' ⟨v,he,hk⟩=>by subst he;exact hK' _ _ hk
theorem e9y{fn:Func}{t:TypeId}{k:Nat}{tmps:Array Value}{v p:Value}(hres:fn.results.toList=[.cell k t])(hk:tmps.getD k undef=p)(hx:xcell P t p w λx=>v=x):(results fn tmps).run P w=.ok v w:=by
 subst hk
 obtain ⟨_,v',h1,h2⟩:=b4r (P:=P) (N:=tmps.size) (fn:=fn) (R:=λu _=>v=u) (E:=noPan) (e:=.ret) (σ:=λi=>tmps.getD i undef) (a:={ tmps:=tmps,defers:=[] }) (w:=w) ⟨rfl,rfl,λ_=>rfl⟩ (by rw [hres];exact hx)
 rw [h1,show v=v' from h2]
theorem e4y{g:Operand}{ps:Array Tmp}{cA bd:Code}{gf:FuncId}{lb:Array Value}(hg:a.eval g=.func (.func gf) #[] lb)(hcall:∀args w,(callFunc gf args).run P w=.ok (.enter gf args) w)
  (h:∀(fn:FuncId)(x:Loop),x = { state:=.ready,pending:=none,fn:=fn,tmps:=a.tmps,params:=ps,assign:=cA,body:=bd,defers:=w.heap.size }->CallsIn (FW none) 0 P gf (#[.func (.yield (w.heap.size+1)) #[] #[]]++lb) ((w.alloc (.deferred (some []))).alloc (.loop x))
   (rangePost (FW none) 0 P (w.heap.size+1) Q { a with defers:=[{ target:=.collected w.heap.size,args:=#[] }]++a.defers })):(Code.rangeFunc g ps cA bd).wpIn (FW none) 0 P Q a w:=by
 refine wpIn_rangeFunc (F:=FW none) λfn _=>⟨w.heap.size+1,[{ target:=.collected w.heap.size,args:=#[] }],(w.alloc (.deferred (some []))).alloc (.loop { state:=.ready,pending:=none,fn:=fn,tmps:=a.tmps,params:=ps,assign:=cA,body:=bd,defers:=w.heap.size }),{ target:=.fn (.func gf) lb,args:=#[.func (.yield (w.heap.size+1)) #[] #[]] },(w.alloc (.deferred (some []))).alloc (.loop { state:=.ready,pending:=none,fn:=fn,tmps:=a.tmps,params:=ps,assign:=cA,body:=bd,defers:=w.heap.size }),gf,#[.func (.yield (w.heap.size+1)) #[] #[]]++lb,(w.alloc (.deferred (some []))).alloc (.loop { state:=.ready,pending:=none,fn:=fn,tmps:=a.tmps,params:=ps,assign:=cA,body:=bd,defers:=w.heap.size }),run_enterLoop_outer fn a.tmps ps cA bd,?_,λ_ _=>trivial,?_,(λhd=>by cases hd),?_⟩
 ·simp only [resolve,hg,Deferred.ofValue,Sem.run_pure,Array.empty_append]
  rw [show Array.map a.eval #[Operand.const (Value.func (.yield (w.heap.size+1)) #[] #[])]=#[Value.func (.yield (w.heap.size+1)) #[] #[]] from by simp [Act.eval]]
 ·simp only [invoke,hcall]
 ·exact h fn _ rfl
end
theorem c6P{H:Hp}:b1Y H λr H'=>r=⟨1,1⟩/\H=H':=b9b ⟨rfl,rfl⟩
theorem e0w{H:Hp}{c:Int×Int}{p:Nat}{r:Int}(hc:Pl c p)(hp:p<=4194304):b2Z (plv c) r H λx H'=>x=plv (stepP c r)/\H=H':=by
 refine b9z _ _ ?_
 unfold b3k
 obtain ⟨h1,h2,h3,h4⟩:=hc
 unfold stepP plv
 refine ⟨λe=>?_,λe=>?_⟩
 ·rw [if_pos e,show IntKind.wrap .i64 (c.1+1)=c.1+1 by rw [IntKind.wrap_i64];omega];exact ⟨rfl,rfl⟩
 ·rw [if_neg e,show IntKind.wrap .i64 (c.2+1)=c.2+1 by rw [IntKind.wrap_i64];omega];exact ⟨rfl,rfl⟩
abbrev CF(D l gp gr gn gs:Nat)(s:BA)(n:Nat)(x:Loop)(c:Int×Int):List Frag:=[[(D,.deferred (some []))],[(l,.loop x)],bx gs 9 [.string s],bx gp 47 (p9 (plv c)),bx gr 47 [vi 0,vi 0],bx gn 3 [vi n]]
abbrev aP(g:Nat):Value:=.pointer (some ⟨g,0,none⟩)
abbrev rounT(x:Loop)(i:Int)(c:Int×Int):Array Value:=(x.params.zip #[vi i,.agg (p9 (plv c)).toArray]).foldl (λt (p,v)=>t.setIfInBounds p v) x.tmps
section
variable {w0 w:World}{ps0:Nat->Prop}{H0 H:Hp}{s:BA}{n D l gp gr gn gs:Nat}{b:Int×Int}{x x':Loop}
theorem Inv.swap{A B:List Frag}(I:Inv w0 ps0 H0 H (A++B) w):Inv w0 ps0 H0 H (B++A) w:=I.perm (by simp only [List.flatten_append];exact List.perm_append_comm)
theorem b2P{P:Program}(v:Value):Pu P (pure (.value v)) v:=λ_=>rfl
theorem l21{t:List Value}(h:t.length=21):∃a b c d e f g h i j k l m n o p q r s u v,t=[a,b,c,d,e,f,g,h,i,j,k,l,m,n,o,p,q,r,s,u,v]:=
 match t,h with
 | [a,b,c,d,e,f,g,h,i,j,k,l,m,n,o,p,q,r,s,u,v],_=>⟨a,b,c,d,e,f,g,h,i,j,k,l,m,n,o,p,q,r,s,u,v,rfl⟩
theorem d5L(hx:x.params.size=2)(hs:s.size<=4194304)(hg:Go2 s 0 (1,1) n b)
  (hr:∀(p:Nat)(c d:Int×Int)(Fs:List Frag)(W:World),Inv w0 ps0 H0 H (CF D l gp gr gn gs s n x c++Fs) W->RoundIn Fence.wide 0 Tryz.prog l x.fn (rounT x p d) x.assign x.body W λe W'=>
   (p < n/\e=.returned (.bool true)/\Inv w0 ps0 H0 H (CF D l gp gr gn gs s n x d++Fs) W')\/(n<=p/\e=.returned (.bool false)/\Inv w0 ps0 H0 H (CF D l gp gr gn gs s n x' c++Fs) W'))
  (I:Inv w0 ps0 H0 H (CF D l gp gr gn gs s n x (1,1)) w):
  CallsIn (FW none) 0 Tryz.prog 160 #[.func (.yield l) #[] #[],aP gs] w λe W=>(∃v,e=.returned v)/\∃y,(y=x\/y=x')/\Inv w0 ps0 H0 H (CF D l gp gr gn gs s n y b) W:=by
 refine callsIn_of_wp func160 rfl trivial ?_
 apply wpIn_seq
 apply wpIn_region_list
 refine wi (xCall (.func (.func 124) #[] #[]) []) (f7 call124 c6P (Fi:=[]) I ?_)
 rintro _ _ _ w1 I1 _ _ ⟨_,rfl,rfl,rfl,rfl⟩
 refine wi (xV (Instr.alloc 47 true (.tuple #[]))) (r8 I1 zeroValue47 rfl λgq w2 I2 _=>?_)
 refine wi (xU (Instr.storeAt 47 (aP gq) (.agg (p9 ⟨1,1⟩).toArray))) (v8 I2 sizeOf47 (vs:=p9 ⟨1,1⟩) λw3 I3 _=>?_)
 apply wpIn_seq
 apply wpIn_region_list
 refine wi (xV (Instr.loadAt 9 (aP gs))) (d7 (l1 isAgg9 (I3.bring 3) rfl) ?_)
 refine wi (xV (Instr.range 9 (.string s))) (b6N underlying9 s I3 λgi w4 I4 _=>?_)
 apply wpIn_block
 refine wpIn_loop (λa w=>a.defers=[]/\a.tmps.size=21/\a.tmps.getD 0 undef=.func (.yield l) #[] #[]/\a.tmps.getD 3 undef=aP gq/\a.tmps.getD 8 undef=aP gi/\∃(p:Nat)(c:Int×Int),Pl c p/\p<=s.size/\Go2 s p c n b/\Inv w0 ps0 H0 H (itf gi s p::bx gq 47 (p9 (plv c))::CF D l gp gr gn gs s n x c) w)
  (λ_ w=>match w.heap[gi]? with | some (.stringIter _ p)=>s.size-p | _=>0) ⟨rfl,by kernel_rfl,by kernel_rfl,by kernel_rfl,by kernel_rfl,0,(1,1),Pl0,Nat.zero_le _,hg,I4⟩ ?_
 rintro ⟨⟨t⟩,ds⟩ w5 ⟨hd,hz,h0,h3,h8,p,c,hpl,hps,hgo,I5⟩
 subst hd
 obtain ⟨y0,y1,y2,y3,y4,y5,y6,y7,y8,y9,y10,y11,y12,y13,y14,y15,y16,y17,y18,y19,y20,rfl⟩:=l21 hz
 have h0:y0=.func (.yield l) #[] #[]:=h0
 have h3:y3=aP gq:=h3
 have h8:y8=aP gi:=h8
 subst h0 h3 h8
 have hm:(match w5.heap[gi]? with | some (.stringIter _ p)=>s.size-p | _=>0)=s.size-p:=by rw [I5.hp1]
 rw [hm]
 apply wpIn_seq
 apply wpIn_region_list
 refine wi (xV (Instr.next (aP gi) true 0)) (b9m I5 (λhp w6 I6 _=>?_) λhp=>?_)
 rotate_left
 ·refine wi (xV (Instr.extract (.tuple #[.bool false]) 0)) (c7 (m7 _ _ (.bool false) rfl) ?_)
  apply wpIn_seq
  refine wpIn_cond (t:=false) (by kernel_rfl) (wpIn_exit ?_)
  simp only [Exit.then,Exit.inBlock,if_true]
  refine bodyPost_end (results_none rfl _ _ _) rfl ⟨⟨_,rfl⟩,x,.inl rfl,?_⟩
  cases hgo with
  | refl=>exact I5.drop.drop
  | step h _=>exact absurd h hp
 refine wi (xV (Instr.extract (.tuple #[.bool true,.int .i64 (p:Int),.int .i32 ((Utf8.decode s p).1:Int)]) 0)) (c7 (m7 _ _ (.bool true) rfl) ?_)
 apply wpIn_seq
 refine wpIn_cond (t:=true) (by kernel_rfl) (wpIn_skip ?_)
 apply wpIn_block
 apply wpIn_seq
 apply wpIn_region_list
 refine wi (xV (Instr.extract (.tuple #[.bool true,.int .i64 (p:Int),.int .i32 ((Utf8.decode s p).1:Int)]) 1)) (c7 (m7 _ _ (vi p) rfl) ?_)
 refine wi (xV (Instr.extract (.tuple #[.bool true,.int .i64 (p:Int),.int .i32 ((Utf8.decode s p).1:Int)]) 2)) (c7 (m7 _ _ (.int .i32 ((Utf8.decode s p).1:Int)) rfl) ?_)
 refine wi (pure (.value (vi p))) (c7 (b2P _) ?_)
 refine wi (pure (.value (.int .i32 ((Utf8.decode s p).1:Int)))) (c7 (b2P _) ?_)
 apply wpIn_seq
 apply wpIn_region_list
 refine wi (xV (Instr.loadAt 47 (aP gq))) (d7 (lW isAgg47 sizeOf47 rfl (I6.bring 1)) ?_)
 refine wi (pure (.value (.int .i32 ((Utf8.decode s p).1:Int)))) (c7 (b2P _) ?_)
 refine wi (xCall (.func (.func 161) #[] #[]) [.agg (p9 (plv c)).toArray,.int .i32 ((Utf8.decode s p).1:Int)]) (f7 call161 (e0w hpl (by omega)) (Fi:=[]) I6 ?_)
 rintro _ _ _ w7 I7 _ _ ⟨_,rfl,rfl,rfl,rfl⟩
 refine wi (xU (Instr.storeAt 47 (aP gq) (.agg (p9 (plv (stepP c ((Utf8.decode s p).1:Int)))).toArray))) (v8 (I7.bring 1) sizeOf47 (vs:=p9 (plv (stepP c ((Utf8.decode s p).1:Int)))) λw8 I8 _=>?_)
 apply wpIn_seq
 apply wpIn_region_list
 refine wi (pure (.value (.func (.yield l) #[] #[]))) (c7 (b2P _) ?_)
 refine wi (pure (.value (vi p))) (c7 (b2P _) ?_)
 refine wi (xV (Instr.loadAt 47 (aP gq))) (d7 (lW isAgg47 sizeOf47 rfl I8) ?_)
 have hl:w8.heap[l]? = some (.loop x):=(I8.bring 3).hp1
 refine wiR (s:=xCall (.func (.yield l) #[] #[]) [vi p,.agg (p9 (plv (stepP c ((Utf8.decode s p).1:Int)))).toArray]) (l:=l) (f:=x.fn) (tm:=rounT x p (stepP c ((Utf8.decode s p).1:Int))) (cA:=x.assign) (bd:=x.body) (λc h=>by cases h) rfl (by kernel_rfl) ?_ ?_
 ·simp only [xCall,Deferred.ofValue,invoke,Sem.run_bind,Sem.run_pure,Result.andThen_ok,Array.empty_append]
  exact run_yield hl hx.symm
 refine RoundIn.mono (hr p c _ _ w8 (Inv.swap (A:=[bx gq 47 (p9 (plv (stepP c ((Utf8.decode s p).1:Int)))),itf gi s (p+(Utf8.decode s p).2)]) I8)) ?_
 rintro e w9 (⟨hpn,rfl,I9⟩ | ⟨hpn,rfl,I9⟩)
 ·refine ⟨_,rfl,?_⟩
  refine wi (xV (Op.unary .not (.bool true))) (c7 (R5 _) ?_)
  refine wpIn_cond (t:=false) (by kernel_rfl) (wpIn_skip ?_)
  have I10:=(Inv.swap I9).bring 1
  have hgo2:Pl (stepP c (rn s p)) (p+wd s p)/\p+wd s p<=s.size/\Go2 s (p+wd s p) (stepP c (rn s p)) n b:=by
   cases hgo with
   | refl=>exact absurd hpn (Nat.lt_irrefl _)
   | step h k=>exact ⟨(Go2.one h).pl hpl,d3s s p h,k⟩
  refine ⟨⟨rfl,by kernel_rfl,by kernel_rfl,by kernel_rfl,by kernel_rfl,_,_,hgo2.1,hgo2.2.1,hgo2.2.2,I10⟩,?_⟩
  have h1:w9.heap[gi]? = some (.stringIter s (p+(Utf8.decode s p).2)):=I10.hp1
  rw [h1]
  have:=W6 s p
  show s.size-(p+wd s p) < s.size-p
  omega
 ·refine ⟨_,rfl,?_⟩
  refine wi (xV (Op.unary .not (.bool false))) (c7 (R5 _) ?_)
  refine wpIn_cond (t:=true) (by kernel_rfl) (wpIn_ret ?_)
  simp only [Exit.then,Exit.inBlock]
  refine bodyPost_ret (results_none rfl _ _ _) rfl ⟨⟨_,rfl⟩,x',.inr rfl,?_⟩
  have:=hgo.le
  obtain rfl:p=n:=by omega
  rw [hgo.fn .refl]
  exact (Inv.swap I9).drop.drop
end
section
variable {H:Hp}{s:BA}{n:Nat}{b:Int×Int}
theorem d5M:Ct Tryz.prog 125 [.string s] H [] (λv H' Fo=>∃g,v=.func (.func 160) #[] #[aP g]/\Fo=[bx g 9 [.string s]]/\H=H') noQE:=by
 refine Ct.of λw0 w ps0 H0 R E I hR=>(callsIn_wide (n:=0)).1 (show CallsIn (FW none) 0 _ _ _ _ _ from callsIn_of_wp func125 rfl trivial ?_)
 apply wpIn_seq
 apply wpIn_region_list
 refine wi (xV (Instr.box 9 (.string s))) (D3 I rfl λg w1 I1 _=>?_)
 refine wi (pure (.value .nilFunc)) (c7 (b2P _) ?_)
 apply wpIn_seq
 apply wpIn_region_list
 refine wi (xV (Instr.makeFunc (.func 160) #[] #[aP g])) (c7 (Q7 _ _ _) ?_)
 refine wi (pure (.value (.func (.func 160) #[] #[aP g]))) (c7 (b2P _) ?_)
 refine wpIn_ret (bodyPost_ret (results_tmp rfl _ _ _) rfl (hR _ H _ _ I1 ⟨g,by kernel_rfl,rfl,rfl⟩))
theorem d8d(hs:s.size<=4194304)(hg:Go2 s 0 (1,1) n b){K:KT f8}(h:K (plv b) H):b5g s n H K:=by
 refine Ct.of λw0 w ps0 H0 R E I hR=>(callsIn_wide (n:=0)).1 (show CallsIn (FW none) 0 _ _ _ _ _ from callsIn_of_wp_marks func89 rfl trivial ?_)
 apply wpIn_seq
 apply wpIn_region_list
 refine wi (xV (Instr.box 3 (vi n))) (D3 I rfl λgn w1 I1 _=>?_)
 refine wi (xV (Instr.alloc 47 true (.tuple #[]))) (r8 I1 zeroValue47 rfl λgr w2 I2 _=>?_)
 apply wpIn_seq
 apply wpIn_region_list
 refine wi (xCall (.func (.func 124) #[] #[]) []) (f7 call124 c6P (Fi:=[]) I2 ?_)
 rintro _ _ _ w3 I3 _ _ ⟨_,rfl,rfl,rfl,rfl⟩
 refine wi (xV (Instr.alloc 47 true (.tuple #[]))) (r8 I3 zeroValue47 rfl λgp w4 I4 _=>?_)
 refine wi (xU (Instr.storeAt 47 (aP gp) (.agg (p9 ⟨1,1⟩).toArray))) (v8 I4 sizeOf47 (vs:=p9 ⟨1,1⟩) λw5 I5 _=>?_)
 apply wpIn_seq
 apply wpIn_seq
 apply wpIn_region_list
 refine wi (pure (.value (.string s))) (c7 (b2P _) ?_)
 refine wi (xCall (.func (.func 125) #[] #[]) [.string s]) (f7 call125 d5M (Fi:=[]) I5 ?_)
 rintro _ _ _ w6 I6 _ _ ⟨gs,rfl,rfl,rfl⟩
 apply wpIn_block
 refine e4y (gf:=160) (lb:=#[aP gs]) (by kernel_rfl) call160 λfn x hx=>?_
 have I7:=((I6.alloc (.deferred (some []))).alloc (.loop x)).bring 1
 rw [show (w6.alloc (.deferred (some []))).heap.size=w6.heap.size+1 from World.size_alloc ..] at I7
 obtain ⟨x',hx'⟩:∃x',x'=({ x with state:=.done,pending:=some (.exit 0) }:Loop):=⟨_,rfl⟩
 refine CallsIn.mono (F:=FW none) (d5L (x':=x') (by rw [hx];rfl) hs hg ?_ I7) ?_
 ·intro p c d Fs W J1
  rw [congrArg (rounT · p d) hx,congrArg Loop.assign hx,congrArg Loop.body hx]
  have ex:({ x with state:=.ready,pending:=none }:Loop)=x:=by rw [hx]
  have hst:x.state=.ready:=by rw [hx]
  clear hx
  refine roundIn_of_wpIn trivial ?_
  apply wpIn_seq
  apply wpIn_region_list
  refine wi (ro:=some (w6.heap.size+1)) (pure (.value (vi p))) (c7 (b2P _) ?_)
  apply wpIn_region_list
  refine wi (ro:=some (w6.heap.size+1)) (xV (Instr.alloc 47 true (.tuple #[]))) (r8 J1 zeroValue47 rfl λgb W2 J2 _=>?_)
  refine wi (ro:=some (w6.heap.size+1)) (xU (Instr.storeAt 47 (aP gb) (.agg (p9 (plv d)).toArray))) (v8 J2 sizeOf47 (vs:=p9 (plv d)) λW3 J3 _=>?_)
  refine ⟨_,run_beginRound (J3.bring 2).hp1 hst,?_⟩
  have J4:Inv w0 ps0 H0 H _ (World.putObj W3 (w6.heap.size+1) (.loop { x with state:=.busy })):=(J3.bring 2).setObj (o':=.loop { x with state:=.busy })
  generalize World.putObj W3 (w6.heap.size+1) (.loop { x with state:=.busy })=W4 at J4
  apply wpIn_block
  apply wpIn_seq
  apply wpIn_seq
  apply wpIn_region_list
  refine wi (ro:=some (w6.heap.size+1)) (pure (.value (vi p))) (c7 (b2P _) ?_)
  refine wi (ro:=some (w6.heap.size+1)) (xV (Instr.loadAt 3 (aP gn))) (d7 (l1 isAgg3 (J4.bring 6) rfl) ?_)
  refine wi (ro:=some (w6.heap.size+1)) (xBin .geq 3 (.tmp 13) (.tmp 14) (vi p) (vi n)) (c7 (a5V _ _ _ _ _ _) ?_)
  refine wpIn_cond (t:=decide ((n:Int)<=(p:Int))) (by kernel_rfl) ?_
  by_cases hge:(n:Int)<=(p:Int)
  ·rw [decide_eq_true hge,if_pos rfl]
   refine wpIn_exit ?_
   simp only [Exit.then,Exit.inBlock]
   rw [if_neg (by decide)]
   subst hx'
   have J6:=((J4.setObj (o':=.loop { x with state:=.done,pending:=some (.exit 0) }) |>.bring 1).drop).bring 1
   exact ⟨_,_,run_endRound (some (.exit 0)) J4.hp1,Or.inr ⟨by omega,rfl,J6⟩⟩
  ·rw [decide_eq_false hge,if_neg (by decide)]
   refine wpIn_skip ?_
   apply wpIn_region_list
   refine wi (ro:=some (w6.heap.size+1)) (xV (Instr.loadAt 47 (aP gb))) (d7 (lW isAgg47 sizeOf47 rfl (J4.bring 1)) ?_)
   refine wi (ro:=some (w6.heap.size+1)) (xU (Instr.storeAt 47 (aP gp) (.agg (p9 (plv d)).toArray))) (v8 (J4.bring 4) sizeOf47 (vs:=p9 (plv d)) λW5 J5 _=>?_)
   have J6:=((((((J5.bring 1).setObj (o':=.loop { x with state:=.ready,pending:=none }) |>.bring 2).drop).bring 1).bring 3).bring 2).bring 3
   refine ⟨_,_,run_endRound none (J5.bring 1).hp1,Or.inl ⟨by omega,rfl,?_⟩⟩
   show Inv w0 ps0 H0 H _ (setObjAt W5 (w6.heap.size+1) (.loop { x with state:=.ready,pending:=none }))
   rw [ex] at J6 ⊢
   exact J6
 ·subst hx' hx
  rintro e W ⟨⟨v,rfl⟩,y,hy,I8⟩
  have hl:=(I8.bring 1).hp1
  have I9:=λo'=>(I8.bring 1).setObj (o':=o')
  rcases hy with rfl | rfl<;>first | refine ⟨none,_,run_endLoop hl (by intro h;cases h),?_⟩ | (refine ⟨some _,_,run_endLoop hl (by intro h;cases h),wpIn_exit ?_⟩;simp only [Exit.inBlock,if_true])
  all_goals
   apply wpIn_seq
   apply wpIn_region_list
   refine wi (xV (Instr.loadAt 47 (aP gp))) (d7 (lW isAgg47 sizeOf47 rfl ((I9 _).bring 3)) ?_)
   refine wi (xU (Instr.storeAt 47 (aP gr) (.agg (p9 (plv b)).toArray))) (v8 ((I9 _).bring 4) sizeOf47 (vs:=p9 (plv b)) λW5 I10 _=>?_)
   refine wpIn_ret ⟨(by intro h;cases h),.inl ⟨_,_,rfl,run_takeDeferred (I10.bring 2).hp1,?_⟩⟩
   have I11:=(I10.bring 2).setObj (o':=.deferred none)
   exact ⟨.agg (p9 (plv b)).toArray,e9y (k:=4) (p:=aP gr) rfl (by kernel_rfl) (D9 isAgg47 sizeOf47 rfl (I11.bring 1) rfl),hR _ H _ _ I11.drop.drop.drop.drop.drop.drop ⟨plv b,rfl,rfl,h⟩⟩
end
theorem c6Q(a0:Int)(a1:BA)(a2 a3 a4:Int)(w:World):(Instr.buildSlice 118 1 #[(0,(Value.agg #[(Value.int .i64 a0),(Value.string a1),(Value.int .i64 a2),(Value.int .i64 a3),(Value.int .i64 a4)]))]).run Tryz.prog w=.ok (.slice (some ⟨w.heap.size,0,none⟩) 1 1) (w.alloc (.cells [(Value.int .i64 a0),(Value.string a1),(Value.int .i64 a2),(Value.int .i64 a3),(Value.int .i64 a4)].toArray 127)):=by kernel_rfl
theorem e0x:Tryz.prog.info? 127=some ((Tryz.prog.info? 127).getD default):=by kernel_rfl
theorem c9S{E:Pan}{w0 w:World}{ps:Nat->Prop}{H0 H:Hp}{Fs:List Frag}{K:Value->World->Prop}{s:Sl}{xs:List d6}{F:Frag}{t2:Sl}{ys:List d6}{ks:List Bool}{ty:TypeId}(I:Inv w0 ps H0 H (F::Fs) w)(hr:RowL 127 5 m8 s xs F)(hs:SrcO w m8 t2 ys)(hb:(xs.length+ys.length)*49<=140737488355328)(h:∀(s':Sl)(F':Frag)(w':World),RowL 127 5 m8 s' (xs++ys) F'->Inv w0 ps H0 H (F'::Fs) w'->(∀k,k < w.heap.size->(∀p∈F,p.1≠k)->w'.heap[k]? = w.heap[k]?)->K (.slice s'.a s'.n s'.c) w'):opK Tryz.prog E (xBuiltin .append #[118,118] ty ks [.slice s.a s.n s.c,.slice t2.a t2.n t2.c]) w K:=
 b4t (bytes:=48) underlying118 e0x (z:=(Value.agg #[(Value.int .i64 0),(Value.string ⟨#[]⟩),(Value.int .i64 0),(Value.int .i64 0),(Value.int .i64 0)])) (by kernel_rfl) (by kernel_rfl) (by kernel_rfl) (by kernel_rfl) I hr hs hb h
theorem c4c(a0 a1 a2:Int):Pu Tryz.prog (xV (Instr.build 127 #[(0,(vi a0)),(3,(.agg #[vi a1,vi a2]))])) (.agg #[(vi a0),.string ⟨#[]⟩,(vi 0),vi a1,vi a2]):=Pu.ok λw=>by kernel_rfl
theorem d3I:Pu Tryz.prog (xV (Instr.build 47 #[])) (.agg #[(vi 0),(vi 0)]):=Pu.ok λw=>by kernel_rfl
theorem c8v{g o:Nat}:Pu Tryz.prog (xV (Instr.fieldAt 127 (.pointer (some ⟨g,o,none⟩)) 3)) (.pointer (some ⟨g,o+3,none⟩)):=Pu.ok λw=>by kernel_rfl
section
variable {s:BA}
theorem c4d{p:Nat}:sk s (sk s p)=sk s p:=by
 by_cases c:sk s p < s.size
 ·exact a6Z (.inr (e4r (Nat.le_refl _) c))
 ·exact a6Z (.inl c)
theorem c4S{f p:Nat}{a b:Int×Int}{out:List Tk}(h:Go2 s p a (sk s p) b):tkF s (f+1) p a out=tkF s (f+1) (sk s p) b out:=by
 rw [tkF,tkF,c4d,d1h h,c4b (Nat.lt_irrefl _)]
end
theorem Inv.e9z{w0 w:World}{ps:Nat->Prop}{H0 H:Hp}{Fs:List Frag}(k:Nat)(I:Inv w0 ps H0 H Fs w):Inv w0 ps H0 H (Fs.take k++[]::Fs.drop k) w:=I.perm (by
 rw [List.flatten_append,List.flatten_cons,List.nil_append,← List.flatten_append,List.take_append_drop])
theorem Inv.only{w0 w:World}{ps:Nat->Prop}{H0 H:Hp}{Fs:List Frag}(I:Inv w0 ps H0 H Fs w):Inv w0 ps H0 H [[]] w:=by
 have h:∀Gs:List Frag,Inv w0 ps H0 H Gs w->Inv w0 ps H0 H [] w:=by
  intro Gs
  induction Gs with
  | nil=>exact id
  | cons G Gs ih=>exact λJ=>ih J.drop
 exact (h _ I).perm (by simp)
section
variable {H:Hp}{s:BA}
def readsV(g:Nat)(r:Int):Value:=
 if classS r=3 then .func (.func 131) #[.pointer (some ⟨g,0,none⟩)] #[]
 else if classS r=4 then .func (.func 132) #[.pointer (some ⟨g,0,none⟩)] #[]
 else if classS r=5 then .func (.func 133) #[.pointer (some ⟨g,0,none⟩)] #[]
 else .func (.func 134) #[] #[]
theorem d5N(g:Nat)(r:Int):Ct Tryz.prog 92 [.pointer (some ⟨g,0,none⟩),.int .i32 r] H [] (λv H' Fo=>v=readsV g r/\Fo=[]/\H=H') noQE:=by
 refine Ct.of λw0 w ps0 H0 R E I hR=>e3I ?_
 unfold F92
 refine f7 call127 (b2A (r:=r) (H:=H) (K:=λc H'=>c=classS r/\H=H') ⟨rfl,rfl⟩) I ?_
 rintro _ _ _ w1 I1 _ _ ⟨c,rfl,rfl,rfl,rfl⟩
 unfold readsV at hR
 refine c7 (o9 _ _ _ _ _ _) (X2 (λc=>?_) (λc=>?_))
 ·exact c7 (Q7 _ _ _) (hR _ H _ _ I1 ⟨by rw [if_pos c],rfl,rfl⟩)
 refine c7 (o9 _ _ _ _ _ _) (X2 (λc2=>?_) (λc2=>?_))
 ·exact c7 (Q7 _ _ _) (hR _ H _ _ I1 ⟨by rw [if_neg c,if_pos c2],rfl,rfl⟩)
 refine c7 (o9 _ _ _ _ _ _) (X2 (λc3=>?_) (λc3=>?_))
 ·exact c7 (Q7 _ _ _) (hR _ H _ _ I1 ⟨by rw [if_neg c,if_neg c2,if_pos c3],rfl,rfl⟩)
 exact hR _ H _ _ I1 ⟨by rw [if_neg c,if_neg c2,if_neg c3],rfl,rfl⟩
theorem d3J{P:Program}{E:Pan}{w:World}{K:Value->World->Prop}{f:FuncId}{a:Value}(he:∀args w,(callFunc f args).run P w=.ok (.enter f args) w)(h:Cv P f [a].toArray w K E):opK P E (xCall (.func (.func f) #[a] #[]) []) w K:=by
 refine a4p (f:=f) (args:=[a].toArray) ?_ h
 simp only [xCall,Deferred.ofValue,invoke,Sem.run_bind,Sem.run_pure,Result.andThen_ok,he]
 rfl
theorem e4z(hT:TabsH H)(hE:ErrH H)(hs:s.size<=big){p:Nat}{a:Int×Int}{l:List d6}{e:Sl}{F:Frag}(hp:p < s.size)(ha:Pl a p)(hr:RowL 127 5 m8 e l F){g:Nat}{w0 w:World}{ps:Nat->Prop}{H0:Hp}{Fr:List Frag}{E:Pan}{K:Value->World->Prop}
  (I:Inv w0 ps H0 H ([bx g 167 (B9 (rd s p a) e),F]++Fr) w)
  (h1:(oneO s p).err=0->∀(b:Int×Int)(e':Sl)(F':Frag)(w':World),Go2 s p a (oneO s p).stop b->RowL 127 5 m8 e' l F'->Inv w0 ps H0 H ([bx g 167 (B9 (rd s (oneO s p).stop b) e'),F']++Fr) w'->K (.tuple #[.agg (m8 (tokO (oneO s p))).toArray,vi 0]) w')
  (h2:(oneO s p).err≠0->∀(t:d6)(Fo:List Frag)(w':World),Inv w0 ps H0 H (Fo++Fr) w'->K (.tuple #[.agg (m8 t).toArray,vi (oneO s p).err]) w'):
  opK Tryz.prog E (xCall (readsV g (rn s p)) []) w K:=by
 have fin:∀(f:FuncId)(o:On),o=oneO s p->(∀args w,(callFunc f args).run Tryz.prog w=.ok (.enter f args) w)->
   (∀K:d6->Int->i8->List d6->Hp->Prop,RdK s p a l o K H->Ct Tryz.prog f [.pointer (some ⟨g,0,none⟩)] H [bx g 167 (B9 (rd s p a) e),F] (λv H' Fo=>∃(r0:d6)(r1:Int)(y0:i8)(c:(List d6))(d:Sl)(e:Frag),v=(Value.tuple #[(Value.agg (m8 r0).toArray),(vi r1)])/\Fo=[bx g 167 (B9 y0 d),e]/\RowL 127 5 m8 d c e/\K r0 r1 y0 c H') noQE)->
   opK Tryz.prog E (xCall (.func (.func f) #[.pointer (some ⟨g,0,none⟩)] #[]) []) w K:=by
  rintro f o rfl he hc
  refine d3J he (a1y I (hc (λt x r c H'=>H=H'/\(((oneO s p).err=0/\x=0/\t=tokO (oneO s p)/\c=l/\∃b,Go2 s p a (oneO s p).stop b/\r=rd s (oneO s p).stop b)\/((oneO s p).err≠0/\x=(oneO s p).err))) ⟨λh0 b hb=>⟨rfl,.inl ⟨h0,rfl,rfl,rfl,b,hb,rfl⟩⟩,λt r hx=>⟨rfl,.inr ⟨hx,rfl⟩⟩⟩) ?_ λ_ _ _ _ _ q=>q.elim)
  rintro _ _ _ w' J _ _ ⟨t,x,y,c,d,F',rfl,rfl,hrow,rfl,q⟩
  rcases q with ⟨h0,rfl,rfl,rfl,b,hb,rfl⟩ | ⟨hx,rfl⟩
  ·exact h1 h0 b d F' w' hb hrow J
  ·exact h2 hx t _ w' J
 unfold readsV
 by_cases c3:classS (rn s p)=3
 ·rw [if_pos c3]
  exact fin _ (wordO s p) (by unfold oneO;rw [if_pos c3]) (λargs w=>call131 args w) λK hK=>e6H hT hs (Nat.le_of_lt hp) ha hK g e F hr
 rw [if_neg c3]
 by_cases c4:classS (rn s p)=4
 ·rw [if_pos c4]
  exact fin _ (numO s p) (by unfold oneO;rw [if_neg c3,if_pos c4]) (λargs w=>call132 args w) λK hK=>e0v hT hs hE hp c4 ha hK g e F hr
 rw [if_neg c4]
 by_cases c5:classS (rn s p)=5
 ·rw [if_pos c5]
  exact fin _ (signO s p) (by unfold oneO;rw [if_neg c3,if_neg c4,if_pos c5]) (λargs w=>call133 args w) λK hK=>e6I hT hs hp c5 ha hK g e F hr
 rw [if_neg c5]
 have eo:oneO s p=On.bad 20:=by unfold oneO;rw [if_neg c3,if_neg c4,if_neg c5]
 rw [eo] at h2
 refine f7 (Fi:=[]) call134 (b3d (H:=H) (K:=λt x H'=>x=20/\H=H') ⟨rfl,rfl⟩) I ?_
 rintro _ _ _ w' J _ _ ⟨t,x,rfl,rfl,rfl,rfl⟩
 exact h2 (by decide) t [bx g 167 (B9 (rd s p a) e),F] w' J
theorem d3K(hT:TabsH H)(hE:ErrH H)(hs4:s.size<=4194304):Ct Tryz.prog 53 [.string s] H [] (λv H' Fo=>∃(e:Sl)(F:Frag),v=.tuple #[vs e,.agg (p9 (plv (tkS s).2.1)).toArray,vi (tkS s).2.2]/\Fo=[F]/\H=H'/\RowL 127 5 m8 e ((tkS s).1.map tkv) F) noQE:=by
 have hs:s.size<=big:=by simp only [big];omega
 refine Ct.of λw0 w ps0 H0 R E I hR=>e2T ?_
 unfold F53
 refine r8 I zeroValue47 (cs:=[(vi 0),(vi 0)]) rfl λg1 w1 I1 _=>?_
 have bad:∀{Fs:List Frag}{w':World}(b:Int×Int)(x:Int),tkS s=([],b,x)->Inv w0 ps0 H0 H (bx g1 47 [vi b.1,vi b.2]::Fs) w'->R (.tuple #[.slice none 0 0,.agg #[vi b.1,vi b.2],vi x]) w':=by
  intro Fs w' b x hx J
  refine hR _ H [[]] _ (J.only) ⟨⟨none,0,0⟩,[],?_,rfl,rfl,?_⟩
  ·rw [hx]
  ·rw [hx];exact RowL.nil a9K a9L
 refine f7 call88 (e4x hT (H:=H) (s:=s) (K:=λr x H'=>H=H'/\((65536 < s.size/\r=0/\x=10)\/(¬65536 < s.size/\((∃n:Nat,chkAt s 0=some n/\r=n/\x=11)\/(chkAt s 0=none/\r=0/\x=0))))) ?_) I1 ?_
 ·by_cases c:65536 < s.size
  ·rw [if_pos c];exact ⟨rfl,.inl ⟨c,rfl,rfl⟩⟩
  ·rw [if_neg c]
   cases hc:chkAt s 0 with
   | some n=>exact ⟨rfl,.inr ⟨c,.inl ⟨n,rfl,rfl,rfl⟩⟩⟩
   | none=>exact ⟨rfl,.inr ⟨c,.inr ⟨rfl,rfl,rfl⟩⟩⟩
 rintro _ _ _ w2 I2 _ _ ⟨r,x,rfl,rfl,rfl,hq⟩
 refine c7 (m7 _ _ (vi r) rfl) (c7 (m7 _ _ (vi x) rfl) ?_)
 refine c7 (O4 _ _ _ _ _ _) (b0R (λhx=>?_) (λhx=>?_))
 ·obtain ⟨n,b,hn,hg,ht⟩:∃(n:Nat)(b:Int×Int),r=n/\Go2 s 0 (1,1) n b/\tkS s=([],b,x):=by
   unfold tkS
   rcases hq with ⟨c,rfl,rfl⟩ | ⟨c,⟨n,hn,rfl,rfl⟩ | ⟨_,rfl,rfl⟩⟩
   ·exact ⟨0,(1,1),rfl,.refl,by rw [if_pos c]⟩
   ·obtain ⟨_,b,hg⟩:=e4t (s:=s) (1,1) (Nat.le_refl _) hn
    exact ⟨n,b,rfl,hg,by rw [if_neg c,hn];dsimp only;rw [d1h hg]⟩
   ·exact absurd rfl hx
  subst hn
  refine f7 call89 (d8d hs4 hg (H:=H) (K:=λq H'=>q=plv b/\H=H') ⟨rfl,rfl⟩) I2 ?_
  rintro _ _ _ w3 I3 _ _ ⟨q,rfl,rfl,rfl,rfl⟩
  exact H9 I3 sizeOf47 (vs:=[vi b.1,vi b.2]) (cs':=[vi b.1,vi b.2]) rfl rfl (nb rfl) rfl rfl λw4 I4 _=>a3g isAgg47 sizeOf47 rfl (I4.at1 (o:=0) (vs:=[vi b.1,vi b.2]) (nb rfl) rfl) (bad b x ht I4)
 have hx:x=0:=hx
 subst hx
 obtain ⟨c0,hc0⟩:¬65536 < s.size/\chkAt s 0=none:=by
  rcases hq with ⟨_,_,q⟩ | ⟨c,⟨_,_,_,q⟩ | ⟨c2,_,_⟩⟩
  ·cases q
  ·cases q
  ·exact ⟨c,c2⟩
 have hT0:tkS s=tkF s (s.size+1) 0 (1,1) []:=by unfold tkS;rw [if_neg c0,hc0]
 have hA:b5g s 0 H (λq H'=>q=plv (1,1)/\H=H'):=d8d (n:=0) hs4 .refl ⟨rfl,rfl⟩
 refine f7 call89 hA I2 ?_
 rintro _ _ _ w3 I3 _ _ ⟨q,rfl,rfl,rfl,rfl⟩
 refine c7 (c3J _ _ _) (D3 I3 (cs:=B9 (rd s 0 (1,1)) ⟨none,0,0⟩) rfl λg2 w4 I4 _=>?_)
 refine u7 λj1 hx1=>?_
 have hB:a1I (rd s 0 (1,1)) [] H (λr l H'=>l=[]/\H=H'/\∃b,Go2 s 0 (1,1) (sk s 0) b/\r=rd s (sk s 0) b):=c4R hT hs (Nat.zero_le _) Pl0 λb hb=>⟨rfl,rfl,b,hb,rfl⟩
 refine f7 call90 (hB g2 ⟨none,0,0⟩ [] (RowL.nil a9K a9L)) (I4.e9z 1) ?_
 rintro _ _ _ w5 I5 _ _ ⟨y,l,e,F,rfl,rfl,hrow,rfl,rfl,b,hb,rfl⟩
 refine G6 (J:=λn l w'=>l=[]/\∃(out:List Tk)(p:Nat)(a:Int×Int)(e:Sl)(F:Frag),n=s.size-p/\p<=s.size/\sk s p=p/\Pl a p/\out.length<=32768/\tkF s (s.size+1) p a out=tkF s (s.size+1) 0 (1,1) []/\RowL 127 5 m8 e (out.map tkv) F/\Inv w0 ps0 H0 H ([bx g2 167 (B9 (rd s p a) e),F]++[bx g1 47 [vi 0,vi 0]]) w') ⟨_,rfl,[],sk s 0,b,e,F,rfl,(c2V (Nat.zero_le _)).2,c4d,hb.pl Pl0,by decide,(c4S hb).symm,hrow,I5⟩ ?_
 clear hrow I5
 rintro n τ w6 next2 ⟨_,out,p,a,e,F,rfl,hp,hsk,ha,ho,hev,hrow,I6⟩ hn2
 unfold d2Q
 refine c7 (t7 _) (c7 a1b ?_)
 refine d7 (l1 (v:=vi (p:Int)) isAgg3 I6 rfl) (c7 (b0F _) ?_)
 refine c7 (D1 _ _ _ _ _ _) ?_
 have hlen:(out.map tkv).length=out.length:=List.length_map _
 rw [tkF,hsk,c4b (Nat.lt_irrefl _)] at hev
 refine X2 (λc1=>?_) (λc1=>?_)
 ·have hp2:p < s.size:=by omega
  rw [if_neg (by omega)] at hev
  refine c7 (t7 _) (c7 a8w ?_)
  refine d7 (ldA isAgg47 sizeOf47 rfl (I6.at1 (o:=2) (vs:=[vi a.1,vi a.2]) (nb rfl) rfl)) (r8 I6 zeroValue47 (cs:=[(vi 0),(vi 0)]) rfl λg3 w7 I7 _=>?_)
  refine H9 I7 sizeOf47 (vs:=[vi a.1,vi a.2]) (cs':=[vi a.1,vi a.2]) rfl rfl (nb rfl) rfl rfl λw8 I8 _=>c7 (t7 _) (c7 b2N ?_)
  refine d7 (l1 isAgg118 (I8.bring 1) rfl) (c7 (a4E underlying118 hrow) ?_)
  refine c7 (o9 _ _ _ _ _ _) ?_
  rw [hlen]
  refine X2 (λc2=>?_) (λc2=>?_)
  ·rw [if_pos (by omega)] at hev
   refine L6 I8 λw9 I9=>s7 (lW isAgg47 sizeOf47 rfl I9) (H9 (I9.bring 3) sizeOf47 (vs:=[vi a.1,vi a.2]) (cs':=[vi a.1,vi a.2]) rfl rfl (nb rfl) rfl rfl λw10 I10 _=>?_)
   exact a3g isAgg47 sizeOf47 rfl (I10.at1 (o:=0) (vs:=[vi a.1,vi a.2]) (nb rfl) rfl) (bad a 23 (by rw [hT0,← hev]) I10)
  rw [if_neg (by omega)] at hev
  have I8':Inv w0 ps0 H0 H ([bx g2 167 (B9 (rd s p a) e),F]++[bx g3 47 [vi a.1,vi a.2],bx g1 47 [vi 0,vi 0]]) w8:=(I8.bring 2).bring 2
  have hP:M0 (rd s p a) (out.map tkv) H (λr k H'=>r=rn s p/\H=H'):=a7a hp (by rw [if_pos hp2];exact ⟨rfl,rfl⟩)
  refine f7 call91 (hP g2 e F hrow) I8' ?_
  rintro _ _ _ w9 I9 _ _ ⟨r,k,rfl,rfl,rfl,rfl⟩
  refine c7 (m7 _ _ (Value.int .i32 (rn s p)) rfl) (c7 (m7 _ _ (Value.bool k) rfl) ?_)
  refine f7 (Fi:=[]) call92 (d5N g2 (rn s p)) I9 ?_
  rintro _ _ _ w10 I10 _ _ ⟨rfl,rfl,rfl⟩
  refine e4z hT hE hs hp2 ha hrow I10 (λh0 b e2 F2 w11 hg hrow2 I11=>?_) (λh0 t Fo w11 I11=>?_)
  ·rw [if_neg (λx=>x h0)] at hev
   obtain ⟨q1,q2⟩:=b8C hp2 h0
   rw [d1h hg] at hev
   have hb:=hg.pl ha
   refine c7 (m7 _ _ (.agg (m8 (tokO (oneO s p))).toArray) rfl) (c7 (m7 _ _ (vi 0) rfl) ?_)
   refine r8 I11 zeroValue127 (cs:=[(vi 0),(Value.string ⟨#[]⟩),(vi 0),(vi 0),(vi 0)]) rfl λg4 w12 I12 _=>H9 I12 sizeOf127 (vs:=m8 (tokO (oneO s p))) (cs':=m8 (tokO (oneO s p))) rfl rfl (nb rfl) rfl rfl λw13 I13 _=>c7 (O4 _ _ _ _ _ _) (b0R (λx=>absurd rfl x) (λ_=>?_))
   refine d7 (lW isAgg47 sizeOf47 rfl (I13.bring 3)) (c7 c8v ?_)
   refine H9 I13 sizeOf47 (vs:=[vi a.1,vi a.2]) (cs':=m8 (d6.mk (oneO s p).kind (oneO s p).text (oneO s p).num (plv a))) rfl rfl (nb rfl) rfl rfl λw14 I14 _=>L6 I14 λw15 I15=>g8 (t7 _) (g8 b2N ?_)
   refine s7 (l1 isAgg118 (I15.bring 1) rfl) (s7 (lW isAgg127 sizeOf127 rfl I15) ?_)
   refine O0 (e:=127) (c:=m8) (xs:=[d6.mk (oneO s p).kind (oneO s p).text (oneO s p).num (plv a)]) I15 (c6Q _ _ _ _ _) rfl rfl a9K a9L (nb rfl) λt2 F3 w16 hrow3 I16 fr=>⟨fr _ (I15.bring 1).lt1,?_⟩
   refine c9S (s:=e2) (xs:=out.map tkv) (I16.bring 3) hrow2 (hrow3.srcO ((I16.bring 3).bring 1)) (by rw [hlen];simp only [List.length_singleton];omega) λe4 F4 w17 hrow4 I17 _=>?_
   refine g8 (t7 _) (g8 b2N ?_)
   refine H9 (((I17.bring 1).drop).bring 2) sizeOf118 (vs:=[vs e4]) (cs':=B9 (rd s (oneO s p).stop b) e4) rfl rfl (nb rfl) rfl rfl λw18 I18 _=>?_
   have hB2:a1I (rd s (oneO s p).stop b) (out.map tkv++[d6.mk (oneO s p).kind (oneO s p).text (oneO s p).num (plv a)]) H (λr l H'=>l=out.map tkv++[d6.mk (oneO s p).kind (oneO s p).text (oneO s p).num (plv a)]/\H=H'/\∃b',Go2 s (oneO s p).stop b (sk s (oneO s p).stop) b'/\r=rd s (sk s (oneO s p).stop) b'):=c4R hT hs q2 hb λb' hb'=>⟨rfl,rfl,b',hb',rfl⟩
   have I18':Inv w0 ps0 H0 H ([bx g2 167 (B9 (rd s (oneO s p).stop b) e4),F4]++[bx g1 47 [vi 0,vi 0]]) w18:=((I18.bring 2).drop.bring 2).drop
   refine f7 call90 (hB2 g2 e4 F4 hrow4) I18' ?_
   rintro _ _ _ w19 I19 _ _ ⟨y,l,e5,F5,rfl,rfl,hrow5,rfl,rfl,b',hb',rfl⟩
   have k:=c2V (s:=s) q2
   rw [e0t s.size (s.size+1) _ _ _ (by omega) (by omega) q2,c4S hb'] at hev
   refine hn2 _ _ _ (show s.size-sk s (oneO s p).stop < s.size-p by omega) ⟨rfl,out++[⟨(oneO s p).kind,(oneO s p).text,(oneO s p).num,a⟩],_,b',e5,F5,rfl,k.2,c4d,hb'.pl hb,by simp only [List.length_append,List.length_singleton];omega,hev,?_,I19⟩
   rw [List.map_append]
   exact hrow5
  ·rw [if_pos h0] at hev
   refine c7 (m7 _ _ (.agg (m8 t).toArray) rfl) (c7 (m7 _ _ (vi (oneO s p).err) rfl) ?_)
   refine r8 I11 zeroValue127 (cs:=[(vi 0),(Value.string ⟨#[]⟩),(vi 0),(vi 0),(vi 0)]) rfl λg4 w12 I12 _=>H9 I12 sizeOf127 (vs:=m8 t) (cs':=m8 t) rfl rfl (nb rfl) rfl rfl λw13 I13 _=>c7 (O4 _ _ _ _ _ _) (b0R (λ_=>?_) (λx=>absurd x h0))
   have I13':Inv w0 ps0 H0 H (bx g3 47 [vi a.1,vi a.2]::bx g1 47 [vi 0,vi 0]::(bx g4 127 (m8 t)::Fo)) w13:=I13.perm (by
    simp only [List.flatten_cons,List.flatten_append,List.flatten_nil,List.append_nil]
    have:((bx g3 47 [vi a.1,vi a.2]++bx g1 47 [vi 0,vi 0])++(bx g4 127 (m8 t)++Fo.flatten)).Perm ((bx g4 127 (m8 t)++Fo.flatten)++(bx g3 47 [vi a.1,vi a.2]++bx g1 47 [vi 0,vi 0])):=List.perm_append_comm
    rw [List.append_assoc,List.append_assoc] at this
    exact this)
   refine L6 I13' λw14 I14=>s7 (lW isAgg47 sizeOf47 rfl I14) (H9 (I14.bring 1) sizeOf47 (vs:=[vi a.1,vi a.2]) (cs':=[vi a.1,vi a.2]) rfl rfl (nb rfl) rfl rfl λw15 I15 _=>?_)
   exact a3g isAgg47 sizeOf47 rfl (I15.at1 (o:=0) (vs:=[vi a.1,vi a.2]) (nb rfl) rfl) (bad a _ (by rw [hT0,← hev]) I15)
 ·refine hx1 _ _ ?_
  rw [if_pos (by omega)] at hev
  unfold d2P
  intro _
  refine L6 I6 λw7 I7=>g8 (t7 _) (g8 b2N ?_)
  refine g8 (t7 _) (g8 a8w ?_)
  refine g8 (d3I) (s7 (l1 isAgg118 I7 rfl) ?_)
  refine s7 (ldA isAgg47 sizeOf47 rfl (I7.at1 (o:=2) (vs:=[vi a.1,vi a.2]) (nb rfl) rfl)) (g8 (c4c _ _ _) ?_)
  refine O0 (e:=127) (c:=m8) (xs:=[d6.mk 5 ⟨#[]⟩ 0 (plv a)]) I7 (c6Q _ _ _ _ _) rfl rfl a9K a9L (nb rfl) λt2 F3 w8 hrow3 I8 fr=>⟨fr _ I7.lt1,?_⟩
  refine c9S (s:=e) (xs:=out.map tkv) (I8.bring 2) hrow (hrow3.srcO ((I8.bring 2).bring 1)) (by rw [hlen];simp only [List.length_singleton];omega) λe4 F4 w9 hrow4 I9 _=>?_
  refine H9 (I9.bring 3) sizeOf47 (vs:=[vi 0,vi 0]) (cs':=[vi 0,vi 0]) rfl rfl (nb rfl) rfl rfl λw10 I10 _=>a3g isAgg47 sizeOf47 rfl (I10.at1 (o:=0) (vs:=[vi 0,vi 0]) (nb rfl) rfl) (hR _ H [F4] _ ?_ ⟨e4,F4,?_,rfl,rfl,?_⟩)
  ·exact (((I10.drop.bring 1).drop).bring 1).drop
  ·rw [hT0,← hev]
  ·rw [hT0,← hev,List.map_append];exact hrow4
end
open Go.RowKit
section
variable {H:Hp}(hT:TabsH H)(hE:ErrH H)
include hT hE
theorem d3L{s:BA}(hs4:s.size<=4194304){K:Sl->f8->Int->Hp->Prop}(h:∀(e:Sl)(H':Hp),Hle H H'->SlH H' 5 m8 e ((tkS s).1.map tkv)->K e (plv (tkS s).2.1) (tkS s).2.2 H'):b1V s H K:=λw I=>
 Cv.mono (d3K hT hE hs4 w I) (λ_ _ ⟨_,_,J,e,F,hv,hf,hh,hr⟩=>by
  subst hf;subst hh
  obtain ⟨H2,J2,hl,hsl⟩:=J.freezeL hr (by decide)
  exact ⟨H2,[],J2,e,_,_,hv,rfl,h e H2 hl hsl⟩) λ_ _ ⟨_,_,_,q⟩=>q.elim
end
section
variable {H:Hp}
end
end
def nameOk(l:Lab):Bool:=if (nameL l).2=true then nameS (nameL l).1 else true
mutual
def formT:PT->Bool
 | .mk l cs=>formL l&&formTs cs
def formTs:List PT->Bool
 | []=>true
 | t::ts=>formT t&&formTs ts
end
mutual
def namesT:PT->Bool
 | .mk l cs=>nameOk l&&namesTs cs
def namesTs:List PT->Bool
 | []=>true
 | t::ts=>namesT t&&namesTs ts
end
theorem a2u:∀a b:List PT,formTs (a++b)=(formTs a&&formTs b)
 | [],b=>by rw [List.nil_append,formTs,Bool.true_and]
 | t::a,b=>by rw [List.cons_append,formTs,formTs,a2u a b,Bool.and_assoc]
theorem c1j:∀a b:List PT,namesTs (a++b)=(namesTs a&&namesTs b)
 | [],b=>by rw [List.nil_append,namesTs,Bool.true_and]
 | t::a,b=>by rw [List.cons_append,namesTs,namesTs,c1j a b,Bool.and_assoc]
structure Fm where
 fok:Bool
 fnames:Bool
def FR(f:Fm)(a b:Bool)(y:Fm):Prop:=y.fok=(f.fok&&a)/\(y.fok=true->y.fnames=(f.fnames&&b))
theorem FR.refl(f:Fm):FR f true true f:=⟨(Bool.and_true _).symm,λ_=>(Bool.and_true _).symm⟩
theorem FR.trans{f g y:Fm}{a b a' b':Bool}(h:FR f a b g)(h':FR g a' b' y):FR f (a&&a') (b&&b') y:=by
 refine ⟨by rw [h'.1,h.1,Bool.and_assoc],λhy=>?_⟩
 have hg:g.fok=true:=by rw [h'.1] at hy;exact (Bool.and_eq_true_iff.1 hy).1
 rw [h'.2 hy,h.2 hg,Bool.and_assoc]
section
variable {H:Hp}
def toldS(ts:List PT):Int:=if (wTs ts 1 w0S).fbad=0 then (if formTs ts=true then (if namesTs ts=true then 0 else 31) else 30) else (wTs ts 1 w0S).fbad
theorem e6J:wok w0S:=⟨by decide,by decide⟩
end
def fmR(v:V)(a b:Bool)(r:Bool×V):Prop:=r.1=true->r.2.f=(v.f || !a)/\r.2.m=(v.m || !b)
theorem e0y(v:V)(l:Lab)(d:Int):fmR v (formL l) (nameOk l) (vMeet v l d):=by
 unfold vMeet fmR nameOk
 intro h
 split at h
 ·cases h
 ·rename_i h1
  rw [if_neg h1]
  split at h
  ·cases h
  ·rename_i h2
   rw [if_neg h2]
   refine ⟨rfl,?_⟩
   cases (nameL l).2
   ·simp
   ·simp
mutual
theorem e9A:∀(t:PT)(d:Int)(v:V),fmR v (formT t) (namesT t) (vT t d v)
 | .mk l cs,d,v=>by
  have hm:=e0y v l d
  rw [vT,formT,namesT]
  by_cases hq:(vMeet v l d).1=true
  ·rw [if_pos hq]
   intro h
   have h1:=hm hq
   have h2:=d1i cs (d+1) _ h
   rw [h2.1,h2.2,h1.1,h1.2]
   cases v.f<;>cases v.m<;>cases formL l<;>cases nameOk l<;>cases formTs cs<;>cases namesTs cs<;>exact ⟨rfl,rfl⟩
  ·rw [if_neg hq];exact λh=>(hq h).elim
theorem d1i:∀(ts:List PT)(d:Int)(v:V),fmR v (formTs ts) (namesTs ts) (vTs ts d v)
 | [],d,v=>by
  rw [vTs,formTs,namesTs]
  intro _
  cases v.f<;>cases v.m<;>exact ⟨rfl,rfl⟩
 | t::ts,d,v=>by
  have hm:=e9A t d v
  rw [vTs,formTs,namesTs]
  by_cases hq:(vT t d v).1=true
  ·rw [if_pos hq]
   intro h
   have h1:=hm hq
   have h2:=d1i ts d _ h
   rw [h2.1,h2.2,h1.1,h1.2]
   cases v.f<;>cases v.m<;>cases formT t<;>cases namesT t<;>cases formTs ts<;>cases namesTs ts<;>exact ⟨rfl,rfl⟩
  ·rw [if_neg hq];exact λh=>(hq h).elim
end
theorem c4e(ts:List PT):vEnd (vTs ts 1 v0)=toldS ts:=by
 have hs:=d8b ts
 have hf:=d1i ts 1 v0
 unfold toldS vEnd
 generalize vTs ts 1 v0=r at hs hf ⊢
 generalize wTs ts 1 w0S=s at hs ⊢
 by_cases hq:r.1=true
 ·obtain ⟨h1,h2,_⟩:=hs.1 hq
  obtain ⟨h3,h4⟩:=hf hq
  rw [if_pos hq,h1,h2,h3,h4,if_pos rfl]
  cases formTs ts<;>cases namesTs ts<;>rfl
 ·obtain ⟨h1,h2⟩:=hs.2 (Bool.eq_false_iff.2 hq)
  rw [if_neg hq,h1,if_neg (by omega)]
section
variable {H:Hp}
end
def namL(l:Lab):List BA:=if (nameL l).2=true then [(nameL l).1] else []
mutual
def nT:PT->List BA
 | .mk l cs=>namL l++nTs cs
def nTs:List PT->List BA
 | []=>[]
 | t::ts=>nT t++nTs ts
end
def putAll(l:List BA)(xs:List BA):List BA:=xs.foldl putS l
theorem c2W(l a b:List BA):putAll l (a++b)=putAll (putAll l a) b:=by unfold putAll;rw [List.foldl_append]
theorem d5O(v:V)(l:Lab)(d:Int)(h:(vMeet v l d).1=true):(vMeet v l d).2.ns=putAll v.ns (namL l):=by
 unfold vMeet at h ⊢
 unfold namL
 split at h
 ·cases h
 ·rename_i h1
  rw [if_neg h1]
  split at h
  ·cases h
  ·rename_i h2
   rw [if_neg h2]
   dsimp only
   split<;>rfl
mutual
theorem e6K:∀(t:PT)(d:Int)(v:V),(vT t d v).1=true->(vT t d v).2.ns=putAll v.ns (nT t)
 | .mk l cs,d,v=>by
  rw [vT,nT]
  by_cases hq:(vMeet v l d).1=true
  ·rw [if_pos hq]
   intro h
   rw [c6R cs (d+1) _ h,d5O v l d hq,c2W]
  ·rw [if_neg hq];exact λh=>(hq h).elim
theorem c6R:∀(ts:List PT)(d:Int)(v:V),(vTs ts d v).1=true->(vTs ts d v).2.ns=putAll v.ns (nTs ts)
 | [],d,v=>by rw [vTs,nTs];exact λ_=>rfl
 | t::ts,d,v=>by
  rw [vTs,nTs]
  by_cases hq:(vT t d v).1=true
  ·rw [if_pos hq]
   intro h
   rw [c6R ts d _ h,e6K t d v hq,c2W]
  ·rw [if_neg hq];exact λh=>(hq h).elim
end
structure Us where
 o7:BA
 d1j:Bool
def useL:Lab->List Us
 | .decl _ _=>[]
 | .cond ..=>[]
 | .expr k _ s _=>if (decide (k=2)||decide (k=4))=true then [⟨s,decide (k=4)⟩] else []
 | .stmt k s _ _ _ _=>if (decide (k=1)||decide (k=2))=true then [⟨s,decide (k=2)⟩] else []
mutual
def uT:PT->List Us
 | .mk l cs=>useL l++uTs cs
def uTs:List PT->List Us
 | []=>[]
 | t::ts=>uT t++uTs ts
end
theorem c0C:∀a b:List PT,uTs (a++b)=uTs a++uTs b
 | [],b=>by rw [List.nil_append,uTs,List.nil_append]
 | t::a,b=>by rw [List.cons_append,uTs,uTs,c0C a b,List.append_assoc]
theorem d3M{ts:List PT}{i:Nat}{t:PT}(h:ts[i]? = some t):uTs (ts.take (i+1))=uTs (ts.take i)++uT t:=by
 rw [W1 h,c0C,uTs,uTs,List.append_nil]
theorem e4A(ts:List PT)(i:Nat):(uTs (ts.take i)).length<=(uTs ts).length:=by
 have:=c0C (ts.take i) (ts.drop i)
 rw [List.take_append_drop] at this
 rw [this,List.length_append];omega
theorem e6L{ts:List PT}{i:Nat}{t:PT}(h:ts[i]? = some t):(uTs (ts.take i)).length+(uT t).length<=(uTs ts).length:=by
 have:=e4A ts (i+1)
 rw [d3M h,List.length_append] at this;exact this
mutual
def cT:PT->Nat
 | .mk _ cs=>1+cTs cs
def cTs:List PT->Nat
 | []=>0
 | t::ts=>cT t+cTs ts
end
theorem a8x:∀a b:List PT,cTs (a++b)=cTs a+cTs b
 | [],b=>by rw [List.nil_append,cTs,Nat.zero_add]
 | t::a,b=>by rw [List.cons_append,cTs,cTs,a8x a b,Nat.add_assoc]
theorem d5P(l:Lab):(useL l).length<=1:=by
 cases l<;>simp only [useL]<;>(try split)<;>simp
mutual
theorem e4B:∀t:PT,(uT t).length<=cT t
 | .mk l cs=>by rw [uT,cT,List.length_append];have:=d5P l;have:=c4f cs;omega
theorem c4f:∀ts:List PT,(uTs ts).length<=cTs ts
 | []=>by rw [uTs,cTs];exact Nat.le_refl _
 | t::ts=>by rw [uTs,cTs,List.length_append];have:=e4B t;have:=c4f ts;omega
end
mutual
theorem d3N:∀(t:PT)(d:Int)(s:W),(wT t d s).fbad=0->(wT t d s).fn=s.fn+cT t
 | .mk l cs,d,s,h=>by
  rw [wT] at h ⊢
  rw [c4g cs _ _ h,cT]
  have hb:(wStep s d).fbad=0:=by
   by_cases hq:(wStep s d).fbad=0
   ·exact hq
   ·rw [a9T _ _ _ hq] at h;exact h
  unfold wStep at hb ⊢
  split at hb
  ·rename_i h1
   rw [if_pos h1]
   split at hb
   ·cases hb
   ·rename_i h2
    rw [if_neg h2]
    split at hb
    ·cases hb
    ·rename_i h3
     rw [if_neg h3];dsimp only;omega
  ·rename_i h1;exact (h1 hb).elim
theorem c4g:∀(ts:List PT)(d:Int)(s:W),(wTs ts d s).fbad=0->(wTs ts d s).fn=s.fn+cTs ts
 | [],d,s,h=>by rw [wTs,cTs];simp
 | t::ts,d,s,h=>by
  rw [wTs] at h ⊢
  rw [c4g ts _ _ h,cTs]
  have hb:(wT t d s).fbad=0:=by
   by_cases hq:(wT t d s).fbad=0
   ·exact hq
   ·rw [a9T _ _ _ hq] at h;exact h
  rw [d3N t d s hb];omega
end
theorem e0z{ts:List PT}(h:(wTs ts 1 w0S).fbad=0):cTs ts<=4096:=by
 have h1:=c4g ts 1 w0S h
 have h2:=(c6A ts 1 w0S e6J).2
 have h3:w0S.fn=0:=rfl
 omega
inductive Nd:PT->Prop
 | mk {l:Lab} {cs:List PT}:(∀z s,l≠.decl z s)->(∀t∈cs,Nd t)->Nd (.mk l cs)
theorem b5P{α:Type}{R:α->PT->Prop}{xs:List α}{ts:List PT}(hl:xs.length=ts.length)(h:∀(i:Nat)(x:α)(t:PT),xs[i]? = some x->ts[i]? = some t->Nd t):∀t∈ts,Nd t:=λt ht=>by
 obtain ⟨i,hi⟩:=List.mem_iff_getElem?.1 ht
 obtain ⟨x,hx⟩:=K2 (l:=xs) (i:=i) (by rw [hl];exact O1 hi)
 exact h i x t hx hi
theorem c2X{a b:List PT}(ha:∀t∈a,Nd t)(hb:∀t∈b,Nd t):∀t∈a++b,Nd t:=λt h=>(List.mem_append.1 h).elim (ha t) (hb t)
theorem EH.nd{H:Hp}{e:l9}{t:PT}(h:EH H e t):Nd t:=by
 induction h with
 | mk hs hb hl _ ih=>exact .mk (λz s e=>by cases e) (b5P (R:=EH H) hl ih)
theorem CH.nd{H:Hp}{e:p5}{t:PT}(h:CH H e t):Nd t:=by
 induction h with
 | mk hs hb hr hc hcb hl _ ih=>exact .mk (λz s e=>by cases e) (c2X (b5P (R:=EH H) hr.1 λi x t a b=>(hr.2 i x t a b).nd) (b5P (R:=CH H) hl ih))
theorem SH.nd{H:Hp}{e:i6}{t:PT}(h:SH H e t):Nd t:=by
 induction h with
 | mk hs hb hr hc hcb hcr ha hab hal _ hbs hbb hbl _ ih1 ih2=>
  exact .mk (λz s e=>by cases e) (c2X (b5P (R:=CH H) hcr.1 λi x t a b=>(hcr.2 i x t a b).nd) (c2X (b5P (R:=EH H) hr.1 λi x t a b=>(hr.2 i x t a b).nd) (c2X (b5P (R:=SH H) hal ih1) (b5P (R:=SH H) hbl ih2))))
section
variable {H:Hp}
theorem d5Q{s s':Sl}{xs:List BA}(h1:SlH H 1 v7 s xs)(h2:SlH H 1 v7 s' xs)(hb:xs.length<=big){K:KT Bool}(h:K true H):a4K s s' H K:=by
 refine b4H _ _ ?_
 have n1:=h1.1;have n2:=h2.1
 refine ⟨λe=>by omega,λ_=>?_⟩
 refine P7 (λ(i:Int) H'=>0<=i/\i<=xs.length/\H'=H) (λi=>(xs.length-i).toNat) ⟨Int.le_refl _,by omega,rfl⟩ ?_
 rintro i H1 next ⟨i0,i1,rfl⟩ hn
 refine ⟨λhq=>?_,λhq=>?_⟩
 ·obtain ⟨x,hx,hE⟩:=h1.get i0 hq
  obtain ⟨y,hy,hF⟩:=h2.get i0 (show i < (s'.n:Int) by omega)
  rw [hx] at hy;cases hy
  refine ⟨i0,hq,x,hE,i0,by omega,x,hF,λe=>(e rfl).elim,λ_=>?_⟩
  rw [K7 i0 (by simp only [big] at hb;omega)]
  exact hn _ _ ⟨by omega,by omega,rfl⟩ (by omega)
 ·unfold a3v;exact h
theorem d5R{q:PP}(h:toldS q.nodes=0):(wTs q.nodes 1 w0S).fbad=0/\(allV q).1=true/\(allV q).2.n=(wTs q.nodes 1 w0S).fn/\(allV q).2.d=(wTs q.nodes 1 w0S).fdepth/\(allV q).2.ns=putAll [] (nTs q.nodes):=by
 have hb:(wTs q.nodes 1 w0S).fbad=0:=by
  unfold toldS at h
  by_cases hq:(wTs q.nodes 1 w0S).fbad=0
  ·exact hq
  ·rw [if_neg hq] at h;exact h
 have hs:=d8b q.nodes
 have hr:(allV q).1=true:=by
  cases hq:(allV q).1
  ·obtain ⟨h1,h2⟩:=hs.2 hq
   omega
  ·rfl
 obtain ⟨h1,_⟩:=hs.1 hr
 exact ⟨hb,hr,by rw [h1];rfl,by rw [h1];rfl,c6R q.nodes 1 v0 hr⟩
end
def ib(l:List UInt8):List Int:=l.map λb=>(b.toNat:Int)
theorem e4C(a b:List UInt8):ib (a++b)=ib a++ib b:=List.map_append
theorem c2Y(a:List UInt8):(ib a).length=a.length:=List.length_map ..
theorem e6M(s:BA):sbytes s=ib s.data.toList:=rfl
theorem d5S(l:List UInt8):(ib l).flatMap B7=Lib.byteCells l:=by
 unfold ib Lib.byteCells
 induction l with
 | nil=>rfl
 | cons b l ih=>rw [List.map_cons,List.flatMap_cons,ih,List.map_cons];rfl
theorem Inv.mod{w0 w:World}{ps:Nat->Prop}{H0 H:Hp}{Fs:List Frag}{g:Nat}{o o':Obj}{F:Frag}(I:Inv w0 ps H0 H (((g,o)::F)::Fs) w)(w':World)(hg:w'.heap[g]? = some o')(far:∀i,i≠g->w'.heap[i]? = w.heap[i]?)
  (hs:w'.heap.size=w.heap.size) (ho:w'.os=w.os) (ht:w'.tape=w.tape) (hO:w'.output=w.output):Inv w0 ps H0 H (((g,o')::F)::Fs) w':=by
 have hne:∀p∈F++Fs.flatten,p.1≠g:=by
  have:=I.nodup
  rw [show ((((g,o)::F)::Fs).flatten.map (·.1))=g::((F++Fs.flatten).map (·.1)) from rfl,List.nodup_cons] at this
  exact λp hp e=>this.1 (List.mem_map.2 ⟨p,hp,e⟩)
 have hgp:ps g\/w0.heap.size<=g:=I.fresh (g,o) (List.mem_cons_self ..)
 refine ⟨λi x h=>(far i λe=>?_).trans (I.sub i x h),?_,?_,I.nodup,?_,λi hi hp=>(far i λe=>?_).trans (I.frame i hi hp),by have:=I.mono;omega,ho.trans I.os,ht.trans I.tape,hO.trans I.output,I.le,I.back⟩
 ·subst e
  exact I.Hnot h ⟨(i,o),List.mem_cons_self ..,rfl⟩
 ·intro p hp
  rcases List.mem_cons.1 hp with rfl | hp
  ·exact hg
  ·exact (far _ (hne p hp)).trans (I.own p (List.mem_cons_of_mem _ hp))
 ·intro p hp
  rcases List.mem_cons.1 hp with rfl | hp
  ·exact I.priv (g,o) (List.mem_cons_self ..)
  ·exact I.priv p (List.mem_cons_of_mem _ hp)
 ·intro p hp
  rcases List.mem_cons.1 hp with rfl | hp
  ·exact hgp
  ·exact I.fresh p (List.mem_cons_of_mem _ hp)
 ·subst e
  rcases hgp with h | h
  ·exact hp h
  ·omega
theorem Inv.frz{w0 w:World}{ps:Nat->Prop}{H0 H:Hp}{Fs:List Frag}{g:Nat}{cs:Array Value}{t:TypeId}{fr:Nat×Nat}{F:Frag}(I:Inv w0 ps H0 H (((g,.cells cs t fr)::F)::Fs) w)(n:Nat):∃fr',Inv w0 ps H0 H (((g,.cells cs t fr')::F)::Fs) (w.freeze ⟨g,0,none⟩ n):=by
 by_cases hn:n=0
 ·exact ⟨fr,by unfold World.freeze;rw [if_pos hn];exact I⟩
 refine ⟨if fr.1 == fr.2 then (0,0+n) else (min fr.1 0,max fr.2 (0+n)),I.mod _ ?_ ?_ ?_ ?_ ?_ ?_⟩
 ·have:=I.hp1
  simp [World.freeze,hn,Array.getElem?_modify,this]
 ·intro i hi
  simp [World.freeze,hn,Array.getElem?_modify,Ne.symm hi]
 all_goals simp [World.freeze,hn]
theorem e0A {P : Program} {E : Pan} {w : World} {K : Value -> World -> Prop} {f : FuncId} {fn : Func} {e : Array Value -> Sem Value} {args : List Value} {v : Value} (hf : P.funcs[f]? = some fn) (hname : (fn.name == "runtime.NumGoroutine") = false) (hb : fn.body.isNone = true) (hn : Extern.findNext fn = none) (he : Extern.find fn = some e)
  (hr:(e args.toArray).run P w=.ok v w) (k:K v w):opK P E (xCall (.func (.func f) #[] #[]) args) w K:=by
 have h:(xCall (.func (.func f) #[] #[]) args).run P w=.ok (.value v) w:=by
  have h1:=run_callFunc_extern hf hname hb hn he args.toArray w
  rw [hr] at h1
  simp only [xCall,Deferred.ofValue,invoke,Sem.run_bind,Sem.run_pure,Result.andThen_ok,Array.empty_append,Array.append_empty,h1]
 unfold opK
 rw [h]
 exact k
theorem e4D:∃j,Tryz.prog.info? 81=some j/\j.size≠0:=by
 have h:(Tryz.prog.info? 81).map (·.size)=some 2:=by kernel_rfl
 obtain ⟨j,hj,hs⟩:=Option.map_eq_some_iff.1 h
 exact ⟨j,hj,by rw [hs];decide⟩
theorem c6S{x:g7}{xs:List Int}{H:Hp}{K:g7->List Int->Hp->Prop}(h:K ⟨⟨some ⟨0,0,none⟩,Sl.mk none 0 0⟩,x.fdeep⟩ xs H):a7f x xs H K:=by
 intro g0 a b hr
 refine Ct.of λw0 w ps0 H0 R E I hR=>d8W ?_
 obtain ⟨⟨ad,bf⟩,dp⟩:=x
 have hsh:∀{cs:List Value}{w:World}{Fs:List Frag},Inv w0 ps0 H0 H (bx g0 83 cs::Fs) w->w.shape? g0=some (83,cs.length):=λI=>by
  have:=I.hp1
  simp [World.shape?,this]
 obtain ⟨j,hj,hjs⟩:=e4D
 refine c7 (t7 _) (c7 b7P ?_)
 cases ad with
 | none=>
  refine d7 (l1 isAgg78 (v:=.pointer none) I rfl) (c7 (c5R 78 _ _ none underlying78) ?_)
  refine Z5 (λ_=>?_) (λc=>by cases c)
  refine U7 (Lib.run_to_unsafe w ⟨g0,0,none⟩ underlying78 underlying239 hj hjs (hsh I) (by show 0 < 3;decide)) ?_
  refine e0A func152 (by kernel_rfl) (by kernel_rfl) (by kernel_rfl) (e:=Extern.AbiNoEscape.same) (by kernel_rfl) (Lib.run_noEscape w _) (U7 (Lib.run_from_unsafe w ⟨g0,0,none⟩ underlying239 underlying78 hj (hsh I) (by kernel_rfl)) ?_)
  refine c7 (t7 _) (c7 b7P ?_)
  exact K0 I sizeOf78 λw1 I1 _=>hR _ H _ _ I1 ⟨⟨⟨some ⟨0,0,none⟩,Sl.mk none 0 0⟩,dp⟩,xs,a,b,rfl,rfl,hr,h⟩
 | some ad=>
  refine d7 (l1 isAgg78 (v:=.pointer (some ⟨g0,0,none⟩)) I rfl) (c7 (c5R 78 _ _ (some ⟨g0,0,none⟩) underlying78) ?_)
  refine Z5 (λc=>by cases c) (λ_=>?_)
  refine c7 (t7 _) (c7 b7P ?_)
  refine d7 (l1 isAgg78 (v:=.pointer (some ⟨g0,0,none⟩)) I rfl) ?_
  have hn:∀w:World,(do eqGuard .neq 78 (.tmp 17) (.tmp 18) (.pointer (some ⟨g0,0,none⟩)) (.pointer (some ⟨g0,0,none⟩));binOp .neq 78 (.pointer (some ⟨g0,0,none⟩)) (.pointer (some ⟨g0,0,none⟩)):Sem Value).run Tryz.prog w=.ok (.bool false) w:=λw=>by
   rw [Sem.run_bind,b6h,Result.andThen_ok]
   exact Lib.run_neq_ptr_same w _ underlying78 hj
  refine c7 (Pu.ok (s:=do eqGuard .neq 78 (.tmp 17) (.tmp 18) (.pointer (some ⟨g0,0,none⟩)) (.pointer (some ⟨g0,0,none⟩));binOp .neq 78 (.pointer (some ⟨g0,0,none⟩)) (.pointer (some ⟨g0,0,none⟩))) hn) ?_
  refine Z5 (λc=>by cases c) (λ_=>?_)
  exact hR _ H _ _ I ⟨⟨⟨some ⟨0,0,none⟩,Sl.mk none 0 0⟩,dp⟩,xs,a,b,rfl,rfl,hr,h⟩
theorem d5T{x:g7}{l:List UInt8}{s:BA}{H:Hp}{K:Int->Value->g7->List Int->Hp->Prop}(hb:l.length+s.size<=1099511627776)(h:∀n v y,y.fdeep=x.fdeep->K n v y (ib (l++s.data.toList)) H):a2G x (ib l) s H K:=by
 refine b1T _ _ _ ?_
 refine c6S ⟨by rw [c2Y];omega,?_⟩
 rw [e6M,← e4C]
 exact h _ _ _ rfl
theorem e4E{x:g7}{xs:List Int}{H:Hp}{K:KT Int}(h:K xs.length H):a6B x xs H K:=b7j _ _ h
theorem c4h{x:g7}{l:List UInt8}{H:Hp}{K:KT Bool}(h:K (decide (65536 < l.length)) H):a1D x (ib l) H K:=by
 refine b3U _ _ (e4E ?_)
 rw [c2Y,show (decide ((65536:Int) < (l.length:Int)))=decide (65536 < l.length) from decide_eq_decide.2 (by omega)]
 exact h
theorem d3O{x:g7}{l:List UInt8}{H:Hp}{K:BA->g7->List Int->Hp->Prop}(h:∀y c,K ⟨l.toArray⟩ y c H):a8Z x (ib l) H K:=by
 intro g0 a b hr
 refine Ct.of λw0 w ps0 H0 R E I hR=>e2m (L6 I λw1 I1=>?_)
 refine g8 (t7 _) (g8 b1f ?_)
 refine g8 (t7 _) (g8 b1f ?_)
 refine s7 (l1 isAgg79 I1 rfl) (s7 (l1 isAgg79 I1 rfl) ?_)
 refine g8 (a4E underlying79 hr) ?_
 rw [c2Y]
 have hp74:Tryz.prog.underlying 117=some (.pointer 5):=underlying117
 have fin:∀(F':Frag)(w':World),Inv w0 ps0 H0 H [bx g0 83 (q8 g0 x a),F'] w'->R (.string ⟨l.toArray⟩) w':=λF' w' I'=>hR _ H _ _ I' ⟨⟨l.toArray⟩,x,ib l,a,F',rfl,rfl,True.intro,h _ _⟩
 have hd:∀v,xBuiltin .unsafeSliceData #[79] 117 [false] [v]=xV (Builtin.unsafeSliceData_ #[79] 117 #[v]):=λ_=>rfl
 have hu:∀p n,xBuiltin .unsafeString #[117,3] 9 [false,false] [p,n]=xV (Builtin.unsafeString_ #[117,3] 9 #[p,n]):=λ_ _=>rfl
 rw [hd]
 obtain ⟨⟨h1,h2⟩,h3,h4,h5⟩:=hr
 rw [c2Y] at h3
 rw [d5S] at h1 h2
 rcases h2 with ⟨rfl,rfl⟩ | ⟨g,arr,ha,rfl,q1,q2,q3,q4⟩
 ·refine U7 (Lib.run_unsafeSliceData_nil _ _ _ _ _) ⟨rfl,?_⟩
  rw [hu]
  obtain rfl:l=[]:=List.length_eq_zero_iff.1 h3.symm
  exact U7 (Lib.run_unsafeString_none w1 _ _ _ _) (fin [] _ I1)
 ·have I2:=I1.bring 1
  have hg:=I2.hp1
  have hsh:w1.shape? g=some (5,arr.size):=by simp [World.shape?,hg]
  obtain ⟨aa,an,ac⟩:=a
  dsimp only at ha h1 h3 q1 q2 q3 q4
  subst ha
  by_cases hc:ac=0
  ·have hn0:an=0:=by omega
   obtain rfl:l=[]:=List.length_eq_zero_iff.1 (by omega)
   subst hc hn0
   refine U7 (Lib.run_unsafeSliceData_zero w1 _ _ 5 hp74 ⟨g,0,none⟩ 0 _ hsh) ⟨Below.heap_alloc w1 _ g0 I1.lt1,?_⟩
   rw [hu]
   exact U7 (Lib.run_unsafeString_none _ _ _ _ _) (fin _ _ ((I1.alloc _).drop))
  ·refine U7 (Lib.run_unsafeSliceData_row _ _ _ _ _ _ hc) ⟨rfl,?_⟩
   rw [hu]
   by_cases h0:l=[]
   ·subst h0
    exact U7 (Lib.run_unsafeString_none w1 _ _ _ _) (fin _ _ I1)
   ·rw [Nat.mul_one] at h1 q3 q4
    have hl:=Lib.byteCells_length l
    have hle:an<=arr.size:=by omega
    have hm:ac<=9223372036854775807:=by unfold maxLen at q2;omega
    obtain ⟨fr',I3⟩:=I2.frz l.length
    refine U7 (Lib.run_unsafeString_row w1 _ _ _ 5 hp74 (by kernel_rfl) g arr.size hsh l h0 (by omega) (by omega) λj z hz=>?_) (fin _ _ (I3.bring 1))
    have hj:=(List.getElem?_eq_some_iff.1 hz).1
    have e1:(Lib.byteCells l)[j]? = some (.int .u8 z.toNat):=by simp [Lib.byteCells,hz]
    rw [←q4,List.getElem?_take,if_pos (by omega),Array.getElem?_toList] at e1
    rw [show (⟨g,0,none⟩:Addr).add j=⟨g,j,none⟩ by cases j<;>simp [Addr.add]]
    simp [World.cell?,hg,e1]
def putAllW:List UInt8->List (List UInt8)->List UInt8
 | xs,[]=>xs
 | xs,s::l=>if 65536 < xs.length then xs else putAllW (xs++s) l
theorem e4F{x:g7}{l:List UInt8}{s:Sl}{ps:List BA}{H:Hp}{K:g7->List Int->Hp->Prop}(hs:SlH H 1 v7 s ps)(hp:∀p∈ps,p.size<=1048576)(hl:l.length<=1114112)(hn:ps.length<=100)
  (h:∀y,y.fdeep=x.fdeep->K y (ib (putAllW l (ps.map (·.data.toList)))) H):C5 x (ib l) s H K:=by
 refine b4K _ _ _ ?_
 have hsn:=hs.1
 refine P7 (λst H'=>H'=H/\∃(i:Nat)(ad:Option Addr)(m:List UInt8),i<=ps.length/\st=((i:Int),ad,ib m,x.fdeep)/\m.length<=1114112/\putAllW m ((ps.drop i).map (·.data.toList))=putAllW l (ps.map (·.data.toList))) (λst=>ps.length-st.1.toNat)
  ⟨rfl,0,x.O5.faddr,l,Nat.zero_le _,rfl,hl,by rw [List.drop_zero]⟩ ?_
 rintro st H1 next ⟨rfl,i,ad,m,hi,rfl,hm,hv⟩ hnx
 refine ⟨λq=>?_,λq=>?_⟩
 ·have hi':i < ps.length:=by omega
  obtain ⟨p,hpi⟩:∃p,ps[i]? = some p:=⟨_,List.getElem?_eq_getElem hi'⟩
  have hdrop:ps.drop i=p::ps.drop (i+1):=by
   obtain ⟨hlt,heq⟩:=List.getElem?_eq_some_iff.1 hpi
   rw [List.drop_eq_getElem_cons hlt,heq]
  have hps:=hp p (List.mem_of_getElem? hpi)
  rw [hdrop,List.map_cons,putAllW] at hv
  refine ⟨by omega,by omega,p,hs.2 i p hpi,c4h ⟨λc=>?_,λc=>?_⟩⟩
  ·rw [decide_eq_true_eq] at c
   rw [if_pos c] at hv
   rw [hv]
   exact h _ rfl
  ·rw [decide_eq_false_iff_not] at c
   rw [if_neg c] at hv
   refine d5T (by omega) λn v y hy=>?_
   rw [show IntKind.wrap .i64 ((i:Int)+1)=((i+1:Nat):Int) by rw [K7 (by omega) (by omega)];omega]
   have hsz:p.data.toList.length=p.size:=by rw [Array.length_toList];rfl
   exact hnx _ _ ⟨rfl,i+1,y.O5.faddr,m++p.data.toList,by omega,by rw [hy],by rw [List.length_append];omega,hv⟩ (by dsimp only;omega)
 ·obtain rfl:i=ps.length:=by omega
  rw [List.drop_length,List.map_nil,putAllW] at hv
  rw [hv]
  exact h _ rfl
def PowH (H : Hp) : Prop := ∀ w : World, Sub H w -> Lib.TabIs Tryz.prog w "internal/strconv.uint64pow10" .u64 Lib.pow10Tab
theorem PowH.le{H H':Hp}(h:PowH H)(l:Hle H H'):PowH H':=λw s=>h w λi o e=>s i o (l i o e)
theorem below_grow(w:World)(k:Nat)(os:Array Obj):Below w.heap.size w (Go.Sort.grow (w.drewN k) os):=by
 refine ⟨rfl,rfl,rfl,?_,λi hi=>?_⟩
 ·show w.heap.size<=(w.heap++os).size
  rw [Array.size_append];omega
 ·show (w.heap++os)[i]? = _
  rw [Array.getElem?_append_left hi]
def itS(n:Int):BA:=⟨(Lib.itoa n).toArray⟩
theorem e6N(n:Int):(itS n).data.toList=Lib.itoa n:=rfl
theorem d8e{n:Int}(h0:0<=n)(h1:n<=9223372036854775807):(itS n).size<=21:=by
 have:=Lib.itoa_length_le n (by omega) h1
 show (Lib.itoa n).toArray.size<=21
 rw [List.size_toArray];exact this
section
variable {H:Hp}
theorem e4G(hP:PowH H){n:Int}(h0:0<=n)(h1:n<=9223372036854775807){K:KT BA}(h:K (itS n) H):b1U n 10 H K:=by
 intro w I
 refine Calls.mono (Tryz.strconv_FormatInt_10 n (by omega) h1 w (hP w I.sub)) λe w' hb=>?_
 obtain ⟨rfl,k,os,rfl⟩:=hb
 exact ⟨H,[],I.of_below (below_grow w k os),_,rfl,rfl,h⟩
theorem e0B(hP:PowH H){n:Int}(h0:0<=n)(h1:n<=9223372036854775807){K:KT BA}(h:K (itS n) H):b7a n H K:=by
 intro w I
 refine Calls.mono (Tryz.strconv_Itoa n (by omega) h1 w (hP w I.sub)) λe w' hb=>?_
 obtain ⟨rfl,k,os,rfl⟩:=hb
 exact ⟨H,[],I.of_below (below_grow w k os),_,rfl,rfl,h⟩
theorem e4H{s:BA}{c:Nat}(hc:s.size*c<=140737488355328)(hc2:c<=9223372036854775807){K:KT BA}(h:K ⟨(Lib.repeatL s.data.toList c).toArray⟩ H):c1A s c H K:=by
 intro w I
 refine Calls.mono (Tryz.strings_Repeat s c w hc2 hc) λe w' hb=>?_
 obtain ⟨rfl,hb⟩:=hb
 exact ⟨H,[],I.of_below hb,_,rfl,rfl,h⟩
end
end Go.Proofs.YthjlehnccgjpoaaGreatDoor
