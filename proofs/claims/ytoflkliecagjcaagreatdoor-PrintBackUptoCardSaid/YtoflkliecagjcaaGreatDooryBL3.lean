/- Tokens: numbers. Digits read one by one, and by the library. No program in sight. -/
import Derived.Lib.ParseIntBCases
import Derived.Test.YtoflkliecagjcaaGreatDooryBM1
namespace Go.Proofs.YtoflkliecagjcaaGreatDoor
open Go.RowKit
set_option maxRecDepth 100000
set_option maxHeartbeats 400000
def dval(a:Nat)(l:List UInt8):Nat:=l.foldl (fun a c=>a*10+(c.toNat-48)) a
theorem b4g(a:Nat):dval a []=a:=rfl
theorem a6r(a:Nat)(c:UInt8)(r:List UInt8):dval a (c::r)=dval (a*10+(c.toNat-48)) r:=by
 unfold dval
 rw [List.foldl_cons]
theorem c8W(l:List UInt8):∀a:Nat,a≤dval a l:=by
 induction l with
 | nil=>exact fun a=>Nat.le_refl _
 | cons c r ih=>
  intro a
  have:=ih (a*10+(c.toNat-48))
  rw [a6r]
  omega
def isDig(c:UInt8):Prop:=48≤c.toNat∧c.toNat≤57
theorem b9V{M:Nat}(hM:M≤18446744073709551615)(l:List UInt8):∀a:Nat,(∀c∈l,isDig c)→a≤M→Lib.parseUintM M a l=if dval a l≤M then .ok (dval a l) else .range:=by
 induction l with
 | nil=>intro a _ h;rw [b4g,if_pos h];rfl
 | cons c r ih=>
  intro a hd h
  have hc:=hd c (List.mem_cons_self ..)
  unfold isDig at hc
  have hl:=c8W r (a*10+(c.toNat-48))
  have ih:=ih (a*10+(c.toNat-48)) (fun d q=>hd d (List.mem_cons_of_mem _ q))
  rw [a6r]
  generalize dval (a*10+(c.toNat-48)) r=D at hl ih
  unfold Lib.parseUintM
  rw [if_pos hc]
  by_cases c1:1844674407370955162≤a
  ·rw [if_pos c1,if_neg (by omega)]
  ·rw [if_neg c1]
   by_cases c2:M < a*10+(c.toNat-48)
   ·rw [if_pos c2,if_neg (by omega)]
   ·rw [if_neg c2]
    exact ih (by omega)
theorem c1X{l:List UInt8}(hn:l≠[])(hd:∀c∈l,isDig c):Lib.parseIntB 64 l=if dval 0 l < 9223372036854775808 then .ok (dval 0 l:Int) else .range:=by
 cases l with
 | nil=>exact (hn rfl).elim
 | cons c r=>
  have hc:=hd c (List.mem_cons_self ..)
  unfold isDig at hc
  rw [Lib.parseIntB_plain 64 c r (by omega) (by omega)]
  unfold Lib.parseUintB
  have hM:2 ^ 64-1≤18446744073709551615:=by decide
  rw [if_neg (by simp),b9V hM _ 0 hd (by decide)]
  generalize dval 0 (c::r)=D
  by_cases c1:D≤2 ^ 64-1
  ·rw [if_pos c1]
   show (if 2 ^ (64-1)≤D then Lib.NumEnd.range else .ok (D:Int))=_
   by_cases c2:D < 9223372036854775808
   ·rw [if_pos c2,if_neg (by omega)]
   ·rw [if_neg c2,if_pos (by omega)]
  ·rw [if_neg c1,if_neg (by omega)]
   rfl
section
variable (s:ByteArray)
def dgF:Nat→Nat→Nat→Nat×Nat
 | 0,p,v=>(p,v)
 | f+1,p,v=>if p < s.size∧48≤by8 s p∧by8 s p≤57 then dgF f (p+1) (v*10+(by8 s p-48)) else (p,v)
theorem c0R:∀(f g p v:Nat),s.size-p≤f→s.size-p≤g→dgF s f p v=dgF s g p v
 | 0,0,_,_,_,_=>rfl
 | 0,g+1,p,v,h,_=>by rw [dgF,dgF,if_neg (by omega)]
 | f+1,0,p,v,_,h=>by rw [dgF,dgF,if_neg (by omega)]
 | f+1,g+1,p,v,h,h'=>by
  rw [dgF,dgF]
  split
  ·rw [c0R f g _ _ (by omega) (by omega)]
  ·rfl
def dg(p v:Nat):Nat×Nat:=dgF s (s.size-p) p v
variable {s}
theorem b3c{p v:Nat}(hp:p < s.size)(h:48≤by8 s p∧by8 s p≤57):dg s p v=dg s (p+1) (v*10+(by8 s p-48)):=by
 obtain ⟨m,hm⟩:∃m,s.size-p=m+1:=⟨s.size-p-1,by omega⟩
 unfold dg
 rw [hm,dgF,if_pos ⟨hp,h⟩,c0R s m (s.size-(p+1)) _ _ (by omega) (by omega)]
theorem b6a{p v:Nat}(h:¬(p < s.size∧48≤by8 s p∧by8 s p≤57)):dg s p v=(p,v):=by
 unfold dg
 cases s.size-p with
 | zero=>rw [dgF]
 | succ f=>rw [dgF,if_neg h]
def digitR(r:Int):Bool:=decide (classS r=4)
theorem b0b{r:Int}:digitR r=true↔48≤r∧r≤57:=by
 unfold digitR
 rw [decide_eq_true_eq]
 unfold classS
 constructor
 ·intro h
  by_cases c:48≤r∧r≤57
  ·exact c
  ·exfalso
   revert h
   repeat' split
   all_goals first | (intro h;omega) | (intro h;contradiction)
 ·intro h
  have h1:¬signR r:=by unfold signR;omega
  repeat' split
  all_goals first | rfl | omega | contradiction
theorem b0L{p:Nat}(hp:p < s.size):s.data.toList[p]? = some (s.get! p):=by
 have h2:p < s.data.size:=hp
 rw [Array.getElem?_toList,Array.getElem?_eq_getElem h2]
 congr 1
 show s.data[p]=s.data[p]!
 rw [getElem!_pos s.data p h2]
theorem a6s{p:Nat}(hp:p < s.size):s.data.toList.drop p=s.get! p::s.data.toList.drop (p+1):=by
 obtain ⟨h1,h2⟩:=List.getElem?_eq_some_iff.1 (b0L hp)
 rw [List.drop_eq_getElem_cons h1,h2]
theorem b3d:∀(n p v:Nat)(a:Int×Int),s.size-p≤n→
  p≤(dg s p v).1∧(dg s p v).1≤max p s.size∧(dg s p v).2=dval v ((s.data.toList.drop p).take ((dg s p v).1-p))∧(∀c∈(s.data.toList.drop p).take ((dg s p v).1-p),isDig c)∧(Wr s digitR p a).1=(dg s p v).1
 | 0,p,v,a,h=>by
  rw [b6a (by omega),W2 (by omega)]
  refine ⟨Nat.le_refl _,by dsimp only;omega,?_,fun c hc=>?_,rfl⟩
  ·dsimp only;rw [Nat.sub_self,List.take_zero];rfl
  ·dsimp only at hc;rw [Nat.sub_self,List.take_zero] at hc;cases hc
 | n+1,p,v,a,h=>by
  by_cases c:p < s.size∧48≤by8 s p∧by8 s p≤57
  ·obtain ⟨i1,i2,i3,i4,i5⟩:=b3d n (p+1) (v*10+(by8 s p-48)) (stepP a (rn s p)) (by omega)
   have hr:=a6e (s:=s) (p:=p) (by omega)
   rw [b3c c.1 c.2,a1J c.1 (b0b.2 (by rw [hr.1];omega)),hr.2]
   have he:(dg s (p+1) (v*10+(by8 s p-48))).1-p=((dg s (p+1) (v*10+(by8 s p-48))).1-(p+1))+1:=by omega
   refine ⟨by omega,by omega,?_,?_,i5⟩
   ·rw [he,a6s c.1,List.take_succ_cons,a6r];exact i3
   ·rw [he,a6s c.1,List.take_succ_cons]
    intro d hd
    rcases List.mem_cons.1 hd with e | hd
    ·rw [e];exact c.2
    ·exact i4 d hd
  ·rw [b6a c,W2 (fun q=>c ⟨q.1,by
    have:=b0b.1 q.2
    have h1:=b5c (s:=s) (p:=p) (by omega)
    have h2:=(a6e h1).1
    omega⟩)]
   refine ⟨Nat.le_refl _,by dsimp only;omega,?_,fun c hc=>?_,rfl⟩
   ·dsimp only;rw [Nat.sub_self,List.take_zero];rfl
   ·dsimp only at hc;rw [Nat.sub_self,List.take_zero] at hc;cases hc
end
set_option maxHeartbeats 1000000
theorem b9W{n n' b0 b1 b2 b3 c1 c2 c3:Nat}(h:n'≤n)(h0:1≤n')(h1:1 < n'→c1=b1)(h2:2 < n'→c2=b2)(h3:3 < n'→c3=b3)(hw:(Lib.decodeN n b0 b1 b2 b3).2≤n'):Lib.decodeN n' b0 c1 c2 c3=Lib.decodeN n b0 b1 b2 b3:=by
 by_cases a0:b0 < 128
 ·unfold Lib.decodeN;rw [if_pos a0,if_pos a0]
 by_cases k4:3 < n'
 ·rw [h1 (by omega),h2 (by omega),h3 k4]
  unfold Lib.decodeN
  simp only [show (1 < n')=(1 < n) from propext ⟨fun _=>by omega,fun _=>by omega⟩,show (2 < n')=(2 < n) from propext ⟨fun _=>by omega,fun _=>by omega⟩,show (3 < n')=(3 < n) from propext ⟨fun _=>by omega,fun _=>by omega⟩]
 ·have n3:¬3 < n':=k4
  unfold Lib.decodeN at hw ⊢
  rw [if_neg a0] at hw ⊢
  rw [if_neg a0]
  by_cases k3:2 < n'
  ·rw [h1 (by omega),h2 k3]
   simp only [show (1 < n')=True from eq_true (by omega),show (2 < n')=True from eq_true k3,show (3 < n')=False from eq_false n3,show (1 < n)=True from eq_true (by omega),show (2 < n)=True from eq_true (by omega),true_and,false_and,and_false,if_false] at hw ⊢
   split
   ·rfl
   ·rename_i q1
    rw [if_neg q1] at hw
    split
    ·rfl
    ·rename_i q2
     rw [if_neg q2] at hw
     split
     ·rename_i q3
      rw [if_pos q3] at hw
      split
      ·rename_i q4;rw [if_pos q4] at hw;dsimp only at hw;omega
      ·rfl
     ·rfl
  ·by_cases k2:1 < n'
   ·rw [h1 k2]
    simp only [show (1 < n')=True from eq_true k2,show (2 < n')=False from eq_false k3,show (3 < n')=False from eq_false n3,show (1 < n)=True from eq_true (by omega),true_and,false_and,and_false,if_false] at hw ⊢
    split
    ·rfl
    ·rename_i q1
     rw [if_neg q1] at hw
     split
     ·rename_i q2
      rw [if_pos q2] at hw
      split
      ·rename_i q4;rw [if_pos q4] at hw;dsimp only at hw;omega
      ·rfl
     ·rename_i q2
      rw [if_neg q2] at hw
      split
      ·rename_i q3
       rw [if_pos q3] at hw
       split
       ·rename_i q4;rw [if_pos q4] at hw;dsimp only at hw;omega
       ·rfl
      ·rfl
   ·simp only [show (1 < n')=False from eq_false k2,show (2 < n')=False from eq_false k3,show (3 < n')=False from eq_false n3,false_and,and_false,if_false] at hw ⊢
    split
    ·rename_i q1
     rw [if_pos q1] at hw
     split
     ·rename_i q4;rw [if_pos q4] at hw;dsimp only at hw;omega
     ·rfl
    ·rename_i q1
     rw [if_neg q1] at hw
     split
     ·rename_i q2
      rw [if_pos q2] at hw
      split
      ·rename_i q4;rw [if_pos q4] at hw;dsimp only at hw;omega
      ·rfl
     ·rename_i q2
      rw [if_neg q2] at hw
      split
      ·rename_i q3
       rw [if_pos q3] at hw
       split
       ·rename_i q4;rw [if_pos q4] at hw;dsimp only at hw;omega
       ·rfl
      ·rfl
section
variable {s:ByteArray}
theorem a4k{p e:Nat}(h:p≤e)(he:e≤s.size):(s.extract p e).size=e-p:=by
 rw [ByteArray.size_extract];omega
theorem b0M{p e i:Nat}(he:e≤s.size)(hi:p+i < e):(s.extract p e).get! i=s.get! (p+i):=by
 have h1:i < (s.extract p e).size:=by rw [ByteArray.size_extract];omega
 have h2:(s.extract p e).data.toList[i]? = some ((s.extract p e).get! i):=b0L h1
 rw [ByteArray.data_extract,Array.toList_extract,List.extract_eq_take_drop,List.getElem?_take_of_lt (by omega),List.getElem?_drop,b0L (by omega)] at h2
 exact (Option.some.inj h2).symm
theorem b1x{p e i:Nat}(he:e≤s.size)(hi:p+i < e)(hw:p+i+wd s (p+i)≤e):Utf8.decode (s.extract p e) i=Utf8.decode s (p+i):=by
 have hz:(s.extract p e).size=e-p:=a4k (by omega) he
 have hw':(Utf8.decode s (p+i)).2≤(s.extract p e).size-i:=by
  rw [hz]
  have:wd s (p+i)≤e-p-i:=by omega
  exact this
 rw [Lib.decode_at s (p+i)] at hw' ⊢
 rw [Lib.decode_at (s.extract p e) i]
 rw [b0M he hi]
 refine b9W (by omega) (by omega) (fun q=>?_) (fun q=>?_) (fun q=>?_) hw'
 ·rw [show p+i+1=p+(i+1) by omega,b0M he (by omega)]
 ·rw [show p+i+2=p+(i+2) by omega,b0M he (by omega)]
 ·rw [show p+i+3=p+(i+3) by omega,b0M he (by omega)]
end
section
variable (s:ByteArray)
def cntF(is:Int→Bool):Nat→Nat→Nat→Nat
 | 0,_,n=>n
 | f+1,p,n=>if p < s.size∧is (rn s p)=true then cntF is f (p+wd s p) (n+1) else n
theorem b8x(is:Int→Bool):∀(f g p n:Nat),s.size-p≤f→s.size-p≤g→cntF s is f p n=cntF s is g p n
 | 0,0,_,_,_,_=>rfl
 | 0,g+1,p,n,h,_=>by rw [cntF,cntF,if_neg (by omega)]
 | f+1,0,p,n,_,h=>by rw [cntF,cntF,if_neg (by omega)]
 | f+1,g+1,p,n,h,h'=>by
  rw [cntF,cntF]
  have:=O2 s p
  split
  ·rw [b8x is f g _ _ (by omega) (by omega)]
  ·rfl
def cnt(is:Int→Bool)(p n:Nat):Nat:=cntF s is (s.size-p) p n
variable {s}
theorem b8y{is:Int→Bool}{p n:Nat}(hp:p < s.size)(hi:is (rn s p)=true):cnt s is p n=cnt s is (p+wd s p) (n+1):=by
 have:=O2 s p
 obtain ⟨m,hm⟩:∃m,s.size-p=m+1:=⟨s.size-p-1,by omega⟩
 unfold cnt
 rw [hm,cntF,if_pos ⟨hp,hi⟩,b8x s is m (s.size-(p+wd s p)) _ _ (by omega) (by omega)]
theorem b1y{is:Int→Bool}{p n:Nat}(h:¬(p < s.size∧is (rn s p)=true)):cnt s is p n=n:=by
 unfold cnt
 cases s.size-p with
 | zero=>rw [cntF]
 | succ f=>rw [cntF,if_neg h]
theorem Go2.size{p q:Nat}{a b:Int×Int}(h:Go2 s p a q b)(hp:p≤s.size):q≤s.size:=by
 induction h with
 | refl=>exact hp
 | step hq _ ih=>exact ih (a5y hq)
theorem b6K{is:Int→Bool}{p e:Nat}:∀(n q m:Nat)(a:Int×Int),s.size-q≤n→p≤q→q≤s.size→(Wr s is q a).1=e→(runes (s.extract p e) (e-q) (q-p)).length+m=cnt s is q m
 | 0,q,m,a,h,h1,h2,he=>by
  rw [W2 (by omega)] at he
  dsimp only at he
  subst he
  rw [b1y (by omega),Nat.sub_self,runes]
  exact Nat.zero_add _
 | n+1,q,m,a,h,h1,h2,he=>by
  by_cases c:q < s.size∧is (rn s q)=true
  ·have hw:=O2 s q
   have hl:=a5y c.1
   rw [a1J c.1 c.2] at he
   have hg:=a3I (s:=s) is _ (q+wd s q) (stepP a (rn s q)) (Nat.le_refl _)
   have h3:=hg.le
   have h4:=hg.size hl
   rw [he] at h3 h4
   have ih:=b6K (p:=p) n (q+wd s q) (m+1) _ (by omega) (by omega) hl he
   have hz:(s.extract p e).size=e-p:=a4k (by omega) h4
   have hd:Utf8.decode (s.extract p e) (q-p)=Utf8.decode s q:=by
    have:=b1x (s:=s) (p:=p) (e:=e) (i:=q-p) h4 (by omega) (by rw [show p+(q-p)=q by omega];exact h3)
    rw [this,show p+(q-p)=q by omega]
   obtain ⟨k,hk⟩:∃k,e-q=k+1:=⟨e-q-1,by omega⟩
   rw [b8y c.1 c.2,← ih,hk,runes,if_pos (by omega),hd,List.length_cons]
   rw [show q-p+(Utf8.decode s q).2=q+wd s q-p by show q-p+wd s q=_;omega]
   rw [b2o (s.extract p e) k (e-(q+wd s q)) _ (by omega) (by omega)]
   omega
  ·rw [W2 c] at he
   dsimp only at he
   subst he
   rw [b1y c,Nat.sub_self,runes]
   exact Nat.zero_add _
theorem b3J{is:Int→Bool}{p:Nat}{a:Int×Int}(hp:p≤s.size):(runesOf (s.extract p (Wr s is p a).1)).length=cnt s is p 0:=by
 have hg:=a3I (s:=s) is _ p a (Nat.le_refl _)
 have hz:=a4k hg.le (hg.size hp)
 have:=b6K (s:=s) (is:=is) (p:=p) (e:=(Wr s is p a).1) _ p 0 a (Nat.le_refl _) (Nat.le_refl _) hp rfl
 rw [Nat.sub_self] at this
 unfold runesOf
 rw [hz]
 exact this
end
structure Tk where
 kind:Int
 text:ByteArray
 num:Int
 at_:Int×Int
structure On where
 kind:Int
 text:ByteArray
 num:Int
 stop:Nat
 err:Int
def On.bad(e:Int):On:=⟨0,⟨#[]⟩,0,0,e⟩
section
variable (s:ByteArray)
def two(p:Nat):Prop:=p+1 < s.size∧((by8 s p=61∧by8 s (p+1)=61)∨(by8 s p=33∧by8 s (p+1)=61)∨(by8 s p=60∧by8 s (p+1)=61)∨(by8 s p=62∧by8 s (p+1)=61)∨(by8 s p=38∧by8 s (p+1)=38)∨(by8 s p=124∧by8 s (p+1)=124))
instance (p:Nat):Decidable (two s p):=by unfold two;infer_instance
def signO(p:Nat):On:=
 if two s p then ⟨4,s.extract p (p+2),0,p+2,0⟩
 else if by8 s p=38∨by8 s p=124 then .bad 20 else ⟨4,s.extract p (p+1),0,p+1,0⟩
def wordO(p:Nat):On:=
 if wordS (s.extract p (Wr s goesS p (0,0)).1)=true then ⟨3,s.extract p (Wr s goesS p (0,0)).1,0,(Wr s goesS p (0,0)).1,0⟩
 else if 32 < cnt s goesS p 0 then .bad 22 else ⟨1,s.extract p (Wr s goesS p (0,0)).1,0,(Wr s goesS p (0,0)).1,0⟩
def numO(p:Nat):On:=
 if 9223372036854775808≤(dg s p 0).2∨(by8 s p=48∧1 < (dg s p 0).1-p)∨((dg s p 0).1 < s.size∧classS (rn s (dg s p 0).1)=3) then .bad 21
 else ⟨2,s.extract p (dg s p 0).1,((dg s p 0).2:Int),(dg s p 0).1,0⟩
def oneO(p:Nat):On:=if classS (rn s p)=3 then wordO s p else if classS (rn s p)=4 then numO s p else if classS (rn s p)=5 then signO s p else .bad 20
def mvF(z:Nat):Nat→Nat→Int×Int→Int×Int
 | 0,_,a=>a
 | f+1,p,a=>if p < z then mvF z f (p+wd s p) (stepP a (rn s p)) else a
def mv(p z:Nat)(a:Int×Int):Int×Int:=mvF s z (z-p) p a
theorem c0S(z:Nat):∀(f g p:Nat)(a:Int×Int),z-p≤f→z-p≤g→mvF s z f p a=mvF s z g p a
 | 0,0,_,_,_,_=>rfl
 | 0,g+1,p,a,h,_=>by rw [mvF,mvF,if_neg (by omega)]
 | f+1,0,p,a,_,h=>by rw [mvF,mvF,if_neg (by omega)]
 | f+1,g+1,p,a,h,h'=>by
  rw [mvF,mvF]
  have:=O2 s p
  split
  ·rw [c0S z f g _ _ (by omega) (by omega)]
  ·rfl
variable {s}
theorem c8X{p z:Nat}{a:Int×Int}(h:p < z):mv s p z a=mv s (p+wd s p) z (stepP a (rn s p)):=by
 have:=O2 s p
 obtain ⟨m,hm⟩:∃m,z-p=m+1:=⟨z-p-1,by omega⟩
 unfold mv
 rw [hm,mvF,if_pos h,c0S s z m (z-(p+wd s p)) _ _ (by omega) (by omega)]
theorem b6b{p z:Nat}{a:Int×Int}(h:¬p < z):mv s p z a=a:=by
 unfold mv
 rw [show z-p=0 by omega,mvF]
theorem c1Y{p q:Nat}{a b:Int×Int}(h:Go2 s p a q b):mv s p q a=b:=by
 induction h with
 | refl=>exact b6b (Nat.lt_irrefl _)
 | @step p q a b hp h ih=>
  have h1:=h.le
  have h2:=O2 s p
  rw [c8X (by omega)]
  exact ih
variable (s)
def tkF:Nat→Nat→Int×Int→List Tk→List Tk×(Int×Int)×Int
 | 0,_,_,_=>([],(0,0),0)
 | f+1,p,a,out=>
  if ¬sk s p < s.size then (out++[⟨5,⟨#[]⟩,0,mv s p (sk s p) a⟩],(0,0),0)
  else if out.length=32768 then ([],mv s p (sk s p) a,23)
  else if (oneO s (sk s p)).err≠0 then ([],mv s p (sk s p) a,(oneO s (sk s p)).err)
  else tkF f (oneO s (sk s p)).stop (mv s (sk s p) (oneO s (sk s p)).stop (mv s p (sk s p) a)) (out++[⟨(oneO s (sk s p)).kind,(oneO s (sk s p)).text,(oneO s (sk s p)).num,mv s p (sk s p) a⟩])
def tkS:List Tk×(Int×Int)×Int:=
 if 65536 < s.size then ([],(1,1),10)
 else match chkAt s 0 with
  | some n=>([],mv s 0 n (1,1),11)
  | none=>tkF s (s.size+1) 0 (1,1) []
end
section
variable {H:Hp}
theorem c8Y(a b:Nat)(h:a+b≤4398046511104):IntKind.wrap .i64 ((a:Int)+(b:Int))=((a+b:Nat):Int):=by
 rw [X9 ⟨by omega,by omega⟩];omega
end
abbrev plv(b:Int×Int):c8:=c8.mk b.1 b.2
def Pl(a:Int×Int)(p:Nat):Prop:=1≤a.1∧a.1≤p+1∧1≤a.2∧a.2≤p+1
section
variable {s:ByteArray}
theorem Pl.step{a:Int×Int}{p:Nat}(h:Pl a p):Pl (stepP a (rn s p)) (p+wd s p):=by
 have:=O2 s p
 unfold Pl at h ⊢
 unfold stepP
 split<;>(dsimp only;omega)
theorem Go2.pl{p q:Nat}{a b:Int×Int}(h:Go2 s p a q b):Pl a p→Pl b q:=by
 induction h with
 | refl=>exact id
 | step _ _ ih=>exact fun k=>ih k.step
theorem Pl0:Pl (1,1) 0:=⟨by decide,by decide,by decide,by decide⟩
theorem d4l{n:Nat}:∀{p:Nat}(a:Int×Int),s.size-p≤n→∃b,Go2 s p a (sk s p) b:=by
 induction n with
 | zero=>intro p a h;rw [a3Q (.inl (by omega))];exact ⟨a,.refl⟩
 | succ n ih=>
  intro p a h
  by_cases hp:p < s.size
  ·by_cases c:by8 s p=35
   ·have h1:=b5d hp c
    have h2:=a3I (s:=s) notNl _ p a (Nat.le_refl _)
    rw [←c1W _ p a (Nat.le_refl _)] at h2
    obtain ⟨b,hb⟩:=ih (p:=nl s p) (Wr s notNl p a).2 (by omega)
    rw [b5Z hp c]
    exact ⟨b,h2.trans hb⟩
   ·by_cases d:blankS (rn s p)=true
    ·have:=O2 s p
     obtain ⟨b,hb⟩:=ih (p:=p+wd s p) (stepP a (rn s p)) (by omega)
     rw [b1w hp c d]
     exact ⟨b,.step hp hb⟩
    ·rw [a3Q (.inr ⟨c,by simpa using d⟩)];exact ⟨a,.refl⟩
  ·rw [a3Q (.inl hp)];exact ⟨a,.refl⟩
theorem b3e{p:Nat}(hp:p≤s.size):p≤sk s p∧sk s p≤s.size:=by
 obtain ⟨b,h⟩:=d4l (s:=s) (p:=p) (0,0) (Nat.le_refl _)
 exact ⟨h.le,h.size hp⟩
theorem d2h{n:Nat}:∀{p:Nat},s.size-p≤n→sk s p < s.size→by8 s (sk s p)≠35∧blankS (rn s (sk s p))=false:=by
 induction n with
 | zero=>intro p h k;rw [a3Q (.inl (by omega))] at k;omega
 | succ n ih=>
  intro p h
  by_cases hp:p < s.size
  ·by_cases c:by8 s p=35
   ·have h1:=b5d hp c
    rw [b5Z hp c]
    exact ih (by omega)
   ·by_cases d:blankS (rn s p)=true
    ·have:=O2 s p
     rw [b1w hp c d]
     exact ih (by omega)
    ·intro _
     rw [a3Q (.inr ⟨c,by simpa using d⟩)]
     exact ⟨c,by simpa using d⟩
  ·intro k;rw [a3Q (.inl hp)] at k;omega
theorem c4a{p:Nat}(a:Int×Int)(hp:p < s.size)(h:by8 s p < 128):∃b,Go2 s p a (p+1) b:=by
 have:=Go2.one (s:=s) (a:=a) hp
 rw [(a6e h).2] at this
 exact ⟨_,this⟩
theorem b6L{p:Nat}(h:classS (rn s p)=5):by8 s p < 128:=by
 refine b5c ?_
 unfold classS at h
 split at h
 ·cases h
 ·split at h
  ·cases h
  ·split at h
   ·rename_i q;unfold signR at q;omega
   ·split at h
    ·cases h
    ·split at h
     ·cases h
     ·split at h<;>cases h
theorem d2i{p:Nat}(a:Int×Int)(hp:p < s.size)(h:(oneO s p).err=0):∃b,Go2 s p a (oneO s p).stop b:=by
 unfold oneO at h ⊢
 split at h
 ·rename_i c
  rw [if_pos c]
  have g:=a3I (s:=s) goesS _ p (0,0) (Nat.le_refl _)
  obtain ⟨b,hb⟩:∃b,Go2 s p a (Wr s goesS p (0,0)).1 b:=by
   have:=a3I (s:=s) goesS _ p a (Nat.le_refl _)
   have e:(Wr s goesS p a).1=(Wr s goesS p (0,0)).1:=by
    have:∀(f q:Nat)(a b:Int×Int),(whl s goesS f q a).1=(whl s goesS f q b).1:=by
     intro f
     induction f with
     | zero=>intro q a b;rw [whl,whl]
     | succ f ih=>
      intro q a b
      rw [whl,whl]
      split
      ·exact ih _ _ _
      ·rfl
    exact this _ _ _ _
   rw [e] at this
   exact ⟨_,this⟩
  unfold wordO at h ⊢
  split at h
  ·rename_i d;rw [if_pos d];exact ⟨b,hb⟩
  ·rename_i d
   rw [if_neg d]
   split at h
   ·cases h
   ·rename_i e;rw [if_neg e];exact ⟨b,hb⟩
 ·rename_i c
  rw [if_neg c]
  split at h
  ·rename_i c2
   rw [if_pos c2]
   unfold numO at h ⊢
   split at h
   ·cases h
   ·rename_i d
    rw [if_neg d]
    have g:=a3I (s:=s) digitR _ p a (Nat.le_refl _)
    rw [(b3d _ p 0 a (Nat.le_refl _)).2.2.2.2] at g
    exact ⟨_,g⟩
  ·rename_i c2
   rw [if_neg c2]
   split at h
   ·rename_i c3
    rw [if_pos c3]
    have ha:=b6L c3
    obtain ⟨b,hb⟩:=c4a a hp ha
    unfold signO at h ⊢
    split at h
    ·rename_i d
     rw [if_pos d]
     unfold two at d
     obtain ⟨b2,hb2⟩:=c4a (s:=s) (p:=p+1) b d.1 (by omega)
     exact ⟨b2,hb.trans hb2⟩
    ·rename_i d
     rw [if_neg d]
     split at h
     ·cases h
     ·rename_i e;rw [if_neg e];exact ⟨b,hb⟩
   ·cases h
theorem d2j{n:Nat}:∀{p q:Nat}(a:Int×Int),s.size-p≤n→chkAt s p=some q→q < s.size∧∃b,Go2 s p a q b:=by
 induction n with
 | zero=>intro p q a h k;rw [a0x s p (by omega)] at k;cases k
 | succ n ih=>
  intro p q a h k
  by_cases hp:p < s.size
  ·rw [a3p s p hp] at k
   split at k
   ·cases k;exact ⟨hp,a,.refl⟩
   ·have:=O2 s p
    obtain ⟨h1,b,h2⟩:=ih (stepP a (rn s p)) (by show s.size-(p+wd s p)≤n;omega) k
    exact ⟨h1,b,.step hp h2⟩
  ·rw [a0x s p (by omega)] at k;cases k
end
section
variable {H:Hp}{s:ByteArray}(hs:s.size≤big)
include hs
end
abbrev tokO(o:On):b7:=b7.mk o.kind o.text o.num (c8.mk 0 0)
abbrev tkv(t:Tk):b7:=b7.mk t.kind t.text t.num (plv t.at_)
theorem w8{a:Int}(h0:0≤a)(h1:a < 256):IntKind.wrap .u8 a=a:=by
 simp [IntKind.wrap,IntKind.bits,IntKind.signed];omega
section
variable {s:ByteArray}
theorem c7A{p v:Nat}(hp:p≤s.size):p≤(dg s p v).1∧(dg s p v).1≤s.size:=by
 have h:=b3d (s:=s) _ p v (0,0) (Nat.le_refl _)
 have:=h.2.1
 exact ⟨h.1,by omega⟩
theorem d5Y{p:Nat}(h:p+2≤s.size):s.extract p (p+2)=⟨#[s.get! p,s.get! (p+1)]⟩:=by
 apply ByteArray.ext
 apply Array.toList_inj.1
 rw [ByteArray.data_extract,Array.toList_extract,List.extract_eq_take_drop,a6s (by omega),a6s (by omega),show p+2-p=2 by omega]
 rfl
theorem b8z{p:Nat}(h:p+2≤s.size)(x y:UInt8):s.extract p (p+2)=⟨#[x,y]⟩↔by8 s p=x.toNat∧by8 s (p+1)=y.toNat:=by
 rw [d5Y h]
 unfold by8
 rw [UInt8.toNat_inj,UInt8.toNat_inj]
 constructor
 ·intro e
  injection e with e
  have e:=congrArg Array.toList e
  injection e with e1 e2
  injection e2 with e2 _
  exact ⟨e1,e2⟩
 ·rintro ⟨e1,e2⟩;rw [e1,e2]
end
section
variable {H:Hp}{s:ByteArray}(hs:s.size≤big)
include hs
end
section
variable {H:Hp}{s:ByteArray}(hs:s.size≤big)
include hs
end
section
variable {s:ByteArray}
theorem a9H{p:Nat}(hp:p < s.size)(h:(oneO s p).err=0):p < (oneO s p).stop∧(oneO s p).stop≤s.size:=by
 obtain ⟨b,g⟩:=d2i (0,0) hp h
 refine ⟨?_,g.size (by omega)⟩
 have hw:=O2 s p
 rcases Nat.lt_or_ge p (oneO s p).stop with q | q
 ·exact q
 exfalso
 unfold oneO at h q
 split at h
 ·rename_i c
  rw [if_pos c] at q
  have e:=a1J (s:=s) (is:=goesS) (a:=(0,0)) hp (by unfold goesS;rw [decide_eq_true c];rfl)
  have g2:=(a3I (s:=s) goesS _ (p+wd s p) (stepP (0,0) (rn s p)) (Nat.le_refl _)).le
  unfold wordO at h q
  split at h
  ·rename_i d;rw [if_pos d,e] at q;dsimp only at q;omega
  ·rename_i d
   rw [if_neg d] at q
   split at h
   ·cases h
   ·rename_i d2;rw [if_neg d2,e] at q;dsimp only at q;omega
 ·rename_i c
  rw [if_neg c] at q
  split at h
  ·rename_i c2
   rw [if_pos c2] at q
   unfold numO at h q
   split at h
   ·cases h
   ·rename_i d
    rw [if_neg d] at q
    dsimp only at q
    have hd:=b0b.1 (show digitR (rn s p)=true by unfold digitR;rw [decide_eq_true c2])
    have ha:=b5c (s:=s) (p:=p) (by omega)
    have hr:=(a6e ha).1
    rw [b3c hp (by omega)] at q
    have:=(c7A (s:=s) (p:=p+1) (v:=0*10+(by8 s p-48)) (by omega)).1
    omega
  ·rename_i c2
   rw [if_neg c2] at q
   split at h
   ·rename_i c3
    rw [if_pos c3] at q
    unfold signO at h q
    split at h
    ·rename_i d;rw [if_pos d] at q;dsimp only at q;omega
    ·rename_i d
     rw [if_neg d] at q
     split at h
     ·cases h
     ·rename_i d2;rw [if_neg d2] at q;dsimp only at q;omega
   ·cases h
theorem c8Z:∀(f g p:Nat)(a:Int×Int)(out:List Tk),s.size+1-p≤f→s.size+1-p≤g→p≤s.size→tkF s f p a out=tkF s g p a out:=by
 intro f
 induction f with
 | zero=>intro g p a out h1 h2 hp;omega
 | succ f ih=>
  intro g p a out h1 h2 hp
  cases g with
  | zero=>omega
  | succ g=>
   rw [tkF,tkF]
   obtain ⟨k1,k2⟩:=b3e hp
   split
   ·rfl
   ·rename_i c
    split
    ·rfl
    ·split
     ·rfl
     ·rename_i c2
      have:=a9H (p:=sk s p) (by omega) (Classical.byContradiction fun x=>c2 x)
      exact ih _ _ _ _ (by omega) (by omega) (by omega)
end
section
variable {H:Hp}{s:ByteArray}(hs:s.size≤big)
include hs
end
end Go.Proofs.YtoflkliecagjcaaGreatDoor
