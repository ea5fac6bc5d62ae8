/-  -/
import GoSem.Core.Utf8
namespace Go.Proofs.YtnhdnncbjddmjaaGreatDoor
def refTail(s:ByteArray)(p n:Nat):Nat→Nat→Nat→Option Nat
 | 0,_,v=>some v
 | fuel+1,i,v=>if i < n then
   (if p+i < s.size∧128≤(s.get! (p+i)).toNat∧(s.get! (p+i)).toNat < 192 then refTail s p n fuel (i+1) (64*v+(s.get! (p+i)).toNat-128) else none)
  else some v
def refFin(least n:Nat):Option Nat→Nat×Nat×Bool
 | none=>(65533,1,false)
 | some v=>if v < least∨1114111 < v∨(55296≤v∧v < 57344) then (65533,1,false) else (v,n,true)
theorem b3K{least n v:Nat}(h:v < least∨1114111 < v∨(55296≤v∧v < 57344)):refFin least n (some v)=(65533,1,false):=if_pos h
theorem b2G{least n v:Nat}(h:¬(v < least∨1114111 < v∨(55296≤v∧v < 57344))):refFin least n (some v)=(v,n,true):=if_neg h
def refRune(s:ByteArray)(p:Nat):Nat×Nat×Bool:=
 let c:=(s.get! p).toNat
 if c < 128 then (c,1,true)
 else if 194≤c∧c < 224 then refFin 128 2 (refTail s p 2 3 1 (c-192))
 else if 224≤c∧c < 240 then refFin 2048 3 (refTail s p 3 3 1 (c-224))
 else if 240≤c∧c < 245 then refFin 65536 4 (refTail s p 4 3 1 (c-240))
 else (65533,1,false)
theorem b7r(s:ByteArray)(p n f i v:Nat)(h:i < n)(hf:0 < f):refTail s p n f i v =
  (if p+i < s.size∧128≤(s.get! (p+i)).toNat∧(s.get! (p+i)).toNat < 192 then refTail s p n (f-1) (i+1) (64*v+(s.get! (p+i)).toNat-128) else none):=by
 obtain ⟨f,rfl⟩:∃g,f=g+1:=⟨f-1,by omega⟩
 simp [refTail,h]
theorem contB(i n c:Nat)(hc:c < 256):(decide (i < n)&&c / 64 == 2)=decide (i < n∧128≤c∧c < 192):=by
 rw [Bool.eq_iff_iff];simp;omega
theorem b2g(v:Nat):Utf8.valid (v:Int)=decide (v < 55296∨(57344≤v∧v≤1114111)):=by
 rw [Bool.eq_iff_iff];simp [Utf8.valid];omega
def decN(c c1 c2 c3:Nat)(A1 A2 A3:Bool):Nat×Nat:=
 if c < 128 then (c,1)
 else if c / 32 == 6&&A1 then (if c % 32*64+c1 % 64 ≥ 128 then (c % 32*64+c1 % 64,2) else (65533,1))
 else if c / 16 == 14&&A1&&A2 then
  (if decide (c % 16*4096+c1 % 64*64+c2 % 64 ≥ 2048)&&Utf8.valid ↑(c % 16*4096+c1 % 64*64+c2 % 64) then (c % 16*4096+c1 % 64*64+c2 % 64,3) else (65533,1))
 else if c / 8 == 30&&A1&&A2&&A3 then
  (if decide (c % 8*262144+c1 % 64*4096+c2 % 64*64+c3 % 64 ≥ 65536)&&Utf8.valid ↑(c % 8*262144+c1 % 64*4096+c2 % 64*64+c3 % 64) then (c % 8*262144+c1 % 64*4096+c2 % 64*64+c3 % 64,4) else (65533,1))
 else (65533,1)
def refN(c c1 c2 c3:Nat)(A1 A2 A3:Bool):Nat×Nat×Bool:=
 if c < 128 then (c,1,true)
 else if 194≤c∧c < 224 then refFin 128 2 (if A1 then some (64*(c-192)+c1-128) else none)
 else if 224≤c∧c < 240 then refFin 2048 3 (if A1 then (if A2 then some (64*(64*(c-224)+c1-128)+c2-128) else none) else none)
 else if 240≤c∧c < 245 then refFin 65536 4 (if A1 then (if A2 then (if A3 then some (64*(64*(64*(c-240)+c1-128)+c2-128)+c3-128) else none) else none) else none)
 else (65533,1,false)
theorem b5a(c c1 c2 c3:Nat)(A1 A2 A3:Bool)(h0:c < 256)(h1:A1=true→128≤c1∧c1 < 192)(h2:A2=true→128≤c2∧c2 < 192)(h3:A3=true→128≤c3∧c3 < 192):
  refN c c1 c2 c3 A1 A2 A3=((decN c c1 c2 c3 A1 A2 A3).1,(decN c c1 c2 c3 A1 A2 A3).2,!decide ((decN c c1 c2 c3 A1 A2 A3).1=65533∧(decN c c1 c2 c3 A1 A2 A3).2=1)):=by
 have key:∀(x:Nat×Nat)(y:Nat×Nat×Bool),y.1=x.1→y.2.1=x.2→(y.2.2=true↔¬(x.1=65533∧x.2=1))→y=(x.1,x.2,!decide (x.1=65533∧x.2=1)):=by
  rintro ⟨a,b⟩ ⟨d,e,f⟩ h1 h2 h3
  simp only at h1 h2 h3
  subst h1 h2
  have:f = !decide (d=65533∧e=1):=by
   rw [Bool.eq_iff_iff,h3];simp only [Bool.not_eq_true',decide_eq_false_iff_not]
  rw [this]
 have e6:(c / 32 == 6)=decide (192≤c∧c < 224):=by rw [Bool.eq_iff_iff];simp;omega
 have e14:(c / 16 == 14)=decide (224≤c∧c < 240):=by rw [Bool.eq_iff_iff];simp;omega
 have e30:(c / 8 == 30)=decide (240≤c∧c < 248):=by rw [Bool.eq_iff_iff];simp;omega
 have P:∀(x:Nat×Nat)(y:Nat×Nat×Bool),(y.1=x.1∧y.2.1=x.2∧(y.2.2=true↔¬(x.1=65533∧x.2=1)))→y=(x.1,x.2,!decide (x.1=65533∧x.2=1)):=
  fun x y h=>key x y h.1 h.2.1 h.2.2
 apply P
 unfold refN decN refFin
 rw [e6,e14,e30,b2g,b2g]
 clear e6 e14 e30 P key
 cases A1<;>cases A2<;>cases A3<;>simp only [Bool.and_true,Bool.and_false,Bool.false_eq_true,if_true,if_false,false_implies,decide_eq_true_eq,Bool.and_eq_true,forall_const] at h1 h2 h3 ⊢ <;>
  (repeat' split)<;>simp only [true_and,and_true,Bool.false_eq_true,not_false_eq_true,false_iff,true_iff,not_and,Classical.not_not,Nat.reduceEqDiff]<;>(try dsimp only at *)<;>first | omega | exact ⟨by omega,fun _=>trivial⟩
theorem b5b(s:ByteArray)(p:Nat):refRune s p=refN (s.get! p).toNat (s.get! (p+1)).toNat (s.get! (p+2)).toNat (s.get! (p+3)).toNat
  (decide (p+1 < s.size∧128≤(s.get! (p+1)).toNat∧(s.get! (p+1)).toNat < 192)) (decide (p+2 < s.size∧128≤(s.get! (p+2)).toNat∧(s.get! (p+2)).toNat < 192))
  (decide (p+3 < s.size∧128≤(s.get! (p+3)).toNat∧(s.get! (p+3)).toNat < 192)):=by
 unfold refRune refN
 simp only [refTail,Nat.reduceLT,Nat.reduceAdd,if_true,if_false,Nat.lt_irrefl,decide_eq_true_eq]
theorem decode_N(s:ByteArray)(p:Nat):Utf8.decode s p=decN (s.get! p).toNat (s.get! (p+1)).toNat (s.get! (p+2)).toNat (s.get! (p+3)).toNat
  (decide (p+1 < s.size∧128≤(s.get! (p+1)).toNat∧(s.get! (p+1)).toNat < 192)) (decide (p+2 < s.size∧128≤(s.get! (p+2)).toNat∧(s.get! (p+2)).toNat < 192))
  (decide (p+3 < s.size∧128≤(s.get! (p+3)).toNat∧(s.get! (p+3)).toNat < 192)):=by
 unfold Utf8.decode decN
 rw [←contB _ _ _ (UInt8.toNat_lt (s.get! (p+1))),← contB _ _ _ (UInt8.toNat_lt (s.get! (p+2))),← contB _ _ _ (UInt8.toNat_lt (s.get! (p+3)))]
 rfl
theorem a9I(s:ByteArray)(p:Nat):
  refRune s p=((Utf8.decode s p).1,(Utf8.decode s p).2,!decide ((Utf8.decode s p).1=65533∧(Utf8.decode s p).2=1)):=by
 rw [b5b,decode_N]
 exact b5a _ _ _ _ _ _ _ (UInt8.toNat_lt _) (fun h=>(of_decide_eq_true h).2) (fun h=>(of_decide_eq_true h).2) (fun h=>(of_decide_eq_true h).2)
theorem a7u(c c1 c2 c3:Nat)(A1 A2 A3:Bool):(decN c c1 c2 c3 A1 A2 A3).2=1∨((decN c c1 c2 c3 A1 A2 A3).2=2∧A1=true)∨((decN c c1 c2 c3 A1 A2 A3).2=3∧A2=true)∨((decN c c1 c2 c3 A1 A2 A3).2=4∧A3=true):=by
 unfold decN
 cases A1<;>cases A2<;>cases A3<;>simp only [Bool.and_true,Bool.and_false,Bool.false_eq_true,if_false]<;>(repeat' split)<;>simp
theorem R6(s:ByteArray)(p:Nat):1≤(Utf8.decode s p).2:=by
 rw [decode_N]
 rcases a7u (s.get! p).toNat (s.get! (p+1)).toNat (s.get! (p+2)).toNat (s.get! (p+3)).toNat
  (decide (p+1 < s.size∧128≤(s.get! (p+1)).toNat∧(s.get! (p+1)).toNat < 192)) (decide (p+2 < s.size∧128≤(s.get! (p+2)).toNat∧(s.get! (p+2)).toNat < 192))
  (decide (p+3 < s.size∧128≤(s.get! (p+3)).toNat∧(s.get! (p+3)).toNat < 192)) with h | h | h | h<;>omega
theorem b5c(s:ByteArray)(p:Nat)(hp:p < s.size):p+(Utf8.decode s p).2≤s.size:=by
 rw [decode_N]
 rcases a7u (s.get! p).toNat (s.get! (p+1)).toNat (s.get! (p+2)).toNat (s.get! (p+3)).toNat
  (decide (p+1 < s.size∧128≤(s.get! (p+1)).toNat∧(s.get! (p+1)).toNat < 192)) (decide (p+2 < s.size∧128≤(s.get! (p+2)).toNat∧(s.get! (p+2)).toNat < 192))
  (decide (p+3 < s.size∧128≤(s.get! (p+3)).toNat∧(s.get! (p+3)).toNat < 192)) with h | ⟨h,a⟩ | ⟨h,a⟩ | ⟨h,a⟩
 ·omega
 ·have:=of_decide_eq_true a;omega
 ·have:=of_decide_eq_true a;omega
 ·have:=of_decide_eq_true a;omega
theorem decode_le(s:ByteArray)(p:Nat):(Utf8.decode s p).2≤4:=by
 rw [decode_N]
 rcases a7u (s.get! p).toNat (s.get! (p+1)).toNat (s.get! (p+2)).toNat (s.get! (p+3)).toNat
  (decide (p+1 < s.size∧128≤(s.get! (p+1)).toNat∧(s.get! (p+1)).toNat < 192)) (decide (p+2 < s.size∧128≤(s.get! (p+2)).toNat∧(s.get! (p+2)).toNat < 192))
  (decide (p+3 < s.size∧128≤(s.get! (p+3)).toNat∧(s.get! (p+3)).toNat < 192)) with h | h | h | h<;>omega
def bad(s:ByteArray)(p:Nat):Prop:=(Utf8.decode s p).1=65533∧(Utf8.decode s p).2=1
instance (s:ByteArray) (p:Nat):Decidable (bad s p):=by unfold bad;infer_instance
end Go.Proofs.YtnhdnncbjddmjaaGreatDoor
