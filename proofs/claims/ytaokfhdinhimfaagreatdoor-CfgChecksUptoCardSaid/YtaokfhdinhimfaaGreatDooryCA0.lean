/-  -/
import GoSem.Core.Utf8
namespace Go.Proofs.YtaokfhdinhimfaaGreatDoor
theorem contB(i n c:Nat)(hc:c < 256):(decide (i < n)&&c / 64 == 2)=decide (i < n∧128≤c∧c < 192):=by
 rw [Bool.eq_iff_iff];simp;omega
def decN(c c1 c2 c3:Nat)(A1 A2 A3:Bool):Nat×Nat:=
 if c < 128 then (c,1)
 else if c / 32 == 6&&A1 then (if c % 32*64+c1 % 64 ≥ 128 then (c % 32*64+c1 % 64,2) else (65533,1))
 else if c / 16 == 14&&A1&&A2 then
  (if decide (c % 16*4096+c1 % 64*64+c2 % 64 ≥ 2048)&&Utf8.valid ↑(c % 16*4096+c1 % 64*64+c2 % 64) then (c % 16*4096+c1 % 64*64+c2 % 64,3) else (65533,1))
 else if c / 8 == 30&&A1&&A2&&A3 then
  (if decide (c % 8*262144+c1 % 64*4096+c2 % 64*64+c3 % 64 ≥ 65536)&&Utf8.valid ↑(c % 8*262144+c1 % 64*4096+c2 % 64*64+c3 % 64) then (c % 8*262144+c1 % 64*4096+c2 % 64*64+c3 % 64,4) else (65533,1))
 else (65533,1)
theorem decode_N(s:ByteArray)(p:Nat):Utf8.decode s p=decN (s.get! p).toNat (s.get! (p+1)).toNat (s.get! (p+2)).toNat (s.get! (p+3)).toNat
  (decide (p+1 < s.size∧128≤(s.get! (p+1)).toNat∧(s.get! (p+1)).toNat < 192)) (decide (p+2 < s.size∧128≤(s.get! (p+2)).toNat∧(s.get! (p+2)).toNat < 192))
  (decide (p+3 < s.size∧128≤(s.get! (p+3)).toNat∧(s.get! (p+3)).toNat < 192)):=by
 unfold Utf8.decode decN
 rw [←contB _ _ _ (UInt8.toNat_lt (s.get! (p+1))),← contB _ _ _ (UInt8.toNat_lt (s.get! (p+2))),← contB _ _ _ (UInt8.toNat_lt (s.get! (p+3)))]
 rfl
theorem c1g(c c1 c2 c3:Nat)(A1 A2 A3:Bool):(decN c c1 c2 c3 A1 A2 A3).2=1∨((decN c c1 c2 c3 A1 A2 A3).2=2∧A1=true)∨((decN c c1 c2 c3 A1 A2 A3).2=3∧A2=true)∨((decN c c1 c2 c3 A1 A2 A3).2=4∧A3=true):=by
 unfold decN
 cases A1<;>cases A2<;>cases A3<;>simp only [Bool.and_true,Bool.and_false,Bool.false_eq_true,if_false]<;>(repeat' split)<;>simp
theorem a5q(s:ByteArray)(p:Nat):1≤(Utf8.decode s p).2:=by
 rw [decode_N]
 rcases c1g (s.get! p).toNat (s.get! (p+1)).toNat (s.get! (p+2)).toNat (s.get! (p+3)).toNat
  (decide (p+1 < s.size∧128≤(s.get! (p+1)).toNat∧(s.get! (p+1)).toNat < 192)) (decide (p+2 < s.size∧128≤(s.get! (p+2)).toNat∧(s.get! (p+2)).toNat < 192))
  (decide (p+3 < s.size∧128≤(s.get! (p+3)).toNat∧(s.get! (p+3)).toNat < 192)) with h | h | h | h<;>omega
def bad(s:ByteArray)(p:Nat):Prop:=(Utf8.decode s p).1=65533∧(Utf8.decode s p).2=1
instance (s:ByteArray) (p:Nat):Decidable (bad s p):=by unfold bad;infer_instance
end Go.Proofs.YtaokfhdinhimfaaGreatDoor
