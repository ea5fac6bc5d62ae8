/- Lemmas. -/
import GoSem.Core.Utf8
import Derived.Test.YthjlehnccgjpoaaGreatDooryVQ2
import Derived.Test.YthjlehnccgjpoaaGreatDooryVSh
import Derived.Test.YthjlehnccgjpoaaGreatDooryVO
namespace Go.Proofs.YthjlehnccgjpoaaGreatDoor
theorem contB(i n c:Nat)(hc:c < 256):(decide (i < n)&&c / 64 == 2)=decide (i < n/\128<=c/\c < 192):=by
 rw [Bool.eq_iff_iff];simp;omega
def decN(c c1 c2 c3:Nat)(A1 A2 A3:Bool):Nat×Nat:=
 if c < 128 then (c,1)
 else if c / 32 == 6&&A1 then (if c % 32*64+c1 % 64 >= 128 then (c % 32*64+c1 % 64,2) else (65533,1))
 else if c / 16 == 14&&A1&&A2 then
  (if decide (c % 16*4096+c1 % 64*64+c2 % 64 >= 2048)&&Utf8.valid ↑(c % 16*4096+c1 % 64*64+c2 % 64) then (c % 16*4096+c1 % 64*64+c2 % 64,3) else (65533,1))
 else if c / 8 == 30&&A1&&A2&&A3 then
  (if decide (c % 8*262144+c1 % 64*4096+c2 % 64*64+c3 % 64 >= 65536)&&Utf8.valid ↑(c % 8*262144+c1 % 64*4096+c2 % 64*64+c3 % 64) then (c % 8*262144+c1 % 64*4096+c2 % 64*64+c3 % 64,4) else (65533,1))
 else (65533,1)
theorem decode_N(s:ByteArray)(p:Nat):Utf8.decode s p=decN (s.get! p).toNat (s.get! (p+1)).toNat (s.get! (p+2)).toNat (s.get! (p+3)).toNat
  (decide (p+1 < s.size/\128<=(s.get! (p+1)).toNat/\(s.get! (p+1)).toNat < 192)) (decide (p+2 < s.size/\128<=(s.get! (p+2)).toNat/\(s.get! (p+2)).toNat < 192))
  (decide (p+3 < s.size/\128<=(s.get! (p+3)).toNat/\(s.get! (p+3)).toNat < 192)):=by
 rw [←contB _ _ _ (UInt8.toNat_lt (s.get! (p+1))),← contB _ _ _ (UInt8.toNat_lt (s.get! (p+2))),← contB _ _ _ (UInt8.toNat_lt (s.get! (p+3)))]
 rfl
theorem c2O(c c1 c2 c3:Nat)(A1 A2 A3:Bool):(decN c c1 c2 c3 A1 A2 A3).2=1\/((decN c c1 c2 c3 A1 A2 A3).2=2/\A1=true)\/((decN c c1 c2 c3 A1 A2 A3).2=3/\A2=true)\/((decN c c1 c2 c3 A1 A2 A3).2=4/\A3=true):=by
 unfold decN
 cases A1<;>cases A2<;>cases A3<;>simp only [Bool.and_true,Bool.and_false,Bool.false_eq_true,if_false]<;>(repeat' split)<;>simp
theorem a3Q(s:ByteArray)(p:Nat):1<=(Utf8.decode s p).2:=by
 rw [decode_N]
 rcases c2O (s.get! p).toNat (s.get! (p+1)).toNat (s.get! (p+2)).toNat (s.get! (p+3)).toNat
  (decide (p+1 < s.size/\128<=(s.get! (p+1)).toNat/\(s.get! (p+1)).toNat < 192)) (decide (p+2 < s.size/\128<=(s.get! (p+2)).toNat/\(s.get! (p+2)).toNat < 192))
  (decide (p+3 < s.size/\128<=(s.get! (p+3)).toNat/\(s.get! (p+3)).toNat < 192)) with h | h | h | h<;>omega
theorem d3s(s:ByteArray)(p:Nat)(hp:p < s.size):p+(Utf8.decode s p).2<=s.size:=by
 rw [decode_N]
 rcases c2O (s.get! p).toNat (s.get! (p+1)).toNat (s.get! (p+2)).toNat (s.get! (p+3)).toNat
  (decide (p+1 < s.size/\128<=(s.get! (p+1)).toNat/\(s.get! (p+1)).toNat < 192)) (decide (p+2 < s.size/\128<=(s.get! (p+2)).toNat/\(s.get! (p+2)).toNat < 192))
  (decide (p+3 < s.size/\128<=(s.get! (p+3)).toNat/\(s.get! (p+3)).toNat < 192)) with h | ⟨h,a⟩ | ⟨h,a⟩ | ⟨h,a⟩
 ·omega
 ·have:=of_decide_eq_true a;omega
 ·have:=of_decide_eq_true a;omega
 ·have:=of_decide_eq_true a;omega
def bad(s:ByteArray)(p:Nat):Prop:=(Utf8.decode s p).1=65533/\(Utf8.decode s p).2=1
instance (s:ByteArray) (p:Nat):Decidable (bad s p):=by unfold bad;infer_instance
def chk(s:ByteArray):Nat->Nat->Option Nat
 | 0,_=>none
 | f+1,p=>if p < s.size then (if bad s p then some p else chk s f (p+(Utf8.decode s p).2)) else none
theorem e0l(s:ByteArray):∀(f g p:Nat),s.size-p<=f->s.size-p<=g->chk s f p=chk s g p:=by
 intro f
 induction f with
 | zero=>
  intro g p h1 h2
  cases g with
  | zero=>rfl
  | succ g=>simp [chk,show ¬p < s.size by omega]
 | succ f ih=>
  intro g p h1 h2
  cases g with
  | zero=>simp [chk,show ¬p < s.size by omega]
  | succ g=>
   simp only [chk]
   have:=a3Q s p
   split
   ·split
    ·rfl
    ·exact ih g _ (by omega) (by omega)
   ·rfl
def chkAt(s:ByteArray)(p:Nat):Option Nat:=chk s (s.size-p) p
theorem a7o(s:ByteArray)(p:Nat)(h:s.size<=p):chkAt s p=none:=by
 unfold chkAt
 rw [show s.size-p=0 by omega]
 rfl
theorem a9U(s:ByteArray)(p:Nat)(h:p < s.size):chkAt s p=if bad s p then some p else chkAt s (p+(Utf8.decode s p).2):=by
 unfold chkAt
 obtain ⟨f,hf⟩:∃f,s.size-p=f+1:=⟨s.size-p-1,by omega⟩
 have:=a3Q s p
 rw [hf]
 simp only [chk,h,if_true]
 split
 ·rfl
 ·exact e0l s _ _ _ (by omega) (by omega)
open Go.RowKit
set_option maxRecDepth 100000
set_option maxHeartbeats 2000000
def TabsH(H:Hp):Prop:=∀w:World,Sub H w->Lib.Utf8Tabs 1 2 w
theorem TabsH.le{H H':Hp}(h:TabsH H)(l:Hle H H'):TabsH H':=λw s=>h w λi o e=>s i o (l i o e)
theorem Inv.of_below{w w':World}{H:Hp}(I:Inv w (inF []) H H [] w)(b:Below w.heap.size w w'):Inv w (inF []) H H [] w':=
 ⟨λi o h=>(b.block i (I.Hlt h)).trans (I.sub i o h),λp h=>(by cases h),λp h=>(by cases h),List.nodup_nil,λp h=>(by cases h),λi hi _=>b.block i hi,b.size,b.os,b.tape,b.output,Hle.refl _,λ_ _ _=>rfl⟩
section
variable {H:Hp}
theorem d5y(hT:TabsH H){s:BA}(hs:s.size<=big){K:KT Bool}(h:K (Lib.validD s.data.toList) H):a7Z s H K:=by
 intro w I
 refine Calls.mono (Any.utf8_ValidString Tryz.c9I s w (by simp only [big] at hs;omega) (hT w I.sub)) λe w' hb=>?_
 obtain ⟨rfl,hb⟩:=hb
 exact ⟨H,[],I.of_below hb,_,rfl,rfl,h⟩
def runes(s:BA):Nat->Nat->List Int
 | 0,_=>[]
 | f+1,p=>if p < s.size then ((Utf8.decode s p).1:Int)::runes s f (p+(Utf8.decode s p).2) else []
theorem b9E(s:BA):∀(f g p:Nat),s.size-p<=f->s.size-p<=g->runes s f p=runes s g p
 | 0,0,_,_,_=>rfl
 | 0,g+1,p,h,_=>by rw [runes,runes,if_neg (by omega)]
 | f+1,0,p,_,h=>by rw [runes,runes,if_neg (by omega)]
 | f+1,g+1,p,h,h'=>by
  rw [runes,runes]
  split
  ·have:=a3Q s p
   rw [b9E s f g _ (by omega) (by omega)]
  ·rfl
theorem c4J(s:BA):∀(f p:Nat),(runes s f p).length<=s.size-p
 | 0,_=>by rw [runes];exact Nat.zero_le _
 | f+1,p=>by
  rw [runes]
  split
  ·have:=a3Q s p
   have:=c4J s f (p+(Utf8.decode s p).2)
   rw [List.length_cons];omega
  ·exact Nat.zero_le _
def runesOf(s:BA):List Int:=runes s s.size 0
theorem c2P{s:BA}{p:Nat}(hp:p < s.size):runes s (s.size-p) p=((Utf8.decode s p).1:Int)::runes s (s.size-(p+(Utf8.decode s p).2)) (p+(Utf8.decode s p).2):=by
 have:=a3Q s p
 obtain ⟨m,hm⟩:∃m,s.size-p=m+1:=⟨s.size-p-1,by omega⟩
 rw [hm,runes,if_pos hp,b9E s m (s.size-(p+(Utf8.decode s p).2)) _ (by omega) (by omega)]
theorem b9F{s:BA}{p:Nat}(hp:¬p < s.size)(f:Nat):runes s f p=[]:=by
 cases f with
 | zero=>rw [runes]
 | succ f=>rw [runes,if_neg hp]
theorem d5z{s:BA}(hs:s.size<=big){K:KT Int}(h:K ((runesOf s).length:Int) H):a1M s H K:=by
 refine b0N _ ?_
 have hl:=c4J s s.size 0
 refine P7 (λ(z:Int×Nat) H'=>H'=H/\0<=z.1/\z.1+((runes s (s.size-z.2) z.2).length:Int)=((runesOf s).length:Int)) (λz=>s.size-z.2) ⟨rfl,Int.le_refl _,by simp [runesOf]⟩ ?_
 rintro ⟨n,p⟩ H1 next ⟨rfl,n0,hn⟩ hk
 dsimp only at n0 hn ⊢
 refine ⟨λhc=>?_,λhc=>?_⟩
 ·rw [c2P hc,List.length_cons] at hn
  have:=a3Q s p
  rw [K7 n0 (by unfold runesOf at hn;simp only [big] at hs;omega)]
  exact hk _ _ ⟨rfl,by show 0<=n+1;omega,by dsimp only;omega⟩ (by show s.size-(p+_) < s.size-p;omega)
 ·rw [b9F hc] at hn
  rw [show n=((runesOf s).length:Int) by simpa using hn]
  exact h
theorem c9J{s:BA}(hs:s.size<=big){K:KT Bool}(h:K (decide (32 < ((runesOf s).length:Int))) H):a6o s H K:=by
 exact c0W _ (d5z hs h)
def wordS(s:BA):Bool:=decide (s=⟨#[118,97,114]⟩)||decide (s=⟨#[97,114,114,97,121]⟩)||decide (s=⟨#[105,102]⟩)||decide (s=⟨#[101,108,115,101]⟩)||decide (s=⟨#[119,104,105,108,101]⟩)||decide (s=⟨#[97,115,115,101,114,116]⟩)||decide (s=⟨#[97,115,115,117,109,101]⟩)||decide (s=⟨#[115,107,105,112]⟩)||decide (s=⟨#[105,110,112,117,116]⟩)||decide (s=⟨#[116,114,117,101]⟩)||decide (s=⟨#[102,97,108,115,101]⟩)
theorem c9K{s:BA}{K:KT Bool}(h:K (wordS s) H):a6p s H K:=by
 refine c0X _ ?_
 unfold b4o
 unfold wordS at h
 refine ⟨λe=>?_,λe0=>?_⟩
 ·unfold B3
  subst e;exact ⟨λ_=>h,λhc=>(by cases hc)⟩
 refine ⟨λe=>?_,λe1=>?_⟩
 ·unfold B3
  subst e;exact ⟨λ_=>h,λhc=>(by cases hc)⟩
 refine ⟨λe=>?_,λe2=>?_⟩
 ·unfold B3
  subst e;exact ⟨λ_=>h,λhc=>(by cases hc)⟩
 refine ⟨λe=>?_,λe3=>?_⟩
 ·unfold B3
  subst e;exact ⟨λ_=>h,λhc=>(by cases hc)⟩
 refine ⟨λe=>?_,λe4=>?_⟩
 ·unfold B3
  subst e;exact ⟨λ_=>h,λhc=>(by cases hc)⟩
 refine ⟨λe=>?_,λe5=>?_⟩
 ·unfold B3
  subst e;exact ⟨λ_=>h,λhc=>(by cases hc)⟩
 refine ⟨λe=>?_,λe6=>?_⟩
 ·unfold B3
  subst e;exact ⟨λ_=>h,λhc=>(by cases hc)⟩
 refine ⟨λe=>?_,λe7=>?_⟩
 ·unfold B3
  subst e;exact ⟨λ_=>h,λhc=>(by cases hc)⟩
 refine ⟨λe=>?_,λe8=>?_⟩
 ·unfold B3
  subst e;exact ⟨λ_=>h,λhc=>(by cases hc)⟩
 refine ⟨λe=>?_,λe9=>?_⟩
 ·unfold B3
  subst e;exact ⟨λ_=>h,λhc=>(by cases hc)⟩
 simp only [decide_eq_false e0,decide_eq_false e1,decide_eq_false e2,decide_eq_false e3,decide_eq_false e4,decide_eq_false e5,decide_eq_false e6,decide_eq_false e7,decide_eq_false e8,decide_eq_false e9,Bool.false_or] at h
 unfold B3
 generalize decide (s=⟨#[102,97,108,115,101]⟩)=q at h ⊢
 cases q
 ·exact ⟨λhc=>(by cases hc),λ_=>h⟩
 ·exact ⟨λ_=>h,λhc=>(by cases hc)⟩
def signR(r:Int):Prop:=r=59\/r=44\/r=123\/r=125\/r=40\/r=41\/r=91\/r=93\/r=61\/r=33\/r=60\/r=62\/r=43\/r=45\/r=42\/r=47\/r=37\/r=38\/r=124
instance (r:Int):Decidable (signR r):=by unfold signR;infer_instance
def letterR(r:Int):Prop:=r=95\/(97<=r/\r<=122)\/(65<=r/\r<=90)\/(192<=r/\r<=591)\/(913<=r/\r<=969)\/(1040<=r/\r<=1103)
instance (r:Int):Decidable (letterR r):=by unfold letterR;infer_instance
def classS(r:Int):Int:=
 if r=32\/r=9\/r=13 then 1 else if r=10 then 2 else if signR r then 5 else if r=215\/r=247\/r=930 then 6 else if 48<=r/\r<=57 then 4 else if letterR r then 3 else 6
theorem a9x{a b r:Int}{K:KT Bool}(h:K (decide (a<=r)&&decide (r<=b)) H):R8 a b r H K:=b7f _ _ _ h
theorem c4K{r:Int}{b:Bool}{K:KT Int}(h:K (if b=true then 3 else 6) H):O3 b r H K:=by
 cases b
 ·exact ⟨λhc=>(by cases hc),λ_=>h⟩
 ·exact ⟨λ_=>h,λhc=>(by cases hc)⟩
theorem b9G{r:Int}{b:Bool}{K:KT Int}(h:K (if b=true then 6 else if 48<=r/\r<=57 then 4 else if letterR r then 3 else 6) H):a0z b r H K:=by
 refine ⟨λhb=>by rw [if_pos hb] at h;exact h,λhb=>a9x ?_⟩
 rw [if_neg (by rw [hb];decide)] at h
 refine ⟨λh1=>?_,λh1=>?_⟩
 ·rw [if_pos (by simpa using h1)] at h;exact h
 rw [if_neg (by simpa using h1)] at h
 refine ⟨λh2=>?_,λh2=>a9x ?_⟩
 ·refine c4K ?_
  rw [if_pos (show letterR r from .inl h2)] at h
  rw [decide_eq_true h2];exact h
 have last:∀(lo hi:Int)(K':Bool->Hp->Prop),K' (decide (lo<=r)&&decide (r<=hi)) H->R8 lo hi r H K':=λlo hi K' hk=>a9x hk
 have go:∀(b:Bool)(q:Prop) [Decidable q],(b=true↔q)->K (if q then 3 else 6) H->O3 b r H K:=λb q _ hq hk=>c4K (by
  by_cases hh:q
  ·rw [if_pos (hq.2 hh)];rw [if_pos hh] at hk;exact hk
  ·rw [if_neg (λe=>hh (hq.1 e))];rw [if_neg hh] at hk;exact hk)
 refine ⟨λh3=>go _ _ ?_ h,λh3=>a9x ⟨λh4=>go _ _ ?_ h,λh4=>a9x ⟨λh5=>go _ _ ?_ h,λh5=>a9x ⟨λh6=>go _ _ ?_ h,λh6=>a9x (go _ _ ?_ h)⟩⟩⟩⟩ <;>
  (clear go last h;unfold letterR;simp only [←Bool.decide_and,decide_eq_true_eq,decide_eq_false_iff_not] at *;omega)
theorem d3t{r:Int}{b:Bool}{K:KT Int}(h:K (if b=true then 5 else if r=215\/r=247\/r=930 then 6 else if 48<=r/\r<=57 then 4 else if letterR r then 3 else 6) H):A5 r b r H K:=by
 refine ⟨λhb=>by rw [if_pos hb] at h;exact h,λhb=>?_⟩
 rw [if_neg (by rw [hb];decide)] at h
 refine ⟨λe=>b9G ?_,λe1=>⟨λe=>b9G ?_,λe2=>b9G ?_⟩⟩
 ·rw [if_pos (.inl e)] at h;rw [decide_eq_true e];exact h
 ·rw [if_pos (.inr (.inl e))] at h;rw [decide_eq_true e];exact h
 ·by_cases e:r=930
  ·rw [if_pos (.inr (.inr e))] at h;rw [decide_eq_true e];exact h
  ·rw [if_neg (by omega)] at h;rw [decide_eq_false e];exact h
theorem b8z{r:Int}{b:Bool}{K:KT Int}(h:K (if b=true then 1 else if r=10 then 2 else if signR r then 5 else if r=215\/r=247\/r=930 then 6 else if 48<=r/\r<=57 then 4 else if letterR r then 3 else 6) H):a0A r b r H K:=by
 unfold a0A
 refine ⟨λhb=>by rw [if_pos hb] at h;exact h,λhb=>?_⟩
 rw [if_neg (by rw [hb];decide)] at h
 refine ⟨λe=>by rw [if_pos e] at h;exact h,λe=>?_⟩
 rw [if_neg e] at h
 have go:∀(b:Bool),(b=true↔signR r)->A5 r b r H K:=λb hq=>d3t (by
  by_cases hh:signR r
  ·rw [if_pos (hq.2 hh)];rw [if_pos hh] at h;exact h
  ·rw [if_neg (λe=>hh (hq.1 e))];rw [if_neg hh] at h;exact h)
 clear h
 refine ⟨λe=>go _ ?_,λe0=>?_⟩
 ·rw [decide_eq_true e];unfold signR;simp only [true_iff];omega
 refine ⟨λe=>go _ ?_,λe1=>?_⟩
 ·rw [decide_eq_true e];unfold signR;simp only [true_iff];omega
 refine ⟨λe=>go _ ?_,λe2=>?_⟩
 ·rw [decide_eq_true e];unfold signR;simp only [true_iff];omega
 refine ⟨λe=>go _ ?_,λe3=>?_⟩
 ·rw [decide_eq_true e];unfold signR;simp only [true_iff];omega
 refine ⟨λe=>go _ ?_,λe4=>?_⟩
 ·rw [decide_eq_true e];unfold signR;simp only [true_iff];omega
 refine ⟨λe=>go _ ?_,λe5=>?_⟩
 ·rw [decide_eq_true e];unfold signR;simp only [true_iff];omega
 refine ⟨λe=>go _ ?_,λe6=>?_⟩
 ·rw [decide_eq_true e];unfold signR;simp only [true_iff];omega
 refine ⟨λe=>go _ ?_,λe7=>?_⟩
 ·rw [decide_eq_true e];unfold signR;simp only [true_iff];omega
 refine ⟨λe=>go _ ?_,λe8=>?_⟩
 ·rw [decide_eq_true e];unfold signR;simp only [true_iff];omega
 refine ⟨λe=>go _ ?_,λe9=>?_⟩
 ·rw [decide_eq_true e];unfold signR;simp only [true_iff];omega
 refine ⟨λe=>go _ ?_,λe10=>?_⟩
 ·rw [decide_eq_true e];unfold signR;simp only [true_iff];omega
 refine ⟨λe=>go _ ?_,λe11=>?_⟩
 ·rw [decide_eq_true e];unfold signR;simp only [true_iff];omega
 refine ⟨λe=>go _ ?_,λe12=>?_⟩
 ·rw [decide_eq_true e];unfold signR;simp only [true_iff];omega
 refine ⟨λe=>go _ ?_,λe13=>?_⟩
 ·rw [decide_eq_true e];unfold signR;simp only [true_iff];omega
 refine ⟨λe=>go _ ?_,λe14=>?_⟩
 ·rw [decide_eq_true e];unfold signR;simp only [true_iff];omega
 refine ⟨λe=>go _ ?_,λe15=>?_⟩
 ·rw [decide_eq_true e];unfold signR;simp only [true_iff];omega
 refine ⟨λe=>go _ ?_,λe16=>?_⟩
 ·rw [decide_eq_true e];unfold signR;simp only [true_iff];omega
 refine ⟨λe=>go _ ?_,λe17=>?_⟩
 ·rw [decide_eq_true e];unfold signR;simp only [true_iff];omega
 refine go _ ?_
 unfold signR
 simp only [decide_eq_true_eq]
 omega
theorem b2A{r:Int}{K:KT Int}(h:K (classS r) H):X8 r H K:=by
 refine b8Z _ ?_
 unfold b2c
 unfold classS at h
 refine ⟨λe=>b8z ?_,λe1=>⟨λe=>b8z ?_,λe2=>b8z ?_⟩⟩
 ·rw [if_pos (.inl e)] at h;rw [decide_eq_true e];exact h
 ·rw [if_pos (.inr (.inl e))] at h;rw [decide_eq_true e];exact h
 ·by_cases e:r=13
  ·rw [if_pos (.inr (.inr e))] at h;rw [decide_eq_true e];exact h
  ·rw [if_neg (by omega)] at h;rw [decide_eq_false e];exact h
def goesS(r:Int):Bool:=decide (classS r=3)||decide (classS r=4)
theorem c9L{r:Int}{K:KT Bool}(h:K (goesS r) H):a5D r H K:=by
 exact b8U _ (b2A h)
def nameAt(s:BA):Nat->Nat->Bool
 | 0,_=>true
 | f+1,p=>if p < s.size then (if goesS ((Utf8.decode s p).1:Int)=true/\¬(p=0/\classS ((Utf8.decode s p).1:Int)≠3) then nameAt s f (p+(Utf8.decode s p).2) else false) else true
theorem c2Q(s:BA):∀(f g p:Nat),s.size-p<=f->s.size-p<=g->nameAt s f p=nameAt s g p
 | 0,0,_,_,_=>rfl
 | 0,g+1,p,h,_=>by rw [nameAt,nameAt,if_neg (by omega)]
 | f+1,0,p,_,h=>by rw [nameAt,nameAt,if_neg (by omega)]
 | f+1,g+1,p,h,h'=>by
  rw [nameAt,nameAt]
  have:=a3Q s p
  split
  ·rw [c2Q s f g _ (by omega) (by omega)]
  ·rfl
theorem b6J{s:BA}{p:Nat}(hp:p < s.size):nameAt s (s.size-p) p=if goesS ((Utf8.decode s p).1:Int)=true/\¬(p=0/\classS ((Utf8.decode s p).1:Int)≠3) then nameAt s (s.size-(p+(Utf8.decode s p).2)) (p+(Utf8.decode s p).2) else false:=by
 have:=a3Q s p
 obtain ⟨m,hm⟩:∃m,s.size-p=m+1:=⟨s.size-p-1,by omega⟩
 rw [hm,nameAt,if_pos hp,c2Q s m (s.size-(p+(Utf8.decode s p).2)) _ (by omega) (by omega)]
theorem d1c{s:BA}{p:Nat}(hp:¬p < s.size)(f:Nat):nameAt s f p=true:=by
 cases f with
 | zero=>rw [nameAt]
 | succ f=>rw [nameAt,if_neg hp]
def nameS(s:BA):Bool:=if (((decide (s=⟨#[]⟩))||(!Lib.validD s.data.toList))||decide (32 < ((runesOf s).length:Int))||wordS s)=true then false else nameAt s s.size 0
theorem e0m(hT:TabsH H){s:BA}(hs:s.size<=big){K:KT Bool}(h:K (nameS s) H):a6q s H K:=by
 refine c0Y _ ?_
 unfold b4p
 unfold nameS at h
 refine a2g (Lib.validD s.data.toList) (λ_ K' hk=>d5y hT hs hk) (a2g (decide (32 < ((runesOf s).length:Int))) (λ_ K' hk=>c9J hs hk) ?_)
 refine a2g (wordS s) (λ_ K' hk=>c9K hk) ?_
 generalize decide (s=⟨#[]⟩)=a at h ⊢
 generalize Lib.validD s.data.toList=b at h ⊢
 generalize decide (32 < ((runesOf s).length:Int))=c at h ⊢
 generalize wordS s=d at h ⊢
 have stop:(a||(!b)||c||d)=true->K false H:=λe=>by rw [if_pos e] at h;exact h
 have go:(a||(!b)||c||d)=false->TL (0:Nat) H λ(z:Nat) H n2=>a7M s z H n2 K:=λe=>by
  rw [if_neg (by rw [e];decide)] at h
  refine P7 (λ(p:Nat) H'=>H'=H/\nameAt s (s.size-p) p=nameAt s s.size 0) (λp=>s.size-p) ⟨rfl,rfl⟩ ?_
  rintro p H1 next ⟨rfl,hp⟩ hn
  unfold a7M
  refine ⟨λhc=>c9L (a2g (classS ((Utf8.decode s p).1:Int)) (λ_ K' hk=>b2A hk) ?_),λhc=>?_⟩
  ·rw [b6J hc] at hp
   have hw:=a3Q s p
   have z:decide (((p:Nat):Int)=0)=decide (p=0):=by rw [Bool.eq_iff_iff];simp
   rw [z]
   by_cases hg:goesS ((Utf8.decode s p).1:Int)=true
   ·by_cases h0:p=0
    ·by_cases h3:classS ((Utf8.decode s p).1:Int)=3
     ·rw [if_pos ⟨hg,λq=>q.2 h3⟩] at hp
      rw [hg,decide_eq_true h0,if_pos (show (!!true&&true)=true from rfl),decide_eq_true h3]
      exact ⟨λhc=>(by cases hc),λ_=>hn _ _ ⟨rfl,hp⟩ (by omega)⟩
     ·rw [if_neg (λq=>q.2 ⟨h0,h3⟩)] at hp
      rw [←hp] at h
      rw [hg,decide_eq_true h0,if_pos (show (!!true&&true)=true from rfl),decide_eq_false h3]
      exact ⟨λ_=>h,λhc=>(by cases hc)⟩
    ·rw [if_pos ⟨hg,λq=>h0 q.1⟩] at hp
     rw [hg,decide_eq_false h0,if_neg (by decide)]
     exact ⟨λhc=>(by cases hc),λ_=>hn _ _ ⟨rfl,hp⟩ (by omega)⟩
   ·rw [if_neg (λq=>hg q.1)] at hp
    rw [←hp] at h
    rw [Bool.eq_false_iff.2 hg]
    exact ⟨λ_=>h,λhc=>(by cases hc)⟩
  ·rw [d1c hc] at hp
   rw [←hp] at h
   exact h
 cases a<;>cases b<;>cases c<;>cases d<;>first | exact ⟨λ_=>stop rfl,λhc=>(by cases hc)⟩ | exact ⟨λhc=>(by cases hc),λ_=>go rfl⟩
end
open Go.Proofs.Tryz Go.RowKit
def NH(H:Hp):j8->PT->Prop
 | .T7 y,t=>t=dT y.a2W
 | .Q8 y,t=>SH H y.t8 t
 | .U9 y,t=>CH H y.C3 t
 | .Q2 y,t=>EH H y.C8 t
 | .nil,_=>False
theorem NH.le{H H':Hp}(l:Hle H H'){x:j8}{t:PT}(h:NH H x t):NH H' x t:=by
 cases x with
 | nil=>exact h
 | T7 y=>exact h
 | Q8 y=>exact SH.le l h
 | U9 y=>exact CH.le l h
 | Q2 y=>exact EH.le l h
theorem c4L{α:Type}(l:List (List α))(i:Nat):(l.take i).flatten.length<=l.flatten.length:=by
 have:l.flatten=(l.take i).flatten++(l.drop i).flatten:=by rw [←List.flatten_append,List.take_append_drop]
 rw [this,List.length_append];omega
theorem c4M{α:Type}{l:List (List α)}{i:Nat}{x:List α}(h:l[i]? = some x):(l.take (i+1)).flatten=(l.take i).flatten++x:=by
 rw [W1 h,List.flatten_append];simp
section
variable {H:Hp}
theorem c8q{s:Sl}{xs:List j9}(hs:SlH H 2 q6 s xs)(hb:xs.length<=big){K:KT Sl}(h:∀(r:Sl)(H':Hp),Hle H H'->SlH H' 1 C0 r (xs.map λx=>j8.T7 ⟨x⟩)->K r H'):Q6 s H K:=by
 refine a3r _ ?_
 have n1:=hs.1
 refine P7 (λ(z:List j8×Int) H'=>0<=z.2/\z.2<=xs.length/\H'=H/\z.1=(xs.take z.2.toNat).map λx=>j8.T7 ⟨x⟩) (λz=>(xs.length-z.2).toNat) ⟨Int.le_refl _,by simp,rfl,by simp⟩ ?_
 rintro ⟨l,i⟩ H1 next ⟨i0,i1,rfl,hl⟩ hn
 refine ⟨λhc=>?_,λhc=>?_⟩
 ·obtain ⟨x,hx,hE⟩:=hs.get i0 hc
  have hlt:=O1 hx
  refine ⟨i0,hc,x,hE,b8i _ ?_⟩
  refine ⟨?_,?_⟩
  ·rw [hl,List.length_map,List.length_take];simp only [big] at hb;simp only [List.length_cons,List.length_nil];omega
  ·rw [K7 i0 (by simp only [big] at hb;omega)]
   refine hn _ _ ⟨by dsimp only;omega,by dsimp only;omega,rfl,?_⟩ (by dsimp only;omega)
   rw [show (i+1).toNat=i.toNat+1 by omega,W1 hx,List.map_append,← hl];rfl
 ·unfold O9
  intro ss H2 l2 hss hc2
  refine h ss H2 l2 ?_
  rw [hl,List.take_of_length_le (by omega)] at hss;exact hss
theorem b6K{s:Sl}{xs:List i6}(hs:SlH H 6 q9 s xs)(hb:xs.length<=big){K:KT Sl}(h:∀(r:Sl)(H':Hp),Hle H H'->SlH H' 1 C0 r (xs.map λx=>j8.Q8 ⟨x⟩)->K r H'):G7 s H K:=by
 refine a3B _ ?_
 have n1:=hs.1
 refine P7 (λ(z:List j8×Int) H'=>0<=z.2/\z.2<=xs.length/\H'=H/\z.1=(xs.take z.2.toNat).map λx=>j8.Q8 ⟨x⟩) (λz=>(xs.length-z.2).toNat) ⟨Int.le_refl _,by simp,rfl,by simp⟩ ?_
 rintro ⟨l,i⟩ H1 next ⟨i0,i1,rfl,hl⟩ hn
 refine ⟨λhc=>?_,λhc=>?_⟩
 ·obtain ⟨x,hx,hE⟩:=hs.get i0 hc
  have hlt:=O1 hx
  refine ⟨i0,hc,x,hE,b7V _ ?_⟩
  refine ⟨?_,?_⟩
  ·rw [hl,List.length_map,List.length_take];simp only [big] at hb;simp only [List.length_cons,List.length_nil];omega
  ·rw [K7 i0 (by simp only [big] at hb;omega)]
   refine hn _ _ ⟨by dsimp only;omega,by dsimp only;omega,rfl,?_⟩ (by dsimp only;omega)
   rw [show (i+1).toNat=i.toNat+1 by omega,W1 hx,List.map_append,← hl];rfl
 ·unfold P3
  intro ss H2 l2 hss hc2
  refine h ss H2 l2 ?_
  rw [hl,List.take_of_length_le (by omega)] at hss;exact hss
theorem c1i{s:Sl}{xs:List p5}(hs:SlH H 4 l7 s xs)(hb:xs.length<=big){K:KT Sl}(h:∀(r:Sl)(H':Hp),Hle H H'->SlH H' 1 C0 r (xs.map λx=>j8.U9 ⟨x⟩)->K r H'):M4 s H K:=by
 refine a3u _ ?_
 have n1:=hs.1
 refine P7 (λ(z:List j8×Int) H'=>0<=z.2/\z.2<=xs.length/\H'=H/\z.1=(xs.take z.2.toNat).map λx=>j8.U9 ⟨x⟩) (λz=>(xs.length-z.2).toNat) ⟨Int.le_refl _,by simp,rfl,by simp⟩ ?_
 rintro ⟨l,i⟩ H1 next ⟨i0,i1,rfl,hl⟩ hn
 refine ⟨λhc=>?_,λhc=>?_⟩
 ·obtain ⟨x,hx,hE⟩:=hs.get i0 hc
  have hlt:=O1 hx
  refine ⟨i0,hc,x,hE,b8y _ ?_⟩
  refine ⟨?_,?_⟩
  ·rw [hl,List.length_map,List.length_take];simp only [big] at hb;simp only [List.length_cons,List.length_nil];omega
  ·rw [K7 i0 (by simp only [big] at hb;omega)]
   refine hn _ _ ⟨by dsimp only;omega,by dsimp only;omega,rfl,?_⟩ (by dsimp only;omega)
   rw [show (i+1).toNat=i.toNat+1 by omega,W1 hx,List.map_append,← hl];rfl
 ·unfold P1
  intro ss H2 l2 hss hc2
  refine h ss H2 l2 ?_
  rw [hl,List.take_of_length_le (by omega)] at hss;exact hss
theorem b6L{s:Sl}{xs:List l9}(hs:SlH H 4 g9 s xs)(hb:xs.length<=big){K:KT Sl}(h:∀(r:Sl)(H':Hp),Hle H H'->SlH H' 1 C0 r (xs.map λx=>j8.Q2 ⟨x⟩)->K r H'):G8 s H K:=by
 refine a3D _ ?_
 have n1:=hs.1
 refine P7 (λ(z:List j8×Int) H'=>0<=z.2/\z.2<=xs.length/\H'=H/\z.1=(xs.take z.2.toNat).map λx=>j8.Q2 ⟨x⟩) (λz=>(xs.length-z.2).toNat) ⟨Int.le_refl _,by simp,rfl,by simp⟩ ?_
 rintro ⟨l,i⟩ H1 next ⟨i0,i1,rfl,hl⟩ hn
 refine ⟨λhc=>?_,λhc=>?_⟩
 ·obtain ⟨x,hx,hE⟩:=hs.get i0 hc
  have hlt:=O1 hx
  refine ⟨i0,hc,x,hE,b8k _ ?_⟩
  refine ⟨?_,?_⟩
  ·rw [hl,List.length_map,List.length_take];simp only [big] at hb;simp only [List.length_cons,List.length_nil];omega
  ·rw [K7 i0 (by simp only [big] at hb;omega)]
   refine hn _ _ ⟨by dsimp only;omega,by dsimp only;omega,rfl,?_⟩ (by dsimp only;omega)
   rw [show (i+1).toNat=i.toNat+1 by omega,W1 hx,List.map_append,← hl];rfl
 ·unfold P5
  intro ss H2 l2 hss hc2
  refine h ss H2 l2 ?_
  rw [hl,List.take_of_length_le (by omega)] at hss;exact hss
theorem c4N(a:Option Addr)(n c:Nat):Pu Tryz.prog (xBuiltin .cap #[146] 3 [false] [.slice a n c]) (.int .i64 (c:Int)):=by
 have e':Program.elem Tryz.prog 146=149:=by simp [Program.elem,underlying146]
 have:xBuiltin .cap #[146] 3 [false] [.slice a n c]=xV (Builtin.cap_ #[146] 3 #[.slice a n c]):=rfl
 rw [this]
 exact Pu.ok λw=>run_cap_slice (P:=Tryz.prog) (w:=w) 146 3 a n c (by rw [e'];exact underlying146)
theorem e0n{n:Int}(h0:0<=n)(hb:n*17<=140737488355328){K:List j8->Hp->Prop}(h:K [] H):Z0 n H K:=by
 intro w I
 refine d8U (u7 λj1 hx1=>?_)
 refine c7 (D1 _ _ _ _ _ _) (Z5 (λc=>?_) (λc=>?_))
 ·have:=of_decide_eq_true c;omega
 refine hx1 _ _ ?_
 intro _
 refine u7 λj2 hx2=>c7 (c4N _ _ _) (c7 (b4A _ _ _) ?_)
 refine c7 (a5j _ _ _ _ _ _) (c7 (a5j _ _ _ _ _ _) ?_)
 rw [show IntKind.wrap .i64 (n-IntKind.wrap .i64 (((0:Nat):Int)-((0:Nat):Int)))=n by
  rw [show IntKind.wrap .i64 (((0:Nat):Int)-((0:Nat):Int))=0 by decide,Int.sub_zero];exact S3 ⟨by omega,by omega⟩]
 refine c7 (X3 _ _ _ _ _ _) (Z5 (λc=>?_) (λc=>?_))
 ·have hp:=of_decide_eq_true c
  refine c7 (c4N _ _ _) (c7 (c1v (e:=149) (sz:=1) underlying146 sizeOf149 (s:=⟨none,0,0⟩) (h:=((0:Nat):Int)) (by decide) (by decide)) ?_)
  refine e1B (z:=Value.nilIface) (bytes:=16) (kn:=.i64) underlying146 underlying3 c8Q (by kernel_rfl) (by kernel_rfl) (by kernel_rfl) (by kernel_rfl) (by decide) Y3 a0x I hp hb λg m F' w' hr I'=>c7 (b4A _ _ _) (c7 (c1v (e:=149) (sz:=1) underlying146 sizeOf149 (s:=⟨some ⟨g,0,none⟩,n.toNat,m⟩) (h:=((0:Nat):Int)) (by decide) (by simp)) ?_)
  refine hx2 _ _ ?_
  intro _
  refine ⟨H,_,I',[],⟨some ⟨g,0,none⟩,0,m⟩,F',?_,rfl,hr,h⟩
  simp [Sl.cut,Addr.add,nth]
 ·refine hx2 _ _ ?_
  intro _
  exact ⟨H,_,I.nil,[],⟨none,0,0⟩,[],rfl,rfl,RowL.nil Y3 a0x,h⟩
theorem b9H{s:Sl}{ss:List Sl}{nss:List (List j8)}(hs:SlH H 1 csl s ss)(hr:C4 (SlH H 1 C0) ss nss)(hb:nss.flatten.length*17<=140737488355328)(hss:ss.length<=big){K:KT Sl}
  (h:∀(r:Sl)(H':Hp),Hle H H'->SlH H' 1 C0 r nss.flatten->K r H'):L3 s H K:=by
 refine a5e _ ?_
 unfold a0M
 have n1:=hs.1;have r1:=hr.1
 refine P7 (λ(z:Int×Int) H'=>0<=z.2/\z.2<=ss.length/\H'=H/\z.1=((nss.take z.2.toNat).flatten.length:Int)) (λz=>(ss.length-z.2).toNat) ⟨Int.le_refl _,by simp,rfl,by simp⟩ ?_
 rintro ⟨q,i⟩ H1 next ⟨i0,i1,rfl,hq⟩ hn
 dsimp only at i0 i1 hq ⊢
 subst hq
 unfold a0o
 refine ⟨λhc=>?_,λhc=>?_⟩
 ·obtain ⟨x,hx,hE⟩:=hs.get i0 hc
  obtain ⟨ns,hns,hS⟩:=hr.get hx
  have hlt:=O1 hx
  have e1:=c4M hns
  have e2:=c4L nss (i.toNat+1)
  have e3:(nss.take (i.toNat+1)).flatten.length=(nss.take i.toNat).flatten.length+ns.length:=by rw [e1,List.length_append]
  have e4:IntKind.wrap .i64 (((nss.take i.toNat).flatten.length:Int)+(x.n:Int))=((nss.take (i.toNat+1)).flatten.length:Int):=by
   rw [S3 ⟨by omega,by have:=hS.1;omega⟩]
   have:=hS.1;omega
  refine ⟨i0,hc,x,hE,?_⟩
  rw [e4]
  refine ⟨λhneg=>by omega,λ_=>?_⟩
  unfold S5
  rw [K7 i0 (by simp only [big] at hss;omega)]
  refine hn _ _ ⟨by dsimp only;omega,by dsimp only;omega,rfl,?_⟩ (by dsimp only;omega)
  dsimp only
  rw [show (i+1).toNat=i.toNat+1 by omega]
 ·rw [List.take_of_length_le (by omega)]
  clear hn next
  unfold S8
  refine e0n (by omega) (by omega) (P7 (λ(z:List j8×Int) H'=>0<=z.2/\z.2<=ss.length/\H'=H1/\z.1=(nss.take z.2.toNat).flatten) (λz=>(ss.length-z.2).toNat) ⟨Int.le_refl _,by simp,rfl,by simp⟩ ?_)
  rintro ⟨q,j⟩ H2 next ⟨j0,j1,rfl,hq⟩ hn
  dsimp only at j0 j1 hq ⊢
  subst hq
  unfold S7
  refine ⟨λhc=>?_,λhc=>?_⟩
  ·obtain ⟨x,hx,hE⟩:=hs.get j0 hc
   obtain ⟨ns,hns,hS⟩:=hr.get hx
   have hlt:=O1 hx
   have e1:=c4M hns
   have e2:=c4L nss (j.toNat+1)
   have e3:(nss.take (j.toNat+1)).flatten.length=(nss.take j.toNat).flatten.length+ns.length:=by rw [e1,List.length_append]
   refine ⟨j0,hc,x,hE,ns,hS,by omega,?_⟩
   rw [K7 j0 (by simp only [big] at hss;omega),← e1]
   refine hn _ _ ⟨by dsimp only;omega,by dsimp only;omega,rfl,?_⟩ (by dsimp only;omega)
   dsimp only
   rw [show (j+1).toNat=j.toNat+1 by omega]
  ·unfold S6
   intro r H3 l3 hS _
   rw [List.take_of_length_le (by omega)] at hS
   exact h r H3 l3 hS
def nameL:Lab->BA×Bool
 | .decl _ s=>(s,true)
 | .stmt k s _ _ _ _=>(s,decide (k=1)||decide (k=2))
 | .cond ..=>(⟨#[]⟩,false)
 | .expr k _ s _=>(s,decide (k=2)||decide (k=4))
theorem c9M{x:j8}{t:PT}(hx:NH H x t){K:BA->Bool->Hp->Prop}(h:K (nameL t.lab).1 (nameL t.lab).2 H):a3W x H K:=by
 refine b9u _ ?_
 cases x with
 | nil=>exact hx.elim
 | T7 y=>
  cases (show t=dT y.a2W from hx)
  exact ⟨λ_=>h,λq=>(by cases q)⟩
 | Q8 y=>
  cases (show SH H y.t8 t from hx)
  exact ⟨λq=>(by cases q),λ_=>⟨λ_=>h,λq=>(by cases q)⟩⟩
 | Q2 y=>
  cases (show EH H y.C8 t from hx)
  exact ⟨λq=>(by cases q),λ_=>⟨λq=>(by cases q),λ_=>⟨λ_=>h,λq=>(by cases q)⟩⟩⟩
 | U9 y=>
  cases (show CH H y.C3 t from hx)
  exact ⟨λq=>(by cases q),λ_=>⟨λq=>(by cases q),λ_=>⟨λq=>(by cases q),λ_=>h⟩⟩⟩
def formE(k n:Int)(s:BA)(a:Int):Bool:=
 if (((!decide (k=1))&&(!decide (n=0)))||((!(decide (k=2)||decide (k=4)))&&(!decide (s=⟨#[]⟩))))=true then false
 else if k=1 then decide (0<=n)&&decide (a=0)
 else if k=2\/k=3 then decide (a=0)
 else if k=4\/k=5 then decide (a=1)
 else if k=6\/k=7\/k=8\/k=9\/k=10 then decide (a=2) else false
def formC(k op e p:Int):Bool:=
 if k=3 then (decide (1<=op)&&decide (op<=6))&&decide (e=2/\p=0)
 else if op=0 then
  (if k=1\/k=2 then decide (e=0/\p=0) else if k=4 then decide (e=0/\p=1) else if k=5\/k=6 then decide (e=0/\p=2) else false)
 else false
def formS(k:Int)(s:BA)(e c t f:Int):Bool:=
 if k=1 then !decide (0 < t+f)&&decide (e=1/\c=0)
 else if k=2 then !decide (0 < t+f)&&decide (e=2/\c=0)
 else if k=3 then decide (s=⟨#[]⟩)&&decide (e=0/\c=1)
 else if k=4 then decide (s=⟨#[]⟩)&&decide (f=0)&&decide (e=0/\c=1)
 else if k=5\/k=6 then (decide (s=⟨#[]⟩) && !decide (0 < t+f))&&decide (e=0/\c=1)
 else if k=7 then (decide (s=⟨#[]⟩) && !decide (0 < t+f))&&decide (e=0/\c=0)
 else false
def formL:Lab->Bool
 | .decl z _=>decide (0<=z)&&decide (z<=2147483647)
 | .stmt k s e c t f=>formS k s e c t f
 | .cond k op e p=>formC k op e p
 | .expr k n s a=>formE k n s a
theorem c0y{α:Type}{b:Bool}{q:Prop} [Decidable q] (hb:b=true↔q) (x y:α):(if b=true then x else y)=if q then x else y:=by
 by_cases hq:q
 ·rw [if_pos (hb.2 hq),if_pos hq]
 ·rw [if_neg (λe=>hq (hb.1 e)),if_neg hq]
theorem ej3{a:Int}{b:Bool}{x:U6}{K:KT Bool}(h:K (if b=true then decide (a=2) else false) H):P9 a b x H K:=by
 cases b
 ·exact ⟨λq=>(by cases q),λ_=>h⟩
 ·exact ⟨λ_=>h,λq=>(by cases q)⟩
theorem ej2{a k:Int}{b:Bool}{x:U6}{K:KT Bool}(h:K (if b=true then decide (a=1) else if k=6\/k=7\/k=8\/k=9\/k=10 then decide (a=2) else false) H):a0s a k b x H K:=by
 cases b
 ·refine ⟨λq=>(by cases q),λ_=>?_⟩
  rw [if_neg (by decide)] at h
  refine ⟨λe=>ej3 ?_,λe1=>⟨λe=>ej3 ?_,λe2=>⟨λe=>ej3 ?_,λe3=>⟨λe=>ej3 ?_,λe4=>ej3 ?_⟩⟩⟩⟩ <;>
   (rw [c0y (q:=k=6\/k=7\/k=8\/k=9\/k=10) (by rw [decide_eq_true_eq];omega)];exact h)
 ·exact ⟨λ_=>h,λq=>(by cases q)⟩
theorem ej1{a k:Int}{b:Bool}{x:U6}{K:KT Bool}(h:K (if b=true then decide (a=0) else if k=4\/k=5 then decide (a=1) else if k=6\/k=7\/k=8\/k=9\/k=10 then decide (a=2) else false) H):a0t a k b x H K:=by
 cases b
 ·refine ⟨λq=>(by cases q),λ_=>?_⟩
  rw [if_neg (by decide)] at h
  refine ⟨λe=>ej2 ?_,λe1=>ej2 ?_⟩ <;>
   (rw [c0y (q:=k=4\/k=5) (by rw [decide_eq_true_eq];omega)];exact h)
 ·exact ⟨λ_=>h,λq=>(by cases q)⟩
theorem d5A{e:l9}{t:PT}(he:EH H e t){K:KT Bool}(h:K (formL t.lab) H):a5L ⟨e⟩ H K:=by
 refine b6e _ ?_
 unfold b0l
 refine c9M (x:=.Q2 ⟨e⟩) (t:=t) he ?_
 cases he with
 | @mk e xs ts hs hb hl hr=>
  have hn:e.L8.n=ts.length:=by have:=hs.1;omega
  change K (formE e.d9 e.A6 e.o7 (ts.length:Int)) H at h
  unfold formE at h
  dsimp only [PT.lab,nameL]
  rw [hn]
  generalize (ts.length:Int)=a at h ⊢
  refine ⟨λhg=>by rw [if_pos hg] at h;exact h,λhg=>?_⟩
  rw [if_neg (by rw [hg];decide)] at h
  refine ⟨λe1=>by rw [if_pos e1] at h;exact h,λe1=>?_⟩
  rw [if_neg e1] at h
  refine ⟨λe2=>ej1 ?_,λe2=>ej1 ?_⟩ <;>
   (rw [c0y (q:=e.d9=2\/e.d9=3) (by rw [decide_eq_true_eq];omega)];exact h)
theorem cj2{b:Bool}{y:C7}{x:a0E}{K:KT Bool}(h:K (if b=true then decide (y.fexprs=0/\y.fparts=2) else false) H):a0p b y x H K:=by
 cases b
 ·exact ⟨λq=>(by cases q),λ_=>h⟩
 ·exact ⟨λ_=>h,λq=>(by cases q)⟩
theorem cj1{k:Int}{b:Bool}{y:C7}{x:a0E}{K:KT Bool}(h:K (if b=true then decide (y.fexprs=0/\y.fparts=0) else if k=4 then decide (y.fexprs=0/\y.fparts=1) else if k=5\/k=6 then decide (y.fexprs=0/\y.fparts=2) else false) H):a0q k b y x H K:=by
 cases b
 ·refine ⟨λq=>(by cases q),λ_=>?_⟩
  rw [if_neg (by decide)] at h
  refine ⟨λe=>by rw [if_pos e] at h;exact h,λe=>?_⟩
  rw [if_neg e] at h
  refine ⟨λe2=>cj2 ?_,λe2=>cj2 ?_⟩ <;>
   (rw [c0y (q:=k=5\/k=6) (by rw [decide_eq_true_eq];omega)];exact h)
 ·exact ⟨λ_=>h,λq=>(by cases q)⟩
theorem d5B{e:p5}{t:PT}(he:CH H e t){K:KT Bool}(h:K (formL t.lab) H):a5M ⟨e⟩ H K:=by
 refine b5Y _ ?_
 unfold b0h
 cases he with
 | @mk e xs ts ys us hs hb hr hc hcb hcl hcr=>
  have hn:e.z7.n=ts.length:=by have:=hs.1;have:=hr.1;omega
  have hm:e.E9.n=us.length:=by have:=hc.1;omega
  change K (formC e.d9 e.fOp (ts.length:Int) (us.length:Int)) H at h
  unfold formC at h
  dsimp only
  rw [hn,hm]
  generalize (ts.length:Int)=a at h ⊢
  generalize (us.length:Int)=b at h ⊢
  refine ⟨λe1=>by rw [if_pos e1] at h;exact h,λe1=>?_⟩
  rw [if_neg e1] at h
  refine ⟨λe2=>by rw [if_neg e2] at h;exact h,λe2=>?_⟩
  rw [if_pos e2] at h
  refine ⟨λe3=>cj1 ?_,λe3=>cj1 ?_⟩ <;>
   (rw [c0y (q:=e.d9=1\/e.d9=2) (by rw [decide_eq_true_eq];omega)];exact h)
theorem sj1{v:Bool}{k:Int}{b:Bool}{y:N8}{x:a0D}{K:KT Bool}(h:K (if b=true then v&&decide (y.fexprs=0/\y.fconds=1) else if k=7 then v&&decide (y.fexprs=0/\y.fconds=0) else false) H):a0r v k b y x H K:=by
 cases b
 ·refine ⟨λq=>(by cases q),λ_=>?_⟩
  rw [if_neg (by decide)] at h
  exact ⟨λe=>by rw [if_pos e] at h;exact h,λe=>by rw [if_neg e] at h;exact h⟩
 ·exact ⟨λ_=>h,λq=>(by cases q)⟩
theorem d5C{e:i6}{t:PT}(he:SH H e t){K:KT Bool}(h:K (formL t.lab) H):a5K ⟨e⟩ H K:=by
 refine b5Z _ ?_
 unfold b0i
 cases he with
 | @mk e xs ts ys us zs bs vs ws hs hb hr hc hcb hcr ha hab hal har hbs hbb hbl hbr=>
  have n1:e.z7.n=ts.length:=by have:=hs.1;have:=hr.1;omega
  have n2:e.D4.n=us.length:=by have:=hc.1;have:=hcr.1;omega
  have n3:e.T5.n=vs.length:=by have:=ha.1;omega
  have n4:e.T6.n=ws.length:=by have:=hbs.1;omega
  change K (formS e.d9 e.o7 (ts.length:Int) (us.length:Int) (vs.length:Int) (ws.length:Int)) H at h
  unfold formS at h
  dsimp only
  rw [n1,n2,n3,n4,S3 (a:=(vs.length:Int)+(ws.length:Int)) ⟨by omega,by simp only [big] at hab hbb;omega⟩]
  generalize (ts.length:Int)=a at h ⊢
  generalize (us.length:Int)=b at h ⊢
  generalize (vs.length:Int)=c at h ⊢
  generalize (ws.length:Int)=d at h ⊢
  refine ⟨λe1=>by rw [if_pos e1] at h;exact h,λe1=>?_⟩
  rw [if_neg e1] at h
  refine ⟨λe1=>by rw [if_pos e1] at h;exact h,λe2=>?_⟩
  rw [if_neg e2] at h
  refine ⟨λe1=>by rw [if_pos e1] at h;exact h,λe3=>?_⟩
  rw [if_neg e3] at h
  refine ⟨λe1=>by rw [if_pos e1] at h;exact h,λe4=>?_⟩
  rw [if_neg e4] at h
  refine ⟨λe5=>sj1 ?_,λe5=>sj1 ?_⟩ <;>
   (rw [c0y (q:=e.d9=5\/e.d9=6) (by rw [decide_eq_true_eq];omega)];exact h)
theorem e0o{x:j8}{t:PT}(hx:NH H x t){K:KT Bool}(h:K (formL t.lab) H):a7B x H K:=by
 cases x with
 | nil=>exact hx.elim
 | Q2 y=>exact d5A hx h
 | U9 y=>exact d5B hx h
 | Q8 y=>exact d5C hx h
 | T7 y=>
  cases (show t=dT y.a2W from hx)
  exact b6a _ h
theorem d5D{x:j8}{t:PT}(hx:NH H x t){K:KT Sl}(h:∀(r:Sl)(H':Hp)(ns:List j8),Hle H H'->SlH H' 1 C0 r ns->C4 (NH H') ns t.kids->t.kids.length<=4*big->K r H'):a6C x H K:=by
 cases x with
 | nil=>exact hx.elim
 | T7 y=>
  cases (show t=dT y.a2W from hx)
  exact b5I _ (h _ _ [] (Hle.refl _) (SlH.nil _ _ _) C4.nil (Nat.zero_le _))
 | Q2 y=>
  have hx:EH H y.C8 t:=hx
  refine b5D _ ?_
  obtain ⟨e⟩:=y
  cases hx with
  | @mk e xs ts hs hb hl hr=>
   refine b6L hs hb λr H' l hS=>h r H' _ l hS ?_ ?_
   ·exact C4.map ⟨hl,λi a b ha hb=>EH.le l (hr i a b ha hb)⟩
   ·show ts.length<=_;omega
 | U9 y=>
  have hx:CH H y.C3 t:=hx
  refine b5O _ ?_
  obtain ⟨e⟩:=y
  cases hx with
  | @mk e xs ts ys us hs hb hr hc hcb hcl hcr=>
   refine b6L hs hb λr1 H1 l1 hS1=>c1i (hc.le l1) hcb λr2 H2 l2 hS2=>?_
   intro s H3 l3 hS hcap
   have r0:=hr.1
   refine b9H hS (nss:=[_,_]) ((C4.one (hS1.le (l2.trans l3))).app (C4.one (hS2.le l3))) ?_ (by simp [big]) λr H4 l4 hS4=>?_
   ·simp only [List.flatten_cons,List.flatten_nil,List.append_nil,List.length_append,List.length_map];simp only [big] at hb hcb;omega
   simp only [List.flatten_cons,List.flatten_nil,List.append_nil] at hS4
   have l14:=l1.trans (l2.trans (l3.trans l4))
   refine h r H4 _ l14 hS4 ?_ ?_
   ·exact (C4.map (R:=NH H4) (f:=λx=>.Q2 ⟨x⟩) (hr.mono λ_ _=>EH.le l14)).app (C4.map (R:=NH H4) (f:=λx=>.U9 ⟨x⟩) ⟨hcl,λi a b ha hb=>CH.le l14 (hcr i a b ha hb)⟩)
   ·show (ts++us).length<=_;rw [List.length_append];omega
 | Q8 y=>
  have hx:SH H y.t8 t:=hx
  refine b5t _ ?_
  obtain ⟨e⟩:=y
  cases hx with
  | @mk e xs ts ys us zs bs vs ws hs hb hr hc hcb hcr ha hab hal har hbs hbb hbl hbr=>
   refine c1i hc hcb λr1 H1 l1 hS1=>b6L (hs.le l1) hb λr2 H2 l2 hS2=>b6K (ha.le (l1.trans l2)) hab λr3 H3 l3 hS3=>b6K (hbs.le (l1.trans (l2.trans l3))) hbb λr4 H4 l4 hS4=>?_
   intro s H5 l5 hS hcap
   have r0:=hr.1
   have r0':=hcr.1
   refine b9H hS (nss:=[_,_,_,_]) ((C4.one (hS1.le (l2.trans (l3.trans (l4.trans l5))))).app ((C4.one (hS2.le (l3.trans (l4.trans l5)))).app ((C4.one (hS3.le (l4.trans l5))).app (C4.one (hS4.le l5))))) ?_ (by simp [big]) λr H6 l6 hS6=>?_
   ·simp only [List.flatten_cons,List.flatten_nil,List.append_nil,List.length_append,List.length_map];simp only [big] at hb hcb hab hbb;omega
   simp only [List.flatten_cons,List.flatten_nil,List.append_nil] at hS6
   have l16:=l1.trans (l2.trans (l3.trans (l4.trans (l5.trans l6))))
   refine h r H6 _ l16 hS6 ?_ ?_
   ·exact (C4.map (R:=NH H6) (f:=λx=>.U9 ⟨x⟩) (hcr.mono λ_ _=>CH.le l16)).app ((C4.map (R:=NH H6) (f:=λx=>.Q2 ⟨x⟩) (hr.mono λ_ _=>EH.le l16)).app ((C4.map (R:=NH H6) (f:=λx=>.Q8 ⟨x⟩) ⟨hal,λi a b ha hb=>SH.le l16 (har i a b ha hb)⟩).app (C4.map (R:=NH H6) (f:=λx=>.Q8 ⟨x⟩) ⟨hbl,λi a b ha hb=>SH.le l16 (hbr i a b ha hb)⟩)))
   ·show (us++(ts++(vs++ws))).length<=_;simp only [List.length_append];omega
end
structure V where
 n:Int
 d:Int
 e:Int
 f:Bool
 m:Bool
 ns:List BA
def V.w(v:V):v6:=⟨v.n,v.d,v.e,v.f,v.m,⟨none,0,0⟩⟩
def memS(l:List BA)(s:BA):Bool:=l.any λx=>decide (s=x)
theorem a6l{l:List BA}{s:BA}:memS l s=true↔s∈l:=by
 unfold memS;rw [List.any_eq_true]
 constructor
 ·rintro ⟨x,hx,e⟩;rw [of_decide_eq_true e];exact hx
 ·exact λh=>⟨s,h,decide_eq_true rfl⟩
def putS(l:List BA)(s:BA):List BA:=if memS l s=true then l else l++[s]
def vMeet(v:V)(l:Lab)(d:Int):Bool×V:=
 if 4096 < v.n+1 then (false,⟨v.n+1,v.d,33,v.f,v.m,v.ns⟩)
 else if 64 < d then (false,⟨v.n+1,v.d,32,v.f,v.m,v.ns⟩)
 else (true,⟨v.n+1,if d > v.d then d else v.d,v.e,v.f || !formL l,if (nameL l).2=true then v.m || !nameS (nameL l).1 else v.m,if (nameL l).2=true then putS v.ns (nameL l).1 else v.ns⟩)
mutual
def vT:PT->Int->V->Bool×V
 | .mk l cs,d,v=>if (vMeet v l d).1=true then vTs cs (d+1) (vMeet v l d).2 else vMeet v l d
def vTs:List PT->Int->V->Bool×V
 | [],_,v=>(true,v)
 | t::ts,d,v=>if (vT t d v).1=true then vTs ts d (vT t d v).2 else vT t d v
end
def vok(v:V):Prop:=0<=v.n/\v.n<=4096/\(v.ns.length:Int)<=v.n
theorem d5E(l:List BA)(s:BA):(putS l s).length<=l.length+1:=by
 unfold putS;split
 ·omega
 ·rw [List.length_append];exact Nat.le_refl _
theorem c6F{v:V}{l:Lab}{d:Int}(h:vok v)(ht:(vMeet v l d).1=true):vok (vMeet v l d).2:=by
 unfold vMeet at ht ⊢
 unfold vok at h
 split
 ·rw [if_pos (by assumption)] at ht;cases ht
 ·rw [if_neg (by assumption)] at ht
  split
  ·rw [if_pos (by assumption)] at ht;cases ht
  ·refine ⟨by dsimp only;omega,by dsimp only;omega,?_⟩
   dsimp only
   have:=d5E v.ns (nameL l).1
   split<;>omega
mutual
theorem d8a:∀(t:PT)(d:Int)(v:V),vok v->(vT t d v).1=true->vok (vT t d v).2
 | .mk l cs,d,v,h,ht=>by
  rw [vT] at ht ⊢
  split
  ·rename_i hm
   rw [if_pos hm] at ht
   exact d3u cs _ _ (c6F h hm) ht
  ·rename_i hm
   rw [if_neg hm] at ht;exact (hm ht).elim
theorem d3u:∀(ts:List PT)(d:Int)(v:V),vok v->(vTs ts d v).1=true->vok (vTs ts d v).2
 | [],_,v,h,_=>by rw [vTs];exact h
 | t::ts,d,v,h,ht=>by
  rw [vTs] at ht ⊢
  split
  ·rename_i hm
   rw [if_pos hm] at ht
   exact d3u ts d _ (d8a t d v h hm) ht
  ·rename_i hm
   rw [if_neg hm] at ht;exact (hm ht).elim
end
abbrev sml:Nat:=1048576
def numL:Lab->Int
 | .expr _ n _ _=>n
 | _=>0
def smL(l:Lab):Prop:=(nameL l).1.size<=sml/\a0h (numL l)
instance (l:Lab):Decidable (smL l):=by unfold smL;infer_instance
theorem z64:a0h 0:=by decide
inductive Sm:PT->Prop
 | mk {l:Lab} {cs:List PT}:smL l->(∀t∈cs,Sm t)->Sm (.mk l cs)
section
variable {H:Hp}
theorem d5F{l:List BA}(hl:l.length<=big){s:BA}{K:KT Int}(h1:∀i:Int,0<=i->s∈l->K i H)(h2:¬s∈l->K (-1) H):a3m l s H K:=by
 refine b2j _ _ (P7 (λ(i:Int) H'=>0<=i/\i<=l.length/\H'=H/\∀(j:Nat)(x:BA),(j:Int) < i->l[j]? = some x->s≠x) (λi=>(l.length-i).toNat) ⟨Int.le_refl _,by omega,rfl,λj x hj=>by omega⟩ ?_)
 rintro i H1 next ⟨i0,i1,rfl,hi⟩ hn
 refine ⟨λhc=>?_,λhc=>?_⟩
 ·obtain ⟨x,hx⟩:=K2 (l:=l) (i:=i.toNat) (by omega)
  refine ⟨i0,x,hx,λe=>h1 i i0 ?_,λe=>?_⟩
  ·subst e;exact List.mem_of_getElem? hx
  ·rw [K7 i0 (by simp only [big] at hl;omega)]
   refine hn _ _ ⟨by omega,by omega,rfl,λj y hj hy=>?_⟩ (by omega)
   by_cases ej:j=i.toNat
   ·subst ej;rw [hx] at hy;cases hy;exact e
   ·exact hi j y (by omega) hy
 ·unfold a2d
  refine h2 λhm=>?_
  obtain ⟨j,hj⟩:=List.mem_iff_getElem?.1 hm
  exact hi j s (by have:=O1 hj;omega) hj rfl
theorem c8r{l:List BA}(hl:l.length<=big){s:BA}{K:KT Bool}(h:K (memS l s) H):a0v l s H K:=by
 refine b0Z _ _ (d5F hl (λi i0 hm=>?_) λhm=>?_)
 ·rw [a6l.2 hm] at h;rw [decide_eq_true i0];exact h
 ·rw [Bool.eq_false_iff.2 λe=>hm (a6l.1 e)] at h;exact h
theorem d5G(hT:TabsH H){v:V}(hv:vok v){x:j8}{t:PT}(hx:NH H x t)(hs:(nameL t.lab).1.size<=big){d:Int}{K:Bool->v6->List BA->Hp->Prop}(h:K (vMeet v t.lab d).1 (vMeet v t.lab d).2.w (vMeet v t.lab d).2.ns H):a4q v.w v.ns x d H K:=by
 refine b3J _ _ _ _ ?_
 unfold a8b
 unfold vok at hv
 have e1:IntKind.wrap .i64 (v.w.fnodes+1)=v.n+1:=K7 hv.1 (show v.n<=_ by omega)
 rw [e1]
 unfold vMeet at h
 refine ⟨λhc=>by rw [if_pos hc] at h;exact h,λhc=>?_⟩
 rw [if_neg hc] at h
 refine ⟨λhd=>by rw [if_pos hd] at h;exact h,λhd=>?_⟩
 rw [if_neg hd] at h
 refine a2g (formL t.lab) (λ_ K' hk=>e0o hx hk) (c9M hx ?_)
 have ef:(v.w.fform || !(if v.w.fform=false then formL t.lab else false))=(v.f || !formL t.lab):=by
  show (v.f || !(if v.f=false then formL t.lab else false))=_
  cases v.f<;>rfl
 rw [ef]
 refine ⟨λhn=>?_,λhn=>?_⟩
 ·rw [if_pos hn,if_pos hn] at h
  refine a2g (nameS (nameL t.lab).1) (λ_ K' hk=>e0m hT hs hk) (c8r (by simp only [big];omega) ?_)
  have em:(v.w.fnamed || !(if v.w.fnamed=false then nameS (nameL t.lab).1 else false))=(v.m || !nameS (nameL t.lab).1):=by
   show (v.m || !(if v.m=false then nameS (nameL t.lab).1 else false))=_
   cases v.m<;>rfl
  rw [em]
  unfold putS at h
  refine ⟨λhc=>?_,λhc=>?_⟩
  ·have hc':¬memS v.ns (nameL t.lab).1=true:=by simpa using hc
   rw [if_neg hc'] at h
   exact ⟨by simp only [List.length_cons,List.length_nil];omega,h⟩
  ·have hc':memS v.ns (nameL t.lab).1=true:=by simpa using hc
   rw [if_pos hc'] at h
   exact h
 ·simp only [hn,Bool.false_eq_true,if_false] at h
  exact h
def WalkP(ts:List PT):Prop:=∀(s:Sl)(d:Int)(v:V)(H:Hp)(xs:List j8)(K:Bool->v6->List BA->Hp->Prop),TabsH H->SlH H 1 C0 s xs->C4 (NH H) xs ts->ts.length<=4*big->(∀t∈ts,Sm t)->vok v->0<=d->d<=65->
 (∀H',Hle H H'->K (vTs ts d v).1 (vTs ts d v).2.w (vTs ts d v).2.ns H')->a1w s d v.w v.ns H K
theorem c4O{ts:List PT}(ih:∀t∈ts,WalkP t.kids):WalkP ts:=by
 intro s d v H xs K hT hS hr hb hsm hv d0 d1 h
 refine b6I _ _ _ _ ?_
 unfold b0x
 have n1:=hS.1;have r1:=hr.1
 refine P7 (λ(z:Int×Int×Int×Int×Bool×Bool×List BA) H'=>∃u:V,z=(z.1,u.n,u.d,u.e,u.f,u.m,u.ns)/\0<=z.1/\z.1<=ts.length/\Hle H H'/\vok u/\vTs ts d v=vTs (ts.drop z.1.toNat) d u) (λz=>(ts.length-z.1).toNat) ⟨v,rfl,Int.le_refl _,by simp,Hle.refl _,hv,rfl⟩ ?_
 rintro ⟨i,z⟩ H1 next ⟨u,hz,i0,i1,l1,hu,he⟩ hn
 cases hz
 unfold a4X
 refine ⟨λhc=>?_,λhc=>?_⟩
 ·obtain ⟨x,hx,hE⟩:=(hS.le l1).get i0 hc
  obtain ⟨t,ht,hN⟩:=hr.get hx
  have hlt:=O1 ht
  have htm:=List.mem_of_getElem? ht
  have hdrop:ts.drop i.toNat=t::ts.drop (i.toNat+1):=by
   rw [List.drop_eq_getElem_cons hlt];congr 1
   rw [List.getElem?_eq_getElem hlt] at ht;exact Option.some.inj ht
  have hst:=hsm t htm
  have hsz:(nameL t.lab).1.size<=big:=by
   cases hst with
   | mk h1 h2=>exact Nat.le_trans h1.1 (by decide)
  have hsk:∀c∈t.kids,Sm c:=by cases hst;assumption
  rw [hdrop,vTs] at he
  refine ⟨i0,hc,x,hE,d5G (hT.le l1) (v:=u) hu (hN.le l1) hsz ?_⟩
  have hvt:vT t d u=if (vMeet u t.lab d).1=true then vTs t.kids (d+1) (vMeet u t.lab d).2 else vMeet u t.lab d:=by
   cases t;rw [vT];rfl
  by_cases hm:(vMeet u t.lab d).1=true
  ·rw [if_pos hm] at hvt
   have d64:d<=64:=by
    unfold vMeet at hm
    split at hm
    ·cases hm
    ·split at hm
     ·cases hm
     ·omega
   rw [hm]
   refine ⟨λ_=>d5D (hN.le l1) λr H2 ns l2 hS2 hr2 hk2=>?_,λq=>(q rfl).elim⟩
   refine ⟨λ_=>?_,λq=>(q rfl).elim⟩
   rw [K7 d0 (by omega)]
   refine ih t htm r (d+1) _ H2 ns _ (hT.le (l1.trans l2)) hS2 hr2 hk2 hsk (c6F hu hm) (by omega) (by omega) λH3 l3=>?_
   rw [←hvt]
   by_cases hq:(vT t d u).1=true
   ·rw [if_pos hq] at he
    rw [hq]
    refine ⟨λq=>(by cases q),λ_=>?_⟩
    rw [S3 (a:=i+1) ⟨by omega,by simp only [big] at hb;omega⟩]
    refine hn _ _ ⟨(vT t d u).2,rfl,by dsimp only;omega,by dsimp only;omega,l1.trans (l2.trans l3),d8a t d u hu hq,?_⟩ (by dsimp only;omega)
    rw [show (i+1).toNat=i.toNat+1 by omega];exact he
   ·rw [if_neg hq] at he
    have h':=h H3 (l1.trans (l2.trans l3))
    rw [he] at h'
    have hq':=Bool.eq_false_iff.2 hq
    rw [hq'] at h' ⊢
    exact ⟨λ_=>h',λq=>(by cases q)⟩
  ·rw [if_neg hm] at hvt
   rw [hvt,if_neg hm] at he
   have hm':=Bool.eq_false_iff.2 hm
   have h':=h H1 l1
   rw [he] at h'
   rw [hm'] at h' ⊢
   refine ⟨λq=>(by cases q),λ_=>⟨λq=>(by cases q),λ_=>⟨λ_=>h',λq=>(by cases q)⟩⟩⟩
 ·rw [List.drop_eq_nil_of_le (by omega),vTs] at he
  unfold a4W
  have h':=h H1 l1
  rw [he] at h'
  exact h'
end
mutual
theorem d3v:∀t:PT,WalkP t.kids
 | .mk _ cs=>c4O (c1I cs)
theorem c1I:∀(ts:List PT),∀t∈ts,WalkP t.kids
 | [],_,h=>by cases h
 | t::ts,u,h=>by
  cases List.mem_cons.1 h with
  | inl e=>rw [e];exact d3v t
  | inr h=>exact c1I ts u h
end
theorem e0p(ts:List PT):WalkP ts:=c4O (c1I ts)
def v0:V:=⟨0,0,0,false,false,[]⟩
def vEnd(r:Bool×V):Int:=if r.1=true then (if r.2.f=true then 30 else if r.2.m=true then 31 else r.2.e) else r.2.e
section
variable {H:Hp}
theorem d3w(hT:TabsH H){s:Sl}{xs:List j8}{ts:List PT}(hS:SlH H 1 C0 s xs)(hr:C4 (NH H) xs ts)(hb:ts.length<=4*big)(hsm:∀t∈ts,Sm t){K:KT v6}
  (h:∀(sl:Sl)(H':Hp),Hle H H'->SlH H' 1 v7 sl (vTs ts 1 v0).2.ns->K ⟨(vTs ts 1 v0).2.n,(vTs ts 1 v0).2.d,vEnd (vTs ts 1 v0),(vTs ts 1 v0).2.f,(vTs ts 1 v0).2.m,sl⟩ H'):a7x s H K:=by
 refine b8j _ ?_
 unfold b1v
 refine e0p ts s 1 v0 H xs _ hT hS hr hb hsm ⟨by decide,by decide,by decide⟩ (by decide) (by decide) λH1 l1=>?_
 generalize hq:vTs ts 1 v0=q at h ⊢
 obtain ⟨b,u⟩:=q
 dsimp only [V.w] at h ⊢
 unfold vEnd at h
 cases b
 ·refine ⟨λ_=>?_,λq=>(by cases q)⟩
  unfold V4
  intro sl H2 l2 hS2 hc
  exact h sl H2 (l1.trans l2) hS2
 ·refine ⟨λq=>(by cases q),λ_=>⟨λhf=>?_,λhf=>⟨λhm=>?_,λhm=>?_⟩⟩⟩
  all_goals
   unfold V4
   intro sl H2 l2 hS2 hc
   have h':=h sl H2 (l1.trans l2) hS2
   rw [if_pos rfl] at h'
  ·rw [if_pos hf] at h';exact h'
  ·rw [if_neg (by rw [hf];decide),if_pos hm] at h';exact h'
  ·rw [if_neg (by rw [hf];decide),if_neg (by rw [hm];decide)] at h';exact h'
theorem C4.e9u{α β γ δ:Type}{R:γ->δ->Prop}{f:α->γ}{g:β->δ}{xs:List α}{ys:List β}(h:C4 (λx y=>R (f x) (g y)) xs ys):C4 R (xs.map f) (ys.map g):=by
 refine ⟨by rw [List.length_map,List.length_map];exact h.1,λi x y hx hy=>?_⟩
 rw [List.getElem?_map,Option.map_eq_some_iff] at hx hy
 obtain ⟨a,ha,rfl⟩:=hx
 obtain ⟨b,hb,rfl⟩:=hy
 exact h.2 i a b ha hb
def allV(q:PP):Bool×V:=vTs q.nodes 1 v0
def PP.Sm(q:PP):Prop:=∀t∈q.nodes,Go.Proofs.YthjlehnccgjpoaaGreatDoor.Sm t
theorem e4q(hT:TabsH H){p:o8}{q:PP}(hp:PH H p q)(hsm:q.Sm){K:KT v6}
  (h:∀(sl:Sl)(H':Hp),Hle H H'->SlH H' 1 v7 sl (allV q).2.ns->K ⟨(allV q).2.n,(allV q).2.d,vEnd (allV q),(allV q).2.f,(allV q).2.m,sl⟩ H'):b0m p H K:=by
 refine c0T _ ?_
 obtain ⟨hd,hbd,xs,hsl,hb,hr⟩:=hp
 refine c8q hd hbd λr1 H1 l1 hS1=>b6K (hsl.le l1) hb λr2 H2 l2 hS2=>?_
 intro s H3 l3 hS hc
 have r0:=hr.1
 refine b9H hS (nss:=[_,_]) ((C4.one (hS1.le (l2.trans l3))).app (C4.one (hS2.le l3))) ?_ (by simp [big]) λr H4 l4 hS4=>?_
 ·simp only [List.flatten_cons,List.flatten_nil,List.append_nil,List.length_append,List.length_map];simp only [big] at hb hbd;omega
 simp only [List.flatten_cons,List.flatten_nil,List.append_nil] at hS4
 have l14:=l1.trans (l2.trans (l3.trans l4))
 refine d3w (hT.le l14) hS4 (ts:=q.nodes) ?_ ?_ hsm λsl H5 l5 hS5=>h sl H5 (l14.trans l5) hS5
 ·refine C4.app (C4.e9u (R:=NH H4) (f:=λx=>.T7 ⟨x⟩) (g:=dT) ⟨rfl,λi a b ha hb=>?_⟩) (C4.map (R:=NH H4) (f:=λx=>.Q8 ⟨x⟩) (hr.mono λ_ _=>SH.le l14))
  rw [ha] at hb;cases hb;rfl
 ·unfold PP.nodes;rw [List.length_append,List.length_map];omega
theorem c1J(hT:TabsH H){p:o8}{q:PP}(hp:PH H p q)(hsm:q.Sm){K:KT Int}(h:∀H',Hle H H'->K (vEnd (allV q)) H'):a3f p H K:=by
 exact b9c _ (e4q hT hp hsm λsl H' l hS=>h H' l)
end
def SimR(r:Bool×V)(s:W):Prop:=(r.1=true->s=⟨r.2.n,r.2.d,0⟩/\r.2.e=0/\0<=r.2.n/\r.2.n<=4096)/\(r.1=false->s.fbad=r.2.e/\(r.2.e=32\/r.2.e=33))
theorem d5H{v:V}(he:v.e=0)(h0:0<=v.n)(hn:v.n<=4096)(l:Lab)(d:Int):SimR (vMeet v l d) (wStep ⟨v.n,v.d,0⟩ d):=by
 unfold vMeet wStep
 rw [if_pos rfl]
 by_cases h1:4096 < v.n+1
 ·rw [if_pos h1,if_pos (show v.n=4096 by omega)]
  exact ⟨λq=>(by cases q),λ_=>⟨rfl,.inr rfl⟩⟩
 ·rw [if_neg h1,if_neg (show ¬v.n=4096 by omega)]
  by_cases h2:64 < d
  ·rw [if_pos h2,if_pos h2]
   exact ⟨λq=>(by cases q),λ_=>⟨rfl,.inl rfl⟩⟩
  ·rw [if_neg h2,if_neg h2]
   exact ⟨λ_=>⟨rfl,he,by dsimp only;omega,by dsimp only;omega⟩,λq=>(by cases q)⟩
mutual
theorem e6C:∀(t:PT)(d:Int)(v:V),v.e=0->0<=v.n->v.n<=4096->SimR (vT t d v) (wT t d ⟨v.n,v.d,0⟩)
 | .mk l cs,d,v,he,h0,hn=>by
  have hm:=d5H he h0 hn l d
  rw [vT,wT]
  by_cases hq:(vMeet v l d).1=true
  ·rw [if_pos hq]
   obtain ⟨h1,h2,h3,h4⟩:=hm.1 hq
   rw [h1]
   exact c6G cs (d+1) _ h2 h3 h4
  ·rw [if_neg hq]
   have hq':=Bool.eq_false_iff.2 hq
   obtain ⟨h1,h2⟩:=hm.2 hq'
   rw [a9T _ _ _ (by rw [h1];omega)]
   exact ⟨λq=>(hq q).elim,λ_=>⟨h1,h2⟩⟩
theorem c6G:∀(ts:List PT)(d:Int)(v:V),v.e=0->0<=v.n->v.n<=4096->SimR (vTs ts d v) (wTs ts d ⟨v.n,v.d,0⟩)
 | [],d,v,he,h0,hn=>by
  rw [vTs,wTs]
  exact ⟨λ_=>⟨rfl,he,h0,hn⟩,λq=>(by cases q)⟩
 | t::ts,d,v,he,h0,hn=>by
  have hm:=e6C t d v he h0 hn
  rw [vTs,wTs]
  by_cases hq:(vT t d v).1=true
  ·rw [if_pos hq]
   obtain ⟨h1,h2,h3,h4⟩:=hm.1 hq
   rw [h1]
   exact c6G ts d _ h2 h3 h4
  ·rw [if_neg hq]
   have hq':=Bool.eq_false_iff.2 hq
   obtain ⟨h1,h2⟩:=hm.2 hq'
   rw [a9T _ _ _ (by rw [h1];omega)]
   exact ⟨λq=>(hq q).elim,λ_=>⟨h1,h2⟩⟩
end
theorem d8b(ts:List PT):SimR (vTs ts 1 v0) (wTs ts 1 w0S):=c6G ts 1 v0 rfl (by decide) (by decide)
section
variable {H:Hp}
end
end Go.Proofs.YthjlehnccgjpoaaGreatDoor
namespace Go.Proofs.YthjlehnccgjpoaaGreatDoor
open Go.RowKit Go.ChangeShapes
set_option maxRecDepth 100000
theorem b3C{α:Type}{R:α->PT->Prop}:∀xs:List α,(∀a∈xs,∃t,R a t/\Sm t)->∃ts,C4 R xs ts/\∀t∈ts,Sm t
 | [],_=>⟨[],C4.nil,λt h=>by cases h⟩
 | a::xs,h=>by
  obtain ⟨t,h1,h2⟩:=h a List.mem_cons_self
  obtain ⟨ts,h3,h4⟩:=b3C xs λb hb=>h b (List.mem_cons_of_mem _ hb)
  refine ⟨t::ts,(C4.one h1).app h3,λu hu=>?_⟩
  rcases List.mem_cons.1 hu with e | hu
  ·rw [e];exact h2
  ·exact h4 u hu
section
variable {Hd:Type}{enc:TypeId×Value->Hd}{P:Program}{W:World}
theorem a7N{α:Type}{t e:TypeId}{sz:Nat}(ht:P.underlying t=some (.slice e))(hs:P.cellsOf e=sz)(h0:0 < sz)(cf:α->List Value)(Good:α->Prop)
  {n:Nat} {cs:List Value} {x:DataW Hd×List MemPlace} (h:DataW.trod enc P W 0 (λ_=>true) true n t cs=some x)
  (oe:∀n cs y,Rows.uptoBulk y.1 < Rows.uptoBulk x.1->DataW.trod enc P W 0 (λ_=>true) true n e cs=some y->∃a,cs=cf a/\Good a):
  ∃(s:Sl)(xs:List α),cs=[.slice s.a s.n s.c]/\SlH (hpW W) sz cf s xs/\s.n<=s.c/\xs.length<=Rows.uptoBulk x.1/\∀a∈xs,Good a:=by
 rcases Deep.open_slice ht h with ⟨rfl,rfl⟩ | ⟨a,len,cap,m,n',D,Pl,rfl,_,hl,_,hm,rfl,hx⟩
 ·exact ⟨⟨none,0,0⟩,[],rfl,SlH.nil _ _ _,Nat.le_refl _,Nat.zero_le _,λa h=>by cases h⟩
 simp only [if_true] at hm
 subst hm
 rw [hs] at hx
 have hsm:∀k,k < len->Rows.uptoBulk (D k) < Rows.uptoBulk (DataW.slice ((List.range len).map D) ((List.range (m-len)).map λj=>D (len+j))):=λk hk=>by
  have:=c1w (List.mem_map.2 ⟨k,List.mem_range.2 hk,rfl⟩:D k∈(List.range len).map D)
  simp only [Rows.uptoBulk]
  omega
 have key:∀k,k<=len->∃xs:List α,xs.length=k/\∀i b,xs[i]? = some b->AtH (hpW W) a.block (a.off+i*sz) (cf b)/\(i=0->a.spot=none)/\Good b:=by
  intro k
  induction k with
  | zero=>exact λ_=>⟨[],rfl,λi b h=>by simp at h⟩
  | succ k ih=>
   intro hk
   obtain ⟨xs,hxl,hxs⟩:=ih (by omega)
   obtain ⟨cs',h1,h2⟩:=hx k (by omega)
   obtain ⟨b,rfl,hb⟩:=oe _ _ _ (hsm k (by omega)) h2
   obtain ⟨hA,hsp⟩:=e5M h0 h1
   refine ⟨xs++[b],by simp [hxl],λi c hc=>?_⟩
   by_cases hi:i < xs.length
   ·rw [List.getElem?_append_left hi] at hc;exact hxs i c hc
   ·rw [List.getElem?_append_right (by omega)] at hc
    have:i-xs.length=0:=by
     by_cases hz:i-xs.length=0
     ·exact hz
     ·rw [List.getElem?_eq_none (by simp;omega)] at hc;cases hc
    rw [this] at hc
    simp at hc;subst hc
    obtain rfl:i=k:=by omega
    exact ⟨hA,λhz=>hsp (by rw [hz];simp),hb⟩
 obtain ⟨xs,hxl,hxs⟩:=key len (Nat.le_refl _)
 have hbl:len<=Rows.uptoBulkAll ((List.range len).map D):=by have:=c5V ((List.range len).map D);simpa using this
 refine ⟨⟨some a,len,_⟩,xs,rfl,⟨hxl.symm,λi b hb=>?_⟩,hl,?_,λb hb=>?_⟩
 ·obtain ⟨hA,_,_⟩:=hxs i b hb
  have hi:i < len:=by rw [←hxl];exact (List.getElem?_eq_some_iff.1 hb).1
  have hsp:a.spot=none:=by
   have h00:0 < xs.length:=by omega
   exact (hxs 0 xs[0] (List.getElem?_eq_getElem h00)).2.1 rfl
  refine ⟨a.block,a.off,?_,?_⟩
  ·show some a=_
   cases a;simp at hsp;subst hsp;rfl
  ·rw [Int.toNat_natCast];exact hA
 ·show xs.length<=Rows.uptoBulk (.slice _ _)
  simp only [Rows.uptoBulk]
  omega
 ·obtain ⟨i,hi,rfl⟩:=List.mem_iff_getElem.1 hb
  exact (hxs i _ (List.getElem?_eq_getElem hi)).2.2
theorem b0A{t:TypeId}{fs:Array Field}(ht:P.underlying t=some (.struct fs)){n:Nat}{cs:List Value}{x:DataW Hd×List MemPlace}(h:DataW.trod enc P W 0 (λ_=>true) true n t cs=some x):
  cs.length=P.cellsOf t/\∃m,∀(i:Nat)(f:Field),fs[i]? = some f->∃y,DataW.trod enc P W 0 (λ_=>true) true m f.type ((cs.drop f.offset).take (P.cellsOf f.type))=some y/\Rows.uptoBulk y.1 < Rows.uptoBulk x.1:=by
 obtain ⟨xs,m,_,rfl,hl,hxl,hg⟩:=DataW.trod_struct ht h
 refine ⟨hl,m,λi f hf=>?_⟩
 have hi:i < xs.length:=by rw [hxl];exact (Array.getElem?_eq_some_iff.1 hf).1
 refine ⟨xs[i],by rw [hg i f hf,List.getElem?_eq_getElem hi],?_⟩
 have:=c1w (List.mem_map.2 ⟨xs[i],List.getElem_mem hi,rfl⟩:xs[i].1∈xs.map (·.1))
 show _ < Rows.uptoBulk (.agg _)
 simp only [Rows.uptoBulk]
 omega
end
section
variable {Hd:Type}{enc:TypeId×Value->Hd}{W:World}
theorem b7p{t:TypeId}(ht:Tryz.prog.underlying t=some (.int .i64))(hc:Tryz.prog.cellsOf t=1){n:Nat}{l:List Value}{x:DataW Hd×List MemPlace}(h:DataW.trod enc Tryz.prog W 0 (λ_=>true) true n t (l.take (Tryz.prog.cellsOf t))=some x):∃z:Int,l.take 1=[.int .i64 z]/\a0h z:=by
 rw [hc] at h
 obtain ⟨z,hz,a,b⟩:=c8O ht h
 exact ⟨z,hz,a,b⟩
theorem fldk{t k:Nat}(hc:Tryz.prog.cellsOf t=k){n:Nat}{l:List Value}{x:DataW Hd×List MemPlace}(h:DataW.trod enc Tryz.prog W 0 (λ_=>true) true n t (l.take (Tryz.prog.cellsOf t))=some x):DataW.trod enc Tryz.prog W 0 (λ_=>true) true n t (l.take k)=some x:=by rwa [hc] at h
theorem i3:Tryz.prog.underlying 3=some (.int .i64):=Tryz.underlying3
theorem i2:Tryz.prog.underlying 2=some (.int .i64):=Tryz.underlying2
theorem ce3:Tryz.prog.cellsOf 3=1:=by kernel_rfl
theorem ce2:Tryz.prog.cellsOf 2=1:=by kernel_rfl
theorem ceS:Tryz.prog.cellsOf 9=1:=by kernel_rfl
theorem ceE:Tryz.prog.cellsOf 52=1:=by kernel_rfl
theorem ceC:Tryz.prog.cellsOf 53=1:=by kernel_rfl
theorem ceT:Tryz.prog.cellsOf 23=1:=by kernel_rfl
theorem ceD:Tryz.prog.cellsOf 22=1:=by kernel_rfl
theorem c6H{n:Nat}{l:List Value}{x:DataW Hd×List MemPlace}(h:DataW.trod enc Tryz.prog W 0 (λ_=>true) true n 9 (l.take (Tryz.prog.cellsOf 9))=some x):∃s:BA,l.take 1=[.string s]/\s.size < Rows.uptoBulk x.1:=by
 rw [ceS] at h
 exact d0y Tryz.underlying9 h
theorem d3x{n:Nat}{cs:List Value}{x:DataW Hd×List MemPlace}(h:DataW.trod enc Tryz.prog W 0 (λ_=>true) true n 65 cs=some x):∃d:j9,cs=q6 d/\a0h d.D2/\d.o7.size < Rows.uptoBulk x.1:=by
 obtain ⟨hl,m,g⟩:=b0A Tryz.underlying65 h
 rw [show Tryz.prog.cellsOf 65=2 by kernel_rfl] at hl
 match cs,hl with
 | [a,b],_=>
 obtain ⟨_,h0,b0⟩:=g 0 _ rfl
 obtain ⟨_,h1,_⟩:=g 1 _ rfl
 obtain ⟨s,q0,l0⟩:=c6H (l:=[a,b]) h0
 obtain ⟨z1,q1,r1⟩:=b7p (l:=[b]) i3 ce3 h1
 simp at q0 q1
 subst q0;subst q1
 exact ⟨⟨s,z1⟩,rfl,r1,by dsimp only;omega⟩
theorem d3y:∀(b:Nat),b<=1048576->∀{n:Nat}{cs:List Value}{x:DataW Hd×List MemPlace},Rows.uptoBulk x.1<=b->DataW.trod enc Tryz.prog W 0 (λ_=>true) true n 112 cs=some x->∃e:l9,cs=g9 e/\∃t,EH (hpW W) e t/\Sm t:=by
 intro b
 induction b with
 | zero=>intro _ n cs x hx;have:=b7F x.1;omega
 | succ b ih=>
  intro hb n cs x hx h
  obtain ⟨hl,m,g⟩:=b0A Tryz.underlying112 h
  rw [show Tryz.prog.cellsOf 112=4 by kernel_rfl] at hl
  match cs,hl with
  | [a0,a1,a2,a3],_=>
  obtain ⟨_,h0,_⟩:=g 0 _ rfl
  obtain ⟨_,h1,_⟩:=g 1 _ rfl
  obtain ⟨y2,h2,l2⟩:=g 2 _ rfl
  obtain ⟨y3,h3,l3⟩:=g 3 _ rfl
  obtain ⟨z0,q0,_⟩:=b7p (l:=[a0,a1,a2,a3]) i3 ce3 h0
  obtain ⟨z1,q1,r1⟩:=b7p (l:=[a1,a2,a3]) i2 ce2 h1
  obtain ⟨s2,q2,r2⟩:=c6H (l:=[a2,a3]) h2
  obtain ⟨s3,xs,q3,hS,_,hlen,hg⟩:=a7N Tryz.underlying52 (show Tryz.prog.cellsOf 112=4 by kernel_rfl) (by decide) g9 (λe=>∃t,EH (hpW W) e t/\Sm t) (fldk (l:=[a3]) ceE h3) (λn cs y hy h=>ih (by omega) (by omega) h)
  simp at q0 q1 q2 q3
  subst q0;subst q1;subst q2;subst q3
  obtain ⟨ts,hr,hsm⟩:=b3C xs hg
  exact ⟨⟨z0,z1,s2,s3⟩,rfl,_,EH.mk (e:=⟨z0,z1,s2,s3⟩) hS (by simp only [big];omega) hr.1 hr.2,.mk ⟨by show s2.size<=sml;simp only [sml];omega,r1⟩ hsm⟩
theorem c2R{b:Nat}(hb:b<=1048576){n:Nat}{cs:List Value}{x:DataW Hd×List MemPlace}(hx:Rows.uptoBulk x.1<=b)(h:DataW.trod enc Tryz.prog W 0 (λ_=>true) true n 52 cs=some x):
  ∃(s:Sl)(xs:List l9)(ts:List PT),cs=[.slice s.a s.n s.c]/\SlH (hpW W) 4 g9 s xs/\xs.length<=big/\C4 (EH (hpW W)) xs ts/\∀t∈ts,Sm t:=by
 obtain ⟨s3,xs,q3,hS,_,hlen,hg⟩:=a7N Tryz.underlying52 (show Tryz.prog.cellsOf 112=4 by kernel_rfl) (by decide) g9 (λe=>∃t,EH (hpW W) e t/\Sm t) h (λn cs y hy h=>d3y b hb (by omega) h)
 obtain ⟨ts,hr,hsm⟩:=b3C xs hg
 exact ⟨s3,xs,ts,q3,hS,by simp only [big];omega,hr,hsm⟩
theorem b7q{a b:List PT}(ha:∀t∈a,Sm t)(hb:∀t∈b,Sm t):∀t∈a++b,Sm t:=λt h=>(List.mem_append.1 h).elim (ha t) (hb t)
theorem d3z:(⟨#[]⟩:BA).size<=sml:=by decide
theorem d3A:∀(b:Nat),b<=1048576->∀{n:Nat}{cs:List Value}{x:DataW Hd×List MemPlace},Rows.uptoBulk x.1<=b->DataW.trod enc Tryz.prog W 0 (λ_=>true) true n 115 cs=some x->∃e:p5,cs=l7 e/\∃t,CH (hpW W) e t/\Sm t:=by
 intro b
 induction b with
 | zero=>intro _ n cs x hx;have:=b7F x.1;omega
 | succ b ih=>
  intro hb n cs x hx h
  obtain ⟨hl,m,g⟩:=b0A Tryz.underlying115 h
  rw [show Tryz.prog.cellsOf 115=4 by kernel_rfl] at hl
  match cs,hl with
  | [a0,a1,a2,a3],_=>
  obtain ⟨_,h0,_⟩:=g 0 _ rfl
  obtain ⟨_,h1,_⟩:=g 1 _ rfl
  obtain ⟨y2,h2,l2⟩:=g 2 _ rfl
  obtain ⟨y3,h3,l3⟩:=g 3 _ rfl
  obtain ⟨z0,q0,_⟩:=b7p (l:=[a0,a1,a2,a3]) i3 ce3 h0
  obtain ⟨z1,q1,r1⟩:=b7p (l:=[a1,a2,a3]) i3 ce3 h1
  obtain ⟨s2,xs,ts,q2,hE,hEl,hEr,hEs⟩:=c2R (b:=b+1) hb (by omega) (fldk (l:=[a2,a3]) ceE h2)
  obtain ⟨s3,ys,q3,hS,_,hlen,hg⟩:=a7N Tryz.underlying53 (show Tryz.prog.cellsOf 115=4 by kernel_rfl) (by decide) l7 (λe=>∃t,CH (hpW W) e t/\Sm t) (fldk (l:=[a3]) ceC h3) (λn cs y hy h=>ih (by omega) (by omega) h)
  simp at q0 q1 q2 q3
  subst q0;subst q1;subst q2;subst q3
  obtain ⟨us,hr,hsm⟩:=b3C ys hg
  exact ⟨⟨z0,z1,s2,s3⟩,rfl,_,CH.mk (c:=⟨z0,z1,s2,s3⟩) hE hEl hEr hS (by simp only [big];omega) hr.1 hr.2,.mk ⟨d3z,z64⟩ (b7q hEs hsm)⟩
theorem d1d{b:Nat}(hb:b<=1048576){n:Nat}{cs:List Value}{x:DataW Hd×List MemPlace}(hx:Rows.uptoBulk x.1<=b)(h:DataW.trod enc Tryz.prog W 0 (λ_=>true) true n 53 cs=some x):
  ∃(s:Sl)(xs:List p5)(ts:List PT),cs=[.slice s.a s.n s.c]/\SlH (hpW W) 4 l7 s xs/\xs.length<=big/\C4 (CH (hpW W)) xs ts/\∀t∈ts,Sm t:=by
 obtain ⟨s3,xs,q3,hS,_,hlen,hg⟩:=a7N Tryz.underlying53 (show Tryz.prog.cellsOf 115=4 by kernel_rfl) (by decide) l7 (λe=>∃t,CH (hpW W) e t/\Sm t) h (λn cs y hy h=>d3A b hb (by omega) h)
 obtain ⟨ts,hr,hsm⟩:=b3C xs hg
 exact ⟨s3,xs,ts,q3,hS,by simp only [big];omega,hr,hsm⟩
theorem d3B:∀(b:Nat),b<=1048576->∀{n:Nat}{cs:List Value}{x:DataW Hd×List MemPlace},Rows.uptoBulk x.1<=b->DataW.trod enc Tryz.prog W 0 (λ_=>true) true n 55 cs=some x->∃e:i6,cs=q9 e/\∃t,SH (hpW W) e t/\Sm t:=by
 intro b
 induction b with
 | zero=>intro _ n cs x hx;have:=b7F x.1;omega
 | succ b ih=>
  intro hb n cs x hx h
  obtain ⟨hl,m,g⟩:=b0A Tryz.underlying55 h
  rw [show Tryz.prog.cellsOf 55=6 by kernel_rfl] at hl
  match cs,hl with
  | [a0,a1,a2,a3,a4,a5],_=>
  obtain ⟨_,h0,_⟩:=g 0 _ rfl
  obtain ⟨_,h1,l1⟩:=g 1 _ rfl
  obtain ⟨y2,h2,l2⟩:=g 2 _ rfl
  obtain ⟨y3,h3,l3⟩:=g 3 _ rfl
  obtain ⟨y4,h4,l4⟩:=g 4 _ rfl
  obtain ⟨y5,h5,l5⟩:=g 5 _ rfl
  obtain ⟨z0,q0,_⟩:=b7p (l:=[a0,a1,a2,a3,a4,a5]) i3 ce3 h0
  obtain ⟨s1,q1,r1⟩:=c6H (l:=[a1,a2,a3,a4,a5]) h1
  obtain ⟨s2,xs,ts,q2,hE,hEl,hEr,hEs⟩:=c2R (b:=b+1) hb (by omega) (fldk (l:=[a2,a3,a4,a5]) ceE h2)
  obtain ⟨s3,ys,us,q3,hC,hCl,hCr,hCs⟩:=d1d (b:=b+1) hb (by omega) (fldk (l:=[a3,a4,a5]) ceC h3)
  obtain ⟨s4,zs,q4,hS,_,hlen,hg⟩:=a7N Tryz.underlying23 (show Tryz.prog.cellsOf 55=6 by kernel_rfl) (by decide) q9 (λe=>∃t,SH (hpW W) e t/\Sm t) (fldk (l:=[a4,a5]) ceT h4) (λn cs y hy h=>ih (by omega) (by omega) h)
  obtain ⟨s5,bs,q5,hS',_,hlen',hg'⟩:=a7N Tryz.underlying23 (show Tryz.prog.cellsOf 55=6 by kernel_rfl) (by decide) q9 (λe=>∃t,SH (hpW W) e t/\Sm t) (fldk (l:=[a5]) ceT h5) (λn cs y hy h=>ih (by omega) (by omega) h)
  simp at q0 q1 q2 q3 q4 q5
  subst q0;subst q1;subst q2;subst q3;subst q4;subst q5
  obtain ⟨vs,hr,hsm⟩:=b3C zs hg
  obtain ⟨ws,hr',hsm'⟩:=b3C bs hg'
  exact ⟨⟨z0,s1,s2,s3,s4,s5⟩,rfl,_,SH.mk (s:=⟨z0,s1,s2,s3,s4,s5⟩) hE hEl hEr hC hCl hCr hS (by simp only [big];omega) hr.1 hr.2 hS' (by simp only [big];omega) hr'.1 hr'.2,.mk ⟨by show s1.size<=sml;simp only [sml];omega,z64⟩ (b7q hCs (b7q hEs (b7q hsm hsm')))⟩
theorem d1e{b:Nat}{v:Value}{d:DataW Hd}{ps:List MemPlace}(hv:Value.okWide Tryz.prog W .any b 25 v)(h:DataW.Trod enc Tryz.prog W 0 (λ_=>true) true 25 v d ps)(hb:Rows.uptoBulk d<=1048576):
  ∃(p:o8)(q:PP),v=.agg (q7 p).toArray/\PH (hpW W) p q/\q.Sm/\p.a2h.n<=p.a2h.c/\p.a7s.n<=p.a7s.c:=by
 obtain ⟨n,h⟩:=c2n h
 have hagg:=c5W Tryz.underlying25 hv
 obtain ⟨hl,m,g⟩:=b0A Tryz.underlying25 h
 rw [show Tryz.prog.cellsOf 25=2 by kernel_rfl] at hl
 generalize hq:v.cells=q at h hl g hagg
 obtain ⟨l⟩:=q
 match l,hl with
 | [a0,a1],_=>
 obtain ⟨y0,h0,l0⟩:=g 0 _ rfl
 obtain ⟨y1,h1,l1⟩:=g 1 _ rfl
 obtain ⟨s0,xs,q0,hS,hc0,hlen,hg⟩:=a7N Tryz.underlying22 (show Tryz.prog.cellsOf 65=2 by kernel_rfl) (by decide) q6 (λe=>e.o7.size<=1048576) (fldk (l:=[a0,a1]) ceD h0) (λn cs y hy h=>by
  obtain ⟨e,h1,_,h2⟩:=d3x h
  dsimp only at l0
  exact ⟨e,h1,by omega⟩)
 obtain ⟨s1,zs,q1,hS',hc1,hlen',hg'⟩:=a7N Tryz.underlying23 (show Tryz.prog.cellsOf 55=6 by kernel_rfl) (by decide) q9 (λe=>∃t,SH (hpW W) e t/\Sm t) (fldk (l:=[a1]) ceT h1) (λn cs y hy h=>d3B 1048576 (Nat.le_refl _) (by dsimp only at l1;omega) h)
 simp at q0 q1
 subst q0;subst q1
 obtain ⟨vs,hr,hsm⟩:=b3C zs hg'
 dsimp only at l0 l1
 refine ⟨⟨s0,s1⟩,⟨xs,vs⟩,hagg,⟨hS,by simp only [big];omega,zs,hS',by simp only [big];omega,hr⟩,b7q (λt ht=>?_) hsm,hc0,hc1⟩
 obtain ⟨e,he,rfl⟩:=List.mem_map.1 ht
 exact .mk ⟨by show e.o7.size<=sml;have:=hg e he;simp only [sml];omega,z64⟩ λt ht=>by cases ht
theorem d3C{b:Nat}{v:Value}{d:DataW Hd}{ps:List MemPlace}(hv:Value.okWide Tryz.prog W .any b 25 v)(h:DataW.Trod enc Tryz.prog W 0 (λ_=>true) true 25 v d ps)(hb:Rows.uptoBulk d<=1048576):
  ∃(p:o8)(q:PP),v=.agg (q7 p).toArray/\PH (hpW W) p q/\q.Sm:=by
 obtain ⟨p,q,h1,h2,h3,_⟩:=d1e hv h hb
 exact ⟨p,q,h1,h2,h3⟩
end
end Go.Proofs.YthjlehnccgjpoaaGreatDoor
