/-  -/
import GoSem.Core.Utf8
import Derived.Test.YthaaobpfbgcfiaaGreatDooryWQ2
import Derived.Test.YthaaobpfbgcfiaaGreatDooryWSh
namespace Go.Proofs.YthaaobpfbgcfiaaGreatDoor
theorem contB(i n c:Nat)(hc:c < 256):(decide (i < n)&&c / 64 == 2)=decide (i < n∧128≤c∧c < 192):=by
 rw [Bool.eq_iff_iff];simp;omega
def decN(c c1 c2 c3:Nat)(A1 A2 A3:Bool):Nat×Nat:=
 if c < 128 then (c,1)
 else if c / 32 == 6&&A1 then (if c % 32*64+c1 % 64 ≥ 128 then (c % 32*64+c1 % 64,2) else (65533,1))
 else if c / 16 == 14&&A1&&A2 then
  (if decide (c % 16*4096+c1 % 64*64+c2 % 64 ≥ 2048)&&Utf8.valid ↑(c % 16*4096+c1 % 64*64+c2 % 64) then (c % 16*4096+c1 % 64*64+c2 % 64,3) else (65533,1))
 else if c / 8 == 30&&A1&&A2&&A3 then
  (if decide (c % 8*262144+c1 % 64*4096+c2 % 64*64+c3 % 64 ≥ 65536)&&Utf8.valid ↑(c % 8*262144+c1 % 64*4096+c2 % 64*64+c3 % 64) then (c % 8*262144+c1 % 64*4096+c2 % 64*64+c3 % 64,4) else (65533,1))
 else (65533,1)
theorem decode_N(s:ByteArray)(p:Nat):Utf8.decode s p=decN (s.get! p).toNat (s.get! (p+1)).toNat (s.get! (p+2)).toNat (s.get! (p+3)).toNat
  (decide (p+1 < s.size∧128≤(s.get! (p+1)).toNat∧(s.get! (p+1)).toNat < 192)) (decide (p+2 < s.size∧128≤(s.get! (p+2)).toNat∧(s.get! (p+2)).toNat < 192))
  (decide (p+3 < s.size∧128≤(s.get! (p+3)).toNat∧(s.get! (p+3)).toNat < 192)):=by
 unfold Utf8.decode decN
 rw [←contB _ _ _ (UInt8.toNat_lt (s.get! (p+1))),← contB _ _ _ (UInt8.toNat_lt (s.get! (p+2))),← contB _ _ _ (UInt8.toNat_lt (s.get! (p+3)))]
 rfl
theorem c1O(c c1 c2 c3:Nat)(A1 A2 A3:Bool):(decN c c1 c2 c3 A1 A2 A3).2=1∨((decN c c1 c2 c3 A1 A2 A3).2=2∧A1=true)∨((decN c c1 c2 c3 A1 A2 A3).2=3∧A2=true)∨((decN c c1 c2 c3 A1 A2 A3).2=4∧A3=true):=by
 unfold decN
 cases A1<;>cases A2<;>cases A3<;>simp only [Bool.and_true,Bool.and_false,Bool.false_eq_true,if_false]<;>(repeat' split)<;>simp
theorem a4j(s:ByteArray)(p:Nat):1≤(Utf8.decode s p).2:=by
 rw [decode_N]
 rcases c1O (s.get! p).toNat (s.get! (p+1)).toNat (s.get! (p+2)).toNat (s.get! (p+3)).toNat
  (decide (p+1 < s.size∧128≤(s.get! (p+1)).toNat∧(s.get! (p+1)).toNat < 192)) (decide (p+2 < s.size∧128≤(s.get! (p+2)).toNat∧(s.get! (p+2)).toNat < 192))
  (decide (p+3 < s.size∧128≤(s.get! (p+3)).toNat∧(s.get! (p+3)).toNat < 192)) with h | h | h | h<;>omega
def bad(s:ByteArray)(p:Nat):Prop:=(Utf8.decode s p).1=65533∧(Utf8.decode s p).2=1
instance (s:ByteArray) (p:Nat):Decidable (bad s p):=by unfold bad;infer_instance
open Go.RowKit
set_option maxRecDepth 100000
set_option maxHeartbeats 2000000
def TabsH(H:Hp):Prop:=∀w:World,Sub H w→Lib.Utf8Tabs 0 1 w
theorem TabsH.le{H H':Hp}(h:TabsH H)(l:Hle H H'):TabsH H':=fun w s=>h w fun i o e=>s i o (l i o e)
theorem Inv.of_below{w w':World}{H:Hp}(I:Inv w (inF []) H H [] w)(b:Below w.heap.size w w'):Inv w (inF []) H H [] w':=
 ⟨fun i o h=>(b.block i (I.Hlt h)).trans (I.sub i o h),fun p h=>(by cases h),fun p h=>(by cases h),List.nodup_nil,fun p h=>(by cases h),fun i hi _=>b.block i hi,b.size,b.os,b.tape,b.output,Hle.refl _,fun _ _ _=>rfl⟩
section
variable {H:Hp}
theorem c4T(hT:TabsH H){s:ByteArray}(hs:s.size≤big){K:Bool→Hp→Prop}(h:K (Lib.validD s.data.toList) H):a4q s H K:=by
 intro w I
 refine Calls.mono (Any.utf8_ValidString Tryz.c0K s w (by simp only [big] at hs;omega) (hT w I.sub)) fun e w' hb=>?_
 obtain ⟨rfl,hb⟩:=hb
 exact ⟨H,[],I.of_below hb,_,rfl,rfl,h⟩
def runes(s:ByteArray):Nat→Nat→List Int
 | 0,_=>[]
 | f+1,p=>if p < s.size then ((Utf8.decode s p).1:Int)::runes s f (p+(Utf8.decode s p).2) else []
theorem b7p(s:ByteArray):∀(f g p:Nat),s.size-p≤f→s.size-p≤g→runes s f p=runes s g p
 | 0,0,_,_,_=>rfl
 | 0,g+1,p,h,_=>by rw [runes,runes,if_neg (by omega)]
 | f+1,0,p,_,h=>by rw [runes,runes,if_neg (by omega)]
 | f+1,g+1,p,h,h'=>by
  rw [runes,runes]
  split
  ·have:=a4j s p
   rw [b7p s f g _ (by omega) (by omega)]
  ·rfl
theorem b7q(s:ByteArray):∀(f p:Nat),(runes s f p).length≤s.size-p
 | 0,_=>by rw [runes];exact Nat.zero_le _
 | f+1,p=>by
  rw [runes]
  split
  ·have:=a4j s p
   have:=b7q s f (p+(Utf8.decode s p).2)
   rw [List.length_cons];omega
  ·exact Nat.zero_le _
def runesOf(s:ByteArray):List Int:=runes s s.size 0
theorem c1P{s:ByteArray}{p:Nat}(hp:p < s.size):runes s (s.size-p) p=((Utf8.decode s p).1:Int)::runes s (s.size-(p+(Utf8.decode s p).2)) (p+(Utf8.decode s p).2):=by
 have:=a4j s p
 obtain ⟨m,hm⟩:∃m,s.size-p=m+1:=⟨s.size-p-1,by omega⟩
 rw [hm,runes,if_pos hp,b7p s m (s.size-(p+(Utf8.decode s p).2)) _ (by omega) (by omega)]
theorem c3H{s:ByteArray}{p:Nat}(hp:¬p < s.size)(f:Nat):runes s f p=[]:=by
 cases f with
 | zero=>rw [runes]
 | succ f=>rw [runes,if_neg hp]
theorem c4U{s:ByteArray}(hs:s.size≤big){K:Int→Hp→Prop}(h:K ((runesOf s).length:Int) H):Y4 s H K:=by
 refine a6U _ ?_
 unfold a2t
 have hl:=b7q s s.size 0
 refine Z2 (fun(z:Int×Nat) H'=>H'=H∧0≤z.1∧z.1+((runes s (s.size-z.2) z.2).length:Int)=((runesOf s).length:Int)) (fun z=>s.size-z.2) ⟨rfl,Int.le_refl _,by simp [runesOf]⟩ ?_
 rintro ⟨n,p⟩ H1 next ⟨rfl,n0,hn⟩ hk
 dsimp only at n0 hn ⊢
 unfold a1t
 refine ⟨fun hc=>?_,fun hc=>?_⟩
 ·rw [c1P hc,List.length_cons] at hn
  have:=a4j s p
  rw [D6 n0 (by unfold runesOf at hn;simp only [big] at hs;omega)]
  exact hk _ _ ⟨rfl,by show 0≤n+1;omega,by dsimp only;omega⟩ (by show s.size-(p+_) < s.size-p;omega)
 ·rw [c3H hc] at hn
  unfold V3
  rw [show n=((runesOf s).length:Int) by simpa using hn]
  exact h
theorem c8f{s:ByteArray}(hs:s.size≤big){K:Bool→Hp→Prop}(h:K (decide (32 < ((runesOf s).length:Int))) H):a6w s H K:=by
 refine b4F _ ?_
 unfold a9s
 exact c4U hs h
def wordS(s:ByteArray):Bool:=decide (s=⟨#[118,97,114]⟩)||decide (s=⟨#[97,114,114,97,121]⟩)||decide (s=⟨#[105,102]⟩)||decide (s=⟨#[101,108,115,101]⟩)||decide (s=⟨#[119,104,105,108,101]⟩)||decide (s=⟨#[97,115,115,101,114,116]⟩)||decide (s=⟨#[97,115,115,117,109,101]⟩)||decide (s=⟨#[115,107,105,112]⟩)||decide (s=⟨#[105,110,112,117,116]⟩)||decide (s=⟨#[116,114,117,101]⟩)||decide (s=⟨#[102,97,108,115,101]⟩)
theorem c8g{s:ByteArray}{K:Bool→Hp→Prop}(h:K (wordS s) H):a6x s H K:=by
 refine b4C _ ?_
 unfold a9p
 unfold wordS at h
 refine ⟨fun e=>?_,fun e0=>?_⟩
 ·unfold u6
  subst e;exact ⟨fun _=>h,fun hc=>(by cases hc)⟩
 refine ⟨fun e=>?_,fun e1=>?_⟩
 ·unfold u6
  subst e;exact ⟨fun _=>h,fun hc=>(by cases hc)⟩
 refine ⟨fun e=>?_,fun e2=>?_⟩
 ·unfold u6
  subst e;exact ⟨fun _=>h,fun hc=>(by cases hc)⟩
 refine ⟨fun e=>?_,fun e3=>?_⟩
 ·unfold u6
  subst e;exact ⟨fun _=>h,fun hc=>(by cases hc)⟩
 refine ⟨fun e=>?_,fun e4=>?_⟩
 ·unfold u6
  subst e;exact ⟨fun _=>h,fun hc=>(by cases hc)⟩
 refine ⟨fun e=>?_,fun e5=>?_⟩
 ·unfold u6
  subst e;exact ⟨fun _=>h,fun hc=>(by cases hc)⟩
 refine ⟨fun e=>?_,fun e6=>?_⟩
 ·unfold u6
  subst e;exact ⟨fun _=>h,fun hc=>(by cases hc)⟩
 refine ⟨fun e=>?_,fun e7=>?_⟩
 ·unfold u6
  subst e;exact ⟨fun _=>h,fun hc=>(by cases hc)⟩
 refine ⟨fun e=>?_,fun e8=>?_⟩
 ·unfold u6
  subst e;exact ⟨fun _=>h,fun hc=>(by cases hc)⟩
 refine ⟨fun e=>?_,fun e9=>?_⟩
 ·unfold u6
  subst e;exact ⟨fun _=>h,fun hc=>(by cases hc)⟩
 simp only [decide_eq_false e0,decide_eq_false e1,decide_eq_false e2,decide_eq_false e3,decide_eq_false e4,decide_eq_false e5,decide_eq_false e6,decide_eq_false e7,decide_eq_false e8,decide_eq_false e9,Bool.false_or] at h
 unfold u6
 generalize decide (s=⟨#[102,97,108,115,101]⟩)=q at h ⊢
 cases q
 ·exact ⟨fun hc=>(by cases hc),fun _=>h⟩
 ·exact ⟨fun _=>h,fun hc=>(by cases hc)⟩
def signR(r:Int):Prop:=r=59∨r=44∨r=123∨r=125∨r=40∨r=41∨r=91∨r=93∨r=61∨r=33∨r=60∨r=62∨r=43∨r=45∨r=42∨r=47∨r=37∨r=38∨r=124
instance (r:Int):Decidable (signR r):=by unfold signR;infer_instance
def letterR(r:Int):Prop:=r=95∨(97≤r∧r≤122)∨(65≤r∧r≤90)∨(192≤r∧r≤591)∨(913≤r∧r≤969)∨(1040≤r∧r≤1103)
instance (r:Int):Decidable (letterR r):=by unfold letterR;infer_instance
def classS(r:Int):Int:=
 if r=32∨r=9∨r=13 then 1 else if r=10 then 2 else if signR r then 5 else if r=215∨r=247∨r=930 then 6 else if 48≤r∧r≤57 then 4 else if letterR r then 3 else 6
theorem a5D{a b r:Int}{K:Bool→Hp→Prop}(h:K (decide (a≤r)&&decide (r≤b)) H):L1 a b r H K:=b1J _ _ _ h
theorem b7r{r:Int}{b:Bool}{K:Int→Hp→Prop}(h:K (if b=true then 3 else 6) H):E5 b r H K:=by
 unfold E5
 cases b
 ·exact ⟨fun hc=>(by cases hc),fun _=>h⟩
 ·exact ⟨fun _=>h,fun hc=>(by cases hc)⟩
theorem b3Q{r:Int}{b:Bool}{K:Int→Hp→Prop}(h:K (if b=true then 6 else if 48≤r∧r≤57 then 4 else if letterR r then 3 else 6) H):S4 b r H K:=by
 unfold S4
 refine ⟨fun hb=>by rw [if_pos hb] at h;exact h,fun hb=>a5D ?_⟩
 rw [if_neg (by rw [hb];decide)] at h
 refine ⟨fun h1=>?_,fun h1=>?_⟩
 ·rw [if_pos (by simpa using h1)] at h;exact h
 rw [if_neg (by simpa using h1)] at h
 refine ⟨fun h2=>?_,fun h2=>a5D ?_⟩
 ·refine b7r ?_
  rw [if_pos (show letterR r from .inl h2)] at h
  rw [decide_eq_true h2];exact h
 have last:∀(lo hi:Int)(K':Bool→Hp→Prop),K' (decide (lo≤r)&&decide (r≤hi)) H→L1 lo hi r H K':=fun lo hi K' hk=>a5D hk
 have go:∀(b:Bool)(q:Prop) [Decidable q],(b=true↔q)→K (if q then 3 else 6) H→E5 b r H K:=fun b q _ hq hk=>b7r (by
  by_cases hh:q
  ·rw [if_pos (hq.2 hh)];rw [if_pos hh] at hk;exact hk
  ·rw [if_neg (fun e=>hh (hq.1 e))];rw [if_neg hh] at hk;exact hk)
 refine ⟨fun h3=>go _ _ ?_ h,fun h3=>a5D ⟨fun h4=>go _ _ ?_ h,fun h4=>a5D ⟨fun h5=>go _ _ ?_ h,fun h5=>a5D ⟨fun h6=>go _ _ ?_ h,fun h6=>a5D (go _ _ ?_ h)⟩⟩⟩⟩ <;>
  (clear go last h;unfold letterR;simp only [←Bool.decide_and,decide_eq_true_eq,decide_eq_false_iff_not] at *;omega)
theorem c3I{r:Int}{b:Bool}{K:Int→Hp→Prop}(h:K (if b=true then 5 else if r=215∨r=247∨r=930 then 6 else if 48≤r∧r≤57 then 4 else if letterR r then 3 else 6) H):r8 r b r H K:=by
 unfold r8
 refine ⟨fun hb=>by rw [if_pos hb] at h;exact h,fun hb=>?_⟩
 rw [if_neg (by rw [hb];decide)] at h
 refine ⟨fun e=>b3Q ?_,fun e1=>⟨fun e=>b3Q ?_,fun e2=>b3Q ?_⟩⟩
 ·rw [if_pos (.inl e)] at h;rw [decide_eq_true e];exact h
 ·rw [if_pos (.inr (.inl e))] at h;rw [decide_eq_true e];exact h
 ·by_cases e:r=930
  ·rw [if_pos (.inr (.inr e))] at h;rw [decide_eq_true e];exact h
  ·rw [if_neg (by omega)] at h;rw [decide_eq_false e];exact h
theorem b3a{r:Int}{b:Bool}{K:Int→Hp→Prop}(h:K (if b=true then 1 else if r=10 then 2 else if signR r then 5 else if r=215∨r=247∨r=930 then 6 else if 48≤r∧r≤57 then 4 else if letterR r then 3 else 6) H):S5 r b r H K:=by
 unfold S5
 refine ⟨fun hb=>by rw [if_pos hb] at h;exact h,fun hb=>?_⟩
 rw [if_neg (by rw [hb];decide)] at h
 refine ⟨fun e=>by rw [if_pos e] at h;exact h,fun e=>?_⟩
 rw [if_neg e] at h
 have go:∀(b:Bool),(b=true↔signR r)→r8 r b r H K:=fun b hq=>c3I (by
  by_cases hh:signR r
  ·rw [if_pos (hq.2 hh)];rw [if_pos hh] at h;exact h
  ·rw [if_neg (fun e=>hh (hq.1 e))];rw [if_neg hh] at h;exact h)
 clear h
 refine ⟨fun e=>go _ ?_,fun e0=>?_⟩
 ·rw [decide_eq_true e];unfold signR;simp only [true_iff];omega
 refine ⟨fun e=>go _ ?_,fun e1=>?_⟩
 ·rw [decide_eq_true e];unfold signR;simp only [true_iff];omega
 refine ⟨fun e=>go _ ?_,fun e2=>?_⟩
 ·rw [decide_eq_true e];unfold signR;simp only [true_iff];omega
 refine ⟨fun e=>go _ ?_,fun e3=>?_⟩
 ·rw [decide_eq_true e];unfold signR;simp only [true_iff];omega
 refine ⟨fun e=>go _ ?_,fun e4=>?_⟩
 ·rw [decide_eq_true e];unfold signR;simp only [true_iff];omega
 refine ⟨fun e=>go _ ?_,fun e5=>?_⟩
 ·rw [decide_eq_true e];unfold signR;simp only [true_iff];omega
 refine ⟨fun e=>go _ ?_,fun e6=>?_⟩
 ·rw [decide_eq_true e];unfold signR;simp only [true_iff];omega
 refine ⟨fun e=>go _ ?_,fun e7=>?_⟩
 ·rw [decide_eq_true e];unfold signR;simp only [true_iff];omega
 refine ⟨fun e=>go _ ?_,fun e8=>?_⟩
 ·rw [decide_eq_true e];unfold signR;simp only [true_iff];omega
 refine ⟨fun e=>go _ ?_,fun e9=>?_⟩
 ·rw [decide_eq_true e];unfold signR;simp only [true_iff];omega
 refine ⟨fun e=>go _ ?_,fun e10=>?_⟩
 ·rw [decide_eq_true e];unfold signR;simp only [true_iff];omega
 refine ⟨fun e=>go _ ?_,fun e11=>?_⟩
 ·rw [decide_eq_true e];unfold signR;simp only [true_iff];omega
 refine ⟨fun e=>go _ ?_,fun e12=>?_⟩
 ·rw [decide_eq_true e];unfold signR;simp only [true_iff];omega
 refine ⟨fun e=>go _ ?_,fun e13=>?_⟩
 ·rw [decide_eq_true e];unfold signR;simp only [true_iff];omega
 refine ⟨fun e=>go _ ?_,fun e14=>?_⟩
 ·rw [decide_eq_true e];unfold signR;simp only [true_iff];omega
 refine ⟨fun e=>go _ ?_,fun e15=>?_⟩
 ·rw [decide_eq_true e];unfold signR;simp only [true_iff];omega
 refine ⟨fun e=>go _ ?_,fun e16=>?_⟩
 ·rw [decide_eq_true e];unfold signR;simp only [true_iff];omega
 refine ⟨fun e=>go _ ?_,fun e17=>?_⟩
 ·rw [decide_eq_true e];unfold signR;simp only [true_iff];omega
 refine go _ ?_
 unfold signR
 simp only [decide_eq_true_eq]
 omega
theorem b8N{r:Int}{K:Int→Hp→Prop}(h:K (classS r) H):a2u r H K:=by
 refine b3n _ ?_
 unfold a7W
 unfold classS at h
 refine ⟨fun e=>b3a ?_,fun e1=>⟨fun e=>b3a ?_,fun e2=>b3a ?_⟩⟩
 ·rw [if_pos (.inl e)] at h;rw [decide_eq_true e];exact h
 ·rw [if_pos (.inr (.inl e))] at h;rw [decide_eq_true e];exact h
 ·by_cases e:r=13
  ·rw [if_pos (.inr (.inr e))] at h;rw [decide_eq_true e];exact h
  ·rw [if_neg (by omega)] at h;rw [decide_eq_false e];exact h
def goesS(r:Int):Bool:=decide (classS r=3)||decide (classS r=4)
theorem c8h{r:Int}{K:Bool→Hp→Prop}(h:K (goesS r) H):a4G r H K:=by
 refine b3m _ ?_
 unfold a7V
 exact b8N h
def nameAt(s:ByteArray):Nat→Nat→Bool
 | 0,_=>true
 | f+1,p=>if p < s.size then (if goesS ((Utf8.decode s p).1:Int)=true∧¬(p=0∧classS ((Utf8.decode s p).1:Int)≠3) then nameAt s f (p+(Utf8.decode s p).2) else false) else true
theorem b6c(s:ByteArray):∀(f g p:Nat),s.size-p≤f→s.size-p≤g→nameAt s f p=nameAt s g p
 | 0,0,_,_,_=>rfl
 | 0,g+1,p,h,_=>by rw [nameAt,nameAt,if_neg (by omega)]
 | f+1,0,p,_,h=>by rw [nameAt,nameAt,if_neg (by omega)]
 | f+1,g+1,p,h,h'=>by
  rw [nameAt,nameAt]
  have:=a4j s p
  split
  ·rw [b6c s f g _ (by omega) (by omega)]
  ·rfl
theorem b9V{s:ByteArray}{p:Nat}(hp:p < s.size):nameAt s (s.size-p) p=if goesS ((Utf8.decode s p).1:Int)=true∧¬(p=0∧classS ((Utf8.decode s p).1:Int)≠3) then nameAt s (s.size-(p+(Utf8.decode s p).2)) (p+(Utf8.decode s p).2) else false:=by
 have:=a4j s p
 obtain ⟨m,hm⟩:∃m,s.size-p=m+1:=⟨s.size-p-1,by omega⟩
 rw [hm,nameAt,if_pos hp,b6c s m (s.size-(p+(Utf8.decode s p).2)) _ (by omega) (by omega)]
theorem c1Q{s:ByteArray}{p:Nat}(hp:¬p < s.size)(f:Nat):nameAt s f p=true:=by
 cases f with
 | zero=>rw [nameAt]
 | succ f=>rw [nameAt,if_neg hp]
def nameS(s:ByteArray):Bool:=if (((decide (s=⟨#[]⟩))||(!Lib.validD s.data.toList))||decide (32 < ((runesOf s).length:Int))||wordS s)=true then false else nameAt s s.size 0
theorem c8i(hT:TabsH H){s:ByteArray}(hs:s.size≤big){K:Bool→Hp→Prop}(h:K (nameS s) H):a3g s H K:=by
 refine b4D _ ?_
 unfold a9q
 unfold nameS at h
 refine a0F (Lib.validD s.data.toList) (fun _ K' hk=>c4T hT hs hk) ?_
 refine a0F (decide (32 < ((runesOf s).length:Int))) (fun _ K' hk=>c8f hs hk) ?_
 refine a0F (wordS s) (fun _ K' hk=>c8g hk) ?_
 generalize decide (s=⟨#[]⟩)=a at h ⊢
 generalize Lib.validD s.data.toList=b at h ⊢
 generalize decide (32 < ((runesOf s).length:Int))=c at h ⊢
 generalize wordS s=d at h ⊢
 have stop:(a||(!b)||c||d)=true→K false H:=fun e=>by rw [if_pos e] at h;exact h
 have go:(a||(!b)||c||d)=false→TL (0:Nat) H fun(z:Nat) H n2=>a4c s z H n2 K:=fun e=>by
  rw [if_neg (by rw [e];decide)] at h
  refine Z2 (fun(p:Nat) H'=>H'=H∧nameAt s (s.size-p) p=nameAt s s.size 0) (fun p=>s.size-p) ⟨rfl,rfl⟩ ?_
  rintro p H1 next ⟨rfl,hp⟩ hn
  unfold a4c
  refine ⟨fun hc=>c8h (a0F (classS ((Utf8.decode s p).1:Int)) (fun _ K' hk=>b8N hk) ?_),fun hc=>?_⟩
  ·rw [b9V hc] at hp
   have hw:=a4j s p
   have z:decide (((p:Nat):Int)=0)=decide (p=0):=by rw [Bool.eq_iff_iff];simp
   rw [z]
   by_cases hg:goesS ((Utf8.decode s p).1:Int)=true
   ·by_cases h0:p=0
    ·by_cases h3:classS ((Utf8.decode s p).1:Int)=3
     ·rw [if_pos ⟨hg,fun q=>q.2 h3⟩] at hp
      rw [hg,decide_eq_true h0,if_pos (show (!!true&&true)=true from rfl),decide_eq_true h3]
      exact ⟨fun hc=>(by cases hc),fun _=>hn _ _ ⟨rfl,hp⟩ (by omega)⟩
     ·rw [if_neg (fun q=>q.2 ⟨h0,h3⟩)] at hp
      rw [←hp] at h
      rw [hg,decide_eq_true h0,if_pos (show (!!true&&true)=true from rfl),decide_eq_false h3]
      exact ⟨fun _=>h,fun hc=>(by cases hc)⟩
    ·rw [if_pos ⟨hg,fun q=>h0 q.1⟩] at hp
     rw [hg,decide_eq_false h0,if_neg (by decide)]
     exact ⟨fun hc=>(by cases hc),fun _=>hn _ _ ⟨rfl,hp⟩ (by omega)⟩
   ·rw [if_neg (fun q=>hg q.1)] at hp
    rw [←hp] at h
    rw [Bool.eq_false_iff.2 hg]
    exact ⟨fun _=>h,fun hc=>(by cases hc)⟩
  ·rw [c1Q hc] at hp
   rw [←hp] at h
   exact h
 cases a<;>cases b<;>cases c<;>cases d<;>first | exact ⟨fun _=>stop rfl,fun hc=>(by cases hc)⟩ | exact ⟨fun hc=>(by cases hc),fun _=>go rfl⟩
end
end Go.Proofs.YthaaobpfbgcfiaaGreatDoor
