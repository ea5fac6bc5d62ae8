/- Strings: a rune's class, words, which text is a name. Contracts off the printed formulas. -/
import Derived.Test.YtpgelfheccpejaaDooryCQ2
import Derived.Test.YtpgelfheccpejaaDooryCSh
import Derived.Test.YtpgelfheccpejaaDooryCA0
namespace Go.Proofs.YtpgelfheccpejaaDoor
open Go.RowKit
set_option maxRecDepth 100000
set_option maxHeartbeats 2000000
def TabsH(H:Hp):Prop:=∀w:World,Sub H w→Lib.Utf8Tabs 0 1 w
theorem TabsH.le{H H':Hp}(h:TabsH H)(l:Hle H H'):TabsH H':=fun w s=>h w fun i o e=>s i o (l i o e)
theorem Inv.of_below{w w':World}{H:Hp}(I:Inv w (inF []) H H [] w)(b:Below w.heap.size w w'):Inv w (inF []) H H [] w':=
 ⟨fun i o h=>(b.block i (I.Hlt h)).trans (I.sub i o h),fun p h=>(by cases h),fun p h=>(by cases h),List.nodup_nil,fun p h=>(by cases h),fun i hi _=>b.block i hi,b.size,b.os,b.tape,b.output,Hle.refl _,fun _ _ _=>rfl⟩
section
variable {H:Hp}
theorem b6b(hT:TabsH H){s:ByteArray}(hs:s.size≤big){K:Bool→Hp→Prop}(h:K (Lib.validD s.data.toList) H):a2S s H K:=by
 intro w I
 refine Calls.mono (Any.utf8_ValidString Tryd.b2Z s w (by simp only [big] at hs;omega) (hT w I.sub)) fun e w' hb=>?_
 obtain ⟨rfl,hb⟩:=hb
 exact ⟨H,[],I.of_below hb,_,rfl,rfl,h⟩
def runes(s:ByteArray):Nat→Nat→List Int
 | 0,_=>[]
 | f+1,p=>if p < s.size then ((Utf8.decode s p).1:Int)::runes s f (p+(Utf8.decode s p).2) else []
theorem a9R(s:ByteArray):∀(f g p:Nat),s.size-p≤f→s.size-p≤g→runes s f p=runes s g p
 | 0,0,_,_,_=>rfl
 | 0,g+1,p,h,_=>by rw [runes,runes,if_neg (by omega)]
 | f+1,0,p,_,h=>by rw [runes,runes,if_neg (by omega)]
 | f+1,g+1,p,h,h'=>by
  rw [runes,runes]
  split
  ·have:=V1 s p
   rw [a9R s f g _ (by omega) (by omega)]
  ·rfl
theorem a9S(s:ByteArray):∀(f p:Nat),(runes s f p).length≤s.size-p
 | 0,_=>by rw [runes];exact Nat.zero_le _
 | f+1,p=>by
  rw [runes]
  split
  ·have:=V1 s p
   have:=a9S s f (p+(Utf8.decode s p).2)
   rw [List.length_cons];omega
  ·exact Nat.zero_le _
def runesOf(s:ByteArray):List Int:=runes s s.size 0
theorem b3K{s:ByteArray}{p:Nat}(hp:p < s.size):runes s (s.size-p) p=((Utf8.decode s p).1:Int)::runes s (s.size-(p+(Utf8.decode s p).2)) (p+(Utf8.decode s p).2):=by
 have:=V1 s p
 obtain ⟨m,hm⟩:∃m,s.size-p=m+1:=⟨s.size-p-1,by omega⟩
 rw [hm,runes,if_pos hp,a9R s m (s.size-(p+(Utf8.decode s p).2)) _ (by omega) (by omega)]
theorem b5x{s:ByteArray}{p:Nat}(hp:¬p < s.size)(f:Nat):runes s f p=[]:=by
 cases f with
 | zero=>rw [runes]
 | succ f=>rw [runes,if_neg hp]
theorem b6c{s:ByteArray}(hs:s.size≤big){K:Int→Hp→Prop}(h:K ((runesOf s).length:Int) H):V2 s H K:=by
 refine a4d _ ?_
 unfold W2
 have hl:=a9S s s.size 0
 refine N1 (fun(z:Int×Nat) H'=>H'=H∧0≤z.1∧z.1+((runes s (s.size-z.2) z.2).length:Int)=((runesOf s).length:Int)) (fun z=>s.size-z.2) ⟨rfl,Int.le_refl _,by simp [runesOf]⟩ ?_
 rintro ⟨n,p⟩ H1 next ⟨rfl,n0,hn⟩ hk
 dsimp only at n0 hn ⊢
 unfold T8
 refine ⟨fun hc=>?_,fun hc=>?_⟩
 ·rw [b3K hc,List.length_cons] at hn
  have:=V1 s p
  rw [r7 n0 (by unfold runesOf at hn;simp only [big] at hs;omega)]
  exact hk _ _ ⟨rfl,by show 0≤n+1;omega,by dsimp only;omega⟩ (by show s.size-(p+_) < s.size-p;omega)
 ·rw [b5x hc] at hn
  unfold N3
  rw [show n=((runesOf s).length:Int) by simpa using hn]
  exact h
theorem b7m{s:ByteArray}(hs:s.size≤big){K:Bool→Hp→Prop}(h:K (decide (32 < ((runesOf s).length:Int))) H):a3P s H K:=by
 refine a8s _ ?_
 unfold a3V
 exact b6c hs h
def wordS(s:ByteArray):Bool:=decide (s=⟨#[118,97,114]⟩)||decide (s=⟨#[97,114,114,97,121]⟩)||decide (s=⟨#[105,102]⟩)||decide (s=⟨#[101,108,115,101]⟩)||decide (s=⟨#[119,104,105,108,101]⟩)||decide (s=⟨#[97,115,115,101,114,116]⟩)||decide (s=⟨#[97,115,115,117,109,101]⟩)||decide (s=⟨#[115,107,105,112]⟩)||decide (s=⟨#[105,110,112,117,116]⟩)||decide (s=⟨#[116,114,117,101]⟩)||decide (s=⟨#[102,97,108,115,101]⟩)
theorem b7n{s:ByteArray}{K:Bool→Hp→Prop}(h:K (wordS s) H):a3Q s H K:=by
 refine a8q _ ?_
 unfold a3R
 unfold wordS at h
 refine ⟨fun e=>?_,fun e0=>?_⟩
 ·unfold m5
  subst e;exact ⟨fun _=>h,fun hc=>(by cases hc)⟩
 refine ⟨fun e=>?_,fun e1=>?_⟩
 ·unfold m5
  subst e;exact ⟨fun _=>h,fun hc=>(by cases hc)⟩
 refine ⟨fun e=>?_,fun e2=>?_⟩
 ·unfold m5
  subst e;exact ⟨fun _=>h,fun hc=>(by cases hc)⟩
 refine ⟨fun e=>?_,fun e3=>?_⟩
 ·unfold m5
  subst e;exact ⟨fun _=>h,fun hc=>(by cases hc)⟩
 refine ⟨fun e=>?_,fun e4=>?_⟩
 ·unfold m5
  subst e;exact ⟨fun _=>h,fun hc=>(by cases hc)⟩
 refine ⟨fun e=>?_,fun e5=>?_⟩
 ·unfold m5
  subst e;exact ⟨fun _=>h,fun hc=>(by cases hc)⟩
 refine ⟨fun e=>?_,fun e6=>?_⟩
 ·unfold m5
  subst e;exact ⟨fun _=>h,fun hc=>(by cases hc)⟩
 refine ⟨fun e=>?_,fun e7=>?_⟩
 ·unfold m5
  subst e;exact ⟨fun _=>h,fun hc=>(by cases hc)⟩
 refine ⟨fun e=>?_,fun e8=>?_⟩
 ·unfold m5
  subst e;exact ⟨fun _=>h,fun hc=>(by cases hc)⟩
 refine ⟨fun e=>?_,fun e9=>?_⟩
 ·unfold m5
  subst e;exact ⟨fun _=>h,fun hc=>(by cases hc)⟩
 simp only [decide_eq_false e0,decide_eq_false e1,decide_eq_false e2,decide_eq_false e3,decide_eq_false e4,decide_eq_false e5,decide_eq_false e6,decide_eq_false e7,decide_eq_false e8,decide_eq_false e9,Bool.false_or] at h
 unfold m5
 generalize decide (s=⟨#[102,97,108,115,101]⟩)=q at h ⊢
 cases q
 ·exact ⟨fun hc=>(by cases hc),fun _=>h⟩
 ·exact ⟨fun _=>h,fun hc=>(by cases hc)⟩
def signR(r:Int):Prop:=r=59∨r=44∨r=123∨r=125∨r=40∨r=41∨r=91∨r=93∨r=61∨r=33∨r=60∨r=62∨r=43∨r=45∨r=42∨r=47∨r=37∨r=38∨r=124
instance (r:Int):Decidable (signR r):=by unfold signR;infer_instance
def letterR(r:Int):Prop:=r=95∨(97≤r∧r≤122)∨(65≤r∧r≤90)∨(192≤r∧r≤591)∨(913≤r∧r≤969)∨(1040≤r∧r≤1103)
instance (r:Int):Decidable (letterR r):=by unfold letterR;infer_instance
def classS(r:Int):Int:=
 if r=32∨r=9∨r=13 then 1 else if r=10 then 2 else if signR r then 5 else if r=215∨r=247∨r=930 then 6 else if 48≤r∧r≤57 then 4 else if letterR r then 3 else 6
theorem a3x{a b r:Int}{K:Bool→Hp→Prop}(h:K (decide (a≤r)&&decide (r≤b)) H):J0 a b r H K:=a6N _ _ _ h
theorem a9T{r:Int}{b:Bool}{K:Int→Hp→Prop}(h:K (if b=true then 3 else 6) H):B6 b r H K:=by
 unfold B6
 cases b
 ·exact ⟨fun hc=>(by cases hc),fun _=>h⟩
 ·exact ⟨fun _=>h,fun hc=>(by cases hc)⟩
theorem a7Q{r:Int}{b:Bool}{K:Int→Hp→Prop}(h:K (if b=true then 6 else if 48≤r∧r≤57 then 4 else if letterR r then 3 else 6) H):M9 b r H K:=by
 unfold M9
 refine ⟨fun hb=>by rw [if_pos hb] at h;exact h,fun hb=>a3x ?_⟩
 rw [if_neg (by rw [hb];decide)] at h
 refine ⟨fun h1=>?_,fun h1=>?_⟩
 ·rw [if_pos (by simpa using h1)] at h;exact h
 rw [if_neg (by simpa using h1)] at h
 refine ⟨fun h2=>?_,fun h2=>a3x ?_⟩
 ·refine a9T ?_
  rw [if_pos (show letterR r from .inl h2)] at h
  rw [decide_eq_true h2];exact h
 have last:∀(lo hi:Int)(K':Bool→Hp→Prop),K' (decide (lo≤r)&&decide (r≤hi)) H→J0 lo hi r H K':=fun lo hi K' hk=>a3x hk
 have go:∀(b:Bool)(q:Prop) [Decidable q],(b=true↔q)→K (if q then 3 else 6) H→B6 b r H K:=fun b q _ hq hk=>a9T (by
  by_cases hh:q
  ·rw [if_pos (hq.2 hh)];rw [if_pos hh] at hk;exact hk
  ·rw [if_neg (fun e=>hh (hq.1 e))];rw [if_neg hh] at hk;exact hk)
 refine ⟨fun h3=>go _ _ ?_ h,fun h3=>a3x ⟨fun h4=>go _ _ ?_ h,fun h4=>a3x ⟨fun h5=>go _ _ ?_ h,fun h5=>a3x ⟨fun h6=>go _ _ ?_ h,fun h6=>a3x (go _ _ ?_ h)⟩⟩⟩⟩ <;>
  (clear go last h;unfold letterR;simp only [←Bool.decide_and,decide_eq_true_eq,decide_eq_false_iff_not] at *;omega)
theorem b5y{r:Int}{b:Bool}{K:Int→Hp→Prop}(h:K (if b=true then 5 else if r=215∨r=247∨r=930 then 6 else if 48≤r∧r≤57 then 4 else if letterR r then 3 else 6) H):i6 r b r H K:=by
 unfold i6
 refine ⟨fun hb=>by rw [if_pos hb] at h;exact h,fun hb=>?_⟩
 rw [if_neg (by rw [hb];decide)] at h
 refine ⟨fun e=>a7Q ?_,fun e1=>⟨fun e=>a7Q ?_,fun e2=>a7Q ?_⟩⟩
 ·rw [if_pos (.inl e)] at h;rw [decide_eq_true e];exact h
 ·rw [if_pos (.inr (.inl e))] at h;rw [decide_eq_true e];exact h
 ·by_cases e:r=930
  ·rw [if_pos (.inr (.inr e))] at h;rw [decide_eq_true e];exact h
  ·rw [if_neg (by omega)] at h;rw [decide_eq_false e];exact h
theorem a7q{r:Int}{b:Bool}{K:Int→Hp→Prop}(h:K (if b=true then 1 else if r=10 then 2 else if signR r then 5 else if r=215∨r=247∨r=930 then 6 else if 48≤r∧r≤57 then 4 else if letterR r then 3 else 6) H):N0 r b r H K:=by
 unfold N0
 refine ⟨fun hb=>by rw [if_pos hb] at h;exact h,fun hb=>?_⟩
 rw [if_neg (by rw [hb];decide)] at h
 refine ⟨fun e=>by rw [if_pos e] at h;exact h,fun e=>?_⟩
 rw [if_neg e] at h
 have go:∀(b:Bool),(b=true↔signR r)→i6 r b r H K:=fun b hq=>b5y (by
  by_cases hh:signR r
  ·rw [if_pos (hq.2 hh)];rw [if_pos hh] at h;exact h
  ·rw [if_neg (fun e=>hh (hq.1 e))];rw [if_neg hh] at h;exact h)
 clear h
 refine ⟨fun e=>go _ ?_,fun e0=>?_⟩
 ·rw [decide_eq_true e];unfold signR;simp only [true_iff];omega
 refine ⟨fun e=>go _ ?_,fun e1=>?_⟩
 ·rw [decide_eq_true e];unfold signR;simp only [true_iff];omega
 refine ⟨fun e=>go _ ?_,fun e2=>?_⟩
 ·rw [decide_eq_true e];unfold signR;simp only [true_iff];omega
 refine ⟨fun e=>go _ ?_,fun e3=>?_⟩
 ·rw [decide_eq_true e];unfold signR;simp only [true_iff];omega
 refine ⟨fun e=>go _ ?_,fun e4=>?_⟩
 ·rw [decide_eq_true e];unfold signR;simp only [true_iff];omega
 refine ⟨fun e=>go _ ?_,fun e5=>?_⟩
 ·rw [decide_eq_true e];unfold signR;simp only [true_iff];omega
 refine ⟨fun e=>go _ ?_,fun e6=>?_⟩
 ·rw [decide_eq_true e];unfold signR;simp only [true_iff];omega
 refine ⟨fun e=>go _ ?_,fun e7=>?_⟩
 ·rw [decide_eq_true e];unfold signR;simp only [true_iff];omega
 refine ⟨fun e=>go _ ?_,fun e8=>?_⟩
 ·rw [decide_eq_true e];unfold signR;simp only [true_iff];omega
 refine ⟨fun e=>go _ ?_,fun e9=>?_⟩
 ·rw [decide_eq_true e];unfold signR;simp only [true_iff];omega
 refine ⟨fun e=>go _ ?_,fun e10=>?_⟩
 ·rw [decide_eq_true e];unfold signR;simp only [true_iff];omega
 refine ⟨fun e=>go _ ?_,fun e11=>?_⟩
 ·rw [decide_eq_true e];unfold signR;simp only [true_iff];omega
 refine ⟨fun e=>go _ ?_,fun e12=>?_⟩
 ·rw [decide_eq_true e];unfold signR;simp only [true_iff];omega
 refine ⟨fun e=>go _ ?_,fun e13=>?_⟩
 ·rw [decide_eq_true e];unfold signR;simp only [true_iff];omega
 refine ⟨fun e=>go _ ?_,fun e14=>?_⟩
 ·rw [decide_eq_true e];unfold signR;simp only [true_iff];omega
 refine ⟨fun e=>go _ ?_,fun e15=>?_⟩
 ·rw [decide_eq_true e];unfold signR;simp only [true_iff];omega
 refine ⟨fun e=>go _ ?_,fun e16=>?_⟩
 ·rw [decide_eq_true e];unfold signR;simp only [true_iff];omega
 refine ⟨fun e=>go _ ?_,fun e17=>?_⟩
 ·rw [decide_eq_true e];unfold signR;simp only [true_iff];omega
 refine go _ ?_
 unfold signR
 simp only [decide_eq_true_eq]
 omega
theorem b2t{r:Int}{K:Int→Hp→Prop}(h:K (classS r) H):a1K r H K:=by
 refine a7v _ ?_
 unfold a2Y
 unfold classS at h
 refine ⟨fun e=>a7q ?_,fun e1=>⟨fun e=>a7q ?_,fun e2=>a7q ?_⟩⟩
 ·rw [if_pos (.inl e)] at h;rw [decide_eq_true e];exact h
 ·rw [if_pos (.inr (.inl e))] at h;rw [decide_eq_true e];exact h
 ·by_cases e:r=13
  ·rw [if_pos (.inr (.inr e))] at h;rw [decide_eq_true e];exact h
  ·rw [if_neg (by omega)] at h;rw [decide_eq_false e];exact h
def goesS(r:Int):Bool:=decide (classS r=3)||decide (classS r=4)
theorem b7o{r:Int}{K:Bool→Hp→Prop}(h:K (goesS r) H):a2U r H K:=by
 refine a7w _ ?_
 unfold a2Z
 exact b2t h
def nameAt(s:ByteArray):Nat→Nat→Bool
 | 0,_=>true
 | f+1,p=>if p < s.size then (if goesS ((Utf8.decode s p).1:Int)=true∧¬(p=0∧classS ((Utf8.decode s p).1:Int)≠3) then nameAt s f (p+(Utf8.decode s p).2) else false) else true
theorem a9i(s:ByteArray):∀(f g p:Nat),s.size-p≤f→s.size-p≤g→nameAt s f p=nameAt s g p
 | 0,0,_,_,_=>rfl
 | 0,g+1,p,h,_=>by rw [nameAt,nameAt,if_neg (by omega)]
 | f+1,0,p,_,h=>by rw [nameAt,nameAt,if_neg (by omega)]
 | f+1,g+1,p,h,h'=>by
  rw [nameAt,nameAt]
  have:=V1 s p
  split
  ·rw [a9i s f g _ (by omega) (by omega)]
  ·rfl
theorem b2Q{s:ByteArray}{p:Nat}(hp:p < s.size):nameAt s (s.size-p) p=if goesS ((Utf8.decode s p).1:Int)=true∧¬(p=0∧classS ((Utf8.decode s p).1:Int)≠3) then nameAt s (s.size-(p+(Utf8.decode s p).2)) (p+(Utf8.decode s p).2) else false:=by
 have:=V1 s p
 obtain ⟨m,hm⟩:∃m,s.size-p=m+1:=⟨s.size-p-1,by omega⟩
 rw [hm,nameAt,if_pos hp,a9i s m (s.size-(p+(Utf8.decode s p).2)) _ (by omega) (by omega)]
theorem b3L{s:ByteArray}{p:Nat}(hp:¬p < s.size)(f:Nat):nameAt s f p=true:=by
 cases f with
 | zero=>rw [nameAt]
 | succ f=>rw [nameAt,if_neg hp]
def nameS(s:ByteArray):Bool:=if (((decide (s=⟨#[]⟩))||(!Lib.validD s.data.toList))||decide (32 < ((runesOf s).length:Int))||wordS s)=true then false else nameAt s s.size 0
theorem b7p(hT:TabsH H){s:ByteArray}(hs:s.size≤big){K:Bool→Hp→Prop}(h:K (nameS s) H):a2w s H K:=by
 refine a8t _ ?_
 unfold a3W
 unfold nameS at h
 refine U8 (Lib.validD s.data.toList) (fun _ K' hk=>b6b hT hs hk) ?_
 refine U8 (decide (32 < ((runesOf s).length:Int))) (fun _ K' hk=>b7m hs hk) ?_
 refine U8 (wordS s) (fun _ K' hk=>b7n hk) ?_
 generalize decide (s=⟨#[]⟩)=a at h ⊢
 generalize Lib.validD s.data.toList=b at h ⊢
 generalize decide (32 < ((runesOf s).length:Int))=c at h ⊢
 generalize wordS s=d at h ⊢
 have stop:(a||(!b)||c||d)=true→K false H:=fun e=>by rw [if_pos e] at h;exact h
 have go:(a||(!b)||c||d)=false→TL (0:Nat) H fun(z:Nat) H n2=>a1p s z H n2 K:=fun e=>by
  rw [if_neg (by rw [e];decide)] at h
  refine N1 (fun(p:Nat) H'=>H'=H∧nameAt s (s.size-p) p=nameAt s s.size 0) (fun p=>s.size-p) ⟨rfl,rfl⟩ ?_
  rintro p H1 next ⟨rfl,hp⟩ hn
  unfold a1p
  refine ⟨fun hc=>b7o (U8 (classS ((Utf8.decode s p).1:Int)) (fun _ K' hk=>b2t hk) ?_),fun hc=>?_⟩
  ·rw [b2Q hc] at hp
   have hw:=V1 s p
   have z:decide (((p:Nat):Int)=0)=decide (p=0):=by rw [Bool.eq_iff_iff];simp
   rw [z]
   by_cases hg:goesS ((Utf8.decode s p).1:Int)=true
   ·by_cases h0:p=0
    ·by_cases h3:classS ((Utf8.decode s p).1:Int)=3
     ·rw [if_pos ⟨hg,fun q=>q.2 h3⟩] at hp
      rw [hg,decide_eq_true h0,if_pos (show (!!true&&true)=true from rfl),decide_eq_true h3]
      exact ⟨fun hc=>(by cases hc),fun _=>hn _ _ ⟨rfl,hp⟩ (by omega)⟩
     ·rw [if_neg (fun q=>q.2 ⟨h0,h3⟩)] at hp
      rw [←hp] at h
      rw [hg,decide_eq_true h0,if_pos (show (!!true&&true)=true from rfl),decide_eq_false h3]
      exact ⟨fun _=>h,fun hc=>(by cases hc)⟩
    ·rw [if_pos ⟨hg,fun q=>h0 q.1⟩] at hp
     rw [hg,decide_eq_false h0,if_neg (by decide)]
     exact ⟨fun hc=>(by cases hc),fun _=>hn _ _ ⟨rfl,hp⟩ (by omega)⟩
   ·rw [if_neg (fun q=>hg q.1)] at hp
    rw [←hp] at h
    rw [Bool.eq_false_iff.2 hg]
    exact ⟨fun _=>h,fun hc=>(by cases hc)⟩
  ·rw [b3L hc] at hp
   rw [←hp] at h
   exact h
 cases a<;>cases b<;>cases c<;>cases d<;>first | exact ⟨fun _=>stop rfl,fun hc=>(by cases hc)⟩ | exact ⟨fun hc=>(by cases hc),fun _=>go rfl⟩
end
end Go.Proofs.YtpgelfheccpejaaDoor
