/- The document's runes, classes and names: they are the program's. Contracts off the printed formulas. -/
import Derived.Lib.TrimUEq
import Derived.Lib.ValidLaws
import Derived.Test.YtnhdnncbjddmjaaGreatDooryEQ5
namespace Go.Proofs.YtnhdnncbjddmjaaGreatDoor
open Go.RowKit
set_option maxRecDepth 100000
set_option maxHeartbeats 2000000
section
variable {H:Hp}
theorem a9J{s:ByteArray}{p n least v0:Nat}(hs:s.size≤big)(hp:p < s.size)(hn:n≤4)(hv:v0 < 32)(hl:least≤65536){K:Int→Int→Bool→Hp→Prop}(h:K ((refFin least n (refTail s p n 3 1 v0)).1:Int) ((refFin least n (refTail s p n 3 1 v0)).2.1:Int) (refFin least n (refTail s p n 3 1 v0)).2.2 H):
  D3 s (p:Int) (n:Int) (least:Int) (v0:Int) H K:=by
 unfold D3
 generalize hR:refTail s p n 3 1 v0=R at h
 refine Q9 (fun(z:Int×Int) H'=>H'=H∧∃v i:Nat,z=((v:Int),(i:Int))∧1≤i∧(i≤n∨i=1)∧refTail s p n (4-i) i v=R∧(i=1→v < 32)∧(i=2→v < 2112)∧(i=3→v < 135232)∧v < 8654912) (fun z=>(5-z.2).toNat) ⟨rfl,v0,1,rfl,Nat.le_refl _,.inr rfl,hR,fun _=>hv,fun e=>by omega,fun e=>by omega,by omega⟩ ?_
 rintro z H1 next ⟨rfl,v,i,rfl,i1,i2,he,b1,b2,b3,b4⟩ hk
 dsimp only at hk ⊢
 unfold a0d
 have ei:IntKind.wrap .i64 ((p:Int)+(i:Int))=((p+i:Nat):Int):=by rw [F0 ⟨by omega,by simp only [big] at hs;omega⟩];omega
 have hc256:=UInt8.toNat_lt (s.get! (p+i))
 rw [ei]
 simp only [Int.toNat_natCast]
 refine ⟨fun hc=>?_,fun hc=>?_⟩
 ·have hin:i < n:=by omega
  rw [b7r s p n (4-i) i v hin (by omega)] at he
  refine ⟨fun q=>⟨by omega,by have:=of_decide_eq_false q;omega⟩,fun q=>⟨by omega,by
   have:=(Bool.or_eq_false_iff.1 q).1
   have:=of_decide_eq_false this;omega⟩,fun q=>?_,fun q=>?_⟩
  ·rw [if_neg (fun hq=>by
    simp only [Bool.or_eq_true,decide_eq_true_eq] at q
    omega)] at he
   subst he
   exact h
  ·simp only [Bool.or_eq_false_iff,decide_eq_false_iff_not] at q
   rw [if_pos (by omega)] at he
   refine ⟨by omega,by omega,?_⟩
   have e2:IntKind.wrap .i64 ((IntKind.wrap .i64 ((IntKind.wrap .i64 (64*(v:Int)))+(IntKind.wrap .i64 ((s.get! (p+i)).toNat:Int))))-128)=((64*v+(s.get! (p+i)).toNat-128:Nat):Int):=by
    rw [F0 (a:=64*(v:Int)) ⟨by omega,by omega⟩,F0 (a:=((s.get! (p+i)).toNat:Int)) ⟨by omega,by omega⟩,F0 (a:=64*(v:Int)+((s.get! (p+i)).toNat:Int)) ⟨by omega,by omega⟩,F0 ⟨by omega,by omega⟩]
    omega
   have e3:IntKind.wrap .i64 ((i:Int)+1)=((i+1:Nat):Int):=by rw [F0 ⟨by omega,by omega⟩];omega
   rw [e2,e3]
   refine hk _ _ ⟨rfl,64*v+(s.get! (p+i)).toNat-128,i+1,rfl,by omega,.inl (by omega),?_,fun e=>by omega,fun e=>by have:=b1 (by omega);omega,fun e=>by have:=b2 (by omega);omega,?_⟩ (by dsimp only;omega)
   ·rw [show 4-(i+1)=4-i-1 by omega];exact he
   ·by_cases e1:i=1
    ·have:=b1 e1;omega
    ·by_cases e2:i=2
     ·have:=b2 e2;omega
     ·have:=b3 (by omega);omega
 ·have he':R=some v:=by
   rw [←he]
   cases hf:4-i with
   | zero=>rfl
   | succ f=>rw [refTail,if_neg (by omega)]
  subst he'
  unfold Q4
  refine ⟨fun q=>?_,fun q=>?_⟩
  ·simp only [Bool.or_eq_true,Bool.and_eq_true,decide_eq_true_eq] at q
   rw [b3K (by omega)] at h
   exact h
  ·simp only [Bool.or_eq_false_iff,Bool.and_eq_false_iff,decide_eq_false_iff_not] at q
   rw [b2G (by omega)] at h
   exact h
theorem b7A{s:ByteArray}{p:Nat}(hs:s.size≤big)(hp:p < s.size){K:Int→Int→Bool→Hp→Prop}(h:K ((Utf8.decode s p).1:Int) ((Utf8.decode s p).2:Int) (!decide (bad s p)) H):a0X s (p:Int) H K:=by
 have h':K ((refRune s p).1:Int) ((refRune s p).2.1:Int) (refRune s p).2.2 H:=by
  rw [a9I]
  have e:(!decide ((Utf8.decode s p).1=65533∧(Utf8.decode s p).2=1)) = !decide (bad s p):=by
   unfold bad;congr
  dsimp only
  rw [e];exact h
 clear h
 refine a6b _ _ ?_
 unfold a1m
 have hc256:=UInt8.toNat_lt (s.get! p)
 have ew:IntKind.wrap .i64 ((s.get! ((p:Int)).toNat).toNat:Int)=((s.get! p).toNat:Int):=by rw [Int.toNat_natCast];exact F0 ⟨by omega,by omega⟩
 generalize IntKind.wrap .i64 ((s.get! ((p:Int)).toNat).toNat:Int)=x at ew ⊢
 subst ew
 unfold refRune at h'
 generalize hc:(s.get! p).toNat=c at h' hc256 ⊢
 refine ⟨by omega,by omega,fun q=>?_,fun q=>⟨fun q2=>?_,fun q2=>⟨fun q3=>?_,fun q3=>⟨fun q4=>?_,fun q4=>?_⟩⟩⟩⟩
 ·rw [if_pos (by omega)] at h';exact h'
 ·simp only [Bool.and_eq_true,decide_eq_true_eq] at q2
  rw [if_neg (by omega),if_pos (by omega)] at h'
  rw [F0 ⟨by omega,by omega⟩,show (c:Int)-192=((c-192:Nat):Int) by omega]
  exact a9J (n:=2) (least:=128) hs hp (by decide) (by omega) (by decide) h'
 ·simp only [Bool.and_eq_true,decide_eq_true_eq] at q3
  simp only [Bool.and_eq_false_iff,decide_eq_false_iff_not] at q2
  rw [if_neg (by omega),if_neg (by omega),if_pos (by omega)] at h'
  rw [F0 ⟨by omega,by omega⟩,show (c:Int)-224=((c-224:Nat):Int) by omega]
  exact a9J (n:=3) (least:=2048) hs hp (by decide) (by omega) (by decide) h'
 ·simp only [Bool.and_eq_true,decide_eq_true_eq] at q4
  simp only [Bool.and_eq_false_iff,decide_eq_false_iff_not] at q2 q3
  rw [if_neg (by omega),if_neg (by omega),if_neg (by omega),if_pos (by omega)] at h'
  rw [F0 ⟨by omega,by omega⟩,show (c:Int)-240=((c-240:Nat):Int) by omega]
  exact a9J (n:=4) (least:=65536) hs hp (by decide) (by omega) (by decide) h'
 ·simp only [Bool.and_eq_false_iff,decide_eq_false_iff_not] at q2 q3 q4
  rw [if_neg (by omega),if_neg (by omega),if_neg (by omega),if_neg (by omega)] at h'
  exact h'
theorem a3w{a b c:Int}{K:Bool→Hp→Prop}(h:K (decide (b≤a)&&decide (a≤c)) H):A7 a b c H K:=a4W _ _ _ h
def signB:ByteArray:=⟨#[59,44,123,125,40,41,91,93,61,33,60,62,43,45,42,47,37,38,124]⟩
theorem b7B:∀j:Fin 19,signR ((signB.get! j.val).toNat:Int):=by decide
theorem b7C{r:Int}(h:signR r):∃j:Nat,j < 19∧r=((signB.get! j).toNat:Int):=by
 unfold signR at h
 rcases h with h | h | h | h | h | h | h | h | h | h | h | h | h | h | h | h | h | h | h<;>first | exact ⟨0,by decide,h⟩ | exact ⟨1,by decide,h⟩ | exact ⟨2,by decide,h⟩ | exact ⟨3,by decide,h⟩ | exact ⟨4,by decide,h⟩ | exact ⟨5,by decide,h⟩ | exact ⟨6,by decide,h⟩ | exact ⟨7,by decide,h⟩ | exact ⟨8,by decide,h⟩ | exact ⟨9,by decide,h⟩ | exact ⟨10,by decide,h⟩ | exact ⟨11,by decide,h⟩ | exact ⟨12,by decide,h⟩ | exact ⟨13,by decide,h⟩ | exact ⟨14,by decide,h⟩ | exact ⟨15,by decide,h⟩ | exact ⟨16,by decide,h⟩ | exact ⟨17,by decide,h⟩ | exact ⟨18,by decide,h⟩
theorem letters(b1 b2 u b3 e1 e2 b4 e3 b5:Bool):
  (((((b1||(if b1=false then b2 else false))||u)||(((if (((b1||(if b1=false then b2 else false))||u)=false) then b3 else false)&&(!e1))&&(!e2)))||((if ((((b1||(if b1=false then b2 else false))||u)||(((if (((b1||(if b1=false then b2 else false))||u)=false) then b3 else false)&&(!e1))&&(!e2)))=false) then b4 else false)&&(!e3))) ||
   (if (((((b1||(if b1=false then b2 else false))||u)||(((if (((b1||(if b1=false then b2 else false))||u)=false) then b3 else false)&&(!e1))&&(!e2)))||((if ((((b1||(if b1=false then b2 else false))||u)||(((if (((b1||(if b1=false then b2 else false))||u)=false) then b3 else false)&&(!e1))&&(!e2)))=false) then b4 else false)&&(!e3)))=false) then b5 else false)) =
  (b1||b2||u||(b3 && !e1 && !e2)||(b4 && !e3)||b5):=by
 cases b1<;>cases b2<;>cases u<;>cases b3<;>cases e1<;>cases e2<;>cases b4<;>cases e3<;>cases b5<;>rfl
theorem b5n{r:Int}{K:Int→Hp→Prop}(h:K (classS r) H):a0B r H K:=by
 refine a5q _ ?_
 unfold a0F
 unfold classS at h
 refine ⟨fun q=>?_,fun q=>?_⟩
 ·simp only [Bool.or_eq_true,decide_eq_true_eq] at q
  rw [if_pos (by omega)] at h;exact h
 simp only [Bool.or_eq_false_iff,decide_eq_false_iff_not] at q
 rw [if_neg (by omega)] at h
 refine ⟨fun q2=>by rw [if_pos q2] at h;exact h,fun q2=>a3w ⟨fun q3=>?_,fun q3=>?_⟩⟩
 ·simp only [Bool.and_eq_true,decide_eq_true_eq] at q3
  rw [if_neg q2,if_neg (fun e=>by unfold signR at e;omega),if_neg (by omega),if_pos q3] at h
  exact h
 rw [if_neg q2] at h
 simp only [Bool.and_eq_false_iff,decide_eq_false_iff_not] at q3
 refine a3w (a3N (decide (65≤r)&&decide (r≤90)) (fun _ K' hk=>a3w hk) ?_)
 refine a3N (decide (192≤r)&&decide (r≤591)) (fun _ K' hk=>a3w hk) ?_
 refine a3N (decide (913≤r)&&decide (r≤969)) (fun _ K' hk=>a3w hk) ?_
 refine a3N (decide (1040≤r)&&decide (r≤1103)) (fun _ K' hk=>a3w hk) ?_
 rw [letters]
 refine ⟨fun q4=>?_,fun q4=>?_⟩
 ·simp only [Bool.or_eq_true,Bool.and_eq_true,Bool.not_eq_true',decide_eq_true_eq,decide_eq_false_iff_not] at q4
  rw [if_neg (fun e=>by unfold signR at e;omega),if_neg (by omega),if_neg (by omega),if_pos (by unfold letterR;omega)] at h
  exact h
 ·simp only [Bool.or_eq_false_iff,Bool.and_eq_false_iff,Bool.not_eq_false',decide_eq_true_eq,decide_eq_false_iff_not] at q4
  have h5:signR r→K 5 H:=fun e=>by rw [if_pos e] at h;exact h
  have h6:¬signR r→K 6 H:=fun e=>by
   rw [if_neg e] at h
   by_cases e1:r=215∨r=247∨r=930
   ·rw [if_pos e1] at h;exact h
   ·rw [if_neg e1,if_neg (by omega),if_neg (fun e2=>by unfold letterR at e2;omega)] at h;exact h
  clear h q3 q4 q q2
  refine Q9 (fun(i:Int) H'=>0≤i∧i≤19∧H'=H∧∀j:Nat,(j:Int) < i→r≠((signB.get! j).toNat:Int)) (fun i=>(19-i).toNat) ⟨by decide,by decide,rfl,fun j hj=>by omega⟩ ?_
  rintro i H1 next ⟨i0,i1,rfl,hi⟩ hn
  unfold Y2
  have hb:=UInt8.toNat_lt (signB.get! i.toNat)
  refine ⟨fun hc=>⟨i0,hc,?_⟩,fun hc=>?_⟩
  ·have hc':i < 19:=hc
   change (r=IntKind.wrap .i64 ((signB.get! i.toNat).toNat:Int)→_)∧(¬(r=IntKind.wrap .i64 ((signB.get! i.toNat).toNat:Int))→_)
   rw [F0 (a:=((signB.get! i.toNat).toNat:Int)) ⟨by omega,by omega⟩]
   refine ⟨fun e=>h5 ?_,fun e=>?_⟩
   ·rw [e];exact b7B ⟨i.toNat,by omega⟩
   ·rw [u5 i0 (by omega)]
    refine hn _ _ ⟨by omega,by omega,rfl,fun j hj=>?_⟩ (by omega)
    by_cases ej:j=i.toNat
    ·subst ej;exact e
    ·exact hi j (by omega)
  ·have hc':¬i < 19:=hc
   unfold P0
   refine h6 fun e=>?_
   obtain ⟨j,hj,hr⟩:=b7C e
   exact hi j (by omega) hr
theorem b6a{s:ByteArray}{K:Bool→Hp→Prop}(h:K (wordS s) H):a0Y s H K:=by
 refine a5U _ ?_
 unfold a1i
 unfold wordS at h
 refine ⟨fun e=>?_,fun e0=>?_⟩
 ·unfold f5
  subst e;exact ⟨fun _=>h,fun hc=>(by cases hc)⟩
 refine ⟨fun e=>?_,fun e1=>?_⟩
 ·unfold f5
  subst e;exact ⟨fun _=>h,fun hc=>(by cases hc)⟩
 refine ⟨fun e=>?_,fun e2=>?_⟩
 ·unfold f5
  subst e;exact ⟨fun _=>h,fun hc=>(by cases hc)⟩
 refine ⟨fun e=>?_,fun e3=>?_⟩
 ·unfold f5
  subst e;exact ⟨fun _=>h,fun hc=>(by cases hc)⟩
 refine ⟨fun e=>?_,fun e4=>?_⟩
 ·unfold f5
  subst e;exact ⟨fun _=>h,fun hc=>(by cases hc)⟩
 refine ⟨fun e=>?_,fun e5=>?_⟩
 ·unfold f5
  subst e;exact ⟨fun _=>h,fun hc=>(by cases hc)⟩
 refine ⟨fun e=>?_,fun e6=>?_⟩
 ·unfold f5
  subst e;exact ⟨fun _=>h,fun hc=>(by cases hc)⟩
 refine ⟨fun e=>?_,fun e7=>?_⟩
 ·unfold f5
  subst e;exact ⟨fun _=>h,fun hc=>(by cases hc)⟩
 refine ⟨fun e=>?_,fun e8=>?_⟩
 ·unfold f5
  subst e;exact ⟨fun _=>h,fun hc=>(by cases hc)⟩
 refine ⟨fun e=>?_,fun e9=>?_⟩
 ·unfold f5
  subst e;exact ⟨fun _=>h,fun hc=>(by cases hc)⟩
 simp only [decide_eq_false e0,decide_eq_false e1,decide_eq_false e2,decide_eq_false e3,decide_eq_false e4,decide_eq_false e5,decide_eq_false e6,decide_eq_false e7,decide_eq_false e8,decide_eq_false e9,Bool.false_or] at h
 unfold f5
 generalize decide (s=⟨#[102,97,108,115,101]⟩)=q at h ⊢
 cases q
 ·exact ⟨fun hc=>(by cases hc),fun _=>h⟩
 ·exact ⟨fun _=>h,fun hc=>(by cases hc)⟩
def rAt(s:ByteArray):Nat→Nat→Nat→Bool
 | 0,_,n=>decide (n≤32)
 | f+1,p,n=>if p < s.size then (if bad s p∨¬(classS ((Utf8.decode s p).1:Int)=3∨(classS ((Utf8.decode s p).1:Int)=4∧n≠0)) then false else rAt s f (p+(Utf8.decode s p).2) (n+1)) else decide (n≤32)
def rName(s:ByteArray):Bool:=if (decide (s=⟨#[]⟩)||decide (128 < (s.size:Int))||wordS s)=true then false else rAt s s.size 0 0
theorem b2Y(s:ByteArray):∀(f g p n:Nat),s.size-p≤f→s.size-p≤g→rAt s f p n=rAt s g p n
 | 0,0,_,_,_,_=>rfl
 | 0,g+1,p,n,h,_=>by rw [rAt,rAt,if_neg (by omega)]
 | f+1,0,p,n,_,h=>by rw [rAt,rAt,if_neg (by omega)]
 | f+1,g+1,p,n,h,h'=>by
  rw [rAt,rAt]
  have:=R6 s p
  split
  ·rw [b2Y s f g _ _ (by omega) (by omega)]
  ·rfl
theorem b6b{s:ByteArray}{p n:Nat}(hp:p < s.size):rAt s (s.size-p) p n=if bad s p∨¬(classS ((Utf8.decode s p).1:Int)=3∨(classS ((Utf8.decode s p).1:Int)=4∧n≠0)) then false else rAt s (s.size-(p+(Utf8.decode s p).2)) (p+(Utf8.decode s p).2) (n+1):=by
 have:=R6 s p
 obtain ⟨m,hm⟩:∃m,s.size-p=m+1:=⟨s.size-p-1,by omega⟩
 rw [hm,rAt,if_pos hp,b2Y s m (s.size-(p+(Utf8.decode s p).2)) _ _ (by omega) (by omega)]
theorem b7D{s:ByteArray}{p n:Nat}(hp:¬p < s.size)(f:Nat):rAt s f p n=decide (n≤32):=by
 cases f with
 | zero=>rw [rAt]
 | succ f=>rw [rAt,if_neg hp]
theorem b6c{s:ByteArray}{K:Bool→Hp→Prop}(h:K (rName s) H):U9 s H K:=by
 refine a5K _ ?_
 unfold a1d
 unfold rName at h
 refine a3N (wordS s) (fun _ K' hk=>b6a hk) ?_
 by_cases h1:s=⟨#[]⟩
 ·rw [decide_eq_true h1] at h ⊢
  exact ⟨fun _=>h,fun hc=>(by cases hc)⟩
 by_cases h2:128 < (s.size:Int)
 ·rw [decide_eq_false h1,decide_eq_true h2] at h ⊢
  exact ⟨fun _=>h,fun hc=>(by cases hc)⟩
 rw [decide_eq_false h1,decide_eq_false h2] at h ⊢
 by_cases h3:wordS s=true
 ·rw [h3] at h ⊢
  exact ⟨fun _=>h,fun hc=>(by cases hc)⟩
 rw [Bool.eq_false_iff.2 h3] at h ⊢
 refine ⟨fun hc=>(by cases hc),fun _=>?_⟩
 change K (rAt s s.size 0 0) H at h
 refine Q9 (fun(z:Int×Int) H'=>H'=H∧∃n p:Nat,z=((n:Int),(p:Int))∧n≤p∧p≤s.size∧rAt s (s.size-p) p n=rAt s s.size 0 0) (fun z=>(s.size-z.2).toNat) ⟨rfl,0,0,rfl,Nat.le_refl _,Nat.zero_le _,rfl⟩ ?_
 rintro z H1 next ⟨rfl,n,p,rfl,hnp,hps,hr⟩ hk
 dsimp only at hk ⊢
 unfold Z9
 refine ⟨fun hc=>?_,fun hc=>?_⟩
 ·have hp:p < s.size:=by omega
  rw [b6b hp] at hr
  have hw:=R6 s p
  have hw2:=b5c s p hp
  refine b7A (by simp only [big];omega) hp (b5n ?_)
  have en:decide ((n:Int)=0)=decide (n=0):=by rw [Bool.eq_iff_iff];simp
  rw [en,F0 (a:=(n:Int)+1) ⟨by omega,by omega⟩,F0 (a:=(p:Int)+((Utf8.decode s p).2:Int)) ⟨by omega,by omega⟩]
  refine ⟨fun q=>?_,fun q=>?_⟩
  ·rw [if_pos (by
    simp only [Bool.or_eq_true,Bool.and_eq_true,Bool.not_eq_true',Bool.not_not,decide_eq_true_eq,decide_eq_false_iff_not,Bool.not_eq_eq_eq_not,Bool.not_true,Bool.not_false] at q
    rcases q with q | ⟨q1,q2⟩
    ·exact .inl q
    ·exact .inr (by omega))] at hr
   rw [←hr] at h;exact h
  ·rw [if_neg (by
    simp only [Bool.or_eq_false_iff,Bool.and_eq_false_iff,Bool.not_eq_false',Bool.not_not,decide_eq_true_eq,decide_eq_false_iff_not,Bool.not_eq_eq_eq_not,Bool.not_true,Bool.not_false] at q
    rintro (e | e)
    ·exact q.1 e
    ·omega)] at hr
   refine hk _ _ ⟨rfl,n+1,p+(Utf8.decode s p).2,by simp,by omega,hw2,hr⟩ (by dsimp only;omega)
 ·rw [b7D (by omega)] at hr
  unfold Q1
  have en:decide ((n:Int)≤32)=decide (n≤32):=by rw [Bool.eq_iff_iff];simp;omega
  rw [en,hr];exact h
end
def validAt(s:ByteArray)(p:Nat):Bool:=Lib.validD (s.data.toList.drop p)
theorem b0f(s:ByteArray):s.data.toList.length=s.size:=by rw [Array.length_toList];rfl
theorem b2m{s:ByteArray}{p:Nat}(hp:p < s.size):validAt s p=if bad s p then false else validAt s (p+(Utf8.decode s p).2):=by
 unfold validAt
 rw [Lib.validD_step _ (fun e=>by have:=congrArg List.length e;rw [List.length_drop,b0f] at this;simp at this;omega),Lib.decodeL_drop,List.drop_drop]
 rfl
theorem a8D{s:ByteArray}{p:Nat}(hp:¬p < s.size):validAt s p=true:=by
 unfold validAt
 rw [List.drop_eq_nil_of_le (by rw [b0f];omega)]
 rfl
theorem b5o(s:ByteArray):∀(f p n:Nat),s.size-p≤f→(n=0↔p=0)→rAt s f p n=(validAt s p&&nameAt s f p&&decide (n+(runes s f p).length≤32))
 | 0,p,n,h,_=>by rw [rAt,nameAt,runes,a8D (by omega)];simp
 | f+1,p,n,h,hz=>by
  by_cases hp:p < s.size
  ·have hw:=R6 s p
   have ih:=b5o s f (p+(Utf8.decode s p).2) (n+1) (by omega) (by omega)
   rw [rAt,nameAt,runes,if_pos hp,if_pos hp,if_pos hp,b2m hp]
   by_cases hb:bad s p
   ·rw [if_pos (.inl hb),if_pos hb];simp
   ·rw [if_neg hb]
    have hg:(goesS ((Utf8.decode s p).1:Int)=true∧¬(p=0∧classS ((Utf8.decode s p).1:Int)≠3))↔(classS ((Utf8.decode s p).1:Int)=3∨(classS ((Utf8.decode s p).1:Int)=4∧n≠0)):=by
     unfold goesS
     rw [Bool.or_eq_true,decide_eq_true_eq,decide_eq_true_eq]
     omega
    by_cases hc:classS ((Utf8.decode s p).1:Int)=3∨(classS ((Utf8.decode s p).1:Int)=4∧n≠0)
    ·rw [if_neg (by rintro (e | e);exact hb e;exact e hc),if_pos (hg.2 hc),ih,List.length_cons]
     congr 2
     rw [Nat.add_assoc,Nat.add_comm 1]
    ·rw [if_pos (.inr hc),if_neg (fun e=>hc (hg.1 e))];simp
  ·rw [rAt,nameAt,runes,if_neg hp,if_neg hp,if_neg hp,a8D hp];simp
theorem b0g(s:ByteArray):∀(f p:Nat),s.size-p≤f→s.size-p≤4*(runes s f p).length
 | 0,p,h=>by omega
 | f+1,p,h=>by
  rw [runes]
  split
  ·have hw:=R6 s p
   have hl:=decode_le s p
   have:=b0g s f (p+(Utf8.decode s p).2) (by omega)
   rw [List.length_cons];omega
  ·omega
theorem b7E(s:ByteArray):rName s=nameS s:=by
 unfold rName nameS
 have hv:Lib.validD s.data.toList=validAt s 0:=rfl
 have hr:=b5o s s.size 0 0 (by omega) Iff.rfl
 have hb:=b0g s s.size 0 (by omega)
 rw [hr,hv]
 have hl:(runesOf s).length=(runes s s.size 0).length:=rfl
 rw [hl]
 generalize (runes s s.size 0).length=n at hb ⊢
 by_cases h1:s=⟨#[]⟩
 ·rw [decide_eq_true h1];rfl
 rw [decide_eq_false h1]
 generalize wordS s=w
 generalize validAt s 0=v
 generalize nameAt s s.size 0=a
 by_cases h2:128 < (s.size:Int)
 ·rw [decide_eq_true h2,decide_eq_true (show 32 < (n:Int) by omega)]
  cases v<;>rfl
 ·rw [decide_eq_false h2]
  by_cases h3:n≤32
  ·rw [decide_eq_true (show 0+n≤32 by omega),decide_eq_false (show ¬32 < (n:Int) by omega)]
   cases w<;>cases v<;>cases a<;>rfl
  ·rw [decide_eq_false (show ¬0+n≤32 by omega),decide_eq_true (show 32 < (n:Int) by omega)]
   cases w<;>cases v<;>cases a<;>rfl
theorem b3P{H:Hp}{s:ByteArray}{K:Bool→Hp→Prop}(h:K (nameS s) H):U9 s H K:=b6c (by rw [b7E];exact h)
end Go.Proofs.YtnhdnncbjddmjaaGreatDoor
