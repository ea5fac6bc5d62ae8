/- Tokens: words, numbers, signs as the program reads them; whether a text is one. Off the printed formulas; which reader is taken by hand. -/
import Derived.Test.YthklmeihgmcljaaGreatDoorzEL4
namespace Go.Proofs.YthklmeihgmcljaaGreatDoor
open Go.RowKit
set_option maxRecDepth 100000
set_option maxHeartbeats 1000000
section
variable {s:ByteArray}
theorem d4p{is:Int→Bool}{p:Nat}(a b:Int×Int):(Wr s is p a).1=(Wr s is p b).1:=by
 have:∀(f q:Nat)(a b:Int×Int),(whl s is f q a).1=(whl s is f q b).1:=by
  intro f
  induction f with
  | zero=>intro q a b;rw [whl,whl]
  | succ f ih=>
   intro q a b
   rw [whl,whl]
   split
   ·exact ih _ _ _
   ·rfl
 exact this _ _ _ _
theorem a8a{p e:Nat}:(s.extract p e).data.toList=(s.data.toList.drop p).take (e-p):=by
 rw [ByteArray.data_extract,Array.toList_extract,List.extract_eq_take_drop]
theorem c7m{p:Nat}(h:classS (rn s p)=4):48≤by8 s p∧by8 s p≤57:=by
 have hd:=b3S.1 (show digitR (rn s p)=true by unfold digitR;rw [decide_eq_true h])
 have ha:=b7M (s:=s) (p:=p) (by omega)
 have hr:=(b1t ha).1
 omega
theorem d5J{p:Nat}(hp:p < s.size)(h:classS (rn s p)=4):p < (dg s p 0).1∧(dg s p 0).1≤s.size:=by
 rw [b6B hp (c7m h)]
 have:=c8A (s:=s) (p:=p+1) (v:=0*10+(by8 s p-48)) (by omega)
 omega
theorem d8S{p:Nat}(hp:p≤s.size)(x y:UInt8):((⟨#[x,y]⟩:ByteArray).size≤(s.extract p s.size).size∧(s.extract p s.size).extract 0 (⟨#[x,y]⟩:ByteArray).size=⟨#[x,y]⟩)↔(p+1 < s.size∧by8 s p=x.toNat∧by8 s (p+1)=y.toNat):=by
 rw [show (⟨#[x,y]⟩:ByteArray).size=2 from rfl,tail_size hp]
 by_cases c:p+2≤s.size
 ·have e:(s.extract p s.size).extract 0 2=s.extract p (p+2):=by
   apply ByteArray.ext
   apply Array.toList_inj.1
   rw [a8a,a8a,a8a,List.drop_zero,List.take_take,Nat.min_eq_left (by omega),show p+2-p=2 by omega]
  rw [e,a7Z c]
  exact ⟨fun q=>⟨by omega,q.2⟩,fun q=>⟨by omega,q.2⟩⟩
 ·exact ⟨fun q=>by omega,fun q=>by omega⟩
abbrev sg2:List ByteArray:=[⟨#[61,61]⟩,⟨#[33,61]⟩,⟨#[60,61]⟩,⟨#[62,61]⟩,⟨#[38,38]⟩,⟨#[124,124]⟩]
def c7n:List (UInt8×UInt8):=[(61,61),(33,61),(60,61),(62,61),(38,38),(124,124)]
theorem d4q{i:Nat}(hi:i < 6):∃x y:UInt8,sg2.getD i ⟨#[]⟩=⟨#[x,y]⟩∧c7n[i]? = some (x,y):=by
 obtain rfl | rfl | rfl | rfl | rfl | rfl:=(by omega:i=0∨i=1∨i=2∨i=3∨i=4∨i=5)<;>exact ⟨_,_,rfl,rfl⟩
theorem c2P{p:Nat}:two s p↔∃(i:Nat)(x y:UInt8),c7n[i]? = some (x,y)∧p+1 < s.size∧by8 s p=x.toNat∧by8 s (p+1)=y.toNat:=by
 constructor
 ·rintro ⟨h0,h | h | h | h | h | h⟩
  ·exact ⟨0,_,_,rfl,h0,h⟩
  ·exact ⟨1,_,_,rfl,h0,h⟩
  ·exact ⟨2,_,_,rfl,h0,h⟩
  ·exact ⟨3,_,_,rfl,h0,h⟩
  ·exact ⟨4,_,_,rfl,h0,h⟩
  ·exact ⟨5,_,_,rfl,h0,h⟩
 ·rintro ⟨i,x,y,hi,h0,h1,h2⟩
  have hl:i < 6:=(List.getElem?_eq_some_iff.1 hi).1
  refine ⟨h0,?_⟩
  obtain rfl | rfl | rfl | rfl | rfl | rfl:=(by omega:i=0∨i=1∨i=2∨i=3∨i=4∨i=5)<;>cases hi
  ·exact .inl ⟨h1,h2⟩
  ·exact .inr (.inl ⟨h1,h2⟩)
  ·exact .inr (.inr (.inl ⟨h1,h2⟩))
  ·exact .inr (.inr (.inr (.inl ⟨h1,h2⟩)))
  ·exact .inr (.inr (.inr (.inr (.inl ⟨h1,h2⟩))))
  ·exact .inr (.inr (.inr (.inr (.inr ⟨h1,h2⟩))))
theorem d8T{p:Nat}(hp:p < s.size):(s.extract p s.size).extract 0 1=s.extract p (p+1)∧s.extract p (p+1)=⟨#[s.get! p]⟩:=by
 have e2:s.extract p (p+1)=⟨#[s.get! p]⟩:=by
  apply ByteArray.ext
  apply Array.toList_inj.1
  rw [a8a,b2K hp,show p+1-p=1 by omega]
  rfl
 refine ⟨?_,e2⟩
 apply ByteArray.ext
 apply Array.toList_inj.1
 rw [a8a,a8a,a8a,List.drop_zero,List.take_take,Nat.min_eq_left (by omega),show p+1-p=1 by omega]
end
def RdK(s:ByteArray)(p:Nat)(a:Int×Int)(l:List b6)(o:On)(K:b6→Int→j8→List b6→Hp→Prop)(H:Hp):Prop:=
 (o.err=0→∀b,Go2 s p a o.stop b→K (tokO o) 0 (rd s o.stop b) l H)∧∀t r,o.err≠0→K t o.err r l H
section
variable {H:Hp}
theorem d4r(hE:ErrH H){t:ByteArray}(ht:t.size≤big)(hn:t.data.toList≠[])(hd:∀c∈t.data.toList,isDig c){K:Int→Value→Hp→Prop}(h1:dval 0 t.data.toList < 9223372036854775808→K (dval 0 t.data.toList:Int) .nilIface H)
  (h2:¬dval 0 t.data.toList < 9223372036854775808→∀n v,(∃tp x,v=.iface tp x)→K n v H):b1y t 10 64 H K:=by
 intro w I
 have hi:=c3I hn hd
 simp only [big] at ht
 by_cases c:dval 0 t.data.toList < 9223372036854775808
 ·rw [if_pos c] at hi
  refine Calls.mono (Any.strconv_ParseInt_10_at64_ok Tryz.c0v t (by omega) _ hi w) fun e w' hb=>?_
  obtain ⟨rfl,hw⟩:=hb
  have hb:Below w.heap.size w w':=by
   rcases hw with rfl | ⟨t,rfl⟩
   ·exact Below.refl _ _
   ·exact Lib.bytesWorld_below _ _ _
  exact ⟨H,[],I.of_below hb,_,_,rfl,rfl,h1 c⟩
 ·rw [if_neg c] at hi
  obtain ⟨tp,x,hv⟩:=hE
  refine Calls.mono (Any.strconv_ParseInt_10_at64_range Tryz.c0v t (by omega) hi (.iface tp x) w (hv w I.sub) (.inr ⟨tp,x,rfl⟩)) fun e w' hb=>?_
  obtain ⟨N,rfl,_,_,hb⟩:=hb
  exact ⟨H,[],I.of_below hb,_,_,rfl,rfl,h2 c _ _ ⟨_,_,rfl⟩⟩
end
section
variable {H:Hp}{s:ByteArray}(hT:TabsH H)(hs:s.size≤big)
include hT hs
theorem d5K{p:Nat}{a:Int×Int}{l:List b6}(hp:p≤s.size)(ha:Pl a p){K:b6→Int→j8→List b6→Hp→Prop}(h:RdK s p a l (wordO s p) K H):a7F (rd s p a) l H K:=by
 refine b3o _ _ ?_
 unfold a7S
 have g:=a7C (s:=s) goesS _ p a (Nat.le_refl _)
 have hz:=g.size hp
 have hc:=c1u (s:=s) (is:=goesS) (a:=a) hp
 obtain ⟨h1,h2⟩:=h
 unfold wordO at h1 h2
 rw [d4p (0,0) a] at h1 h2
 refine c0E hT hs hp ha (c2F ⟨fun x=>?_,fun x=>c2E (by have:=hs;simp only [big] at this ⊢;rw [b1i g.le hz];omega) ⟨fun y=>?_,fun y=>?_⟩⟩)
 ·rw [if_pos x] at h1
  exact h1 rfl _ g
 ·rw [if_neg (by rw [x];decide),if_pos (by have:=of_decide_eq_true y;omega)] at h2
  exact h2 _ _ (by decide)
 ·rw [if_neg (by rw [x];decide),if_neg (by have:=of_decide_eq_false y;omega)] at h1
  exact h1 rfl _ g
theorem d0L(hE:ErrH H){p:Nat}{a:Int×Int}{l:List b6}(hp:p < s.size)(hc:classS (rn s p)=4)(ha:Pl a p){K:b6→Int→j8→List b6→Hp→Prop}(h:RdK s p a l (numO s p) K H):a7e (rd s p a) l H K:=by
 refine b2c _ _ ?_
 unfold a7o
 obtain ⟨d1,d2,d3,d4,d5⟩:=b4w (s:=s) _ p 0 a (Nat.le_refl _)
 obtain ⟨e1,e2⟩:=d5J hp hc
 have g:=a7C (s:=s) digitR _ p a (Nat.le_refl _)
 refine b4C hT hs (Nat.le_of_lt hp) ha ?_
 rw [d5] at g ⊢
 have hb:=g.pl ha
 generalize (Wr s digitR p a).2=b at g hb ⊢
 have hsz:(s.extract p (dg s p 0).1).size=(dg s p 0).1-p:=b1i d1 e2
 have hget:(s.extract p (dg s p 0).1).get! 0=s.get! p:=by have:=b4x (s:=s) (p:=p) (e:=(dg s p 0).1) (i:=0) e2 (by omega);rw [Nat.add_zero] at this;exact this
 have hs2:=hs
 simp only [big] at hs2
 have fin:∀(n:Int)(v:Value)(c:Int)(ok:Bool),okI v→isNilI v=decide ((dg s p 0).2 < 9223372036854775808)→((dg s p 0).2 < 9223372036854775808→n=((dg s p 0).2:Int))→(if (dg s p 0).1 < s.size then c=rn s (dg s p 0).1∧ok=true else ok=false)→
   okI v∧((!(!isNilI v)&&(decide (1 < ((s.extract p (dg s p 0).1).size:Int))))=true→(0:Int)≤0∧0 < ((s.extract p (dg s p 0).1).size:Int))∧
   TG ((!((!isNilI v)||((decide (1 < ((s.extract p (dg s p 0).1).size:Int)))&&(decide ((((s.extract p (dg s p 0).1).get! (0:Int).toNat).toNat:Int)=48))))&&ok)=true) (V3 c H) 0 H (fun(g:Int)(i:Hp)=>
   ((((!isNilI v)||((decide (1 < ((s.extract p (dg s p 0).1).size:Int)))&&(decide ((((s.extract p (dg s p 0).1).get! (0:Int).toNat).toNat:Int)=48))))||(ok&&(decide (g=3))))=true→
    K (b6.mk 2 (s.extract p (dg s p 0).1) 0 (b8.mk 0 0)) 21 (rd s (dg s p 0).1 b) l i)∧
   ((((!isNilI v)||((decide (1 < ((s.extract p (dg s p 0).1).size:Int)))&&(decide ((((s.extract p (dg s p 0).1).get! (0:Int).toNat).toNat:Int)=48))))||(ok&&(decide (g=3))))=false→
    K (b6.mk 2 (s.extract p (dg s p 0).1) n (b8.mk 0 0)) 0 (rd s (dg s p 0).1 b) l i)):=by
  intro n v c ok hv hnil hn hck
  refine ⟨hv,fun _=>⟨Int.le_refl _,by omega⟩,a0T (classS c) (fun _ K' hk=>b1h hk) ?_⟩
  rw [show (0:Int).toNat=0 from rfl,hget,hnil,hsz]
  obtain ⟨h1,h2⟩:=h
  unfold numO at h1 h2
  have bad:(9223372036854775808≤(dg s p 0).2∨(by8 s p=48∧1 < (dg s p 0).1-p)∨((dg s p 0).1 < s.size∧classS (rn s (dg s p 0).1)=3))→K (b6.mk 2 (s.extract p (dg s p 0).1) 0 (b8.mk 0 0)) 21 (rd s (dg s p 0).1 b) l H:=fun q=>by
   rw [if_pos q] at h2
   exact h2 _ _ (by decide)
  have good:¬(9223372036854775808≤(dg s p 0).2∨(by8 s p=48∧1 < (dg s p 0).1-p)∨((dg s p 0).1 < s.size∧classS (rn s (dg s p 0).1)=3))→K (b6.mk 2 (s.extract p (dg s p 0).1) n (b8.mk 0 0)) 0 (rd s (dg s p 0).1 b) l H:=fun q=>by
   rw [if_neg q] at h1
   rw [hn (by omega)]
   exact h1 rfl b g
  have hA:((!decide ((dg s p 0).2 < 9223372036854775808))||(decide (1 < (((dg s p 0).1-p:Nat):Int))&&decide (((s.get! p).toNat:Int)=48)))=decide (9223372036854775808≤(dg s p 0).2∨(by8 s p=48∧1 < (dg s p 0).1-p)):=by
   rw [Bool.eq_iff_iff]
   simp only [Bool.or_eq_true,Bool.and_eq_true,Bool.not_eq_true',decide_eq_true_eq,decide_eq_false_iff_not]
   unfold by8
   omega
  rw [hA]
  by_cases q:9223372036854775808≤(dg s p 0).2∨(by8 s p=48∧1 < (dg s p 0).1-p)
  ·rw [decide_eq_true q]
   refine ⟨fun _=>bad ?_,fun x=>(by cases x)⟩
   rcases q with q | q
   ·exact .inl q
   ·exact .inr (.inl q)
  ·rw [decide_eq_false q]
   by_cases c2:(dg s p 0).1 < s.size
   ·rw [if_pos c2] at hck
    obtain ⟨rfl,rfl⟩:=hck
    rw [if_pos (show (!false&&true)=true from rfl)]
    refine ⟨fun x=>bad (.inr (.inr ⟨c2,by simpa using x⟩)),fun x=>good ?_⟩
    rintro (y | y | y)
    ·exact q (.inl y)
    ·exact q (.inr y)
    ·have:¬classS (rn s (dg s p 0).1)=3:=by simpa using x
     exact this y.2
   ·rw [if_neg c2] at hck
    subst hck
    refine ⟨fun x=>(by cases x),fun _=>good ?_⟩
    rintro (y | y | y)
    ·exact q (.inl y)
    ·exact q (.inr y)
    ·exact c2 y.1
 have ht:(s.extract p (dg s p 0).1).data.toList=(s.data.toList.drop p).take ((dg s p 0).1-p):=a8a
 have hv:dval 0 (s.extract p (dg s p 0).1).data.toList=(dg s p 0).2:=by rw [ht];exact d3.symm
 refine d4r hE (by rw [hsz];simp only [big];omega) ?_ (by rw [ht];exact d4) (fun c=>a6D e2 ?_) (fun c n v hv2=>a6D e2 ?_)
 ·intro x
  have:=congrArg List.length x
  rw [Array.length_toList] at this
  have h3:(s.extract p (dg s p 0).1).data.size=(s.extract p (dg s p 0).1).size:=rfl
  rw [h3,hsz] at this
  simp only [List.length_nil] at this
  omega
 ·rw [hv] at c
  by_cases c2:(dg s p 0).1 < s.size
  ·rw [if_pos c2]
   exact fin _ .nilIface _ _ (.inl rfl) (by rw [decide_eq_true c];rfl) (fun _=>by rw [hv]) (by rw [if_pos c2];exact ⟨rfl,rfl⟩)
  ·rw [if_neg c2]
   exact fin _ .nilIface _ _ (.inl rfl) (by rw [decide_eq_true c];rfl) (fun _=>by rw [hv]) (by rw [if_neg c2])
 ·rw [hv] at c
  obtain ⟨tp,x,rfl⟩:=hv2
  by_cases c2:(dg s p 0).1 < s.size
  ·rw [if_pos c2]
   exact fin _ (.iface tp x) _ _ (.inr ⟨_,_,rfl⟩) (by rw [decide_eq_false c];rfl) (fun y=>absurd y c) (by rw [if_pos c2];exact ⟨rfl,rfl⟩)
  ·rw [if_neg c2]
   exact fin _ (.iface tp x) _ _ (.inr ⟨_,_,rfl⟩) (by rw [decide_eq_false c];rfl) (fun y=>absurd y c) (by rw [if_neg c2])
theorem d5L{p:Nat}{a:Int×Int}{l:List b6}(hp:p < s.size)(hc:classS (rn s p)=5)(ha:Pl a p){K:b6→Int→j8→List b6→Hp→Prop}(h:RdK s p a l (signO s p) K H):a7G (rd s p a) l H K:=by
 refine b3k _ _ ?_
 unfold a7Q
 have hasc:=b8U hc
 have hw:=(b1t hasc).2
 obtain ⟨h1,h2⟩:=h
 unfold signO at h1 h2
 have g1:=Go2.one (s:=s) (a:=a) hp
 rw [hw] at g1
 refine D1 (fun(z:Int×b6×ByteArray×Int×b8×(List b6)) H'=>H'=H∧∃(i:Nat)(t:b6),z=((i:Int),t,s,(p:Int),plv a,l)∧i≤6∧∀(j:Nat)(x y:UInt8),j < i→c7n[j]? = some (x,y)→¬(p+1 < s.size∧by8 s p=x.toNat∧by8 s (p+1)=y.toNat)) (fun z=>(6-z.1).toNat) ⟨rfl,0,_,rfl,by omega,fun j x y hj=>by omega⟩ ?_
 rintro z H1 next ⟨rfl,i,t,rfl,hi,hne⟩ hk
 unfold a3f
 dsimp only
 refine ⟨fun c=>⟨by omega,c,b4A (Nat.le_of_lt hp) (c6b ?_)⟩,fun c=>?_⟩
 ·obtain ⟨x,y,e1,e2⟩:=d4q (i:=i) (by omega)
  rw [Int.toNat_natCast]
  rw [show (([⟨#[61,61]⟩,⟨#[33,61]⟩,⟨#[60,61]⟩,⟨#[62,61]⟩,⟨#[38,38]⟩,⟨#[124,124]⟩]:List ByteArray).getD i ⟨#[]⟩)=⟨#[x,y]⟩ from e1,decide_eq_decide.2 (d8S (Nat.le_of_lt hp) x y)]
  by_cases q:p+1 < s.size∧by8 s p=x.toNat∧by8 s (p+1)=y.toNat
  ·rw [decide_eq_true q]
   refine ⟨fun _=>?_,fun x=>(by cases x)⟩
   have ht:two s p:=c2P.2 ⟨i,x,y,e2,q⟩
   rw [if_pos ht] at h1
   have hasc2:by8 s (p+1) < 128:=by unfold two at ht;omega
   have hw2:=(b1t hasc2).2
   have g2:=Go2.one (s:=s) (a:=stepP a (rn s p)) q.1
   rw [hw2] at g2
   refine a6Y hT hs hp ha ?_
   rw [hw]
   refine a6Y hT hs q.1 (g1.pl ha) ?_
   rw [hw2]
   have:=h1 rfl _ (g1.trans g2)
   rw [show s.extract p (p+2)=⟨#[x,y]⟩ from (a7Z (by omega) x y).2 q.2] at this
   exact this
  ·rw [decide_eq_false q]
   refine ⟨fun x=>(by cases x),fun _=>?_⟩
   rw [z1 ⟨by omega,by omega⟩]
   refine hk _ _ ⟨rfl,i+1,t,rfl,by omega,fun j x' y' hj he=>?_⟩ (by dsimp only;omega)
   by_cases hji:j=i
   ·subst hji
    rw [e2] at he
    cases he
    exact q
   ·exact hne j x' y' (by omega) he
 ·have hn2:¬two s p:=fun q=>by
   obtain ⟨j,x,y,e,q⟩:=c2P.1 q
   have hl:j < 6:=(List.getElem?_eq_some_iff.1 e).1
   exact hne j x y (by omega) e q
  rw [if_neg hn2] at h1 h2
  unfold a3e
  refine b4A (s:=s) (p:=p) (a:=a) (Nat.le_of_lt hp) ⟨by decide,by rw [tail_size (Nat.le_of_lt hp)];omega,a6Y hT hs hp ha ?_⟩
  rw [hw]
  obtain ⟨c1,c2⟩:=d8T hp
  have one:∀x:UInt8,decide ((s.extract p s.size).extract 0 (1:Int).toNat=⟨#[x]⟩)=decide (by8 s p=x.toNat):=fun x=>by
   refine decide_eq_decide.2 ?_
   rw [show (1:Int).toNat=1 from rfl,c1,c2]
   unfold by8
   constructor
   ·intro e
    injection e with e
    have e:=congrArg Array.toList e
    injection e with e _
    rw [e]
   ·intro e;rw [UInt8.toNat_inj.1 e]
  rw [one,one,← Bool.decide_or,show (38:UInt8).toNat=38 from rfl,show (124:UInt8).toNat=124 from rfl]
  by_cases q:by8 s p=38∨by8 s p=124
  ·rw [decide_eq_true q]
   rw [if_pos q] at h2
   exact ⟨fun _=>h2 _ _ (by decide),fun x=>(by cases x)⟩
  ·rw [decide_eq_false q]
   rw [if_neg q] at h1
   refine ⟨fun x=>(by cases x),fun _=>?_⟩
   rw [show (1:Int).toNat=1 from rfl,c1]
   exact h1 rfl _ g1
end
section
variable {H:Hp}{s:ByteArray}(hT:TabsH H)
include hT
theorem d4s{K:Int→Int→Hp→Prop}(h:if 65536 < s.size then K 0 10 H else match chkAt s 0 with | some n=>K (n:Int) 11 H | none=>K 0 0 H):b0H s H K:=by
 refine b5v _ ?_
 unfold b0K
 refine ⟨fun c=>?_,fun c=>?_⟩
 ·rw [if_pos (by omega)] at h;exact h
 rw [if_neg (by omega)] at h
 refine D1 (fun(p:Nat) H'=>H'=H∧chkAt s p=chkAt s 0) (fun p=>s.size-p) ⟨rfl,rfl⟩ ?_
 rintro p H1 next ⟨rfl,he⟩ hk
 unfold a8Q
 refine ⟨fun c=>?_,fun c=>?_⟩
 ·rw [b5d s p c] at he
  have h1:=O9 s p
  have h2:=a6X c
  refine ⟨fun e=>?_,fun e=>⟨by omega,by omega,?_⟩⟩
  ·rw [if_neg (fun x=>e (by rw [x.1];rfl))] at he
   exact hk _ _ ⟨rfl,he⟩ (by show s.size-(p+wd s p) < _;omega)
  ·rw [Int.toNat_natCast]
   refine c5Y hT c ⟨fun x=>?_,fun x=>?_⟩
   ·rw [if_pos (show bad s p by unfold bad;unfold wd at x;constructor<;>omega)] at he
    rw [←he] at h
    exact h
   ·rw [if_neg (fun y=>x (by have:=y.2;unfold wd;omega))] at he
    exact hk _ _ ⟨rfl,he⟩ (by show s.size-(p+wd s p) < _;omega)
 ·rw [b3R s p (by omega)] at he
  rw [←he] at h
  exact h
end
end Go.Proofs.YthklmeihgmcljaaGreatDoor
