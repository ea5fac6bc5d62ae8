/- Tokens: the program's reader, function by function. Off the printed formulas; peek by hand. -/
import Derived.Test.YthklmeihgmcljaaGreatDoorzEL3
namespace Go.Proofs.YthklmeihgmcljaaGreatDoor
open Go.RowKit
set_option maxRecDepth 100000
set_option maxHeartbeats 1000000
abbrev rd(s:ByteArray)(p:Nat)(a:Int×Int):j8:=j8.mk s (p:Int) (plv a) (Sl.mk none 0 0)
def ErrH(H:Hp):Prop:=∃(tp:TypeId)(x:Value),∀w:World,Sub H w→w.cell? ⟨3,0,none⟩=some (.iface tp x)
theorem ErrH.le{H H':Hp}(h:ErrH H)(l:Hle H H'):ErrH H':=by
 obtain ⟨tp,x,h⟩:=h
 exact ⟨tp,x,fun w s=>h w fun i o e=>s i o (l i o e)⟩
section
variable {s:ByteArray}
theorem c0D{p:Nat}(hp:p < s.size):Utf8.decode (s.extract p s.size) 0=Utf8.decode s p:=by
 have:=b7N (s:=s) (p:=p) (e:=s.size) (i:=0) (Nat.le_refl _) (by omega) (by have:=a6X hp;rw [Nat.add_zero];exact this)
 rw [Nat.add_zero] at this
 exact this
theorem tail_size{p:Nat}(hp:p≤s.size):(s.extract p s.size).size=s.size-p:=b1i hp (Nat.le_refl _)
end
section
variable {H:Hp}{s:ByteArray}
theorem c5Y(hT:TabsH H){p:Nat}(hp:p < s.size){K:Int→Int→Hp→Prop}(h:K (rn s p) (wd s p:Int) H):a0Q (s.extract p s.size) H K:=by
 intro w I
 refine Calls.mono (Any.utf8_DecodeRuneInString Tryz.d0E _ w (hT w I.sub)) fun e w' hb=>?_
 obtain ⟨rfl,hb⟩:=hb
 refine ⟨H,[],I.of_below hb,_,_,rfl,rfl,?_⟩
 have hz:¬(s.extract p s.size).size=0:=by rw [tail_size (by omega)];omega
 have e:Lib.decodeGo (s.extract p s.size)=Utf8.decode s p:=by
  simp only [Lib.decodeGo,hz,if_false]
  exact c0D hp
 rw [e]
 exact h
theorem b4A{p:Nat}{a:Int×Int}{l:List b6}(hp:p≤s.size){K:ByteArray→Hp→Prop}(h:K (s.extract p s.size) H):V9 (rd s p a) l H K:=by
 refine b3e _ _ ?_
 unfold a7N
 dsimp only
 rw [Int.toNat_natCast]
 exact ⟨by omega,by omega,h⟩
theorem a6D{p:Nat}{a:Int×Int}{l:List b6}(hp:p≤s.size){K:Int→Bool→Hp→Prop}(h:if p < s.size then K (rn s p) true H else K 0 false H):E2 (rd s p a) l H K:=by
 intro g0 e f hr
 refine Ct.of fun w0 w ps0 H0 R E I hR=>c8V ?_
 unfold d3V
 refine p7 fun j1 hx1=>?_
 refine f9 Tryz.call135 (b4A (H:=H) (a:=a) hp (K:=fun r H'=>r=s.extract p s.size∧H=H') ⟨rfl,rfl⟩ g0 e f hr) I ?_
 rintro _ _ _ w1 I1 _ _ ⟨r,rfl,rfl,rfl,rfl⟩
 refine b6c Tryz.underlying9 (s.extract p s.size) I1 fun m w2 I2 _=>?_
 refine U0 (J:=fun n l w=>l=[]∧Inv w0 ps0 H0 H (itf m (s.extract p s.size) 0::([bx g0 155 (y6 (rd s p a) e),f]++[])) w) ⟨0,rfl,I2⟩ ?_
 rintro _ τ w3 next ⟨_,I3⟩ _
 unfold c1L
 have hz:=tail_size hp
 refine b7x I3 (fun g w4 I4 _=>?_) (fun g=>?_)
 ·have c:p < s.size:=by omega
  rw [if_pos c] at h
  refine a7 (m5 _ _ (Value.bool true) rfl) ?_
  refine a4d (fun _=>?_) (fun e=>by cases e)
  refine a7 (m5 _ _ (Value.int .i32 ((Utf8.decode (s.extract p s.size) 0).1:Int)) rfl) ?_
  refine hR _ H _ _ I4.drop ⟨_,true,rfl,rfl,?_⟩
  rw [c0D c]
  exact h
 ·have c:¬p < s.size:=by omega
  rw [if_neg c] at h
  refine a7 (m5 _ _ (Value.bool false) rfl) ?_
  refine a4d (fun e=>by cases e) (fun _=>?_)
  refine hx1 _ _ ?_
  unfold c1K
  intro _
  exact hR _ H _ _ I3.drop ⟨0,false,rfl,rfl,h⟩
end
section
variable {H:Hp}{s:ByteArray}
theorem c5Z{r:Int}{K:Bool→Hp→Prop}(h:K (blankS r) H):a2B r H K:=by
 refine b0R _ ?_
 unfold a6t
 exact b1h h
theorem c6a{r:Int}{K:Bool→Hp→Prop}(h:K (notNl r) H):a2A r H K:=b0Z _ h
theorem d0K{r:Int}{K:Bool→Hp→Prop}(h:K (digitR r) H):a2C r H K:=by
 refine b0U _ ?_
 unfold a6u
 exact b1h h
theorem c6b{t x:ByteArray}{K:Bool→Hp→Prop}(h:K (decide (x.size≤t.size∧t.extract 0 x.size=x)) H):a4W t x H K:=by
 refine b5w _ _ ?_
 unfold b0L
 refine a9i _ _ ?_
 unfold a4H
 rw [Int.toNat_natCast,← Bool.decide_and]
 refine ⟨fun q=>⟨by omega,by have:=of_decide_eq_true q;omega⟩,?_⟩
 rw [show decide ((x.size:Int)≤(t.size:Int)∧t.extract 0 x.size=x)=decide (x.size≤t.size∧t.extract 0 x.size=x) from decide_eq_decide.2 ⟨fun q=>⟨by omega,q.2⟩,fun q=>⟨by omega,q.2⟩⟩]
 exact h
variable (hT:TabsH H)(hs:s.size≤big)
include hT hs
theorem a6Y{p:Nat}{a:Int×Int}{l:List b6}(hp:p < s.size)(ha:Pl a p){K:j8→List b6→Hp→Prop}(h:K (rd s (p+wd s p) (stepP a (rn s p))) l H):K9 (rd s p a) l H K:=by
 refine b3q _ _ ?_
 unfold a7V
 have hs2:=hs
 simp only [big] at hs2
 have h2:=a6X hp
 unfold Pl at ha
 refine b4A (s:=s) (p:=p) (a:=a) (by omega) (c5Y hT hp ?_)
 dsimp only
 rw [a8p _ _ (by omega)]
 unfold stepP at h
 refine ⟨fun e=>?_,fun e=>?_⟩
 ·rw [if_pos e] at h
  rw [z1 ⟨by omega,by omega⟩]
  exact h
 ·rw [if_neg e] at h
  rw [z1 ⟨by omega,by omega⟩]
  exact h
theorem c0E{p:Nat}{a:Int×Int}{l:List b6}(hp:p≤s.size)(ha:Pl a p){K:ByteArray→j8→List b6→Hp→Prop}(h:K (s.extract p (Wr s goesS p a).1) (rd s (Wr s goesS p a).1 (Wr s goesS p a).2) l H):S9 (rd s p a) l H K:=by
 refine a5u _ _ ?_
 unfold T1
 have hs2:=hs
 simp only [big] at hs2
 have start:∀(c:Int)(ok:Bool),(if p < s.size then c=rn s p∧ok=true else ok=false)→TL ((c,ok,s,(p:Int),plv a,l):Int×Bool×ByteArray×Int×b8×(List b6)) H fun(s:Int×Bool×ByteArray×Int×b8×(List b6)) H n2=>D8 p s.1 s.2.1 s.2.2.1 s.2.2.2.1 s.2.2.2.2.1 s.2.2.2.2.2 H n2 K:=by
  intro c ok h0
  refine D1 (fun(z:Int×Bool×ByteArray×Int×b8×(List b6)) H'=>H'=H∧∃(q:Nat)(b:Int×Int)(c:Int)(ok:Bool),z=(c,ok,s,(q:Int),plv b,l)∧p≤q∧q≤s.size∧Pl b q∧(if q < s.size then c=rn s q∧ok=true else ok=false)∧Wr s goesS q b=Wr s goesS p a) (fun z=>(s.size-z.2.2.2.1).toNat) ⟨rfl,p,a,c,ok,rfl,Nat.le_refl _,hp,ha,h0,rfl⟩ ?_
  rintro z H1 next ⟨rfl,q,b,c,ok,rfl,hpq,hq,hb,hc,he⟩ hk
  unfold D8
  dsimp only
  refine a0T (goesS c) (fun _ K' hk=>c2G hk) ?_
  have fin:∀v:Bool,¬(q < s.size∧goesS (rn s q)=true)→D7 p s q (plv b) l H1 K:=by
   intro _ hn
   unfold D7
   rw [a0E hn] at he
   rw [←he] at h
   refine ⟨by omega,by omega,by omega,?_⟩
   rw [Int.toNat_natCast,Int.toNat_natCast]
   exact h
  by_cases c1:q < s.size
  ·rw [if_pos c1] at hc
   obtain ⟨rfl,rfl⟩:=hc
   rw [if_pos rfl]
   cases hi:goesS (rn s q) with
   | true=>
    refine ⟨fun _=>?_,fun x=>(by cases x)⟩
    have h1:=O9 s q
    have h2:=a6X c1
    rw [a5v c1 hi] at he
    refine a6Y hT hs c1 hb (a6D h2 ?_)
    have hb2:=Pl.step (s:=s) hb
    by_cases c2:q+wd s q < s.size
    ·rw [if_pos c2]
     exact hk _ _ ⟨rfl,q+wd s q,stepP b (rn s q),_,true,rfl,by omega,h2,hb2,by rw [if_pos c2];exact ⟨rfl,rfl⟩,he⟩ (by dsimp only;omega)
    ·rw [if_neg c2]
     exact hk _ _ ⟨rfl,q+wd s q,stepP b (rn s q),_,false,rfl,by omega,h2,hb2,by rw [if_neg c2],he⟩ (by dsimp only;omega)
   | false=>exact ⟨fun x=>(by cases x),fun _=>fin true (fun x=>by rw [hi] at x;cases x.2)⟩
  ·rw [if_neg c1] at hc
   subst hc
   rw [if_neg (by decide)]
   exact ⟨fun x=>(by cases x),fun _=>fin false (fun x=>c1 x.1)⟩
 refine a6D hp ?_
 by_cases c1:p < s.size
 ·rw [if_pos c1];exact start _ _ (by rw [if_pos c1];exact ⟨rfl,rfl⟩)
 ·rw [if_neg c1];exact start _ _ (by rw [if_neg c1])
theorem a9s{p:Nat}{a:Int×Int}{l:List b6}(hp:p≤s.size)(ha:Pl a p){K:ByteArray→j8→List b6→Hp→Prop}(h:K (s.extract p (Wr s blankS p a).1) (rd s (Wr s blankS p a).1 (Wr s blankS p a).2) l H):F0 (rd s p a) l H K:=by
 refine a2T _ _ ?_
 unfold O1
 have hs2:=hs
 simp only [big] at hs2
 have start:∀(c:Int)(ok:Bool),(if p < s.size then c=rn s p∧ok=true else ok=false)→TL ((c,ok,s,(p:Int),plv a,l):Int×Bool×ByteArray×Int×b8×(List b6)) H fun(s:Int×Bool×ByteArray×Int×b8×(List b6)) H n2=>B6 p s.1 s.2.1 s.2.2.1 s.2.2.2.1 s.2.2.2.2.1 s.2.2.2.2.2 H n2 K:=by
  intro c ok h0
  refine D1 (fun(z:Int×Bool×ByteArray×Int×b8×(List b6)) H'=>H'=H∧∃(q:Nat)(b:Int×Int)(c:Int)(ok:Bool),z=(c,ok,s,(q:Int),plv b,l)∧p≤q∧q≤s.size∧Pl b q∧(if q < s.size then c=rn s q∧ok=true else ok=false)∧Wr s blankS q b=Wr s blankS p a) (fun z=>(s.size-z.2.2.2.1).toNat) ⟨rfl,p,a,c,ok,rfl,Nat.le_refl _,hp,ha,h0,rfl⟩ ?_
  rintro z H1 next ⟨rfl,q,b,c,ok,rfl,hpq,hq,hb,hc,he⟩ hk
  unfold B6
  dsimp only
  refine a0T (blankS c) (fun _ K' hk=>c5Z hk) ?_
  have fin:∀v:Bool,¬(q < s.size∧blankS (rn s q)=true)→B5 p s q (plv b) l H1 K:=by
   intro _ hn
   unfold B5
   rw [a0E hn] at he
   rw [←he] at h
   refine ⟨by omega,by omega,by omega,?_⟩
   rw [Int.toNat_natCast,Int.toNat_natCast]
   exact h
  by_cases c1:q < s.size
  ·rw [if_pos c1] at hc
   obtain ⟨rfl,rfl⟩:=hc
   rw [if_pos rfl]
   cases hi:blankS (rn s q) with
   | true=>
    refine ⟨fun _=>?_,fun x=>(by cases x)⟩
    have h1:=O9 s q
    have h2:=a6X c1
    rw [a5v c1 hi] at he
    refine a6Y hT hs c1 hb (a6D h2 ?_)
    have hb2:=Pl.step (s:=s) hb
    by_cases c2:q+wd s q < s.size
    ·rw [if_pos c2]
     exact hk _ _ ⟨rfl,q+wd s q,stepP b (rn s q),_,true,rfl,by omega,h2,hb2,by rw [if_pos c2];exact ⟨rfl,rfl⟩,he⟩ (by dsimp only;omega)
    ·rw [if_neg c2]
     exact hk _ _ ⟨rfl,q+wd s q,stepP b (rn s q),_,false,rfl,by omega,h2,hb2,by rw [if_neg c2],he⟩ (by dsimp only;omega)
   | false=>exact ⟨fun x=>(by cases x),fun _=>fin true (fun x=>by rw [hi] at x;cases x.2)⟩
  ·rw [if_neg c1] at hc
   subst hc
   rw [if_neg (by decide)]
   exact ⟨fun x=>(by cases x),fun _=>fin false (fun x=>c1 x.1)⟩
 refine a6D hp ?_
 by_cases c1:p < s.size
 ·rw [if_pos c1];exact start _ _ (by rw [if_pos c1];exact ⟨rfl,rfl⟩)
 ·rw [if_neg c1];exact start _ _ (by rw [if_neg c1])
theorem b4B{p:Nat}{a:Int×Int}{l:List b6}(hp:p≤s.size)(ha:Pl a p){K:ByteArray→j8→List b6→Hp→Prop}(h:K (s.extract p (Wr s notNl p a).1) (rd s (Wr s notNl p a).1 (Wr s notNl p a).2) l H):N7 (rd s p a) l H K:=by
 refine a2R _ _ ?_
 unfold N9
 have hs2:=hs
 simp only [big] at hs2
 have start:∀(c:Int)(ok:Bool),(if p < s.size then c=rn s p∧ok=true else ok=false)→TL ((c,ok,s,(p:Int),plv a,l):Int×Bool×ByteArray×Int×b8×(List b6)) H fun(s:Int×Bool×ByteArray×Int×b8×(List b6)) H n2=>B2 p s.1 s.2.1 s.2.2.1 s.2.2.2.1 s.2.2.2.2.1 s.2.2.2.2.2 H n2 K:=by
  intro c ok h0
  refine D1 (fun(z:Int×Bool×ByteArray×Int×b8×(List b6)) H'=>H'=H∧∃(q:Nat)(b:Int×Int)(c:Int)(ok:Bool),z=(c,ok,s,(q:Int),plv b,l)∧p≤q∧q≤s.size∧Pl b q∧(if q < s.size then c=rn s q∧ok=true else ok=false)∧Wr s notNl q b=Wr s notNl p a) (fun z=>(s.size-z.2.2.2.1).toNat) ⟨rfl,p,a,c,ok,rfl,Nat.le_refl _,hp,ha,h0,rfl⟩ ?_
  rintro z H1 next ⟨rfl,q,b,c,ok,rfl,hpq,hq,hb,hc,he⟩ hk
  unfold B2
  dsimp only
  refine a0T (notNl c) (fun _ K' hk=>c6a hk) ?_
  have fin:∀v:Bool,¬(q < s.size∧notNl (rn s q)=true)→B1 p s q (plv b) l H1 K:=by
   intro _ hn
   unfold B1
   rw [a0E hn] at he
   rw [←he] at h
   refine ⟨by omega,by omega,by omega,?_⟩
   rw [Int.toNat_natCast,Int.toNat_natCast]
   exact h
  by_cases c1:q < s.size
  ·rw [if_pos c1] at hc
   obtain ⟨rfl,rfl⟩:=hc
   rw [if_pos rfl]
   cases hi:notNl (rn s q) with
   | true=>
    refine ⟨fun _=>?_,fun x=>(by cases x)⟩
    have h1:=O9 s q
    have h2:=a6X c1
    rw [a5v c1 hi] at he
    refine a6Y hT hs c1 hb (a6D h2 ?_)
    have hb2:=Pl.step (s:=s) hb
    by_cases c2:q+wd s q < s.size
    ·rw [if_pos c2]
     exact hk _ _ ⟨rfl,q+wd s q,stepP b (rn s q),_,true,rfl,by omega,h2,hb2,by rw [if_pos c2];exact ⟨rfl,rfl⟩,he⟩ (by dsimp only;omega)
    ·rw [if_neg c2]
     exact hk _ _ ⟨rfl,q+wd s q,stepP b (rn s q),_,false,rfl,by omega,h2,hb2,by rw [if_neg c2],he⟩ (by dsimp only;omega)
   | false=>exact ⟨fun x=>(by cases x),fun _=>fin true (fun x=>by rw [hi] at x;cases x.2)⟩
  ·rw [if_neg c1] at hc
   subst hc
   rw [if_neg (by decide)]
   exact ⟨fun x=>(by cases x),fun _=>fin false (fun x=>c1 x.1)⟩
 refine a6D hp ?_
 by_cases c1:p < s.size
 ·rw [if_pos c1];exact start _ _ (by rw [if_pos c1];exact ⟨rfl,rfl⟩)
 ·rw [if_neg c1];exact start _ _ (by rw [if_neg c1])
theorem b4C{p:Nat}{a:Int×Int}{l:List b6}(hp:p≤s.size)(ha:Pl a p){K:ByteArray→j8→List b6→Hp→Prop}(h:K (s.extract p (Wr s digitR p a).1) (rd s (Wr s digitR p a).1 (Wr s digitR p a).2) l H):N8 (rd s p a) l H K:=by
 refine a2S _ _ ?_
 unfold O0
 have hs2:=hs
 simp only [big] at hs2
 have start:∀(c:Int)(ok:Bool),(if p < s.size then c=rn s p∧ok=true else ok=false)→TL ((c,ok,s,(p:Int),plv a,l):Int×Bool×ByteArray×Int×b8×(List b6)) H fun(s:Int×Bool×ByteArray×Int×b8×(List b6)) H n2=>B4 p s.1 s.2.1 s.2.2.1 s.2.2.2.1 s.2.2.2.2.1 s.2.2.2.2.2 H n2 K:=by
  intro c ok h0
  refine D1 (fun(z:Int×Bool×ByteArray×Int×b8×(List b6)) H'=>H'=H∧∃(q:Nat)(b:Int×Int)(c:Int)(ok:Bool),z=(c,ok,s,(q:Int),plv b,l)∧p≤q∧q≤s.size∧Pl b q∧(if q < s.size then c=rn s q∧ok=true else ok=false)∧Wr s digitR q b=Wr s digitR p a) (fun z=>(s.size-z.2.2.2.1).toNat) ⟨rfl,p,a,c,ok,rfl,Nat.le_refl _,hp,ha,h0,rfl⟩ ?_
  rintro z H1 next ⟨rfl,q,b,c,ok,rfl,hpq,hq,hb,hc,he⟩ hk
  unfold B4
  dsimp only
  refine a0T (digitR c) (fun _ K' hk=>d0K hk) ?_
  have fin:∀v:Bool,¬(q < s.size∧digitR (rn s q)=true)→B3 p s q (plv b) l H1 K:=by
   intro _ hn
   unfold B3
   rw [a0E hn] at he
   rw [←he] at h
   refine ⟨by omega,by omega,by omega,?_⟩
   rw [Int.toNat_natCast,Int.toNat_natCast]
   exact h
  by_cases c1:q < s.size
  ·rw [if_pos c1] at hc
   obtain ⟨rfl,rfl⟩:=hc
   rw [if_pos rfl]
   cases hi:digitR (rn s q) with
   | true=>
    refine ⟨fun _=>?_,fun x=>(by cases x)⟩
    have h1:=O9 s q
    have h2:=a6X c1
    rw [a5v c1 hi] at he
    refine a6Y hT hs c1 hb (a6D h2 ?_)
    have hb2:=Pl.step (s:=s) hb
    by_cases c2:q+wd s q < s.size
    ·rw [if_pos c2]
     exact hk _ _ ⟨rfl,q+wd s q,stepP b (rn s q),_,true,rfl,by omega,h2,hb2,by rw [if_pos c2];exact ⟨rfl,rfl⟩,he⟩ (by dsimp only;omega)
    ·rw [if_neg c2]
     exact hk _ _ ⟨rfl,q+wd s q,stepP b (rn s q),_,false,rfl,by omega,h2,hb2,by rw [if_neg c2],he⟩ (by dsimp only;omega)
   | false=>exact ⟨fun x=>(by cases x),fun _=>fin true (fun x=>by rw [hi] at x;cases x.2)⟩
  ·rw [if_neg c1] at hc
   subst hc
   rw [if_neg (by decide)]
   exact ⟨fun x=>(by cases x),fun _=>fin false (fun x=>c1 x.1)⟩
 refine a6D hp ?_
 by_cases c1:p < s.size
 ·rw [if_pos c1];exact start _ _ (by rw [if_pos c1];exact ⟨rfl,rfl⟩)
 ·rw [if_neg c1];exact start _ _ (by rw [if_neg c1])
theorem b8V{p:Nat}{a:Int×Int}{l:List b6}(hp:p≤s.size)(ha:Pl a p){K:j8→List b6→Hp→Prop}(h:∀b,Go2 s p a (sk s p) b→K (rd s (sk s p) b) l H):a1d (rd s p a) l H K:=by
 refine b1P _ _ ?_
 unfold a7i
 refine a9s hT hs hp ha ?_
 have g1:=a7C (s:=s) blankS _ p a (Nat.le_refl _)
 refine D1 (fun(z:ByteArray×Int×b8×(List b6)) H'=>H'=H∧∃(q:Nat)(b:Int×Int),z=(s,(q:Int),plv b,l)∧q≤s.size∧Go2 s p a q b∧sk s q=sk s p∧¬(q < s.size∧blankS (rn s q)=true)) (fun z=>(s.size-z.2.1).toNat) ⟨rfl,(Wr s blankS p a).1,(Wr s blankS p a).2,rfl,g1.size hp,g1,(b7h _ p a (Nat.le_refl _)).symm,c0x _ _ _ _ (Nat.le_refl _)⟩ ?_
 rintro z H1 next ⟨rfl,q,b,rfl,hq,hg,he,hn⟩ hk
 unfold a2i
 dsimp only
 have hb:=hg.pl ha
 have hz:=tail_size hq
 refine b4A hq (c6b ?_)
 have e1:decide ((⟨#[35]⟩:ByteArray).size≤(s.extract q s.size).size∧(s.extract q s.size).extract 0 (⟨#[35]⟩:ByteArray).size=⟨#[35]⟩)=decide (q < s.size∧by8 s q=35):=by
  refine decide_eq_decide.2 ?_
  rw [show (⟨#[35]⟩:ByteArray).size=1 from rfl,hz]
  by_cases c:q < s.size
  ·have e2:(s.extract q s.size).extract 0 1=⟨#[s.get! q]⟩:=by
    apply ByteArray.ext
    apply Array.toList_inj.1
    rw [ByteArray.data_extract,Array.toList_extract,List.extract_eq_take_drop,ByteArray.data_extract,Array.toList_extract,List.extract_eq_take_drop,List.drop_zero,List.take_take,b2K c,Nat.min_eq_left (by omega)]
    rfl
   rw [e2]
   constructor
   ·rintro ⟨_,x⟩
    injection x with x
    have x:=congrArg Array.toList x
    injection x with x _
    exact ⟨c,by unfold by8;rw [x];rfl⟩
   ·rintro ⟨_,x⟩
    refine ⟨by omega,?_⟩
    have:s.get! q=35:=UInt8.toNat_inj.1 x
    rw [this]
  ·exact ⟨fun x=>by omega,fun x=>absurd x.1 c⟩
 rw [e1]
 by_cases c:q < s.size∧by8 s q=35
 ·rw [decide_eq_true c]
  refine ⟨fun _=>?_,fun x=>(by cases x)⟩
  have hgt:=b6y c.1 c.2
  have g2:=a7C (s:=s) notNl _ q b (Nat.le_refl _)
  have e3:=c3H (s:=s) _ q b (Nat.le_refl _)
  refine b4B hT hs hq hb ?_
  rw [←e3] at g2 ⊢
  have hq2:=g2.size hq
  have g3:=a7C (s:=s) blankS _ (nl s q) (Wr s notNl q b).2 (Nat.le_refl _)
  refine a9s hT hs hq2 (g2.pl hb) ?_
  have hq3:=g3.size hq2
  have hle:=g3.le
  rw [b6A c.1 c.2,b7h _ (nl s q) (Wr s notNl q b).2 (Nat.le_refl _)] at he
  exact hk _ _ ⟨rfl,_,_,rfl,hq3,(hg.trans g2).trans g3,he,c0x _ _ _ _ (Nat.le_refl _)⟩ (by dsimp only;omega)
 ·rw [decide_eq_false c]
  refine ⟨fun x=>(by cases x),fun _=>?_⟩
  have:sk s q=q:=by
   refine a6C ?_
   by_cases c2:q < s.size
   ·exact .inr ⟨fun x=>c ⟨c2,x⟩,by
     cases hb2:blankS (rn s q) with
     | true=>exact absurd ⟨c2,hb2⟩ hn
     | false=>rfl⟩
   ·exact .inl c2
  rw [this] at he
  rw [←he] at h
  exact h b hg
end
end Go.Proofs.YthklmeihgmcljaaGreatDoor
