/- Tokens: the program's reader, function by function. Off the printed formulas; peek by hand. -/
import Derived.Test.YtoflkliecagjcaaGreatDooryBL3
namespace Go.Proofs.YtoflkliecagjcaaGreatDoor
open Go.RowKit
set_option maxRecDepth 100000
set_option maxHeartbeats 1000000
abbrev rd(s:ByteArray)(p:Nat)(a:Int×Int):d7:=d7.mk s (p:Int) (plv a) (Sl.mk none 0 0)
def ErrH(H:Hp):Prop:=∃(tp:TypeId)(x:Value),∀w:World,Sub H w→w.cell? ⟨7,0,none⟩=some (.iface tp x)
theorem ErrH.le{H H':Hp}(h:ErrH H)(l:Hle H H'):ErrH H':=by
 obtain ⟨tp,x,h⟩:=h
 exact ⟨tp,x,fun w s=>h w fun i o e=>s i o (l i o e)⟩
section
variable {s:ByteArray}
theorem b4h{p:Nat}(hp:p < s.size):Utf8.decode (s.extract p s.size) 0=Utf8.decode s p:=by
 have:=b1x (s:=s) (p:=p) (e:=s.size) (i:=0) (Nat.le_refl _) (by omega) (by have:=a5y hp;rw [Nat.add_zero];exact this)
 rw [Nat.add_zero] at this
 exact this
theorem tail_size{p:Nat}(hp:p≤s.size):(s.extract p s.size).size=s.size-p:=a4k hp (Nat.le_refl _)
end
section
variable {H:Hp}{s:ByteArray}
theorem c4b(hT:TabsH H){p:Nat}(hp:p < s.size){K:Int→Int→Hp→Prop}(h:K (rn s p) (wd s p:Int) H):Y5 (s.extract p s.size) H K:=by
 intro w I
 refine Calls.mono (Any.utf8_DecodeRuneInString Tryz.c8O _ w (hT w I.sub)) fun e w' hb=>?_
 obtain ⟨rfl,hb⟩:=hb
 refine ⟨H,[],I.of_below hb,_,_,rfl,rfl,?_⟩
 have hz:¬(s.extract p s.size).size=0:=by rw [tail_size (by omega)];omega
 have e:Lib.decodeGo (s.extract p s.size)=Utf8.decode s p:=by
  simp only [Lib.decodeGo,hz,if_false]
  exact b4h hp
 rw [e]
 exact h
theorem b0N{p:Nat}{a:Int×Int}{l:List b7}(hp:p≤s.size){K:ByteArray→Hp→Prop}(h:K (s.extract p s.size) H):S2 (rd s p a) l H K:=by
 refine a9D _ _ ?_
 unfold a4Y
 dsimp only
 rw [Int.toNat_natCast]
 exact ⟨by omega,by omega,h⟩
theorem a3R{p:Nat}{a:Int×Int}{l:List b7}(hp:p≤s.size){K:Int→Bool→Hp→Prop}(h:if p < s.size then K (rn s p) true H else K 0 false H):D5 (rd s p a) l H K:=by
 intro g0 e f hr
 refine Ct.of fun w0 w ps0 H0 R E I hR=>d1r ?_
 unfold F64
 refine u2 fun j1 hx1=>?_
 refine g6 Tryz.call95 (b0N (H:=H) (a:=a) hp (K:=fun r H'=>r=s.extract p s.size∧H=H') ⟨rfl,rfl⟩ g0 e f hr) I ?_
 rintro _ _ _ w1 I1 _ _ ⟨r,rfl,rfl,rfl,rfl⟩
 refine b2L Tryz.underlying9 (s.extract p s.size) I1 fun m w2 I2 _=>?_
 refine R1 (J:=fun n l w=>l=[]∧Inv w0 ps0 H0 H (itf m (s.extract p s.size) 0::([bx g0 123 (u0 (rd s p a) e),f]++[])) w) ⟨0,rfl,I2⟩ ?_
 rintro _ τ w3 next ⟨_,I3⟩ _
 unfold c3z
 have hz:=tail_size hp
 refine b4K I3 (fun g w4 I4 _=>?_) (fun g=>?_)
 ·have c:p < s.size:=by omega
  rw [if_pos c] at h
  refine a7 (j9 _ _ (Value.bool true) rfl) ?_
  refine W8 (fun _=>?_) (fun e=>by cases e)
  refine a7 (j9 _ _ (Value.int .i32 ((Utf8.decode (s.extract p s.size) 0).1:Int)) rfl) ?_
  refine hR _ H _ _ I4.drop ⟨_,true,rfl,rfl,?_⟩
  rw [b4h c]
  exact h
 ·have c:¬p < s.size:=by omega
  rw [if_neg c] at h
  refine a7 (j9 _ _ (Value.bool false) rfl) ?_
  refine W8 (fun e=>by cases e) (fun _=>?_)
  refine hx1 _ _ ?_
  unfold c3y
  intro _
  exact hR _ H _ _ I3.drop ⟨0,false,rfl,rfl,h⟩
end
section
variable {H:Hp}{s:ByteArray}
theorem c4c{r:Int}{K:Bool→Hp→Prop}(h:K (blankS r) H):a0X r H K:=by
 refine a7E _ ?_
 unfold a3P
 exact a7H h
theorem c4d{r:Int}{K:Bool→Hp→Prop}(h:K (notNl r) H):a0W r H K:=a7A _ h
theorem c9a{r:Int}{K:Bool→Hp→Prop}(h:K (digitR r) H):a0Y r H K:=by
 refine a7B _ ?_
 unfold a3N
 exact a7H h
theorem c4e{t x:ByteArray}{K:Bool→Hp→Prop}(h:K (decide (x.size≤t.size∧t.extract 0 x.size=x)) H):a2K t x H K:=by
 refine b1W _ _ ?_
 unfold a7q
 refine a6m _ _ ?_
 unfold a2B
 rw [Int.toNat_natCast,← Bool.decide_and]
 refine ⟨fun q=>⟨by omega,by have:=of_decide_eq_true q;omega⟩,?_⟩
 rw [show decide ((x.size:Int)≤(t.size:Int)∧t.extract 0 x.size=x)=decide (x.size≤t.size∧t.extract 0 x.size=x) from decide_eq_decide.2 ⟨fun q=>⟨by omega,q.2⟩,fun q=>⟨by omega,q.2⟩⟩]
 exact h
variable (hT:TabsH H)(hs:s.size≤big)
include hT hs
theorem a4l{p:Nat}{a:Int×Int}{l:List b7}(hp:p < s.size)(ha:Pl a p){K:d7→List b7→Hp→Prop}(h:K (rd s (p+wd s p) (stepP a (rn s p))) l H):G9 (rd s p a) l H K:=by
 refine a9y _ _ ?_
 unfold a4V
 have hs2:=hs
 simp only [big] at hs2
 have h2:=a5y hp
 unfold Pl at ha
 refine b0N (s:=s) (p:=p) (a:=a) (by omega) (c4b hT hp ?_)
 dsimp only
 rw [c8Y _ _ (by omega)]
 unfold stepP at h
 refine ⟨fun e=>?_,fun e=>?_⟩
 ·rw [if_pos e] at h
  rw [X9 ⟨by omega,by omega⟩]
  exact h
 ·rw [if_neg e] at h
  rw [X9 ⟨by omega,by omega⟩]
  exact h
theorem b8A{p:Nat}{a:Int×Int}{l:List b7}(hp:p≤s.size)(ha:Pl a p){K:ByteArray→d7→List b7→Hp→Prop}(h:K (s.extract p (Wr s goesS p a).1) (rd s (Wr s goesS p a).1 (Wr s goesS p a).2) l H):P6 (rd s p a) l H K:=by
 refine a2T _ _ ?_
 unfold P7
 have hs2:=hs
 simp only [big] at hs2
 have start:∀(c:Int)(ok:Bool),(if p < s.size then c=rn s p∧ok=true else ok=false)→TL ((c,ok,s,(p:Int),plv a,l):Int×Bool×ByteArray×Int×c8×(List b7)) H fun(s:Int×Bool×ByteArray×Int×c8×(List b7)) H n2=>D3 p s.1 s.2.1 s.2.2.1 s.2.2.2.1 s.2.2.2.2.1 s.2.2.2.2.2 H n2 K:=by
  intro c ok h0
  refine U6 (fun(z:Int×Bool×ByteArray×Int×c8×(List b7)) H'=>H'=H∧∃(q:Nat)(b:Int×Int)(c:Int)(ok:Bool),z=(c,ok,s,(q:Int),plv b,l)∧p≤q∧q≤s.size∧Pl b q∧(if q < s.size then c=rn s q∧ok=true else ok=false)∧Wr s goesS q b=Wr s goesS p a) (fun z=>(s.size-z.2.2.2.1).toNat) ⟨rfl,p,a,c,ok,rfl,Nat.le_refl _,hp,ha,h0,rfl⟩ ?_
  rintro z H1 next ⟨rfl,q,b,c,ok,rfl,hpq,hq,hb,hc,he⟩ hk
  unfold D3
  dsimp only
  refine a1F (goesS c) (fun _ K' hk=>c0M hk) ?_
  have fin:∀v:Bool,¬(q < s.size∧goesS (rn s q)=true)→D2 p s q (plv b) l H1 K:=by
   intro _ hn
   unfold D2
   rw [W2 hn] at he
   rw [←he] at h
   refine ⟨by omega,by omega,by omega,?_⟩
   rw [Int.toNat_natCast,Int.toNat_natCast]
   exact h
  by_cases c1:q < s.size
  ·rw [if_pos c1] at hc
   obtain ⟨rfl,rfl⟩:=hc
   rw [if_pos rfl]
   cases hi:goesS (rn s q) with
   | true=>
    refine ⟨fun _=>?_,fun x=>(by cases x)⟩
    have h1:=O2 s q
    have h2:=a5y c1
    rw [a1J c1 hi] at he
    refine a4l hT hs c1 hb (a3R h2 ?_)
    have hb2:=Pl.step (s:=s) hb
    by_cases c2:q+wd s q < s.size
    ·rw [if_pos c2]
     exact hk _ _ ⟨rfl,q+wd s q,stepP b (rn s q),_,true,rfl,by omega,h2,hb2,by rw [if_pos c2];exact ⟨rfl,rfl⟩,he⟩ (by dsimp only;omega)
    ·rw [if_neg c2]
     exact hk _ _ ⟨rfl,q+wd s q,stepP b (rn s q),_,false,rfl,by omega,h2,hb2,by rw [if_neg c2],he⟩ (by dsimp only;omega)
   | false=>exact ⟨fun x=>(by cases x),fun _=>fin true (fun x=>by rw [hi] at x;cases x.2)⟩
  ·rw [if_neg c1] at hc
   subst hc
   rw [if_neg (by decide)]
   exact ⟨fun x=>(by cases x),fun _=>fin false (fun x=>c1 x.1)⟩
 refine a3R hp ?_
 by_cases c1:p < s.size
 ·rw [if_pos c1];exact start _ _ (by rw [if_pos c1];exact ⟨rfl,rfl⟩)
 ·rw [if_neg c1];exact start _ _ (by rw [if_neg c1])
theorem a6t{p:Nat}{a:Int×Int}{l:List b7}(hp:p≤s.size)(ha:Pl a p){K:ByteArray→d7→List b7→Hp→Prop}(h:K (s.extract p (Wr s blankS p a).1) (rd s (Wr s blankS p a).1 (Wr s blankS p a).2) l H):E2 (rd s p a) l H K:=by
 refine a1q _ _ ?_
 unfold M1
 have hs2:=hs
 simp only [big] at hs2
 have start:∀(c:Int)(ok:Bool),(if p < s.size then c=rn s p∧ok=true else ok=false)→TL ((c,ok,s,(p:Int),plv a,l):Int×Bool×ByteArray×Int×c8×(List b7)) H fun(s:Int×Bool×ByteArray×Int×c8×(List b7)) H n2=>A8 p s.1 s.2.1 s.2.2.1 s.2.2.2.1 s.2.2.2.2.1 s.2.2.2.2.2 H n2 K:=by
  intro c ok h0
  refine U6 (fun(z:Int×Bool×ByteArray×Int×c8×(List b7)) H'=>H'=H∧∃(q:Nat)(b:Int×Int)(c:Int)(ok:Bool),z=(c,ok,s,(q:Int),plv b,l)∧p≤q∧q≤s.size∧Pl b q∧(if q < s.size then c=rn s q∧ok=true else ok=false)∧Wr s blankS q b=Wr s blankS p a) (fun z=>(s.size-z.2.2.2.1).toNat) ⟨rfl,p,a,c,ok,rfl,Nat.le_refl _,hp,ha,h0,rfl⟩ ?_
  rintro z H1 next ⟨rfl,q,b,c,ok,rfl,hpq,hq,hb,hc,he⟩ hk
  unfold A8
  dsimp only
  refine a1F (blankS c) (fun _ K' hk=>c4c hk) ?_
  have fin:∀v:Bool,¬(q < s.size∧blankS (rn s q)=true)→A7 p s q (plv b) l H1 K:=by
   intro _ hn
   unfold A7
   rw [W2 hn] at he
   rw [←he] at h
   refine ⟨by omega,by omega,by omega,?_⟩
   rw [Int.toNat_natCast,Int.toNat_natCast]
   exact h
  by_cases c1:q < s.size
  ·rw [if_pos c1] at hc
   obtain ⟨rfl,rfl⟩:=hc
   rw [if_pos rfl]
   cases hi:blankS (rn s q) with
   | true=>
    refine ⟨fun _=>?_,fun x=>(by cases x)⟩
    have h1:=O2 s q
    have h2:=a5y c1
    rw [a1J c1 hi] at he
    refine a4l hT hs c1 hb (a3R h2 ?_)
    have hb2:=Pl.step (s:=s) hb
    by_cases c2:q+wd s q < s.size
    ·rw [if_pos c2]
     exact hk _ _ ⟨rfl,q+wd s q,stepP b (rn s q),_,true,rfl,by omega,h2,hb2,by rw [if_pos c2];exact ⟨rfl,rfl⟩,he⟩ (by dsimp only;omega)
    ·rw [if_neg c2]
     exact hk _ _ ⟨rfl,q+wd s q,stepP b (rn s q),_,false,rfl,by omega,h2,hb2,by rw [if_neg c2],he⟩ (by dsimp only;omega)
   | false=>exact ⟨fun x=>(by cases x),fun _=>fin true (fun x=>by rw [hi] at x;cases x.2)⟩
  ·rw [if_neg c1] at hc
   subst hc
   rw [if_neg (by decide)]
   exact ⟨fun x=>(by cases x),fun _=>fin false (fun x=>c1 x.1)⟩
 refine a3R hp ?_
 by_cases c1:p < s.size
 ·rw [if_pos c1];exact start _ _ (by rw [if_pos c1];exact ⟨rfl,rfl⟩)
 ·rw [if_neg c1];exact start _ _ (by rw [if_neg c1])
theorem b0O{p:Nat}{a:Int×Int}{l:List b7}(hp:p≤s.size)(ha:Pl a p){K:ByteArray→d7→List b7→Hp→Prop}(h:K (s.extract p (Wr s notNl p a).1) (rd s (Wr s notNl p a).1 (Wr s notNl p a).2) l H):L6 (rd s p a) l H K:=by
 refine a1p _ _ ?_
 unfold M0
 have hs2:=hs
 simp only [big] at hs2
 have start:∀(c:Int)(ok:Bool),(if p < s.size then c=rn s p∧ok=true else ok=false)→TL ((c,ok,s,(p:Int),plv a,l):Int×Bool×ByteArray×Int×c8×(List b7)) H fun(s:Int×Bool×ByteArray×Int×c8×(List b7)) H n2=>A6 p s.1 s.2.1 s.2.2.1 s.2.2.2.1 s.2.2.2.2.1 s.2.2.2.2.2 H n2 K:=by
  intro c ok h0
  refine U6 (fun(z:Int×Bool×ByteArray×Int×c8×(List b7)) H'=>H'=H∧∃(q:Nat)(b:Int×Int)(c:Int)(ok:Bool),z=(c,ok,s,(q:Int),plv b,l)∧p≤q∧q≤s.size∧Pl b q∧(if q < s.size then c=rn s q∧ok=true else ok=false)∧Wr s notNl q b=Wr s notNl p a) (fun z=>(s.size-z.2.2.2.1).toNat) ⟨rfl,p,a,c,ok,rfl,Nat.le_refl _,hp,ha,h0,rfl⟩ ?_
  rintro z H1 next ⟨rfl,q,b,c,ok,rfl,hpq,hq,hb,hc,he⟩ hk
  unfold A6
  dsimp only
  refine a1F (notNl c) (fun _ K' hk=>c4d hk) ?_
  have fin:∀v:Bool,¬(q < s.size∧notNl (rn s q)=true)→A5 p s q (plv b) l H1 K:=by
   intro _ hn
   unfold A5
   rw [W2 hn] at he
   rw [←he] at h
   refine ⟨by omega,by omega,by omega,?_⟩
   rw [Int.toNat_natCast,Int.toNat_natCast]
   exact h
  by_cases c1:q < s.size
  ·rw [if_pos c1] at hc
   obtain ⟨rfl,rfl⟩:=hc
   rw [if_pos rfl]
   cases hi:notNl (rn s q) with
   | true=>
    refine ⟨fun _=>?_,fun x=>(by cases x)⟩
    have h1:=O2 s q
    have h2:=a5y c1
    rw [a1J c1 hi] at he
    refine a4l hT hs c1 hb (a3R h2 ?_)
    have hb2:=Pl.step (s:=s) hb
    by_cases c2:q+wd s q < s.size
    ·rw [if_pos c2]
     exact hk _ _ ⟨rfl,q+wd s q,stepP b (rn s q),_,true,rfl,by omega,h2,hb2,by rw [if_pos c2];exact ⟨rfl,rfl⟩,he⟩ (by dsimp only;omega)
    ·rw [if_neg c2]
     exact hk _ _ ⟨rfl,q+wd s q,stepP b (rn s q),_,false,rfl,by omega,h2,hb2,by rw [if_neg c2],he⟩ (by dsimp only;omega)
   | false=>exact ⟨fun x=>(by cases x),fun _=>fin true (fun x=>by rw [hi] at x;cases x.2)⟩
  ·rw [if_neg c1] at hc
   subst hc
   rw [if_neg (by decide)]
   exact ⟨fun x=>(by cases x),fun _=>fin false (fun x=>c1 x.1)⟩
 refine a3R hp ?_
 by_cases c1:p < s.size
 ·rw [if_pos c1];exact start _ _ (by rw [if_pos c1];exact ⟨rfl,rfl⟩)
 ·rw [if_neg c1];exact start _ _ (by rw [if_neg c1])
theorem b0P{p:Nat}{a:Int×Int}{l:List b7}(hp:p≤s.size)(ha:Pl a p){K:ByteArray→d7→List b7→Hp→Prop}(h:K (s.extract p (Wr s digitR p a).1) (rd s (Wr s digitR p a).1 (Wr s digitR p a).2) l H):L8 (rd s p a) l H K:=by
 refine a1o _ _ ?_
 unfold L9
 have hs2:=hs
 simp only [big] at hs2
 have start:∀(c:Int)(ok:Bool),(if p < s.size then c=rn s p∧ok=true else ok=false)→TL ((c,ok,s,(p:Int),plv a,l):Int×Bool×ByteArray×Int×c8×(List b7)) H fun(s:Int×Bool×ByteArray×Int×c8×(List b7)) H n2=>A0 p s.1 s.2.1 s.2.2.1 s.2.2.2.1 s.2.2.2.2.1 s.2.2.2.2.2 H n2 K:=by
  intro c ok h0
  refine U6 (fun(z:Int×Bool×ByteArray×Int×c8×(List b7)) H'=>H'=H∧∃(q:Nat)(b:Int×Int)(c:Int)(ok:Bool),z=(c,ok,s,(q:Int),plv b,l)∧p≤q∧q≤s.size∧Pl b q∧(if q < s.size then c=rn s q∧ok=true else ok=false)∧Wr s digitR q b=Wr s digitR p a) (fun z=>(s.size-z.2.2.2.1).toNat) ⟨rfl,p,a,c,ok,rfl,Nat.le_refl _,hp,ha,h0,rfl⟩ ?_
  rintro z H1 next ⟨rfl,q,b,c,ok,rfl,hpq,hq,hb,hc,he⟩ hk
  unfold A0
  dsimp only
  refine a1F (digitR c) (fun _ K' hk=>c9a hk) ?_
  have fin:∀v:Bool,¬(q < s.size∧digitR (rn s q)=true)→z8 p s q (plv b) l H1 K:=by
   intro _ hn
   unfold z8
   rw [W2 hn] at he
   rw [←he] at h
   refine ⟨by omega,by omega,by omega,?_⟩
   rw [Int.toNat_natCast,Int.toNat_natCast]
   exact h
  by_cases c1:q < s.size
  ·rw [if_pos c1] at hc
   obtain ⟨rfl,rfl⟩:=hc
   rw [if_pos rfl]
   cases hi:digitR (rn s q) with
   | true=>
    refine ⟨fun _=>?_,fun x=>(by cases x)⟩
    have h1:=O2 s q
    have h2:=a5y c1
    rw [a1J c1 hi] at he
    refine a4l hT hs c1 hb (a3R h2 ?_)
    have hb2:=Pl.step (s:=s) hb
    by_cases c2:q+wd s q < s.size
    ·rw [if_pos c2]
     exact hk _ _ ⟨rfl,q+wd s q,stepP b (rn s q),_,true,rfl,by omega,h2,hb2,by rw [if_pos c2];exact ⟨rfl,rfl⟩,he⟩ (by dsimp only;omega)
    ·rw [if_neg c2]
     exact hk _ _ ⟨rfl,q+wd s q,stepP b (rn s q),_,false,rfl,by omega,h2,hb2,by rw [if_neg c2],he⟩ (by dsimp only;omega)
   | false=>exact ⟨fun x=>(by cases x),fun _=>fin true (fun x=>by rw [hi] at x;cases x.2)⟩
  ·rw [if_neg c1] at hc
   subst hc
   rw [if_neg (by decide)]
   exact ⟨fun x=>(by cases x),fun _=>fin false (fun x=>c1 x.1)⟩
 refine a3R hp ?_
 by_cases c1:p < s.size
 ·rw [if_pos c1];exact start _ _ (by rw [if_pos c1];exact ⟨rfl,rfl⟩)
 ·rw [if_neg c1];exact start _ _ (by rw [if_neg c1])
theorem b6M{p:Nat}{a:Int×Int}{l:List b7}(hp:p≤s.size)(ha:Pl a p){K:d7→List b7→Hp→Prop}(h:∀b,Go2 s p a (sk s p) b→K (rd s (sk s p) b) l H):Z4 (rd s p a) l H K:=by
 refine a8L _ _ ?_
 unfold a4z
 refine a6t hT hs hp ha ?_
 have g1:=a3I (s:=s) blankS _ p a (Nat.le_refl _)
 refine U6 (fun(z:ByteArray×Int×c8×(List b7)) H'=>H'=H∧∃(q:Nat)(b:Int×Int),z=(s,(q:Int),plv b,l)∧q≤s.size∧Go2 s p a q b∧sk s q=sk s p∧¬(q < s.size∧blankS (rn s q)=true)) (fun z=>(s.size-z.2.1).toNat) ⟨rfl,(Wr s blankS p a).1,(Wr s blankS p a).2,rfl,g1.size hp,g1,(b4f _ p a (Nat.le_refl _)).symm,b8v _ _ _ _ (Nat.le_refl _)⟩ ?_
 rintro z H1 next ⟨rfl,q,b,rfl,hq,hg,he,hn⟩ hk
 unfold a0H
 dsimp only
 have hb:=hg.pl ha
 have hz:=tail_size hq
 refine b0N hq (c4e ?_)
 have e1:decide ((⟨#[35]⟩:ByteArray).size≤(s.extract q s.size).size∧(s.extract q s.size).extract 0 (⟨#[35]⟩:ByteArray).size=⟨#[35]⟩)=decide (q < s.size∧by8 s q=35):=by
  refine decide_eq_decide.2 ?_
  rw [show (⟨#[35]⟩:ByteArray).size=1 from rfl,hz]
  by_cases c:q < s.size
  ·have e2:(s.extract q s.size).extract 0 1=⟨#[s.get! q]⟩:=by
    apply ByteArray.ext
    apply Array.toList_inj.1
    rw [ByteArray.data_extract,Array.toList_extract,List.extract_eq_take_drop,ByteArray.data_extract,Array.toList_extract,List.extract_eq_take_drop,List.drop_zero,List.take_take,a6s c,Nat.min_eq_left (by omega)]
    rfl
   rw [e2]
   constructor
   ·rintro ⟨_,x⟩
    injection x with x
    have x:=congrArg Array.toList x
    injection x with x _
    exact ⟨c,by unfold by8;rw [x];rfl⟩
   ·rintro ⟨_,x⟩
    refine ⟨by omega,?_⟩
    have:s.get! q=35:=UInt8.toNat_inj.1 x
    rw [this]
  ·exact ⟨fun x=>by omega,fun x=>absurd x.1 c⟩
 rw [e1]
 by_cases c:q < s.size∧by8 s q=35
 ·rw [decide_eq_true c]
  refine ⟨fun _=>?_,fun x=>(by cases x)⟩
  have hgt:=b5d c.1 c.2
  have g2:=a3I (s:=s) notNl _ q b (Nat.le_refl _)
  have e3:=c1W (s:=s) _ q b (Nat.le_refl _)
  refine b0O hT hs hq hb ?_
  rw [←e3] at g2 ⊢
  have hq2:=g2.size hq
  have g3:=a3I (s:=s) blankS _ (nl s q) (Wr s notNl q b).2 (Nat.le_refl _)
  refine a6t hT hs hq2 (g2.pl hb) ?_
  have hq3:=g3.size hq2
  have hle:=g3.le
  rw [b5Z c.1 c.2,b4f _ (nl s q) (Wr s notNl q b).2 (Nat.le_refl _)] at he
  exact hk _ _ ⟨rfl,_,_,rfl,hq3,(hg.trans g2).trans g3,he,b8v _ _ _ _ (Nat.le_refl _)⟩ (by dsimp only;omega)
 ·rw [decide_eq_false c]
  refine ⟨fun x=>(by cases x),fun _=>?_⟩
  have:sk s q=q:=by
   refine a3Q ?_
   by_cases c2:q < s.size
   ·exact .inr ⟨fun x=>c ⟨c2,x⟩,by
     cases hb2:blankS (rn s q) with
     | true=>exact absurd ⟨c2,hb2⟩ hn
     | false=>rfl⟩
   ·exact .inl c2
  rw [this] at he
  rw [←he] at h
  exact h b hg
end
section
variable {s:ByteArray}
theorem d2k{is:Int→Bool}{p:Nat}(a b:Int×Int):(Wr s is p a).1=(Wr s is p b).1:=by
 have:∀(f q:Nat)(a b:Int×Int),(whl s is f q a).1=(whl s is f q b).1:=by
  intro f
  induction f with
  | zero=>intro q a b;rw [whl,whl]
  | succ f ih=>
   intro q a b
   rw [whl,whl]
   split
   ·exact ih _ _ _
   ·rfl
 exact this _ _ _ _
theorem a3x{p e:Nat}:(s.extract p e).data.toList=(s.data.toList.drop p).take (e-p):=by
 rw [ByteArray.data_extract,Array.toList_extract,List.extract_eq_take_drop]
theorem c5U{p:Nat}(h:classS (rn s p)=4):48≤by8 s p∧by8 s p≤57:=by
 have hd:=b0b.1 (show digitR (rn s p)=true by unfold digitR;rw [decide_eq_true h])
 have ha:=b5c (s:=s) (p:=p) (by omega)
 have hr:=(a6e ha).1
 omega
theorem d4m{p:Nat}(hp:p < s.size)(h:classS (rn s p)=4):p < (dg s p 0).1∧(dg s p 0).1≤s.size:=by
 rw [b3c hp (c5U h)]
 have:=c7A (s:=s) (p:=p+1) (v:=0*10+(by8 s p-48)) (by omega)
 omega
theorem d5Z{p:Nat}(hp:p≤s.size)(x y:UInt8):((⟨#[x,y]⟩:ByteArray).size≤(s.extract p s.size).size∧(s.extract p s.size).extract 0 (⟨#[x,y]⟩:ByteArray).size=⟨#[x,y]⟩)↔(p+1 < s.size∧by8 s p=x.toNat∧by8 s (p+1)=y.toNat):=by
 rw [show (⟨#[x,y]⟩:ByteArray).size=2 from rfl,tail_size hp]
 by_cases c:p+2≤s.size
 ·have e:(s.extract p s.size).extract 0 2=s.extract p (p+2):=by
   apply ByteArray.ext
   apply Array.toList_inj.1
   rw [a3x,a3x,a3x,List.drop_zero,List.take_take,Nat.min_eq_left (by omega),show p+2-p=2 by omega]
  rw [e,b8z c]
  exact ⟨fun q=>⟨by omega,q.2⟩,fun q=>⟨by omega,q.2⟩⟩
 ·exact ⟨fun q=>by omega,fun q=>by omega⟩
abbrev sg2:List ByteArray:=[⟨#[61,61]⟩,⟨#[33,61]⟩,⟨#[60,61]⟩,⟨#[62,61]⟩,⟨#[38,38]⟩,⟨#[124,124]⟩]
def c5V:List (UInt8×UInt8):=[(61,61),(33,61),(60,61),(62,61),(38,38),(124,124)]
theorem d2l{i:Nat}(hi:i < 6):∃x y:UInt8,sg2.getD i ⟨#[]⟩=⟨#[x,y]⟩∧c5V[i]? = some (x,y):=by
 obtain rfl | rfl | rfl | rfl | rfl | rfl:=(by omega:i=0∨i=1∨i=2∨i=3∨i=4∨i=5)<;>exact ⟨_,_,rfl,rfl⟩
theorem c0T{p:Nat}:two s p↔∃(i:Nat)(x y:UInt8),c5V[i]? = some (x,y)∧p+1 < s.size∧by8 s p=x.toNat∧by8 s (p+1)=y.toNat:=by
 constructor
 ·rintro ⟨h0,h | h | h | h | h | h⟩
  ·exact ⟨0,_,_,rfl,h0,h⟩
  ·exact ⟨1,_,_,rfl,h0,h⟩
  ·exact ⟨2,_,_,rfl,h0,h⟩
  ·exact ⟨3,_,_,rfl,h0,h⟩
  ·exact ⟨4,_,_,rfl,h0,h⟩
  ·exact ⟨5,_,_,rfl,h0,h⟩
 ·rintro ⟨i,x,y,hi,h0,h1,h2⟩
  have hl:i < 6:=(List.getElem?_eq_some_iff.1 hi).1
  refine ⟨h0,?_⟩
  obtain rfl | rfl | rfl | rfl | rfl | rfl:=(by omega:i=0∨i=1∨i=2∨i=3∨i=4∨i=5)<;>cases hi
  ·exact .inl ⟨h1,h2⟩
  ·exact .inr (.inl ⟨h1,h2⟩)
  ·exact .inr (.inr (.inl ⟨h1,h2⟩))
  ·exact .inr (.inr (.inr (.inl ⟨h1,h2⟩)))
  ·exact .inr (.inr (.inr (.inr (.inl ⟨h1,h2⟩))))
  ·exact .inr (.inr (.inr (.inr (.inr ⟨h1,h2⟩))))
theorem d6a{p:Nat}(hp:p < s.size):(s.extract p s.size).extract 0 1=s.extract p (p+1)∧s.extract p (p+1)=⟨#[s.get! p]⟩:=by
 have e2:s.extract p (p+1)=⟨#[s.get! p]⟩:=by
  apply ByteArray.ext
  apply Array.toList_inj.1
  rw [a3x,a6s hp,show p+1-p=1 by omega]
  rfl
 refine ⟨?_,e2⟩
 apply ByteArray.ext
 apply Array.toList_inj.1
 rw [a3x,a3x,a3x,List.drop_zero,List.take_take,Nat.min_eq_left (by omega),show p+1-p=1 by omega]
end
def RdK(s:ByteArray)(p:Nat)(a:Int×Int)(l:List b7)(o:On)(K:b7→Int→d7→List b7→Hp→Prop)(H:Hp):Prop:=
 (o.err=0→∀b,Go2 s p a o.stop b→K (tokO o) 0 (rd s o.stop b) l H)∧∀t r,o.err≠0→K t o.err r l H
section
variable {H:Hp}
theorem d2m(hE:ErrH H){t:ByteArray}(ht:t.size≤big)(hn:t.data.toList≠[])(hd:∀c∈t.data.toList,isDig c){K:Int→Value→Hp→Prop}(h1:dval 0 t.data.toList < 9223372036854775808→K (dval 0 t.data.toList:Int) .nilIface H)
  (h2:¬dval 0 t.data.toList < 9223372036854775808→∀n v,(∃tp x,v=.iface tp x)→K n v H):a8a t 10 64 H K:=by
 intro w I
 have hi:=c1X hn hd
 simp only [big] at ht
 by_cases c:dval 0 t.data.toList < 9223372036854775808
 ·rw [if_pos c] at hi
  refine Calls.mono (Any.strconv_ParseInt_10_at64_ok Tryz.b8q t (by omega) _ hi w) fun e w' hb=>?_
  obtain ⟨rfl,hw⟩:=hb
  have hb:Below w.heap.size w w':=by
   rcases hw with rfl | ⟨t,rfl⟩
   ·exact Below.refl _ _
   ·exact Lib.bytesWorld_below _ _ _
  exact ⟨H,[],I.of_below hb,_,_,rfl,rfl,h1 c⟩
 ·rw [if_neg c] at hi
  obtain ⟨tp,x,hv⟩:=hE
  refine Calls.mono (Any.strconv_ParseInt_10_at64_range Tryz.b8q t (by omega) hi (.iface tp x) w (hv w I.sub) (.inr ⟨tp,x,rfl⟩)) fun e w' hb=>?_
  obtain ⟨N,rfl,_,_,hb⟩:=hb
  exact ⟨H,[],I.of_below hb,_,_,rfl,rfl,h2 c _ _ ⟨_,_,rfl⟩⟩
end
section
variable {H:Hp}{s:ByteArray}(hT:TabsH H)(hs:s.size≤big)
include hT hs
theorem d4n{p:Nat}{a:Int×Int}{l:List b7}(hp:p≤s.size)(ha:Pl a p){K:b7→Int→d7→List b7→Hp→Prop}(h:RdK s p a l (wordO s p) K H):a4M (rd s p a) l H K:=by
 refine a9E _ _ ?_
 unfold a4Z
 have g:=a3I (s:=s) goesS _ p a (Nat.le_refl _)
 have hz:=g.size hp
 have hc:=b3J (s:=s) (is:=goesS) (a:=a) hp
 obtain ⟨h1,h2⟩:=h
 unfold wordO at h1 h2
 rw [d2k (0,0) a] at h1 h2
 refine b8A hT hs hp ha (c0L ⟨fun x=>?_,fun x=>c0K (by have:=hs;simp only [big] at this ⊢;rw [a4k g.le hz];omega) ⟨fun y=>?_,fun y=>?_⟩⟩)
 ·rw [if_pos x] at h1
  exact h1 rfl _ g
 ·rw [if_neg (by rw [x];decide),if_pos (by have:=of_decide_eq_true y;omega)] at h2
  exact h2 _ _ (by decide)
 ·rw [if_neg (by rw [x];decide),if_neg (by have:=of_decide_eq_false y;omega)] at h1
  exact h1 rfl _ g
theorem c9b(hE:ErrH H){p:Nat}{a:Int×Int}{l:List b7}(hp:p < s.size)(hc:classS (rn s p)=4)(ha:Pl a p){K:b7→Int→d7→List b7→Hp→Prop}(h:RdK s p a l (numO s p) K H):a4p (rd s p a) l H K:=by
 refine a8x _ _ ?_
 unfold a4t
 obtain ⟨d1,d2,d3,d4,d5⟩:=b3d (s:=s) _ p 0 a (Nat.le_refl _)
 obtain ⟨e1,e2⟩:=d4m hp hc
 have g:=a3I (s:=s) digitR _ p a (Nat.le_refl _)
 refine b0P hT hs (Nat.le_of_lt hp) ha ?_
 rw [d5] at g ⊢
 have hb:=g.pl ha
 generalize (Wr s digitR p a).2=b at g hb ⊢
 have hsz:(s.extract p (dg s p 0).1).size=(dg s p 0).1-p:=a4k d1 e2
 have hget:(s.extract p (dg s p 0).1).get! 0=s.get! p:=by have:=b0M (s:=s) (p:=p) (e:=(dg s p 0).1) (i:=0) e2 (by omega);rw [Nat.add_zero] at this;exact this
 have hs2:=hs
 simp only [big] at hs2
 have fin:∀(n:Int)(v:Value)(c:Int)(ok:Bool),okI v→isNilI v=decide ((dg s p 0).2 < 9223372036854775808)→((dg s p 0).2 < 9223372036854775808→n=((dg s p 0).2:Int))→(if (dg s p 0).1 < s.size then c=rn s (dg s p 0).1∧ok=true else ok=false)→
   okI v∧((!(!isNilI v)&&(decide (1 < ((s.extract p (dg s p 0).1).size:Int))))=true→(0:Int)≤0∧0 < ((s.extract p (dg s p 0).1).size:Int))∧
   TG ((!((!isNilI v)||((decide (1 < ((s.extract p (dg s p 0).1).size:Int)))&&(decide ((((s.extract p (dg s p 0).1).get! (0:Int).toNat).toNat:Int)=48))))&&ok)=true) (R8 c H) 0 H (fun(g:Int)(i:Hp)=>
   ((((!isNilI v)||((decide (1 < ((s.extract p (dg s p 0).1).size:Int)))&&(decide ((((s.extract p (dg s p 0).1).get! (0:Int).toNat).toNat:Int)=48))))||(ok&&(decide (g=3))))=true→
    K (b7.mk 2 (s.extract p (dg s p 0).1) 0 (c8.mk 0 0)) 21 (rd s (dg s p 0).1 b) l i)∧
   ((((!isNilI v)||((decide (1 < ((s.extract p (dg s p 0).1).size:Int)))&&(decide ((((s.extract p (dg s p 0).1).get! (0:Int).toNat).toNat:Int)=48))))||(ok&&(decide (g=3))))=false→
    K (b7.mk 2 (s.extract p (dg s p 0).1) n (c8.mk 0 0)) 0 (rd s (dg s p 0).1 b) l i)):=by
  intro n v c ok hv hnil hn hck
  refine ⟨hv,fun _=>⟨Int.le_refl _,by omega⟩,a1F (classS c) (fun _ K' hk=>a7H hk) ?_⟩
  rw [show (0:Int).toNat=0 from rfl,hget,hnil,hsz]
  obtain ⟨h1,h2⟩:=h
  unfold numO at h1 h2
  have bad:(9223372036854775808≤(dg s p 0).2∨(by8 s p=48∧1 < (dg s p 0).1-p)∨((dg s p 0).1 < s.size∧classS (rn s (dg s p 0).1)=3))→K (b7.mk 2 (s.extract p (dg s p 0).1) 0 (c8.mk 0 0)) 21 (rd s (dg s p 0).1 b) l H:=fun q=>by
   rw [if_pos q] at h2
   exact h2 _ _ (by decide)
  have good:¬(9223372036854775808≤(dg s p 0).2∨(by8 s p=48∧1 < (dg s p 0).1-p)∨((dg s p 0).1 < s.size∧classS (rn s (dg s p 0).1)=3))→K (b7.mk 2 (s.extract p (dg s p 0).1) n (c8.mk 0 0)) 0 (rd s (dg s p 0).1 b) l H:=fun q=>by
   rw [if_neg q] at h1
   rw [hn (by omega)]
   exact h1 rfl b g
  have hA:((!decide ((dg s p 0).2 < 9223372036854775808))||(decide (1 < (((dg s p 0).1-p:Nat):Int))&&decide (((s.get! p).toNat:Int)=48)))=decide (9223372036854775808≤(dg s p 0).2∨(by8 s p=48∧1 < (dg s p 0).1-p)):=by
   rw [Bool.eq_iff_iff]
   simp only [Bool.or_eq_true,Bool.and_eq_true,Bool.not_eq_true',decide_eq_true_eq,decide_eq_false_iff_not]
   unfold by8
   omega
  rw [hA]
  by_cases q:9223372036854775808≤(dg s p 0).2∨(by8 s p=48∧1 < (dg s p 0).1-p)
  ·rw [decide_eq_true q]
   refine ⟨fun _=>bad ?_,fun x=>(by cases x)⟩
   rcases q with q | q
   ·exact .inl q
   ·exact .inr (.inl q)
  ·rw [decide_eq_false q]
   by_cases c2:(dg s p 0).1 < s.size
   ·rw [if_pos c2] at hck
    obtain ⟨rfl,rfl⟩:=hck
    rw [if_pos (show (!false&&true)=true from rfl)]
    refine ⟨fun x=>bad (.inr (.inr ⟨c2,by simpa using x⟩)),fun x=>good ?_⟩
    rintro (y | y | y)
    ·exact q (.inl y)
    ·exact q (.inr y)
    ·have:¬classS (rn s (dg s p 0).1)=3:=by simpa using x
     exact this y.2
   ·rw [if_neg c2] at hck
    subst hck
    refine ⟨fun x=>(by cases x),fun _=>good ?_⟩
    rintro (y | y | y)
    ·exact q (.inl y)
    ·exact q (.inr y)
    ·exact c2 y.1
 have ht:(s.extract p (dg s p 0).1).data.toList=(s.data.toList.drop p).take ((dg s p 0).1-p):=a3x
 have hv:dval 0 (s.extract p (dg s p 0).1).data.toList=(dg s p 0).2:=by rw [ht];exact d3.symm
 refine d2m hE (by rw [hsz];simp only [big];omega) ?_ (by rw [ht];exact d4) (fun c=>a3R e2 ?_) (fun c n v hv2=>a3R e2 ?_)
 ·intro x
  have:=congrArg List.length x
  rw [Array.length_toList] at this
  have h3:(s.extract p (dg s p 0).1).data.size=(s.extract p (dg s p 0).1).size:=rfl
  rw [h3,hsz] at this
  simp only [List.length_nil] at this
  omega
 ·rw [hv] at c
  by_cases c2:(dg s p 0).1 < s.size
  ·rw [if_pos c2]
   exact fin _ .nilIface _ _ (.inl rfl) (by rw [decide_eq_true c];rfl) (fun _=>by rw [hv]) (by rw [if_pos c2];exact ⟨rfl,rfl⟩)
  ·rw [if_neg c2]
   exact fin _ .nilIface _ _ (.inl rfl) (by rw [decide_eq_true c];rfl) (fun _=>by rw [hv]) (by rw [if_neg c2])
 ·rw [hv] at c
  obtain ⟨tp,x,rfl⟩:=hv2
  by_cases c2:(dg s p 0).1 < s.size
  ·rw [if_pos c2]
   exact fin _ (.iface tp x) _ _ (.inr ⟨_,_,rfl⟩) (by rw [decide_eq_false c];rfl) (fun y=>absurd y c) (by rw [if_pos c2];exact ⟨rfl,rfl⟩)
  ·rw [if_neg c2]
   exact fin _ (.iface tp x) _ _ (.inr ⟨_,_,rfl⟩) (by rw [decide_eq_false c];rfl) (fun y=>absurd y c) (by rw [if_neg c2])
theorem d4o{p:Nat}{a:Int×Int}{l:List b7}(hp:p < s.size)(hc:classS (rn s p)=5)(ha:Pl a p){K:b7→Int→d7→List b7→Hp→Prop}(h:RdK s p a l (signO s p) K H):a4N (rd s p a) l H K:=by
 refine a9F _ _ ?_
 unfold a5a
 have hasc:=b6L hc
 have hw:=(a6e hasc).2
 obtain ⟨h1,h2⟩:=h
 unfold signO at h1 h2
 have g1:=Go2.one (s:=s) (a:=a) hp
 rw [hw] at g1
 refine U6 (fun(z:Int×b7×ByteArray×Int×c8×(List b7)) H'=>H'=H∧∃(i:Nat)(t:b7),z=((i:Int),t,s,(p:Int),plv a,l)∧i≤6∧∀(j:Nat)(x y:UInt8),j < i→c5V[j]? = some (x,y)→¬(p+1 < s.size∧by8 s p=x.toNat∧by8 s (p+1)=y.toNat)) (fun z=>(6-z.1).toNat) ⟨rfl,0,_,rfl,by omega,fun j x y hj=>by omega⟩ ?_
 rintro z H1 next ⟨rfl,i,t,rfl,hi,hne⟩ hk
 unfold a1E
 dsimp only
 refine ⟨fun c=>⟨by omega,c,b0N (Nat.le_of_lt hp) (c4e ?_)⟩,fun c=>?_⟩
 ·obtain ⟨x,y,e1,e2⟩:=d2l (i:=i) (by omega)
  rw [Int.toNat_natCast]
  rw [show (([⟨#[61,61]⟩,⟨#[33,61]⟩,⟨#[60,61]⟩,⟨#[62,61]⟩,⟨#[38,38]⟩,⟨#[124,124]⟩]:List ByteArray).getD i ⟨#[]⟩)=⟨#[x,y]⟩ from e1,decide_eq_decide.2 (d5Z (Nat.le_of_lt hp) x y)]
  by_cases q:p+1 < s.size∧by8 s p=x.toNat∧by8 s (p+1)=y.toNat
  ·rw [decide_eq_true q]
   refine ⟨fun _=>?_,fun x=>(by cases x)⟩
   have ht:two s p:=c0T.2 ⟨i,x,y,e2,q⟩
   rw [if_pos ht] at h1
   have hasc2:by8 s (p+1) < 128:=by unfold two at ht;omega
   have hw2:=(a6e hasc2).2
   have g2:=Go2.one (s:=s) (a:=stepP a (rn s p)) q.1
   rw [hw2] at g2
   refine a4l hT hs hp ha ?_
   rw [hw]
   refine a4l hT hs q.1 (g1.pl ha) ?_
   rw [hw2]
   have:=h1 rfl _ (g1.trans g2)
   rw [show s.extract p (p+2)=⟨#[x,y]⟩ from (b8z (by omega) x y).2 q.2] at this
   exact this
  ·rw [decide_eq_false q]
   refine ⟨fun x=>(by cases x),fun _=>?_⟩
   rw [X9 ⟨by omega,by omega⟩]
   refine hk _ _ ⟨rfl,i+1,t,rfl,by omega,fun j x' y' hj he=>?_⟩ (by dsimp only;omega)
   by_cases hji:j=i
   ·subst hji
    rw [e2] at he
    cases he
    exact q
   ·exact hne j x' y' (by omega) he
 ·have hn2:¬two s p:=fun q=>by
   obtain ⟨j,x,y,e,q⟩:=c0T.1 q
   have hl:j < 6:=(List.getElem?_eq_some_iff.1 e).1
   exact hne j x y (by omega) e q
  rw [if_neg hn2] at h1 h2
  unfold a1D
  refine b0N (s:=s) (p:=p) (a:=a) (Nat.le_of_lt hp) ⟨by decide,by rw [tail_size (Nat.le_of_lt hp)];omega,a4l hT hs hp ha ?_⟩
  rw [hw]
  obtain ⟨c1,c2⟩:=d6a hp
  have one:∀x:UInt8,decide ((s.extract p s.size).extract 0 (1:Int).toNat=⟨#[x]⟩)=decide (by8 s p=x.toNat):=fun x=>by
   refine decide_eq_decide.2 ?_
   rw [show (1:Int).toNat=1 from rfl,c1,c2]
   unfold by8
   constructor
   ·intro e
    injection e with e
    have e:=congrArg Array.toList e
    injection e with e _
    rw [e]
   ·intro e;rw [UInt8.toNat_inj.1 e]
  rw [one,one,← Bool.decide_or,show (38:UInt8).toNat=38 from rfl,show (124:UInt8).toNat=124 from rfl]
  by_cases q:by8 s p=38∨by8 s p=124
  ·rw [decide_eq_true q]
   rw [if_pos q] at h2
   exact ⟨fun _=>h2 _ _ (by decide),fun x=>(by cases x)⟩
  ·rw [decide_eq_false q]
   rw [if_neg q] at h1
   refine ⟨fun x=>(by cases x),fun _=>?_⟩
   rw [show (1:Int).toNat=1 from rfl,c1]
   exact h1 rfl _ g1
end
section
variable {H:Hp}{s:ByteArray}(hT:TabsH H)
include hT
theorem d2n{K:Int→Int→Hp→Prop}(h:if 65536 < s.size then K 0 10 H else match chkAt s 0 with | some n=>K (n:Int) 11 H | none=>K 0 0 H):a7j s H K:=by
 refine b1V _ ?_
 unfold a7p
 refine ⟨fun c=>?_,fun c=>?_⟩
 ·rw [if_pos (by omega)] at h;exact h
 rw [if_neg (by omega)] at h
 refine U6 (fun(p:Nat) H'=>H'=H∧chkAt s p=chkAt s 0) (fun p=>s.size-p) ⟨rfl,rfl⟩ ?_
 rintro p H1 next ⟨rfl,he⟩ hk
 unfold a5V
 refine ⟨fun c=>?_,fun c=>?_⟩
 ·rw [a3p s p c] at he
  have h1:=O2 s p
  have h2:=a5y c
  refine ⟨fun e=>?_,fun e=>⟨by omega,by omega,?_⟩⟩
  ·rw [if_neg (fun x=>e (by rw [x.1];rfl))] at he
   exact hk _ _ ⟨rfl,he⟩ (by show s.size-(p+wd s p) < _;omega)
  ·rw [Int.toNat_natCast]
   refine c4b hT c ⟨fun x=>?_,fun x=>?_⟩
   ·rw [if_pos (show bad s p by unfold bad;unfold wd at x;constructor<;>omega)] at he
    rw [←he] at h
    exact h
   ·rw [if_neg (fun y=>x (by have:=y.2;unfold wd;omega))] at he
    exact hk _ _ ⟨rfl,he⟩ (by show s.size-(p+wd s p) < _;omega)
 ·rw [a0x s p (by omega)] at he
  rw [←he] at h
  exact h
end
end Go.Proofs.YtoflkliecagjcaaGreatDoor
