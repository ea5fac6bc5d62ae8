/- Tokens: the document's reader answers what the plain one does. Off the printed formulas. -/
import Derived.Test.YthklmeihgmcljaaGreatDoorzQL1
namespace Go.Proofs.YthklmeihgmcljaaGreatDoor
open Go.RowKit
set_option maxRecDepth 100000
set_option maxHeartbeats 1000000
abbrev plv (b:Int×Int):b7:=b7.mk b.1 b.2
def Pl (a:Int×Int) (p:Nat):Prop:=1≤a.1∧a.1≤p+1∧1≤a.2∧a.2≤p+1
section
variable {s:ByteArray}
theorem Pl.step {a:Int×Int} {p:Nat} (h:Pl a p):Pl (stepP a (rn s p)) (p+wd s p):=by
 have:=O3 s p
 unfold Pl at h ⊢
 unfold stepP
 split<;>(dsimp only;omega)
theorem Go2.pl {p q:Nat} {a b:Int×Int} (h:Go2 s p a q b):Pl a p→Pl b q:=by
 induction h with
 | refl=>exact id
 | step _ _ ih=>exact fun k=>ih k.step
theorem Pl0:Pl (1,1) 0:=⟨by decide,by decide,by decide,by decide⟩
theorem c6R {n:Nat}:∀{p:Nat} (a:Int×Int),s.size-p≤n→∃b,Go2 s p a (sk s p) b:=by
 induction n with
 | zero=>intro p a h;rw [a5U (.inl (by omega))];exact ⟨a,.refl⟩
 | succ n ih=>
  intro p a h
  by_cases hp:p < s.size
  ·by_cases c:by8 s p=35
   ·have h1:=b4N hp c
    have h2:=a6Y (s:=s) notNl _ p a (Nat.le_refl _)
    rw [←c2N _ p a (Nat.le_refl _)] at h2
    obtain ⟨b,hb⟩:=ih (p:=nl s p) (Wr s notNl p a).2 (by omega)
    rw [b4P hp c]
    exact ⟨b,h2.trans hb⟩
   ·by_cases d:blankS (rn s p)=true
    ·have:=O3 s p
     obtain ⟨b,hb⟩:=ih (p:=p+wd s p) (stepP a (rn s p)) (by omega)
     rw [b3d hp c d]
     exact ⟨b,.step hp hb⟩
    ·rw [a5U (.inr ⟨c,by simpa using d⟩)];exact ⟨a,.refl⟩
  ·rw [a5U (.inl hp)];exact ⟨a,.refl⟩
theorem b6d {p:Nat} (hp:p≤s.size):p≤sk s p∧sk s p≤s.size:=by
 obtain ⟨b,h⟩:=c6R (s:=s) (p:=p) (0,0) (Nat.le_refl _)
 exact ⟨h.le,h.size hp⟩
theorem d2x {n:Nat}:∀{p:Nat},s.size-p≤n→sk s p < s.size→by8 s (sk s p)≠35∧blankS (rn s (sk s p))=false:=by
 induction n with
 | zero=>intro p h k;rw [a5U (.inl (by omega))] at k;omega
 | succ n ih=>
  intro p h
  by_cases hp:p < s.size
  ·by_cases c:by8 s p=35
   ·have h1:=b4N hp c
    rw [b4P hp c]
    exact ih (by omega)
   ·by_cases d:blankS (rn s p)=true
    ·have:=O3 s p
     rw [b3d hp c d]
     exact ih (by omega)
    ·intro _
     rw [a5U (.inr ⟨c,by simpa using d⟩)]
     exact ⟨c,by simpa using d⟩
  ·intro k;rw [a5U (.inl hp)] at k;omega
theorem c4q {p:Nat} (a:Int×Int) (hp:p < s.size) (h:by8 s p < 128):∃b,Go2 s p a (p+1) b:=by
 have:=Go2.one (s:=s) (a:=a) hp
 rw [(a9T h).2] at this
 exact ⟨_,this⟩
theorem b7Q {p:Nat} (h:classS (rn s p)=5):by8 s p < 128:=by
 refine b6b ?_
 unfold classS at h
 split at h
 ·cases h
 ·split at h
  ·cases h
  ·split at h
   ·rename_i q;unfold signR at q;omega
   ·split at h
    ·cases h
    ·split at h
     ·cases h
     ·split at h<;>cases h
theorem c4r {p:Nat} (a:Int×Int) (hp:p < s.size) (h:(oneO s p).err=0):∃b,Go2 s p a (oneO s p).stop b:=by
 unfold oneO at h ⊢
 split at h
 ·rename_i c
  rw [if_pos c]
  have g:=a6Y (s:=s) goesS _ p (0,0) (Nat.le_refl _)
  obtain ⟨b,hb⟩:∃b,Go2 s p a (Wr s goesS p (0,0)).1 b:=by
   have:=a6Y (s:=s) goesS _ p a (Nat.le_refl _)
   have e:(Wr s goesS p a).1=(Wr s goesS p (0,0)).1:=by
    have:∀(f q:Nat) (a b:Int×Int),(whl s goesS f q a).1=(whl s goesS f q b).1:=by
     intro f
     induction f with
     | zero=>intro q a b;rw [whl,whl]
     | succ f ih=>
      intro q a b
      rw [whl,whl]
      split
      ·exact ih _ _ _
      ·rfl
    exact this _ _ _ _
   rw [e] at this
   exact ⟨_,this⟩
  unfold wordO at h ⊢
  split at h
  ·rename_i d;rw [if_pos d];exact ⟨b,hb⟩
  ·rename_i d
   rw [if_neg d]
   split at h
   ·cases h
   ·rename_i e;rw [if_neg e];exact ⟨b,hb⟩
 ·rename_i c
  rw [if_neg c]
  split at h
  ·rename_i c2
   rw [if_pos c2]
   unfold numO at h ⊢
   split at h
   ·cases h
   ·rename_i d
    rw [if_neg d]
    have g:=a6Y (s:=s) digitR _ p a (Nat.le_refl _)
    rw [(b2z _ p 0 a (Nat.le_refl _)).2.2.2.2] at g
    exact ⟨_,g⟩
  ·rename_i c2
   rw [if_neg c2]
   split at h
   ·rename_i c3
    rw [if_pos c3]
    have ha:=b7Q c3
    obtain ⟨b,hb⟩:=c4q a hp ha
    unfold signO at h ⊢
    split at h
    ·rename_i d
     rw [if_pos d]
     unfold two at d
     obtain ⟨b2,hb2⟩:=c4q (s:=s) (p:=p+1) b d.1 (by omega)
     exact ⟨b2,hb.trans hb2⟩
    ·rename_i d
     rw [if_neg d]
     split at h
     ·cases h
     ·rename_i e;rw [if_neg e];exact ⟨b,hb⟩
   ·cases h
theorem c4s {n:Nat}:∀{p q:Nat} (a:Int×Int),s.size-p≤n→chkAt s p=some q→q < s.size∧∃b,Go2 s p a q b:=by
 induction n with
 | zero=>intro p q a h k;rw [b1T s p (by omega)] at k;cases k
 | succ n ih=>
  intro p q a h k
  by_cases hp:p < s.size
  ·rw [b3b s p hp] at k
   split at k
   ·cases k;exact ⟨hp,a,.refl⟩
   ·have:=O3 s p
    obtain ⟨h1,b,h2⟩:=ih (stepP a (rn s p)) (by show s.size-(p+wd s p)≤n;omega) k
    exact ⟨h1,b,.step hp h2⟩
  ·rw [b1T s p (by omega)] at k;cases k
end
section
variable {H:Hp} {s:ByteArray} (hs:s.size≤big)
include hs
theorem c0Z {K:Int→Int→Hp→Prop} (h:if 65536 < s.size then K 0 10 H else match chkAt s 0 with | some n=>K (n:Int) 11 H | none=>K 0 0 H):a3V s H K:=by
 refine b0N _ ?_
 unfold a4a
 have hs2:=hs
 simp only [big] at hs2
 refine ⟨fun c=>?_,fun c=>?_⟩
 ·rw [if_pos (by omega)] at h;exact h
 rw [if_neg (by omega)] at h
 refine L0 (fun (z:Int) H'=>H'=H∧∃p:Nat,z=p∧p≤s.size∧chkAt s p=chkAt s 0) (fun z=>(s.size-z).toNat) ⟨rfl,0,rfl,by omega,rfl⟩ ?_
 rintro z H1 next ⟨rfl,p,rfl,hp,he⟩ hk
 unfold a0T
 refine ⟨fun c=>b4S hs (by omega) ?_,fun c=>?_⟩
 ·have hp2:p < s.size:=by omega
  rw [b3b s p hp2] at he
  have h1:=O3 s p
  have h2:=a6v hp2
  by_cases hb:bad s p
  ·rw [if_pos hb] at he
   rw [←he] at h
   rw [decide_eq_true hb]
   exact ⟨fun _=>h,fun q=>(by cases q)⟩
  ·rw [if_neg hb] at he
   rw [decide_eq_false hb]
   refine ⟨fun q=>(by cases q),fun _=>?_⟩
   rw [a7M _ _ (by omega)]
   exact hk _ _ ⟨rfl,p+wd s p,rfl,h2,he⟩ (by omega)
 ·rw [b1T s p (by omega)] at he
  rw [←he] at h
  exact h
theorem c5C {n:Nat} (hn:n≤s.size) {b:Int×Int} (hg:Go2 s 0 (1,1) n b) {K:b7→Hp→Prop} (h:K (plv b) H):a5H s n H K:=by
 refine b2g _ _ ?_
 unfold a5M
 have hs2:=hs
 simp only [big] at hs2
 refine L0 (fun (z:Int×b7×b7) H'=>H'=H∧∃(p:Nat) (c:Int×Int) (d:b7),z=((p:Int),plv c,d)∧Pl c p∧Go2 s p c n b) (fun z=>(n-z.1).toNat) ⟨rfl,0,(1,1),_,rfl,Pl0,hg⟩ ?_
 rintro z H1 next ⟨rfl,p,c,d,rfl,hpl,hgo⟩ hk
 unfold a1J
 dsimp only
 have hle:=hgo.le
 refine ⟨fun q=>?_,fun q=>?_⟩
 ·simp only [Bool.and_eq_true,decide_eq_true_eq] at q
  have hp:p < s.size:=by omega
  have h1:=O3 s p
  have h2:=a6v hp
  cases hgo with
  | refl=>omega
  | step _ hg2=>
   have hl2:=hg2.le
   have hp2:Pl (stepP c (rn s p)) (p+wd s p):=hpl.step
   unfold Pl at hpl
   refine b4S hs hp ⟨fun e=>?_,fun e=>?_⟩
   ·unfold U3
    rw [a7M _ _ (by omega),y4 ⟨by omega,by omega⟩]
    refine hk _ _ ⟨rfl,p+wd s p,stepP c (rn s p),d,?_,hp2,hg2⟩ (by dsimp only;omega)
    unfold stepP;rw [if_pos e]
   ·unfold U3
    rw [a7M _ _ (by omega),y4 (a:=c.2+1) ⟨by omega,by omega⟩]
    refine hk _ _ ⟨rfl,p+wd s p,stepP c (rn s p),d,?_,hp2,hg2⟩ (by dsimp only;omega)
    unfold stepP;rw [if_neg e]
 ·unfold a1I
  simp only [Bool.and_eq_false_iff,decide_eq_false_iff_not] at q
  have:p=n:=by omega
  subst this
  cases hgo with
  | refl=>exact h
  | step _ hg2=>have:=hg2.le;have:=O3 s p;omega
theorem c0h {p n:Nat} (hn:n≤s.size) {a b:Int×Int} (ha:Pl a p) (hg:Go2 s p a n b) {K:b7→Hp→Prop} (h:K (plv b) H):a1E s (plv a) p n H K:=by
 refine b0I _ _ _ _ ?_
 unfold a3X
 have hs2:=hs
 simp only [big] at hs2
 refine L0 (fun (z:Int×b7×b7) H'=>H'=H∧∃(p:Nat) (c:Int×Int) (d:b7),z=((p:Int),d,plv c)∧Pl c p∧Go2 s p c n b) (fun z=>(n-z.1).toNat) ⟨rfl,p,a,_,rfl,ha,hg⟩ ?_
 rintro z H1 next ⟨rfl,p,c,d,rfl,hpl,hgo⟩ hk
 unfold a0R
 dsimp only
 have hle:=hgo.le
 refine ⟨fun q=>?_,fun q=>?_⟩
 ·have hp:p < s.size:=by omega
  have h1:=O3 s p
  have h2:=a6v hp
  cases hgo with
  | refl=>omega
  | step _ hg2=>
   have hl2:=hg2.le
   have hp2:Pl (stepP c (rn s p)) (p+wd s p):=hpl.step
   unfold Pl at hpl
   refine b4S hs hp ⟨fun e=>?_,fun e=>?_⟩
   ·unfold Q0
    rw [a7M _ _ (by omega),y4 ⟨by omega,by omega⟩]
    refine hk _ _ ⟨rfl,p+wd s p,stepP c (rn s p),d,?_,hp2,hg2⟩ (by dsimp only;omega)
    unfold stepP;rw [if_pos e]
   ·unfold Q0
    rw [a7M _ _ (by omega),y4 (a:=c.2+1) ⟨by omega,by omega⟩]
    refine hk _ _ ⟨rfl,p+wd s p,stepP c (rn s p),d,?_,hp2,hg2⟩ (by dsimp only;omega)
    unfold stepP;rw [if_neg e]
 ·unfold a0Q
  have:p=n:=by omega
  subst this
  cases hgo with
  | refl=>exact h
  | step _ hg2=>have:=hg2.le;have:=O3 s p;omega
theorem b4T {p:Nat} {K:Int→Int→Hp→Prop} (h:if p < s.size then K (classS (rn s p)) (wd s p:Int) H else K 0 0 H):T9 s p H K:=by
 refine b0M _ _ ?_
 unfold a3Z
 refine ⟨fun c=>?_,fun c=>?_⟩
 ·rw [if_neg (by omega)] at h;exact h
 ·rw [if_pos (by omega)] at h
  exact b4S hs (by omega) (d2w h)
theorem c8K {p:Nat} (hp:p≤s.size) {K:Int→Hp→Prop} (h:K (sk s p:Int) H):a4j s p H K:=by
 refine b1k _ _ ?_
 unfold a4u
 have hs2:=hs
 simp only [big] at hs2
 refine L0 (fun (z:Int) H'=>H'=H∧∃q:Nat,z=q∧q≤s.size∧sk s q=sk s p) (fun z=>(s.size-z).toNat) ⟨rfl,p,rfl,hp,rfl⟩ ?_
 rintro z H1 next ⟨rfl,q,rfl,hq,he⟩ hk
 unfold a1e
 refine ⟨fun c=>b4T hs ?_,fun c=>?_⟩
 ·have hq2:q < s.size:=by omega
  have h1:=O3 s q
  have h2:=a6v hq2
  rw [if_pos hq2]
  refine ⟨by omega,by omega,fun e=>?_,fun e=>?_⟩
  ·have e35:by8 s q=35:=by rw [Int.toNat_natCast] at e;unfold by8;omega
   have hgt:=b4N hq2 e35
   refine L0 (fun (z:Int) H'=>H'=H1∧∃r:Nat,z=r∧q≤r∧r≤s.size∧nl s r=nl s q) (fun z=>(s.size-z).toNat) ⟨rfl,q,rfl,by omega,by omega,rfl⟩ ?_
   rintro z H2 next2 ⟨rfl,r,rfl,hr,hr2,hn⟩ hk2
   unfold a1b
   simp only [Int.toNat_natCast]
   by_cases c2:r < s.size∧by8 s r≠10
   ·have c3:¬(((s.get! r).toNat:Int)=10):=fun x=>c2.2 (by unfold by8;omega)
    have e1:decide ((r:Int) < (s.size:Int))=true:=decide_eq_true (by omega)
    rw [e1,decide_eq_false c3]
    refine ⟨fun _=>⟨by omega,by omega⟩,fun _=>?_,fun x=>(by cases x)⟩
    rw [y4 ⟨by omega,by omega⟩]
    rw [b4M c2.1 c2.2] at hn
    exact hk2 _ _ ⟨rfl,r+1,by omega,by omega,by omega,hn⟩ (by omega)
   ·rw [b0V c2] at hn
    have e1:(decide ((r:Int) < (s.size:Int)) && !decide (((s.get! r).toNat:Int)=10))=false:=by
     rw [Bool.and_eq_false_iff]
     by_cases c3:r < s.size
     ·right
      have:by8 s r=10:=Classical.byContradiction fun x=>c2 ⟨c3,x⟩
      have:((s.get! r).toNat:Int)=10:=by unfold by8 at this;omega
      rw [decide_eq_true this];rfl
     ·left;exact decide_eq_false (by omega)
    rw [e1]
    refine ⟨fun x=>?_,fun x=>(by cases x),fun _=>?_⟩
    ·have:=of_decide_eq_true x;omega
    ·subst hn
     rw [b4P hq2 e35] at he
     exact hk _ _ ⟨rfl,_,rfl,hr2,he⟩ (by omega)
  ·have e35:by8 s q≠35:=fun x=>e (by rw [Int.toNat_natCast];unfold by8 at x;omega)
   unfold a1d
   rw [a7M _ _ (by omega)]
   by_cases cb:blankS (rn s q)=true
   ·have e1:((!decide (classS (rn s q)=1))&&(!decide (classS (rn s q)=2)))=false:=by
     unfold blankS at cb
     revert cb
     cases decide (classS (rn s q)=1)<;>cases decide (classS (rn s q)=2)<;>simp
    rw [e1]
    rw [b3d hq2 e35 cb] at he
    exact ⟨fun x=>(by cases x),fun _=>hk _ _ ⟨rfl,q+wd s q,rfl,h2,he⟩ (by omega)⟩
   ·have cb:blankS (rn s q)=false:=by simpa using cb
    have e1:((!decide (classS (rn s q)=1))&&(!decide (classS (rn s q)=2)))=true:=by
     unfold blankS at cb
     revert cb
     cases decide (classS (rn s q)=1)<;>cases decide (classS (rn s q)=2)<;>simp
    rw [e1]
    rw [a5U (.inr ⟨e35,cb⟩)] at he
    refine ⟨fun _=>?_,fun x=>(by cases x)⟩
    unfold Q8
    rw [he];exact h
 ·rw [a5U (.inl (by omega))] at he
  unfold Q8
  rw [he];exact h
theorem d2y {p:Nat} (hp:p≤s.size) {K:Int→Int→Hp→Prop} (h:K ((Wr s goesS p (0,0)).1:Int) (cnt s goesS p 0:Int) H):a4Z s p H K:=by
 refine b1I _ _ ?_
 unfold a5i
 have hs2:=hs
 simp only [big] at hs2
 refine L0 (fun (z:Int×Int) H'=>H'=H∧∃(q n:Nat) (a:Int×Int),z=((q:Int),(n:Int))∧q≤s.size∧n≤q∧(Wr s goesS q a).1=(Wr s goesS p (0,0)).1∧cnt s goesS q n=cnt s goesS p 0) (fun z=>(s.size-z.1).toNat) ⟨rfl,p,0,(0,0),rfl,hp,by omega,rfl,rfl⟩ ?_
 rintro z H1 next ⟨rfl,q,n,a,rfl,hq,hn,hw,hc⟩ hk
 unfold a1t
 refine b4T hs ?_
 dsimp only
 by_cases hq2:q < s.size
 ·rw [if_pos hq2]
  have h1:=O3 s q
  have h2:=a6v hq2
  by_cases cg:goesS (rn s q)=true
  ·have e1:((!decide (classS (rn s q)=3))&&(!decide (classS (rn s q)=4)))=false:=by
    unfold goesS at cg
    revert cg
    cases decide (classS (rn s q)=3)<;>cases decide (classS (rn s q)=4)<;>simp
   rw [e1]
   refine ⟨fun x=>(by cases x),fun _=>?_⟩
   rw [a7M _ _ (by omega),y4 (a:=(n:Int)+1) ⟨by omega,by omega⟩]
   rw [a5l hq2 cg] at hw
   rw [c0g hq2 cg] at hc
   exact hk _ _ ⟨rfl,q+wd s q,n+1,_,rfl,h2,by omega,hw,hc⟩ (by dsimp only;omega)
  ·have e1:((!decide (classS (rn s q)=3))&&(!decide (classS (rn s q)=4)))=true:=by
    have cg:goesS (rn s q)=false:=by simpa using cg
    unfold goesS at cg
    revert cg
    cases decide (classS (rn s q)=3)<;>cases decide (classS (rn s q)=4)<;>simp
   rw [e1]
   rw [a0U (fun x=>cg x.2)] at hw
   rw [b3e (fun x=>cg x.2)] at hc
   refine ⟨fun _=>?_,fun x=>(by cases x)⟩
   rw [←hw,← hc] at h
   exact h
 ·rw [if_neg hq2]
  rw [a0U (fun x=>hq2 x.1)] at hw
  rw [b3e (fun x=>hq2 x.1)] at hc
  refine ⟨fun _=>?_,fun x=>(by cases x)⟩
  rw [←hw,← hc] at h
  exact h
end
end Go.Proofs.YthklmeihgmcljaaGreatDoor
