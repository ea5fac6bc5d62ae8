/- Tokens: the document's numbers, signs, tokens. Off the printed formulas. -/
import Derived.Test.YthklmeihgmcljaaGreatDoorzEL2
namespace Go.Proofs.YthklmeihgmcljaaGreatDoor
open Go.RowKit
set_option maxRecDepth 100000
set_option maxHeartbeats 1000000
abbrev tokO(o:On):b6:=b6.mk o.kind o.text o.num (b8.mk 0 0)
abbrev tkv(t:Tk):b6:=b6.mk t.kind t.text t.num (plv t.at_)
theorem w64{a:Int}(h0:0≤a)(h1:a < 18446744073709551616):IntKind.wrap .u64 a=a:=by
 simp [IntKind.wrap,IntKind.bits,IntKind.signed];omega
theorem w8{a:Int}(h0:0≤a)(h1:a < 256):IntKind.wrap .u8 a=a:=by
 simp [IntKind.wrap,IntKind.bits,IntKind.signed];omega
section
variable {s:ByteArray}
theorem d5I{p v:Nat}:v≤(dg s p v).2:=by
 rw [(b4w _ p v (0,0) (Nat.le_refl _)).2.2.1]
 exact c2J _ _
theorem c8A{p v:Nat}(hp:p≤s.size):p≤(dg s p v).1∧(dg s p v).1≤s.size:=by
 have h:=b4w (s:=s) _ p v (0,0) (Nat.le_refl _)
 have:=h.2.1
 exact ⟨h.1,by omega⟩
theorem d8R{p:Nat}(h:p+2≤s.size):s.extract p (p+2)=⟨#[s.get! p,s.get! (p+1)]⟩:=by
 apply ByteArray.ext
 apply Array.toList_inj.1
 rw [ByteArray.data_extract,Array.toList_extract,List.extract_eq_take_drop,b2K (by omega),b2K (by omega),show p+2-p=2 by omega]
 rfl
theorem a7Z{p:Nat}(h:p+2≤s.size)(x y:UInt8):s.extract p (p+2)=⟨#[x,y]⟩↔by8 s p=x.toNat∧by8 s (p+1)=y.toNat:=by
 rw [d8R h]
 unfold by8
 rw [UInt8.toNat_inj,UInt8.toNat_inj]
 constructor
 ·intro e
  injection e with e
  have e:=congrArg Array.toList e
  injection e with e1 e2
  injection e2 with e2 _
  exact ⟨e1,e2⟩
 ·rintro ⟨e1,e2⟩;rw [e1,e2]
end
section
variable {H:Hp}{s:ByteArray}(hs:s.size≤big)
include hs
theorem c5W{p:Nat}(hp:p < s.size){K:b6→Int→Int→Hp→Prop}(h:K (tokO (numO s p)) ((numO s p).stop:Int) (numO s p).err H):a3m s p H K:=by
 refine b1W _ _ ?_
 unfold a7k
 have hs2:=hs
 simp only [big] at hs2
 refine D1 (fun(z:Int×Int×b6) H'=>H'=H∧∃(q v:Nat)(t:b6),z=((q:Int),(v:Int),t)∧p≤q∧q≤s.size∧v < 9223372036854775808∧dg s q v=dg s p 0) (fun z=>(s.size-z.1).toNat) ⟨rfl,p,0,_,rfl,by omega,by omega,by omega,rfl⟩ ?_
 rintro z H1 next ⟨rfl,q,v,t,rfl,hq,hq2,hv,he⟩ hk
 unfold a6h
 dsimp only
 simp only [Int.toNat_natCast]
 have hb:=b9I s q
 by_cases c:q < s.size∧48≤by8 s q∧by8 s q≤57
 ·rw [b6B c.1 c.2] at he
  obtain ⟨c1,c2,c3⟩:=c
  unfold by8 at c2 c3 he
  rw [decide_eq_true (show (q:Int) < (s.size:Int) by omega),decide_eq_true (show (48:Int)≤((s.get! q).toNat:Int) by omega),decide_eq_true (show ((s.get! q).toNat:Int)≤57 by omega)]
  refine ⟨fun _=>⟨by omega,by omega⟩,fun _=>⟨by omega,by omega⟩,fun _=>⟨by omega,by omega,by omega,?_⟩,fun x=>(by cases x)⟩
  rw [w8 (a:=((s.get! q).toNat:Int)-48) (by omega) (by omega),w64 (a:=((s.get! q).toNat:Int)-48) (by omega) (by omega),w64 (a:=(9223372036854775807:Int)-(((s.get! q).toNat:Int)-48)) (by omega) (by omega)]
  have hdiv:Int.tdiv ((9223372036854775807:Int)-(((s.get! q).toNat:Int)-48)) 10=(9223372036854775807-(((s.get! q).toNat:Int)-48)) / 10:=Int.tdiv_eq_ediv_of_nonneg (by omega)
  rw [hdiv,w64 (by omega) (by omega)]
  refine ⟨fun x=>?_,fun x=>?_⟩
  ·have hge:=d5I (s:=s) (p:=q+1) (v:=v*10+((s.get! q).toNat-48))
   rw [he] at hge
   unfold numO at h
   rw [if_pos (.inl (by omega))] at h
   exact h
  ·rw [w64 (a:=10*(v:Int)) (by omega) (by omega),w64 (a:=10*(v:Int)+_) (by omega) (by omega),z1 (a:=(q:Int)+1) ⟨by omega,by omega⟩]
   exact hk _ _ ⟨rfl,q+1,v*10+((s.get! q).toNat-48),t,by congr 2;omega,by omega,by omega,by omega,he⟩ (by dsimp only;omega)
 ·rw [b8x c] at he
  have e1:(decide ((q:Int) < (s.size:Int))&&decide ((48:Int)≤((s.get! q).toNat:Int))&&decide (((s.get! q).toNat:Int)≤57))=false:=by
   rw [Bool.eq_false_iff]
   intro x
   simp only [Bool.and_eq_true,decide_eq_true_eq] at x
   exact c ⟨by omega,by unfold by8;omega,by unfold by8;omega⟩
  refine ⟨fun x=>?_,fun x=>?_,fun x=>?_,fun _=>?_⟩
  ·have:=of_decide_eq_true x;exact ⟨by omega,this⟩
  ·have:=of_decide_eq_true (Bool.and_eq_true_iff.1 x).1;exact ⟨by omega,this⟩
  ·rw [e1] at x;cases x
  unfold a2j
  unfold numO at h
  rw [←he] at h
  dsimp only at h
  have hcl:(decide (9223372036854775808≤v))=false:=decide_eq_false (by omega)
  simp only [Int.toNat_natCast]
  rw [z1 (a:=(q:Int)-(p:Int)) ⟨by omega,by omega⟩]
  have fin:∀a:Int,(a=3↔q < s.size∧classS (rn s q)=3)→
    (((decide (((s.get! p).toNat:Int)=48)&&decide (1 < (q:Int)-(p:Int)))||decide (a=3))=true→K (b6.mk 0 ⟨#[]⟩ 0 (b8.mk 0 0)) 0 21 H1)∧
    (((decide (((s.get! p).toNat:Int)=48)&&decide (1 < (q:Int)-(p:Int)))||decide (a=3))=false→(0:Int)≤p∧(p:Int)≤q∧(q:Int)≤s.size∧K (b6.mk 2 (s.extract p q) (IntKind.wrap .i64 v) (b8.mk 0 0)) q 0 H1):=by
   intro a ha
   refine ⟨fun x=>?_,fun x=>⟨by omega,by omega,by omega,?_⟩⟩
   ·rw [if_pos (by
     simp only [Bool.or_eq_true,Bool.and_eq_true,decide_eq_true_eq] at x
     rcases x with x | x
     ·exact .inr (.inl ⟨by unfold by8;omega,by omega⟩)
     ·exact .inr (.inr (ha.1 x)))] at h
    exact h
   ·rw [if_neg (by
     simp only [Bool.or_eq_false_iff,Bool.and_eq_false_iff,decide_eq_false_iff_not] at x
     unfold by8
     rintro (y | y | y)
     ·omega
     ·omega
     ·exact x.2 (ha.2 y))] at h
    rw [z1 ⟨by omega,by omega⟩]
    exact h
  refine b6E hs ?_
  by_cases c2:q < s.size
  ·rw [if_pos c2]
   exact ⟨by omega,by omega,fin _ ⟨fun x=>⟨c2,x⟩,fun x=>x.2⟩⟩
  ·rw [if_neg c2]
   exact ⟨by omega,by omega,fin _ ⟨fun x=>(by cases x),fun x=>absurd x.1 c2⟩⟩
theorem c2N{p:Nat}(hp:p < s.size){t:b6}{K:b6→Int→Int→Hp→Prop}(h2:¬two s p)(h:K (tokO (signO s p)) ((signO s p).stop:Int) (signO s p).err H):X5 s p t H K:=by
 unfold X5
 have hs2:=hs
 simp only [big] at hs2
 unfold signO at h
 rw [if_neg h2] at h
 rw [z1 (a:=(p:Int)+1) ⟨by omega,by omega⟩]
 simp only [Int.toNat_natCast]
 refine ⟨by omega,by omega,fun _=>⟨by omega,by omega⟩,fun x=>?_,fun x=>⟨by omega,by omega,by omega,?_⟩⟩
 ·rw [if_pos (by
   simp only [Bool.or_eq_true,decide_eq_true_eq] at x
   unfold by8;omega)] at h
  exact h
 ·rw [if_neg (by
   simp only [Bool.or_eq_false_iff,decide_eq_false_iff_not] at x
   unfold by8;omega)] at h
  exact h
theorem d0J{p:Nat}(hp:p < s.size){K:b6→Int→Int→Hp→Prop}(h:K (tokO (signO s p)) ((signO s p).stop:Int) (signO s p).err H):a4o s p H K:=by
 refine b3c _ _ ?_
 unfold a7M
 have hs2:=hs
 simp only [big] at hs2
 rw [z1 (a:=(p:Int)+1) ⟨by omega,by omega⟩,z1 (a:=(p:Int)+2) ⟨by omega,by omega⟩]
 have j2:∀(b:Bool)(t:b6),p+2≤s.size→(b=true↔two s p)→G6 s p b t H K:=by
  intro b t hp2 hb
  unfold G6
  rw [z1 (a:=(p:Int)+2) ⟨by omega,by omega⟩]
  refine ⟨fun x=>⟨by omega,by omega,by omega,?_⟩,fun x=>c2N hs hp (fun y=>by rw [hb.2 y] at x;cases x) h⟩
  unfold signO at h
  rw [if_pos (hb.1 x)] at h
  exact h
 refine ⟨fun c=>?_,fun c=>c2N hs hp (fun y=>by unfold two at y;omega) h⟩
 have hp2:p+2≤s.size:=by omega
 have i1:=a7Z hp2 61 61
 have i2:=a7Z hp2 33 61
 have i3:=a7Z hp2 60 61
 have i4:=a7Z hp2 62 61
 have i5:=a7Z hp2 38 38
 have i6:=a7Z hp2 124 124
 rw [show (p:Int).toNat=p from Int.toNat_natCast p,show ((p:Int)+2).toNat=p+2 by omega]
 refine ⟨by omega,by omega,by omega,fun e=>?_,fun e1=>⟨fun e=>?_,fun e2=>⟨fun e=>?_,fun e3=>⟨fun e=>?_,fun e4=>⟨fun e=>?_,fun e5=>?_⟩⟩⟩⟩⟩
 ·exact j2 _ _ hp2 ⟨fun _=>⟨by omega,.inl (i1.1 e)⟩,fun _=>decide_eq_true e⟩
 ·exact j2 _ _ hp2 ⟨fun _=>⟨by omega,.inr (.inl (i2.1 e))⟩,fun _=>decide_eq_true e⟩
 ·exact j2 _ _ hp2 ⟨fun _=>⟨by omega,.inr (.inr (.inl (i3.1 e)))⟩,fun _=>decide_eq_true e⟩
 ·exact j2 _ _ hp2 ⟨fun _=>⟨by omega,.inr (.inr (.inr (.inl (i4.1 e))))⟩,fun _=>decide_eq_true e⟩
 ·exact j2 _ _ hp2 ⟨fun _=>⟨by omega,.inr (.inr (.inr (.inr (.inl (i5.1 e)))))⟩,fun _=>decide_eq_true e⟩
 ·refine j2 _ _ hp2 ⟨fun x=>⟨by omega,.inr (.inr (.inr (.inr (.inr (i6.1 (of_decide_eq_true x))))))⟩,fun x=>decide_eq_true ?_⟩
  rcases x.2 with x | x | x | x | x | x
  ·exact absurd (i1.2 x) e1
  ·exact absurd (i2.2 x) e2
  ·exact absurd (i3.2 x) e3
  ·exact absurd (i4.2 x) e4
  ·exact absurd (i5.2 x) e5
  ·exact i6.2 x
end
theorem c7l{H:Hp}{s:ByteArray}{K:Bool→Hp→Prop}(h:K (wordS s) H):a0u s H K:=by
 refine a7L _ ?_
 unfold a4r
 unfold wordS at h
 refine ⟨fun e=>?_,fun e0=>?_⟩
 ·unfold o2
  subst e;exact ⟨fun _=>h,fun hc=>(by cases hc)⟩
 refine ⟨fun e=>?_,fun e1=>?_⟩
 ·unfold o2
  subst e;exact ⟨fun _=>h,fun hc=>(by cases hc)⟩
 refine ⟨fun e=>?_,fun e2=>?_⟩
 ·unfold o2
  subst e;exact ⟨fun _=>h,fun hc=>(by cases hc)⟩
 refine ⟨fun e=>?_,fun e3=>?_⟩
 ·unfold o2
  subst e;exact ⟨fun _=>h,fun hc=>(by cases hc)⟩
 refine ⟨fun e=>?_,fun e4=>?_⟩
 ·unfold o2
  subst e;exact ⟨fun _=>h,fun hc=>(by cases hc)⟩
 refine ⟨fun e=>?_,fun e5=>?_⟩
 ·unfold o2
  subst e;exact ⟨fun _=>h,fun hc=>(by cases hc)⟩
 refine ⟨fun e=>?_,fun e6=>?_⟩
 ·unfold o2
  subst e;exact ⟨fun _=>h,fun hc=>(by cases hc)⟩
 refine ⟨fun e=>?_,fun e7=>?_⟩
 ·unfold o2
  subst e;exact ⟨fun _=>h,fun hc=>(by cases hc)⟩
 refine ⟨fun e=>?_,fun e8=>?_⟩
 ·unfold o2
  subst e;exact ⟨fun _=>h,fun hc=>(by cases hc)⟩
 refine ⟨fun e=>?_,fun e9=>?_⟩
 ·unfold o2
  subst e;exact ⟨fun _=>h,fun hc=>(by cases hc)⟩
 simp only [decide_eq_false e0,decide_eq_false e1,decide_eq_false e2,decide_eq_false e3,decide_eq_false e4,decide_eq_false e5,decide_eq_false e6,decide_eq_false e7,decide_eq_false e8,decide_eq_false e9,Bool.false_or] at h
 unfold o2
 generalize decide (s=⟨#[102,97,108,115,101]⟩)=q at h ⊢
 cases q
 ·exact ⟨fun hc=>(by cases hc),fun _=>h⟩
 ·exact ⟨fun _=>h,fun hc=>(by cases hc)⟩
section
variable {H:Hp}{s:ByteArray}(hs:s.size≤big)
include hs
theorem c5X{p:Nat}(hp:p < s.size){K:b6→Int→Int→Hp→Prop}(h:K (tokO (oneO s p)) ((oneO s p).stop:Int) (oneO s p).err H):a5q s p H K:=by
 refine b3D _ _ ?_
 unfold a8D
 refine b6E hs ?_
 rw [if_pos hp]
 unfold oneO at h
 refine ⟨fun c=>d4o hs (by omega) ?_,fun c=>?_⟩
 ·rw [if_pos c] at h
  have g:=a7C (s:=s) goesS _ p (0,0) (Nat.le_refl _)
  have h1:=g.le
  have h2:=g.size (by omega)
  refine ⟨by omega,by omega,by omega,?_⟩
  rw [Int.toNat_natCast,Int.toNat_natCast]
  unfold wordO at h
  refine c7l ⟨fun x=>?_,fun x=>⟨fun y=>?_,fun y=>?_⟩⟩
  ·rw [if_pos x] at h;exact h
  ·rw [if_neg (by rw [x];decide),if_pos (by omega)] at h;exact h
  ·rw [if_neg (by rw [x];decide),if_neg (by omega)] at h;exact h
 rw [if_neg c] at h
 refine ⟨fun c2=>c5W hs hp ?_,fun c2=>⟨fun c3=>d0J hs hp ?_,fun c3=>?_⟩⟩
 ·rw [if_pos c2] at h;exact h
 ·rw [if_neg c2,if_pos c3] at h;exact h
 ·rw [if_neg c2,if_neg c3] at h;exact h
end
section
variable {s:ByteArray}
theorem b5i{p:Nat}(hp:p < s.size)(h:(oneO s p).err=0):p < (oneO s p).stop∧(oneO s p).stop≤s.size:=by
 obtain ⟨b,g⟩:=c5U (0,0) hp h
 refine ⟨?_,g.size (by omega)⟩
 have hw:=O9 s p
 rcases Nat.lt_or_ge p (oneO s p).stop with q | q
 ·exact q
 exfalso
 unfold oneO at h q
 split at h
 ·rename_i c
  rw [if_pos c] at q
  have e:=a5v (s:=s) (is:=goesS) (a:=(0,0)) hp (by unfold goesS;rw [decide_eq_true c];rfl)
  have g2:=(a7C (s:=s) goesS _ (p+wd s p) (stepP (0,0) (rn s p)) (Nat.le_refl _)).le
  unfold wordO at h q
  split at h
  ·rename_i d;rw [if_pos d,e] at q;dsimp only at q;omega
  ·rename_i d
   rw [if_neg d] at q
   split at h
   ·cases h
   ·rename_i d2;rw [if_neg d2,e] at q;dsimp only at q;omega
 ·rename_i c
  rw [if_neg c] at q
  split at h
  ·rename_i c2
   rw [if_pos c2] at q
   unfold numO at h q
   split at h
   ·cases h
   ·rename_i d
    rw [if_neg d] at q
    dsimp only at q
    have hd:=b3S.1 (show digitR (rn s p)=true by unfold digitR;rw [decide_eq_true c2])
    have ha:=b7M (s:=s) (p:=p) (by omega)
    have hr:=(b1t ha).1
    rw [b6B hp (by omega)] at q
    have:=(c8A (s:=s) (p:=p+1) (v:=0*10+(by8 s p-48)) (by omega)).1
    omega
  ·rename_i c2
   rw [if_neg c2] at q
   split at h
   ·rename_i c3
    rw [if_pos c3] at q
    unfold signO at h q
    split at h
    ·rename_i d;rw [if_pos d] at q;dsimp only at q;omega
    ·rename_i d
     rw [if_neg d] at q
     split at h
     ·cases h
     ·rename_i d2;rw [if_neg d2] at q;dsimp only at q;omega
   ·cases h
theorem c2O:∀(f g p:Nat)(a:Int×Int)(out:List Tk),s.size+1-p≤f→s.size+1-p≤g→p≤s.size→tkF s f p a out=tkF s g p a out:=by
 intro f
 induction f with
 | zero=>intro g p a out h1 h2 hp;omega
 | succ f ih=>
  intro g p a out h1 h2 hp
  cases g with
  | zero=>omega
  | succ g=>
   rw [tkF,tkF]
   obtain ⟨k1,k2⟩:=b7O hp
   split
   ·rfl
   ·rename_i c
    split
    ·rfl
    ·split
     ·rfl
     ·rename_i c2
      have:=b5i (p:=sk s p) (by omega) (Classical.byContradiction fun x=>c2 x)
      exact ih _ _ _ _ (by omega) (by omega) (by omega)
end
section
variable {H:Hp}{s:ByteArray}(hs:s.size≤big)
include hs
theorem c0C{K:Sl→b8→Int→Hp→Prop}(h:∀(e:Sl)(H':Hp),Hle H H'→SlH H' 5 i8 e ((tkS s).1.map tkv)→K e (plv (tkS s).2.1) (tkS s).2.2 H'):a3o s H K:=by
 refine b1O _ ?_
 unfold a7h
 have hs2:=hs
 simp only [big] at hs2
 refine c1v hs ?_
 unfold tkS at h
 by_cases c:65536 < s.size
 ·rw [if_pos c] at h ⊢
  exact ⟨fun _=>h _ _ (Hle.refl _) (SlH.nil _ _ _),fun x=>absurd rfl x⟩
 rw [if_neg c] at h ⊢
 cases hc:chkAt s 0 with
 | some n=>
  rw [hc] at h
  dsimp only at h ⊢
  obtain ⟨h1,b,hg⟩:=c5V (s:=s) (1,1) (Nat.le_refl _) hc
  refine ⟨fun x=>absurd x (by decide),fun _=>⟨fun _=>c7k hs (by omega) hg ?_,fun x=>absurd x (by decide)⟩⟩
  rw [b6C hg] at h
  exact h _ _ (Hle.refl _) (SlH.nil _ _ _)
 | none=>
  rw [hc] at h
  dsimp only at h ⊢
  refine ⟨fun x=>absurd x (by decide),fun _=>⟨fun x=>absurd rfl x,fun _=>?_⟩⟩
  refine D1 (fun(z:List b6×Int×b8×b8) H'=>Hle H H'∧∃(out:List Tk)(p:Nat)(a:Int×Int)(d:b8),z=(out.map tkv,(p:Int),plv a,d)∧p≤s.size∧Pl a p∧out.length≤32768∧tkF s (s.size+1) p a out=tkF s (s.size+1) 0 (1,1) []) (fun z=>(s.size-z.2.1).toNat) ⟨Hle.refl _,[],0,(1,1),_,rfl,by omega,Pl0,by decide,rfl⟩ ?_
  rintro z H1 next ⟨hH,out,p,a,d,rfl,hp,ha,ho,he⟩ hk
  unfold a2h
  dsimp only
  obtain ⟨k1,k2⟩:=b7O hp
  obtain ⟨b,hg⟩:=c8z (s:=s) (p:=p) a (Nat.le_refl _)
  have hb:=hg.pl ha
  rw [tkF,b6C hg] at he
  refine d0I hs hp (c0B hs k2 ha hg ?_)
  rw [List.length_map]
  refine ⟨fun x=>?_,fun x=>⟨fun y=>?_,fun y=>c5X hs (by omega) ?_⟩⟩
  ·rw [if_pos (by omega)] at he
   rw [←he] at h
   refine ⟨by simp only [List.length_singleton];omega,fun e g hl hsl _=>h e g (hH.trans hl) ?_⟩
   rw [List.map_append]
   exact hsl
  ·rw [if_neg (by omega),if_pos (by omega)] at he
   rw [←he] at h
   exact h _ _ hH (SlH.nil _ _ _)
  ·rw [if_neg (by omega),if_neg (by omega)] at he
   refine ⟨fun x=>?_,fun x=>⟨by simp only [List.length_singleton];omega,?_⟩⟩
   ·rw [if_pos x] at he
    rw [←he] at h
    exact h _ _ hH (SlH.nil _ _ _)
   ·rw [if_neg (by omega)] at he
    obtain ⟨b2,hg2⟩:=c5U (s:=s) (p:=sk s p) b (by omega) x
    obtain ⟨q1,q2⟩:=b5i (p:=sk s p) (by omega) x
    rw [b6C hg2] at he
    refine c0B hs q2 hb hg2 ?_
    rw [c2O s.size (s.size+1) _ _ _ (by omega) (by omega) q2] at he
    exact hk _ _ ⟨hH,_,(oneO s (sk s p)).stop,b2,d,by rw [List.map_append];rfl,q2,hg2.pl hb,by simp only [List.length_append,List.length_singleton];omega,he⟩ (by dsimp only;omega)
end
end Go.Proofs.YthklmeihgmcljaaGreatDoor
