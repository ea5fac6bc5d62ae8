/- A runner's expressions. Off the readings; printed by mkn8.py. -/
import Derived.Test.YthaaobpfbgcfiaaGreatDooryWN4
namespace Go.Proofs.YthaaobpfbgcfiaaGreatDoor
open Go.RowKit
set_option maxRecDepth 100000
set_option maxHeartbeats 4000000
theorem Inv.p1{w0 w:World}{ps:Nat→Prop}{H0 H:Hp}{Fs:List Frag}{A B:Frag}(h:A.Perm B)(I:Inv w0 ps H0 H (A::Fs) w):Inv w0 ps H0 H (B::Fs) w:=I.perm (by simp only [List.flatten_cons];exact h.symm.append_right _)
section
variable {k0:Int}{ev0:Nat}{ns ars:List ByteArray}{H:Hp}{g:Nat}{X:Cx}
theorem c0b{e:q8}{t:PT}(he:EH H e t)(ha:Ar t){K:Int→Bool→Hp→Prop}(h:K (cstP t).1 (cstP t).2 H):a7b e H K:=b1K _ (c8r he ha h)
theorem c1a{σ:St}{x:ByteArray}(ho:Okst k0 ev0 ns ars σ)(hx:x∈ns):∃v,lk x σ.vars=some v∧getM x σ = .ok v σ:=by
 rw [←ho.vs] at hx
 obtain ⟨v,hv⟩:=a9Y hx
 exact ⟨v,hv,by unfold getM;rw [hv];rfl⟩
theorem b9A{e:q8}{t:PT}(he:EH H e t)(ha:Ar t)(hn:Nm ns ars (uT t)){σ:St}{F:Frag}(hr:RnF g X σ H F)(ho:Okst k0 ev0 ns ars σ):
  Ct Tryz.prog 83 [rP g,.agg (j9 e).toArray] H [F] (fun v H' Fo=>∃n:Int,v=.tuple #[vi n,.bool (plainX t)]∧(plainX t=true→evT t σ = .ok n σ)∧H'=H∧Fo=[F]) noQE:=by
 intro w I
 refine d1l ?_
 unfold F83
 have hcp:=c0b he ha (K:=fun a b H'=>a=(cstP t).1∧b=(cstP t).2∧H'=H) ⟨rfl,rfl,rfl⟩
 obtain ⟨ts,rfl,hl⟩:=he.inv
 refine z7 I (cs:=j9 e) rfl fun g1 w1 I1 _=>?_
 refine b6 M6 ?_
 refine d4 (ld1 Tryz.isAgg3 (I1.at1 (o:=0) (vs:=[vi e.b8]) (nb rfl) rfl)) ?_
 refine b6 (i7 _ _ _ _ _ _) ?_
 refine D7 (fun c=>?_) (fun c=>?_)
 ·obtain ⟨sc,ev,Fe,Fv,Fa,W,rfl⟩:=hr
  have hx:e.f8∈ns:=by
   have h1:=hn.own.1
   unfold useL at h1
   rw [c] at h1
   exact (h1 ⟨e.f8,false⟩ (by simp)).2 rfl
  obtain ⟨v,hv,hg⟩:=c1a ho hx
  obtain ⟨g2,Fr,hlv,hp,_⟩:=W.hvs.get hv
  refine C6 I1 fun w2 I2=>?_
  have I3:=(I2.bring 1).un4
  have I4:=(((I3.bring 2).p1 hp).un2:Inv w _ H H [bx g2 2 [vi v],Fr,bx g 56 (rcs X σ sc ev),Fe,Fa,bx g1 125 (j9 e)] w2)
  refine d6 (m7 _) ?_
  refine d6 a9B ?_
  refine d6 a1W ?_
  refine i8 (ld1 Tryz.isAgg53 (I3.at1 (o:=4) (vs:=[.map X.mv]) (nb rfl) rfl)) ?_
  refine i8 (ld1 Tryz.isAgg9 (I2.at1 (o:=2) (vs:=[.string e.f8]) (nb rfl) rfl)) ?_
  refine b1l (keyS Tryz.underlying9) Tryz.underlying53 (z:=(none:Option Addr)) (fun w=>Tryz.zeroValue59 w) I2 W.hmv e.f8 ?_
  rw [hlv,Option.getD_some]
  refine d6 (m7 _) ?_
  refine i8 (ld1 Tryz.isAgg2 (I4.at1 (o:=0) (vs:=[vi v]) (nb rfl) rfl)) ?_
  have hq:plainX (eN e.b8 e.s8 e.f8 ts)=true:=by
   have:=c4m (k:=e.b8) (n:=e.s8) (s:=e.f8) (cs:=ts) (by omega) (by omega)
   unfold eN at this ⊢
   unfold plainX
   rw [this,c];rfl
  refine ⟨_,_,(I2.bring 1).bring 1 |>.drop,v,?_,fun _=>?_,rfl,rfl⟩
  ·rw [hq]
  ·rw [b6q]
   unfold evN
   rw [c4m (by omega) (by omega)]
   dsimp only
   rw [if_pos c,hg]
 ·refine d4 (ldA (vs:=j9 e) Tryz.isAgg125 Tryz.sizeOf125 rfl (I1.at1 (o:=0) (nb rfl) rfl)) ?_
  refine q9 (cap:=[]) (fun args w=>Tryz.call108 args w) ?_
  refine O2 (Fi:=[]) (Fr:=[bx g1 125 (j9 e),F]) I1 hcp (fun v H3 Fo w3 I3 l3 k3 q=>?_) (fun _ _ _ _ _ q=>q.elim)
  obtain ⟨r0,r1,rfl,rfl,rfl,rfl,rfl⟩:=q
  refine b6 (i5 _ 0 _ rfl) ?_
  refine b6 (i5 _ 1 _ rfl) ?_
  have hq:plainX (eN e.b8 e.s8 e.f8 ts)=(cstP (eN e.b8 e.s8 e.f8 ts)).2:=by
   have:plainX (eN e.b8 e.s8 e.f8 ts)=(cst (eN e.b8 e.s8 e.f8 ts)).isSome:=by
    unfold eN plainX
    simp [c]
   rw [this]
   unfold cstP
   cases cst (eN e.b8 e.s8 e.f8 ts)<;>rfl
  refine ⟨_,_,I3.drop,(cstP (eN e.b8 e.s8 e.f8 ts)).1,by rw [hq];rfl,fun h=>?_,rfl,rfl⟩
  rw [hq] at h
  cases hc:cst (eN e.b8 e.s8 e.f8 ts) with
  | none=>unfold cstP at h;rw [hc] at h;cases h
  | some v=>rw [c0W hc];unfold cstP;rw [hc];rfl
def opG(k:Int)(s:ByteArray)(l:List Int):M Int:=if k=3 then inM else if k=4 then loadM s (l.getD 0 0) else bnd stepM fun _=>toldM (opS (k-2) (l.getD 0 0) (l.getD 1 0))
theorem d3t{k n:Int}{s:ByteArray}{cs:List PT}(h:plainX (eN k n s cs)=false):evT (eN k n s cs)=bnd (evTs cs) (opG k s):=by
 rw [b6q]
 unfold evN
 unfold eN plainX at h
 rw [Bool.or_eq_false_iff] at h
 have hc:cst (eN k n s cs)=none:=by
  unfold eN
  cases hc:cst (PT.mk (.expr k n s cs.length) cs) with
  | none=>rfl
  | some v=>rw [hc] at h;cases h.1
 rw [hc]
 dsimp only
 rw [if_neg (of_decide_eq_false h.2)]
 rfl
theorem a2e{α:Type}{G:α→Prop}{m:M α}{σ σ':St}{a:α}(hc:Cm ns ars G m)(ho:Okst k0 ev0 ns ars σ)(e:m σ = .ok a σ'):G a∧Okst k0 ev0 ns ars σ':=by
 have:=hc.safe σ ho
 rw [e] at this
 exact ⟨this.1,this.2.1⟩
theorem c4q{cs:List PT}{i:Nat}{t:PT}(h:cs[i]? = some t)(xs:List Int):bnd (evTs (cs.drop i)) (fun l2=>ret (xs++l2))=bnd (evT t) fun v=>bnd (evTs (cs.drop (i+1))) fun l2=>ret ((xs++[v])++l2):=by
 have:cs.drop i=t::cs.drop (i+1):=by
  have hi:=C3 h
  rw [List.drop_eq_getElem_cons hi]
  congr 1
  rw [List.getElem?_eq_getElem hi] at h
  exact Option.some.inj h
 rw [this,evTs]
 simp only [a0m,b6X,List.append_assoc,List.singleton_append]
variable (hk:k0≤1000000)(hev:ev0≤1000000)
include hk hev
theorem d2n{e:q8}{xs:List Int}{sl:Sl}{Fx:Frag}{g1:Nat}{w0:World}{ps:Nat→Prop}{w:World}{σ:St}{F:Frag}{R:Value→World→Prop}{E:Pan}(hk1:e.b8=3∨e.b8=4∨e.b8=5∨(6≤e.b8∧e.b8≤10))(h4:e.b8=4→e.f8∈ars∧1≤xs.length)(h5:e.b8=5→1≤xs.length)(h6:6≤e.b8→2≤xs.length)
  (hrow:RowL 2 1 ci sl xs Fx) (hxi:∀x∈xs,o8 x) (hr:RnF g X σ H F) (ho:Okst k0 ev0 ns ars σ) (I:Inv w0 ps H H [F,bx g1 125 (j9 e),Fx] w)
  (hR:∀a σ' F' w',opG e.b8 e.f8 xs σ = .ok a σ'→RnF g X σ' H F'→Inv w0 ps H H [F'] w'→R (vi a) w')
  (hE:∀st wr σ' F' w',opG e.b8 e.f8 xs σ = .stop st wr σ'→RnF g X σ' H F'→Inv w0 ps H H [F'] w'→E [{ v:=endsV st wr,recovered:=false }] w'):b8L (rP g) (rP g1) (vs sl) w R E:=by
 unfold b8L
 intro _
 have hxl:=hrow.2.1
 have dr:∀{F':Frag}{w':World},Inv w0 ps H H [F',bx g1 125 (j9 e),Fx] w'→Inv w0 ps H H [F'] w':=fun J=>((J.bring 2).drop.bring 1).drop
 refine b6 M6 ?_
 refine d4 (ld1 Tryz.isAgg3 ((I.bring 1).at1 (o:=0) (vs:=[vi e.b8]) (nb rfl) rfl)) ?_
 refine b6 (i7 _ _ _ _ _ _) ?_
 refine D7 (fun c3=>?_) (fun c3=>?_)
 ·have hG:opG e.b8 e.f8 xs=inM:=by unfold opG;rw [if_pos c3]
  rw [hG] at hR hE
  refine q9 (cap:=[]) (fun args w=>Tryz.call109 args w) ?_
  refine (c5L hk hev).use hr ho I (fun a σ1 F1 w1 e1 hr1 J=>?_) fun st wr σ1 F1 w1 e1 hr1 J=>?_
  ·exact hR _ _ _ _ e1 hr1 (dr J)
  ·exact hE _ _ _ _ _ e1 hr1 (dr J)
 refine b6 (i7 _ _ _ _ _ _) ?_
 refine D7 (fun c4=>?_) (fun c4=>?_)
 ·obtain ⟨hx,hx1⟩:=h4 c4
  have hG:opG e.b8 e.f8 xs=loadM e.f8 (xs.getD 0 0):=by unfold opG;rw [if_neg c3,if_pos c4]
  rw [hG] at hR hE
  obtain ⟨i,hi⟩:=y7 (l:=xs) (i:=0) (by omega)
  have hi2:xs.getD 0 0=i:=by rw [List.getD_eq_getElem?_getD,hi];rfl
  rw [hi2] at hR hE
  obtain ⟨gx,arr,hax,_⟩:=hrow.addr hi
  refine C6 I fun w2 I2=>?_
  refine d6 a1W ?_
  refine d6 (E3 hax _ _ _ _ (Int.le_refl 0) (by omega)) ?_
  refine i8 (ld1 Tryz.isAgg9 ((I2.bring 1).at1 (o:=2) (vs:=[.string e.f8]) (nb rfl) rfl)) ?_
  refine i8 (ld1 Tryz.isAgg2 (hrow.atW (I2.bring 2) hax hi)) ?_
  refine q9 (cap:=[]) (fun args w=>Tryz.call86 args w) ?_
  unfold loadM at hR hE
  refine (c0Z hk hx).use hr ho I2 (fun a σ1 F1 w1 e1 hr1 J=>?_) fun st wr σ1 F1 w1 e1 hr1 J=>?_
  ·rw [K3 e1] at hR
   have hi64:o8 i:=hxi i (List.mem_of_getElem? hi)
   have ho1:=(a2e (Cm.bnd .step fun _ _=>.item hx hi64) ho e1).2
   have hb:¬(i < 0∨((rowOf e.f8 σ1).length:Int)≤i):=by
    unfold itemM at e1
    obtain ⟨_,s1,_,e2⟩:=b3S.1 e1
    unfold boundM at e2
    split at e2
    ·cases e2
    ·rename_i hb;cases e2;exact hb
   obtain ⟨sc,ev,Fe,Fv,Fa,W,rfl⟩:=hr1
   obtain ⟨sl2,F2,Fr,hl2,hrow2,hp2,_⟩:=W.has.get (b7d ho1 hx)
   obtain ⟨v,hv⟩:=y7 (l:=rowOf e.f8 σ1) (i:=i.toNat) (by omega)
   have hg:=b7c hl2 hrow2 hv
   have J2:=J.un4
   have J3:=((J2.bring 3).p1 hp2).un2
   refine d6 (m7 _) ?_
   refine i8 (ld1 Tryz.isAgg2 (hrow2.atW J3 hg hv)) ?_
   refine hR v σ1 _ _ ?_ ⟨sc,ev,Fe,Fv,Fa,W,rfl⟩ (dr J)
   unfold cellM
   rw [List.getD_eq_getElem?_getD,hv];rfl
  ·exact hE _ _ _ _ _ (O5 e1) hr1 (dr J)
 have hG:opG e.b8 e.f8 xs=bnd stepM fun _=>toldM (opS (e.b8-2) (xs.getD 0 0) (xs.getD 1 0)):=by unfold opG;rw [if_neg c3,if_neg c4]
 rw [hG] at hR hE
 refine q9 (cap:=[]) (fun args w=>Tryz.call84 args w) ?_
 refine (a7i hk).use hr ho I (fun a σ1 F1 w1 e1 hr1 J=>?_) fun st wr σ1 F1 w1 e1 hr1 J=>?_
 case refine_2=>exact hE _ _ _ _ _ (O5 e1) hr1 (dr J)
 rw [K3 e1] at hR hE
 have ho1:=(a2e .step ho e1).2
 clear e1 hr ho I hG
 obtain ⟨x0,hx0⟩:=y7 (l:=xs) (i:=0) (by omega)
 have hd0:xs.getD 0 0=x0:=by rw [List.getD_eq_getElem?_getD,hx0];rfl
 have hi0:o8 x0:=hxi _ (List.mem_of_getElem? hx0)
 rw [hd0] at hR hE
 obtain ⟨gx,arr,hax,_⟩:=hrow.addr hx0
 refine b6 M6 ?_
 refine d4 (ld1 Tryz.isAgg3 ((J.bring 1).at1 (o:=0) (vs:=[vi e.b8]) (nb rfl) rfl)) ?_
 refine b6 (i7 _ _ _ _ _ _) ?_
 refine D7 (fun c5=>?_) (fun c5=>?_)
 ·refine b6 (E3 hax _ _ _ _ (Int.le_refl 0) (by omega)) ?_
  refine d4 (ld1 Tryz.isAgg2 (hrow.atW (J.bring 2) hax hx0)) ?_
  refine q9 (cap:=[]) (fun args w=>Tryz.call69 args w) ?_
  have hop:opS (e.b8-2) x0 (xs.getD 1 0)=fit (-x0):=by rw [c5];rfl
  rw [hop] at hR hE
  refine O2 (Fi:=[]) (Fr:=[_,_,_]) J (b6g (K:=fun r0 r1 H'=>r0=(fit (-x0)).1∧r1=(fit (-x0)).2∧H'=H) hi0 ⟨rfl,rfl,rfl⟩) (fun v H3 Fo w3 I3 l3 k3 q=>?_) (fun _ _ _ _ _ q=>q.elim)
  obtain ⟨r0,r1,rfl,rfl,rfl,rfl,rfl⟩:=q
  refine b6 (i5 _ 0 _ rfl) ?_
  refine b6 (i5 _ 1 _ rfl) ?_
  refine q9 (cap:=[]) (fun args w=>Tryz.call110 args w) ?_
  refine (a9Z (fit (-x0))).use hr1 ho1 I3 (fun a σ2 F2 w2 e2 hr2 J2=>?_) fun st wr σ2 F2 w2 e2 hr2 J2=>?_
  ·exact hR _ _ _ _ e2 hr2 (dr J2)
  ·exact hE _ _ _ _ _ e2 hr2 (dr J2)
 obtain ⟨x1,hx1⟩:=y7 (l:=xs) (i:=1) (by omega)
 have hd1:xs.getD 1 0=x1:=by rw [List.getD_eq_getElem?_getD,hx1];rfl
 have hi1:o8 x1:=hxi _ (List.mem_of_getElem? hx1)
 rw [hd1] at hR hE
 refine b6 (i7 _ _ _ _ _ _) ?_
 refine D7 (fun c6=>?_) (fun c6=>?_)
 ·refine C6 J fun w2 I2=>?_
  refine d6 (E3 hax _ _ _ _ (Int.le_refl 0) (by omega)) ?_
  refine d6 (E3 hax _ _ _ _ (by decide) (by omega)) ?_
  refine i8 (ld1 Tryz.isAgg2 (hrow.atW (I2.bring 2) hax hx0)) ?_
  refine i8 (ld1 Tryz.isAgg2 (hrow.atW (I2.bring 2) hax hx1)) ?_
  refine q9 (cap:=[]) (fun args w=>Tryz.call70 args w) ?_
  have hop:opS (e.b8-2) x0 x1=fit (x0+x1):=by rw [c6];rfl
  rw [hop] at hR hE
  refine O2 (Fi:=[]) (Fr:=[_,_,_]) I2 (b6f (K:=fun r0 r1 H'=>r0=(fit (x0+x1)).1∧r1=(fit (x0+x1)).2∧H'=H) hi0 hi1 ⟨rfl,rfl,rfl⟩) (fun v H3 Fo w3 I3 l3 k3 q=>?_) (fun _ _ _ _ _ q=>q.elim)
  obtain ⟨r0,r1,rfl,rfl,rfl,rfl,rfl⟩:=q
  refine d6 (i5 _ 0 _ rfl) ?_
  refine d6 (i5 _ 1 _ rfl) ?_
  refine q9 (cap:=[]) (fun args w=>Tryz.call110 args w) ?_
  refine (a9Z (fit (x0+x1))).use hr1 ho1 I3 (fun a σ2 F2 w4 e2 hr2 J2=>?_) fun st wr σ2 F2 w4 e2 hr2 J2=>?_
  ·exact hR _ _ _ _ e2 hr2 (dr J2)
  ·exact hE _ _ _ _ _ e2 hr2 (dr J2)
 refine b6 (i7 _ _ _ _ _ _) ?_
 refine D7 (fun c7=>?_) (fun c7=>?_)
 ·refine C6 J fun w2 I2=>?_
  refine d6 (E3 hax _ _ _ _ (Int.le_refl 0) (by omega)) ?_
  refine d6 (E3 hax _ _ _ _ (by decide) (by omega)) ?_
  refine i8 (ld1 Tryz.isAgg2 (hrow.atW (I2.bring 2) hax hx0)) ?_
  refine i8 (ld1 Tryz.isAgg2 (hrow.atW (I2.bring 2) hax hx1)) ?_
  refine q9 (cap:=[]) (fun args w=>Tryz.call71 args w) ?_
  have hop:opS (e.b8-2) x0 x1=fit (x0-x1):=by rw [c7];rfl
  rw [hop] at hR hE
  refine O2 (Fi:=[]) (Fr:=[_,_,_]) I2 (b3b (K:=fun r0 r1 H'=>r0=(fit (x0-x1)).1∧r1=(fit (x0-x1)).2∧H'=H) hi0 hi1 ⟨rfl,rfl,rfl⟩) (fun v H3 Fo w3 I3 l3 k3 q=>?_) (fun _ _ _ _ _ q=>q.elim)
  obtain ⟨r0,r1,rfl,rfl,rfl,rfl,rfl⟩:=q
  refine d6 (i5 _ 0 _ rfl) ?_
  refine d6 (i5 _ 1 _ rfl) ?_
  refine q9 (cap:=[]) (fun args w=>Tryz.call110 args w) ?_
  refine (a9Z (fit (x0-x1))).use hr1 ho1 I3 (fun a σ2 F2 w4 e2 hr2 J2=>?_) fun st wr σ2 F2 w4 e2 hr2 J2=>?_
  ·exact hR _ _ _ _ e2 hr2 (dr J2)
  ·exact hE _ _ _ _ _ e2 hr2 (dr J2)
 refine b6 (i7 _ _ _ _ _ _) ?_
 refine D7 (fun c8=>?_) (fun c8=>?_)
 ·refine C6 J fun w2 I2=>?_
  refine d6 (E3 hax _ _ _ _ (Int.le_refl 0) (by omega)) ?_
  refine d6 (E3 hax _ _ _ _ (by decide) (by omega)) ?_
  refine i8 (ld1 Tryz.isAgg2 (hrow.atW (I2.bring 2) hax hx0)) ?_
  refine i8 (ld1 Tryz.isAgg2 (hrow.atW (I2.bring 2) hax hx1)) ?_
  refine q9 (cap:=[]) (fun args w=>Tryz.call72 args w) ?_
  have hop:opS (e.b8-2) x0 x1=fit (x0*x1):=by rw [c8];rfl
  rw [hop] at hR hE
  refine O2 (Fi:=[]) (Fr:=[_,_,_]) I2 (b6h (K:=fun r0 r1 H'=>r0=(fit (x0*x1)).1∧r1=(fit (x0*x1)).2∧H'=H) hi0 hi1 ⟨rfl,rfl,rfl⟩) (fun v H3 Fo w3 I3 l3 k3 q=>?_) (fun _ _ _ _ _ q=>q.elim)
  obtain ⟨r0,r1,rfl,rfl,rfl,rfl,rfl⟩:=q
  refine d6 (i5 _ 0 _ rfl) ?_
  refine d6 (i5 _ 1 _ rfl) ?_
  refine q9 (cap:=[]) (fun args w=>Tryz.call110 args w) ?_
  refine (a9Z (fit (x0*x1))).use hr1 ho1 I3 (fun a σ2 F2 w4 e2 hr2 J2=>?_) fun st wr σ2 F2 w4 e2 hr2 J2=>?_
  ·exact hR _ _ _ _ e2 hr2 (dr J2)
  ·exact hE _ _ _ _ _ e2 hr2 (dr J2)
 refine b6 (i7 _ _ _ _ _ _) ?_
 refine D7 (fun c9=>?_) (fun c9=>?_)
 ·refine C6 J fun w2 I2=>?_
  refine d6 (E3 hax _ _ _ _ (Int.le_refl 0) (by omega)) ?_
  refine d6 (E3 hax _ _ _ _ (by decide) (by omega)) ?_
  refine i8 (ld1 Tryz.isAgg2 (hrow.atW (I2.bring 2) hax hx0)) ?_
  refine i8 (ld1 Tryz.isAgg2 (hrow.atW (I2.bring 2) hax hx1)) ?_
  refine q9 (cap:=[]) (fun args w=>Tryz.call73 args w) ?_
  have hop:opS (e.b8-2) x0 x1=divS x0 x1:=by rw [c9];rfl
  rw [hop] at hR hE
  refine O2 (Fi:=[]) (Fr:=[_,_,_]) I2 (b6j (K:=fun r0 r1 H'=>r0=(divS x0 x1).1∧r1=(divS x0 x1).2∧H'=H) hi0 ⟨rfl,rfl,rfl⟩) (fun v H3 Fo w3 I3 l3 k3 q=>?_) (fun _ _ _ _ _ q=>q.elim)
  obtain ⟨r0,r1,rfl,rfl,rfl,rfl,rfl⟩:=q
  refine d6 (i5 _ 0 _ rfl) ?_
  refine d6 (i5 _ 1 _ rfl) ?_
  refine q9 (cap:=[]) (fun args w=>Tryz.call110 args w) ?_
  refine (a9Z (divS x0 x1)).use hr1 ho1 I3 (fun a σ2 F2 w4 e2 hr2 J2=>?_) fun st wr σ2 F2 w4 e2 hr2 J2=>?_
  ·exact hR _ _ _ _ e2 hr2 (dr J2)
  ·exact hE _ _ _ _ _ e2 hr2 (dr J2)
 refine C6 J fun w2 I2=>?_
 refine d6 (E3 hax _ _ _ _ (Int.le_refl 0) (by omega)) ?_
 refine d6 (E3 hax _ _ _ _ (by decide) (by omega)) ?_
 refine i8 (ld1 Tryz.isAgg2 (hrow.atW (I2.bring 2) hax hx0)) ?_
 refine i8 (ld1 Tryz.isAgg2 (hrow.atW (I2.bring 2) hax hx1)) ?_
 refine q9 (cap:=[]) (fun args w=>Tryz.call74 args w) ?_
 have hop:opS (e.b8-2) x0 x1=remS x0 x1:=by rw [(by omega:e.b8=10)];rfl
 rw [hop] at hR hE
 refine O2 (Fi:=[]) (Fr:=[_,_,_]) I2 (b6k (K:=fun r0 r1 H'=>r0=(remS x0 x1).1∧r1=(remS x0 x1).2∧H'=H) ⟨rfl,rfl,rfl⟩) (fun v H3 Fo w3 I3 l3 k3 q=>?_) (fun _ _ _ _ _ q=>q.elim)
 obtain ⟨r0,r1,rfl,rfl,rfl,rfl,rfl⟩:=q
 refine d6 (i5 _ 0 _ rfl) ?_
 refine d6 (i5 _ 1 _ rfl) ?_
 refine q9 (cap:=[]) (fun args w=>Tryz.call110 args w) ?_
 refine (a9Z (remS x0 x1)).use hr1 ho1 I3 (fun a σ2 F2 w4 e2 hr2 J2=>?_) fun st wr σ2 F2 w4 e2 hr2 J2=>?_
 ·exact hR _ _ _ _ e2 hr2 (dr J2)
 ·exact hE _ _ _ _ _ e2 hr2 (dr J2)
theorem b7e{t:PT}(ha:Ar t):formT t=true→∀{e:q8},EH H e t→Nm ns ars (uT t)→CR k0 ev0 ns ars 85 [rP g,.agg (j9 e).toArray] H g X (evT t) vi:=by
 induction ha with
 | @mk k n s a cs har hn hc ih=>
  intro hf e he hu σ F hr ho w I
  have hA:Ar (.mk (.expr k n s a) cs):=.mk har hn hc
  obtain ⟨har,rfl⟩:=har
  obtain ⟨ts,hts,hl⟩:=he.inv
  unfold eN at hts
  injection hts with q1 q2
  injection q1 with q3 q4 q5 q6
  subst q3;subst q4;subst q5;subst q2
  clear q6
  obtain ⟨hu1,hu2⟩:=hu.own
  rw [formT,Bool.and_eq_true] at hf
  have hff:formE e.b8 e.s8 e.f8 cs.length=true:=hf.1
  refine d1n ?_
  unfold F85
  refine z7 I (cs:=j9 e) rfl fun g1 w1 I1 _=>?_
  refine d4 (ldA (vs:=j9 e) Tryz.isAgg125 Tryz.sizeOf125 rfl (I1.at1 (o:=0) (nb rfl) rfl)) ?_
  refine q9 (cap:=[]) (fun args w=>Tryz.call83 args w) ?_
  refine O2 (Fi:=[F]) (Fr:=[bx g1 125 (j9 e)]) (I1.bring 1) (b9A he hA hu hr ho) (fun v H3 Fo w3 I3 l3 k3 q=>?_) (fun _ _ _ _ _ q=>q.elim)
  obtain ⟨n0,rfl,hpl,rfl,rfl⟩:=q
  refine b6 (i5 _ 0 _ rfl) ?_
  refine b6 (i5 _ 1 _ rfl) ?_
  refine N9 (fun c=>?_) (fun c=>?_)
  ·exact ⟨_,_,(I3.bring 1).drop,n0,σ,F,hpl c,rfl,rfl,hr,rfl⟩
  have hG:evT (eN e.b8 e.s8 e.f8 cs)=bnd (evTs cs) (opG e.b8 e.f8):=d3t c
  unfold eN at hG
  rw [hG]
  refine v6 fun j1 hx1=>?_
  refine b6 W0 ?_
  refine d4 (ld1 Tryz.isAgg101 ((I3.bring 1).at1 (o:=3) (vs:=[vs e.D9]) (nb rfl) rfl)) ?_
  refine b6 (a1L _ _ _) ?_
  have hkk:e.b8≠1∧e.b8≠2:=by
   constructor
   ·intro h1
    unfold plainX at c
    rw [cst,if_pos h1] at c
    cases c
   ·intro h1
    unfold plainX at c
    rw [Bool.or_eq_false_iff] at c
    exact of_decide_eq_false c.2 h1
  have hk1:(e.b8=3∨e.b8=4∨e.b8=5∨(6≤e.b8∧e.b8≤10))∧(e.b8=4→cs.length=1)∧(e.b8=5→cs.length=1)∧(6≤e.b8→cs.length=2):=by
   obtain ⟨b1,b2,b3,b4,b5⟩:=har
   refine ⟨by omega,fun h4=>?_,b4,b5⟩
   unfold formE at hff
   split at hff
   ·cases hff
   ·rw [if_neg (by omega),if_neg (by omega),if_pos (by omega)] at hff
    have:=of_decide_eq_true hff
    omega
  have hbg:cs.length≤1000000:=by
   obtain ⟨b1,b2,b3,b4,b5⟩:=har
   by_cases h1:e.b8 < 5
   ·have:=b3 h1;omega
   ·by_cases h2:e.b8=5
    ·have:=b4 h2;omega
    ·have:=b5 (by omega);omega
  refine K7 (J:=fun n l w'=>∃(i:Nat)(xs:List Int)(sl:Sl)(Fx:Frag)(σi:St)(Fi:Frag),n=cs.length-i∧l=[vs sl,vi (i:Int)]∧i≤cs.length∧xs.length=i∧RowL 2 1 ci sl xs Fx∧RnF g X σi H3 Fi∧Okst k0 ev0 ns ars σi∧Inv w (inF [F]) H3 H3 [Fi,bx g1 125 (j9 e),Fx] w'∧evTs cs σ = bnd (evTs (cs.drop i)) (fun l2=>ret (xs++l2)) σi∧∀x∈xs,o8 x)
   ⟨_,0,[],⟨none,0,0⟩,[],σ,F,rfl,rfl,Nat.zero_le _,rfl,RowL.nil b8X b8Y,hr,ho,(I3.nil.bring 2).bring 2,?_,fun x hx=>by cases hx⟩ ?_
  ·rw [List.drop_zero]
   simp only [List.nil_append]
   rw [c0N]
  rintro n τ w4 next2 ⟨i,xs,sl,Fx,σi,Fi,rfl,hl4,hi,hxl,hrow,hri,hoi,I4,hev4,hxi⟩ hn2
  simp only [List.map_cons,List.map_nil,List.cons.injEq,and_true] at hl4
  obtain ⟨l1,l2⟩:=hl4
  simp only [l1,l2]
  unfold c3A
  refine b6 (A4 _ _ _ _ _ _) ?_
  refine D7 (fun c5=>?_) (fun c5=>?_)
  ·obtain ⟨t,ht⟩:=y7 (l:=cs) (i:=i) (by omega)
   obtain ⟨x,hE,hxt,_⟩:=he.kid ht
   obtain ⟨g5,o5,ha5,hA5⟩:=hE
   have htm:=List.mem_of_getElem? ht
   refine b6 (Q0 ha5 _ _ _ _ (by omega) c5) ?_
   refine d4 (ldA (vs:=j9 x) Tryz.isAgg125 Tryz.sizeOf125 rfl (I4.atH hA5)) ?_
   refine s6 I4 Tryz.zeroValue125 (cs:=[(vi 0),(vi 0),(Value.string ⟨#[]⟩),(Value.slice none 0 0)]) rfl fun g6 w6 I6 _=>?_
   refine E8 I6 Tryz.sizeOf125 (vs:=(j9 x)) (cs':=(j9 x)) rfl rfl (nb rfl) rfl rfl fun w7 I7 _=>?_
   refine d4 (ldA Tryz.isAgg125 Tryz.sizeOf125 rfl (I7.at1 (o:=0) (vs:=(j9 x)) (nb rfl) rfl)) ?_
   refine q9 (cap:=[]) (fun args w=>Tryz.call85 args w) ?_
   rw [c4q ht] at hev4
   have hcmE:=cmE (ns:=ns) (ars:=ars) (hc t htm) (hu2.mem htm)
   refine (ih t htm (E7 hf.2 htm) hxt (hu2.mem htm)).use hri hoi (I7.bring 1) (fun a σ8 F8 w8 e8 hr8 I8=>?_) fun st wr σ8 F8 w8 e8 hr8 I8=>?_
   ·rw [K3 e8] at hev4
    obtain ⟨ha64,ho8⟩:=a2e hcmE hoi e8
    refine Y1 (e:=2) (c:=ci) (xs:=[a]) I8 (c0p _) rfl rfl b8X b8Y (nb rfl) fun s9 F9 w9 hr9 I9 _=>?_
    refine c2S (s:=sl) (xs:=xs) (I9.bring 4) hrow (hr9.srcO ((I9.bring 4).bring 1)) (by rw [List.length_singleton];omega) fun s10 F10 w10 hr10 I10 _=>?_
    refine b6 (B0 _ _ _ _ _ _) ?_
    rw [D6 (by omega) (by omega)]
    refine hn2 _ _ _ (show cs.length-(i+1) < cs.length-i by omega) ⟨i+1,xs++[a],s10,F10,σ8,F8,rfl,rfl,by omega,by rw [List.length_append,hxl];rfl,hr10,hr8,ho8,?_,hev4,fun y hy=>?_⟩
    ·exact ((((I10.bring 1).drop.bring 2).drop.bring 1).bring 2 |>.bring 1)
    ·rcases List.mem_append.1 hy with h | h
     ·exact hxi y h
     ·rw [List.mem_singleton.1 h];exact ha64
   ·refine ⟨_,_,((((I8.bring 1).drop).bring 1).drop.bring 1).drop,st,wr,σ8,F8,?_,rfl,rfl,hr8,rfl⟩
    rw [O5 e8] at hev4
    exact O5 hev4
  ·refine hx1 _ _ ?_
   have hie:i=cs.length:=by omega
   subst hie
   rw [List.drop_length,evTs,b6X,List.append_nil] at hev4
   have hb:bnd (evTs cs) (opG e.b8 e.f8) σ = opG e.b8 e.f8 xs σi:=K3 hev4
   refine d2n hk hev hk1.1 (fun h4=>⟨?_,by have:=hk1.2.1 h4;omega⟩) (fun h5=>by have:=hk1.2.2.1 h5;omega) (fun h6=>by have:=hk1.2.2.2 h6;omega) hrow hxi hri hoi I4 (fun a σ' F' w' e1 hr1 J=>?_) fun st wr σ' F' w' e1 hr1 J=>?_
   ·unfold useL at hu1
    rw [h4] at hu1
    exact (hu1 ⟨e.f8,true⟩ (by simp)).1 rfl
   ·exact ⟨_,_,J,a,σ',F',by rw [hb];exact e1,rfl,rfl,hr1,rfl⟩
   ·exact ⟨_,_,J,st,wr,σ',F',by rw [hb];exact e1,rfl,rfl,hr1,rfl⟩
end
end Go.Proofs.YthaaobpfbgcfiaaGreatDoor
