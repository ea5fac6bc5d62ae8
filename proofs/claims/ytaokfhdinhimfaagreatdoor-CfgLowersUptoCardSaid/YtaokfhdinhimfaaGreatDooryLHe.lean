/- The document's graph of expressions and conditions: it is the plain one, or too great. Contracts off the printed formulas. -/
import Derived.Test.YtaokfhdinhimfaaGreatDooryLH4
import Derived.Test.YtaokfhdinhimfaaGreatDooryLH7
namespace Go.Proofs.YtaokfhdinhimfaaGreatDoor
open Go.RowKit
set_option maxRecDepth 100000
set_option maxHeartbeats 2000000
def fI:List ByteArray→ByteArray→Int→Int
 | [],_,_=>-1
 | x::r,s,i=>if x=s then i else fI r s (i+1)
def Nok(L:En)(vn an:List ByteArray)(t:PT):Prop:=∀u∈uT t,(u.b0C=false→fI vn u.f6 0=L.vf u.f6∧L.vf u.f6 < L.nv)∧(u.b0C=true→fI an u.f6 0=L.af u.f6)
theorem Nok.kid{L:En}{vn an:List ByteArray}{l:Lab}{cs:List PT}(h:Nok L vn an (.mk l cs)){t:PT}(ht:t∈cs):Nok L vn an t:=fun u hu=>h u (by
 rw [uT]
 refine List.mem_append_right _ ?_
 clear h
 induction cs with
 | nil=>cases ht
 | cons c cs ih=>
  rw [uTs]
  rcases List.mem_cons.1 ht with rfl | ht
  ·exact List.mem_append_left _ hu
  ·exact List.mem_append_right _ (ih ht))
theorem Nok.var{L:En}{vn an:List ByteArray}{n:Int}{s:ByteArray}{a:Nat}{cs:List PT}{k:Int}(h:Nok L vn an (.mk (.expr k n s a) cs))(hk:k=2):fI vn s 0=L.vf s∧L.vf s < L.nv:=by
 subst hk
 exact (h ⟨s,false⟩ (by rw [uT];exact List.mem_append_left _ (by simp [useL]))).1 rfl
theorem Nok.item{L:En}{vn an:List ByteArray}{n:Int}{s:ByteArray}{a:Nat}{cs:List PT}{k:Int}(h:Nok L vn an (.mk (.expr k n s a) cs))(hk:k=4):fI an s 0=L.af s:=by
 subst hk
 exact (h ⟨s,true⟩ (by rw [uT];exact List.mem_append_left _ (by simp [useL]))).2 rfl
abbrev Bl:=d6
structure Zr where
 v:Sl
 a:Sl
 x:Int
structure RS (z:Zr) (g:Gr) (b:Bl) (xs:List Ed):Prop where
 v:b.fc.p7=z.v
 a:b.fc.o9=z.a
 x:b.fc.u5=z.x
 s:(b.fgreat=false∧b.fc.p5=g.p∧b.fc.q9=g.t∧xs=g.es∧g.p≤4096∧g.es.length≤8192)∨(b.fgreat=true∧(4096 < g.p∨8192 < g.es.length))
theorem RS.cut{z:Zr}{g:Gr}{b:Bl}{xs:List Ed}(h:RS z g b xs):RS z g (d5 b) xs:=⟨h.v,h.a,h.x,h.s⟩
theorem RS.over{z:Zr}{g g':Gr}{b:Bl}{xs:List Ed}{n:Nat}(h:RS z g b xs)(hg:b.fgreat=true)(l:Gl n g g'):RS z g' b xs:=by
 obtain ⟨v,a,x,s⟩:=h
 refine ⟨v,a,x,.inr ⟨hg,?_⟩⟩
 rcases s with ⟨q,_⟩ | ⟨_,q⟩
 ·rw [hg] at q;cases q
 ·obtain ⟨p0,_,_,w,e,_⟩:=l
  rw [e,List.length_append];omega
theorem RS.at_{z:Zr}{g:Gr}{b:Bl}{xs:List Ed}(h:RS z g b xs)(hg:b.fgreat=false):b.fc.p5=g.p∧b.fc.q9=g.t∧xs=g.es∧g.p≤4096∧g.es.length≤8192:=by
 rcases h.s with ⟨_,q⟩ | ⟨q,_⟩
 ·exact q
 ·rw [hg] at q;cases q
section
variable {H:Hp}{L:En}{z:Zr}{vn an:List ByteArray}{ds:List i7}
theorem a6a{g:Gr}{b:Bl}{xs:List Ed}(hr:RS z g b xs)(h0:0≤g.p){K:Int→Bl→List Ed→Hp→Prop}(h:∀r b' xs',RS z (frG g) b' xs'→(b'.fgreat=false→r=g.p)→K r b' xs' H):A4 b xs H K:=by
 refine a8H _ _ ?_
 unfold a1P
 obtain ⟨v,a,x,s⟩:=hr
 rcases s with ⟨hg,hp,ht,hx,p1,e1⟩ | ⟨hg,q⟩
 ·have ew:IntKind.wrap .i64 (b.fc.p5+1)=g.p+1:=by rw [hp];exact q6 h0 (by omega)
  rw [ew]
  have er:IntKind.wrap .i64 (g.p+1-1)=g.p:=by rw [N7 ⟨by omega,by omega⟩];omega
  refine ⟨fun c=>?_,fun c=>?_⟩
  ·unfold C6
   exact h _ _ _ ⟨v,a,x,.inr ⟨rfl,.inl c⟩⟩ fun q=>nomatch q
  ·unfold C6
   rw [er]
   exact h _ _ _ ⟨v,a,x,.inl ⟨hg,rfl,ht,hx,by dsimp only;omega,e1⟩⟩ fun _=>rfl
 ·refine ⟨fun c=>?_,fun c=>?_⟩
  ·unfold C6
   exact h _ _ _ ⟨v,a,x,.inr ⟨rfl,by dsimp only;omega⟩⟩ fun q=>nomatch q
  ·unfold C6
   exact h _ _ _ ⟨v,a,x,.inr ⟨hg,by dsimp only;omega⟩⟩ fun q=>by rw [show b.fgreat=false from q] at hg;cases hg
theorem a3q{g:Gr}{b:Bl}{xs:List Ed}(hr:RS z g b xs){e e':Ed}(he:b.fgreat=false→e'=e){K:Bl→List Ed→Hp→Prop}(h:∀b' xs',RS z (edG e g) b' xs'→K b' xs' H):z2 b xs e' H K:=by
 refine a9d _ _ _ ?_
 unfold a2t
 obtain ⟨v,a,x,s⟩:=hr
 have hlen:(edG e g).es.length=g.es.length+1:=by unfold edG;simp
 have hpp:(edG e g).p=g.p:=rfl
 rcases s with ⟨hg,hp,ht,hx,p1,e1⟩ | ⟨hg,q⟩
 ·refine ⟨fun c=>?_,fun c=>?_⟩
  ·unfold D4
   refine ⟨(fun q=>nomatch q),fun _=>h _ _ ⟨v,a,x,.inr ⟨rfl,?_⟩⟩⟩
   rw [hx] at c;omega
  ·unfold D4
   rw [hg,he hg]
   rw [hx] at c
   refine ⟨fun _=>⟨by rw [hx];simp only [List.length_cons,List.length_nil];omega,h _ _ ⟨v,a,x,.inl ⟨rfl,hp,ht,by rw [hx];rfl,by omega,by omega⟩⟩⟩,(fun q=>nomatch q)⟩
 ·refine ⟨fun c=>?_,fun c=>?_⟩
  ·unfold D4
   exact ⟨(fun q=>nomatch q),fun _=>h _ _ ⟨v,a,x,.inr ⟨rfl,by omega⟩⟩⟩
  ·unfold D4
   rw [hg]
   exact ⟨(fun q=>nomatch q),fun _=>h _ _ ⟨v,a,x,.inr ⟨rfl,by omega⟩⟩⟩
theorem a6b{a b k:Int}{K:Ed→Hp→Prop}(h:K (bareE a b k) H):D1 k a b H K:=by
 refine b0V _ _ _ ?_
 unfold a4O
 exact c2f (c2f h)
theorem b8M:∀(l:List ByteArray)(s:ByteArray)(i:Int)(k:Nat),(∀j x,j < k→l[j]? = some x→x≠s)→fI l s i=fI (l.drop k) s (i+k)
 | l,s,i,0,_=>by simp
 | [],s,i,k+1,_=>by simp [fI]
 | x::r,s,i,k+1,h=>by
  rw [fI,if_neg (h 0 x (by omega) rfl),List.drop_succ_cons,b8M r s (i+1) k (fun j y hj hy=>h (j+1) y (by omega) (by simpa using hy))]
  congr 1;omega
theorem c0L{b:Bl}{xs:List Ed}(hv:SlH H 1 v2 b.fc.p7 vn)(hb:vn.length≤4096){s:ByteArray}{K:Int→Hp→Prop}(h:K (fI vn s 0) H):O3 b xs s H K:=by
 refine a9e _ _ _ ?_
 unfold a2u
 have hn:=hv.1
 refine Q6 (fun st H'=>H'=H∧∃i:Nat,i≤vn.length∧st=(i:Int)∧∀j x,j < i→vn[j]? = some x→x≠s) (fun st=>vn.length-st.toNat) ⟨rfl,0,by omega,rfl,fun j x hj=>by omega⟩ ?_
 rintro st H1 next ⟨rfl,i,hi,rfl,hne⟩ hnx
 have e:=b8M vn s 0 i hne
 unfold a1k
 refine ⟨fun q=>?_,fun q=>?_⟩
 ·obtain ⟨x,hx⟩:=A8 (l:=vn) (i:=i) (by omega)
  refine ⟨by omega,by omega,x,hv.2 i x hx,fun q2=>?_,fun q2=>?_⟩
  ·obtain ⟨hlt,heq⟩:=List.getElem?_eq_some_iff.1 hx
   rw [e,List.drop_eq_getElem_cons hlt,heq,fI,if_pos q2,Int.zero_add] at h
   exact h
  ·rw [q6 (by omega) (by omega)]
   refine hnx _ _ ⟨rfl,i+1,by omega,rfl,fun j y hj hy=>?_⟩ (by omega)
   by_cases ej:j=i
   ·subst ej;rw [hx] at hy;cases hy;exact q2
   ·exact hne j y (by omega) hy
 ·obtain rfl:i=vn.length:=by omega
  unfold V9
  rw [e,List.drop_length,fI] at h
  exact h
theorem b8s{b:Bl}{xs:List Ed}(hv:SlH H 2 i5 b.fc.o9 ds)(hb:ds.length≤4096){s:ByteArray}{K:Int→Hp→Prop}(h:K (fI (ds.map (·.f6)) s 0) H):R4 b xs s H K:=by
 refine a8J _ _ _ ?_
 unfold a1S
 have hn:=hv.1
 refine Q6 (fun st H'=>H'=H∧∃i:Nat,i≤ds.length∧st=(i:Int)∧∀j x,j < i→(ds.map (·.f6))[j]? = some x→x≠s) (fun st=>ds.length-st.toNat) ⟨rfl,0,by omega,rfl,fun j x hj=>by omega⟩ ?_
 rintro st H1 next ⟨rfl,i,hi,rfl,hne⟩ hnx
 have e:=b8M (ds.map (·.f6)) s 0 i hne
 unfold a0U
 refine ⟨fun q=>?_,fun q=>?_⟩
 ·obtain ⟨x,hx⟩:=A8 (l:=ds) (i:=i) (by omega)
  have hxm:(ds.map (·.f6))[i]? = some x.f6:=by rw [List.getElem?_map,hx];rfl
  refine ⟨by omega,by omega,x,hv.2 i x hx,fun q2=>?_,fun q2=>?_⟩
  ·obtain ⟨hlt,heq⟩:=List.getElem?_eq_some_iff.1 hxm
   rw [e,List.drop_eq_getElem_cons hlt,heq,fI,if_pos q2,Int.zero_add] at h
   exact h
  ·rw [q6 (by omega) (by omega)]
   refine hnx _ _ ⟨rfl,i+1,by omega,rfl,fun j y hj hy=>?_⟩ (by omega)
   by_cases ej:j=i
   ·subst ej;rw [hxm] at hy;cases hy;exact q2
   ·exact hne j y (by omega) hy
 ·obtain rfl:i=ds.length:=by omega
  unfold U0
  rw [e,List.drop_of_length_le (by rw [List.length_map];omega),fI] at h
  exact h
structure ZH (H:Hp) (z:Zr) (L:En) (vn:List ByteArray) (ds:List i7):Prop where
 v:SlH H 1 v2 z.v vn
 a:SlH H 2 i5 z.a ds
 vb:vn.length≤4096
 ab:ds.length≤4096
 nv:L.nv=vn.length
 x:L.ex=z.x
theorem c8X{k n:Int}{s:ByteArray}{ts:List PT}(h:(plN L k n s ts).isSome=true):k=1∨k=2∨k=5:=by
 unfold plN at h
 split at h
 ·split at h
  ·omega
  split at h
  ·omega
  split at h
  ·omega
  ·cases h
 ·split at h
  ·omega
  split at h
  ·omega
  ·cases h
theorem b6A(hz:ZH H z L vn ds){g:Gr}{b:Bl}{xs:List Ed}(hr:RS z g b xs){e:f8}{t:PT}(he:EH H e t)(hf:formT t=true)(hN:Nok L vn an t){K:Op→Bool→Hp→Prop}(h1:∀o,(loT L t).pl=some o→K o true H)(h2:(loT L t).pl=none→K ⟨0,0⟩ false H):X0 b xs e H K:=by
 cases he with
 | @mk e ys ts hs hb hl hrr=>
 rw [a8z] at h1 h2
 dsimp only at h1 h2
 rw [formT,Bool.and_eq_true] at hf
 have hk:=fmE hf.1
 have hn:=hs.1
 refine a8u _ _ _ ?_
 unfold a1A
 refine ⟨fun k1=>h1 _ ?_,fun k1=>?_⟩
 ·unfold plN;split<;>rw [if_pos k1]
 by_cases k5:e.c8=5
 ·obtain ⟨t1,rfl⟩:=V4 (l:=ts) (by omega)
  obtain ⟨x1,rfl⟩:=V4 (l:=ys) (by simpa using hl)
  have hE:EltH H e.u1 0 4 (d7 x1):=hs.2 0 x1 rfl
  have hx:=hrr 0 x1 t1 rfl rfl
  cases hx with
  | @mk x1 ys us hs' hb' hl' hr'=>
   have hlt:(0:Int) < e.u1.n:=by simp only [List.length_cons,List.length_nil] at hn;omega
   refine ⟨x1,fun _=>⟨by omega,hlt,hE⟩,fun q=>⟨by omega,hlt,x1,hE,h1 _ ?_⟩,fun q=>⟨fun k2=>by omega,fun _=>h2 ?_⟩⟩
   ·simp only [Bool.and_eq_true,decide_eq_true_eq] at q
    unfold plN;dsimp only;rw [if_neg k1,if_pos q]
   ·simp only [Bool.and_eq_false_iff,decide_eq_false_iff_not] at q
    unfold plN;dsimp only;rw [if_neg k1,if_neg (by omega),if_neg (by omega)]
 ·refine ⟨e,fun q=>absurd (of_decide_eq_true q) k5,fun q=>?_,fun q=>⟨fun k2=>?_,fun k2=>h2 ?_⟩⟩
  ·simp only [Bool.and_eq_true,decide_eq_true_eq] at q;omega
  ·refine c0L (vn:=vn) (by show SlH H 1 v2 b.fc.p7 vn;rw [hr.v];exact hz.v) hz.vb ?_
   rw [(hN.var k2).1]
   refine h1 _ ?_
   unfold plN;split
   ·rw [if_neg k1,if_neg (by omega),if_pos k2]
   ·rw [if_neg k1,if_pos k2]
  ·unfold plN;split
   ·rw [if_neg k1,if_neg (by omega),if_neg k2]
   ·rw [if_neg k1,if_neg k2]
theorem b2d{e:f8}{t:PT}(he:EH H e t)(hf:formT t=true){d:Int}(h0:0≤d)(h1:d+1≤1099511627776){K:Int→Hp→Prop}(h:K (if (loT L t).pl.isSome=true then d else d+1) H):C5 e d H K:=by
 cases he with
 | @mk e ys ts hs hb hl hrr=>
 rw [a8z] at h
 dsimp only at h
 rw [formT,Bool.and_eq_true] at hf
 have hk:=fmE hf.1
 have hn:=hs.1
 refine b1T _ _ ?_
 unfold a5C
 have ew:IntKind.wrap .i64 (d+1)=d+1:=q6 h0 (by omega)
 rw [ew]
 by_cases k5:e.c8=5
 ·obtain ⟨t1,rfl⟩:=V4 (l:=ts) (by omega)
  obtain ⟨x1,rfl⟩:=V4 (l:=ys) (by simpa using hl)
  have hE:EltH H e.u1 0 4 (d7 x1):=hs.2 0 x1 rfl
  have hx:=hrr 0 x1 t1 rfl rfl
  cases hx with
  | @mk x1 ys us hs' hb' hl' hr'=>
   have hlt:(0:Int) < e.u1.n:=by simp only [List.length_cons,List.length_nil] at hn;omega
   refine ⟨x1,fun _=>⟨by omega,hlt,hE⟩,fun q=>?_,fun q=>?_⟩
   ·simp only [Bool.or_eq_true,Bool.and_eq_true,decide_eq_true_eq] at q
    have hpl:plN L e.c8 e.s7 e.f6 [PT.mk (Lab.expr x1.c8 x1.s7 x1.f6 us.length) us]=some ⟨-1,IntKind.wrap .i64 (0-x1.s7)⟩:=by
     unfold plN;dsimp only;rw [if_neg (by omega),if_pos (by omega)]
    rw [hpl] at h;exact h
   ·simp only [Bool.or_eq_false_iff,Bool.and_eq_false_iff,decide_eq_false_iff_not] at q
    have hpl:plN L e.c8 e.s7 e.f6 [PT.mk (Lab.expr x1.c8 x1.s7 x1.f6 us.length) us]=none:=by
     unfold plN;dsimp only;rw [if_neg (by omega),if_neg (by omega),if_neg (by omega)]
    rw [hpl] at h;exact h
 ·refine ⟨e,fun q=>?_,fun q=>?_,fun q=>?_⟩
  ·simp only [Bool.and_eq_true,decide_eq_true_eq] at q;exact absurd q.2 k5
  ·simp only [Bool.or_eq_true,Bool.and_eq_true,decide_eq_true_eq] at q
   rw [if_pos] at h
   ·exact h
   unfold plN
   split
   ·by_cases k1:e.c8=1
    ·rw [if_pos k1];rfl
    ·rw [if_neg k1,if_neg (by omega),if_pos (by omega)];rfl
   ·by_cases k1:e.c8=1
    ·rw [if_pos k1];rfl
    ·rw [if_neg k1,if_pos (by omega)];rfl
  ·simp only [Bool.or_eq_false_iff,Bool.and_eq_false_iff,decide_eq_false_iff_not] at q
   rw [if_neg] at h
   ·exact h
   intro hq
   have:=c8X hq
   omega
theorem c3s{t:PT}{a d:Int}{g:Gr}(h0:0≤d)(hn0:0≤L.nv)(hN:Nok L vn an t)(ht:∃k n s a cs,t=.mk (.expr k n s a) cs):dpO L (opF L (loT L t) a d g).1 d=if (loT L t).pl.isSome=true then d else d+1:=by
 obtain ⟨k,n,s,ar,cs,rfl⟩:=ht
 unfold opF
 rw [a8z]
 dsimp only
 cases hp:plN L k n s cs with
 | none=>dsimp only [Option.isSome];unfold dpO;rw [if_pos (by dsimp only;omega)];rfl
 | some o=>
  dsimp only [Option.isSome]
  unfold dpO
  rw [if_neg,if_pos rfl]
  have hlt:o.B7 < L.nv:=by
   unfold plN at hp
   split at hp
   ·split at hp
    ·cases hp;dsimp only;omega
    split at hp
    ·cases hp;dsimp only;omega
    split at hp
    ·rename_i h2
     cases hp;exact (hN.var h2).2
    ·cases hp
   ·split at hp
    ·cases hp;dsimp only;omega
    split at hp
    ·rename_i h2
     cases hp;exact (hN.var h2).2
    ·cases hp
  omega
theorem EH.ex{e:f8}{t:PT}(h:EH H e t):∃k n s a cs,t=.mk (.expr k n s a) cs:=by cases h with | mk _ _ _ _=>exact ⟨_,_,_,_,_,rfl⟩
def RInC(H:Hp)(L:En)(z:Zr)(e:f8)(t:PT):Prop:=∀(g:Gr)(b:Bl)(xs:List Ed)(dst a' a c' c d:Int)(K:Bl→List Ed→Hp→Prop),RS z g b xs→(b.fgreat=false→a'=a∧c'=c)→0≤g.p→0≤d→d+cT t≤1099511627776→(loT L t).pl=none→(∀b' xs',RS z ((loT L t).into dst a c d g) b' xs'→K b' xs' H)→a0e b xs e dst a' c' d H K
theorem b3c(hz:ZH H z L vn ds){e:f8}{t:PT}(he:EH H e t)(hf:formT t=true)(hN:Nok L vn an t)(hI:RInC H L z e t){g:Gr}{b:Bl}{xs:List Ed}(hr:RS z g b xs){a' a d:Int}(hae:b.fgreat=false→a'=a)(hp:0≤g.p)(h0:0≤d)(h1:d+cT t≤1099511627776){K:Op→Int→Bl→List Ed→Hp→Prop}
  (h:∀o r b' xs',RS z (opF L (loT L t) a d g).2.2 b' xs'→(b'.fgreat=false→o=(opF L (loT L t) a d g).1∧r=(opF L (loT L t) a d g).2.1)→K o r b' xs' H):v8 b xs e a' d H K:=by
 refine a8h _ _ _ _ _ ?_
 unfold a1h
 have hc:=G6 t
 have hgl:Gl (4*cT t) g (opF L (loT L t) a d g).2.2:=(a9W (a2B L t) a d g).mono (by omega)
 have over:b.fgreat=true→∀o,K o a' (d5 b) xs H:=fun hg o=>h _ _ _ _ (hr.cut.over hg hgl) fun q=>by rw [show b.fgreat=false from q] at hg;cases hg
 refine b6A hz hr.cut he hf hN (fun o ho=>⟨fun _=>?_,(fun q=>nomatch q)⟩) (fun ho=>⟨fun q=>over q _,fun q=>?_⟩)
 ·cases hg:b.fgreat
  ·refine h _ _ _ _ ?_ fun _=>?_
   ·unfold opF;rw [ho];exact hr.cut
   ·unfold opF;rw [ho];exact ⟨rfl,hae hg⟩
  ·exact over hg o
 ·have hg:b.fgreat=false:=q
  refine a6a hr hp fun r b1 xs1 hr1 hre=>?_
  have e1:IntKind.wrap .i64 (d+1)=d+1:=q6 h0 (by omega)
  have e2:IntKind.wrap .i64 ((b1.fc.p7.n:Int)+d)=L.nv+d:=by
   have:=hz.v.1;have:=hz.vb
   rw [hr1.v,hz.nv,← hz.v.1]
   exact N7 ⟨by omega,by omega⟩
  rw [e1,e2]
  have hr2:RS z (teG d (frG g)) (d6.mk (m3.mk b1.fc.p7 (if d+1 > b1.fc.q9 then d+1 else b1.fc.q9) b1.fc.o9 b1.fc.p5 b1.fc.u5 (Sl.mk none 0 0)) b1.fgreat) xs1:=by
   refine ⟨hr1.v,hr1.a,hr1.x,?_⟩
   rcases hr1.s with ⟨g1,p1,t1,x1,r1⟩ | r1
   ·exact .inl ⟨g1,p1,by dsimp only;rw [t1],x1,r1⟩
   ·exact .inr r1
  refine hI (teG d (frG g)) _ _ _ _ a _ g.p _ _ hr2 (fun q2=>⟨hae hg,hre q2⟩) (by dsimp only;omega) h0 h1 ho fun b3 xs3 hr3=>?_
  refine h _ _ _ _ ?_ fun q3=>?_
  ·unfold opF;rw [ho];exact hr3.cut
  ·unfold opF;rw [ho]
   refine ⟨rfl,?_⟩
   cases hg1:b1.fgreat
   ·exact hre hg1
   ·exfalso
    have hb3:b3.fgreat=false:=q3
    have hgl3:=(a2B L t).into (L.nv+d) a g.p d (teG d (frG g))
    have:=(hr2.over (by exact hg1) hgl3).s
    rcases this with ⟨q,_⟩ | ⟨_,q⟩
    ·rw [show b1.fgreat=false from q] at hg1;cases hg1
    ·have:=hr3.at_ hb3
     omega
theorem d1N{k:Int}(h0:6≤k)(h1:k≤10):IntKind.wrap .i64 (IntKind.wrap .i64 (4+k)-6)=kO k:=by
 obtain rfl | rfl | rfl | rfl | rfl:=(by omega:k=6∨k=7∨k=8∨k=9∨k=10)<;>rfl
theorem b5R(hz:ZH H z L vn ds){e:f8}{t:PT}(he:EH H e t):formT t=true→Nok L vn (ds.map (·.f6)) t→RInC H L z e t:=by
 induction he with
 | @mk e ys ts hs hxb hl hrr ih=>
 intro hf hN g b xs dst a' a c' c d K hr hae hp h0 h1 hpl h
 have hgl:Gl (4*cT (PT.mk (Lab.expr e.c8 e.s7 e.f6 ts.length) ts)-1) g ((loT L (PT.mk (Lab.expr e.c8 e.s7 e.f6 ts.length) ts)).into dst a c d g):=(a2B L _).into ..
 refine a9f _ _ _ _ _ _ _ ?_
 unfold a2v
 refine ⟨fun hg=>h _ _ (hr.cut.over hg hgl),fun hg=>?_⟩
 obtain ⟨rfl,rfl⟩:=hae hg
 clear hgl
 have hform:=hf
 rw [formT,Bool.and_eq_true] at hf
 have hk:=fmE hf.1
 have hn:=hs.1
 have hN0:=hN
 rw [a8z] at h hpl
 dsimp only at h hpl
 rw [cT] at h1
 have nk1:e.c8≠1:=fun q=>by unfold plN at hpl;split at hpl<;>rw [if_pos q] at hpl<;>cases hpl
 have nk2:e.c8≠2:=fun q=>by
  unfold plN at hpl
  split at hpl
  ·rw [if_neg nk1,if_neg (by omega),if_pos q] at hpl;cases hpl
  ·rw [if_neg nk1,if_pos q] at hpl;cases hpl
 refine a6b ⟨fun k3=>?_,fun k3=>⟨fun k4=>?_,fun k4=>⟨fun k5=>?_,fun k5=>?_⟩⟩⟩
 ·obtain rfl:ts=[]:=List.length_eq_zero_iff.1 (by omega)
  unfold A5
  refine a3q hr.cut (fun _=>rfl) fun b1 xs1 hr1=>h _ _ ?_
  have:inN L e.c8 e.f6 ([].map (loT L)) dst a' c' d g=edG (c7.mk a' c' 9 dst (-1) 0 nO nO) g:=by
   unfold inN
   simp only [List.map_nil]
   rw [if_neg (by omega),k3];rfl
  rw [this];exact hr1.cut
 ·obtain ⟨t1,rfl⟩:=V4 (l:=ts) (by omega)
  obtain ⟨x1,rfl⟩:=V4 (l:=ys) (by simpa using hl)
  simp only [List.length_cons,List.length_nil] at hn
  rw [formTs,formTs,Bool.and_true] at hf
  rw [cTs,cTs] at h1
  have hx:=hrr 0 x1 t1 rfl rfl
  have hN1:=hN.kid (t:=t1) (List.mem_singleton_self _)
  refine b8s (ds:=ds) (by show SlH H 2 i5 b.fc.o9 ds;rw [hr.a];exact hz.a) hz.ab ⟨by omega,by omega,x1,hs.2 0 x1 rfl,?_⟩
  refine b3c hz hx hf.2 hN1 (ih 0 x1 t1 rfl rfl hf.2 hN1) hr.cut (a:=a') (fun _=>rfl) hp h0 (by omega) fun o r b1 xs1 hr1 ho=>?_
  unfold A5
  rw [hN0.item k4]
  refine a3q (e:=⟨(opF L (loT L t1) a' d g).2.1,c',10,dst,L.af e.f6,0,(opF L (loT L t1) a' d g).1,nO⟩) ⟨hr1.v,hr1.a,hr1.x,hr1.s⟩ (fun q=>by obtain ⟨q1,q2⟩:=ho q;rw [q1,q2]) fun b2 xs2 hr2=>h _ _ ?_
  have:inN L e.c8 e.f6 ([t1].map (loT L)) dst a' c' d g=edG ⟨(opF L (loT L t1) a' d g).2.1,c',10,dst,L.af e.f6,0,(opF L (loT L t1) a' d g).1,nO⟩ (opF L (loT L t1) a' d g).2.2:=by
   unfold inN
   simp only [List.map_cons,List.map_nil]
   rw [if_pos k4,k4];rfl
  rw [this];exact hr2.cut
 ·obtain ⟨t1,rfl⟩:=V4 (l:=ts) (by omega)
  obtain ⟨x1,rfl⟩:=V4 (l:=ys) (by simpa using hl)
  simp only [List.length_cons,List.length_nil] at hn
  rw [formTs,formTs,Bool.and_true] at hf
  rw [cTs,cTs] at h1
  have hx:=hrr 0 x1 t1 rfl rfl
  have hN1:=hN.kid (t:=t1) (List.mem_singleton_self _)
  refine ⟨by omega,by omega,x1,hs.2 0 x1 rfl,?_⟩
  refine b3c hz hx hf.2 hN1 (ih 0 x1 t1 rfl rfl hf.2 hN1) hr.cut (a:=a') (fun _=>rfl) hp h0 (by omega) fun o r b1 xs1 hr1 ho=>?_
  unfold A5
  refine a3q (e:=⟨(opF L (loT L t1) a' d g).2.1,c',3,dst,-1,0,(opF L (loT L t1) a' d g).1,nO⟩) ⟨hr1.v,hr1.a,hr1.x,hr1.s⟩ (fun q=>by obtain ⟨q1,q2⟩:=ho q;rw [q1,q2]) fun b2 xs2 hr2=>h _ _ ?_
  have:inN L e.c8 e.f6 ([t1].map (loT L)) dst a' c' d g=edG ⟨(opF L (loT L t1) a' d g).2.1,c',3,dst,-1,0,(opF L (loT L t1) a' d g).1,nO⟩ (opF L (loT L t1) a' d g).2.2:=by
   unfold inN
   simp only [List.map_cons,List.map_nil]
   rw [if_neg k4,k5];rfl
  rw [this];exact hr2.cut
 ·obtain ⟨t1,t2,rfl⟩:=a3I (l:=ts) (by omega)
  obtain ⟨x1,x2,rfl⟩:=a3I (l:=ys) (by simpa using hl)
  simp only [List.length_cons,List.length_nil] at hn
  rw [formTs,formTs,formTs,Bool.and_true,Bool.and_eq_true] at hf
  rw [cTs,cTs,cTs] at h1
  have hx:=hrr 0 x1 t1 rfl rfl
  have hy:=hrr 1 x2 t2 rfl rfl
  have hN1:=hN.kid (t:=t1) (by simp)
  have hN2:=hN.kid (t:=t2) (by simp)
  have hc:=G6 t1;have hc2:=G6 t2
  have hdp:=c3s (a:=a') (g:=g) h0 (by rw [hz.nv];omega) hN1 hx.ex
  have gl1:Gl (4*cT t1) g (opF L (loT L t1) a' d g).2.2:=(a9W (a2B L t1) a' d g).mono (by omega)
  refine ⟨by omega,by omega,x1,hs.2 0 x1 rfl,?_⟩
  refine b3c hz hx hf.2.1 hN1 (ih 0 x1 t1 rfl rfl hf.2.1 hN1) hr.cut (a:=a') (fun _=>rfl) hp h0 (by omega) fun o r b1 xs1 hr1 ho=>?_
  refine ⟨by omega,by omega,x2,hs.2 1 x2 rfl,b2d (L:=L) hx hf.2.1 h0 (by omega) ?_⟩
  rw [←hdp]
  have hd2:d≤dpO L (opF L (loT L t1) a' d g).1 d∧dpO L (opF L (loT L t1) a' d g).1 d≤d+1:=by unfold dpO;split<;>omega
  refine b3c hz hy hf.2.2 hN2 (ih 1 x2 t2 rfl rfl hf.2.2 hN2) hr1.cut (a:=(opF L (loT L t1) a' d g).2.1) (fun q=>(ho q).2) (by have:=gl1.p0;omega) (by omega) (by omega) fun o2 r2 b2 xs2 hr2 ho2=>?_
  unfold A5
  have hb1:b2.fgreat=false→b1.fgreat=false:=fun q=>by
   cases hg1:b1.fgreat
   ·rfl
   ·exfalso
    have gl2:Gl _ _ _:=a9W (L:=L) (a2B L t2) (opF L (loT L t1) a' d g).2.1 (dpO L (opF L (loT L t1) a' d g).1 d) (opF L (loT L t1) a' d g).2.2
    have:=(hr1.over hg1 gl2).s
    rcases this with ⟨q2,_⟩ | ⟨_,q2⟩
    ·rw [hg1] at q2;cases q2
    ·have:=hr2.at_ q;omega
  refine a3q (e:=⟨(twF L (loT L t1) (loT L t2) a' d g).2.2.1,c',kO e.c8,dst,-1,0,(twF L (loT L t1) (loT L t2) a' d g).1,(twF L (loT L t1) (loT L t2) a' d g).2.1⟩) ⟨hr2.v,hr2.a,hr2.x,hr2.s⟩ (fun q=>by
   obtain ⟨q1,q2⟩:=ho (hb1 q)
   obtain ⟨q3,q4⟩:=ho2 q
   rw [d1N (by omega) (by omega),q1,q3,q4];rfl) fun b3 xs3 hr3=>h _ _ ?_
  have:inN L e.c8 e.f6 ([t1,t2].map (loT L)) dst a' c' d g=edG ⟨(twF L (loT L t1) (loT L t2) a' d g).2.2.1,c',kO e.c8,dst,-1,0,(twF L (loT L t1) (loT L t2) a' d g).1,(twF L (loT L t1) (loT L t2) a' d g).2.1⟩ (twF L (loT L t1) (loT L t2) a' d g).2.2.2:=by
   unfold inN
   simp only [List.map_cons,List.map_nil]
   rw [if_neg k4]
  rw [this];exact hr3.cut
end
end Go.Proofs.YtaokfhdinhimfaaGreatDoor
