/- The document's graph of conditions, statements, programs: it is the plain one, or too great. Contracts off the printed formulas. -/
import Derived.Test.YtaokfhdinhimfaaGreatDooryLHe
import Derived.Test.YtaokfhdinhimfaaGreatDooryLH5
namespace Go.Proofs.YtaokfhdinhimfaaGreatDoor
open Go.RowKit
set_option maxRecDepth 100000
set_option maxHeartbeats 2000000
theorem RS.back{z:Zr}{g g':Gr}{b b':Bl}{xs xs':List Ed}{n:Nat}(h:RS z g b xs)(l:Gl n g g')(h':RS z g' b' xs')(q:b'.fgreat=false):b.fgreat=false:=by
 cases hg:b.fgreat
 ·rfl
 ·exfalso
  rcases (h.over hg l).s with ⟨q2,_⟩ | ⟨_,q2⟩
  ·rw [hg] at q2;cases q2
  ·have:=h'.at_ q;omega
theorem d1R{op:Int}(h0:1≤op)(h1:op≤6):notG op=notO op:=by
 obtain rfl | rfl | rfl | rfl | rfl | rfl:=(by omega:op=1∨op=2∨op=3∨op=4∨op=5∨op=6)<;>rfl
section
variable {H:Hp}{L:En}{z:Zr}{vn:List ByteArray}{ds:List i7}
theorem c2g(hz:ZH H z L vn ds){s:Sl}{x1 x2:f8}{t1 t2:PT}(hs:SlH H 4 d7 s [x1,x2])(e1:EH H x1 t1)(e2:EH H x2 t2)(f1:formT t1=true)(f2:formT t2=true)(n1:Nok L vn (ds.map (·.f6)) t1)(n2:Nok L vn (ds.map (·.f6)) t2){g:Gr}{b:Bl}{xs:List Ed}(hr:RS z g b xs){a' a d:Int}(hae:b.fgreat=false→a'=a)(hp:0≤g.p)(h0:0≤d)(h1:d+(cT t1+cT t2+1:Nat)≤1099511627776){K2:Op→Op→Int→Bl→List Ed→Hp→Prop}
  (h:∀o o2 r b' xs',RS z (twF L (loT L t1) (loT L t2) a d g).2.2.2 b' xs'→(b'.fgreat=false→o=(twF L (loT L t1) (loT L t2) a d g).1∧o2=(twF L (loT L t1) (loT L t2) a d g).2.1∧r=(twF L (loT L t1) (loT L t2) a d g).2.2.1)→K2 o o2 r b' xs' H):
  v8 b xs x1 a' d H (fun o r b1 xs1 H1=>(0:Int)≤1∧(1:Int) < s.n∧∃f:f8,EltH H1 s 1 4 (d7 f)∧C5 x1 d H1 (fun d2 H2=>v8 (d5 b1) xs1 f r d2 H2 (fun o2 r2 b2 xs2 H3=>K2 o o2 r2 b2 xs2 H3))):=by
 have hn:s.n=2:=hs.1
 have hc:=G6 t1;have hc2:=G6 t2
 have hdp:=c3s (a:=a) (g:=g) h0 (by rw [hz.nv];omega) n1 e1.ex
 have gl1:Gl (4*cT t1) g (opF L (loT L t1) a d g).2.2:=(a9W (a2B L t1) a d g).mono (by omega)
 have gl2:=a9W (L:=L) (a2B L t2) (opF L (loT L t1) a d g).2.1 (dpO L (opF L (loT L t1) a d g).1 d) (opF L (loT L t1) a d g).2.2
 refine b3c hz e1 f1 n1 (b5R hz e1 f1 n1) hr hae hp h0 (by omega) fun o r b1 xs1 hr1 ho=>?_
 refine ⟨by omega,by omega,x2,hs.2 1 x2 rfl,b2d (L:=L) e1 f1 h0 (by omega) ?_⟩
 rw [←hdp]
 have hd2:d≤dpO L (opF L (loT L t1) a d g).1 d∧dpO L (opF L (loT L t1) a d g).1 d≤d+1:=by unfold dpO;split<;>omega
 refine b3c hz e2 f2 n2 (b5R hz e2 f2 n2) hr1.cut (a:=(opF L (loT L t1) a d g).2.1) (fun q=>(ho q).2) (by have:=gl1.p0;omega) (by omega) (by omega) fun o2 r2 b2 xs2 hr2 ho2=>?_
 exact h _ _ _ _ _ hr2 fun q=>⟨(ho (hr1.back gl2 hr2 q)).1,ho2 q⟩
def RCoC(H:Hp)(L:En)(z:Zr)(c:j8)(t:PT):Prop:=∀(g:Gr)(b:Bl)(xs:List Ed)(a' a y' y n' n:Int)(K:Bl→List Ed→Hp→Prop),RS z g b xs→(b.fgreat=false→a'=a∧y'=y∧n'=n)→0≤g.p→cT t≤1099511627776→(∀b' xs',RS z ((loT L t).co a y n g) b' xs'→K b' xs' H)→A7 b xs c a' y' n' H K
theorem b2r(hz:ZH H z L vn ds){c:j8}{t:PT}(he:CH H c t):formT t=true→Nok L vn (ds.map (·.f6)) t→RCoC H L z c t:=by
 induction he with
 | @mk c ys ts zs us hs hxb hr hy hyb hl hrc ih=>
 intro hf hN g b xs a' a y' y n' n K hrs hae hp h1 h
 have hgl:Gl (4*cT (PT.mk (Lab.cond c.c8 c.fOp ts.length us.length) (ts++us))-1) g ((loT L (PT.mk (Lab.cond c.c8 c.fOp ts.length us.length) (ts++us))).co a y n g):=(a2B L _).co ..
 refine a9g _ _ _ _ _ _ ?_
 unfold a2w
 refine ⟨fun hg=>h _ _ (hrs.cut.over hg hgl),fun hg=>?_⟩
 obtain ⟨rfl,rfl,rfl⟩:=hae hg
 clear hgl
 rw [b5O] at h
 dsimp only at h
 rw [formT,Bool.and_eq_true] at hf
 have hk:=fmC hf.1
 have hn:=hs.1
 have hm:=hy.1
 have hr1:=hr.1
 rw [cT] at h1
 unfold coN at h
 refine ⟨fun q=>?_,fun n1=>⟨fun q=>?_,fun n2=>⟨fun q=>?_,fun n4=>⟨fun q=>?_,fun n5=>⟨fun q=>?_,fun n6=>⟨fun q=>?_,fun n3=>by omega⟩⟩⟩⟩⟩⟩
 ·simp only [if_pos q] at h
  exact a6b (a3q hrs.cut (fun _=>rfl) fun b1 xs1 hr1=>h _ _ hr1.cut)
 ·simp only [if_neg n1,if_pos q] at h
  exact a6b (a3q hrs.cut (fun _=>rfl) fun b1 xs1 hr1=>h _ _ hr1.cut)
 ·simp only [if_neg n1,if_neg n2] at h
  obtain rfl:ts=[]:=List.length_eq_zero_iff.1 (by omega)
  obtain ⟨u,rfl⟩:=V4 (l:=us) (by omega)
  obtain ⟨w,rfl⟩:=V4 (l:=zs) (by simpa using hl)
  simp only [List.nil_append,formTs,Bool.and_true,cTs,List.length_cons,List.length_nil] at hf h1 hm
  simp only [List.nil_append,List.map_cons,List.map_nil,if_pos q] at h
  have hNu:=hN.kid (t:=u) (by simp)
  exact ⟨by omega,by omega,w,hy.2 0 w rfl,ih 0 w u rfl rfl hf.2 hNu g _ _ _ _ _ _ _ _ _ hrs.cut (fun _=>⟨rfl,rfl,rfl⟩) hp (by omega) fun b1 xs1 hr1=>h _ _ hr1.cut⟩
 ·simp only [if_neg n1,if_neg n2] at h
  obtain rfl:ts=[]:=List.length_eq_zero_iff.1 (by omega)
  obtain ⟨u,v,rfl⟩:=a3I (l:=us) (by omega)
  obtain ⟨w,w2,rfl⟩:=a3I (l:=zs) (by simpa using hl)
  simp only [List.nil_append,formTs,Bool.and_true,Bool.and_eq_true,cTs,List.length_cons,List.length_nil] at hf h1 hm
  simp only [List.nil_append,List.map_cons,List.map_nil,if_pos q] at h
  have hNu:=hN.kid (t:=u) (by simp)
  have hNv:=hN.kid (t:=v) (by simp)
  have g1:=(a2B L u).co a' g.p n' (frG g)
  refine a6a hrs.cut hp fun r b1 xs1 hr1 he1=>⟨by omega,by omega,w,hy.2 0 w rfl,?_⟩
  refine ih 0 w u rfl rfl hf.2.1 hNu (frG g) _ _ _ a' _ g.p _ n' _ hr1.cut (fun q=>⟨rfl,he1 q,rfl⟩) (by dsimp only;omega) (by omega) fun b2 xs2 hr2=>⟨by omega,by omega,w2,hy.2 1 w2 rfl,?_⟩
  exact ih 1 w2 v rfl rfl hf.2.2 hNv _ _ _ _ g.p _ y' _ n' _ hr2.cut (fun q=>⟨he1 (hr1.cut.back g1 hr2 q),rfl,rfl⟩) (by have:=g1.p0;dsimp only at this;omega) (by omega) fun b3 xs3 hr3=>h _ _ hr3.cut
 ·simp only [if_neg n1,if_neg n2] at h
  obtain rfl:ts=[]:=List.length_eq_zero_iff.1 (by omega)
  obtain ⟨u,v,rfl⟩:=a3I (l:=us) (by omega)
  obtain ⟨w,w2,rfl⟩:=a3I (l:=zs) (by simpa using hl)
  simp only [List.nil_append,formTs,Bool.and_true,Bool.and_eq_true,cTs,List.length_cons,List.length_nil] at hf h1 hm
  simp only [List.nil_append,List.map_cons,List.map_nil,if_neg n5,if_pos q] at h
  have hNu:=hN.kid (t:=u) (by simp)
  have hNv:=hN.kid (t:=v) (by simp)
  have g1:=(a2B L u).co a' y' g.p (frG g)
  refine a6a hrs.cut hp fun r b1 xs1 hr1 he1=>⟨by omega,by omega,w,hy.2 0 w rfl,?_⟩
  refine ih 0 w u rfl rfl hf.2.1 hNu (frG g) _ _ _ a' _ y' _ g.p _ hr1.cut (fun q=>⟨rfl,rfl,he1 q⟩) (by dsimp only;omega) (by omega) fun b2 xs2 hr2=>⟨by omega,by omega,w2,hy.2 1 w2 rfl,?_⟩
  exact ih 1 w2 v rfl rfl hf.2.2 hNv _ _ _ _ g.p _ y' _ n' _ hr2.cut (fun q=>⟨he1 (hr1.cut.back g1 hr2 q),rfl,rfl⟩) (by have:=g1.p0;dsimp only at this;omega) (by omega) fun b3 xs3 hr3=>h _ _ hr3.cut
 ·simp only [if_neg n1,if_neg n2] at h
  obtain rfl:us=[]:=List.length_eq_zero_iff.1 (by omega)
  obtain ⟨u,v,rfl⟩:=a3I (l:=ts) (by omega)
  obtain ⟨w,w2,rfl⟩:=a3I (l:=ys) (by omega)
  simp only [List.append_nil,formTs,Bool.and_true,Bool.and_eq_true,cTs,List.length_cons,List.length_nil] at hf h1 hn
  simp only [List.append_nil,List.map_cons,List.map_nil,if_neg n5,if_neg n6] at h
  have hNu:=hN.kid (t:=u) (by simp)
  have hNv:=hN.kid (t:=v) (by simp)
  refine ⟨by omega,by omega,w,hs.2 0 w rfl,?_⟩
  refine c2g hz hs (hr.2 0 w u rfl rfl) (hr.2 1 w2 v rfl rfl) hf.2.1 hf.2.2 hNu hNv hrs.cut (a:=a') (fun _=>rfl) hp (by omega) (by omega) fun o o2 r b1 xs1 hr2 ho=>?_
  unfold W0
  refine a6b (a3q (e:=⟨(twF L (loT L u) (loT L v) a' 0 g).2.2.1,y',12,-1,-1,c.fOp,(twF L (loT L u) (loT L v) a' 0 g).1,(twF L (loT L u) (loT L v) a' 0 g).2.1⟩) ⟨hr2.v,hr2.a,hr2.x,hr2.s⟩ (fun q=>by obtain ⟨q1,q2,q3⟩:=ho q;rw [q1,q2,q3]) fun b3 xs3 hr3=>c8W ?_)
  refine a3q (e:=⟨(twF L (loT L u) (loT L v) a' 0 g).2.2.1,n',12,-1,-1,notO c.fOp,(twF L (loT L u) (loT L v) a' 0 g).1,(twF L (loT L u) (loT L v) a' 0 g).2.1⟩) hr3.cut (fun q=>by
   obtain ⟨q1,q2,q3⟩:=ho (hr2.back (a5Y _ _) hr3 q)
   rw [q1,q2,q3,d1R (by omega) (by omega)]) fun b4 xs4 hr4=>h _ _ ?_
  unfold asN
  exact hr4.cut
theorem b4b{g:Gr}{b:Bl}{xs:List Ed}(hr:RS z g b xs){s:Sl}{fs:List Fs}(hs:s.n=fs.length){tg' tg:Int}(ht:b.fgreat=false→tg'=tg)(h0:0≤g.p){K:Int→Bl→List Ed→Hp→Prop}(h:∀r b' xs',RS z (begG fs tg g).2 b' xs'→(b'.fgreat=false→r=(begG fs tg g).1)→K r b' xs' H):Q5 b xs s tg' H K:=by
 refine a8v _ _ _ _ ?_
 unfold a1B
 cases fs with
 | nil=>exact ⟨fun _=>h _ _ _ hr.cut ht,fun q=>by simp only [List.length_nil] at hs;omega⟩
 | cons f fs=>
  simp only [List.length_cons] at hs
  exact ⟨fun q=>by omega,fun _=>a6a hr.cut h0 fun r b1 xs1 hr1 he=>h _ _ _ hr1.cut he⟩
def RStC(H:Hp)(L:En)(z:Zr)(x:i8)(t:PT):Prop:=∀(g:Gr)(b:Bl)(xs:List Ed)(a tg:Int)(K:Bl→List Ed→Hp→Prop),RS z g b xs→b.fgreat=false→0≤g.p→cT t≤1099511627776→(∀b' xs',RS z ((loT L t).st a tg g) b' xs'→K b' xs' H)→a2k b xs x a tg H K
theorem b8t{s:Sl}{xs:List i8}{vs:List PT}(hs:SlH H 6 g7 s xs)(hl:xs.length=vs.length)(hc:∀(i:Nat)(x:i8)(t:PT),xs[i]? = some x→vs[i]? = some t→RStC H L z x t)(hv:1≤vs.length)(h1:cTs vs≤1099511627776){g:Gr}{b:Bl}{ed:List Ed}(hr:RS z g b ed){a' a tg' tg:Int}(hae:b.fgreat=false→a'=a∧tg'=tg)(h0:0≤g.p){K:Bl→List Ed→Hp→Prop}
  (h:∀b' xs',RS z (blkG (vs.map (loT L)) a tg g) b' xs'→K b' xs' H):Y3 b ed s a' tg' H K:=by
 refine a8L _ _ _ _ _ ?_
 unfold a1U
 have hn:=hs.1
 have hlen:=a7P vs
 have hfl:(vs.map (loT L)).length=vs.length:=List.length_map ..
 refine Q6 (fun st H'=>H'=H∧∃(i:Nat)(cs:List Int)(b1:Bl)(e1:List Ed),i+1≤vs.length∧st=(cs,((i+1:Nat):Int),b1.fc.p7,b1.fc.q9,b1.fc.o9,b1.fc.p5,b1.fc.u5,e1,b1.fgreat)∧RS z ⟨g.p+i,g.t,g.es⟩ b1 e1∧cs.length=i∧(b1.fgreat=false→b.fgreat=false∧cs=(List.range i).map (fun(j:Nat)=>g.p+(j:Int)))) (fun st=>vs.length-st.2.1.toNat)
  ⟨rfl,0,[],b,ed,hv,rfl,by simpa using hr,rfl,fun q=>⟨q,rfl⟩⟩ ?_
 rintro st H1 next ⟨rfl,i,cs,b1,e1,hi,rfl,hr1,hcl,hce⟩ hnx
 dsimp only
 unfold U3
 refine ⟨fun q=>?_,fun q=>?_⟩
 ·refine a6a hr1.cut (by dsimp only;omega) fun r b2 e2 hr2 hre=>⟨by simp only [List.length_cons,List.length_nil];omega,?_⟩
  rw [q6 (by omega) (by omega)]
  have hr2':RS z ⟨g.p+((i+1:Nat):Int),g.t,g.es⟩ b2 e2:=by
   have e:frG ⟨g.p+(i:Int),g.t,g.es⟩=⟨g.p+((i+1:Nat):Int),g.t,g.es⟩:=by unfold frG;congr 1;dsimp only;omega
   rw [←e];exact hr2
  refine hnx _ _ ⟨rfl,i+1,cs++[r],b2,e2,by omega,rfl,hr2',by simp [hcl],fun q2=>?_⟩ (by dsimp only;omega)
  have hb1:=hr1.back (a6M _) hr2 q2
  obtain ⟨q3,q4⟩:=hce hb1
  refine ⟨q3,?_⟩
  rw [q4,hre q2,List.range_succ,List.map_append];rfl
 have hin:i=vs.length-1:=by omega
 unfold U2
 refine ⟨by simp only [List.length_cons,List.length_nil];omega,?_⟩
 unfold blkG at h
 rw [hfl] at h
 rw [hin] at hr1
 have final:∀(j:Nat)(g':Gr)(b':Bl)(e':List Ed),RS z g' b' e'→b'.fgreat=true→blG ((vs.map (loT L)).drop j) (atP a tg g.p vs.length j) (g.p+j) tg g'=blG (vs.map (loT L)) a g.p tg ⟨g.p+(vs.length-1:Nat),g.t,g.es⟩→K (d6.mk (m3.mk b'.fc.p7 b'.fc.q9 b'.fc.o9 b'.fc.p5 b'.fc.u5 (Sl.mk none 0 0)) b'.fgreat) e' H1:=by
  intro j g' b' e' hr' hg' he'
  refine h _ _ ?_
  rw [←he']
  exact hr'.cut.over hg' (c3n ((b4C L vs).drop j) _ _ _ _)
 refine Q6 (fun st H'=>H'=H1∧∃(j:Nat)(fr:Int)(g':Gr)(b':Bl)(e':List Ed),j≤vs.length∧st=(fr,(j:Int),b'.fc.p7,b'.fc.q9,b'.fc.o9,b'.fc.p5,b'.fc.u5,e',b'.fgreat)∧RS z g' b' e'∧0≤g'.p∧(b'.fgreat=false→b1.fgreat=false∧fr=atP a tg g.p vs.length j)∧
  blG ((vs.map (loT L)).drop j) (atP a tg g.p vs.length j) (g.p+j) tg g'=blG (vs.map (loT L)) a g.p tg ⟨g.p+(vs.length-1:Nat),g.t,g.es⟩) (fun st=>vs.length-st.2.1.toNat)
  ⟨rfl,0,a',⟨g.p+(vs.length-1:Nat),g.t,g.es⟩,b1,e1,by omega,rfl,hr1,by dsimp only;omega,fun q2=>⟨q2,(hae (hce q2).1).1⟩,by simp [atP]⟩ ?_
 rintro st H2 next2 ⟨rfl,j,fr,g',b',e',hj,rfl,hr',hp',hfr,hg⟩ hnx2
 dsimp only
 unfold U1
 refine ⟨fun q3=>?_,fun q3=>?_⟩
 ·simp only [Bool.and_eq_true,decide_eq_true_eq,Bool.not_eq_true'] at q3
  obtain ⟨q3,q4⟩:=q3
  obtain ⟨hb1,rfl⟩:=hfr q4
  obtain ⟨hb0,hcs⟩:=hce hb1
  obtain ⟨_,rfl⟩:=hae hb0
  have hjv:j < vs.length:=by omega
  obtain ⟨x,hx⟩:=A8 (l:=xs) (i:=j) (by omega)
  obtain ⟨t,ht⟩:=A8 (l:=vs) (i:=j) hjv
  have hft:(vs.map (loT L))[j]? = some (loT L t):=by rw [List.getElem?_map,ht];rfl
  rw [←hfl,c5n hft,hfl] at hg
  have ew:IntKind.wrap .i64 ((j:Int)+1)=((j+1:Nat):Int):=by rw [q6 (by omega) (by omega)];omega
  have hat:(cs++[tg'])[j]? = some (atP a tg' g.p vs.length (j+1)):=by
   have:=c0K a tg' g.p vs.length (j+1) hv (by omega)
   rw [List.cons_append,List.getElem?_cons_succ,← hin,← hcs] at this
   exact this
  have hct:cT t≤cTs vs:=by
   have:=a9S vs j;have:=b2c ht;omega
  have gl1:=(a2B L t).st (atP a tg' g.p vs.length j) (atP a tg' g.p vs.length (j+1)) g'
  refine ⟨by omega,by omega,x,hs.2 j x hx,by omega,_,hat,hc j x t hx ht g' _ _ _ _ _ hr'.cut q4 hp' (by omega) fun b2 e2 hr2=>⟨by omega,_,hat,?_⟩⟩
  rw [ew]
  refine hnx2 _ _ ⟨rfl,j+1,_,_,b2,e2,by omega,rfl,hr2,by have:=gl1.p0;omega,fun _=>⟨hb1,rfl⟩,hg⟩ (by dsimp only;omega)
 ·cases hg':b'.fgreat
  ·rw [hg'] at q3
   simp only [Bool.not_false,Bool.and_true,decide_eq_false_iff_not] at q3
   obtain rfl:j=vs.length:=by omega
   rw [List.drop_of_length_le (by omega),blG] at hg
   refine h _ _ ?_
   rw [←hg]
   have:=hr'.cut
   unfold d5 at this
   rw [hg'] at this
   exact this
  ·have:=final j g' b' e' hr' hg' hg
   rw [hg'] at this
   exact this
theorem b4G{s:Sl}{xs:List i8}{vs:List PT}(hs:SlH H 6 g7 s xs)(hl:xs.length=vs.length)(hc:∀(i:Nat)(x:i8)(t:PT),xs[i]? = some x→vs[i]? = some t→RStC H L z x t)(h1:cTs vs≤1099511627776){g:Gr}{b:Bl}{ed:List Ed}(hr:RS z g b ed){a' a tg' tg:Int}(hae:b.fgreat=false→a'=a∧tg'=tg)(h0:0≤g.p){K:Bl→List Ed→Hp→Prop}
  (h:∀b' xs',RS z (blkG (vs.map (loT L)) a tg g) b' xs'→K b' xs' H):R5 b ed s a' tg' H K:=by
 refine a8I _ _ _ _ _ ?_
 unfold a1Q
 have hn:=hs.1
 refine ⟨fun q=>b8t hs hl hc (by omega) h1 hr.cut hae h0 fun b' xs' hr'=>h _ _ hr'.cut,fun q=>?_⟩
 obtain rfl:vs=[]:=List.length_eq_zero_iff.1 (by omega)
 rw [List.map_nil,b5Q] at h
 exact h _ _ hr.cut
theorem Nok.sname{L:En}{vn an:List ByteArray}{s:ByteArray}{a b c d:Nat}{cs:List PT}{k:Int}(h:Nok L vn an (.mk (.stmt k s a b c d) cs)):(k=1→fI vn s 0=L.vf s)∧(k=2→fI an s 0=L.af s):=by
 refine ⟨fun hk=>?_,fun hk=>?_⟩
 ·subst hk
  exact ((h ⟨s,false⟩ (by rw [uT];exact List.mem_append_left _ (by simp [useL]))).1 rfl).1
 ·subst hk
  exact (h ⟨s,true⟩ (by rw [uT];exact List.mem_append_left _ (by simp [useL]))).2 rfl
theorem c5r(hz:ZH H z L vn ds){x:i8}{t:PT}(he:SH H x t):formT t=true→Nok L vn (ds.map (·.f6)) t→RStC H L z x t:=by
 induction he with
 | @mk s ys ts zs us xb bs vs ws hs hxb hr hy hyb hry hz1 hzb hzl hzr hw1 hwb hwl hwr ih1 ih2=>
 intro hf hN g b xs a tg K hrs hg hp h1 h
 rw [b5P] at h
 dsimp only at h
 rw [formT,Bool.and_eq_true] at hf
 have hk:=fmS (by omega) (by omega) hf.1
 have hn:=hs.1;have hm:=hy.1;have hrl:=hr.1;have hyl:=hry.1;have hv1:=hz1.1;have hw1':=hw1.1
 have hsn:=hN.sname
 rw [cT] at h1
 have hfv:∀{s':ByteArray}{K':Int→Hp→Prop},K' (fI vn s' 0) H→O3 (d5 b) xs s' H K':=fun hk'=>c0L (vn:=vn) (by show SlH H 1 v2 b.fc.p7 vn;rw [hrs.v];exact hz.v) hz.vb hk'
 have hfa:∀{s':ByteArray}{K':Int→Hp→Prop},K' (fI (ds.map (·.f6)) s' 0) H→R4 (d5 b) xs s' H K':=fun hk'=>b8s (ds:=ds) (by show SlH H 2 i5 b.fc.o9 ds;rw [hrs.a];exact hz.a) hz.ab hk'
 refine a8W _ _ _ _ _ ?_
 unfold a2m
 refine ⟨fun q=>?_,fun n7=>⟨fun q=>?_,fun n1=>⟨fun q=>?_,fun n2=>⟨fun q=>?_,fun n3=>⟨fun q=>?_,fun n4=>⟨fun q=>?_,fun n5=>⟨fun q=>?_,fun n6=>by omega⟩⟩⟩⟩⟩⟩⟩
 ·obtain rfl:us=[]:=List.length_eq_zero_iff.1 (by omega)
  obtain rfl:ts=[]:=List.length_eq_zero_iff.1 (by omega)
  obtain rfl:vs=[]:=List.length_eq_zero_iff.1 (by omega)
  obtain rfl:ws=[]:=List.length_eq_zero_iff.1 (by omega)
  exact a6b (a3q hrs.cut (fun _=>rfl) fun b1 xs1 hr1=>h _ _ hr1.cut)
 ·obtain rfl:us=[]:=List.length_eq_zero_iff.1 (by omega)
  obtain rfl:vs=[]:=List.length_eq_zero_iff.1 (by omega)
  obtain rfl:ws=[]:=List.length_eq_zero_iff.1 (by omega)
  obtain ⟨u,rfl⟩:=V4 (l:=ts) (by omega)
  obtain ⟨y,rfl⟩:=V4 (l:=ys) (by omega)
  simp only [List.nil_append,List.append_nil,formTs,Bool.and_true,cTs,List.length_cons,List.length_nil] at hf h1 hn
  simp only [List.nil_append,List.append_nil,List.map_cons,List.map_nil] at h
  unfold stN at h
  dsimp only at h
  rw [if_pos q] at h
  have hNu:=hN.kid (t:=u) (by simp)
  have hyu:=hr.2 0 y u rfl rfl
  refine ⟨by omega,by omega,y,hs.2 0 y rfl,b6A hz hrs.cut hyu hf.2 hNu (fun o ho=>⟨(fun q2=>nomatch q2),fun _=>?_⟩) (fun ho=>⟨fun _=>?_,(fun q2=>nomatch q2)⟩)⟩
  ·rw [ho] at h
   refine a6b (hfv ?_)
   rw [hsn.1 q]
   exact a3q (e:=⟨a,tg,2,L.vf s.f6,-1,0,o,nO⟩) hrs.cut (fun _=>rfl) fun b1 xs1 hr1=>h _ _ hr1.cut
  ·rw [ho] at h
   refine hfv ?_
   rw [hsn.1 q]
   exact b5R hz hyu hf.2 hNu g _ _ _ a a tg tg 0 _ hrs.cut (fun _=>⟨rfl,rfl⟩) hp (by omega) (by omega) ho fun b1 xs1 hr1=>h _ _ hr1.cut
 ·obtain rfl:us=[]:=List.length_eq_zero_iff.1 (by omega)
  obtain rfl:vs=[]:=List.length_eq_zero_iff.1 (by omega)
  obtain rfl:ws=[]:=List.length_eq_zero_iff.1 (by omega)
  obtain ⟨u,v,rfl⟩:=a3I (l:=ts) (by omega)
  obtain ⟨y,y2,rfl⟩:=a3I (l:=ys) (by omega)
  simp only [List.nil_append,List.append_nil,formTs,Bool.and_true,Bool.and_eq_true,cTs,List.length_cons,List.length_nil] at hf h1 hn
  simp only [List.nil_append,List.append_nil,List.map_cons,List.map_nil] at h
  unfold stN at h
  dsimp only at h
  rw [if_neg n1,if_pos q] at h
  have hNu:=hN.kid (t:=u) (by simp)
  have hNv:=hN.kid (t:=v) (by simp)
  refine a6b (hfa ?_)
  rw [hsn.2 q]
  refine ⟨by omega,by omega,y,hs.2 0 y rfl,?_⟩
  refine c2g hz hs (hr.2 0 y u rfl rfl) (hr.2 1 y2 v rfl rfl) hf.2.1 hf.2.2 hNu hNv hrs.cut (a:=a) (fun _=>rfl) hp (by omega) (by omega) fun o o2 r b1 xs1 hr2 ho=>?_
  exact a3q (e:=⟨(twF L (loT L u) (loT L v) a 0 g).2.2.1,tg,11,-1,L.af s.f6,0,(twF L (loT L u) (loT L v) a 0 g).1,(twF L (loT L u) (loT L v) a 0 g).2.1⟩) hr2.cut (fun q=>by obtain ⟨q1,q2,q3⟩:=ho q;rw [q1,q2,q3]) fun b3 xs3 hr3=>h _ _ hr3.cut
 ·obtain rfl:ts=[]:=List.length_eq_zero_iff.1 (by omega)
  obtain ⟨u,rfl⟩:=V4 (l:=us) (by omega)
  obtain ⟨y,rfl⟩:=V4 (l:=zs) (by omega)
  have e1:=hry.2 0 y u rfl rfl
  have hNu:=hN.kid (t:=u) (by simp)
  have hNv:∀{i:Nat}{t:PT},vs[i]? = some t→Nok L vn (ds.map (·.f6)) t:=fun ht=>hN.kid (by have:=List.mem_of_getElem? ht;simp [this])
  have hNw:∀{i:Nat}{t:PT},ws[i]? = some t→Nok L vn (ds.map (·.f6)) t:=fun ht=>hN.kid (by have:=List.mem_of_getElem? ht;simp [this])
  simp only [List.nil_append,List.cons_append,formTs,Bool.and_eq_true,cTs,a6q,U5,List.length_cons,List.length_nil] at hf h1 hm
  simp only [List.nil_append,List.cons_append,List.map_cons] at h
  unfold stN at h
  dsimp only at h
  have et:((vs++ws).map (loT L)).take vs.length=vs.map (loT L):=by rw [List.map_append,← List.length_map (f:=loT L),List.take_left'];rfl
  have ed:((vs++ws).map (loT L)).drop vs.length=ws.map (loT L):=by rw [List.map_append,← List.length_map (f:=loT L),List.drop_left'];rfl
  rw [if_neg n1,if_neg n2,if_pos q,et,ed] at h
  have l1:=a9j (vs.map (loT L)) tg g
  refine b4b hrs.cut (fs:=vs.map (loT L)) (by rw [List.length_map];omega) (tg:=tg) (fun _=>rfl) hp fun r1 b1 xs1 hr1 he1=>?_
  generalize hy1:begG (vs.map (loT L)) tg g=R1 at h l1 hr1 he1
  have l2:=a9j (ws.map (loT L)) tg R1.2
  refine b4b hr1.cut (fs:=ws.map (loT L)) (by rw [List.length_map];omega) (tg:=tg) (fun _=>rfl) (by have:=l1.p0;omega) fun r2 b2 xs2 hr2 he2=>?_
  generalize hy2:begG (ws.map (loT L)) tg R1.2=R2 at h l2 hr2 he2
  have l3:=(a2B L u).co a R1.1 R2.1 R2.2
  have l4:=b2b (b4C L vs) R1.1 tg ((loT L u).co a R1.1 R2.1 R2.2)
  have p2:0≤R2.2.p:=by have:=l1.p0;have:=l2.p0;omega
  have bk2:b2.fgreat=false→b1.fgreat=false:=fun q2=>hr1.back l2 hr2 q2
  refine ⟨by omega,by omega,y,hy.2 0 y rfl,?_⟩
  refine b2r hz e1 hf.2.1 hNu R2.2 _ _ _ a _ R1.1 _ R2.1 _ hr2.cut (fun q2=>⟨rfl,he1 (bk2 q2),he2 q2⟩) p2 (by omega) fun b3 xs3 hr3=>?_
  have bk3:b3.fgreat=false→b2.fgreat=false:=fun q3=>hr2.back l3 hr3 q3
  refine b4G hz1 hzl (fun i x t hx ht=>ih1 i x t hx ht (a5Z hf.2.2.1 ht) (hNv ht)) (by omega) hr3.cut (a:=R1.1) (tg:=tg) (fun q3=>⟨he1 (bk2 (bk3 q3)),rfl⟩) (by have:=l3.p0;omega) fun b4 xs4 hr4=>?_
  have bk4:b4.fgreat=false→b3.fgreat=false:=fun q4=>hr3.back l4 hr4 q4
  exact b4G hw1 hwl (fun i x t hx ht=>ih2 i x t hx ht (a5Z hf.2.2.2 ht) (hNw ht)) (by omega) hr4.cut (a:=R2.1) (tg:=tg) (fun q4=>⟨he2 (bk3 (bk4 q4)),rfl⟩) (by have:=l3.p0;have:=l4.p0;omega) fun b5 xs5 hr5=>h _ _ hr5.cut
 ·obtain rfl:ts=[]:=List.length_eq_zero_iff.1 (by omega)
  obtain rfl:ws=[]:=List.length_eq_zero_iff.1 (by omega)
  obtain ⟨u,rfl⟩:=V4 (l:=us) (by omega)
  obtain ⟨y,rfl⟩:=V4 (l:=zs) (by omega)
  have e1:=hry.2 0 y u rfl rfl
  have hNu:=hN.kid (t:=u) (by simp)
  have hNv:∀{i:Nat}{t:PT},vs[i]? = some t→Nok L vn (ds.map (·.f6)) t:=fun ht=>hN.kid (by have:=List.mem_of_getElem? ht;simp [this])
  simp only [List.nil_append,List.append_nil,List.cons_append,formTs,Bool.and_eq_true,cTs,List.length_cons,List.length_nil] at hf h1 hm
  simp only [List.nil_append,List.append_nil,List.cons_append,List.map_cons] at h
  unfold stN at h
  dsimp only at h
  rw [if_neg n1,if_neg n2,if_neg n3,if_pos q] at h
  have l1:=a9j (vs.map (loT L)) a g
  refine b4b hrs.cut (fs:=vs.map (loT L)) (by rw [List.length_map];omega) (tg:=a) (fun _=>rfl) hp fun r1 b1 xs1 hr1 he1=>?_
  generalize hy1:begG (vs.map (loT L)) a g=R1 at h l1 hr1 he1
  have l3:=(a2B L u).co a R1.1 tg R1.2
  refine ⟨by omega,by omega,y,hy.2 0 y rfl,?_⟩
  refine b2r hz e1 hf.2.1 hNu R1.2 _ _ _ a _ R1.1 _ tg _ hr1.cut (fun q2=>⟨rfl,he1 q2,rfl⟩) (by have:=l1.p0;omega) (by omega) fun b3 xs3 hr3=>?_
  exact b4G hz1 hzl (fun i x t hx ht=>ih1 i x t hx ht (a5Z hf.2.2 ht) (hNv ht)) (by omega) hr3.cut (a:=R1.1) (tg:=a) (fun q3=>⟨he1 (hr1.back l3 hr3 q3),rfl⟩) (by have:=l1.p0;have:=l3.p0;omega) fun b4 xs4 hr4=>h _ _ hr4.cut
 ·obtain rfl:ts=[]:=List.length_eq_zero_iff.1 (by omega)
  obtain rfl:vs=[]:=List.length_eq_zero_iff.1 (by omega)
  obtain rfl:ws=[]:=List.length_eq_zero_iff.1 (by omega)
  obtain ⟨u,rfl⟩:=V4 (l:=us) (by omega)
  obtain ⟨y,rfl⟩:=V4 (l:=zs) (by omega)
  have e1:=hry.2 0 y u rfl rfl
  have hNu:=hN.kid (t:=u) (by simp)
  simp only [List.append_nil,formTs,Bool.and_true,cTs,List.length_cons,List.length_nil] at hf h1 hm
  simp only [List.append_nil,List.map_cons,List.map_nil] at h
  unfold stN at h
  dsimp only at h
  rw [if_neg n1,if_neg n2,if_neg n3,if_neg n4,if_pos q] at h
  have l3:=(a2B L u).co a g.p (g.p+1) (frG (frG g))
  refine a6a hrs.cut hp fun r1 b1 xs1 hr1 he1=>a6a hr1.cut (by dsimp only;omega) fun r2 b2 xs2 hr2 he2=>⟨by omega,by omega,y,hy.2 0 y rfl,?_⟩
  have bk2:b2.fgreat=false→b1.fgreat=false:=fun q2=>hr1.back (a6M _) hr2 q2
  refine b2r hz e1 hf.2 hNu (frG (frG g)) _ _ _ a _ g.p _ (g.p+1) _ hr2.cut (fun q2=>⟨rfl,he1 (bk2 q2),he2 q2⟩) (by dsimp only;omega) (by omega) fun b3 xs3 hr3=>?_
  have bk3:b3.fgreat=false→b2.fgreat=false:=fun q3=>hr2.back l3 hr3 q3
  refine a6b (a3q (e:=bareE g.p tg 13) hr3.cut (fun q3=>by rw [he1 (bk2 (bk3 q3))]) fun b4 xs4 hr4=>a6b (a3q (e:=bareE (g.p+1) tg 14) hr4.cut (fun q4=>by rw [he2 (bk3 (hr3.back (a5Y _ _) hr4 q4))]) fun b5 xs5 hr5=>h _ _ hr5.cut))
 ·obtain rfl:ts=[]:=List.length_eq_zero_iff.1 (by omega)
  obtain rfl:vs=[]:=List.length_eq_zero_iff.1 (by omega)
  obtain rfl:ws=[]:=List.length_eq_zero_iff.1 (by omega)
  obtain ⟨u,rfl⟩:=V4 (l:=us) (by omega)
  obtain ⟨y,rfl⟩:=V4 (l:=zs) (by omega)
  have e1:=hry.2 0 y u rfl rfl
  have hNu:=hN.kid (t:=u) (by simp)
  simp only [List.append_nil,formTs,Bool.and_true,cTs,List.length_cons,List.length_nil] at hf h1 hm
  simp only [List.append_nil,List.map_cons,List.map_nil] at h
  unfold stN at h
  dsimp only at h
  rw [if_neg n1,if_neg n2,if_neg n3,if_neg n4,if_neg n5,if_pos q,hz.x] at h
  refine ⟨by omega,by omega,y,hy.2 0 y rfl,?_⟩
  exact b2r hz e1 hf.2 hNu g _ _ _ a _ tg _ z.x _ hrs.cut (fun _=>⟨rfl,rfl,hrs.x⟩) hp (by omega) fun b3 xs3 hr3=>h _ _ hr3.cut
end
end Go.Proofs.YtaokfhdinhimfaaGreatDoor
