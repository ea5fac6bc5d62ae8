/- A run, told to the printed formulas; small programs that are well. -/
import Derived.Test.YthaaobpfbgcfiaaGreatDooryWNe
namespace Go.Proofs.YthaaobpfbgcfiaaGreatDoor
open Go.RowKit
set_option maxRecDepth 100000
set_option maxHeartbeats 4000000
def OutH(H:Hp)(o:f7)(c:Oc):Prop:=o.P0=c.st∧o.a0f=c.wr∧o.J8=c.steps∧SlH H 3 m6 o.K8 c.events∧SlH H 1 ci o.o9 c.vars∧SlHH H 1 ci o.m8 c.arrs
theorem OutH.le{H H':Hp}{o:f7}{c:Oc}(h:OutH H o c)(l:Hle H H'):OutH H' o c:=by
 obtain ⟨h1,h2,h3,h4,h5,h6⟩:=h
 exact ⟨h1,h2,h3,h4.le l,h5.le l,h6.le l⟩
section
variable {H:Hp}
theorem d2x(hT:TabsH H){p:z8}{q:PP}(hp:PH H p q)(hsm:q.Sm){sc:Sl}{scr:List Int}(hsc:SlH H 1 ci sc scr)(hcap:sc.n≤sc.c)(hin:∀x∈scr,o8 x){k:Int}{K:f7→Int→Hp→Prop}
  (h1:errR q scr k≠0→∀H',Hle H H'→K oz (errR q scr k) H') (h0:errR q scr k=0→∀o H',Hle H H'→OutH H' o (runQ q scr k.toNat)→K o 0 H'):b0k p sc k H K:=by
 intro w I
 refine Cv.mono (d2w hT hp hsm hsc hcap hin k w I) (fun v w' q1=>?_) fun c w' q1=>?_
 ·obtain ⟨H1,Fo,J,o,rfl,he,hz⟩:=q1
  by_cases c:errR q scr k=0
  ·obtain ⟨a1,a2,a3,Fe,Fv,Fr,rfl,b1,b2,b3⟩:=hz c
   obtain ⟨H2,J2,l2,s2⟩:=J.freezeL b1 (by decide)
   obtain ⟨H3,J3,l3,s3⟩:=J2.freezeL b2 (by decide)
   obtain ⟨H4,J4,l4,s4,_⟩:=J3.freezeLL b3 (by decide)
   rw [c]
   exact ⟨H4,[],J4,o,0,rfl,rfl,h0 c o H4 J4.le ⟨a1,a2,a3,s2.le (l3.trans l4),s3.le l4,s4⟩⟩
  ·obtain ⟨rfl,rfl⟩:=he c
   exact ⟨H1,[],J,oz,_,rfl,rfl,h1 c H1 J.le⟩
 ·obtain ⟨_,_,_,q2⟩:=q1
  exact q2.elim
end
def Fine(n:Nat)(h:Int)(t:PT):Prop:=cT t≤n∧(∀d,d+h≤65→dpT 64 t d)∧formT t=true∧namesT t=true∧Sm t
theorem Fine.up{n n':Nat}{h h':Int}{t:PT}(f:Fine n h t)(hn:n≤n')(hh:h≤h'):Fine n' h' t:=by
 obtain ⟨a1,a2,a3⟩:=f
 exact ⟨by omega,fun d hd=>a2 d (by omega),a3⟩
theorem c5X{q:PP}{scr:List Int}{k:Nat}(hbd:q.decls.length≤big)(hk:k≤big)(hw:(wellS q).2=0)(ha:∀t∈q.body,ArS t∧formT t=true)(hs:∀x∈scr,o8 x):
  (runQ q scr k).events.length≤big∧(runQ q scr k).vars.length≤big∧(runQ q scr k).arrs.length≤big∧∀l∈(runQ q scr k).arrs,l.length≤big:=by
 have hnm:=b7f hw
 have hok:=c6Z hw hs k
 have hcm:Cm ((vD q.decls).map (·.1)) ((aD q.decls).map (·.1)) (fun _=>True) (seqM (q.body.map rnT)):=b1S fun m hm=>by
  obtain ⟨t,ht,rfl⟩:=List.mem_map.1 hm
  exact cmS (ha t ht).1 (ha t ht).2 (hnm.mem ht)
 have hsafe:=hcm.safe _ hok
 have hend:Okst k k ((vD q.decls).map (·.1)) ((aD q.decls).map (·.1)) (endS (seqM (q.body.map rnT) (s0 q.decls scr k))).2.2:=by
  cases hm:seqM (q.body.map rnT) (s0 q.decls scr k) with
  | ok a s1=>rw [hm] at hsafe;exact hsafe.2.1
  | stop a b s1=>rw [hm] at hsafe;exact hsafe.1
 unfold runQ
 generalize endS (seqM (q.body.map rnT) (s0 q.decls scr k))=r at hend
 have e1:=c4v q.decls
 have e2:=c4w q.decls
 have e3:=congrArg List.length hend.vs
 have e4:=congrArg List.length hend.rs
 rw [List.length_map,List.length_map] at e3 e4
 have e5:=hend.ev
 refine ⟨?_,?_,?_,fun l hl=>?_⟩
 ·show r.2.2.events.length≤big;omega
 ·show (r.2.2.vars.map (·.2)).length≤big;rw [List.length_map];omega
 ·show (r.2.2.arrs.map (·.2)).length≤big;rw [List.length_map];omega
 ·obtain ⟨p,hp,rfl⟩:=List.mem_map.1 (show l∈r.2.2.arrs.map (·.2) from hl)
  have:=(hend.rl p hp).1
  simp only [big];omega
theorem d2y{q:PP}{scr:List Int}{k:Int}(h:errR q scr k=0):(wellS q).2=0∧0≤k∧k≤65536∧scr.length≤65536:=by
 unfold errR at h
 by_cases c:(wellS q).2≠0
 ·rw [if_pos c] at h;exact (c h).elim
 ·rw [if_neg c] at h
  by_cases c2:k < 0∨65536 < k∨65536 < (scr.length:Int)
  ·rw [if_pos c2] at h;cases h
  ·exact ⟨Decidable.not_not.1 c,by omega,by omega,by omega⟩
section
variable {H:Hp}
theorem b9H{s s':Sl}{xs:List Int}(h:SlH H 1 ci s xs)(h':SlH H 1 ci s' xs)(hb:xs.length≤big){K:Bool→Hp→Prop}(hK:K true H):Z7 s s' H K:=by
 refine a9G _ _ ?_
 unfold a4P
 have n1:=h.1;have n2:=h'.1
 simp only [big] at hb
 refine ⟨fun hne=>(hne (by omega)).elim,fun _=>?_⟩
 refine Z2 (fun(i:Int) H'=>0≤i∧i≤xs.length∧H'=H) (fun i=>(xs.length-i).toNat) ⟨Int.le_refl _,by omega,rfl⟩ ?_
 rintro i H1 next ⟨i0,i1,rfl⟩ hn
 unfold a3w
 refine ⟨fun hc=>?_,fun hc=>?_⟩
 ·obtain ⟨x,hx,hE⟩:=h.get i0 hc
  obtain ⟨y,hy,hF⟩:=h'.get i0 (show i < (s'.n:Int) by omega)
  rw [hx] at hy
  cases hy
  refine ⟨i0,hc,x,hE,i0,by omega,x,hF,fun hne=>(hne rfl).elim,fun _=>?_⟩
  rw [D6 i0 (by omega)]
  exact hn _ _ ⟨by omega,by omega,rfl⟩ (by omega)
 ·exact hK
theorem c2k{o o':f7}{c:Oc}(h:OutH H o c)(h':OutH H o' c)(hb:c.events.length≤big∧c.vars.length≤big∧c.arrs.length≤big∧∀l∈c.arrs,l.length≤big){K:Bool→Hp→Prop}(hK:K true H):Q1 o o' H K:=by
 obtain ⟨b1,b2,b3,b4⟩:=hb
 refine a8G _ _ ?_
 unfold a3N
 obtain ⟨a1,a2,a3,a4,a5,a6⟩:=h
 obtain ⟨c1,c2,c3,c4,c5,c6⟩:=h'
 rw [a1,a2,a3,c1,c2,c3]
 have e1:((o.K8.n:Nat):Int)=(o'.K8.n:Nat):=by rw [a4.1,c4.1]
 have e2:((o.m8.n:Nat):Int)=(o'.m8.n:Nat):=by rw [a6.1,c6.1]
 rw [e1,e2]
 refine a0F true (fun _ K' hk=>b9H a5 c5 b2 hk) ?_
 simp only [decide_true,Bool.not_true,Bool.or_self,if_true,Bool.false_eq_true,false_implies,true_and,forall_const]
 simp only [big] at b1 b3
 have n1:=a4.1;have n2:=c4.1;have n3:=a6.1;have n4:=c6.1
 refine Z2 (fun(i:Int) H'=>0≤i∧i≤c.events.length∧H'=H) (fun i=>(c.events.length-i).toNat) ⟨Int.le_refl _,by omega,rfl⟩ ?_
 rintro i H1 next ⟨i0,i1,rfl⟩ hn
 unfold a2N
 refine ⟨fun hc=>?_,fun hc=>?_⟩
 ·obtain ⟨x,hx,hE⟩:=a4.get i0 hc
  obtain ⟨y,hy,hF⟩:=c4.get i0 (show i < (o'.K8.n:Int) by omega)
  rw [hx] at hy
  cases hy
  refine ⟨i0,hc,x,hE,i0,by omega,x,hF,fun hne=>(hne ⟨rfl,rfl,rfl⟩).elim,fun _=>?_⟩
  rw [D6 i0 (by omega)]
  exact hn _ _ ⟨by omega,by omega,rfl⟩ (by omega)
 ·unfold a0l
  clear hn hc i0 i1 next
  refine Z2 (fun(i:Int) H'=>0≤i∧i≤c.arrs.length∧H'=H1) (fun i=>(c.arrs.length-i).toNat) ⟨Int.le_refl _,by omega,rfl⟩ ?_
  rintro i H2 next ⟨i0,i1,rfl⟩ hn
  unfold a2M
  refine ⟨fun hc=>?_,fun hc=>?_⟩
  ·obtain ⟨_,ss,s1,s2⟩:=a6
   obtain ⟨_,ss',s1',s2'⟩:=c6
   obtain ⟨x,hx,hE⟩:=s1.get i0 hc
   obtain ⟨y,hy,hF⟩:=s1'.get i0 (show i < (o'.m8.n:Int) by omega)
   obtain ⟨l,hl⟩:=y7 (l:=c.arrs) (i:=i.toNat) (by omega)
   refine ⟨i0,hc,x,hE,i0,by omega,y,hF,b9H (s2 _ _ _ hx hl).1 (s2' _ _ _ hy hl).1 (b4 l (List.mem_of_getElem? hl)) ⟨(fun q=>by cases q),fun _=>?_⟩⟩
   rw [D6 i0 (by omega)]
   exact hn _ _ ⟨by omega,by omega,rfl⟩ (by omega)
  ·exact hK
end
theorem c8Y{xs:List ByteArray}(hn:xs.Nodup){i j:Nat}{x:ByteArray}(hi:xs[i]? = some x)(hj:xs[j]? = some x):i=j:=(List.getElem?_inj (List.getElem?_eq_some_iff.1 hi).1 hn).1 (hi.trans hj.symm)
theorem b9I{xs:List ByteArray}(hn:xs.Nodup){j:Nat}{s:ByteArray}(hj:xs[j]? = some s):∀i,i≤xs.length→j < i→lk s (mapU xs i)=some (j:Int)
 | 0,_,h=>by omega
 | i+1,hi,h=>by
  rw [b3Z,a7Z]
  by_cases e:j=i
  ·subst e
   rw [if_pos (by rw [List.getD_eq_getElem?_getD,hj];rfl)]
  ·rw [if_neg,b9I hn hj i (by omega) (by omega)]
   intro q
   rw [List.getD_eq_getElem?_getD] at q
   obtain ⟨x,hx⟩:=y7 (l:=xs) (i:=i) (by omega)
   rw [hx] at q
   have q':s=x:=q
   subst q'
   exact e (c8Y hn hj hx)
theorem b2d{xs:List ByteArray}(hn:xs.Nodup){j:Nat}{s:ByteArray}(hj:xs[j]? = some s):idx xs s=(j:Int):=by
 unfold idx;rw [b9I hn hj _ (Nat.le_refl _) (C3 hj)];rfl
section
variable {q:PP}
theorem d5f(d:j7):decide (kindD d=1) = !decide (0 < d.C1):=by unfold kindD;by_cases c:0 < d.C1<;>simp [c]
theorem d5g(d:j7):decide (kindD d=2)=decide (0 < d.C1):=by unfold kindD;by_cases c:0 < d.C1<;>simp [c]
theorem d5h(h:(wellS q).2=0):ofS q 1=q.decls.filter fun d=>!decide (0 < d.C1):=by unfold ofS kF;rw [if_pos h];simp only [d5f]
theorem d2z(h:(wellS q).2=0):ofS q 2=q.decls.filter fun d=>decide (0 < d.C1):=by unfold ofS kF;rw [if_pos h];simp only [d5g]
theorem c2l(h:(wellS q).2=0):(vD q.decls).map (·.1)=vN q:=by unfold vN vD;rw [d5h h,List.map_map];rfl
theorem c7a(h:(wellS q).2=0):aD q.decls=(ofS q 2).map fun d=>(d.f8,List.replicate d.C1.toNat 0):=by unfold aD;rw [d2z h]
theorem c2m(h:(wellS q).2=0):(aD q.decls).map (·.1)=aN q:=by unfold aN;rw [c7a h,List.map_map];rfl
theorem b7X(h:(wellS q).2=0):(vN q).Nodup∧(aN q).Nodup:=by
 have hd:=((a5E q).1 h).2.1.1
 rw [←c2l h,← c2m h]
 exact b7H hd
theorem b3f(h:(wellS q).2=0):Cc (enS q) (vN q) (aN q):=by
 obtain ⟨n1,n2⟩:=b7X h
 have at_:∀{xs:List ByteArray},xs.Nodup→∀x∈xs,∃j:Nat,xs[j]? = some x∧idx xs x=(j:Int):=fun hn x hx=>by
  obtain ⟨j,hj⟩:=List.mem_iff_getElem?.1 hx
  exact ⟨j,hj,b2d hn hj⟩
 have inj:∀{xs:List ByteArray},xs.Nodup→∀x∈xs,∀y∈xs,idx xs x=idx xs y→x=y:=fun hn x hx y hy e=>by
  obtain ⟨i,hi,e1⟩:=at_ hn x hx
  obtain ⟨j,hj,e2⟩:=at_ hn y hy
  have:i=j:=by omega
  subst this
  rw [hi] at hj;cases hj;rfl
 refine ⟨by show (0:Int)≤((vN q).length:Nat);omega,fun x hx=>?_,inj n1,fun x hx=>?_,inj n2⟩
 ·obtain ⟨j,hj,e⟩:=at_ n1 x hx
  have:=C3 hj
  show 0≤idx (vN q) x∧idx (vN q) x < ((vN q).length:Nat)
  omega
 ·obtain ⟨j,hj,e⟩:=at_ n2 x hx
  show 0≤idx (aN q) x
  omega
theorem c7b(h:(wellS q).2=0):Nm (vN q) (aN q) (uTs q.body):=by
 have:=b7f h
 rw [c2l h,c2m h] at this
 exact this
theorem d2A(h:(wellS q).2=0):NmP (enS q) ((ofS q 2).length:Nat) (uTs q.body):=by
 have C:=b3f h
 obtain ⟨_,n2⟩:=b7X h
 intro u hu
 obtain ⟨h1,h2⟩:=c7b h u hu
 refine ⟨fun e=>within_iff.2 ⟨C.a0 _ (h1 e),?_⟩,fun e=>within_iff.2 (C.v0 _ (h2 e))⟩
 obtain ⟨j,hj⟩:=List.mem_iff_getElem?.1 (h1 e)
 have:=C3 hj
 have hl:(aN q).length=(ofS q 2).length:=by unfold aN;rw [List.length_map]
 show idx (aN q) u.f8 < _
 rw [b2d n2 hj]
 omega
theorem b7Y(q:PP):(q.body=[]∧exS q=0)∨(q.body≠[]∧exS q=1):=by
 unfold exS
 by_cases c:q.body=[]
 ·rw [if_pos c];exact .inl ⟨c,rfl⟩
 ·rw [if_neg c];exact .inr ⟨c,rfl⟩
theorem b3g(h:(wellS q).2=0)(hx:∀t∈q.body,XS t):Sx (enS q) ((ofS q 2).length:Nat) (fun p=>q.body.map (loT (enS q))≠[]∧Src 0 (1+exS q) (loS q).p p) ⟨1+exS q,0,[]⟩ (loS q):=by
 have he:0≤exS q:=by have:=b7Y q;omega
 refine b6x (L:=enS q) (fun f hf=>?_) 0 (exS q) ⟨1+exS q,0,[]⟩ (Int.le_refl 0) (by dsimp only;omega) he (by dsimp only;omega) he (by show exS q < 1+exS q;omega) (Int.le_refl 0)
 obtain ⟨t,ht,rfl⟩:=List.mem_map.1 hf
 exact d4Z (b3f h).n (hx t ht) ((d2A h).mem ht)
theorem c7c(h:(wellS q).2=0)(hx:∀t∈q.body,XS t):∀x∈(loS q).es,x.B3≠exS q:=by
 obtain ⟨_,_,l,e,hl,_⟩:=b3g h hx
 have e:(loS q).es=l:=e
 intro x hx2 hf
 rw [e] at hx2
 obtain ⟨⟨s1,s2⟩,_⟩:=hl x hx2
 have:=b7Y q
 unfold Src at s2
 rcases this with ⟨b,e0⟩ | ⟨b,e1⟩
 ·exact s1 (by rw [b];rfl)
 ·omega
theorem c4A(h:(wellS q).2=0)(hx:∀t∈q.body,XS t):∀p,goeS (fromS (loS q).es p)=true:=by
 obtain ⟨_,_,l,e,_,hg⟩:=b3g h hx
 have e:(loS q).es=l:=e
 rw [e];exact hg
theorem c8Z(h:(wellS q).2=0)(hx:∀t∈q.body,XS t):Nums (loS q).es:=by
 obtain ⟨_,_,l,e,hl,_⟩:=b3g h hx
 have e:(loS q).es=l:=e
 rw [e]
 exact fun x hx=>(hl x hx).2.m
theorem b6A(h:loE q=0):(wellS q).2=0∧(enS q).nv+(loS q).t≤64∧(loS q).p≤4096∧((loS q).es.length:Int)≤8192:=by
 unfold loE at h
 split at h
 ·rename_i c;exact (c h).elim
 ·rename_i c
  split at h
  ·cases h
  ·split at h
   ·cases h
   ·exact ⟨Classical.not_not.1 c,by omega,by omega,by omega⟩
section
variable {H H':Hp}{c:l9}
theorem c2n(h:loE q=0)(hx:∀t∈q.body,XS t)(hc:CfH H H' q c):GH H' c (vN q) (ofS q 2) (loS q).es:=by
 obtain ⟨h1,h2,h3,h4⟩:=b6A h
 obtain ⟨F,hr,hF,_⟩:=hc.e
 have ht:=(b3g h1 hx).t
 have ht:0≤(loS q).t:=ht
 have hn:(0:Int)≤(enS q).nv:=(b3f h1).n
 have e1:(enS q).nv=((vN q).length:Nat):=rfl
 have e2:=((a5E q).1 h1).2.1.2.2.2
 have e3:(ofS q 2).length≤16:=by unfold ofS;rw [if_pos h1];exact e2
 exact ⟨hc.v,hc.a,hr.frozen (by decide) hF,by omega,by omega,by omega,by rw [hc.t];unfold o8;omega⟩
theorem c5Y(h:loE q=0)(hx:∀t∈q.body,XS t)(hc:CfH H H' q c):checkS c (vN q) (ofS q 2) (loS q).es=0:=by
 obtain ⟨h1,h2,h3,h4⟩:=b6A h
 have G:=c2n h hx hc
 have hs:=b3g h1 hx
 have ht:0≤(loS q).t:=hs.t
 have hp:1+exS q≤(loS q).p:=hs.p
 have he:=b7Y q
 have hn:(0:Int)≤(enS q).nv:=(b3f h1).n
 have e1:(enS q).nv=((vN q).length:Nat):=rfl
 obtain ⟨_,hd2,_,hd4⟩:=((a5E q).1 h1).2.1
 have e3:(ofS q 2).length≤16:=by unfold ofS;rw [if_pos h1];exact hd4
 have ha:allS c=((vN q).length:Int)+c.t8:=b1X G (by rw [hc.t];exact ht) (by rw [hc.t];omega)
 have hv:varsS c (vN q)=true:=by
  unfold varsS
  rw [decide_eq_true (by rw [hc.t];exact ht),decide_eq_true (by rw [hc.t];omega),decide_eq_true (by rw [hc.t];omega)];rfl
 have hq:pointsS c (loS q).es=true:=by
  unfold pointsS
  rw [decide_eq_true (by rw [hc.p];omega),decide_eq_true (by rw [hc.p];omega),decide_eq_true h4];rfl
 have hz:sizesS (ofS q 2)=true:=by
  unfold sizesS
  rw [List.all_eq_true]
  intro d hd
  rw [d2z h1] at hd
  have hm:=List.mem_filter.1 hd
  have:=hd2 d hm.1
  have h0:0 < d.C1:=of_decide_eq_true hm.2
  rw [decide_eq_true (by omega),decide_eq_true this];rfl
 have hall:(loS q).es.all (edgeS c)=true:=by
  rw [List.all_eq_true]
  obtain ⟨_,_,l,e,hl,_⟩:=hs
  have e:(loS q).es=l:=e
  intro x hx2
  have hne:=c7c h1 hx x hx2
  rw [e] at hx2
  obtain ⟨_,k⟩:=hl x hx2
  have hna:(c.m8.n:Int)=((ofS q 2).length:Nat):=by rw [hc.a.1]
  unfold edgeS
  rw [ha,hna,hc.p,hc.x,hc.t,within_iff.2 ⟨k.f0,k.f1⟩,within_iff.2 ⟨k.t0,k.t1⟩,decide_eq_false hne,k.k,show rightS (((vN q).length:Int)+(loS q).t) ((ofS q 2).length:Nat) x=true from k.r];rfl
 have hg:gformS c (ofS q 2) (loS q).es=true:=by
  unfold gformS forksS
  rw [decide_eq_true (by omega),hz,within_iff.2 ⟨by rw [hc.x];omega,by rw [hc.x,hc.p];omega⟩,hall,Bool.true_and]
  exact List.all_eq_true.2 fun p _=>c4A h1 hx p
 unfold checkS
 rw [hv,hq,hg];rfl
theorem d5i(h:loE q=0)(hx:∀t∈q.body,XS t)(hc:CfH H H' q c){scr:List Int}{k:Int}(k0:0≤k):Re (enS q) (loS q).t (vN q) (aN q) scr k (s0 q.decls scr k.toNat) (startS c (ofS q 2)):=by
 obtain ⟨h1,h2,h3,h4⟩:=b6A h
 have G:=c2n h hx hc
 have ht:0≤(loS q).t:=(b3g h1 hx).t
 have hn:(0:Int)≤(enS q).nv:=(b3f h1).n
 have e1:(enS q).nv=((vN q).length:Nat):=rfl
 have ha:allS c=((vN q).length:Int)+c.t8:=b1X G (by rw [hc.t];exact ht) (by rw [hc.t];omega)
 rw [hc.t] at ha
 obtain ⟨n1,n2⟩:=b7X h1
 refine ⟨rfl,by show (0:Int)+(k.toNat:Nat)=k;omega,rfl,rfl,Nat.zero_le _,c2l h1,c2m h1,fun x v hv=>?_,fun x r hr=>?_,?_,?_⟩
 ·have hm:=b1j hv
  have hm:(x,v)∈vD q.decls:=hm
  have hz:v=0:=by
   unfold vD at hm
   obtain ⟨d,_,e⟩:=List.mem_map.1 hm
   cases e;rfl
  have hx:=(b3f h1).v0 x (by rw [←c2l h1];exact List.mem_map.2 ⟨_,hm,rfl⟩)
  show (List.replicate (allS c).toNat (0:Int))[((enS q).vf x).toNat]? = some v
  rw [List.getElem?_replicate,if_pos (by omega),hz]
 ·have hm:(x,r)∈aD q.decls:=b1j hr
  obtain ⟨j,hj⟩:=List.mem_iff_getElem?.1 hm
  have hj2:(aN q)[j]? = some x:=by rw [←c2m h1,List.getElem?_map,hj];rfl
  show ((ofS q 2).map fun d=>List.replicate d.C1.toNat (0:Int))[(idx (aN q) x).toNat]? = some r
  rw [b2d n2 hj2,Int.toNat_natCast,List.getElem?_map]
  rw [c7a h1,List.getElem?_map] at hj
  cases hd:(ofS q 2)[j]? with
  | none=>rw [hd] at hj;cases hj
  | some d=>rw [hd] at hj;cases hj;rfl
 ·show ((List.replicate (allS c).toNat (0:Int)).length:Int)=_
  rw [List.length_replicate];omega
 ·show ((ofS q 2).map _).length=_
  unfold aN
  rw [List.length_map,List.length_map]
theorem c5Z(h:loE q=0)(hx:∀t∈q.body,XS t)(hc:CfH H H' q c){scr:List Int}{k:Int}(k0:0≤k):
  (wholeS c (ofS q 2) (loS q).es scr k).1=(runQ q scr k.toNat).st∧(wholeS c (ofS q 2) (loS q).es scr k).2.1=(runQ q scr k.toNat).wr∧(wholeS c (ofS q 2) (loS q).es scr k).2.2.steps=(runQ q scr k.toNat).steps∧
  (wholeS c (ofS q 2) (loS q).es scr k).2.2.evs=(runQ q scr k.toNat).events∧(wholeS c (ofS q 2) (loS q).es scr k).2.2.vars.take (vN q).length=(runQ q scr k.toNat).vars∧(wholeS c (ofS q 2) (loS q).es scr k).2.2.arrs=(runQ q scr k.toNat).arrs:=by
 obtain ⟨h1,h2,h3,h4⟩:=b6A h
 have ht:0≤(loS q).t:=(b3g h1 hx).t
 have hR:=d5i h hx hc (scr:=scr) k0
 have G:Gok (enS q).ex (loS q).es:=d2i (c4A h1 hx) (c7c h1 hx)
 obtain ⟨n1,n2⟩:=b7X h1
 have hU:Un (loS q).es (loS q).t (blkG (q.body.map (loT (enS q))) 0 (enS q).ex ⟨1+exS q,0,[]⟩):=⟨fun x hx=>hx,Int.le_refl _⟩
 have he:=b7Y q
 obtain ⟨s',e,R⟩:=c5K (b3f h1) ht G hx (c7b h1) hU hR rfl rfl fun z=>by
  show exS q=0
  rcases he with ⟨_,a⟩ | ⟨b,_⟩
  ·exact a
  ·exact (b z).elim
 have ew:wholeS c (ofS q 2) (loS q).es scr k=((endS (seqM (q.body.map rnT) (s0 q.decls scr k.toNat))).1,(endS (seqM (q.body.map rnT) (s0 q.decls scr k.toNat))).2.1,s'):=e
 unfold runQ ocS
 generalize endS (seqM (q.body.map rnT) (s0 q.decls scr k.toNat))=r at *
 rw [ew]
 dsimp only
 have hvl:=R.vl
 have e1:(enS q).nv=((vN q).length:Nat):=rfl
 refine ⟨rfl,rfl,R.st,R.ev,?_,?_⟩
 ·have hl:r.2.2.vars.length=(vN q).length:=by rw [←R.vn,List.length_map]
  refine List.ext_getElem? fun i=>?_
  rw [List.getElem?_take,List.getElem?_map]
  by_cases c:i < (vN q).length
  ·obtain ⟨p,hp⟩:=y7 (l:=r.2.2.vars) (i:=i) (by omega)
   have hn:(vN q)[i]? = some p.1:=by rw [←R.vn,List.getElem?_map,hp];rfl
   have hv:=R.vs p.1 p.2 (b6z (by rw [R.vn];exact n1) hp)
   have hi:((enS q).vf p.1).toNat=i:=by
    show (idx (vN q) p.1).toNat=i
    rw [b2d n1 hn,Int.toNat_natCast]
   rw [hi] at hv
   rw [if_pos c,hv,hp];rfl
  ·rw [if_neg c,List.getElem?_eq_none (by omega)];rfl
 ·have hl:r.2.2.arrs.length=(aN q).length:=by rw [←R.an,List.length_map]
  have hal:=R.al
  refine List.ext_getElem? fun i=>?_
  rw [List.getElem?_map]
  by_cases c:i < (aN q).length
  ·obtain ⟨p,hp⟩:=y7 (l:=r.2.2.arrs) (i:=i) (by omega)
   have hn:(aN q)[i]? = some p.1:=by rw [←R.an,List.getElem?_map,hp];rfl
   have hv:=R.rs p.1 p.2 (b6z (by rw [R.an];exact n2) hp)
   have hi:((enS q).af p.1).toNat=i:=by
    show (idx (aN q) p.1).toNat=i
    rw [b2d n2 hn,Int.toNat_natCast]
   rw [hi] at hv
   rw [hv,hp];rfl
  ·rw [List.getElem?_eq_none (by omega),List.getElem?_eq_none (l:=r.2.2.arrs) (by omega)];rfl
end
end
end Go.Proofs.YthaaobpfbgcfiaaGreatDoor
