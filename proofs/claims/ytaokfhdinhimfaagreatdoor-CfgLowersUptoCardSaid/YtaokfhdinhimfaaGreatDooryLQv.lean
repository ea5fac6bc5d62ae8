/- The laws WellExact, WellParts. Contracts off the printed formulas. -/
import Derived.Test.YtaokfhdinhimfaaGreatDooryLQz
namespace Go.Proofs.YtaokfhdinhimfaaGreatDoor
open Go.RowKit
set_option maxRecDepth 100000
set_option maxHeartbeats 2000000
theorem c0F{α:Type}{l:List α}{i:Nat}{x:α}(h:l[i]? = some x):l.drop i=x::l.drop (i+1):=by
 have hlt:=v1 h
 rw [List.drop_eq_getElem_cons hlt];congr 1
 rw [List.getElem?_eq_getElem hlt] at h;exact Option.some.inj h
section
variable {H:Hp}
theorem find_ok{s:Sl}{ds:List i7}(hs:SlH H 2 i5 s ds)(hb:ds.length≤big){nm:ByteArray}{K:Int→Hp→Prop}(h:K (findI ds nm 0) H):a2i s nm H K:=by
 refine b1F _ _ ?_
 unfold a5w
 have n1:=hs.1
 simp only [big] at hb
 refine Q6 (fun(i:Int) H'=>0≤i∧i≤ds.length∧H'=H∧findI ds nm 0=findI (ds.drop i.toNat) nm i) (fun i=>(ds.length-i).toNat) ⟨Int.le_refl _,by omega,rfl,rfl⟩ ?_
 rintro i H1 next ⟨i0,i1,rfl,hi⟩ hn
 unfold a3E
 refine ⟨fun c=>?_,fun c=>?_⟩
 ·obtain ⟨x,hx,hE⟩:=hs.get i0 c
  have hlt:=v1 hx
  rw [c0F hx,findI] at hi
  refine ⟨i0,c,x,hE,fun e=>?_,fun e=>?_⟩
  ·rw [if_pos e] at hi;rw [hi] at h;exact h
  ·rw [if_neg e] at hi
   rw [q6 i0 (by omega)]
   exact hn _ _ ⟨by omega,by omega,rfl,by rw [show (i+1).toNat=i.toNat+1 by omega];exact hi⟩ (by omega)
 ·unfold a0X
  rw [List.drop_eq_nil_of_le (by omega),findI] at hi
  rw [hi] at h;exact h
theorem c6q{l:List i7}{s:ByteArray}(h:¬0≤findI l s 0):hasN l s=false:=by
 cases e:hasN l s
 ·rfl
 ·exact (h ((b3Y l s 0 (Int.le_refl _)).2 e)).elim
def SzOk(l:List i7):Prop:=∀d∈l,0≤d.N2
theorem c2d:∀{l:List i7}(_:formTs (l.map dT)=true),SzOk l
 | [],_=>fun d h=>by cases h
 | d::l,h=>by
  rw [List.map_cons,formTs,Bool.and_eq_true] at h
  intro x hx
  rcases List.mem_cons.1 hx with e | hx
  ·have h1:=h.1
   unfold dT at h1
   rw [formT,Bool.and_eq_true] at h1
   have h2:(decide (0≤d.N2)&&decide (d.N2≤2147483647))=true:=h1.1
   simp only [Bool.and_eq_true,decide_eq_true_eq] at h2
   rw [e];exact h2.1
  ·exact c2d h.2 x hx
theorem c2e{q:PP}(h:toldS q.nodes=0):SzOk q.decls:=by
 have:=((c0C _).1 h).2.2.1
 unfold PP.nodes at this
 rw [U5,Bool.and_eq_true] at this
 exact c2d this.1
theorem d1L{pre:List i7}{x:i7}(h1:nk pre 1≤32)(h2:nk pre 2≤16):(32 < nk (pre++[x]) 1∨16 < nk (pre++[x]) 2)↔lim (kindD x) < nk (pre++[x]) (kindD x):=by
 rcases a8j x with e | e
 ·rw [e];simp only [a6U,a7z,e,lim]
  simp
  omega
 ·rw [e];simp only [a6U,a7z,e,lim]
  simp
  omega
theorem c8P{ds:List i7}{l:List Us}{i:Nat}(h:∀u∈l.take i,kOf ds u.f6=asU u):useT ds l=useT ds (l.drop i):=by
 have:=b4B ds (l.take i) h (l.drop i)
 rwa [List.take_append_drop] at this
theorem c3l{p:m6}{q:PP}(hp:PH H p q)(hcp:p.E4.n≤p.E4.c){K:ByteArray→Int→Hp→Prop}(h:∀H',Hle H H'→K (wellS q).1 (wellS q).2 H'):a4u p H K:=by
 refine b0J _ ?_
 unfold a4D
 unfold wellS at h
 refine c5d hp ⟨fun hne=>?_,fun h0=>?_⟩
 ·have:=h H (Hle.refl _);rw [if_neg hne] at this;exact this
 rw [if_pos h0] at h
 have hsz:=c2e h0
 have hcnt:=c2a (c0z h0).1
 have hul:=b5g q.body
 have hcb:cTs q.body≤4096:=by unfold PP.nodes at hcnt;rw [a6q] at hcnt;omega
 have hp':=hp
 obtain ⟨hd,hbd,_⟩:=hp'
 have n1:=hd.1
 have hbd':=hbd
 simp only [big] at hbd'
 refine Q6 (fun(z:Int×Int×Int) H'=>0≤z.2.2∧z.2.2≤q.decls.length∧H'=H∧z.1=nk (q.decls.take z.2.2.toNat) 1∧z.2.1=nk (q.decls.take z.2.2.toNat) 2∧nk (q.decls.take z.2.2.toNat) 1≤32∧nk (q.decls.take z.2.2.toNat) 2≤16∧declT [] q.decls=declT (q.decls.take z.2.2.toNat) (q.decls.drop z.2.2.toNat)) (fun z=>(q.decls.length-z.2.2).toNat)
  ⟨Int.le_refl _,by dsimp only;omega,rfl,rfl,rfl,Nat.zero_le _,Nat.zero_le _,rfl⟩ ?_
 rintro ⟨a,b,i⟩ H1 next ⟨i0,i1,rfl,ha,hb,ha2,hb2,hdt⟩ hn
 dsimp only at i0 i1 ha hb ha2 hb2 hdt ⊢
 unfold a2Z
 refine ⟨fun c=>?_,fun c=>?_⟩
 ·obtain ⟨x,hx,hE⟩:=hd.get i0 c
  have hlt:=v1 hx
  have htk:q.decls.take (i.toNat+1)=q.decls.take i.toNat++[x]:=K9 hx
  rw [c0F hx,declT] at hdt
  have go:∀a' b':Int,a'=nk (q.decls.take i.toNat++[x]) 1→b'=nk (q.decls.take i.toNat++[x]) 2→Q1 a' b' i x p H1 next K:=by
   intro a' b' ha' hb'
   unfold Q1
   refine ⟨i0,by omega,?_⟩
   have hcut:=hd.cut (l:=0) (h:=i.toNat) (m:=p.E4.c) (Nat.zero_le _) (by omega) (by omega)
   rw [List.drop_zero] at hcut
   refine find_ok hcut (by rw [List.length_take];omega) ⟨fun hf=>?_,fun hf=>?_⟩
   ·rw [if_pos ((b3Y _ _ 0 (Int.le_refl _)).1 hf)] at hdt
    have:=h H1 (Hle.refl _);rw [hdt] at this;exact this
   ·rw [if_neg (by rw [c6q hf];decide)] at hdt
    refine ⟨fun hz=>?_,fun hz=>?_⟩
    ·rw [if_pos hz] at hdt
     have:=h H1 (Hle.refl _);rw [hdt] at this;exact this
    ·rw [if_neg hz] at hdt
     have hlo:=d1L (x:=x) ha2 hb2
     refine ⟨fun hm=>?_,fun hm=>?_⟩
     ·rw [if_pos (hlo.1 (by simp only [Bool.or_eq_true,decide_eq_true_eq] at hm;omega))] at hdt
      have:=h H1 (Hle.refl _);rw [hdt] at this;exact this
     ·have hm':¬(32 < nk (q.decls.take i.toNat++[x]) 1∨16 < nk (q.decls.take i.toNat++[x]) 2):=by
       simp only [Bool.or_eq_false_iff,decide_eq_false_iff_not] at hm;omega
      rw [if_neg (fun e=>hm' (hlo.2 e)),← htk] at hdt
      rw [q6 i0 (by omega)]
      rw [←htk] at ha' hb' hm'
      refine hn _ _ ⟨by dsimp only;omega,by dsimp only;omega,rfl,?_,?_,?_,?_,?_⟩ (by dsimp only;omega)<;>(dsimp only;rw [show (i+1).toNat=i.toNat+1 by omega])
      ·exact ha'
      ·exact hb'
      ·omega
      ·omega
      ·exact hdt
  have hx0:=hsz x (List.mem_of_getElem? hx)
  have k1:nk (q.decls.take i.toNat) 1≤(q.decls.take i.toNat).length:=c6X _ _
  have k2:nk (q.decls.take i.toNat) 2≤(q.decls.take i.toNat).length:=c6X _ _
  refine ⟨i0,c,x,hE,fun e=>go _ _ ?_ ?_,fun e=>go _ _ ?_ ?_⟩
  ·have hk:kindD x=1:=by unfold kindD;rw [if_neg (by omega)]
   rw [a6U,a7z,hk,if_pos rfl,ha,q6 (by omega) (by omega)];omega
  ·have hk:kindD x=1:=by unfold kindD;rw [if_neg (by omega)]
   rw [a6U,a7z,hk,if_neg (by decide),hb];omega
  ·have hk:kindD x=2:=by unfold kindD;rw [if_pos (by omega)]
   rw [a6U,a7z,hk,if_neg (by decide),ha];omega
  ·have hk:kindD x=2:=by unfold kindD;rw [if_pos (by omega)]
   rw [a6U,a7z,hk,if_pos rfl,hb,q6 (by omega) (by omega)];omega
 ·rw [List.drop_eq_nil_of_le (by omega),declT] at hdt
  rw [hdt] at h
  dsimp only at h
  unfold a0H
  refine c8K hp (by simp only [big];omega) fun s2 H2 l2 hS2=>?_
  have n2:=hS2.1
  refine Q6 (fun(j:Int) H'=>0≤j∧j≤(uTs q.body).length∧H'=H2∧∀u∈(uTs q.body).take j.toNat,kOf q.decls u.f6=asU u) (fun j=>((uTs q.body).length-j).toNat) ⟨Int.le_refl _,by omega,rfl,fun u hu=>by simp at hu⟩ ?_
  rintro j H3 next ⟨j0,j1,rfl,hj⟩ hk
  have h':=h H3 l2
  rw [c8P hj] at h'
  unfold a2Y
  refine ⟨fun hq=>?_,fun hq=>?_⟩
  ·obtain ⟨u,hu,hE⟩:=hS2.get j0 hq
   have hlt:=v1 hu
   rw [c0F hu,useT] at h'
   refine ⟨j0,hq,u,hE,find_ok (hd.le l2) hbd ⟨fun hf=>?_,fun hf=>?_⟩⟩
   ·have h0k:kOf q.decls u.f6=0:=by
     by_cases e:kOf q.decls u.f6=0
     ·exact e
     ·have:=(b3Y q.decls u.f6 0 (Int.le_refl _)).2 ((b8J _ _).1 e)
      omega
    rw [if_neg (by rw [h0k];unfold asU;split<;>decide),if_pos h0k] at h'
    exact h'
   ·obtain ⟨d,f1,f2,f3⟩:=c5f q.decls u.f6 0 (Int.le_refl _) (by omega)
    rw [Int.sub_zero] at f2
    have hlt2:=v1 f2
    obtain ⟨d',hd',hE'⟩:=(hd.le l2).get (i:=findI q.decls u.f6 0) (by omega) (by omega)
    rw [f2] at hd';cases hd'
    refine ⟨by omega,by omega,d,hE',fun hb'=>?_,fun hb'=>?_⟩
    ·have hne:¬kOf q.decls u.f6=asU u:=by
      rw [f3]
      unfold kindD asU
      cases hi:u.b0C<;>rw [hi] at hb'<;>simp at hb' ⊢ <;> simp [hb']
     rw [if_neg hne,if_neg (by rw [f3];rcases a8j d with e | e<;>rw [e]<;>decide)] at h'
     exact h'
    ·have he:kOf q.decls u.f6=asU u:=by
      rw [f3]
      unfold kindD asU
      cases hi:u.b0C<;>rw [hi] at hb'<;>simp at hb' ⊢ <;> simp [hb']
     rw [q6 j0 (by omega)]
     refine hk _ _ ⟨by omega,by omega,rfl,fun v hv=>?_⟩ (by omega)
     rw [show (j+1).toNat=j.toNat+1 by omega,K9 hu] at hv
     rcases List.mem_append.1 hv with hv | hv
     ·exact hj v hv
     ·rw [List.mem_singleton.1 hv];exact he
  ·unfold a0G
   rw [List.drop_eq_nil_of_le (by omega),useT] at h'
   exact h'
theorem c0G(q:PP)(k:Int):(ofS q k).length≤q.decls.length:=by
 unfold ofS;split
 ·exact List.length_filter_le _ _
 ·exact Nat.zero_le _
theorem c8Q(hT:TabsH H){p:m6}{q:PP}(hp:PH H p q)(hsm:q.Sm){K:Sl→Int→Hp→Prop}(h:∀s H',Hle H H'→SlH H' 1 v2 s ((ofS q 1).map (·.f6))→K s (wellS q).2 H'):b0b p H K:=by
 refine b4q _ ?_
 unfold a7u
 have hb:=hp.bd
 simp only [big] at hb
 have hle:=c0G q 1
 refine c6Y hT hp hsm fun s1 H1 l1 hS1 _=>?_
 have n1:=hS1.1
 refine Q6 (fun(z:List ByteArray×Int) H'=>0≤z.2∧z.2≤(ofS q 1).length∧H'=H1∧z.1=((ofS q 1).take z.2.toNat).map (·.f6)) (fun z=>((ofS q 1).length-z.2).toNat) ⟨Int.le_refl _,by dsimp only;omega,rfl,rfl⟩ ?_
 rintro ⟨cs,i⟩ H2 next ⟨i0,i1,rfl,hcs⟩ hn
 dsimp only at i0 i1 hcs ⊢
 unfold a3N
 refine ⟨fun c=>?_,fun c=>?_⟩
 ·obtain ⟨x,hx,hE⟩:=hS1.get i0 (by omega)
  have hlt:=v1 hx
  have hcl:cs.length≤(ofS q 1).length:=by rw [hcs,List.length_map,List.length_take];omega
  refine ⟨i0,by omega,x,hE,by simp only [List.length_cons,List.length_nil];omega,?_⟩
  rw [q6 i0 (by omega)]
  refine hn _ _ ⟨by dsimp only;omega,by dsimp only;omega,rfl,?_⟩ (by dsimp only;omega)
  dsimp only
  rw [show (i+1).toNat=i.toNat+1 by omega,K9 hx,List.map_append,← hcs];rfl
 ·unfold a3M
  intro s2 H3 l3 hS3 _
  rw [hcs,List.take_of_length_le (by omega)] at hS3
  exact h s2 H3 (l1.trans l3) hS3
theorem c5j(hT:TabsH H){p:m6}{q:PP}(hp:PH H p q)(hsm:q.Sm){K:Sl→Int→Hp→Prop}(h:∀s H',Hle H H'→SlH H' 2 i5 s (ofS q 2)→K s (wellS q).2 H'):a8P p H K:=by
 refine b3R _ ?_
 unfold a6K
 exact c6Y hT hp hsm fun s1 H1 l1 hS1 _=>h s1 H1 l1 hS1
theorem c6r{p:m6}{q:PP}(hp:PH H p q)(hz:SzOk q.decls){K:Sl→Hp→Prop}(h:∀s H',Hle H H'→SlH H' 1 v2 s ((kF 1 q.decls).map (·.f6))→K s H'):a5l p H K:=by
 refine b1J _ ?_
 unfold a5z
 obtain ⟨hd,hb,_⟩:=hp
 simp only [big] at hb
 have n1:=hd.1
 refine Q6 (fun(z:List ByteArray×Int) H'=>0≤z.2∧z.2≤q.decls.length∧H'=H∧z.1=(kF 1 (q.decls.take z.2.toNat)).map (·.f6)) (fun z=>(q.decls.length-z.2).toNat) ⟨Int.le_refl _,by dsimp only;omega,rfl,rfl⟩ ?_
 rintro ⟨cs,i⟩ H2 next ⟨i0,i1,rfl,hcs⟩ hn
 dsimp only at i0 i1 hcs ⊢
 unfold a1b
 refine ⟨fun c=>?_,fun c=>?_⟩
 ·obtain ⟨x,hx,hE⟩:=hd.get i0 c
  have hlt:=v1 hx
  have hx0:=hz x (List.mem_of_getElem? hx)
  have hcl:cs.length≤q.decls.length:=by
   rw [hcs,List.length_map]
   exact Nat.le_trans (List.length_filter_le _ _) (by rw [List.length_take];omega)
  refine ⟨i0,by omega,x,hE,fun e=>⟨by simp only [List.length_cons,List.length_nil];omega,?_⟩,fun e=>?_⟩
  ·unfold Q8
   rw [q6 i0 (by omega)]
   refine hn _ _ ⟨by dsimp only;omega,by dsimp only;omega,rfl,?_⟩ (by dsimp only;omega)
   dsimp only
   rw [show (i+1).toNat=i.toNat+1 by omega,K9 hx,b2a,c0E (by unfold kindD;rw [if_neg (by omega)]),List.map_append,← hcs];rfl
  ·unfold Q8
   rw [q6 i0 (by omega)]
   refine hn _ _ ⟨by dsimp only;omega,by dsimp only;omega,rfl,?_⟩ (by dsimp only;omega)
   dsimp only
   rw [show (i+1).toNat=i.toNat+1 by omega,K9 hx,b2a,b8L (by unfold kindD;rw [if_pos (by omega)];decide),List.append_nil,← hcs]
 ·unfold a0Z
  intro s2 H3 l3 hS3 _
  rw [hcs,List.take_of_length_le (by omega)] at hS3
  exact h s2 H3 l3 hS3
theorem c3m{p:m6}{q:PP}(hp:PH H p q)(hz:SzOk q.decls){K:Sl→Hp→Prop}(h:∀s H',Hle H H'→SlH H' 2 i5 s (kF 2 q.decls)→K s H'):a3S p H K:=by
 refine b0v _ ?_
 unfold a3Z
 obtain ⟨hd,hb,_⟩:=hp
 simp only [big] at hb
 have n1:=hd.1
 refine Q6 (fun(z:List i7×Int) H'=>0≤z.2∧z.2≤q.decls.length∧H'=H∧z.1=kF 2 (q.decls.take z.2.toNat)) (fun z=>(q.decls.length-z.2).toNat) ⟨Int.le_refl _,by dsimp only;omega,rfl,rfl⟩ ?_
 rintro ⟨cs,i⟩ H2 next ⟨i0,i1,rfl,hcs⟩ hn
 dsimp only at i0 i1 hcs ⊢
 unfold a0o
 refine ⟨fun c=>?_,fun c=>?_⟩
 ·obtain ⟨x,hx,hE⟩:=hd.get i0 c
  have hlt:=v1 hx
  have hx0:=hz x (List.mem_of_getElem? hx)
  have hcl:cs.length≤q.decls.length:=by
   rw [hcs]
   exact Nat.le_trans (List.length_filter_le _ _) (by rw [List.length_take];omega)
  refine ⟨i0,by omega,x,hE,fun e=>⟨by simp only [List.length_cons,List.length_nil];omega,?_⟩,fun e=>?_⟩
  ·unfold P1
   rw [q6 i0 (by omega)]
   refine hn _ _ ⟨by dsimp only;omega,by dsimp only;omega,rfl,?_⟩ (by dsimp only;omega)
   dsimp only
   rw [show (i+1).toNat=i.toNat+1 by omega,K9 hx,b2a,c0E (by unfold kindD;rw [if_pos (by omega)]),← hcs]
  ·unfold P1
   rw [q6 i0 (by omega)]
   refine hn _ _ ⟨by dsimp only;omega,by dsimp only;omega,rfl,?_⟩ (by dsimp only;omega)
   dsimp only
   rw [show (i+1).toNat=i.toNat+1 by omega,K9 hx,b2a,b8L (by unfold kindD;rw [if_neg (by omega)];decide),List.append_nil,← hcs]
 ·unfold a0m
  intro s2 H3 l3 hS3 _
  rw [hcs,List.take_of_length_le (by omega)] at hS3
  exact h s2 H3 l3 hS3
theorem c6s{s s':Sl}{xs:List i7}(h1:SlH H 2 i5 s xs)(h2:SlH H 2 i5 s' xs)(hb:xs.length≤big){K:Bool→Hp→Prop}(h:K true H):a4r s s' H K:=by
 refine b0T _ _ ?_
 unfold a4N
 have n1:=h1.1;have n2:=h2.1
 refine ⟨fun e=>by omega,fun _=>?_⟩
 refine Q6 (fun(i:Int) H'=>0≤i∧i≤xs.length∧H'=H) (fun i=>(xs.length-i).toNat) ⟨Int.le_refl _,by omega,rfl⟩ ?_
 rintro i H1 next ⟨i0,i1,rfl⟩ hn
 unfold a3k
 refine ⟨fun hq=>?_,fun hq=>?_⟩
 ·obtain ⟨x,hx,hE⟩:=h1.get i0 hq
  obtain ⟨y,hy,hF⟩:=h2.get i0 (show i < (s'.n:Int) by omega)
  rw [hx] at hy;cases hy
  refine ⟨i0,hq,x,hE,i0,by omega,x,hF,fun e=>(e ⟨rfl,rfl⟩).elim,fun _=>?_⟩
  rw [q6 i0 (by simp only [big] at hb;omega)]
  exact hn _ _ ⟨by omega,by omega,rfl⟩ (by omega)
 ·unfold a0P;exact h
end
end Go.Proofs.YtaokfhdinhimfaaGreatDoor
