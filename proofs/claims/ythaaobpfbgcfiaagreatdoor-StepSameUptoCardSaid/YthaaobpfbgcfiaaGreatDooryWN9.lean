/- A runner's conditions and statements. Off the readings. -/
import Derived.Test.YthaaobpfbgcfiaaGreatDooryWN8
namespace Go.Proofs.YthaaobpfbgcfiaaGreatDoor
open Go.RowKit
set_option maxRecDepth 100000
set_option maxHeartbeats 4000000
section
variable {P:Program}{E:Pan}{w:World}{K:Value→World→Prop}{s:Sem Next}
theorem b1Z(h:opK P E s w K):opK P E (gsem (asB (.bool true)) true s) w K:=h
theorem b2a(h:opK P E s w K):opK P E (gsem (asB (.bool false)) false s) w K:=h
theorem b2b(h:K undef w):opK P E (gsem (asB (.bool true)) false s) w K:=h
theorem b2c(h:K undef w):opK P E (gsem (asB (.bool false)) true s) w K:=h
end
section
variable {k0:Int}{ev0:Nat}{ns ars:List ByteArray}{H:Hp}{g:Nat}{X:Cx}
theorem a5H{α:Type}{sz:Nat}{cf:α→List Value}{R:α→PT→Prop}{s:Sl}{xs:List α}{ts:List PT}(hs:SlH H sz cf s xs)(hr:K4 R xs ts){i:Nat}{t:PT}(ht:ts[i]? = some t):∃x,EltH H s i sz (cf x)∧R x t∧(i:Int) < s.n:=by
 obtain ⟨x,hx⟩:=y7 (l:=xs) (i:=i) (by have:=C3 ht;have:=hr.1;omega)
 have:=C3 hx
 have hn:=hs.1
 exact ⟨x,hs.2 i x hx,hr.2 i x t hx ht,by omega⟩
theorem a6c{ps:List PT}{i:Nat}{u:PT}(h:ps[i]? = some u):(ps.map cvT).getD i (ret false)=cvT u:=by
 rw [List.getD_eq_getElem?_getD,List.getElem?_map,h];rfl
theorem c1b{ps:List PT}{i:Nat}{u:PT}(h:ps[i]? = some u):(ps.map evT).getD i (ret 0)=evT u:=by
 rw [List.getD_eq_getElem?_getD,List.getElem?_map,h];rfl
variable (hk:k0≤1000000)(hev:ev0≤1000000)
include hk hev
theorem c8T{t:PT}(ha:ArC t):formT t=true→∀{e:y9},CH H e t→Nm ns ars (uT t)→CR k0 ev0 ns ars 87 [rP g,.agg (p5 e).toArray] H g X (cvT t) bE:=by
 induction ha with
 | @mk k0' op0 es ps har hae hac ih=>
  intro hf e he hu σ F hr ho w I
  generalize htt:PT.mk (.cond k0' op0 es.length ps.length) (es++ps)=tt at he
  cases he with
  | @mk _ xs ts ys us hs hb hrl hc hcb hcl hcr=>
   injection htt with hl hkk
   injection hl with q1 q2 q3 q4
   subst q1;subst q2
   obtain ⟨rfl,rfl⟩:=List.append_inj hkk q3
   have hpr:K4 (CH H) ys ps:=⟨hcl,hcr⟩
   obtain ⟨hu1,hu2⟩:=hu.own
   rw [formT,Bool.and_eq_true] at hf
   have hC:∀u∈ps,Cm ns ars (fun _=>True) (cvT u):=fun u hm=>(cmC (hac u hm) (E7 hf.2 (List.mem_append_right _ hm)) (hu2.mem (List.mem_append_right _ hm))).1
   have hE:∀u∈es,Cm ns ars o8 (evT u):=fun u hm=>cmE (hae u hm) (hu2.mem (List.mem_append_left _ hm))
   have hcv:cvT (PT.mk (.cond e.b8 e.fOp es.length ps.length) (es++ps))=cvN e.b8 e.fOp (es.map evT) (ps.map cvT):=b8U _ _ _ _
   rw [hcv]
   refine d1p ?_
   unfold F87
   refine z7 I (cs:=p5 e) rfl fun g1 w1 I1 _=>?_
   have dr:∀{F':Frag}{w':World},Inv w (inF [F]) H H [F',bx g1 122 (p5 e)] w'→Inv w (inF [F]) H H [F'] w':=fun J=>(J.bring 1).drop
   have part:∀{i:Nat}{u:PT}{σ1:St}{F1:Frag}{w2:World}{K:Value→World→Prop}{E:Pan}{x:y9},ps[i]? = some u→CH H x u→RnF g X σ1 H F1→Okst k0 ev0 ns ars σ1→Inv w (inF [F]) H H [F1,bx g1 122 (p5 e)] w2→
     (∀b σ2 F2 w3,cvT u σ1=.ok b σ2→RnF g X σ2 H F2→Okst k0 ev0 ns ars σ2→Inv w (inF [F]) H H [F2,bx g1 122 (p5 e)] w3→K (.bool b) w3)→
     (∀st wr σ2 F2 w3,cvT u σ1=.stop st wr σ2→RnF g X σ2 H F2→Inv w (inF [F]) H H [F2,bx g1 122 (p5 e)] w3→E [{ v:=endsV st wr,recovered:=false }] w3)→
     Cv Tryz.prog 87 [rP g,.agg (p5 x).toArray].toArray w2 K E:=fun{i}{u}{σ1}{F1}{w2}{K}{E}{x} hi hx hr1 ho1 I2 hK hE2=>by
    have hm:=List.mem_of_getElem? hi
    refine (ih u hm (E7 hf.2 (List.mem_append_right _ hm)) hx (hu2.mem (List.mem_append_right _ hm))).use hr1 ho1 I2 (fun a σ' F' w' e1 hr2 J=>?_) fun st wr σ' F' w' e1 hr2 J=>hE2 st wr σ' F' w' e1 hr2 J
    exact hK a σ' F' w' e1 hr2 (a2e (hC u hm) ho1 e1).2 J
   obtain ⟨a3,a4,a5,a6⟩:=har
   refine b6 a6C ?_
   refine d4 (ld1 Tryz.isAgg3 (I1.at1 (o:=0) (vs:=[vi e.b8]) (nb rfl) rfl)) ?_
   refine b6 (i7 _ _ _ _ _ _) ?_
   refine D7 (fun c4=>?_) (fun c4=>?_)
   ·obtain ⟨u,hu0⟩:=y7 (l:=ps) (i:=0) (by have:=a4 c4;omega)
    obtain ⟨x,⟨g5,o5,ha5,hA5⟩,hx,hlt⟩:=a5H hc hpr hu0
    have hm:cvN e.b8 e.fOp (es.map evT) (ps.map cvT)=bnd (cvT u) fun b=>ret !b:=by unfold cvN;rw [if_pos c4,a6c hu0]
    rw [hm]
    refine b6 R9 ?_
    refine d4 (ld1 Tryz.isAgg102 (I1.at1 (o:=3) (vs:=[vs e.C7]) (nb rfl) rfl)) ?_
    refine b6 (O6 ha5 _ _ _ _ (by decide) hlt) ?_
    refine d4 (ldA (vs:=p5 x) Tryz.isAgg122 Tryz.sizeOf122 rfl (I1.atH hA5)) ?_
    refine q9 (cap:=[]) (fun args w=>Tryz.call87 args w) ?_
    refine part hu0 hx hr ho (I1.bring 1) (fun b σ2 F2 w3 e1 hr2 ho2 J=>?_) fun st wr σ2 F2 w3 e1 hr2 J=>?_
    ·refine b6 (O4 _) ?_
     exact ⟨_,_,dr J,!b,σ2,F2,by rw [K3 e1];rfl,rfl,rfl,hr2,rfl⟩
    ·exact ⟨_,_,dr J,st,wr,σ2,F2,O5 e1,rfl,rfl,hr2,rfl⟩
   refine b6 (i7 _ _ _ _ _ _) ?_
   refine D7 (fun c5=>?_) (fun c5=>?_)
   ·obtain ⟨u,hu0⟩:=y7 (l:=ps) (i:=0) (by have:=a5 c5;omega)
    obtain ⟨u2,hu1'⟩:=y7 (l:=ps) (i:=1) (by have:=a5 c5;omega)
    obtain ⟨x,⟨g5,o5,ha5,hA5⟩,hx,hlt⟩:=a5H hc hpr hu0
    obtain ⟨x2,⟨g6,o6,ha6,hA6⟩,hx2,hlt2⟩:=a5H hc hpr hu1'
    have hm:cvN e.b8 e.fOp (es.map evT) (ps.map cvT)=bnd (cvT u) fun b=>if b=true then cvT u2 else ret false:=by unfold cvN;rw [if_neg c4,if_pos c5,a6c hu0,a6c hu1']
    rw [hm]
    refine b6 R9 ?_
    refine d4 (ld1 Tryz.isAgg102 (I1.at1 (o:=3) (vs:=[vs e.C7]) (nb rfl) rfl)) ?_
    refine b6 (O6 ha5 _ _ _ _ (by decide) hlt) ?_
    refine d4 (ldA (vs:=p5 x) Tryz.isAgg122 Tryz.sizeOf122 rfl (I1.atH hA5)) ?_
    refine q9 (cap:=[]) (fun args w=>Tryz.call87 args w) ?_
    refine part hu0 hx hr ho (I1.bring 1) (fun b σ2 F2 w3 e1 hr2 ho2 J=>?_) fun st wr σ2 F2 w3 e1 hr2 J=>?_
    ·rw [K3 e1]
     cases b
     ·refine b2c (b2c (b2c (b2c (b2c ?_))))
      refine b6 (a6X _ _ _) ?_
      exact ⟨_,_,dr J,false,σ2,F2,rfl,rfl,rfl,hr2,rfl⟩
     ·refine b1Z ?_
      refine b6 R9 ?_
      refine b1Z ?_
      refine d4 (ld1 Tryz.isAgg102 ((J.bring 1).at1 (o:=3) (vs:=[vs e.C7]) (nb rfl) rfl)) ?_
      refine b1Z ?_
      refine b6 (O6 ha6 _ _ _ _ (by decide) hlt2) ?_
      refine b1Z ?_
      refine d4 (ldA (vs:=p5 x2) Tryz.isAgg122 Tryz.sizeOf122 rfl (J.atH hA6)) ?_
      refine b1Z ?_
      rw [J0,j8 rfl]
      refine q9 (cap:=[]) (fun args w=>Tryz.call87 args w) ?_
      refine part hu1' hx2 hr2 ho2 J (fun b σ3 F3 w4 e2 hr3 ho3 J2=>?_) fun st wr σ3 F3 w4 e2 hr3 J2=>?_
      ·refine b6 (a6X _ _ _) ?_
       exact ⟨_,_,dr J2,b,σ3,F3,by rw [if_pos rfl];exact e2,rfl,rfl,hr3,rfl⟩
      ·exact ⟨_,_,dr J2,st,wr,σ3,F3,by rw [if_pos rfl];exact e2,rfl,rfl,hr3,rfl⟩
    ·exact ⟨_,_,dr J,st,wr,σ2,F2,O5 e1,rfl,rfl,hr2,rfl⟩
   refine b6 (i7 _ _ _ _ _ _) ?_
   refine D7 (fun c6=>?_) (fun c6=>?_)
   ·obtain ⟨u,hu0⟩:=y7 (l:=ps) (i:=0) (by have:=a6 c6;omega)
    obtain ⟨u2,hu1'⟩:=y7 (l:=ps) (i:=1) (by have:=a6 c6;omega)
    obtain ⟨x,⟨g5,o5,ha5,hA5⟩,hx,hlt⟩:=a5H hc hpr hu0
    obtain ⟨x2,⟨g6,o6,ha6,hA6⟩,hx2,hlt2⟩:=a5H hc hpr hu1'
    have hm:cvN e.b8 e.fOp (es.map evT) (ps.map cvT)=bnd (cvT u) fun b=>if b=true then ret true else cvT u2:=by unfold cvN;rw [if_neg c4,if_neg c5,if_pos c6,a6c hu0,a6c hu1']
    rw [hm]
    refine b6 R9 ?_
    refine d4 (ld1 Tryz.isAgg102 (I1.at1 (o:=3) (vs:=[vs e.C7]) (nb rfl) rfl)) ?_
    refine b6 (O6 ha5 _ _ _ _ (by decide) hlt) ?_
    refine d4 (ldA (vs:=p5 x) Tryz.isAgg122 Tryz.sizeOf122 rfl (I1.atH hA5)) ?_
    refine q9 (cap:=[]) (fun args w=>Tryz.call87 args w) ?_
    refine part hu0 hx hr ho (I1.bring 1) (fun b σ2 F2 w3 e1 hr2 ho2 J=>?_) fun st wr σ2 F2 w3 e1 hr2 J=>?_
    ·rw [K3 e1]
     cases b
     ·refine b2a ?_
      refine b6 R9 ?_
      refine b2a ?_
      refine d4 (ld1 Tryz.isAgg102 ((J.bring 1).at1 (o:=3) (vs:=[vs e.C7]) (nb rfl) rfl)) ?_
      refine b2a ?_
      refine b6 (O6 ha6 _ _ _ _ (by decide) hlt2) ?_
      refine b2a ?_
      refine d4 (ldA (vs:=p5 x2) Tryz.isAgg122 Tryz.sizeOf122 rfl (J.atH hA6)) ?_
      refine b2a ?_
      rw [J0,j8 rfl]
      refine q9 (cap:=[]) (fun args w=>Tryz.call87 args w) ?_
      refine part hu1' hx2 hr2 ho2 J (fun b σ3 F3 w4 e2 hr3 ho3 J2=>?_) fun st wr σ3 F3 w4 e2 hr3 J2=>?_
      ·refine b6 (a6X _ _ _) ?_
       exact ⟨_,_,dr J2,b,σ3,F3,by rw [if_neg (by decide)];exact e2,rfl,rfl,hr3,rfl⟩
      ·exact ⟨_,_,dr J2,st,wr,σ3,F3,by rw [if_neg (by decide)];exact e2,rfl,rfl,hr3,rfl⟩
     ·refine b2b (b2b (b2b (b2b (b2b ?_))))
      refine b6 (a6X _ _ _) ?_
      exact ⟨_,_,dr J,true,σ2,F2,rfl,rfl,rfl,hr2,rfl⟩
    ·exact ⟨_,_,dr J,st,wr,σ2,F2,O5 e1,rfl,rfl,hr2,rfl⟩
   refine b6 (i7 _ _ _ _ _ _) ?_
   refine D7 (fun c3=>?_) (fun c3=>?_)
   ·obtain ⟨u,hu0⟩:=y7 (l:=es) (i:=0) (by have:=a3 c3;omega)
    obtain ⟨u2,hu1'⟩:=y7 (l:=es) (i:=1) (by have:=a3 c3;omega)
    obtain ⟨x,⟨g5,o5,ha5,hA5⟩,hx,hlt⟩:=a5H hs hrl hu0
    obtain ⟨x2,⟨g6,o6,ha6,hA6⟩,hx2,hlt2⟩:=a5H hs hrl hu1'
    have hm:cvN e.b8 e.fOp (es.map evT) (ps.map cvT)=bnd (evT u) fun a=>bnd (evT u2) fun b=>bnd stepM fun _=>ret (cmpS e.fOp a b):=by unfold cvN;rw [if_neg c4,if_neg c5,if_neg c6,if_pos c3,c1b hu0,c1b hu1']
    rw [hm]
    have m0:=List.mem_of_getElem? hu0
    have m1:=List.mem_of_getElem? hu1'
    refine b6 a4D ?_
    refine d4 (ld1 Tryz.isAgg101 (I1.at1 (o:=2) (vs:=[vs e.t7]) (nb rfl) rfl)) ?_
    refine b6 (Q0 ha5 _ _ _ _ (by decide) hlt) ?_
    refine d4 (ldA (vs:=j9 x) Tryz.isAgg125 Tryz.sizeOf125 rfl (I1.atH hA5)) ?_
    refine q9 (cap:=[]) (fun args w=>Tryz.call85 args w) ?_
    refine (b7e hk hev (hae u m0) (E7 hf.2 (List.mem_append_left _ m0)) hx (hu2.mem (List.mem_append_left _ m0))).use hr ho (I1.bring 1) (fun a σ2 F2 w3 e1 hr2 J=>?_) fun st wr σ2 F2 w3 e1 hr2 J=>?_
    ·rw [K3 e1]
     obtain ⟨ha64,ho2⟩:=a2e (hE u m0) ho e1
     refine b6 a4D ?_
     refine d4 (ld1 Tryz.isAgg101 ((J.bring 1).at1 (o:=2) (vs:=[vs e.t7]) (nb rfl) rfl)) ?_
     refine b6 (Q0 ha6 _ _ _ _ (by decide) hlt2) ?_
     refine d4 (ldA (vs:=j9 x2) Tryz.isAgg125 Tryz.sizeOf125 rfl (J.atH hA6)) ?_
     refine q9 (cap:=[]) (fun args w=>Tryz.call85 args w) ?_
     refine (b7e hk hev (hae u2 m1) (E7 hf.2 (List.mem_append_left _ m1)) hx2 (hu2.mem (List.mem_append_left _ m1))).use hr2 ho2 J (fun b σ3 F3 w4 e2 hr3 J3=>?_) fun st wr σ3 F3 w4 e2 hr3 J3=>?_
     ·rw [K3 e2]
      obtain ⟨hb64,ho3⟩:=a2e (hE u2 m1) ho2 e2
      refine q9 (cap:=[]) (fun args w=>Tryz.call84 args w) ?_
      refine (a7i hk).use hr3 ho3 J3 (fun _ σ4 F4 w5 e3 hr4 J4=>?_) fun st wr σ4 F4 w5 e3 hr4 J4=>?_
      ·rw [K3 e3]
       refine b6 a4F ?_
       refine d4 (ld1 Tryz.isAgg3 ((J4.bring 1).at1 (o:=1) (vs:=[vi e.fOp]) (nb rfl) rfl)) ?_
       refine q9 (cap:=[]) (fun args w=>Tryz.call44 args w) ?_
       refine O2 (Fi:=[]) (Fr:=[_,_]) J4 (b6m (K:=fun r0 H'=>r0=cmpS e.fOp a b∧H'=H) ⟨rfl,rfl⟩) (fun v H3 Fo w6 I3 l3 k3 q=>?_) (fun _ _ _ _ _ q=>q.elim)
       obtain ⟨r0,rfl,rfl,rfl,rfl⟩:=q
       exact ⟨_,_,dr I3,_,σ4,F4,rfl,rfl,rfl,hr4,rfl⟩
      ·exact ⟨_,_,dr J4,st,wr,σ4,F4,O5 e3,rfl,rfl,hr4,rfl⟩
     ·exact ⟨_,_,dr J3,st,wr,σ3,F3,O5 e2,rfl,rfl,hr3,rfl⟩
    ·exact ⟨_,_,dr J,st,wr,σ2,F2,O5 e1,rfl,rfl,hr2,rfl⟩
   ·have hm:cvN e.b8 e.fOp (es.map evT) (ps.map cvT)=bnd stepM fun _=>ret (decide (e.b8=1)):=by unfold cvN;rw [if_neg c4,if_neg c5,if_neg c6,if_neg c3]
    rw [hm]
    refine q9 (cap:=[]) (fun args w=>Tryz.call84 args w) ?_
    refine (a7i hk).use hr ho (I1.bring 1) (fun _ σ4 F4 w5 e3 hr4 J4=>?_) fun st wr σ4 F4 w5 e3 hr4 J4=>?_
    ·refine b6 a6C ?_
     refine d4 (ld1 Tryz.isAgg3 ((J4.bring 1).at1 (o:=0) (vs:=[vi e.b8]) (nb rfl) rfl)) ?_
     refine b6 (i7 _ _ _ _ _ _) ?_
     exact ⟨_,_,dr J4,_,σ4,F4,by rw [K3 e3];rfl,rfl,rfl,hr4,rfl⟩
    ·exact ⟨_,_,dr J4,st,wr,σ4,F4,O5 e3,rfl,rfl,hr4,rfl⟩
end
end Go.Proofs.YthaaobpfbgcfiaaGreatDoor
