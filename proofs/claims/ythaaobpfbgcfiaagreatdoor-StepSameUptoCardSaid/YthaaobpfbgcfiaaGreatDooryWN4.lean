/- A program's run as a tree, and its graph's: statements, the whole. Plain. -/
import Derived.Test.YthaaobpfbgcfiaaGreatDooryWW2
namespace Go.Proofs.YthaaobpfbgcfiaaGreatDoor
open Go.RowKit
set_option maxRecDepth 100000
set_option maxHeartbeats 2000000
theorem b0R(k:Int)(s:ByteArray)(ts us vs ws:List PT):rnT (sX k s ts us vs ws)=stN k s ts (us.map cvT) (vs.map rnT) (ws.map rnT):=b8V k s ts us vs ws
theorem c5I(L:En)(x:ByteArray)(e:PT)(a b:Int)(g:Gr):(loT L (sX 1 x [e] [] [] [])).st a b g=match (loT L e).pl with | some o=>edG ⟨a,b,2,L.vf x,-1,0,o,nO⟩ g | none=>(loT L e).into (L.vf x) a b 0 g:=by
 rw [a4B];rfl
theorem c5J(L:En)(x:ByteArray)(i e:PT)(a b:Int)(g:Gr):(loT L (sX 2 x [i,e] [] [] [])).st a b g=edG ⟨(twF L (loT L i) (loT L e) a 0 g).2.2.1,b,11,-1,L.af x,0,(twF L (loT L i) (loT L e) a 0 g).1,(twF L (loT L i) (loT L e) a 0 g).2.1⟩ (twF L (loT L i) (loT L e) a 0 g).2.2.2:=by
 rw [a4B];rfl
section
variable {L:En}{T:Int}{ns ars:List ByteArray}{es:List Ed}{scr:List Int}{k0:Int}
def StP(L:En)(T:Int)(ns ars:List ByteArray)(scr:List Int)(k0:Int)(b:Int)(_:Unit)(σ':St)(s':RS):Prop:=Re L T ns ars scr k0 σ' s'∧s'.pt=b
def SG(L:En)(T:Int)(ns ars:List ByteArray)(es:List Ed)(scr:List Int)(k0:Int)(t:PT):Prop:=∀(a b:Int)(g:Gr)(σ:St)(s:RS),Un es T ((loT L t).st a b g)→Re L T ns ars scr k0 σ s→s.pt=a→Gs L T ns ars es scr k0 (rnT t σ) s (StP L T ns ars scr k0 b)
theorem c6X:∀{ts:List PT},(∀t∈ts,SG L T ns ars es scr k0 t)→ts≠[]→∀(a nx tg:Int)(g:Gr)(σ:St)(s:RS),Un es T (blG (ts.map (loT L)) a nx tg g)→Re L T ns ars scr k0 σ s→s.pt=a→Gs L T ns ars es scr k0 (seqM (ts.map rnT) σ) s (StP L T ns ars scr k0 tg)
 | [],_,h,_,_,_,_,_,_,_,_,_=>(h rfl).elim
 | [t],h,_,a,nx,tg,g,σ,s,hU,hR,hp=>by
  rw [List.map_cons,List.map_nil,blG] at hU
  rw [List.map_cons,List.map_nil,seqM,seqM]
  exact (h t (by simp) a tg g σ s hU hR hp).bnd fun _ σ' s' _ q=>Gs.now q
 | t::u::r,h,_,a,nx,tg,g,σ,s,hU,hR,hp=>by
  rw [List.map_cons,List.map_cons,blG] at hU
  rw [List.map_cons,seqM]
  have hg:=c1W (b1V L (u::r)) nx (nx+1) tg ((loT L t).st a nx g)
  exact (h t (by simp) a nx g σ s (hU.of hg) hR hp).bnd fun _ σ1 s1 _ q=>c6X (ts:=u::r) (fun x hx=>h x (List.mem_cons_of_mem _ hx)) (by simp) nx (nx+1) tg _ σ1 s1 hU q.1 q.2
theorem b6y{ts:List PT}(h:∀t∈ts,SG L T ns ars es scr k0 t){a tg:Int}{g:Gr}{σ:St}{s:RS}(hU:Un es T (blkG (ts.map (loT L)) a tg g))(hR:Re L T ns ars scr k0 σ s)(h0:ts=[]→s.pt=tg)(h1:ts≠[]→s.pt=a):Gs L T ns ars es scr k0 (seqM (ts.map rnT) σ) s (StP L T ns ars scr k0 tg):=by
 by_cases e:ts=[]
 ·subst e
  exact Gs.now ⟨hR,h0 rfl⟩
 ·exact c6X h e _ _ _ _ _ _ hU hR (h1 e)
theorem c0Y{c:M Bool}{b:M Unit}{a yes no:Int}(hc:∀σ s,Re L T ns ars scr k0 σ s→s.pt=a→Gs L T ns ars es scr k0 (c σ) s (CoP L T ns ars scr k0 s yes no))(hb:∀σ s,Re L T ns ars scr k0 σ s→s.pt=yes→Gs L T ns ars es scr k0 (b σ) s (StP L T ns ars scr k0 a)):
  ∀(n:Nat)(σ:St)(s:RS),σ.left < n→Re L T ns ars scr k0 σ s→s.pt=a→Gs L T ns ars es scr k0 (loopM c b n σ) s (StP L T ns ars scr k0 no)
 | 0,_,_,h,_,_=>by omega
 | n+1,σ,s,h,hR,hp=>by
  rw [loopM]
  refine (hc σ s hR hp).bnd fun q σ1 s1 _ ⟨R1,p1,l1⟩=>?_
  cases q
  ·exact Gs.now ⟨R1,p1⟩
  ·refine (hb σ1 s1 R1 p1).bnd fun _ σ2 s2 q2 ⟨R2,p2⟩=>c0Y hc hb n σ2 s2 ?_ R2 p2
   have:=hR.st;have:=hR.lf;have:=R1.st;have:=R2.st;have:=R2.lf
   omega
theorem c6Y{ex:Int}(G:Gok ex es){s:RS}(hp:s.pt=ex)(f:Nat):runS es scr k0 (f+1) s=(2,0,s):=by
 have h:idxS s.pt 0 es=[]:=by
  refine List.length_eq_zero_iff.1 ?_
  rw [a6W]
  exact List.length_eq_zero_iff.2 (b4b fun x hx e=>G.ex x hx (e.trans hp))
 exact b7E (by rw [h];rfl)
theorem d5a(C:Cc L ns ars)(hT:0≤T)(G:Gok L.ex es){t:PT}(ht:XS t):Nm ns ars (uT t)→SG L T ns ars es scr k0 t:=by
 induction ht with
 | asg x e he=>
  intro hu a b g σ s hU hR hp
  have hx:=d2k (s:=x) hu.own.1 rfl
  have hf:=b9y (es:=es) (scr:=scr) (k0:=k0) C hT G he (hu.own.2.mem (by simp))
  have ev:rnT (sX 1 x [e] [] [] [])=bnd (giveM e) (setM x):=by rw [b0R];rfl
  rw [c5I] at hU
  rw [ev]
  cases q:(loT L e).pl with
  | none=>
   rw [q] at hU
   rw [show giveM e=evT e from if_neg (by rw [hf.np q];decide)]
   exact (hf.into q (L.vf x) a b 0 g σ s (Int.le_refl 0) hU hR hp).bnd fun v σ' s' _ ⟨s1,R1,k1,e⟩=>by rw [e];exact Gs.now ⟨R1.vset C hT hx v b,rfl⟩
  | some o=>
   rw [q] at hU
   obtain ⟨p1,p2,p3⟩:=hf.pl o q
   rw [show giveM e=bnd stepM fun _=>evT e from if_pos p1]
   refine a7h (x:=⟨a,b,2,L.vf x,-1,0,o,nO⟩) hR (a5G G hU.last.1 (show (2:Int)≠12 by decide) hp) (fun q=>(by cases q)) (fun z=>?_) fun z=>?_
   ·rw [a0m];unfold bnd stepM;rw [if_pos z];rfl
   ·have hu:=hR.up z s.pt
    have e1:=p3 _ _ hu
    have e2:bnd (bnd stepM fun _=>evT e) (setM x) σ = setM x (valS s.vars o) { σ with left:=σ.left-1,steps:=σ.steps+1 }:=by
     rw [a0m,K3 (s1:={ σ with left:=σ.left-1,steps:=σ.steps+1 }) (a:=()) (by unfold stepM;rw [if_neg z])]
     exact K3 e1
    rw [e2]
    exact ⟨rfl,hu.vset C hT hx (valS s.vars o) b,rfl⟩
 | sto x i e hi he=>
  intro hu a b g σ s hU hR hp
  have hx:=d2l (s:=x) hu.own.1 rfl
  have hf:=b9y (es:=es) (scr:=scr) (k0:=k0) C hT G hi (hu.own.2.mem (by simp))
  have hh:=b9y (es:=es) (scr:=scr) (k0:=k0) C hT G he (hu.own.2.mem (by simp))
  have ev:rnT (sX 2 x [i,e] [] [] [])=bnd (evT i) fun j=>bnd (evT e) fun v=>storeM x j v:=by rw [b0R];rfl
  rw [c5J] at hU
  rw [ev]
  refine c2h (k:=storeM x) C hf hh (Int.le_refl 0) hU.last.2 hR hp fun j v σ1 s1 q1 R1 p1 v1 v2 k1=>?_
  have hm:=hU.last.1
  generalize twF L (loT L i) (loT L e) a 0 g=r1 at *
  obtain ⟨_,hr⟩:=R1.row hx
  have hrow:rowS s1.arrs ⟨r1.2.2.1,b,11,-1,L.af x,0,r1.1,r1.2.1⟩=rowOf x σ1:=by unfold rowS;rw [List.getD_eq_getElem?_getD];dsimp only;rw [hr];rfl
  have hdo:∀n,doesS ⟨r1.2.2.1,b,11,-1,L.af x,0,r1.1,r1.2.1⟩ n s1.vars s1.arrs=if 0≤j∧j < (rowOf x σ1).length then (0,s1.vars,s1.arrs.set (L.af x).toNat ((rowOf x σ1).set j.toNat v)) else (3,s1.vars,s1.arrs):=fun n=>by
   unfold doesS
   rw [if_neg (show ¬(11:Int)=2 by decide),if_neg (show ¬(11:Int)=9 by decide),if_neg (show ¬(3≤(11:Int)∧(11:Int)≤8) by decide),if_neg (show ¬(11:Int)=10 by decide),if_pos rfl,hrow]
   dsimp only
   rw [v1,v2]
  refine a7h (x:=⟨r1.2.2.1,b,11,-1,L.af x,0,r1.1,r1.2.1⟩) R1 (a5G G hm (show (11:Int)≠12 by decide) p1) (fun q=>(by cases q)) (fun z=>?_) fun z=>?_
  ·unfold storeM itemM;rw [a0m];unfold bnd stepM;rw [if_pos z];rfl
  ·have e1:storeM x j v σ1=bnd (boundM x j) (fun _=>putM x j v) { σ1 with left:=σ1.left-1,steps:=σ1.steps+1 }:=by
    unfold storeM itemM
    rw [a0m]
    exact K3 (by unfold stepM;rw [if_neg z])
   rw [e1]
   by_cases w:0≤j∧j < (rowOf x σ1).length
   ·rw [K3 (s1:={ σ1 with left:=σ1.left-1,steps:=σ1.steps+1 }) (a:=()) (by unfold boundM;rw [if_neg (by show ¬(j < 0∨((rowOf x σ1).length:Int)≤j);omega)])]
    refine ⟨by unfold wrongS;rw [hdo,if_pos w],?_⟩
    have hu:=(R1.up z s1.pt).rset C hx ((rowOf x σ1).set j.toNat v) b
    have e:toS (nextS ⟨r1.2.2.1,b,11,-1,L.af x,0,r1.1,r1.2.1⟩ scr s1) b=⟨b,s1.vars,s1.arrs.set (L.af x).toNat ((rowOf x σ1).set j.toNat v),s1.inp,s1.evs,s1.steps+1⟩:=by
     unfold nextS toS
     dsimp only
     rw [hdo,if_pos w]
     rfl
    show StP L T ns ars scr k0 b () _ (toS _ b)
    rw [e]
    exact ⟨hu,rfl⟩
   ·rw [O5 (s1:={ σ1 with left:=σ1.left-1,steps:=σ1.steps+1 }) (x:=3) (y:=3) (by unfold boundM;rw [if_pos (by show (j < 0∨((rowOf x σ1).length:Int)≤j);omega)])]
    refine ⟨rfl,by unfold wrongS;rw [hdo,if_neg w],by decide,?_⟩
    unfold nextS
    dsimp only
    rw [hdo,if_neg w]
    exact R1.up z s1.pt
 | iff c th el hc hth hel ih1 ih2=>
  intro hu a b g σ s hU hR hp
  have ev:rnT (sX 3 ⟨#[]⟩ [] [c] th el)=bnd (cvT c) fun h=>if h=true then seqM (th.map rnT) else seqM (el.map rnT):=by rw [b0R];rfl
  rw [c4l] at hU
  rw [ev]
  have k1:=a7g (th.map (loT L)) b g
  have k2:=a7g (el.map (loT L)) b (begG (th.map (loT L)) b g).2
  generalize begG (th.map (loT L)) b g=B1 at *
  generalize begG (el.map (loT L)) b B1.2=B2 at *
  have n1:th=[]→B1.1=b:=fun e=>by
   rcases k1 with ⟨_,rfl⟩ | ⟨q,_⟩
   ·rfl
   ·rw [e] at q;exact (q rfl).elim
  have n2:el=[]→B2.1=b:=fun e=>by
   rcases k2 with ⟨_,rfl⟩ | ⟨q,_⟩
   ·rfl
   ·rw [e] at q;exact (q rfl).elim
  have u2:=hU.of (a8S (b1V L el) ..)
  have u1:=u2.of (a8S (b1V L th) ..)
  refine (c2i C hT G hc (hu.own.2.mem (by simp)) a B1.1 B2.1 B2.2 σ s u1 hR hp).bnd fun h σ1 s1 _ ⟨R1,p1,l1⟩=>?_
  cases h
  ·exact b6y (fun t ht=>ih2 t ht (hu.own.2.mem (by simp [ht]))) hU R1 (fun e=>by rw [←n2 e];exact p1) fun _=>p1
  ·exact b6y (fun t ht=>ih1 t ht (hu.own.2.mem (by simp [ht]))) u2 R1 (fun e=>by rw [←n1 e];exact p1) fun _=>p1
 | whl c th hc hth ih=>
  intro hu a b g σ s hU hR hp
  have ev:rnT (sX 4 ⟨#[]⟩ [] [c] th [])=loopW (cvT c) (seqM (th.map rnT)):=by rw [b0R];rfl
  rw [b9q] at hU
  rw [ev]
  have k1:=a7g (th.map (loT L)) a g
  generalize begG (th.map (loT L)) a g=B1 at *
  have n1:th=[]→B1.1=a:=fun e=>by
   rcases k1 with ⟨_,rfl⟩ | ⟨q,_⟩
   ·rfl
   ·rw [e] at q;exact (q rfl).elim
  have u1:=hU.of (a8S (b1V L th) ..)
  exact c0Y (fun σ s R p=>c2i C hT G hc (hu.own.2.mem (by simp)) a B1.1 b B1.2 σ s u1 R p) (fun σ s R p=>b6y (fun t ht=>ih t ht (hu.own.2.mem (by simp [ht]))) hU R (fun e=>by rw [←n1 e];exact p) fun _=>p) (σ.left+1) σ s (by omega) hR hp
 | asr c hc=>
  intro hu a b g σ s hU hR hp
  have ev:rnT (sX 5 ⟨#[]⟩ [] [c] [] [])=bnd (cvT c) fun h=>bnd (heldM h) fun _=>if h=true then ret () else halt 3 4:=by rw [b0R];rfl
  rw [a4B] at hU
  have hU:Un es T (edG (bareE (g.p+1) b 14) (edG (bareE g.p b 13) ((loT L c).co a g.p (g.p+1) (frG (frG g))))):=hU
  rw [ev]
  refine (c2i C hT G hc (hu.own.2.mem (by simp)) a g.p (g.p+1) _ σ s hU.last.2.last.2 hR hp).bnd fun h σ1 s1 _ ⟨R1,p1,l1⟩=>?_
  have hst:∀(h:Bool)(k:M Unit),σ1.left=0→bnd (heldM h) (fun _=>k) σ1=.stop 1 0 σ1:=fun h k z=>by unfold heldM;rw [a0m];unfold bnd stepM;rw [if_pos z];rfl
  have hgo:∀(h:Bool)(k:M Unit),σ1.left≠0→bnd (heldM h) (fun _=>k) σ1=k { σ1 with left:=σ1.left-1,steps:=σ1.steps+1,events:=σ1.events++[⟨false,0,h⟩] }:=fun h k z=>by
   unfold heldM
   rw [a0m,K3 (s1:={ σ1 with left:=σ1.left-1,steps:=σ1.steps+1 }) (a:=()) (by unfold stepM;rw [if_neg z])]
   rfl
  have hev:∀(h:Bool)(p:Int),σ1.left≠0→Re L T ns ars scr k0 { σ1 with left:=σ1.left-1,steps:=σ1.steps+1,events:=σ1.events++[⟨false,0,h⟩] } ⟨p,s1.vars,s1.arrs,s1.inp,s1.evs++[⟨false,0,h⟩],s1.steps+1⟩:=fun h p z=>by
   have hu:=R1.up z p
   exact ⟨hu.st,hu.lf,by show s1.evs++_ = σ1.events++_;rw [R1.ev],hu.ip,hu.il,hu.vn,hu.an,hu.vs,hu.rs,hu.vl,hu.al⟩
  cases h
  ·refine a7h (x:=bareE (g.p+1) b 14) R1 (a5G G hU.last.1 (show (14:Int)≠12 by decide) p1) (fun q=>(by cases q)) (hst _ _) fun z=>?_
   rw [hgo _ _ z]
   exact ⟨rfl,rfl,by decide,hev false s1.pt z⟩
  ·refine a7h (x:=bareE g.p b 13) R1 (a5G G hU.last.2.last.1 (show (13:Int)≠12 by decide) p1) (fun q=>(by cases q)) (hst _ _) fun z=>?_
   rw [hgo _ _ z]
   exact ⟨rfl,hev true b z,rfl⟩
 | asm c hc=>
  intro hu a b g σ s hU hR hp
  have ev:rnT (sX 6 ⟨#[]⟩ [] [c] [] [])=bnd (cvT c) fun h=>if h=true then ret () else halt 2 0:=by rw [b0R];rfl
  rw [a4B] at hU
  have hU:Un es T ((loT L c).co a b L.ex g):=hU
  rw [ev]
  refine (c2i C hT G hc (hu.own.2.mem (by simp)) a b L.ex g σ s hU hR hp).bnd fun h σ1 s1 _ ⟨R1,p1,l1⟩=>?_
  cases h
  ·exact ⟨s1,⟨0,by have:=R1.st;have:=R1.lf;omega,fun f=>by rw [show 0+1+f=f+1 by omega];exact c6Y G p1 f⟩,R1⟩
  ·exact Gs.now ⟨R1,p1⟩
 | skp=>
  intro hu a b g σ s hU hR hp
  have ev:rnT (sX 7 ⟨#[]⟩ [] [] [] [])=bnd stepM fun _=>ret ():=by rw [b0R];exact (c0N stepM).symm
  rw [a4B] at hU
  have hU:Un es T (edG (bareE a b 1) g):=hU
  rw [ev]
  exact b4e (x:=bareE a b 1) G (a5G G hU.last.1 (show (1:Int)≠12 by decide) hp) (.inl rfl) hR fun σ' s' R p _=>⟨R,p⟩
theorem c5K(C:Cc L ns ars)(hT:0≤T)(G:Gok L.ex es){ts:List PT}(ht:∀t∈ts,XS t)(hu:Nm ns ars (uTs ts)){g:Gr}{σ:St}{s:RS}(hU:Un es T (blkG (ts.map (loT L)) 0 L.ex g))(hR:Re L T ns ars scr k0 σ s)(h0:s.steps=0)(hp:s.pt=0)(hx:ts=[]→L.ex=0):
  ∃s',runS es scr k0 (k0.toNat+1) s=((endS (seqM (ts.map rnT) σ)).1,(endS (seqM (ts.map rnT) σ)).2.1,s')∧Re L T ns ars scr k0 (endS (seqM (ts.map rnT) σ)).2.2 s':=by
 have h:=b6y (fun t h=>d5a (es:=es) (scr:=scr) (k0:=k0) C hT G (ht t h) (hu.mem h)) hU hR (fun e=>by rw [hx e];exact hp) fun _=>hp
 have hl:=hR.lf
 have hs:=hR.st
 cases e:seqM (ts.map rnT) σ with
 | ok a σ'=>
  rw [e] at h
  obtain ⟨n,s',g,e2,r,p⟩:=h
  have h1:=r.st;have h2:=r.lf
  refine ⟨s',?_,r⟩
  rw [show k0.toNat+1=n+((k0.toNat-n)+1) by omega,g]
  exact c6Y G p _
 | stop st wr σ'=>
  rw [e] at h
  obtain ⟨s',⟨n,hn,q⟩,r⟩:=h
  refine ⟨s',?_,r⟩
  rw [show k0.toNat+1=n+1+(k0.toNat-n) by omega]
  exact q _
end
abbrev rP(g:Nat):Value:=.pointer (some ⟨g,0,none⟩)
def uE:Unit→Value:=fun _=>.tuple #[]
abbrev bE:Bool→Value:=fun b=>.bool b
section
variable {P:Program}{kt:TypeId}{kd:TypeDesc}{κ ν:Type} [DecidableEq κ] {kv:κ→Value} {vv:ν→Value} {w0 w:World} {ps:Nat→Prop} {H0 H:Hp} {Fs:List Frag} {K:Value→Prop}
theorem b1l(ko:KeyOk P kt kd kv){mt et:TypeId}(hm:P.underlying mt=some (.map kt et)){z:ν}(hz:∀w,(zeroValue et).run P w=.ok (vv z) w){x:Option Nat}{l:List (κ×ν)}(I:Inv w0 ps H0 H Fs w)(hM:MapH H kv vv x l)(k:κ)
  (h:K (vv ((lk k l).getD z))):qL P w (blk (.map x)) (xV (Instr.lookup mt (.map x) (kv k) false)) K:=by
 obtain ⟨g,es,c,rfl,h2,h3⟩:=hM
 exact i8 (Ld.ok fun w' hw=>a9w (clock:=c) ko hm hz k h3 (by rw [hw];exact I.sub g _ h2)) h
end
section
variable {k0:Int}{ev0:Nat}{ns ars:List ByteArray}{H:Hp}{g:Nat}{X:Cx}
theorem b4x(x:Value)(a b:Int):Ct Tryz.prog 88 [x,vi a,vi b] H [] (fun _ _ _=>False) (fun c H' Fo=>c=[{ v:=endsV a b,recovered:=false }]∧H'=H∧Fo=[]):=by
 intro w I
 refine d1q ?_
 unfold F88
 refine b6 (b7K _ _) ?_
 refine b6 (b8h (by kernel_rfl) _) ?_
 exact c2C ⟨_,_,I,rfl,rfl,rfl⟩
def rightM(wr:Int):M Unit:=if wr=0 then ret () else halt 3 wr
theorem b5x(wr:Int):CR k0 ev0 ns ars 89 [rP g,vi wr] H g X (rightM wr) uE:=by
 intro σ F hr ho w I
 refine d1r ?_
 unfold F89
 refine b6 (O8 _ _ _ _ _ _) ?_
 unfold rightM
 refine a9S (fun c=>?_) (fun c=>?_)
 ·refine q9 (cap:=[]) (fun args w=>Tryz.call88 args w) ?_
  refine O2 (Fi:=[]) (Fr:=[F]) I (b4x _ _ _) (fun _ _ _ _ _ _ _ q=>q.elim) fun c2 H' Fo w' J q=>?_
  obtain ⟨rfl,rfl,rfl⟩:=q
  exact ⟨_,_,J,3,wr,σ,F,by rw [if_neg c];rfl,rfl,rfl,hr,rfl⟩
 ·exact ⟨_,_,I,(),σ,F,by rw [if_pos c];rfl,rfl,rfl,hr,rfl⟩
theorem c0a(n wr:Int):toldM (n,wr)=bnd (rightM wr) fun _=>ret n:=by
 unfold toldM rightM
 by_cases h:wr=0
 ·rw [if_pos h,if_pos h];rfl
 ·rw [if_neg h,if_neg h];rfl
theorem a9Z(r:Int×Int):CR k0 ev0 ns ars 110 [rP g,vi r.1,vi r.2] H g X (toldM r) vi:=by
 intro σ F hr ho w I
 refine c7B ?_
 unfold d1D
 rw [show toldM r=bnd (rightM r.2) fun _=>ret r.1 from c0a r.1 r.2]
 refine q9 (cap:=[]) (fun args w=>Tryz.call89 args w) ?_
 refine (b5x r.2).use hr ho I (fun a σ' F' w' e h2 J=>?_) fun st wr σ' F' w' e h2 J=>?_
 ·exact ⟨_,_,J,r.1,σ',F',by rw [K3 e];rfl,rfl,rfl,h2,rfl⟩
 ·exact ⟨_,_,J,st,wr,σ',F',by rw [O5 e],rfl,rfl,h2,rfl⟩
variable (hk:k0≤1000000)
include hk
theorem a7i:CR k0 ev0 ns ars 84 [rP g] H g X stepM uE:=by
 intro σ F hr ho w I
 refine d1m ?_
 unfold F84
 obtain ⟨sc,ev,Fe,Fv,Fa,W,rfl⟩:=hr
 obtain ⟨h1,h2,h3,h4,h5,h6,h7⟩:=W
 obtain ⟨left,steps,script,events,vars,arrs⟩:=σ
 have hs:=ho.sum
 have hp:=ho.pos
 dsimp only at hs hp h1 h3 h4 h5
 have I1:=I.un4
 refine v6 fun j1 hx1=>?_
 refine b6 (m7 _) ?_
 refine b6 b2u ?_
 refine d4 (ld1 Tryz.isAgg3 (I1.at1 (o:=0) (vs:=[vi (left:Int)]) (nb rfl) rfl)) ?_
 refine b6 (i7 _ _ _ _ _ _) ?_
 refine D7 (fun c=>?_) (fun c=>?_)
 ·refine q9 (cap:=[]) (fun args w=>Tryz.call88 args w) ?_
  refine O2 (Fi:=[]) (Fr:=[_,_,_,_]) I1 (b4x _ _ _) (fun _ _ _ _ _ _ _ q=>q.elim) fun c2 H' Fo w' J q=>?_
  obtain ⟨rfl,rfl,rfl⟩:=q
  exact ⟨_,_,J.jn4,1,0,_,_,by unfold stepM;rw [if_pos (by dsimp only;omega)],rfl,rfl,⟨sc,ev,Fe,Fv,Fa,⟨h1,h2,h3,h4,h5,h6,h7⟩,rfl⟩,rfl⟩
 ·obtain ⟨n,rfl⟩:∃n,left=n+1:=⟨left-1,by omega⟩
  refine hx1 _ _ ?_
  unfold c3z
  intro _
  refine b6 (m7 _) ?_
  refine b6 b2u ?_
  refine d4 (ld1 Tryz.isAgg3 (I1.at1 (o:=0) (vs:=[vi ((n+1:Nat):Int)]) (nb rfl) rfl)) ?_
  refine b6 (b0d _ _ _ _ _ _) ?_
  rw [c0h _ (by omega) (by omega),show ((n+1:Nat):Int)-1=n by omega]
  refine b6 (m7 _) ?_
  refine b6 b2u ?_
  refine E8 I1 Tryz.sizeOf3 (vs:=[vi (n:Int)]) (cs':=[vi (n:Int),vi steps,vs sc,vs ev,.map X.mv,.map X.ma]) rfl rfl (nb rfl) rfl rfl fun w2 I2 _=>?_
  refine b6 (m7 _) ?_
  refine b6 b2v ?_
  refine d4 (ld1 Tryz.isAgg3 (I2.at1 (o:=1) (vs:=[vi steps]) (nb rfl) rfl)) ?_
  refine b6 (B0 _ _ _ _ _ _) ?_
  rw [c0h _ (by omega) (by omega)]
  refine b6 (m7 _) ?_
  refine b6 b2v ?_
  refine E8 I2 Tryz.sizeOf3 (vs:=[vi (steps+1)]) (cs':=[vi (n:Int),vi (steps+1),vs sc,vs ev,.map X.mv,.map X.ma]) rfl rfl (nb rfl) rfl rfl fun w3 I3 _=>?_
  exact ⟨_,_,I3.jn4,(),⟨n,steps+1,script,events,vars,arrs⟩,_,by unfold stepM;rw [if_neg (Nat.succ_ne_zero n)];rfl,rfl,rfl,⟨sc,ev,Fe,Fv,Fa,⟨h1,h2,h3,h4,h5,h6,h7⟩,rfl⟩,rfl⟩
def gOf(X:Cx)(x:ByteArray):Nat:=(((lk x X.la).bind (·.a)).map (·.block)).getD 0
def pI(X:Cx)(x:ByteArray)(i:Int):Value:=.pointer (some ⟨gOf X x,0+i.toNat*1,none⟩)
omit hk in
theorem b7c{x:ByteArray}{sl:Sl}{xs:List Int}{F:Frag}(hl:lk x X.la=some sl)(hr:RowL 2 1 ci sl xs F){i:Nat}{v:Int}(hx:xs[i]? = some v):sl.a=some ⟨gOf X x,0,none⟩:=by
 obtain ⟨g1,arr,ha,_⟩:=hr.addr hx
 rw [ha]
 unfold gOf
 rw [hl,Option.bind_some,ha]
 rfl
omit hk in
theorem b7d{σ:St}{x:ByteArray}(ho:Okst k0 ev0 ns ars σ)(hx:x∈ars):lk x σ.arrs=some (rowOf x σ):=by
 rw [←ho.rs] at hx
 obtain ⟨l,hl⟩:=a9Y hx
 unfold rowOf
 rw [hl];rfl
theorem c0Z{x:ByteArray}{i:Int}(hx:x∈ars):CR k0 ev0 ns ars 86 [rP g,kS x,vi i] H g X (itemM x i) (fun _=>pI X x i):=by
 intro σ F hr ho w I
 refine d1o ?_
 unfold F86
 unfold itemM
 refine q9 (cap:=[]) (fun args w=>Tryz.call84 args w) ?_
 refine (a7i hk).use hr ho I (fun a σ1 F1 w1 e1 hr1 I1=>?_) fun st wr σ1 F1 w1 e1 hr1 I1=>?_
 ·have ho1:Okst k0 ev0 ns ars σ1:=by have:=b3T σ ho;rw [e1] at this;exact this.2.1
  have e2:bnd stepM (fun _=>boundM x i) σ = boundM x i σ1:=K3 e1
  rw [e2]
  clear e2 e1 hr I ho
  obtain ⟨sc,ev,Fe,Fv,Fa,W,rfl⟩:=hr1
  obtain ⟨h1,h2,h3,h4,h5,h6,h7⟩:=W
  have I2:=I1.un4
  obtain ⟨sl,F2,Fr,hl,hrow,hp,hset⟩:=h5.get (b7d ho1 hx)
  have hlen:=hrow.2.1
  have hr1:RnF g X σ1 H (bx g 56 (rcs X σ1 sc ev)++(Fe++(Fv++Fa))):=⟨sc,ev,Fe,Fv,Fa,⟨h1,h2,h3,h4,h5,h6,h7⟩,rfl⟩
  refine b6 (m7 _) ?_
  refine b6 b2y ?_
  refine d4 (ld1 Tryz.isAgg54 (I2.at1 (o:=5) (vs:=[.map X.ma]) (nb rfl) rfl)) ?_
  refine b8t (keyS Tryz.underlying9) Tryz.underlying54 (z:=(⟨none,0,0⟩:Sl)) (fun w=>Tryz.zeroValue26 w) I2 h7 x ?_
  rw [hl,Option.getD_some]
  refine v6 fun j1 hx1=>?_
  refine b6 (A4 _ _ _ _ _ _) ?_
  refine b6 (Pu.g fun c=>(by rw [J0,j8 c];exact a1T _ _ _)) ?_
  rw [J0]
  refine b6 (Pu.g (v:=.bool (decide ((sl.n:Int)≤i))) fun c=>(by rw [j8 c,j8 c];exact a3r _ _ _ _ _ _)) ?_
  refine b6 (M2 _ _) ?_
  unfold boundM
  rw [show ((rowOf x σ1).length:Int)=sl.n by omega]
  refine N9 (fun c=>?_) (fun c=>?_)
  ·have hb:i < 0∨(sl.n:Int)≤i:=by simpa using c
   rw [if_pos hb]
   refine q9 (cap:=[]) (fun args w=>Tryz.call89 args w) ?_
   refine (b5x 3).use hr1 ho1 I1 (fun a σ2 F3 w3 e3 hr3 I3=>?_) fun st wr σ2 F3 w3 e3 hr3 I3=>?_
   ·cases e3
   ·cases e3
    exact ⟨_,_,I3,3,3,σ1,F3,rfl,rfl,rfl,hr3,rfl⟩
  ·have hb:¬(i < 0∨(sl.n:Int)≤i):=by simpa using c
   refine hx1 _ _ ?_
   unfold c3B
   intro _
   obtain ⟨v,hv⟩:=y7 (l:=rowOf x σ1) (i:=i.toNat) (by omega)
   refine b6 (E3 (b7c hl hrow hv) _ _ _ _ (by omega) (by omega)) ?_
   exact ⟨_,_,I1,(),σ1,_,by unfold boundM;rw [show ((rowOf x σ1).length:Int)=sl.n by omega,if_neg hb],rfl,rfl,hr1,rfl⟩
 ·exact ⟨_,_,I1,st,wr,σ1,F1,O5 e1,rfl,rfl,hr1,rfl⟩
theorem c5L(hev:ev0≤1000000):CR k0 ev0 ns ars 109 [rP g] H g X inM vi:=by
 intro σ F hr ho w I
 refine c7A ?_
 unfold d1C
 have hr0:=hr
 obtain ⟨sc,ev,Fe,Fv,Fa,W,rfl⟩:=hr
 have hsn:=W.hsc.1
 have I1:=I.un4
 refine v6 fun j1 hx1=>?_
 refine b6 (m7 _) ?_
 refine b6 a9D ?_
 refine d4 (ld1 Tryz.isAgg26 (I1.at1 (o:=2) (vs:=[vs sc]) (nb rfl) rfl)) ?_
 refine b6 (a1T _ _ _) ?_
 refine b6 (i7 _ _ _ _ _ _) ?_
 refine D7 (fun c=>?_) (fun c=>?_)
 ·have hs:σ.script=[]:=List.length_eq_zero_iff.1 (by omega)
  refine q9 (cap:=[]) (fun args w=>Tryz.call88 args w) ?_
  refine O2 (Fi:=[]) (Fr:=[_]) I (b4x _ _ _) (fun _ _ _ _ _ _ _ q=>q.elim) fun c2 H' Fo w' J q=>?_
  obtain ⟨rfl,rfl,rfl⟩:=q
  exact ⟨_,_,J,2,0,σ,_,by unfold inM;rw [hs],rfl,rfl,hr0,rfl⟩
 ·obtain ⟨n,r,hs⟩:∃n r,σ.script=n::r:=by
   cases h:σ.script with
   | nil=>rw [h] at hsn;exact (c (by rw [hsn];rfl)).elim
   | cons n r=>exact ⟨n,r,rfl⟩
  have em:inM σ = bnd stepM (fun _=>fun s=>.ok n { s with script:=r,events:=s.events++[⟨true,n,false⟩] }) σ:=by
   unfold inM bnd stepM
   rw [hs]
   dsimp only
   split<;>rfl
  refine hx1 _ _ ?_
  unfold c0t
  intro _
  rw [em]
  clear hx1 em
  refine q9 (cap:=[]) (fun args w=>Tryz.call84 args w) ?_
  refine (a7i hk).use hr0 ho I (fun a σ1 F1 w1 e1 hr1 J1=>?_) fun st wr σ1 F1 w1 e1 hr1 J1=>?_
  ·rw [K3 e1]
   have hl1:σ1.script=n::r∧σ1.events.length+1≤ev0:=by
    have he:=ho.ev
    unfold stepM at e1
    split at e1
    ·cases e1
    ·cases e1;exact ⟨hs,by dsimp only;omega⟩
   clear e1 hr0 I1 I W
   obtain ⟨sc1,ev1,Fe1,Fv1,Fa1,W1,rfl⟩:=hr1
   obtain ⟨h1,h2,h3,h4,h5,h6,h7⟩:=W1
   rw [hl1.1] at h1
   have hsn1:=h1.1
   rw [List.length_cons] at hsn1
   have I2:=J1.un4
   obtain ⟨g1,o1,ha1,hA1⟩:=h1.2 0 n rfl
   refine b6 (m7 _) ?_
   refine b6 a9D ?_
   refine d4 (ld1 Tryz.isAgg26 (I2.at1 (o:=2) (vs:=[vs sc1]) (nb rfl) rfl)) ?_
   refine b6 (E3 ha1 _ _ _ _ (Int.le_refl 0) (by omega)) ?_
   refine d4 (ld1 Tryz.isAgg2 (I2.atH hA1)) ?_
   refine b6 (m7 _) ?_
   refine b6 a9D ?_
   refine d4 (ld1 Tryz.isAgg26 (I2.at1 (o:=2) (vs:=[vs sc1]) (nb rfl) rfl)) ?_
   refine b6 (b4X Tryz.underlying26 Tryz.sizeOf2 sc1 (by decide) (by omega)) ?_
   have hcut:SlH H 1 ci (sc1.cut 1 sc1.n sc1.c 1) r:=by
    have:=h1.cut (l:=1) (h:=sc1.n) (m:=sc1.c) (by omega) (Nat.le_refl _) h2
    rw [List.take_of_length_le (by rw [List.length_cons];omega)] at this
    exact this
   have hcap:(sc1.cut 1 sc1.n sc1.c 1).n≤(sc1.cut 1 sc1.n sc1.c 1).c:=by unfold Sl.cut;dsimp only;omega
   rw [show (1:Int).toNat=1 from rfl]
   generalize sc1.cut 1 sc1.n sc1.c 1=sc2 at hcut hcap ⊢
   refine b6 (m7 _) ?_
   refine b6 a9D ?_
   refine E8 I2 Tryz.sizeOf26 (vs:=[vs sc2]) (cs':=[vi (σ1.left:Int),vi σ1.steps,vs sc2,vs ev1,.map X.mv,.map X.ma]) rfl rfl (nb rfl) rfl rfl fun w3 I3 _=>?_
   refine b6 (m7 _) ?_
   refine b6 a7p ?_
   refine d4 (ld1 Tryz.isAgg29 (I3.at1 (o:=3) (vs:=[vs ev1]) (nb rfl) rfl)) ?_
   refine b6 (b3h _ _) ?_
   refine Y1 (e:=87) (c:=m6) (xs:=[⟨true,n,false⟩]) I3 (b1C _ _ _) rfl rfl Y5 Y6 (nb rfl) fun s4 F4 w4 hr4 I4 _=>?_
   refine b3C (s:=ev1) (xs:=σ1.events) (I4.bring 2) h3 (hr4.srcO ((I4.bring 2).bring 1)) (by rw [List.length_singleton];omega) fun s5 F5 w5 hr5 I5 _=>?_
   refine b6 (m7 _) ?_
   refine b6 a7p ?_
   refine E8 ((I5.bring 1).drop.bring 1) Tryz.sizeOf29 (vs:=[vs s5]) (cs':=[vi (σ1.left:Int),vi σ1.steps,vs sc2,vs s5,.map X.mv,.map X.ma]) rfl rfl (nb rfl) rfl rfl fun w6 I6 _=>?_
   exact ⟨_,_,I6.jn4,n,{ σ1 with script:=r,events:=σ1.events++[⟨true,n,false⟩] },_,rfl,rfl,rfl,⟨sc2,s5,F5,Fv1,Fa1,⟨hcut,hcap,hr5,h4,h5,h6,h7⟩,rfl⟩,rfl⟩
  ·exact ⟨_,_,J1,st,wr,σ1,F1,O5 e1,rfl,rfl,hr1,rfl⟩
end
end Go.Proofs.YthaaobpfbgcfiaaGreatDoor
