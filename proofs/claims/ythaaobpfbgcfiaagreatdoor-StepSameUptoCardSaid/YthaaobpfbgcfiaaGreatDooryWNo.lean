/- What a well program's expressions, conditions and statements do, put together from parts. Plain. -/
import Derived.Test.YthaaobpfbgcfiaaGreatDooryWN1
namespace Go.Proofs.YthaaobpfbgcfiaaGreatDoor
open Go.RowKit
set_option maxRecDepth 100000
set_option maxHeartbeats 2000000
theorem b1R(x:Int):o8 (fit x).1∧o8 (fit x).2:=by
 unfold fit
 split
 ·rename_i h;exact ⟨h,by unfold o8;omega⟩
 ·exact ⟨by unfold o8;omega,by unfold o8;omega⟩
theorem c8t(k a b:Int)(ha:o8 a)(hb:o8 b):o8 (opS k a b).1∧o8 (opS k a b).2:=by
 unfold opS
 split
 ·exact b1R _
 split
 ·exact b1R _
 split
 ·exact b1R _
 split
 ·exact b1R _
 split
 ·unfold divS
  split
  ·exact ⟨by unfold o8;omega,by unfold o8;omega⟩
  ·exact b1R _
 ·unfold remS
  split
  ·exact ⟨by unfold o8;omega,by unfold o8;omega⟩
  ·split
   ·exact ⟨by unfold o8;omega,by unfold o8;omega⟩
   ·rename_i h0 _
    have:=c8o (c:=a) hb h0
    exact ⟨by unfold o8;omega,by unfold o8;omega⟩
def Nm(ns ars:List ByteArray)(l:List Us):Prop:=∀u∈l,(u.b6o=true→u.f8∈ars)∧(u.b6o=false→u.f8∈ns)
section
variable {ns ars:List ByteArray}
theorem Nm.mem{cs:List PT}(h:Nm ns ars (uTs cs)){t:PT}(ht:t∈cs):Nm ns ars (uT t):=by
 intro u hu
 refine h u ?_
 induction cs with
 | nil=>cases ht
 | cons c cs ih=>
  rw [uTs]
  rcases List.mem_cons.1 ht with e | ht
  ·rw [←e];exact List.mem_append_left _ hu
  ·exact List.mem_append_right _ (ih (fun v hv=>h v (by rw [uTs];exact List.mem_append_right _ hv)) ht)
theorem Nm.own{l:Lab}{cs:List PT}(h:Nm ns ars (uT (.mk l cs))):Nm ns ars (useL l)∧Nm ns ars (uTs cs):=by
 rw [uT] at h
 exact ⟨fun u hu=>h u (List.mem_append_left _ hu),fun u hu=>h u (List.mem_append_right _ hu)⟩
theorem c8u{r:Int×Int}(h:o8 r.1∧o8 r.2):Cm ns ars o8 (toldM r):=by
 unfold toldM
 split
 ·exact .ret h.1
 ·rename_i h0
  exact .halt _ _ (.inr ⟨rfl,h.2,h0⟩)
theorem c8v{x:ByteArray}{i:Int}(hx:x∈ars)(hi:o8 i):Cm ns ars o8 (loadM x i):=.bnd (.bnd .step fun _ _=>.item hx hi) fun _ _=>.cell hx hi
theorem c5k{x:ByteArray}{i v:Int}(hx:x∈ars)(hi:o8 i)(hv:o8 v):Cm ns ars (fun _=>True) (storeM x i v):=.bnd (.bnd .step fun _ _=>.item hx hi) fun _ _=>.put hx hi hv
theorem c0O:∀{ts:List PT},(∀t∈ts,Cm ns ars o8 (evT t))→Cm ns ars (fun l=>l.length=ts.length∧∀x∈l,o8 x) (evTs ts)
 | [],_=>by rw [evTs];exact .ret ⟨rfl,fun x h=>by cases h⟩
 | t::ts,h=>by
  rw [evTs]
  refine .bnd (h t List.mem_cons_self) fun v hv=>.bnd (c0O fun u hu=>h u (List.mem_cons_of_mem _ hu)) fun l hl=>.ret ⟨by rw [List.length_cons,List.length_cons,hl.1],fun x hx=>?_⟩
  rcases List.mem_cons.1 hx with e | hx
  ·rw [e];exact hv
  ·exact hl.2 x hx
theorem getD_in{l:List Int}(h:∀x∈l,o8 x)(i:Nat):o8 (l.getD i 0):=by
 rw [List.getD_eq_getElem?_getD]
 cases hq:l[i]? with
 | none=>unfold o8;simp
 | some v=>exact h v (List.mem_of_getElem? hq)
theorem cmE{t:PT}(ha:Ar t):Nm ns ars (uT t)→Cm ns ars o8 (evT t):=by
 induction ha with
 | @mk k n s a cs hk hn hc ih=>
  intro hu
  obtain ⟨h1,h2⟩:=hu.own
  obtain ⟨hk,rfl⟩:=hk
  rw [evT]
  unfold evN
  cases hcs:cst (.mk (.expr k n s cs.length) cs) with
  | some v=>exact .ret (d1M (.mk ⟨hk,rfl⟩ hn hc) hcs)
  | none=>
   dsimp only
   have hx:(k=2→s∈ns)∧(k=4→s∈ars):=by
    unfold useL at h1
    constructor
    ·intro e;subst e
     exact (h1 ⟨s,false⟩ (by simp)).2 rfl
    ·intro e;subst e
     exact (h1 ⟨s,true⟩ (by simp)).1 rfl
   split
   ·rename_i e;exact .get (hx.1 e)
   ·refine .bnd (c0O fun t ht=>ih t ht (h2.mem ht)) fun l hl=>?_
    split
    ·exact .input
    ·split
     ·rename_i e;exact c8v (hx.2 e) (getD_in hl.2 0)
     ·exact .bnd .step fun _ _=>c8u (c8t _ _ _ (getD_in hl.2 0) (getD_in hl.2 1))
theorem c0P{l:List (M Bool)}(h:∀m∈l,Cm ns ars (fun _=>True) m)(i:Nat):Cm ns ars (fun _=>True) (l.getD i (ret false)):=by
 rw [List.getD_eq_getElem?_getD]
 cases hq:l[i]? with
 | none=>exact .ret trivial
 | some v=>exact h v (List.mem_of_getElem? hq)
theorem c8w{l:List (M Int)}(h:∀m∈l,Cm ns ars o8 m)(i:Nat):Cm ns ars o8 (l.getD i (ret 0)):=by
 rw [List.getD_eq_getElem?_getD]
 cases hq:l[i]? with
 | none=>exact .ret (show o8 0 by unfold o8;omega)
 | some v=>exact h v (List.mem_of_getElem? hq)
theorem c0Q{α:Type}{F:α→Prop}{m:M α}{k:α→M Bool}(hm:Cm ns ars F m)(hk:∀a,F a→Dec ns ars (k a)):Dec ns ars (bnd m k):=by
 intro k0 ev0 s b s' hs e
 obtain ⟨a,s1,e1,e2⟩:=b3S.1 e
 have q:=hm.safe s hs
 rw [e1] at q
 have:=hk a q.1 _ _ _ _ _ q.2.1 e2
 have:=q.2.2
 omega
theorem b6Y{m:M Bool}{k:Bool→M Bool}(hm:Dec ns ars m)(hc:Cm ns ars (fun _=>True) m)(hk:∀b,Cm ns ars (fun _=>True) (k b)):Dec ns ars (bnd m k):=by
 intro k0 ev0 s b s' hs e
 obtain ⟨a,s1,e1,e2⟩:=b3S.1 e
 have q:=hc.safe s hs
 rw [e1] at q
 have q2:=(hk a).safe s1 q.2.1
 rw [e2] at q2
 have:=hm _ _ _ _ _ hs e1
 have:=q2.2.2
 omega
theorem b8W{b:Bool}:Dec ns ars (bnd stepM fun _=>ret b):=by
 intro k0 ev0 s b s' hs e
 obtain ⟨a,s1,e1,e2⟩:=b3S.1 e
 unfold stepM at e1
 split at e1
 ·cases e1
 ·cases e1;unfold ret at e2;cases e2;dsimp only;omega
theorem cmC{t:PT}(ha:ArC t):formT t=true→Nm ns ars (uT t)→Cm ns ars (fun _=>True) (cvT t)∧Dec ns ars (cvT t):=by
 induction ha with
 | @mk k op xs ps har hx _ ih=>
  intro hf hu
  obtain ⟨_,h2⟩:=hu.own
  rw [formT,Bool.and_eq_true] at hf
  have hX:∀m∈xs.map evT,Cm ns ars o8 m:=fun m hm=>by
   obtain ⟨t,ht,rfl⟩:=List.mem_map.1 hm
   exact cmE (hx t ht) (h2.mem (List.mem_append_left _ ht))
  have hP:∀m∈ps.map cvT,Cm ns ars (fun _=>True) m∧Dec ns ars m:=fun m hm=>by
   obtain ⟨t,ht,rfl⟩:=List.mem_map.1 hm
   exact ih t ht (E7 hf.2 (List.mem_append_right _ ht)) (h2.mem (List.mem_append_right _ ht))
  have hl:(ps.map cvT).length=ps.length:=List.length_map ..
  rw [show (PT.mk (.cond k op xs.length ps.length) (xs++ps))=cN k op xs ps from rfl,b8U]
  generalize xs.map evT=X at hX
  generalize ps.map cvT=Pm at hP hl
  have hc:=c0P (fun m hm=>(hP m hm).1)
  unfold cvN
  have hd:∀i,i < ps.length→Dec ns ars (Pm.getD i (ret false)):=fun i hi=>by
   rw [List.getD_eq_getElem?_getD,List.getElem?_eq_getElem (by omega)]
   exact (hP _ (List.getElem_mem _)).2
  split
  ·rename_i e
   have:=har.2.1 e
   exact ⟨.bnd (hc 0) fun _ _=>.ret trivial,b6Y (hd 0 (by omega)) (hc 0) fun _=>.ret trivial⟩
  split
  ·rename_i e
   have:=har.2.2.1 e
   have hk:∀b,Cm ns ars (fun _=>True) (if b=true then Pm.getD 1 (ret false) else ret false):=fun b=>by
    cases b
    ·exact .ret trivial
    ·exact hc 1
   exact ⟨.bnd (hc 0) fun b _=>hk b,b6Y (hd 0 (by omega)) (hc 0) hk⟩
  split
  ·rename_i e
   have:=har.2.2.2 e
   have hk:∀b,Cm ns ars (fun _=>True) (if b=true then ret true else Pm.getD 1 (ret false)):=fun b=>by
    cases b
    ·exact hc 1
    ·exact .ret trivial
   exact ⟨.bnd (hc 0) fun b _=>hk b,b6Y (hd 0 (by omega)) (hc 0) hk⟩
  split
  ·have hx:=c8w hX
   exact ⟨.bnd (hx 0) fun _ _=>.bnd (hx 1) fun _ _=>.bnd .step fun _ _=>.ret trivial,c0Q (hx 0) fun _ _=>c0Q (hx 1) fun _ _=>b8W⟩
  ·exact ⟨.bnd .step fun _ _=>.ret trivial,b8W⟩
theorem b1S:∀{l:List (M Unit)},(∀m∈l,Cm ns ars (fun _=>True) m)→Cm ns ars (fun _=>True) (seqM l)
 | [],_=>.ret trivial
 | m::l,h=>.bnd (h m List.mem_cons_self) fun _ _=>b1S fun x hx=>h x (List.mem_cons_of_mem _ hx)
theorem c5l{l:List (M Bool)}(h:∀m∈l,Dec ns ars m)(hl:0 < l.length):Dec ns ars (l.getD 0 (ret false)):=by
 rw [List.getD_eq_getElem?_getD,List.getElem?_eq_getElem hl]
 exact h _ (List.getElem_mem _)
theorem cmS{t:PT}(ha:ArS t):formT t=true→Nm ns ars (uT t)→Cm ns ars (fun _=>True) (rnT t):=by
 induction ha with
 | @mk k s ts us vs ws hts hus _ _ ih1 ih2=>
  intro hf hu
  have hu':=hu
  unfold sN at hf hu
  obtain ⟨h1,h2⟩:=hu.own
  rw [formT,Bool.and_eq_true] at hf
  obtain ⟨hfl,hfs⟩:=hf
  have hE:∀t∈ts,Cm ns ars o8 (evT t):=fun t ht=>cmE (hts t ht) (h2.mem (List.mem_append_right _ (List.mem_append_left _ ht)))
  have hC:∀m∈us.map cvT,Cm ns ars (fun _=>True) m∧Dec ns ars m:=fun m hm=>by
   obtain ⟨t,ht,rfl⟩:=List.mem_map.1 hm
   exact cmC (hus t ht) (E7 hfs (List.mem_append_left _ ht)) (h2.mem (List.mem_append_left _ ht))
  have hT:Cm ns ars (fun _=>True) (seqM (vs.map rnT)):=b1S fun m hm=>by
   obtain ⟨t,ht,rfl⟩:=List.mem_map.1 hm
   have hin:t∈us++(ts++(vs++ws)):=List.mem_append_right _ (List.mem_append_right _ (List.mem_append_left _ ht))
   exact ih1 t ht (E7 hfs hin) (h2.mem hin)
  have hW:Cm ns ars (fun _=>True) (seqM (ws.map rnT)):=b1S fun m hm=>by
   obtain ⟨t,ht,rfl⟩:=List.mem_map.1 hm
   have hin:t∈us++(ts++(vs++ws)):=List.mem_append_right _ (List.mem_append_right _ (List.mem_append_right _ ht))
   exact ih2 t ht (E7 hfs hin) (h2.mem hin)
  rw [b8V]
  have hl:(us.map cvT).length=us.length:=List.length_map ..
  generalize us.map cvT=C at hC hl
  have hx:(k=1→s∈ns)∧(k=2→s∈ars):=by
   unfold useL at h1
   constructor
   ·intro e;subst e
    exact (h1 ⟨s,false⟩ (by simp)).2 rfl
   ·intro e;subst e
    exact (h1 ⟨s,true⟩ (by simp)).1 rfl
  have hg:∀i,Cm ns ars o8 (evT (ts.getD i (eN 1 0 s []))):=fun i=>by
   rw [List.getD_eq_getElem?_getD]
   cases hq:ts[i]? with
   | none=>rw [Option.getD_none,b6q];exact .ret (show o8 0 by unfold o8;omega)
   | some v=>exact hE v (List.mem_of_getElem? hq)
  have hc:=c0P (fun m hm=>(hC m hm).1) 0
  unfold stN
  split
  ·rename_i e
   unfold giveM
   refine .bnd (F:=o8) ?_ fun v hv=>.set (hx.1 e) hv
   split
   ·exact .bnd .step fun _ _=>hg 0
   ·exact hg 0
  split
  ·rename_i e
   exact .bnd (hg 0) fun i hi=>.bnd (hg 1) fun v hv=>c5k (hx.2 e) hi hv
  split
  ·refine .bnd hc fun b _=>?_
   cases b
   ·exact hW
   ·exact hT
  split
  ·rename_i e1 e2 e3 e
   refine .loop hc hT (c5l (fun m hm=>(hC m hm).2) ?_)
   subst e
   unfold formL formS at hfl
   simp at hfl
   omega
  split
  ·refine .bnd hc fun b _=>.bnd (.held b) fun _ _=>?_
   cases b
   ·exact .halt _ _ (.inr ⟨rfl,by unfold o8;omega,by decide⟩)
   ·exact .ret trivial
  split
  ·refine .bnd hc fun b _=>?_
   cases b
   ·exact .halt _ _ (.inl ⟨rfl,rfl⟩)
   ·exact .ret trivial
  ·exact .step
end
def ci(x:Int):List Value:=[vi x]
theorem b8X(x:Int):(ci x).length=1:=rfl
theorem b8Y(x:Int):(ci x).all (·.oneCell')=true:=rfl
abbrev kS(s:ByteArray):Value:=Value.string s
abbrev vP(a:Option Addr):Value:=.pointer a
inductive Boxes:List (ByteArray×Option Addr)→List (ByteArray×Int)→Frag→Prop
 | nil:Boxes [] [] []
 | cons {s:ByteArray} {g:Nat} {v:Int} {lv:List (ByteArray×Option Addr)} {vs:List (ByteArray×Int)} {F:Frag}:Boxes lv vs F→Boxes ((s,some ⟨g,0,none⟩)::lv) ((s,v)::vs) (bx g 2 [vi v]++F)
theorem Boxes.get{lv:List (ByteArray×Option Addr)}{vs:List (ByteArray×Int)}{F:Frag}(h:Boxes lv vs F){s:ByteArray}{v:Int}:lk s vs=some v→∃g Fr,lk s lv=some (some ⟨g,0,none⟩)∧F.Perm (bx g 2 [vi v]++Fr)∧∀v',∃F',Boxes lv (T7 s v' vs) F'∧F'.Perm (bx g 2 [vi v']++Fr):=by
 induction h with
 | nil=>intro e;cases e
 | @cons s1 g v1 lv vs F hb ih=>
  intro e
  rw [lk] at e
  by_cases hs:s=s1
  ·rw [if_pos hs] at e
   cases e
   refine ⟨g,F,by rw [lk,if_pos hs],.refl _,fun v'=>⟨_,by rw [T7,if_pos hs,hs];exact .cons hb,.refl _⟩⟩
  ·rw [if_neg hs] at e
   obtain ⟨g2,Fr,h1,h2,h3⟩:=ih e
   refine ⟨g2,bx g 2 [vi v1]++Fr,by rw [lk,if_neg hs];exact h1,(List.Perm.append_left _ h2).trans (List.perm_append_comm_assoc _ _ _),fun v'=>?_⟩
   obtain ⟨F',k1,k2⟩:=h3 v'
   exact ⟨_,by rw [T7,if_neg hs];exact .cons k1,(List.Perm.append_left _ k2).trans (List.perm_append_comm_assoc _ _ _)⟩
inductive Arrs:List (ByteArray×Sl)→List (ByteArray×List Int)→Frag→Prop
 | nil:Arrs [] [] []
 | cons {s:ByteArray} {sl:Sl} {xs:List Int} {la:List (ByteArray×Sl)} {ars:List (ByteArray×List Int)} {F G:Frag}:RowL 2 1 ci sl xs F→Arrs la ars G→Arrs ((s,sl)::la) ((s,xs)::ars) (F++G)
theorem Arrs.get{la:List (ByteArray×Sl)}{ars:List (ByteArray×List Int)}{F:Frag}(h:Arrs la ars F){s:ByteArray}{xs:List Int}:lk s ars=some xs→∃sl F1 Fr,lk s la=some sl∧RowL 2 1 ci sl xs F1∧F.Perm (F1++Fr)∧∀xs' F2,RowL 2 1 ci sl xs' F2→∃F',Arrs la (T7 s xs' ars) F'∧F'.Perm (F2++Fr):=by
 induction h with
 | nil=>intro e;cases e
 | @cons s1 sl xs1 la ars F G hr hb ih=>
  intro e
  rw [lk] at e
  by_cases hs:s=s1
  ·rw [if_pos hs] at e
   cases e
   refine ⟨sl,F,G,by rw [lk,if_pos hs],hr,.refl _,fun xs' F2 h2=>⟨_,by rw [T7,if_pos hs,hs];exact .cons h2 hb,.refl _⟩⟩
  ·rw [if_neg hs] at e
   obtain ⟨sl2,F1,Fr,h1,h2,h3,h4⟩:=ih e
   refine ⟨sl2,F1,F++Fr,by rw [lk,if_neg hs];exact h1,h2,(List.Perm.append_left _ h3).trans (List.perm_append_comm_assoc _ _ _),fun xs' F2 hr2=>?_⟩
   obtain ⟨F',k1,k2⟩:=h4 xs' F2 hr2
   exact ⟨_,by rw [T7,if_neg hs];exact .cons hr k1,(List.Perm.append_left _ k2).trans (List.perm_append_comm_assoc _ _ _)⟩
structure Cx where
 mv:Option Nat
 ma:Option Nat
 lv:List (ByteArray×Option Addr)
 la:List (ByteArray×Sl)
def rcs(X:Cx)(σ:St)(sc ev:Sl):List Value:=[vi (σ.left:Int),vi σ.steps,vs sc,vs ev,.map X.mv,.map X.ma]
structure RnW (X:Cx) (σ:St) (H:Hp) (sc ev:Sl) (Fe Fv Fa:Frag):Prop where
 hsc:SlH H 1 ci sc σ.script
 cap:sc.n≤sc.c
 hev:RowL 87 3 m6 ev σ.events Fe
 hvs:Boxes X.lv σ.vars Fv
 has:Arrs X.la σ.arrs Fa
 hmv:MapH H kS vP X.mv X.lv
 hma:MapH H kS vs X.ma X.la
def RnF(g:Nat)(X:Cx)(σ:St)(H:Hp)(F:Frag):Prop:=∃sc ev Fe Fv Fa,RnW X σ H sc ev Fe Fv Fa∧F=bx g 56 (rcs X σ sc ev)++(Fe++(Fv++Fa))
section
variable {w0 w:World}{ps:Nat→Prop}{H0 H:Hp}{Fs:List Frag}
theorem Inv.un4{A B C D:Frag}(I:Inv w0 ps H0 H ((A++(B++(C++D)))::Fs) w):Inv w0 ps H0 H (A::B::C::D::Fs) w:=I.perm (by simp only [List.flatten_cons,List.append_assoc];exact .refl _)
theorem Inv.jn4{A B C D:Frag}(I:Inv w0 ps H0 H (A::B::C::D::Fs) w):Inv w0 ps H0 H ((A++(B++(C++D)))::Fs) w:=I.perm (by simp only [List.flatten_cons,List.append_assoc];exact .refl _)
theorem Inv.un2{A B:Frag}(I:Inv w0 ps H0 H ((A++B)::Fs) w):Inv w0 ps H0 H (A::B::Fs) w:=I.perm (by simp only [List.flatten_cons,List.append_assoc];exact .refl _)
end
def endsV(st wr:Int):Value:=.iface 61 (.agg #[vi st,vi wr])
section
variable {k0:Int}{ev0:Nat}{ns ars:List ByteArray}{α:Type}
def CR(k0:Int)(ev0:Nat)(ns ars:List ByteArray)(f:FuncId)(args:List Value)(H:Hp)(g:Nat)(X:Cx)(m:M α)(enc:α→Value):Prop:=
 ∀σ F,RnF g X σ H F→Okst k0 ev0 ns ars σ→Ct Tryz.prog f args H [F]
  (fun v H' Fo=>∃a σ' F',m σ = .ok a σ'∧v=enc a∧H'=H∧RnF g X σ' H F'∧Fo=[F'])
  (fun c H' Fo=>∃st wr σ' F',m σ = .stop st wr σ'∧c=[{ v:=endsV st wr,recovered:=false }]∧H'=H∧RnF g X σ' H F'∧Fo=[F'])
section
variable {E:Pan}{w0 w:World}{ps:Nat→Prop}{H0 H:Hp}{Fr:List Frag}{K:Value→World→Prop}{g:Nat}{X:Cx}{m:M α}{enc:α→Value}{f:FuncId}{args:List Value}
theorem CR.use{σ:St}{F:Frag}(hc:CR k0 ev0 ns ars f args H g X m enc)(hr:RnF g X σ H F)(ho:Okst k0 ev0 ns ars σ)(I:Inv w0 ps H0 H (F::Fr) w)
  (hq:∀a σ' F' w',m σ = .ok a σ'→RnF g X σ' H F'→Inv w0 ps H0 H (F'::Fr) w'→K (enc a) w')
  (he:∀st wr σ' F' w',m σ = .stop st wr σ'→RnF g X σ' H F'→Inv w0 ps H0 H (F'::Fr) w'→E [{ v:=endsV st wr,recovered:=false }] w'):Cv Tryz.prog f args.toArray w K E:=by
 refine O2 (Fi:=[F]) (Fr:=Fr) I (hc σ F hr ho) (fun v H' Fo w' J _ _ q=>?_) fun c H' Fo w' J q=>?_
 ·obtain ⟨a,σ',F',h1,rfl,rfl,h2,rfl⟩:=q
  exact hq a σ' F' w' h1 h2 J
 ·obtain ⟨st,wr,σ',F',h1,rfl,rfl,h2,rfl⟩:=q
  exact he st wr σ' F' w' h1 h2 J
end
end
open Go.RowKit Go.ChangeShapes Go.WideShapes
section
variable {Hd:Type}{enc:TypeId×Value→Hd}{W:World}
theorem c3V{b:Nat}{v:Value}{d:DataW Hd}{ps:List MemPlace}(hv:Value.okWide Tryz.prog W .any b 26 v)(h:DataW.Trod enc Tryz.prog W 0 (fun _=>true) true 26 v d ps)(_:Rows.uptoBulk d≤1048576):
  ∃(s:Sl)(xs:List Int),v=.slice s.a s.n s.c∧(SlH (hpW W) 1 ci s xs∧s.n≤s.c∧∀x∈xs,o8 x):=by
 obtain ⟨n,h⟩:=b5K h
 rw [b9Q Tryz.underlying26 hv] at h
 obtain ⟨s,xs,q,hs,hc,_,hg⟩:=a4k Tryz.underlying26 ce2 (by decide) ci o8 h (fun n cs y _ h=>by
  obtain ⟨z,rfl,a,b⟩:=c0m i2 h
  exact ⟨z,rfl,a,b⟩)
 simp only [List.cons.injEq,and_true] at q
 exact ⟨s,xs,q,hs,hc,hg⟩
end
end Go.Proofs.YthaaobpfbgcfiaaGreatDoor
