/- A runner's statements. Off the readings. -/
import Derived.Test.YthaaobpfbgcfiaaGreatDooryWN9
namespace Go.Proofs.YthaaobpfbgcfiaaGreatDoor
open Go.RowKit
set_option maxRecDepth 100000
set_option maxHeartbeats 4000000
section
variable {k0:Int}{ev0:Nat}{ns ars:List ByteArray}{H:Hp}{g:Nat}{X:Cx}
theorem c2j{t:PT}{σ σ1:St}{n:Int}(hp:plainX t=true)(h:evT t σ = .ok n σ)(hv:σ1.vars = σ.vars):evT t σ1=.ok n σ1:=by
 cases hc:cst t with
 | some v=>
  rw [c0W hc] at h ⊢
  cases h;rfl
 | none=>
  obtain ⟨l,cs⟩:=t
  cases l with
  | expr k nn s a=>
   unfold plainX at hp
   rw [hc,Bool.or_eq_true] at hp
   rcases hp with hp | hp
   ·cases hp
   ·have hk2:=of_decide_eq_true hp
    rw [evT] at h ⊢
    unfold evN at h ⊢
    rw [hc] at h ⊢
    dsimp only at h ⊢
    rw [if_pos hk2] at h ⊢
    unfold getM at h ⊢
    rw [hv]
    injection h with h1 _
    rw [h1]
  | decl _ _=>cases hp
  | stmt _ _ _ _ _ _=>cases hp
  | cond _ _ _ _=>cases hp
theorem c4r{σ σ1:St}{a:Unit}(h:stepM σ = .ok a σ1):σ1.vars = σ.vars:=by
 unfold stepM at h
 split at h
 ·cases h
 ·cases h;rfl
variable (hk:k0≤1000000)(hev:ev0≤1000000)
theorem b5y{s:Sl}{xs:List B4}{ts:List PT}(hs:SlH H 6 p8 s xs)(hb:xs.length≤big)(hr:K4 (SH H) xs ts)(hC:∀t∈ts,Cm ns ars (fun _=>True) (rnT t))(ih:∀t∈ts,∀x,SH H x t→CR k0 ev0 ns ars 50 [rP g,.agg (p8 x).toArray] H g X (rnT t) uE):
  CR k0 ev0 ns ars 25 [rP g,vs s] H g X (seqM (ts.map rnT)) uE:=by
 intro σ F hrf ho w I
 have hn:=hs.1
 have hn2:=hr.1
 simp only [big] at hb
 refine d0a ?_
 unfold F25
 refine b6 (a1i _ _ _) ?_
 refine K7 (J:=fun n l w'=>∃(i:Nat)(σi:St)(Fi:Frag),n=ts.length-i∧l=[vi (i:Int)]∧i≤ts.length∧RnF g X σi H Fi∧Okst k0 ev0 ns ars σi∧Inv w (inF [F]) H H [Fi] w'∧seqM (ts.map rnT) σ = seqM ((ts.drop i).map rnT) σi)
  ⟨_,0,σ,F,rfl,rfl,Nat.zero_le _,hrf,ho,I,rfl⟩ ?_
 rintro n τ w4 next2 ⟨i,σi,Fi,rfl,hl4,hi,hri,hoi,I4,hev4⟩ hn3
 simp only [List.map_cons,List.map_nil,List.cons.injEq,and_true] at hl4
 simp only [hl4]
 unfold c3h
 refine b6 (A4 _ _ _ _ _ _) ?_
 refine D7 (fun c5=>?_) (fun c5=>?_)
 ·obtain ⟨t,ht⟩:=y7 (l:=ts) (i:=i) (by omega)
  obtain ⟨x,⟨g5,o5,ha5,hA5⟩,hx,hlt⟩:=a5H hs hr ht
  have htm:=List.mem_of_getElem? ht
  have hd:(ts.drop i)=t::ts.drop (i+1):=by
   have hi2:=C3 ht
   rw [List.drop_eq_getElem_cons hi2]
   congr 1
   rw [List.getElem?_eq_getElem hi2] at ht
   exact Option.some.inj ht
  rw [hd,List.map_cons,seqM] at hev4
  refine b6 (b2p ha5 _ _ _ _ (by omega) hlt) ?_
  refine d4 (ldA (vs:=p8 x) Tryz.isAgg104 Tryz.sizeOf104 rfl (I4.atH hA5)) ?_
  refine s6 I4 Tryz.zeroValue104 (cs:=[(vi 0),(Value.string ⟨#[]⟩),(Value.slice none 0 0),(Value.slice none 0 0),(Value.slice none 0 0),(Value.slice none 0 0)]) rfl fun g6 w6 I6 _=>?_
  refine E8 I6 Tryz.sizeOf104 (vs:=(p8 x)) (cs':=(p8 x)) rfl rfl (nb rfl) rfl rfl fun w7 I7 _=>?_
  refine d4 (ldA Tryz.isAgg104 Tryz.sizeOf104 rfl (I7.at1 (o:=0) (vs:=(p8 x)) (nb rfl) rfl)) ?_
  refine q9 (cap:=[]) (fun args w=>Tryz.call50 args w) ?_
  refine (ih t htm x hx).use hri hoi (I7.bring 1) (fun a σ8 F8 w8 e8 hr8 I8=>?_) fun st wr σ8 F8 w8 e8 hr8 I8=>?_
  ·rw [K3 e8] at hev4
   refine b6 (B0 _ _ _ _ _ _) ?_
   rw [D6 (by omega) (by omega)]
   exact hn3 _ _ _ (show ts.length-(i+1) < ts.length-i by omega) ⟨i+1,σ8,F8,rfl,rfl,by omega,hr8,(a2e (hC t htm) hoi e8).2,(I8.bring 1).drop,hev4⟩
  ·rw [O5 e8] at hev4
   exact ⟨_,_,(I8.bring 1).drop,st,wr,σ8,F8,hev4,rfl,rfl,hr8,rfl⟩
 ·have hie:i=ts.length:=by omega
  subst hie
  rw [List.drop_length,List.map_nil,seqM] at hev4
  exact ⟨_,_,I4,(),σi,Fi,hev4,rfl,rfl,hri,rfl⟩
theorem c0c(b:Bool):Pu Tryz.prog (xV (Instr.build 87 #[(2,(Value.bool b))])) (.agg #[(Value.bool false),(Value.int .i64 0),(Value.bool b)]):=Pu.ok fun w=>by kernel_rfl
include hk hev
theorem c8U{t:PT}(ha:ArS t):formT t=true→Nm ns ars (uT t)→∀x,SH H x t→CR k0 ev0 ns ars 50 [rP g,.agg (p8 x).toArray] H g X (rnT t) uE:=by
 induction ha with
 | @mk k s ts us vs' ws hts hus hvs hws ih1 ih2=>
  intro hf hu e he σ F hr ho w I
  have hAll:ArS (sN k s ts us vs' ws):=.mk hts hus hvs hws
  have hCm:=cmS hAll hf hu
  generalize htt:sN k s ts us vs' ws=tt at he
  cases he with
  | @mk _ xs ts' ys us' zs bs vs'' ws' hsE hb hrE hcC hcb hrC haT hab hal har hbE hbb hbl hbr=>
   unfold sN at htt
   injection htt with hl hkk
   injection hl with q1 q2 q3 q4 q5 q6
   subst q1;subst q2
   obtain ⟨w1,hk1⟩:=List.append_inj hkk q4
   obtain ⟨w2,hk2⟩:=List.append_inj hk1 q3
   obtain ⟨w3,w4⟩:=List.append_inj hk2 q5
   subst w1;subst w2;subst w3;subst w4
   have hu':=hu
   unfold sN at hu' hf
   obtain ⟨hu1,hu2⟩:=hu'.own
   rw [formT,Bool.and_eq_true] at hf
   have hff:formS e.b8 e.f8 ts.length us.length vs'.length ws.length=true:=hf.1
   have hfs:=hf.2
   have hTe:∀u∈ts,Ar u∧formT u=true∧Nm ns ars (uT u)∧Cm ns ars o8 (evT u):=fun u hm=>by
    have hin:u∈us++(ts++(vs'++ws)):=List.mem_append_right _ (List.mem_append_left _ hm)
    exact ⟨hts u hm,E7 hfs hin,hu2.mem hin,cmE (hts u hm) (hu2.mem hin)⟩
   have hTc:∀u∈us,ArC u∧formT u=true∧Nm ns ars (uT u)∧Cm ns ars (fun _=>True) (cvT u)∧Dec ns ars (cvT u):=fun u hm=>by
    have hin:u∈us++(ts++(vs'++ws)):=List.mem_append_left _ hm
    exact ⟨hus u hm,E7 hfs hin,hu2.mem hin,cmC (hus u hm) (E7 hfs hin) (hu2.mem hin)⟩
   have hTv:∀u∈vs',Cm ns ars (fun _=>True) (rnT u)∧∀x,SH H x u→CR k0 ev0 ns ars 50 [rP g,.agg (p8 x).toArray] H g X (rnT u) uE:=fun u hm=>by
    have hin:u∈us++(ts++(vs'++ws)):=List.mem_append_right _ (List.mem_append_right _ (List.mem_append_left _ hm))
    exact ⟨cmS (hvs u hm) (E7 hfs hin) (hu2.mem hin),ih1 u hm (E7 hfs hin) (hu2.mem hin)⟩
   have hTw:∀u∈ws,Cm ns ars (fun _=>True) (rnT u)∧∀x,SH H x u→CR k0 ev0 ns ars 50 [rP g,.agg (p8 x).toArray] H g X (rnT u) uE:=fun u hm=>by
    have hin:u∈us++(ts++(vs'++ws)):=List.mem_append_right _ (List.mem_append_right _ (List.mem_append_right _ hm))
    exact ⟨cmS (hws u hm) (E7 hfs hin) (hu2.mem hin),ih2 u hm (E7 hfs hin) (hu2.mem hin)⟩
   have hThen:=b5y haT hab ⟨hal,har⟩ (fun u hm=>(hTv u hm).1) fun u hm=>(hTv u hm).2
   have hElse:=b5y hbE hbb ⟨hbl,hbr⟩ (fun u hm=>(hTw u hm).1) fun u hm=>(hTw u hm).2
   have cThen:=b1S (ns:=ns) (ars:=ars) (l:=vs'.map rnT) fun m hm=>by
    obtain ⟨u,hu,rfl⟩:=List.mem_map.1 hm
    exact (hTv u hu).1
   have hkind:(1≤e.b8∧e.b8≤7)∧(e.b8=1→ts.length=1)∧(e.b8=2→ts.length=2)∧((e.b8=3∨e.b8=4∨e.b8=5∨e.b8=6)→us.length=1):=by
    unfold formS at hff
    by_cases c1:e.b8=1
    ·simp [c1] at hff;omega
    by_cases c2:e.b8=2
    ·simp [c2] at hff;omega
    by_cases c3:e.b8=3
    ·simp [c3] at hff;omega
    by_cases c4:e.b8=4
    ·simp [c4] at hff;omega
    by_cases c5:e.b8=5
    ·simp [c5] at hff;omega
    by_cases c6:e.b8=6
    ·simp [c6] at hff;omega
    by_cases c7:e.b8=7
    ·omega
    ·simp [c1,c2,c3,c4,c5,c6,c7] at hff
   have hrn:rnT (sN e.b8 e.f8 ts us vs' ws)=stN e.b8 e.f8 ts (us.map cvT) (vs'.map rnT) (ws.map rnT):=b8V _ _ _ _ _ _
   unfold sN at hrn
   rw [hrn]
   refine d0C ?_
   unfold F50
   refine z7 I (cs:=p8 e) rfl fun g1 w1 I1 _=>?_
   have dr:∀{F':Frag}{w':World},Inv w (inF [F]) H H [F',bx g1 104 (p8 e)] w'→Inv w (inF [F]) H H [F'] w':=fun J=>(J.bring 1).drop
   have ask:∀{u:PT}{σ1:St}{F1:Frag}{w2:World}{K:Value→World→Prop}{E:Pan},us[0]? = some u→RnF g X σ1 H F1→Okst k0 ev0 ns ars σ1→Inv w (inF [F]) H H [F1,bx g1 104 (p8 e)] w2→
     (∀b σ2 F2 w3,cvT u σ1=.ok b σ2→RnF g X σ2 H F2→Okst k0 ev0 ns ars σ2→Inv w (inF [F]) H H [F2,bx g1 104 (p8 e)] w3→K (.bool b) w3)→
     (∀st wr σ2 F2 w3,cvT u σ1=.stop st wr σ2→RnF g X σ2 H F2→Inv w (inF [F]) H H [F2,bx g1 104 (p8 e)] w3→E [{ v:=endsV st wr,recovered:=false }] w3)→
     opK Tryz.prog E (xV (Instr.fieldAt 104 (rP g1) 3)) w2 fun b9B c5M=>opK Tryz.prog E (xV (Instr.loadAt 102 b9B)) c5M fun b9C c5N=>opK Tryz.prog E (xV (Instr.indexAt 102 b9C (Value.int .i64 0))) c5N fun b9D c5O=>
      opK Tryz.prog E (xV (Instr.loadAt 122 b9D)) c5O fun b9E c5P=>opK Tryz.prog E (xCall (Value.func (.func 87) #[] #[]) [rP g,b9E]) c5P K:=fun{u}{σ1}{F1}{w2}{K}{E} hi hr1 ho1 I2 hK hE2=>by
    have hm:=List.mem_of_getElem? hi
    obtain ⟨x,⟨g5,o5,ha5,hA5⟩,hx,hlt⟩:=a5H hcC hrC hi
    obtain ⟨b1,b2,b3,b4,b5⟩:=hTc u hm
    refine b6 a1V ?_
    refine d4 (ld1 Tryz.isAgg102 ((I2.bring 1).at1 (o:=3) (vs:=[vs e.D3]) (nb rfl) rfl)) ?_
    refine b6 (O6 ha5 _ _ _ _ (by decide) hlt) ?_
    refine d4 (ldA (vs:=p5 x) Tryz.isAgg122 Tryz.sizeOf122 rfl (I2.atH hA5)) ?_
    refine q9 (cap:=[]) (fun args w=>Tryz.call87 args w) ?_
    refine (c8T hk hev b1 b2 hx b3).use hr1 ho1 I2 (fun a σ' F' w' e1 hr2 J=>?_) fun st wr σ' F' w' e1 hr2 J=>hE2 st wr σ' F' w' e1 hr2 J
    exact hK a σ' F' w' e1 hr2 (a2e b4 ho1 e1).2 J
   have evl:∀{i:Nat}{u:PT}{σ1:St}{F1:Frag}{w2:World}{K:Value→World→Prop}{E:Pan},ts[i]? = some u→RnF g X σ1 H F1→Okst k0 ev0 ns ars σ1→Inv w (inF [F]) H H [F1,bx g1 104 (p8 e)] w2→
     (∀b σ2 F2 w3,evT u σ1=.ok b σ2→RnF g X σ2 H F2→o8 b→Okst k0 ev0 ns ars σ2→Inv w (inF [F]) H H [F2,bx g1 104 (p8 e)] w3→K (vi b) w3)→
     (∀st wr σ2 F2 w3,evT u σ1=.stop st wr σ2→RnF g X σ2 H F2→Inv w (inF [F]) H H [F2,bx g1 104 (p8 e)] w3→E [{ v:=endsV st wr,recovered:=false }] w3)→
     opK Tryz.prog E (xV (Instr.fieldAt 104 (rP g1) 2)) w2 fun b9B c5M=>opK Tryz.prog E (xV (Instr.loadAt 101 b9B)) c5M fun b9C c5N=>opK Tryz.prog E (xV (Instr.indexAt 101 b9C (Value.int .i64 (i:Int)))) c5N fun b9D c5O=>
      opK Tryz.prog E (xV (Instr.loadAt 125 b9D)) c5O fun b9E c5P=>opK Tryz.prog E (xCall (Value.func (.func 85) #[] #[]) [rP g,b9E]) c5P K:=fun{i}{u}{σ1}{F1}{w2}{K}{E} hi hr1 ho1 I2 hK hE2=>by
    have hm:=List.mem_of_getElem? hi
    obtain ⟨x,⟨g5,o5,ha5,hA5⟩,hx,hlt⟩:=a5H hsE hrE hi
    obtain ⟨b1,b2,b3,b4⟩:=hTe u hm
    refine b6 a2Q ?_
    refine d4 (ld1 Tryz.isAgg101 ((I2.bring 1).at1 (o:=2) (vs:=[vs e.t7]) (nb rfl) rfl)) ?_
    refine b6 (Q0 ha5 _ _ _ _ (by omega) hlt) ?_
    refine d4 (ldA (vs:=j9 x) Tryz.isAgg125 Tryz.sizeOf125 rfl (I2.atH hA5)) ?_
    refine q9 (cap:=[]) (fun args w=>Tryz.call85 args w) ?_
    refine (b7e hk hev b1 b2 hx b3).use hr1 ho1 I2 (fun a σ' F' w' e1 hr2 J=>?_) fun st wr σ' F' w' e1 hr2 J=>hE2 st wr σ' F' w' e1 hr2 J
    have:=a2e b4 ho1 e1
    exact hK a σ' F' w' e1 hr2 this.1 this.2 J
   refine b6 a4C ?_
   refine d4 (ld1 Tryz.isAgg3 (I1.at1 (o:=0) (vs:=[vi e.b8]) (nb rfl) rfl)) ?_
   refine b6 (i7 _ _ _ _ _ _) ?_
   refine D7 (fun c1=>?_) (fun c1=>?_)
   ·obtain ⟨u,hu0⟩:=y7 (l:=ts) (i:=0) (by have:=hkind.2.1 c1;omega)
    have hm:=List.mem_of_getElem? hu0
    have hx:e.f8∈ns:=by
     unfold useL at hu1
     rw [c1] at hu1
     exact (hu1 ⟨e.f8,false⟩ (by simp)).2 rfl
    have hm1:stN e.b8 e.f8 ts (us.map cvT) (vs'.map rnT) (ws.map rnT)=bnd (giveM u) (setM e.f8):=by
     unfold stN
     rw [if_pos c1,List.getD_eq_getElem?_getD,hu0];rfl
    rw [hm1]
    have fin:∀{v:Int}{σ1:St}{F1:Frag}{w2:World}{R:Value→World→Prop}{E:Pan},o8 v→RnF g X σ1 H F1→Okst k0 ev0 ns ars σ1→Inv w (inF [F]) H H [F1,bx g1 104 (p8 e)] w2→
      (∀σ2 F2 w3,setM e.f8 v σ1=.ok () σ2→RnF g X σ2 H F2→Inv w (inF [F]) H H [F2,bx g1 104 (p8 e)] w3→R (.tuple #[]) w3)→b8J (rP g) (rP g1) (vi v) w2 R E:=fun{v}{σ1}{F1}{w2}{R}{E} hv hr1 ho1 I2 hR=>by
     unfold b8J
     intro _
     obtain ⟨sc,ev,Fe,Fv,Fa,W,rfl⟩:=hr1
     obtain ⟨v0,hv0,_⟩:=c1a ho1 hx
     obtain ⟨g2,Fr,hlv,hp,hset⟩:=W.hvs.get hv0
     obtain ⟨Fv',hv1,hv2⟩:=hset v
     refine C6 I2 fun w3 I3=>?_
     have I4:=I3.un4
     have I5:=(((I4.bring 2).p1 hp).un2:Inv w _ H H [bx g2 2 [vi v0],Fr,bx g 56 (rcs X σ1 sc ev),Fe,Fa,bx g1 104 (p8 e)] w3)
     refine d6 (m7 _) ?_
     refine d6 a9B ?_
     refine d6 a0d ?_
     refine i8 (ld1 Tryz.isAgg53 (I4.at1 (o:=4) (vs:=[.map X.mv]) (nb rfl) rfl)) ?_
     refine i8 (ld1 Tryz.isAgg9 ((I3.bring 1).at1 (o:=1) (vs:=[.string e.f8]) (nb rfl) rfl)) ?_
     refine b1l (keyS Tryz.underlying9) Tryz.underlying53 (z:=(none:Option Addr)) (fun w=>Tryz.zeroValue59 w) I3 W.hmv e.f8 ?_
     rw [hlv,Option.getD_some]
     refine d6 (m7 _) ?_
     refine E8 I5 Tryz.sizeOf2 (vs:=[vi v]) (cs':=[vi v]) rfl rfl (nb rfl) rfl rfl fun w6 I6 _=>?_
     have I7:Inv w (inF [F]) H H [Fv',bx g 56 (rcs X σ1 sc ev),Fe,Fa,bx g1 104 (p8 e)] w6:=(Inv.p1 hv2.symm (I6.perm (by simp only [List.flatten_cons,List.append_assoc];exact .refl _)))
     refine hR { σ1 with vars:=T7 e.f8 v σ1.vars } _ _ rfl ⟨sc,ev,Fe,Fv',Fa,⟨W.hsc,W.cap,W.hev,hv1,W.has,W.hmv,W.hma⟩,rfl⟩ (Inv.jn4 ((I7.bring 2).bring 2))
    obtain ⟨x,⟨g5,o5,ha5,hA5⟩,hxu,hlt⟩:=a5H hsE hrE hu0
    obtain ⟨b1,b2,b3,b4⟩:=hTe u hm
    refine b6 a2Q ?_
    refine d4 (ld1 Tryz.isAgg101 (I1.at1 (o:=2) (vs:=[vs e.t7]) (nb rfl) rfl)) ?_
    refine b6 (Q0 ha5 _ _ _ _ (by decide) hlt) ?_
    refine d4 (ldA (vs:=j9 x) Tryz.isAgg125 Tryz.sizeOf125 rfl (I1.atH hA5)) ?_
    refine q9 (cap:=[]) (fun args w=>Tryz.call83 args w) ?_
    refine O2 (Fi:=[F]) (Fr:=[bx g1 104 (p8 e)]) (I1.bring 1) (b9A hxu b1 b3 hr ho) (fun v H3 Fo w3 I3 l3 k3 q=>?_) (fun _ _ _ _ _ q=>q.elim)
    obtain ⟨n0,rfl,hpl,rfl,rfl⟩:=q
    refine b6 (i5 _ 0 _ rfl) ?_
    refine b6 (i5 _ 1 _ rfl) ?_
    refine v6 fun j1 hx1=>?_
    refine N9 (fun c=>?_) (fun c=>?_)
    ·have hg:giveM u=bnd stepM fun _=>evT u:=by unfold giveM;rw [if_pos c]
     rw [hg]
     refine q9 (cap:=[]) (fun args w=>Tryz.call84 args w) ?_
     refine (a7i hk).use hr ho I3 (fun a σ1 F1 w1 e1 hr1 J=>?_) fun st wr σ1 F1 w1 e1 hr1 J=>?_
     ·have e2:=c2j c (hpl c) (c4r e1)
      have hs1:=a2e .step ho e1
      refine hx1 _ _ (fin (a2e b4 hs1.2 e2).1 hr1 hs1.2 J fun σ2 F2 w3 e3 hr2 J2=>?_)
      exact ⟨_,_,dr J2,(),σ2,F2,by rw [hg,a0m,K3 e1,K3 e2];exact e3,rfl,rfl,hr2,rfl⟩
     ·exact ⟨_,_,dr J,st,wr,σ1,F1,by rw [a0m];exact O5 e1,rfl,rfl,hr1,rfl⟩
    ·have hg:giveM u=evT u:=by unfold giveM;rw [if_neg (by rw [c];decide)]
     rw [hg]
     refine evl hu0 hr ho I3 (fun b σ2 F2 w3 e1 hr2 hb64 ho2 J=>?_) fun st wr σ2 F2 w3 e1 hr2 J=>?_
     ·refine hx1 _ _ (fin hb64 hr2 ho2 J fun σ3 F3 w4 e3 hr3 J2=>?_)
      exact ⟨_,_,dr J2,(),σ3,F3,by rw [hg,K3 e1];exact e3,rfl,rfl,hr3,rfl⟩
     ·exact ⟨_,_,dr J,st,wr,σ2,F2,O5 e1,rfl,rfl,hr2,rfl⟩
   refine b6 (i7 _ _ _ _ _ _) ?_
   refine D7 (fun c2=>?_) (fun c2=>?_)
   ·obtain ⟨u,hu0⟩:=y7 (l:=ts) (i:=0) (by have:=hkind.2.2.1 c2;omega)
    obtain ⟨u2,hu2'⟩:=y7 (l:=ts) (i:=1) (by have:=hkind.2.2.1 c2;omega)
    have hx:e.f8∈ars:=by
     unfold useL at hu1
     rw [c2] at hu1
     exact (hu1 ⟨e.f8,true⟩ (by simp)).1 rfl
    have hm1:stN e.b8 e.f8 ts (us.map cvT) (vs'.map rnT) (ws.map rnT)=bnd (evT u) fun i=>bnd (evT u2) fun v=>storeM e.f8 i v:=by
     unfold stN
     rw [if_neg c1,if_pos c2]
     simp only [List.getD_eq_getElem?_getD,hu0,hu2',Option.getD_some]
    rw [hm1]
    refine evl hu0 hr ho (I1.bring 1) (fun i σ1 F1 w2 e1 hr1 hi64 ho1 J=>?_) fun st wr σ1 F1 w2 e1 hr1 J=>?_
    case refine_2=>exact ⟨_,_,dr J,st,wr,σ1,F1,O5 e1,rfl,rfl,hr1,rfl⟩
    rw [K3 e1]
    refine evl hu2' hr1 ho1 J (fun v σ2 F2 w3 e2 hr2 hv64 ho2 J2=>?_) fun st wr σ2 F2 w3 e2 hr2 J2=>?_
    case refine_2=>exact ⟨_,_,dr J2,st,wr,σ2,F2,O5 e2,rfl,rfl,hr2,rfl⟩
    rw [K3 e2]
    unfold storeM
    refine b6 a0d ?_
    refine d4 (ld1 Tryz.isAgg9 ((J2.bring 1).at1 (o:=1) (vs:=[.string e.f8]) (nb rfl) rfl)) ?_
    refine q9 (cap:=[]) (fun args w=>Tryz.call86 args w) ?_
    refine (c0Z hk hx).use hr2 ho2 J2 (fun a σ3 F3 w4 e3 hr3 J3=>?_) fun st wr σ3 F3 w4 e3 hr3 J3=>?_
    case refine_2=>exact ⟨_,_,dr J3,st,wr,σ3,F3,O5 e3,rfl,rfl,hr3,rfl⟩
    rw [K3 e3]
    have ho3:=(a2e (Cm.bnd .step fun _ _=>.item hx hi64) ho2 e3).2
    have hbd:¬(i < 0∨((rowOf e.f8 σ3).length:Int)≤i):=by
     unfold itemM at e3
     obtain ⟨_,s1,_,e4⟩:=b3S.1 e3
     unfold boundM at e4
     split at e4
     ·cases e4
     ·rename_i hb;cases e4;exact hb
    obtain ⟨sc,ev,Fe,Fv,Fa,W,rfl⟩:=hr3
    obtain ⟨sl2,F4,Fr,hl2,hrow2,hp2,hset⟩:=W.has.get (b7d ho3 hx)
    obtain ⟨v0,hv0⟩:=y7 (l:=rowOf e.f8 σ3) (i:=i.toNat) (by omega)
    have hg:=b7c hl2 hrow2 hv0
    have J4:=J3.un4
    have J5:=((J4.bring 3).p1 hp2).un2
    refine b6 (m7 _) ?_
    refine a1p J5 hrow2 hg (i:=i.toNat) (x:=v) (C3 hv0) Tryz.sizeOf2 rfl fun F6 w6 hr6 J6 _=>?_
    obtain ⟨Fa',ha1,ha2⟩:=hset _ F6 hr6
    refine ⟨_,_,?_,(),{ σ3 with arrs:=T7 e.f8 ((rowOf e.f8 σ3).set i.toNat v) σ3.arrs },_,rfl,rfl,rfl,⟨sc,ev,Fe,Fv,Fa',⟨W.hsc,W.cap,W.hev,W.hvs,ha1,W.hmv,W.hma⟩,rfl⟩,rfl⟩
    have J7:Inv w (inF [F]) H H [Fa',bx g 56 (rcs X σ3 sc ev),Fe,Fv,bx g1 104 (p8 e)] w6:=(Inv.p1 ha2.symm (J6.perm (by simp only [List.flatten_cons,List.append_assoc];exact .refl _)))
    exact dr (Inv.jn4 (((J7.bring 3).bring 3).bring 3))
   refine b6 (i7 _ _ _ _ _ _) ?_
   refine D7 (fun c3=>?_) (fun c3=>?_)
   ·obtain ⟨u,hu0⟩:=y7 (l:=us) (i:=0) (by have:=hkind.2.2.2 (.inl c3);omega)
    have hm1:stN e.b8 e.f8 ts (us.map cvT) (vs'.map rnT) (ws.map rnT)=bnd (cvT u) fun h=>if h=true then seqM (vs'.map rnT) else seqM (ws.map rnT):=by
     unfold stN
     rw [if_neg c1,if_neg c2,if_pos c3,a6c hu0]
    rw [hm1]
    refine ask hu0 hr ho (I1.bring 1) (fun b σ2 F2 w3 e1 hr2 ho2 J=>?_) fun st wr σ2 F2 w3 e1 hr2 J=>?_
    case refine_2=>exact ⟨_,_,dr J,st,wr,σ2,F2,O5 e1,rfl,rfl,hr2,rfl⟩
    rw [K3 e1]
    refine N9 (fun c=>?_) (fun c=>?_)
    ·rw [if_pos c]
     refine b6 a0Y ?_
     refine d4 (ld1 Tryz.isAgg23 ((J.bring 1).at1 (o:=4) (vs:=[vs e.S8]) (nb rfl) rfl)) ?_
     refine q9 (cap:=[]) (fun args w=>Tryz.call25 args w) ?_
     refine hThen.use hr2 ho2 J (fun a σ' F' w' e2 hr3 J2=>?_) fun st wr σ' F' w' e2 hr3 J2=>?_
     ·exact ⟨_,_,dr J2,(),σ',F',e2,rfl,rfl,hr3,rfl⟩
     ·exact ⟨_,_,dr J2,st,wr,σ',F',e2,rfl,rfl,hr3,rfl⟩
    ·rw [if_neg (by rw [c];decide)]
     refine b6 a2R ?_
     refine d4 (ld1 Tryz.isAgg23 ((J.bring 1).at1 (o:=5) (vs:=[vs e.U7]) (nb rfl) rfl)) ?_
     refine q9 (cap:=[]) (fun args w=>Tryz.call25 args w) ?_
     refine hElse.use hr2 ho2 J (fun a σ' F' w' e2 hr3 J2=>?_) fun st wr σ' F' w' e2 hr3 J2=>?_
     ·exact ⟨_,_,dr J2,(),σ',F',e2,rfl,rfl,hr3,rfl⟩
     ·exact ⟨_,_,dr J2,st,wr,σ',F',e2,rfl,rfl,hr3,rfl⟩
   refine b6 (i7 _ _ _ _ _ _) ?_
   refine D7 (fun c4=>?_) (fun c4=>?_)
   ·obtain ⟨u,hu0⟩:=y7 (l:=us) (i:=0) (by have:=hkind.2.2.2 (.inr (.inl c4));omega)
    obtain ⟨b1,b2,b3,b4,b5⟩:=hTc u (List.mem_of_getElem? hu0)
    have hm1:stN e.b8 e.f8 ts (us.map cvT) (vs'.map rnT) (ws.map rnT)=loopW (cvT u) (seqM (vs'.map rnT)):=by
     unfold stN
     rw [if_neg c1,if_neg c2,if_neg c3,if_pos c4,a6c hu0]
    rw [hm1]
    refine K7 (J:=fun n l w'=>∃(σi:St)(Fi:Frag),n = σi.left∧l=[]∧RnF g X σi H Fi∧Okst k0 ev0 ns ars σi∧Inv w (inF [F]) H H [Fi,bx g1 104 (p8 e)] w'∧loopW (cvT u) (seqM (vs'.map rnT)) σ = loopW (cvT u) (seqM (vs'.map rnT)) σi) ⟨_,σ,F,rfl,rfl,hr,ho,I1.bring 1,rfl⟩ ?_
    rintro n τ w4 next2 ⟨σi,Fi,rfl,hl4,hri,hoi,I4,hev4⟩ hn2
    rw [c5j b4 cThen b5 hoi] at hev4
    unfold c3l
    refine ask hu0 hri hoi I4 (fun b σ2 F2 w3 e1 hr2 ho2 J=>?_) fun st wr σ2 F2 w3 e1 hr2 J=>?_
    case refine_2=>exact ⟨_,_,dr J,st,wr,σ2,F2,hev4.trans (O5 e1),rfl,rfl,hr2,rfl⟩
    rw [K3 e1] at hev4
    refine N9 (fun c=>?_) (fun c=>?_)
    ·rw [if_pos c] at hev4
     subst c
     have hdl:=b5 _ _ _ _ _ hoi e1
     refine b6 a0Y ?_
     refine d4 (ld1 Tryz.isAgg23 ((J.bring 1).at1 (o:=4) (vs:=[vs e.S8]) (nb rfl) rfl)) ?_
     refine q9 (cap:=[]) (fun args w=>Tryz.call25 args w) ?_
     refine hThen.use hr2 ho2 J (fun a σ' F' w' e2 hr3 J2=>?_) fun st wr σ' F' w' e2 hr3 J2=>?_
     ·rw [K3 e2] at hev4
      have hp:=cThen.safe σ2 ho2
      rw [e2] at hp
      have h3:=hp.2.2
      exact hn2 _ _ _ (show σ'.left < σi.left by omega) ⟨σ',F',rfl,rfl,hr3,hp.2.1,J2,hev4⟩
     ·exact ⟨_,_,dr J2,st,wr,σ',F',hev4.trans (O5 e2),rfl,rfl,hr3,rfl⟩
    ·rw [if_neg (by rw [c];decide)] at hev4
     exact ⟨_,_,dr J,(),σ2,F2,hev4,rfl,rfl,hr2,rfl⟩
   refine b6 (i7 _ _ _ _ _ _) ?_
   refine D7 (fun c6=>?_) (fun c6=>?_)
   ·obtain ⟨u,hu0⟩:=y7 (l:=us) (i:=0) (by have:=hkind.2.2.2 (.inr (.inr (.inr c6)));omega)
    have hm1:stN e.b8 e.f8 ts (us.map cvT) (vs'.map rnT) (ws.map rnT)=bnd (cvT u) fun h=>if h=true then ret () else halt 2 0:=by
     unfold stN
     rw [if_neg c1,if_neg c2,if_neg c3,if_neg c4,if_neg (by omega),if_pos c6,a6c hu0]
    rw [hm1]
    refine ask hu0 hr ho (I1.bring 1) (fun b σ2 F2 w3 e1 hr2 ho2 J=>?_) fun st wr σ2 F2 w3 e1 hr2 J=>?_
    case refine_2=>exact ⟨_,_,dr J,st,wr,σ2,F2,O5 e1,rfl,rfl,hr2,rfl⟩
    rw [K3 e1]
    refine b6 (O4 _) ?_
    cases b
    ·refine N9 (fun _=>?_) (fun c=>by cases c)
     refine q9 (cap:=[]) (fun args w=>Tryz.call88 args w) ?_
     refine O2 (Fi:=[]) (Fr:=[_,_]) J (b4x _ _ _) (fun _ _ _ _ _ _ _ q=>q.elim) fun c2 H' Fo w' J3 q=>?_
     obtain ⟨rfl,rfl,rfl⟩:=q
     exact ⟨_,_,dr J3,2,0,σ2,F2,rfl,rfl,rfl,hr2,rfl⟩
    ·refine N9 (fun c=>by cases c) (fun _=>?_)
     exact ⟨_,_,dr J,(),σ2,F2,rfl,rfl,rfl,hr2,rfl⟩
   refine b6 (i7 _ _ _ _ _ _) ?_
   refine D7 (fun c5=>?_) (fun c5=>?_)
   ·obtain ⟨u,hu0⟩:=y7 (l:=us) (i:=0) (by have:=hkind.2.2.2 (.inr (.inr (.inl c5)));omega)
    have hm1:stN e.b8 e.f8 ts (us.map cvT) (vs'.map rnT) (ws.map rnT)=bnd (cvT u) fun h=>bnd (heldM h) fun _=>if h=true then ret () else halt 3 4:=by
     unfold stN
     rw [if_neg c1,if_neg c2,if_neg c3,if_neg c4,if_pos c5,a6c hu0]
    rw [hm1]
    refine ask hu0 hr ho (I1.bring 1) (fun b σ2 F2 w3 e1 hr2 ho2 J=>?_) fun st wr σ2 F2 w3 e1 hr2 J=>?_
    case refine_2=>exact ⟨_,_,dr J,st,wr,σ2,F2,O5 e1,rfl,rfl,hr2,rfl⟩
    rw [K3 e1]
    unfold heldM
    rw [a0m]
    refine q9 (cap:=[]) (fun args w=>Tryz.call84 args w) ?_
    refine (a7i hk).use hr2 ho2 J (fun a σ3 F3 w4 e3 hr3 J3=>?_) fun st wr σ3 F3 w4 e3 hr3 J3=>?_
    case refine_2=>exact ⟨_,_,dr J3,st,wr,σ3,F3,O5 e3,rfl,rfl,hr3,rfl⟩
    rw [K3 e3]
    have hl3:σ3.events.length+1≤ev0:=by
     have he:=ho2.ev
     unfold stepM at e3
     split at e3
     ·cases e3
     ·cases e3;dsimp only;omega
    obtain ⟨sc,ev,Fe,Fv,Fa,W,rfl⟩:=hr3
    obtain ⟨h1,h2,h3,h4,h5,h6,h7⟩:=W
    have I2:=J3.un4
    refine b6 (m7 _) ?_
    refine b6 a7p ?_
    refine d4 (ld1 Tryz.isAgg29 (I2.at1 (o:=3) (vs:=[vs ev]) (nb rfl) rfl)) ?_
    refine b6 (c0c _) ?_
    refine Y1 (e:=87) (c:=m6) (xs:=[⟨false,0,b⟩]) I2 (b1C _ _ _) rfl rfl Y5 Y6 (nb rfl) fun s4 F4 w4 hr4 I4 _=>?_
    refine b3C (s:=ev) (xs:=σ3.events) (I4.bring 2) h3 (hr4.srcO ((I4.bring 2).bring 1)) (by rw [List.length_singleton];omega) fun s5 F5 w5 hr5 I5 _=>?_
    refine b6 (m7 _) ?_
    refine b6 a7p ?_
    refine E8 ((I5.bring 1).drop.bring 1) Tryz.sizeOf29 (vs:=[vs s5]) (cs':=[vi (σ3.left:Int),vi σ3.steps,vs sc,vs s5,.map X.mv,.map X.ma]) rfl rfl (nb rfl) rfl rfl fun w6 I6 _=>?_
    have hr6:RnF g X { σ3 with events:=σ3.events++[⟨false,0,b⟩] } H _:=⟨sc,s5,F5,Fv,Fa,⟨h1,h2,hr5,h4,h5,h6,h7⟩,rfl⟩
    have ho6:Okst k0 ev0 ns ars { σ3 with events:=σ3.events++[⟨false,0,b⟩] }:=by
     have e4:heldM b σ2=.ok () { σ3 with events:=σ3.events++[⟨false,0,b⟩] }:=by unfold heldM;rw [K3 e3];rfl
     exact (a2e (Cm.held b) ho2 e4).2
    have I7:=I6.jn4
    refine b6 (O4 _) ?_
    cases b
    ·refine N9 (fun _=>?_) (fun c=>by cases c)
     refine q9 (cap:=[]) (fun args w=>Tryz.call89 args w) ?_
     refine (b5x 4).use hr6 ho6 I7 (fun a σ8 F8 w8 e8 hr8 I8=>?_) fun st wr σ8 F8 w8 e8 hr8 I8=>?_
     ·cases e8
     ·cases e8
      exact ⟨_,_,dr I8,3,4,_,F8,rfl,rfl,rfl,hr8,rfl⟩
    ·refine N9 (fun c=>by cases c) (fun _=>?_)
     exact ⟨_,_,dr I7,(),_,_,rfl,rfl,rfl,hr6,rfl⟩
   ·have hm1:stN e.b8 e.f8 ts (us.map cvT) (vs'.map rnT) (ws.map rnT)=stepM:=by
     unfold stN
     rw [if_neg c1,if_neg c2,if_neg c3,if_neg c4,if_neg c5,if_neg c6]
    rw [hm1]
    refine q9 (cap:=[]) (fun args w=>Tryz.call84 args w) ?_
    refine (a7i hk).use hr ho (I1.bring 1) (fun a σ3 F3 w4 e3 hr3 J3=>?_) fun st wr σ3 F3 w4 e3 hr3 J3=>?_
    ·exact ⟨_,_,dr J3,(),σ3,F3,e3,rfl,rfl,hr3,rfl⟩
    ·exact ⟨_,_,dr J3,st,wr,σ3,F3,e3,rfl,rfl,hr3,rfl⟩
end
end Go.Proofs.YthaaobpfbgcfiaaGreatDoor
