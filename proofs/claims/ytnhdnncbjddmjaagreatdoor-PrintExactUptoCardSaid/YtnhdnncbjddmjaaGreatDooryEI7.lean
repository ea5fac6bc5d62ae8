/- Printing: whole programs: the program's text, the document's lines and text. Contracts off the printed formulas. -/
import Derived.Test.YtnhdnncbjddmjaaGreatDooryEI6
namespace Go.Proofs.YtnhdnncbjddmjaaGreatDoor
open Go.RowKit
set_option maxRecDepth 100000
set_option maxHeartbeats 2000000
def prS(q:PP):ByteArray×Int:=if toldS q.nodes=0 then (if lim < (progT Lib.itoa q).length then (⟨#[]⟩,50) else (bS (progT Lib.itoa q),0)) else (⟨#[]⟩,toldS q.nodes)
theorem c0i:∀p∈([]:List ByteArray),p.size≤1048576:=fun p h=>by cases h
theorem allc{a:ByteArray}{l:List ByteArray}(h:a.size≤1048576)(t:∀p∈l,p.size≤1048576):∀p∈a::l,p.size≤1048576:=fun p hp=>by
 rcases List.mem_cons.1 hp with rfl | hp
 ·exact h
 ·exact t p hp
theorem b2y{α:Type}{f:α→BL}{ds:List α}{i:Nat}{d:α}(h:ds[i]? = some d):((ds.take (i+1)).map f).flatten=((ds.take i).map f).flatten++f d:=by
 obtain ⟨hlt,rfl⟩:=List.getElem?_eq_some_iff.1 h
 rw [List.take_succ_eq_append_getElem hlt,List.map_append,List.flatten_append]
 simp
theorem Sm.name{d:G4}(h:Sm (dT d)):d.f4.size≤1048576:=by
 cases h with | mk a _=>exact a.1
theorem b3c{d:G4}(h:formT (dT d)=true):0≤d.L3∧d.L3≤2147483647:=by
 unfold dT at h
 rw [formT,Bool.and_eq_true] at h
 have h1:(decide (0≤d.L3)&&decide (d.L3≤2147483647))=true:=h.1
 simpa using h1
theorem a4s:∀{ts:List PT}{t:PT},formTs ts=true→t∈ts→formT t=true
 | [],t,_,h=>by cases h
 | u::ts,t,hf,h=>by
  rw [formTs,Bool.and_eq_true] at hf
  rcases List.mem_cons.1 h with rfl | h
  ·exact hf.1
  ·exact a4s hf.2 h
theorem a8R:∀{ts:List PT}{t:PT}{n:Int},dpTs 64 ts n→t∈ts→dpT 64 t n
 | [],t,_,_,h=>by cases h
 | u::ts,t,n,hf,h=>by
  rw [dpTs] at hf
  rcases List.mem_cons.1 h with rfl | h
  ·exact hf.1
  ·exact a8R hf.2 h
section
variable {H:Hp}
theorem b6o(hT:TabsH H)(hP:PowH H){p:l9}{q:PP}(hp:PH H p q)(hsm:q.Sm){K:ByteArray→Int→Hp→Prop}(h:∀H',Hle H H'→K (prS q).1 (prS q).2 H'):a2k p H K:=by
 refine a7l _ ?_
 unfold a2q
 refine b5Y hT hp hsm fun H1 l1=>?_
 rw [show vEnd (allV q)=toldS q.nodes from b2Z _]
 refine ⟨fun e=>?_,fun e=>?_⟩
 ·have:=h H1 l1
  unfold prS at this
  rwa [if_neg e] at this
 obtain ⟨hcnt,hdp,hfm,_⟩:=(a8Q _).1 e
 have hq:prS q=if lim < (progT Lib.itoa q).length then (⟨#[]⟩,50) else (bS (progT Lib.itoa q),0):=by unfold prS;rw [if_pos e]
 obtain ⟨hd,hdb,xs,hb,hbb,hbr⟩:=hp
 have hmd:∀d∈q.decls,Sm (dT d)∧formT (dT d)=true:=fun d hd=>by
  have hm:dT d∈q.nodes:=List.mem_append_left _ (List.mem_map.2 ⟨d,hd,rfl⟩)
  exact ⟨hsm _ hm,a4s hfm hm⟩
 have hmb:∀t∈q.body,Sm t∧formT t=true∧dpT 64 t ((0+1:Nat):Int):=fun t ht=>by
  have hm:t∈q.nodes:=List.mem_append_right _ ht
  exact ⟨hsm _ hm,a4s hfm hm,a8R hdp hm⟩
 have hdn:=hd.1
 have hbn:=hb.1
 have hbl:=hbr.1
 have j2:∀(ad:Option Addr)(m:BL)(H2:Hp),Hle H1 H2→Wt BB [] (progT Lib.itoa q) m→P7 ad (ib m) 0 p H2 K:=by
  intro ad m H2 l2 hw
  have hk:=h H2 (l1.trans l2)
  rw [hq] at hk
  unfold Wt at hw
  rw [List.length_nil,Nat.zero_add,List.nil_append] at hw
  unfold P7
  refine a9K ⟨fun c=>?_,fun c=>b0i fun y c'=>?_⟩
  ·have c:=of_decide_eq_true c
   by_cases hc:(progT Lib.itoa q).length≤lim
   ·rw [if_pos hc] at hw;rw [hw] at c;unfold lim at hc;omega
   ·rw [if_pos (by omega)] at hk;exact hk
  ·have c:=of_decide_eq_false c
   by_cases hc:(progT Lib.itoa q).length≤lim
   ·rw [if_pos hc] at hw;rw [if_neg (by omega)] at hk;rw [hw];exact hk
   ·rw [if_neg hc] at hw;unfold lim at hw;omega
 have j1:∀(ad:Option Addr)(m:BL)(H2:Hp),Hle H1 H2→Wt BB [] (q.decls.map (declT Lib.itoa)).flatten m→P8 ad (ib m) 0 p H2 K:=by
  intro ad m H2 l2 hw
  unfold P8
  refine Q9 (fun st H'=>Hle H1 H'∧∃(i:Nat)(ad:Option Addr)(m:BL),i≤xs.length∧st=((i:Int),ad,ib m,(0:Int))∧Wt BB [] ((q.decls.map (declT Lib.itoa)).flatten++(stxs Lib.itoa 0 (q.body.take i)).flatten) m) (fun st=>xs.length-st.1.toNat)
   ⟨l2,0,ad,m,Nat.zero_le _,rfl,by rw [List.take_zero,stxs,List.flatten_nil,List.append_nil];exact hw⟩ ?_
  rintro st H3 next ⟨l3,i,ad,m,hi,rfl,hw⟩ hnx
  dsimp only
  unfold X6
  refine ⟨fun qq=>?_,fun qq=>?_⟩
  ·obtain ⟨z,hz⟩:=A0 (l:=xs) (i:=i) (by omega)
   obtain ⟨t,ht,hSH⟩:=hbr.get hz
   obtain ⟨m1,m2,m3⟩:=hmb t (List.mem_of_getElem? ht)
   refine ⟨by omega,by omega,z,(hb.2 i z hz).le (l1.trans l3),b7U hP hSH 0 m2 m1 m3 _ m H3 _ (l1.trans l3) (hw.bound (by decide)) (fun y m' H' hy hh hw'=>?_) rfl⟩
   rw [show IntKind.wrap .i64 ((i:Int)+1)=((i+1:Nat):Int) by simp only [big] at hbb;rw [u5 (by omega) (by omega)];omega]
   refine hnx _ _ ⟨l3.trans hh,i+1,y.A9.faddr,m',by omega,by rw [hy],?_⟩ (by dsimp only;omega)
   rw [a7Y _ ht,← List.append_assoc]
   exact hw.trans hw'
  ·obtain rfl:i=xs.length:=by omega
   rw [hbl,List.take_length] at hw
   exact j2 ad m H3 l3 hw
 refine Q9 (fun st H'=>Hle H1 H'∧∃(i:Nat)(ad:Option Addr)(m:BL),i≤q.decls.length∧st=((i:Int),ad,ib m,(0:Int))∧Wt BB [] ((q.decls.take i).map (declT Lib.itoa)).flatten m) (fun st=>q.decls.length-st.1.toNat)
  ⟨Hle.refl _,0,none,[],Nat.zero_le _,rfl,Wt.nil (by decide)⟩ ?_
 rintro st H3 next ⟨l3,i,ad,m,hi,rfl,hw⟩ hnx
 dsimp only
 unfold X7
 refine ⟨fun qq=>?_,fun qq=>?_⟩
 ·obtain ⟨z,hz⟩:=A0 (l:=q.decls) (i:=i) (by omega)
  obtain ⟨m1,m2⟩:=hmd z (List.mem_of_getElem? hz)
  have hname:=m1.name
  have hsz:=b3c m2
  have fin:∀(y:c5)(m':BL)(H':Hp),y.fdeep=0→Hle H3 H'→Wt BB m (declT Lib.itoa z) m'→L2 p.G1 (p.G1.n:Int) (i:Int) y.A9.faddr (ib m') y.fdeep p H' next K:=by
   intro y m' H' hy hh hw'
   unfold L2
   rw [show IntKind.wrap .i64 ((i:Int)+1)=((i+1:Nat):Int) by simp only [big] at hdb;rw [u5 (by omega) (by omega)];omega]
   refine hnx _ _ ⟨l3.trans hh,i+1,y.A9.faddr,m',by omega,by rw [hy],?_⟩ (by dsimp only;omega)
   rw [b2y hz]
   exact hw.trans hw'
  refine ⟨by omega,by omega,z,(hd.2 i z hz).le (l1.trans l3),fun z0=>?_,fun z0=>?_⟩
  ·intro s c hc hs _
   refine a8P (d:=0) (by decide) hs (allc (by decide) (allc hname (allc (by decide) c0i))) (by simp) _ m c _ (Hle.refl _) (hw.bound (by decide)) (fun y m' H' hy hh hw'=>fin y m' H' hy (hc.trans hh) ?_) rfl
   unfold declT
   rw [if_pos z0]
   simpa using hw'
  ·refine b7M (hP.le (l1.trans l3)) hsz.1 (by omega) ?_
   intro s c hc hs _
   refine a8P (d:=0) (by decide) hs (allc (by decide) (allc hname (allc (by decide) (allc (Nat.le_trans (b6I hsz.1 (by omega)) (by decide)) (allc (by decide) c0i))))) (by simp) _ m c _ (Hle.refl _) (hw.bound (by decide)) (fun y m' H' hy hh hw'=>fin y m' H' hy (hc.trans hh) ?_) rfl
   unfold declT
   rw [if_neg z0]
   simpa [c0E] using hw'
 ·obtain rfl:i=q.decls.length:=by omega
  rw [List.take_length] at hw
  exact j1 ad m H3 l3 hw
theorem a0u{xs l:BL}{d:Nat}(hd:d≤1000)(hl:l.length≤1000000000000)(hx:xs.length≤10000000000000){K:d4→Hp→Prop}(h:∀ys,Wt 10000000000000 xs (lineT d l) ys→K ⟨bS ys⟩ H):m0 ⟨bS xs⟩ d (bS l) H K:=by
 refine a4t _ _ _ ?_
 unfold W3
 simp only [J4]
 refine ⟨fun c=>h xs (Wt.full (by unfold lim;omega) hx),fun c=>?_⟩
 have hrl:∀i:Nat,((List.replicate i ([32,32]:BL)).flatten).length=2*i:=fun i=>by simp [Nat.mul_comm]
 refine Q9 (fun st H'=>H'=H∧∃i:Nat,i≤d∧st=(bS ((List.replicate i ([32,32]:BL)).flatten++l),(i:Int),⟨bS xs⟩)) (fun st=>d-st.2.1.toNat) ⟨rfl,0,Nat.zero_le _,rfl⟩ ?_
 rintro st H1 next ⟨rfl,i,hi,rfl⟩ hnx
 dsimp only
 have hri:=hrl i
 unfold R8
 refine ⟨fun q=>⟨?_,?_⟩,fun q=>?_⟩
 ·rw [J4,List.length_append,hri];show 2+_≤_;omega
 ·rw [show (⟨#[32,32]⟩:ByteArray)=bS [32,32] from rfl,O6,show IntKind.wrap .i64 ((i:Int)+1)=((i+1:Nat):Int) by rw [u5 (by omega) (by omega)];omega]
  exact hnx _ _ ⟨rfl,i+1,by omega,by rw [List.replicate_succ,List.flatten_cons,List.append_assoc]⟩ (by dsimp only;omega)
 ·obtain rfl:i=d:=by omega
  unfold L9
  rw [show (⟨#[10]⟩:ByteArray)=bS [10] from rfl]
  simp only [O6,J4,List.length_append,hri,List.length_cons,List.length_nil]
  refine ⟨by omega,by omega,h _ ?_⟩
  have hw:=Wt.put (B:=10000000000000) (xs:=xs) (s:=lineT i l) hx (by unfold lim lineT;simp only [List.length_append,hri,List.length_cons,List.length_nil];omega)
  unfold putW at hw
  rw [if_neg (by unfold lim;omega)] at hw
  unfold lineT at hw ⊢
  simpa using hw
theorem b5t:∀(N:Nat){s:Sl}{zs:List i6}{va:List PT}{d:Nat},cTs va≤N→cTs va≤4096→SlH H 6 d7 s zs→zs.length≤big→B9 (SH H) zs va→formTs va=true→(∀t∈va,Sm t)→dpTs 64 va ((d+1:Nat):Int)→
  ∀(xs:BL)(H1:Hp)(K:d4→Hp→Prop),Hle H H1→xs.length≤10000000000000→(∀ys H',Hle H1 H'→Wt 10000000000000 xs (stxs Lib.itoa d va).flatten ys→K ⟨bS ys⟩ H')→u9 ⟨bS xs⟩ s d H1 K:=by
 intro N
 induction N using Nat.strongRecOn with
 | _ N IH=>
 intro s zs va d hN hc4 hs hzb hrel hfm hSm hdp xs H1 K hle hx k
 refine a4k _ _ _ ?_
 unfold V4
 have hsn:=hs.1
 have hrl:=hrel.1
 refine Q9 (fun st H'=>Hle H1 H'∧∃(i:Nat)(m:BL),i≤zs.length∧st=((i:Int),⟨bS m⟩)∧Wt 10000000000000 xs (stxs Lib.itoa d (va.take i)).flatten m) (fun st=>zs.length-st.1.toNat)
  ⟨Hle.refl _,0,xs,Nat.zero_le _,rfl,by rw [List.take_zero,stxs];exact Wt.nil hx⟩ ?_
 rintro st H2 next ⟨l2,i,m,hi,rfl,hw⟩ hnx
 dsimp only
 unfold Q8
 simp only [J4]
 have hmb:=hw.bound (by decide)
 refine ⟨fun qq=>?_,fun qq=>?_⟩
 ·simp only [Bool.and_eq_true,decide_eq_true_eq] at qq
  obtain ⟨z,hz⟩:=A0 (l:=zs) (i:=i) (by omega)
  obtain ⟨t,ht,hSH⟩:=hrel.get hz
  have htm:=List.mem_of_getElem? ht
  have ht4:=a4U htm
  have hSt:=hSm t htm
  have hft:=a4s hfm htm
  have hdt:=a8R hdp htm
  refine ⟨by omega,by omega,z,(hs.2 i z hz).le (hle.trans l2),?_⟩
  have fin0:∀(ys:BL)(H':Hp),Hle H2 H'→Wt 10000000000000 m (stx Lib.itoa d t) ys→k7 s (d:Int) (i:Int) ⟨bS ys⟩ H' next K:=by
   intro ys H' hh hw'
   unfold k7
   rw [show IntKind.wrap .i64 ((i:Int)+1)=((i+1:Nat):Int) by simp only [big] at hzb;rw [u5 (by omega) (by omega)];omega]
   exact hnx _ _ ⟨l2.trans hh,i+1,ys,by omega,rfl,by rw [a7Y _ ht];exact hw.trans hw'⟩ (by dsimp only;omega)
  have hl2:=hle.trans l2
  cases hSH with
  | @mk _ xs2 ts ys us zs2 bs vb wb hse hbe hre hsc hbc hrc hst hbt hlt hrt hsb hbb hlb hrb=>
  cases hSt with | mk hsm hss=>
  rw [formT,Bool.and_eq_true] at hft
  obtain ⟨hf,hfs⟩:=hft
  rw [dpT] at hdt
  obtain ⟨hd64,hdt⟩:=hdt
  have hd2:d≤1000:=by omega
  have hfc:=a8F (show formS z.b8 z.f4 (ts.length:Int) (us.length:Int) (vb.length:Int) (wb.length:Int)=true from hf)
  have hname:z.f4.size≤1048576:=hsm.1
  have hnl:z.f4.data.toList.length=z.f4.size:=by rw [Array.length_toList];rfl
  have hn:(z.f0.n:Int)=(ts.length:Int):=by have:=hse.1;have:=hre.1;omega
  have hm:(z.m7.n:Int)=(us.length:Int):=by have:=hsc.1;have:=hrc.1;omega
  have hen:(z.A6.n:Int)=(wb.length:Int):=by have:=hsb.1;omega
  rw [M9,M9,M9,Bool.and_eq_true,Bool.and_eq_true,Bool.and_eq_true] at hfs
  rw [a3g,a3g,a3g] at hdt
  rw [cT,a6R,a6R,a6R] at ht4
  rw [stx] at fin0
  have kidE:∀(i:Nat)(t:PT),ts[i]? = some t→formT t=true→∃v,EltH H z.f0 i 4 (c7 v)∧(tx Lib.itoa t).length≤100000000000∧∀(H1:Hp)(K:ByteArray→Hp→Prop),Hle H H1→(∀H',Hle H1 H'→K (bS (tx Lib.itoa t)) H')→o9 v H1 K:=fun i t ht hft=>by
   obtain ⟨v,hv⟩:=A0 (l:=xs2) (i:=i) (by have:=t8 ht;have:=hre.1;omega)
   have hmem:=List.mem_of_getElem? ht
   have hS:=hss t (List.mem_append_right _ (List.mem_append_left _ hmem))
   have h1:=a4U hmem
   have h2:=a6T t hft hS
   exact ⟨v,hse.2 i v hv,by omega,b2x (hre.2 i v t hv ht) hft hS (by omega)⟩
  have kidC:∀(t:PT),us=[t]→∃v,EltH H z.m7 0 4 (c9 v)∧(tx Lib.itoa t).length≤100000000000∧∀(H1:Hp)(K:ByteArray→Hp→Prop),Hle H H1→(∀H',Hle H1 H'→K (bS (tx Lib.itoa t)) H')→u0 v H1 K:=fun t hu=>by
   subst hu
   obtain ⟨v,hv⟩:=A0 (l:=ys) (i:=0) (by have:=hrc.1;simp only [List.length_cons,List.length_nil] at this;omega)
   have hft:=hfs.1
   rw [formTs,Bool.and_eq_true] at hft
   have hS:=hss t (List.mem_append_left _ (List.mem_singleton_self _))
   have h1:=a4U (List.mem_singleton_self t)
   have h2:=a6T t hft.1 hS
   exact ⟨v,hsc.2 0 v hv,by omega,b6n (hrc.2 0 v t hv rfl) hft.1 hS (by omega)⟩
  have blk1:∀(xs:BL)(H1:Hp)(K:d4→Hp→Prop),Hle H H1→xs.length≤10000000000000→(∀ys H',Hle H1 H'→Wt 10000000000000 xs (stxs Lib.itoa (d+1) vb).flatten ys→K ⟨bS ys⟩ H')→u9 ⟨bS xs⟩ z.D1 ((d+1:Nat):Int) H1 K:=
   IH (cTs vb) (by omega) (Nat.le_refl _) (by omega) hst hbt ⟨hlt,hrt⟩ hfs.2.2.1 (fun t h=>hss t (by simp [h])) hdt.2.2.1
  have blk2:∀(xs:BL)(H1:Hp)(K:d4→Hp→Prop),Hle H H1→xs.length≤10000000000000→(∀ys H',Hle H1 H'→Wt 10000000000000 xs (stxs Lib.itoa (d+1) wb).flatten ys→K ⟨bS ys⟩ H')→u9 ⟨bS xs⟩ z.A6 ((d+1:Nat):Int) H1 K:=
   IH (cTs wb) (by omega) (Nat.le_refl _) (by omega) hsb hbb ⟨hlb,hrb⟩ hfs.2.2.2 (fun t h=>hss t (by simp [h])) hdt.2.2.2
  have fin:∀(t:BL)(ys:BL)(H':Hp),Hle H2 H'→Wt 10000000000000 m t ys→t=labS d (.stmt z.b8 z.f4 ts.length us.length vb.length wb.length) (txs Lib.itoa (us++(ts++(vb++wb)))) (stxs Lib.itoa (d+1) (us++(ts++(vb++wb))))→k7 s (d:Int) (i:Int) ⟨bS ys⟩ H' next K:=fun t ys H' h1 h2 h3=>fin0 ys H' h1 (h3 ▸ h2)
  have hwd:IntKind.wrap .i64 ((d:Int)+1)=((d+1:Nat):Int):=by rw [u5 (by omega) (by omega)];omega
  refine ⟨fun e1=>?_,fun n1=>⟨fun e2=>?_,fun n2=>⟨fun e5=>?_,fun n5=>⟨fun e6=>?_,fun n6=>⟨fun e7=>?_,fun n7=>⟨fun e4=>?_,fun n4=>⟨fun e3=>?_,fun n3=>?_⟩⟩⟩⟩⟩⟩⟩
  ·obtain ⟨t1,rfl⟩:=a1o (l:=ts) (by omega)
   obtain rfl:us=[]:=List.length_eq_zero_iff.1 (by omega)
   have hft:=hfs.2.1
   rw [formTs,Bool.and_eq_true] at hft
   obtain ⟨v,hv,hlen,hw1⟩:=kidE 0 t1 rfl hft.1
   refine ⟨by show z.f4.size+3≤_;omega,by omega,by rw [hn];simp only [List.length_cons,List.length_nil];omega,v,hv.le hl2,hw1 H2 _ hl2 fun H3 h3=>?_⟩
   rw [a6S z.f4,show (⟨#[32,61,32]⟩:ByteArray)=bS [32,61,32] from rfl,show (⟨#[59]⟩:ByteArray)=bS [59] from rfl]
   simp only [O6,J4,List.length_append,List.length_cons,List.length_nil]
   refine ⟨by omega,by omega,a0u hd2 (by simp only [List.length_append,List.length_cons,List.length_nil];omega) hmb fun y hy=>fin _ y H3 h3 hy ?_⟩
   rw [labS,if_pos e1,List.nil_append,List.cons_append,txs];rfl
  ·obtain ⟨t1,t2,rfl⟩:=a5b (l:=ts) (by omega)
   obtain rfl:us=[]:=List.length_eq_zero_iff.1 (by omega)
   have hft:=hfs.2.1
   rw [formTs,formTs,Bool.and_eq_true,Bool.and_eq_true] at hft
   obtain ⟨v,hv,hlen,hw1⟩:=kidE 0 t1 rfl hft.1
   obtain ⟨v2,hv2,hlen2,hw2⟩:=kidE 1 t2 rfl hft.2.1
   refine ⟨by show z.f4.size+1≤_;omega,by omega,by rw [hn];simp only [List.length_cons,List.length_nil];omega,v,hv.le hl2,by omega,by rw [hn];simp only [List.length_cons,List.length_nil];omega,v2,hv2.le hl2,hw1 H2 _ hl2 fun H3 h3=>?_⟩
   rw [a6S z.f4,show (⟨#[91]⟩:ByteArray)=bS [91] from rfl,show (⟨#[93,32,61,32]⟩:ByteArray)=bS [93,32,61,32] from rfl,show (⟨#[59]⟩:ByteArray)=bS [59] from rfl]
   simp only [O6,J4,List.length_append,List.length_cons,List.length_nil]
   refine ⟨by omega,by omega,hw2 H3 _ (hl2.trans h3) fun H4 h4=>?_⟩
   simp only [O6,J4,List.length_append,List.length_cons,List.length_nil]
   refine ⟨by omega,by omega,a0u hd2 (by simp only [List.length_append,List.length_cons,List.length_nil];omega) hmb fun y hy=>fin _ y H4 (h3.trans h4) hy ?_⟩
   rw [labS,if_neg n1,if_pos e2,List.nil_append,List.cons_append,List.cons_append,txs,txs];rfl
  ·obtain ⟨t1,hu⟩:=a1o (l:=us) (by omega)
   obtain ⟨v,hv,hlen,hw1⟩:=kidC t1 hu
   refine ⟨by omega,by rw [hm];omega,v,hv.le hl2,hw1 H2 _ hl2 fun H3 h3=>?_⟩
   rw [show (⟨#[97,115,115,101,114,116,32]⟩:ByteArray)=bS [97,115,115,101,114,116,32] from rfl,show (⟨#[59]⟩:ByteArray)=bS [59] from rfl]
   simp only [O6,J4,List.length_append,List.length_cons,List.length_nil]
   refine ⟨by omega,by omega,a0u hd2 (by simp only [List.length_append,List.length_cons,List.length_nil];omega) hmb fun y hy=>fin _ y H3 h3 hy ?_⟩
   rw [labS,if_neg n1,if_neg n2,if_neg (by omega),if_neg (by omega),if_pos e5,hu,List.singleton_append,txs];rfl
  ·obtain ⟨t1,hu⟩:=a1o (l:=us) (by omega)
   obtain ⟨v,hv,hlen,hw1⟩:=kidC t1 hu
   refine ⟨by omega,by rw [hm];omega,v,hv.le hl2,hw1 H2 _ hl2 fun H3 h3=>?_⟩
   rw [show (⟨#[97,115,115,117,109,101,32]⟩:ByteArray)=bS [97,115,115,117,109,101,32] from rfl,show (⟨#[59]⟩:ByteArray)=bS [59] from rfl]
   simp only [O6,J4,List.length_append,List.length_cons,List.length_nil]
   refine ⟨by omega,by omega,a0u hd2 (by simp only [List.length_append,List.length_cons,List.length_nil];omega) hmb fun y hy=>fin _ y H3 h3 hy ?_⟩
   rw [labS,if_neg n1,if_neg n2,if_neg (by omega),if_neg (by omega),if_neg n5,if_pos e6,hu,List.singleton_append,txs];rfl
  ·rw [show (⟨#[115,107,105,112,59]⟩:ByteArray)=bS [115,107,105,112,59] from rfl]
   refine a0u hd2 (by decide) hmb fun y hy=>fin _ y H2 (Hle.refl _) hy ?_
   rw [labS,if_neg n1,if_neg n2,if_neg (by omega),if_neg (by omega),if_neg n5,if_neg n6]
  ·obtain ⟨t1,rfl⟩:=a1o (l:=us) (by omega)
   obtain rfl:ts=[]:=List.length_eq_zero_iff.1 (by omega)
   obtain ⟨v,hv,hlen,hw1⟩:=kidC t1 rfl
   refine ⟨by omega,by rw [hm];simp only [List.length_cons,List.length_nil];omega,v,hv.le hl2,hw1 H2 _ hl2 fun H3 h3=>?_⟩
   rw [show (⟨#[119,104,105,108,101,32]⟩:ByteArray)=bS [119,104,105,108,101,32] from rfl,show (⟨#[32,123]⟩:ByteArray)=bS [32,123] from rfl,show (⟨#[125]⟩:ByteArray)=bS [125] from rfl]
   simp only [O6,J4,List.length_append,List.length_cons,List.length_nil]
   rw [hwd]
   refine ⟨by omega,by omega,a0u hd2 (by simp only [List.length_append,List.length_cons,List.length_nil];omega) hmb fun y hy=>blk1 y H3 _ (hl2.trans h3) (hy.bound (by decide)) fun y4 H4 h4 hy4=>a0u hd2 (by decide) (hy4.bound (by decide)) fun y5 hy5=>fin _ y5 H4 (h3.trans h4) ((hy.trans hy4).trans hy5) ?_⟩
   rw [labS,if_neg n1,if_neg n2,if_neg (by omega),if_pos e4,a7x Lib.itoa (d+1) [t1] [] vb wb,List.singleton_append,txs]
   simp
  ·obtain ⟨t1,rfl⟩:=a1o (l:=us) (by omega)
   obtain rfl:ts=[]:=List.length_eq_zero_iff.1 (by omega)
   obtain ⟨v,hv,hlen,hw1⟩:=kidC t1 rfl
   have hj3:∀(t y:BL)(H':Hp),Hle H2 H'→Wt 10000000000000 m t y→t++lineT d [125]=labS d (.stmt z.b8 z.f4 ([]:List PT).length [t1].length vb.length wb.length) (txs Lib.itoa ([t1]++([]++(vb++wb)))) (stxs Lib.itoa (d+1) ([t1]++([]++(vb++wb))))→B5 s (d:Int) (i:Int) ⟨bS y⟩ z H' next K:=by
    intro t y H' hh hy ht
    unfold B5
    rw [show (⟨#[125]⟩:ByteArray)=bS [125] from rfl]
    exact a0u hd2 (by decide) (hy.bound (by decide)) fun y5 hy5=>fin _ y5 H' hh (hy.trans hy5) ht
   have hlen2:=a2z Lib.itoa (d+1) ([t1]++([]++(vb++wb)))
   have hlen3:([t1]++([]++(vb++wb))).length=1+vb.length+wb.length:=by simp;omega
   have hmid:=a7x Lib.itoa (d+1) [t1] [] vb wb
   have hend:=b2t Lib.itoa (d+1) [t1] [] vb wb
   refine ⟨by omega,by rw [hm];simp only [List.length_cons,List.length_nil];omega,v,hv.le hl2,hw1 H2 _ hl2 fun H3 h3=>?_⟩
   rw [show (⟨#[105,102,32]⟩:ByteArray)=bS [105,102,32] from rfl,show (⟨#[32,123]⟩:ByteArray)=bS [32,123] from rfl,show (⟨#[125,32,101,108,115,101,32,123]⟩:ByteArray)=bS [125,32,101,108,115,101,32,123] from rfl]
   simp only [O6,J4,List.length_append,List.length_cons,List.length_nil]
   rw [hwd]
   refine ⟨by omega,by omega,a0u hd2 (by simp only [List.length_append,List.length_cons,List.length_nil];omega) hmb fun y hy=>blk1 y H3 _ (hl2.trans h3) (hy.bound (by decide)) fun y4 H4 h4 hy4=>⟨fun c=>?_,fun c=>?_⟩⟩
   ·refine a0u hd2 (by decide) (hy4.bound (by decide)) fun y5 hy5=>blk2 y5 H4 _ ((hl2.trans h3).trans h4) (hy5.bound (by decide)) fun y6 H6 h6 hy6=>hj3 _ y6 H6 ((h3.trans h4).trans h6) (((hy.trans hy4).trans hy5).trans hy6) ?_
    rw [labS,if_neg n1,if_neg n2,if_pos e3,hmid,hend,hlen2,hlen3,if_neg (by simp only [List.length_cons,List.length_nil];omega),List.singleton_append,txs]
    simp
   ·refine hj3 _ y4 H4 (h3.trans h4) (hy.trans hy4) ?_
    rw [labS,if_neg n1,if_neg n2,if_pos e3,hmid,hlen2,hlen3,if_pos (by simp only [List.length_cons,List.length_nil];omega),List.singleton_append,txs]
    simp
  ·omega
 ·simp only [Bool.and_eq_false_iff,decide_eq_false_iff_not] at qq
  by_cases hi2:i=zs.length
  ·subst hi2
   rw [hrl,List.take_length] at hw
   exact k m H2 l2 hw
  ·refine k m H2 l2 ?_
   have hsplit:(stxs Lib.itoa d va).flatten=(stxs Lib.itoa d (va.take i)).flatten++(stxs Lib.itoa d (va.drop i)).flatten:=by
    rw [←List.flatten_append,← a2y,List.take_append_drop]
   rw [hsplit]
   exact hw.trans (Wt.full (by unfold lim;omega) hmb)
theorem b5u{p:l9}{q:PP}(hp:PH H p q)(hsm:q.Sm){K:ByteArray→Int→Hp→Prop}(h:∀H',Hle H H'→K (prS q).1 (prS q).2 H'):a0D p H K:=by
 refine a5s _ ?_
 unfold a0I
 refine b5r hp ⟨fun e=>?_,fun e=>?_⟩
 ·have:=h H (Hle.refl _)
  unfold prS at this
  rwa [if_neg e] at this
 obtain ⟨hcnt,hdp,hfm,_⟩:=(a8Q _).1 e
 have hq:prS q=if lim < (progT Lib.itoa q).length then (⟨#[]⟩,50) else (bS (progT Lib.itoa q),0):=by unfold prS;rw [if_pos e]
 obtain ⟨hd,hdb,xs,hb,hbb,hbr⟩:=hp
 have hmd:∀d∈q.decls,Sm (dT d)∧formT (dT d)=true:=fun d hd=>by
  have hm:dT d∈q.nodes:=List.mem_append_left _ (List.mem_map.2 ⟨d,hd,rfl⟩)
  exact ⟨hsm _ hm,a4s hfm hm⟩
 have hdn:=hd.1
 have j1:∀(m:BL)(H2:Hp),Hle H H2→Wt 10000000000000 [] (q.decls.map (declT Lib.itoa)).flatten m→K6 ⟨bS m⟩ p H2 K:=by
  intro m H2 l2 hw
  unfold PP.nodes at hcnt hfm hdp
  rw [a6R] at hcnt
  rw [M9,Bool.and_eq_true] at hfm
  rw [a3g] at hdp
  unfold K6
  refine b5t (cTs q.body) (d:=0) (Nat.le_refl _) (by omega) hb hbb hbr hfm.2 (fun t ht=>hsm t (List.mem_append_right _ ht)) hdp.2 m H2 _ l2 (hw.bound (by decide)) fun ys H3 h3 hy=>?_
  have hk:=h H3 (l2.trans h3)
  rw [hq] at hk
  have hw2:=hw.trans hy
  unfold Wt at hw2
  rw [List.length_nil,Nat.zero_add,List.nil_append] at hw2
  simp only [J4]
  refine ⟨fun c=>?_,fun c=>?_⟩
  ·by_cases hc:(progT Lib.itoa q).length≤lim
   ·unfold progT at hc
    rw [if_pos hc] at hw2;rw [hw2] at c;unfold lim at hc;omega
   ·rw [if_pos (by omega)] at hk;exact hk
  ·by_cases hc:(progT Lib.itoa q).length≤lim
   ·rw [if_neg (by omega)] at hk
    unfold progT at hc hk
    rw [if_pos hc] at hw2;rw [hw2];exact hk
   ·unfold progT at hc
    rw [if_neg hc] at hw2;unfold lim at hw2;omega
 refine Q9 (fun st H'=>Hle H H'∧∃(i:Nat)(m:BL),i≤q.decls.length∧st=((i:Int),⟨bS m⟩)∧Wt 10000000000000 [] ((q.decls.take i).map (declT Lib.itoa)).flatten m) (fun st=>q.decls.length-st.1.toNat)
  ⟨Hle.refl _,0,[],Nat.zero_le _,rfl,Wt.nil (by decide)⟩ ?_
 rintro st H3 next ⟨l3,i,m,hi,rfl,hw⟩ hnx
 dsimp only
 unfold Y3
 refine ⟨fun qq=>?_,fun qq=>?_⟩
 ·obtain ⟨z,hz⟩:=A0 (l:=q.decls) (i:=i) (by omega)
  obtain ⟨m1,m2⟩:=hmd z (List.mem_of_getElem? hz)
  have hname:=m1.name
  have hnl:z.f4.data.toList.length=z.f4.size:=by rw [Array.length_toList];rfl
  have hsz:=b3c m2
  have hmb:=hw.bound (by decide)
  have fin:∀(t m':BL)(H':Hp),Hle H3 H'→t=declT Lib.itoa z→Wt 10000000000000 m t m'→E7 (i:Int) ⟨bS m'⟩ p H' next K:=by
   intro t m' H' hh ht hw'
   subst ht
   unfold E7
   rw [show IntKind.wrap .i64 ((i:Int)+1)=((i+1:Nat):Int) by simp only [big] at hdb;rw [u5 (by omega) (by omega)];omega]
   exact hnx _ _ ⟨l3.trans hh,i+1,m',by omega,rfl,by rw [b2y hz];exact hw.trans hw'⟩ (by dsimp only;omega)
  refine ⟨by omega,by omega,z,(hd.2 i z hz).le l3,fun z0=>?_,fun z0=>?_⟩
  ·rw [a6S z.f4,show (⟨#[118,97,114,32]⟩:ByteArray)=bS [118,97,114,32] from rfl,show (⟨#[59]⟩:ByteArray)=bS [59] from rfl]
   simp only [O6,J4,List.length_append,List.length_cons,List.length_nil]
   refine ⟨by omega,by omega,a0u (d:=0) (by decide) (by simp only [List.length_append,List.length_cons,List.length_nil];omega) hmb fun y hy=>fin _ y H3 (Hle.refl _) ?_ hy⟩
   unfold declT
   rw [if_pos z0]
  ·have hil:=Lib.itoa_length_le z.L3 (by omega) (by omega)
   rw [a6S z.f4,show (⟨#[97,114,114,97,121,32]⟩:ByteArray)=bS [97,114,114,97,121,32] from rfl,show (⟨#[91]⟩:ByteArray)=bS [91] from rfl,show (⟨#[93,59]⟩:ByteArray)=bS [93,59] from rfl]
   simp only [O6,J4,List.length_append,List.length_cons,List.length_nil]
   refine ⟨by omega,by omega,b0j hsz.1 (by omega) fun H4 h4=>?_⟩
   rw [show itS z.L3=bS (Lib.itoa z.L3) from rfl]
   simp only [O6,J4,List.length_append,List.length_cons,List.length_nil]
   refine ⟨by omega,by omega,a0u (d:=0) (by decide) (by simp only [List.length_append,List.length_cons,List.length_nil];omega) hmb fun y hy=>fin _ y H4 h4 ?_ hy⟩
   unfold declT
   rw [if_neg z0]
 ·obtain rfl:i=q.decls.length:=by omega
  rw [List.take_length] at hw
  exact j1 m H3 l3 hw
end
end Go.Proofs.YtnhdnncbjddmjaaGreatDoor
