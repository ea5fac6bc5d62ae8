/- Printing: how long texts are; the document's expressions and conditions. Contracts off the printed formulas. -/
import Derived.Test.YtoflkliecagjcaaGreatDooryBI5
import Derived.Test.YtoflkliecagjcaaGreatDooryBJ4
namespace Go.Proofs.YtoflkliecagjcaaGreatDoor
open Go.RowKit
set_option maxRecDepth 100000
set_option maxHeartbeats 2000000
def bS(l:BL):ByteArray:=⟨l.toArray⟩
section
variable {H:Hp}
end
def prS(q:PP):ByteArray×Int:=if toldS q.nodes=0 then (if lim < (progT Lib.itoa q).length then (⟨#[]⟩,50) else (bS (progT Lib.itoa q),0)) else (⟨#[]⟩,toldS q.nodes)
theorem d3L:∀p∈([]:List ByteArray),p.size≤1048576:=fun p h=>by cases h
theorem allc{a:ByteArray}{l:List ByteArray}(h:a.size≤1048576)(t:∀p∈l,p.size≤1048576):∀p∈a::l,p.size≤1048576:=fun p hp=>by
 rcases List.mem_cons.1 hp with rfl | hp
 ·exact h
 ·exact t p hp
theorem c4V{α:Type}{f:α→BL}{ds:List α}{i:Nat}{d:α}(h:ds[i]? = some d):((ds.take (i+1)).map f).flatten=((ds.take i).map f).flatten++f d:=by
 obtain ⟨hlt,rfl⟩:=List.getElem?_eq_some_iff.1 h
 rw [List.take_succ_eq_append_getElem hlt,List.map_append,List.flatten_append]
 simp
theorem Sm.name{d:i6}(h:Sm (dT d)):d.o8.size≤1048576:=by
 cases h with | mk a _=>exact a.1
theorem c1u{d:i6}(h:formT (dT d)=true):0≤d.D4∧d.D4≤2147483647:=by
 unfold dT at h
 rw [formT,Bool.and_eq_true] at h
 have h1:(decide (0≤d.D4)&&decide (d.D4≤2147483647))=true:=h.1
 simpa using h1
theorem a7d:∀{ts:List PT}{t:PT},formTs ts=true→t∈ts→formT t=true
 | [],t,_,h=>by cases h
 | u::ts,t,hf,h=>by
  rw [formTs,Bool.and_eq_true] at hf
  rcases List.mem_cons.1 h with rfl | h
  ·exact hf.1
  ·exact a7d hf.2 h
theorem b9x:∀{ts:List PT}{t:PT}{n:Int},dpTs 64 ts n→t∈ts→dpT 64 t n
 | [],t,_,_,h=>by cases h
 | u::ts,t,n,hf,h=>by
  rw [dpTs] at hf
  rcases List.mem_cons.1 h with rfl | h
  ·exact hf.1
  ·exact b9x hf.2 h
section
variable {H:Hp}
theorem b4A(hT:TabsH H)(hP:PowH H){p:g9}{q:PP}(hp:PH H p q)(hsm:q.Sm){K:ByteArray→Int→Hp→Prop}(h:∀H',Hle H H'→K (prS q).1 (prS q).2 H'):T2 p H K:=by
 refine b1m _ ?_
 unfold a6Q
 refine b4e hT hp hsm fun H1 l1=>?_
 rw [show vEnd (allV q)=toldS q.nodes from b3i _]
 refine ⟨fun e=>?_,fun e=>?_⟩
 ·have:=h H1 l1
  unfold prS at this
  rwa [if_neg e] at this
 obtain ⟨hcnt,hdp,hfm,_⟩:=(b1H _).1 e
 have hq:prS q=if lim < (progT Lib.itoa q).length then (⟨#[]⟩,50) else (bS (progT Lib.itoa q),0):=by unfold prS;rw [if_pos e]
 obtain ⟨hd,hdb,xs,hb,hbb,hbr⟩:=hp
 have hmd:∀d∈q.decls,Sm (dT d)∧formT (dT d)=true:=fun d hd=>by
  have hm:dT d∈q.nodes:=List.mem_append_left _ (List.mem_map.2 ⟨d,hd,rfl⟩)
  exact ⟨hsm _ hm,a7d hfm hm⟩
 have hmb:∀t∈q.body,Sm t∧formT t=true∧dpT 64 t ((0+1:Nat):Int):=fun t ht=>by
  have hm:t∈q.nodes:=List.mem_append_right _ ht
  exact ⟨hsm _ hm,a7d hfm hm,b9x hdp hm⟩
 have hdn:=hd.1
 have hbn:=hb.1
 have hbl:=hbr.1
 have j2:∀(ad:Option Addr)(m:BL)(H2:Hp),Hle H1 H2→Wt BB [] (progT Lib.itoa q) m→a0J ad (ib m) 0 p H2 K:=by
  intro ad m H2 l2 hw
  have hk:=h H2 (l1.trans l2)
  rw [hq] at hk
  unfold Wt at hw
  rw [List.length_nil,Nat.zero_add,List.nil_append] at hw
  unfold a0J
  refine b6d ⟨fun c=>?_,fun c=>b6R fun y c'=>?_⟩
  ·have c:=of_decide_eq_true c
   by_cases hc:(progT Lib.itoa q).length≤lim
   ·rw [if_pos hc] at hw;rw [hw] at c;unfold lim at hc;omega
   ·rw [if_pos (by omega)] at hk;exact hk
  ·have c:=of_decide_eq_false c
   by_cases hc:(progT Lib.itoa q).length≤lim
   ·rw [if_pos hc] at hw;rw [if_neg (by omega)] at hk;rw [hw];exact hk
   ·rw [if_neg hc] at hw;unfold lim at hw;omega
 have j1:∀(ad:Option Addr)(m:BL)(H2:Hp),Hle H1 H2→Wt BB [] (q.decls.map (declT Lib.itoa)).flatten m→a0K ad (ib m) 0 p H2 K:=by
  intro ad m H2 l2 hw
  unfold a0K
  refine U6 (fun st H'=>Hle H1 H'∧∃(i:Nat)(ad:Option Addr)(m:BL),i≤xs.length∧st=((i:Int),ad,ib m,(0:Int))∧Wt BB [] ((q.decls.map (declT Lib.itoa)).flatten++(stxs Lib.itoa 0 (q.body.take i)).flatten) m) (fun st=>xs.length-st.1.toNat)
   ⟨l2,0,ad,m,Nat.zero_le _,rfl,by rw [List.take_zero,stxs,List.flatten_nil,List.append_nil];exact hw⟩ ?_
  rintro st H3 next ⟨l3,i,ad,m,hi,rfl,hw⟩ hnx
  dsimp only
  unfold a2V
  refine ⟨fun qq=>?_,fun qq=>?_⟩
  ·obtain ⟨z,hz⟩:=O9 (l:=xs) (i:=i) (by omega)
   obtain ⟨t,ht,hSH⟩:=hbr.get hz
   obtain ⟨m1,m2,m3⟩:=hmb t (List.mem_of_getElem? ht)
   refine ⟨by omega,by omega,z,(hb.2 i z hz).le (l1.trans l3),c9R hP hSH 0 m2 m1 m3 _ m H3 _ (l1.trans l3) (hw.bound (by decide)) (fun y m' H' hy hh hw'=>?_) rfl⟩
   rw [show IntKind.wrap .i64 ((i:Int)+1)=((i+1:Nat):Int) by simp only [big] at hbb;rw [a0e (by omega) (by omega)];omega]
   refine hnx _ _ ⟨l3.trans hh,i+1,y.G8.faddr,m',by omega,by rw [hy],?_⟩ (by dsimp only;omega)
   rw [b7j _ ht,← List.append_assoc]
   exact hw.trans hw'
  ·obtain rfl:i=xs.length:=by omega
   rw [hbl,List.take_length] at hw
   exact j2 ad m H3 l3 hw
 refine U6 (fun st H'=>Hle H1 H'∧∃(i:Nat)(ad:Option Addr)(m:BL),i≤q.decls.length∧st=((i:Int),ad,ib m,(0:Int))∧Wt BB [] ((q.decls.take i).map (declT Lib.itoa)).flatten m) (fun st=>q.decls.length-st.1.toNat)
  ⟨Hle.refl _,0,none,[],Nat.zero_le _,rfl,Wt.nil (by decide)⟩ ?_
 rintro st H3 next ⟨l3,i,ad,m,hi,rfl,hw⟩ hnx
 dsimp only
 unfold a2W
 refine ⟨fun qq=>?_,fun qq=>?_⟩
 ·obtain ⟨z,hz⟩:=O9 (l:=q.decls) (i:=i) (by omega)
  obtain ⟨m1,m2⟩:=hmd z (List.mem_of_getElem? hz)
  have hname:=m1.name
  have hsz:=c1u m2
  have fin:∀(y:c7)(m':BL)(H':Hp),y.fdeep=0→Hle H3 H'→Wt BB m (declT Lib.itoa z) m'→X7 p.a0f (p.a0f.n:Int) (i:Int) y.G8.faddr (ib m') y.fdeep p H' next K:=by
   intro y m' H' hy hh hw'
   unfold X7
   rw [show IntKind.wrap .i64 ((i:Int)+1)=((i+1:Nat):Int) by simp only [big] at hdb;rw [a0e (by omega) (by omega)];omega]
   refine hnx _ _ ⟨l3.trans hh,i+1,y.G8.faddr,m',by omega,by rw [hy],?_⟩ (by dsimp only;omega)
   rw [c4V hz]
   exact hw.trans hw'
  refine ⟨by omega,by omega,z,(hd.2 i z hz).le (l1.trans l3),fun z0=>?_,fun z0=>?_⟩
  ·intro s c hc hs _
   refine b4y (d:=0) (by decide) hs (allc (by decide) (allc hname (allc (by decide) d3L))) (by simp) _ m c _ (Hle.refl _) (hw.bound (by decide)) (fun y m' H' hy hh hw'=>fin y m' H' hy (hc.trans hh) ?_) rfl
   unfold declT
   rw [if_pos z0]
   simpa using hw'
  ·refine c9i (hP.le (l1.trans l3)) hsz.1 (by omega) ?_
   intro s c hc hs _
   refine b4y (d:=0) (by decide) hs (allc (by decide) (allc hname (allc (by decide) (allc (Nat.le_trans (c7G hsz.1 (by omega)) (by decide)) (allc (by decide) d3L))))) (by simp) _ m c _ (Hle.refl _) (hw.bound (by decide)) (fun y m' H' hy hh hw'=>fin y m' H' hy (hc.trans hh) ?_) rfl
   unfold declT
   rw [if_neg z0]
   simpa [d4w] using hw'
 ·obtain rfl:i=q.decls.length:=by omega
  rw [List.take_length] at hw
  exact j1 ad m H3 l3 hw
end
theorem c7d{k n a:Int}{s:ByteArray}(h:formE k n s a=true):(k≠1→n=0)∧(¬(k=2∨k=4)→s=⟨#[]⟩)∧((k=1∧0≤n∧a=0)∨(k=2∧a=0)∨(k=3∧a=0)∨(k=4∧a=1)∨(k=5∧a=1)∨((k=6∨k=7∨k=8∨k=9∨k=10)∧a=2)):=by
 unfold formE at h
 split at h
 ·cases h
 rename_i c
 simp only [Bool.or_eq_true,Bool.and_eq_true,Bool.not_eq_true',decide_eq_false_iff_not,not_or,not_and,Bool.or_eq_false_iff,Classical.not_not] at c
 refine ⟨fun q=>c.1 q,fun q=>c.2 ⟨fun e=>q (.inl e),fun e=>q (.inr e)⟩,?_⟩
 (repeat' split at h)<;>first | (cases h;done) | (simp only [Bool.and_eq_true,decide_eq_true_eq] at h;omega)
theorem c7e{k op e p:Int}(h:formC k op e p=true):((k=1∨k=2)∧op=0∧e=0∧p=0)∨(k=3∧1≤op∧op≤6∧e=2∧p=0)∨(k=4∧op=0∧e=0∧p=1)∨((k=5∨k=6)∧op=0∧e=0∧p=2):=by
 unfold formC at h
 (repeat' split at h)<;>first | (cases h;done) | (simp only [Bool.and_eq_true,decide_eq_true_eq] at h;omega)
theorem c7f{k:Int}{s:ByteArray}{e c t f:Nat}(h:formS k s e c t f=true):((k=1∧e=1∧c=0∨k=2∧e=2∧c=0)∧t=0∧f=0)∨(s=⟨#[]⟩∧(k=3∧e=0∧c=1∨k=4∧e=0∧c=1∧f=0∨(k=5∨k=6)∧e=0∧c=1∧t=0∧f=0∨k=7∧e=0∧c=0∧t=0∧f=0)):=by
 unfold formS at h
 split at h
 ·simp only [Bool.and_eq_true,Bool.not_eq_true',decide_eq_false_iff_not,decide_eq_true_eq] at h;exact .inl (by omega)
 split at h
 ·simp only [Bool.and_eq_true,Bool.not_eq_true',decide_eq_false_iff_not,decide_eq_true_eq] at h;exact .inl (by omega)
 split at h
 ·simp only [Bool.and_eq_true,decide_eq_true_eq] at h;exact .inr ⟨h.1,by omega⟩
 split at h
 ·simp only [Bool.and_eq_true,decide_eq_true_eq] at h;exact .inr ⟨h.1.1,by omega⟩
 split at h
 ·simp only [Bool.and_eq_true,Bool.not_eq_true',decide_eq_false_iff_not,decide_eq_true_eq] at h;exact .inr ⟨h.1.1,by omega⟩
 split at h
 ·simp only [Bool.and_eq_true,Bool.not_eq_true',decide_eq_false_iff_not,decide_eq_true_eq] at h;exact .inr ⟨h.1.1,by omega⟩
 ·cases h
section
variable {H:Hp}
theorem shE{e:f8}{t:PT}(he:EH H e t):formT t=true→Sm t→XE t:=by
 induction he with
 | @mk e xs ts hs hb hl hc ih=>
  intro hf hS
  cases hS with | mk hsm hss=>
  rw [formT,Bool.and_eq_true] at hf
  obtain ⟨hf,hfs⟩:=hf
  obtain ⟨z1,z2,hfc⟩:=c7d (show formE e.d6 e.M4 e.o8 (ts.length:Int)=true from hf)
  have hnum:e.M4≤9223372036854775807:=hsm.2.2
  have kid:∀(i:Nat)(t:PT),ts[i]? = some t→formT t=true→XE t:=fun i t ht hft=>by
   obtain ⟨v,hv⟩:=O9 (l:=xs) (i:=i) (by have:=P4 ht;omega)
   exact ih i v t hv ht hft (hss t (List.mem_of_getElem? ht))
  show XE (eX e.d6 e.M4 e.o8 ts)
  generalize e.d6=k at *
  generalize e.M4=n at *
  generalize e.o8=s at *
  rcases hfc with ⟨rfl,q,a⟩ | ⟨rfl,a⟩ | ⟨rfl,a⟩ | ⟨rfl,a⟩ | ⟨rfl,a⟩ | ⟨hk,a⟩
  ·obtain rfl:ts=[]:=List.length_eq_zero_iff.1 (by omega)
   rw [z2 (by decide)];exact .num n q hnum
  ·obtain rfl:ts=[]:=List.length_eq_zero_iff.1 (by omega)
   rw [z1 (by decide)];exact .var s
  ·obtain rfl:ts=[]:=List.length_eq_zero_iff.1 (by omega)
   rw [z1 (by decide),z2 (by decide)];exact .inp
  ·obtain ⟨t1,rfl⟩:=a2G (l:=ts) (by omega)
   rw [formTs,Bool.and_eq_true] at hfs
   rw [z1 (by decide)];exact .item s t1 (kid 0 t1 rfl hfs.1)
  ·obtain ⟨t1,rfl⟩:=a2G (l:=ts) (by omega)
   rw [formTs,Bool.and_eq_true] at hfs
   rw [z1 (by decide),z2 (by decide)];exact .neg t1 (kid 0 t1 rfl hfs.1)
  ·obtain ⟨t1,t2,rfl⟩:=a8q (l:=ts) (by omega)
   rw [formTs,formTs,Bool.and_eq_true,Bool.and_eq_true] at hfs
   rw [z1 (by omega),z2 (by omega)];exact .bin k t1 t2 hk (kid 0 t1 rfl hfs.1) (kid 1 t2 rfl hfs.2.1)
theorem shC{e:i7}{t:PT}(he:CH H e t):formT t=true→Sm t→XC t:=by
 induction he with
 | @mk e xs ts ys us hs hb hr hsy hby hl hc ih=>
  intro hf hS
  cases hS with | mk hsm hss=>
  rw [formT,Bool.and_eq_true] at hf
  obtain ⟨hf,hfs⟩:=hf
  have hfc:=c7e (show formC e.d6 e.fOp (ts.length:Int) (us.length:Int)=true from hf)
  have kid:∀(i:Nat)(t:PT),us[i]? = some t→t∈ts++us→formT t=true→XC t:=fun i t ht hm hft=>by
   obtain ⟨v,hv⟩:=O9 (l:=ys) (i:=i) (by have:=P4 ht;omega)
   exact ih i v t hv ht hft (hss t hm)
  have kidE:∀(i:Nat)(t:PT),ts[i]? = some t→t∈ts++us→formT t=true→XE t:=fun i t ht hm hft=>by
   obtain ⟨v,hv⟩:=O9 (l:=xs) (i:=i) (by have:=P4 ht;have:=hr.1;omega)
   exact shE (hr.2 i v t hv ht) hft (hss t hm)
  show XC (cX e.d6 e.fOp ts us)
  generalize e.d6=k at *
  generalize e.fOp=op at *
  rcases hfc with ⟨hk,rfl,a,b⟩ | ⟨rfl,o1,o2,a,b⟩ | ⟨rfl,rfl,a,b⟩ | ⟨hk,rfl,a,b⟩
  ·obtain rfl:ts=[]:=List.length_eq_zero_iff.1 (by omega)
   obtain rfl:us=[]:=List.length_eq_zero_iff.1 (by omega)
   rcases hk with rfl | rfl
   ·exact .tru
   ·exact .fls
  ·obtain ⟨t1,t2,rfl⟩:=a8q (l:=ts) (by omega)
   obtain rfl:us=[]:=List.length_eq_zero_iff.1 (by omega)
   rw [List.append_nil,formTs,formTs,Bool.and_eq_true,Bool.and_eq_true] at hfs
   exact .cmp op t1 t2 o1 o2 (kidE 0 t1 rfl (by simp) hfs.1) (kidE 1 t2 rfl (by simp) hfs.2.1)
  ·obtain rfl:ts=[]:=List.length_eq_zero_iff.1 (by omega)
   obtain ⟨t1,rfl⟩:=a2G (l:=us) (by omega)
   rw [List.nil_append,formTs,Bool.and_eq_true] at hfs
   exact .not t1 (kid 0 t1 rfl (by simp) hfs.1)
  ·obtain rfl:ts=[]:=List.length_eq_zero_iff.1 (by omega)
   obtain ⟨t1,t2,rfl⟩:=a8q (l:=us) (by omega)
   rw [List.nil_append,formTs,formTs,Bool.and_eq_true,Bool.and_eq_true] at hfs
   exact .bin k t1 t2 hk (kid 0 t1 rfl (by simp) hfs.1) (kid 1 t2 rfl (by simp) hfs.2.1)
theorem b5E:∀{ts:List PT}{i:Nat}{t:PT},formTs ts=true→ts[i]? = some t→formT t=true
 | [],i,t,_,h=>by simp at h
 | u::ts,i,t,hf,h=>by
  rw [formTs,Bool.and_eq_true] at hf
  cases i with
  | zero=>simp only [List.getElem?_cons_zero,Option.some.injEq] at h;rw [←h];exact hf.1
  | succ i=>exact b5E hf.2 (by simpa using h)
theorem shS{s:d9}{t:PT}(he:SH H s t):formT t=true→Sm t→XS t:=by
 induction he with
 | @mk s xs ts ys us zs bs va wa hs hb hr hsy hby hry hz hzb hzl _ hB hBb hBl _ ih1 ih2=>
  intro hf hS
  cases hS with | mk hsm hss=>
  rw [formT,Bool.and_eq_true] at hf
  obtain ⟨hf,hfs⟩:=hf
  have hfc:=c7f (show formS s.d6 s.o8 ts.length us.length va.length wa.length=true from hf)
  rw [a2k,a2k,a2k,Bool.and_eq_true,Bool.and_eq_true,Bool.and_eq_true] at hfs
  have kidE:∀(i:Nat)(t:PT),ts[i]? = some t→XE t:=fun i t ht=>by
   obtain ⟨v,hv⟩:=O9 (l:=xs) (i:=i) (by have:=P4 ht;have:=hr.1;omega)
   exact shE (hr.2 i v t hv ht) (b5E hfs.2.1 ht) (hss t (by simp [List.mem_of_getElem? ht]))
  have kidC:∀(i:Nat)(t:PT),us[i]? = some t→XC t:=fun i t ht=>by
   obtain ⟨v,hv⟩:=O9 (l:=ys) (i:=i) (by have:=P4 ht;have:=hry.1;omega)
   exact shC (hry.2 i v t hv ht) (b5E hfs.1 ht) (hss t (by simp [List.mem_of_getElem? ht]))
  have kV:∀t∈va,XS t:=fun t ht=>by
   obtain ⟨i,hi⟩:=List.mem_iff_getElem?.1 ht
   obtain ⟨v,hv⟩:=O9 (l:=zs) (i:=i) (by have:=P4 hi;omega)
   exact ih1 i v t hv hi (b5E hfs.2.2.1 hi) (hss t (by simp [ht]))
  have kW:∀t∈wa,XS t:=fun t ht=>by
   obtain ⟨i,hi⟩:=List.mem_iff_getElem?.1 ht
   obtain ⟨v,hv⟩:=O9 (l:=bs) (i:=i) (by have:=P4 hi;omega)
   exact ih2 i v t hv hi (b5E hfs.2.2.2 hi) (hss t (by simp [ht]))
  show XS (sX s.d6 s.o8 ts us va wa)
  generalize s.d6=k at *
  generalize s.o8=nm at *
  have z:∀{l:List PT},l.length=0→l=[]:=fun h=>List.length_eq_zero_iff.1 h
  rcases hfc with ⟨⟨rfl,a,b⟩ | ⟨rfl,a,b⟩,c,d⟩ | ⟨rfl,⟨rfl,a,b⟩ | ⟨rfl,a,b,c⟩ | ⟨rfl | rfl,a,b,c,d⟩ | ⟨rfl,a,b,c,d⟩⟩
  ·obtain ⟨t1,rfl⟩:=a2G a
   obtain rfl:=z b;obtain rfl:=z c;obtain rfl:=z d
   exact .asg nm t1 (kidE 0 t1 rfl)
  ·obtain ⟨t1,t2,rfl⟩:=a8q a
   obtain rfl:=z b;obtain rfl:=z c;obtain rfl:=z d
   exact .sto nm t1 t2 (kidE 0 t1 rfl) (kidE 1 t2 rfl)
  ·obtain ⟨t1,rfl⟩:=a2G b
   obtain rfl:=z a
   exact .iff t1 va wa (kidC 0 t1 rfl) kV kW
  ·obtain ⟨t1,rfl⟩:=a2G b
   obtain rfl:=z a;obtain rfl:=z c
   exact .whl t1 va (kidC 0 t1 rfl) kV
  ·obtain ⟨t1,rfl⟩:=a2G b
   obtain rfl:=z a;obtain rfl:=z c;obtain rfl:=z d
   exact .asr t1 (kidC 0 t1 rfl)
  ·obtain ⟨t1,rfl⟩:=a2G b
   obtain rfl:=z a;obtain rfl:=z c;obtain rfl:=z d
   exact .asm t1 (kidC 0 t1 rfl)
  ·obtain rfl:=z a;obtain rfl:=z b;obtain rfl:=z c;obtain rfl:=z d
   exact .skp
end
def pL(n:Int)(t:PT):List Pd:=parP (decide (lvE (kindT t) < n)) 40 41 (pr t)
def qcL(n:Int)(t:PT):List Pd:=parP (decide (lvC (kindT t) < n)) 91 93 (pr t)
theorem d3M(n:Int):pr (eX 1 n ⟨#[]⟩ [])=[.nb n.toNat]:=rfl
theorem c1v(s:ByteArray)(e:PT):pr (eX 4 0 s [e])=[.wd s 1,.sg [91]]++pr e++[.sg [93]]:=rfl
theorem c4W(e:PT):pr (eX 5 0 ⟨#[]⟩ [e])=[.sg [45]]++pL 3 e:=rfl
theorem b9y{k:Int}(hk:k=6∨k=7∨k=8∨k=9∨k=10)(a b:PT):pr (eX k 0 ⟨#[]⟩ [a,b])=pL (lvE k) a++[.bl 32,.sg (sgnE k),.bl 32]++pL (lvE k+1) b:=by
 unfold pL
 rw [←b3p]
 rcases hk with rfl | rfl | rfl | rfl | rfl<;>rfl
theorem c4X(op:Int)(a b:PT):pr (cX 3 op [a,b] [])=pr a++[.bl 32,.sg (sgnC op),.bl 32]++pr b:=rfl
theorem c4Y(c:PT):pr (cX 4 0 [] [c])=[.sg [33]]++qcL 3 c:=rfl
theorem b6t{k:Int}(hk:k=5∨k=6)(a b:PT):pr (cX k 0 [] [a,b])=qcL (lvC k) a++[.bl 32,.sg (if k=6 then [124,124] else [38,38]),.bl 32]++qcL (lvC k+1) b:=by
 unfold qcL
 rw [←b3p]
 rcases hk with rfl | rfl<;>rfl
def tr3(t:Tok):Int×ByteArray×Int:=(t.d6,t.E1,t.M4)
theorem a7O{b:Bool}{o c:UInt8}{l:List Pd}{k:List Tok}(h:tkd l=k.map tr3):tkd (parP b o c l)=(parT b o c k).map tr3:=by
 unfold parP parT
 cases b
 ·exact h
 ·rw [if_pos rfl,if_pos rfl,E3,E3,h,List.map_cons,List.map_append];rfl
theorem b9z{t:PT}(h:XE t):tkd (pr t)=(tkT t).map tr3:=by
 induction h with
 | num n h0 h1=>
  rw [d3M,b9a]
  show [((2:Int),(⟨(Lib.decDigits n.toNat).toArray⟩:ByteArray),((n.toNat:Nat):Int))]=[((2:Int),(⟨(Lib.itoa n).toArray⟩:ByteArray),n)]
  rw [Int.toNat_of_nonneg h0,Lib.itoa,if_neg (by omega)]
 | var s=>rfl
 | inp=>rfl
 | item s e _ ih=>rw [c1v,b6k,E3,E3,ih,List.map_cons,List.map_cons,List.map_append];rfl
 | neg e _ ih=>rw [c4W,b9b,E3,show tkd (pL 3 e)=_ from a7O ih,List.map_cons];rfl
 | bin k a b hk _ _ iha ihb=>rw [b9y hk,b2B hk,E3,E3,show tkd (pL (lvE k) a)=_ from a7O iha,show tkd (pL (lvE k+1) b)=_ from a7O ihb,List.map_append,List.map_cons,List.append_assoc];rfl
theorem c2E{t:PT}(h:XC t):tkd (pr t)=(tkT t).map tr3:=by
 induction h with
 | tru=>rfl
 | fls=>rfl
 | cmp op a b _ _ ha hb=>rw [c4X,b5q,E3,E3,b9z ha,b9z hb,List.map_append,List.map_cons,List.append_assoc];rfl
 | not c _ ih=>rw [c4Y,b9d,E3,show tkd (qcL 3 c)=_ from a7O ih,List.map_cons];rfl
 | bin k a b hk _ _ iha ihb=>rw [b6t hk,b3q hk,E3,E3,show tkd (qcL (lvC k) a)=_ from a7O iha,show tkd (qcL (lvC k+1) b)=_ from a7O ihb,List.map_append,List.map_cons,List.append_assoc];rfl
def Fb1(l:List Pd):Prop:=∃c r,bytd l=c::r∧c≠61
theorem Fb1.app{a b:List Pd}(h:Fb1 a):Fb1 (a++b):=by
 obtain ⟨c,r,h1,h2⟩:=h
 exact ⟨c,r++bytd b,by rw [B3,h1];rfl,h2⟩
theorem Fb1.hd{l:List Pd}(h:Fb1 l)(d:Option UInt8):(bytd l).head?.or d≠some 61:=by
 obtain ⟨c,r,h1,h2⟩:=h
 rw [h1]
 show some c≠some 61
 exact fun e=>h2 (Option.some.inj e)
theorem a0s{w:UInt8}{d:Option UInt8}(h:((decide (w.toNat < 128)&&decide (classS w.toNat=5))&&(!decide (w.toNat=38) && !decide (w.toNat=124)))=true)(hd:d≠some 61):(Pd.sg [w]).ok d=true:=by
 show ((decide (w.toNat < 128)&&decide (classS w.toNat=5))&&((!decide (w.toNat=38) && !decide (w.toNat=124)) && !decide (d=some 61)))=true
 rw [decide_eq_false hd,Bool.not_false,Bool.and_true]
 exact h
theorem b3t{s:ByteArray}{d:Option UInt8}(h:nameS s=true)(hd:offB d=true):(Pd.wd s 1).ok d=true:=by
 show (((decide ((1:Int)=1)&&nameS s)||(decide ((1:Int)=3)&&wordS s))&&offB d)=true
 rw [h,hd];rfl
theorem b0g{s:ByteArray}{d:Option UInt8}(h:wordS s=true)(hd:offB d=true):(Pd.wd s 3).ok d=true:=by
 show (((decide ((3:Int)=1)&&nameS s)||(decide ((3:Int)=3)&&wordS s))&&offB d)=true
 rw [h,hd];rfl
theorem b1I(d:Option UInt8)(a:Pd)(l:List Pd):okD d (a::l)=(a.ok ((bytd l).head?.or d)&&okD d l):=rfl
theorem ok_two{d:Option UInt8}{a b:List Pd}(ha:okD ((bytd b).head?.or d) a=true)(hb:okD d b=true):okD d (a++b)=true:=by rw [c1n,ha,hb];rfl
theorem ok_one{a:Pd}{d:Option UInt8}(h:a.ok d=true):okD d [a]=true:=by show (a.ok d&&true)=true;rw [h];rfl
theorem a2H{a:Pd}{l:List Pd}{d:Option UInt8}(h:a.ok ((bytd l).head?.or d)=true)(h2:okD d l=true):okD d (a::l)=true:=by rw [b1I,h,h2];rfl
theorem a7X:offB (some 32)=true:=by decide
theorem c1w{s:ByteArray}(h:nameS s=true):Fb1 [.wd s 1]:=by
 obtain ⟨_,_,hz,h3,_⟩:=b5p h
 have hl:s.data.toList.length=s.size:=Array.length_toList
 cases hq:s.data.toList with
 | nil=>rw [hq] at hl;exact absurd hl.symm hz
 | cons c r=>
  refine ⟨c,r,by show s.data.toList++[]=_;rw [List.append_nil,hq],fun e=>?_⟩
  subst e
  have hd:Dr s 0 (61::r):=by show s.data.toList.drop 0=_;rw [List.drop_zero,hq]
  have:=(hd.asc (by decide)).1
  rw [this] at h3
  revert h3
  decide
theorem c4Z(n:Nat):Fb1 [.nb n]:=by
 obtain ⟨h1,_,c,l,h3,_⟩:=b7f n
 have hc:=h1 c (by rw [h3];simp)
 unfold isDig at hc
 refine ⟨c,l,by show Lib.decDigits n++[]=_;rw [List.append_nil,h3],fun e=>?_⟩
 subst e
 exact absurd hc.2 (by decide)
theorem a9f{s:ByteArray}{k n:Int}{m:Nat}(hk:k=2∨k=4)(h:nameOk (.expr k n s m)=true):nameS s=true:=by
 unfold nameOk at h
 rw [if_pos (by show (decide (k=2)||decide (k=4))=true;rcases hk with rfl | rfl<;>rfl)] at h
 exact h
theorem a0L{t:PT}{l:Lab}{cs:List PT}(h:namesT (.mk l cs)=true)(ht:t∈cs):namesT t=true:=by
 rw [namesT,Bool.and_eq_true] at h
 have:∀{ts:List PT},namesTs ts=true→t∈ts→namesT t=true:=by
  intro ts
  induction ts with
  | nil=>intro _ h;cases h
  | cons u ts ih=>
   intro hf h
   rw [namesTs,Bool.and_eq_true] at hf
   rcases List.mem_cons.1 h with rfl | h
   ·exact hf.1
   ·exact ih hf.2 h
 exact this h.2 ht
theorem a9N{l:Lab}{cs:List PT}(h:namesT (.mk l cs)=true):nameOk l=true:=by rw [namesT,Bool.and_eq_true] at h;exact h.1
theorem Fb1.par{b:Bool}{o c:UInt8}{l:List Pd}(h:Fb1 l)(ho:o≠61):Fb1 (parP b o c l):=by
 unfold parP
 cases b
 ·exact h
 ·exact ⟨o,_,rfl,ho⟩
theorem b4B{t:PT}(h:XE t):namesT t=true→Fb1 (pr t):=by
 induction h with
 | num n h0 h1=>exact fun _=>c4Z _
 | var s=>exact fun hn=>c1w (a9f (.inl rfl) (a9N hn))
 | inp=>exact fun _=>⟨105,_,rfl,by decide⟩
 | item s e _ _=>exact fun hn=>Fb1.app (Fb1.app (Fb1.app (a:=[.wd s 1]) (b:=[.sg [91]]) (c1w (a9f (.inr rfl) (a9N hn)))))
 | neg e _ _=>exact fun _=>⟨45,_,rfl,by decide⟩
 | bin k a b hk _ _ iha _=>exact fun hn=>by rw [b9y hk];exact Fb1.app (Fb1.app (Fb1.par (iha (a0L hn (by simp))) (by decide)))
theorem c2F{t:PT}(h:XC t):namesT t=true→Fb1 (pr t):=by
 induction h with
 | tru=>exact fun _=>⟨116,_,rfl,by decide⟩
 | fls=>exact fun _=>⟨102,_,rfl,by decide⟩
 | cmp op a b _ _ ha hb=>exact fun hn=>Fb1.app (Fb1.app (b4B ha (a0L hn (by simp))))
 | not c _ _=>exact fun _=>⟨33,_,rfl,by decide⟩
 | bin k a b hk _ _ iha _=>exact fun hn=>by rw [b6t hk];exact Fb1.app (Fb1.app (Fb1.par (iha (a0L hn (by simp))) (by decide)))
theorem b0T{b:Bool}{o c:UInt8}{l:List Pd}{d:Option UInt8}(ho:((decide (o.toNat < 128)&&decide (classS o.toNat=5))&&(!decide (o.toNat=38) && !decide (o.toNat=124)))=true)(hc:((decide (c.toNat < 128)&&decide (classS c.toNat=5))&&(!decide (c.toNat=38) && !decide (c.toNat=124)))=true)(hoff:offB (some c)=true)(hc61:some c≠some 61)(hf:Fb1 l)
  (h:∀d,offB d=true→d≠some 61→okD d l=true) (h1:offB d=true) (h2:d≠some 61):okD d (parP b o c l)=true:=by
 unfold parP
 cases b
 ·exact h d h1 h2
 ·rw [if_pos rfl]
  exact ok_two (ok_two (ok_one (a0s ho (hf.hd _))) (h _ hoff hc61)) (ok_one (a0s hc h2))
theorem b9A{w:BL}{a b:List Pd}{d:Option UInt8}(hw:∀d,d≠some 61→(Pd.sg w).ok d=true)(ha:okD (some 32) a=true)(hb:okD d b=true):okD d (a++[.bl 32,.sg w,.bl 32]++b)=true:=by
 refine ok_two (ok_two ha ?_) hb
 rw [b1I,b1I,b1I,hw _ (by show some (32:UInt8)≠some 61;decide)]
 rfl
theorem c7g{k:Int}(hk:k=6∨k=7∨k=8∨k=9∨k=10):∀d,d≠some 61→(Pd.sg (sgnE k)).ok d=true:=by
 intro d hd
 rcases hk with rfl | rfl | rfl | rfl | rfl
 ·exact a0s (w:=43) (by decide) hd
 ·exact a0s (w:=45) (by decide) hd
 ·exact a0s (w:=42) (by decide) hd
 ·exact a0s (w:=47) (by decide) hd
 ·exact a0s (w:=37) (by decide) hd
theorem c7h{op:Int}(h0:1≤op)(h1:op≤6):∀d,d≠some 61→(Pd.sg (sgnC op)).ok d=true:=by
 intro d hd
 have:op=1∨op=2∨op=3∨op=4∨op=5∨op=6:=by omega
 rcases this with rfl | rfl | rfl | rfl | rfl | rfl
 ·exact a0s (w:=60) (by decide) hd
 ·rfl
 ·rfl
 ·rfl
 ·exact a0s (w:=62) (by decide) hd
 ·rfl
theorem b9B{t:PT}(h:XE t):namesT t=true→∀d,offB d=true→d≠some 61→okD d (pr t)=true:=by
 induction h with
 | num n h0 h1=>
  intro _ d hd _
  show ((decide (n.toNat < 9223372036854775808)&&offB d)&&true)=true
  rw [decide_eq_true (by omega),hd];rfl
 | var s=>exact fun hn d hd _=>by exact ok_one (b3t (a9f (.inl rfl) (a9N hn)) hd)
 | inp=>exact fun _ d hd _=>by exact ok_one (b0g (by kernel_rfl) hd)
 | item s e he ih=>
  intro hn d hd h61
  have hne:=a0L hn (List.mem_singleton_self e)
  rw [c1v]
  refine ok_two (ok_two ?_ (ih hne _ (by show offB (some 93)=true;decide) (by show some (93:UInt8)≠some 61;decide))) ?_
  ·exact a2H (b3t (a9f (.inr rfl) (a9N hn)) (by show offB (some 91)=true;decide)) (ok_one (a0s (w:=91) (by decide) ((b4B he hne).hd _)))
  ·exact ok_one (a0s (w:=93) (by decide) h61)
 | neg e he ih=>
  intro hn d hd h61
  have hne:=a0L hn (List.mem_singleton_self e)
  rw [c4W]
  refine ok_two ?_ (b0T (by decide) (by decide) (by decide) (by decide) (b4B he hne) (ih hne) hd h61)
  exact ok_one (a0s (w:=45) (by decide) ((show Fb1 (pL 3 e) from Fb1.par (b4B he hne) (by decide)).hd _))
 | bin k a b hk ha hb iha ihb=>
  intro hn d hd h61
  have hna:=a0L (t:=a) hn (by simp)
  have hnb:=a0L (t:=b) hn (by simp)
  rw [b9y hk]
  exact b9A (c7g hk) (b0T (by decide) (by decide) (by decide) (by decide) (b4B ha hna) (iha hna) a7X (by decide)) (b0T (by decide) (by decide) (by decide) (by decide) (b4B hb hnb) (ihb hnb) hd h61)
theorem c2G{t:PT}(h:XC t):namesT t=true→∀d,offB d=true→d≠some 61→okD d (pr t)=true:=by
 induction h with
 | tru=>exact fun _ d hd _=>by exact ok_one (b0g (by kernel_rfl) hd)
 | fls=>exact fun _ d hd _=>by exact ok_one (b0g (by kernel_rfl) hd)
 | cmp op a b h0 h1 ha hb=>
  intro hn d hd h61
  rw [c4X]
  exact b9A (c7h h0 h1) (b9B ha (a0L hn (by simp)) _ a7X (by decide)) (b9B hb (a0L hn (by simp)) d hd h61)
 | not c hc ih=>
  intro hn d hd h61
  have hne:=a0L (t:=c) hn (by simp)
  rw [c4Y]
  refine ok_two ?_ (b0T (by decide) (by decide) (by decide) (by decide) (c2F hc hne) (ih hne) hd h61)
  exact ok_one (a0s (w:=33) (by decide) ((show Fb1 (qcL 3 c) from Fb1.par (c2F hc hne) (by decide)).hd _))
 | bin k a b hk ha hb iha ihb=>
  intro hn d hd h61
  have hna:=a0L (t:=a) hn (by simp)
  have hnb:=a0L (t:=b) hn (by simp)
  rw [b6t hk]
  exact b9A (fun d _=>by rcases hk with rfl | rfl<;>rfl) (b0T (by decide) (by decide) (by decide) (by decide) (c2F ha hna) (iha hna) a7X (by decide)) (b0T (by decide) (by decide) (by decide) (by decide) (c2F hb hnb) (ihb hnb) hd h61)
end Go.Proofs.YtoflkliecagjcaaGreatDoor
