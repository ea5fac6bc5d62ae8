/- Printing: the program's expressions and conditions write their text. Contracts off the printed formulas. -/
import Derived.Test.YtoflkliecagjcaaGreatDooryBI3
namespace Go.Proofs.YtoflkliecagjcaaGreatDoor
open Go.RowKit
set_option maxRecDepth 100000
set_option maxHeartbeats 2000000
theorem c0b{k n a:Int}{s:ByteArray}(h:formE k n s a=true):(k=1∧0≤n∧a=0)∨(k=2∧a=0)∨(k=3∧a=0)∨(k=4∧a=1)∨(k=5∧a=1)∨((k=6∨k=7∨k=8∨k=9∨k=10)∧a=2):=by
 unfold formE at h
 split at h
 ·cases h
 split at h
 ·rename_i c
  simp only [Bool.and_eq_true,decide_eq_true_eq] at h
  exact .inl ⟨c,h⟩
 split at h
 ·rename_i c
  rw [decide_eq_true_eq] at h
  rcases c with c | c
  ·exact .inr (.inl ⟨c,h⟩)
  ·exact .inr (.inr (.inl ⟨c,h⟩))
 split at h
 ·rename_i c
  rw [decide_eq_true_eq] at h
  rcases c with c | c
  ·exact .inr (.inr (.inr (.inl ⟨c,h⟩)))
  ·exact .inr (.inr (.inr (.inr (.inl ⟨c,h⟩))))
 split at h
 ·rename_i c
  rw [decide_eq_true_eq] at h
  exact .inr (.inr (.inr (.inr (.inr ⟨c,h⟩))))
 ·cases h
theorem c0c{k op e p:Int}(h:formC k op e p=true):((k=1∨k=2)∧e=0∧p=0)∨(k=3∧1≤op∧op≤6∧e=2∧p=0)∨(k=4∧e=0∧p=1)∨((k=5∨k=6)∧e=0∧p=2):=by
 unfold formC at h
 split at h
 ·rename_i c
  simp only [Bool.and_eq_true,decide_eq_true_eq] at h
  exact .inr (.inl ⟨c,h.1.1,h.1.2,h.2⟩)
 split at h
 ·split at h
  ·rename_i c
   rw [decide_eq_true_eq] at h
   exact .inl ⟨c,h⟩
  split at h
  ·rename_i c
   rw [decide_eq_true_eq] at h
   exact .inr (.inr (.inl ⟨c,h⟩))
  split at h
  ·rename_i c
   rw [decide_eq_true_eq] at h
   exact .inr (.inr (.inr ⟨c,h⟩))
  ·cases h
 ·cases h
theorem EH.kind{H:Hp}{e:f8}{t:PT}(h:EH H e t):kindT t=e.d6:=by cases h;rfl
theorem CH.kind{H:Hp}{e:i7}{t:PT}(h:CH H e t):kindT t=e.d6:=by cases h;rfl
theorem b5C{k:Int}{H:Hp}{K:Int→Hp→Prop}(h:K (lvE k) H):a0i k H K:=by
 refine a9C _ ?_
 have j3:∀n:Int,K (IntKind.wrap .i64 (IntKind.wrap .i64 (n-1)-1)) H→Y1 n H K:=fun n h=>h
 have j4:∀b:Bool,b=decide (k=6∨k=7)→T0 4 k b H K:=by
  intro b hb
  unfold T0
  refine ⟨fun q=>j3 _ ?_,fun q=>?_⟩
  ·rw [q] at hb
   have hb:=of_decide_eq_true hb.symm
   rw [show lvE k=1 by unfold lvE;rw [if_pos hb]] at h
   exact h
  ·rw [q] at hb
   have n67:=of_decide_eq_false hb.symm
   have j5:∀b:Bool,b=decide (k=8∨k=9∨k=10)→P0 4 k b H K:=by
    intro b hb
    unfold P0
    refine ⟨fun q=>j3 _ ?_,fun q=>?_⟩
    ·rw [q] at hb
     have hb:=of_decide_eq_true hb.symm
     rw [show lvE k=2 by unfold lvE;rw [if_neg n67,if_pos hb]] at h
     exact h
    ·rw [q] at hb
     have n8:=of_decide_eq_false hb.symm
     refine ⟨fun e5=>?_,fun e5=>?_⟩
     ·rw [show lvE k=3 by unfold lvE;rw [if_neg n67,if_neg n8,if_pos e5]] at h
      exact h
     ·rw [show lvE k=4 by unfold lvE;rw [if_neg n67,if_neg n8,if_neg e5]] at h
      exact h
   exact ⟨fun e=>j5 _ (decide_eq_decide.2 (by omega)),fun e=>⟨fun e=>j5 _ (decide_eq_decide.2 (by omega)),fun e=>j5 _ (decide_eq_decide.2 (by omega))⟩⟩
 exact ⟨fun e=>j4 _ (decide_eq_decide.2 (by omega)),fun e=>j4 _ (decide_eq_decide.2 (by omega))⟩
theorem b5D{k:Int}{H:Hp}{K:Int→Hp→Prop}(h:K (lvC k) H):a0j k H K:=by
 refine a9x _ ⟨fun e=>?_,fun e=>⟨fun e5=>?_,fun e5=>?_⟩⟩
 ·rw [show lvC k=1 by unfold lvC;rw [if_pos e]] at h;exact h
 ·rw [show lvC k=2 by unfold lvC;rw [if_neg e,if_pos e5]] at h;exact h
 ·rw [show lvC k=3 by unfold lvC;rw [if_neg e,if_neg e5]] at h;exact h
theorem c9O{k:Int}(hk:k=6∨k=7∨k=8∨k=9∨k=10){H:Hp}{K:ByteArray→Hp→Prop}(h:K ⟨(sgnE k).toArray⟩ H):a2P k H K:=by
 rcases hk with rfl | rfl | rfl | rfl | rfl<;>exact a9P _ ⟨by decide,by decide,h⟩
theorem c7a{op:Int}(h0:1≤op)(h1:op≤6):(0:Int)≤IntKind.wrap .i64 (op-1)∧IntKind.wrap .i64 (op-1) < 6∧(([⟨#[60]⟩,⟨#[60,61]⟩,⟨#[61,61]⟩,⟨#[33,61]⟩,⟨#[62]⟩,⟨#[62,61]⟩]:List ByteArray).getD (IntKind.wrap .i64 (op-1):Int).toNat ⟨#[]⟩)=⟨(sgnC op).toArray⟩:=by
 have:op=1∨op=2∨op=3∨op=4∨op=5∨op=6:=by omega
 rcases this with rfl | rfl | rfl | rfl | rfl | rfl<;>exact ⟨by decide,by decide,rfl⟩
theorem a8q{α:Type}{l:List α}(h:l.length=2):∃a b,l=[a,b]:=by
 match l,h with
 | [a,b],_=>exact ⟨a,b,rfl⟩
theorem a2G{α:Type}{l:List α}(h:l.length=1):∃a,l=[a]:=by
 match l,h with
 | [a],_=>exact ⟨a,rfl⟩
theorem a7c{a:ByteArray}(h:a.size≤1048576):∀p∈[a],p.size≤1048576:=fun p hp=>by rw [List.mem_singleton.1 hp];exact h
theorem c2C{a b:ByteArray}(h:a.size≤1048576)(h2:b.size≤1048576):∀p∈[a,b],p.size≤1048576:=fun p hp=>by
 rcases List.mem_cons.1 hp with rfl | hp
 ·exact h
 ·exact a7c h2 p hp
theorem d3K{a b c:ByteArray}(h:a.size≤1048576)(h2:b.size≤1048576)(h3:c.size≤1048576):∀p∈[a,b,c],p.size≤1048576:=fun p hp=>by
 rcases List.mem_cons.1 hp with rfl | hp
 ·exact h
 ·exact c2C h2 h3 p hp
theorem c9P(k:Int):(⟨(sgnE k).toArray⟩:ByteArray).size≤1048576:=by
 unfold sgnE
 (repeat' split)<;>exact Nat.le_of_ble_eq_true rfl
theorem c9Q(k:Int):(⟨(sgnC k).toArray⟩:ByteArray).size≤1048576:=by
 unfold sgnC
 (repeat' split)<;>exact Nat.le_of_ble_eq_true rfl
theorem d4D(k:Int):1≤lvE k∧lvE k≤4:=by
 unfold lvE
 (repeat' split)<;>omega
theorem d4E(k:Int):1≤lvC k∧lvC k≤3:=by
 unfold lvC
 (repeat' split)<;>omega
section
variable {H:Hp}
theorem b4z(hP:PowH H){e:f8}{t:PT}(he:EH H e t):formT t=true→Sm t→WOk H (fun x f H K=>D6 x f e H K) (tx Lib.itoa t):=by
 induction he with
 | @mk e xs ts hs hb hl hc ih=>
  intro hf hS x l H1 K hle hl1 k
  cases hS with | mk hsm hss=>
  rw [formT,Bool.and_eq_true] at hf
  obtain ⟨hf,hfs⟩:=hf
  have hfc:=c0b (show formE e.d6 e.M4 e.o8 (ts.length:Int)=true from hf)
  have hname:e.o8.size≤1048576:=hsm.1
  have hnum:e.M4≤9223372036854775807:=hsm.2.2
  have hn:(e.N8.n:Int)=(ts.length:Int):=by have:=hs.1;omega
  have kid:∀(i:Nat)(t:PT),ts[i]? = some t→formT t=true→∃v,EltH H e.N8 i 4 (f7 v)∧kindT t=v.d6∧WOk H (fun x f H K=>D6 x f v H K) (tx Lib.itoa t):=fun i t ht hft=>by
   obtain ⟨v,hv⟩:=O9 (l:=xs) (i:=i) (by have:=P4 ht;omega)
   exact ⟨v,hs.2 i v hv,(hc i v t hv ht).kind,ih i v t hv ht hft (hss t (List.mem_of_getElem? ht))⟩
  refine a8C _ _ _ ?_
  unfold a4w
  rw [tx] at k
  refine b5C ⟨fun e1=>?_,fun n1=>⟨fun e2=>?_,fun n2=>⟨fun e3=>?_,fun n3=>⟨fun e4=>?_,fun n4=>⟨fun e5=>?_,fun n5=>?_⟩⟩⟩⟩⟩
  ·have h0:0≤e.M4:=by omega
   rw [labT,if_pos e1] at k
   refine d3k (hP.le hle) h0 hnum fun s c hc hs _=>?_
   refine a4I hs (a7c (Nat.le_trans (c7G h0 hnum) (by decide))) (by simp) _ l c _ (Hle.refl _) hl1 fun y l' H' hy h2 hw=>k _ l' H' hy (hc.trans h2) ?_
   rwa [a3t] at hw
  ·rw [labT,if_neg n1,if_pos e2] at k
   intro s c hc hs _
   refine a4I hs (a7c hname) (by simp) _ l c _ (Hle.refl _) hl1 fun y l' H' hy h2 hw=>k _ l' H' hy (hc.trans h2) ?_
   rwa [a3t] at hw
  ·rw [labT,if_neg n1,if_neg n2,if_pos e3] at k
   intro s c hc hs _
   refine a4I hs (a7c (by decide)) (by simp) _ l c _ (Hle.refl _) hl1 fun y l' H' hy h2 hw=>k _ l' H' hy (hc.trans h2) ?_
   rwa [a3t] at hw
  ·rw [labT,if_neg n1,if_neg n2,if_neg n3,if_pos e4] at k
   obtain ⟨t1,rfl⟩:=a2G (l:=ts) (by omega)
   rw [formTs,Bool.and_eq_true] at hfs
   obtain ⟨v,hv,hk,hw1⟩:=kid 0 t1 rfl hfs.1
   rw [txs,txs] at k
   intro s c hc hs _
   refine a4I hs (c2C hname (by decide)) (by simp) _ l c _ (Hle.refl _) hl1 fun y l' H' hy h2 hw=>?_
   refine ⟨by omega,by rw [hn];simp only [List.length_cons,List.length_nil];omega,v,hv.le (hle.trans (hc.trans h2)),hw1 _ l' H' _ (hle.trans (hc.trans h2)) (hw.bound (by decide)) fun y2 l2 H2 hy2 h3 hw2=>?_⟩
   intro s3 c3 hc3 hs3 _
   refine a4I hs3 (a7c (by decide)) (by simp) _ l2 c3 _ (Hle.refl _) (hw2.bound (by decide)) fun y4 l4 H4 hy4 h4 hw4=>k _ l4 H4 (hy4.trans (hy2.trans hy)) (((hc.trans h2).trans h3).trans (hc3.trans h4)) ?_
   have:=(hw.trans hw2).trans hw4
   simpa using this
  ·rw [labT,if_neg n1,if_neg n2,if_neg n3,if_neg n4,if_pos e5] at k
   obtain ⟨t1,rfl⟩:=a2G (l:=ts) (by omega)
   rw [formTs,Bool.and_eq_true] at hfs
   obtain ⟨v,hv,hk,hw1⟩:=kid 0 t1 rfl hfs.1
   rw [txs,txs] at k
   intro s c hc hs _
   refine a4I hs (a7c (by decide)) (by simp) _ l c _ (Hle.refl _) hl1 fun y l' H' hy h2 hw=>?_
   refine ⟨by omega,by rw [hn];simp only [List.length_cons,List.length_nil];omega,v,hv.le (hle.trans (hc.trans h2)),b9v hw1 (fun H K h=>b5C h) _ l' H' _ (hle.trans (hc.trans h2)) (hw.bound (by decide)) fun y2 l2 H2 hy2 h3 hw2=>k _ l2 H2 (hy2.trans hy) ((hc.trans h2).trans h3) ?_⟩
   have:=hw.trans hw2
   rw [a3t,e5,← hk] at this
   exact this
  ·have hk6:(e.d6=6∨e.d6=7∨e.d6=8∨e.d6=9∨e.d6=10)∧(ts.length:Int)=2:=by omega
   rw [labT,if_neg n1,if_neg n2,if_neg n3,if_neg n4,if_neg n5] at k
   obtain ⟨t1,t2,rfl⟩:=a8q (l:=ts) (by omega)
   rw [formTs,formTs,Bool.and_eq_true,Bool.and_eq_true] at hfs
   obtain ⟨v,hv,hk,hw1⟩:=kid 0 t1 rfl hfs.1
   obtain ⟨v2,hv2,hk2,hw2⟩:=kid 1 t2 rfl hfs.2.1
   rw [txs,txs,txs] at k
   refine ⟨by omega,by rw [hn];simp only [List.length_cons,List.length_nil];omega,v,hv.le hle,b9v hw1 (fun H K h=>b5C h) _ l H1 _ hle hl1 fun y3 l3 H3 hy3 h3 hw3=>?_⟩
   refine c9O hk6.1 ?_
   intro s c hc hs _
   refine a4I hs (d3K (by decide) (c9P _) (by decide)) (by simp) _ l3 c _ (Hle.refl _) (hw3.bound (by decide)) fun y l' H' hy h2 hw=>?_
   have hH:=(hle.trans h3).trans (hc.trans h2)
   refine ⟨by omega,by rw [hn];simp only [List.length_cons,List.length_nil];omega,v2,hv2.le hH,b9v hw2 (fun H K h=>b5C h) _ l' H' _ hH (hw.bound (by decide)) fun y5 l5 H5 hy5 h5 hw5=>k _ l5 H5 (hy5.trans (hy.trans hy3)) ((h3.trans (hc.trans h2)).trans h5) ?_⟩
   have hl:=d4D e.d6
   have:=(hw3.trans hw).trans hw5
   rw [←hk,← hk2,show IntKind.wrap .i64 (lvE e.d6+1)=lvE e.d6+1 from X9 ⟨by omega,by omega⟩,show decide (lvE (kindT t2) < lvE e.d6+1)=decide (lvE (kindT t2)≤lvE e.d6) from decide_eq_decide.2 (by omega)] at this
   simpa using this
theorem c7b(hP:PowH H){e:i7}{t:PT}(he:CH H e t):formT t=true→Sm t→WOk H (fun x f H K=>Q4 x f e H K) (tx Lib.itoa t):=by
 induction he with
 | @mk e xs ts ys us hs hb hr hsy hby hl hc ih=>
  intro hf hS x l H1 K hle hl1 k
  cases hS with | mk hsm hss=>
  rw [formT,Bool.and_eq_true] at hf
  obtain ⟨hf,hfs⟩:=hf
  have hfc:=c0c (show formC e.d6 e.fOp (ts.length:Int) (us.length:Int)=true from hf)
  have hn:(e.p7.n:Int)=(ts.length:Int):=by have:=hs.1;have:=hr.1;omega
  have hm:(e.E6.n:Int)=(us.length:Int):=by have:=hsy.1;omega
  have kid:∀(i:Nat)(t:PT),us[i]? = some t→t∈ts++us→formT t=true→∃v,EltH H e.E6 i 4 (g7 v)∧kindT t=v.d6∧WOk H (fun x f H K=>Q4 x f v H K) (tx Lib.itoa t):=fun i t ht hmem hft=>by
   obtain ⟨v,hv⟩:=O9 (l:=ys) (i:=i) (by have:=P4 ht;omega)
   exact ⟨v,hsy.2 i v hv,(hc i v t hv ht).kind,ih i v t hv ht hft (hss t hmem)⟩
  have kidE:∀(i:Nat)(t:PT),ts[i]? = some t→t∈ts++us→formT t=true→∃v,EltH H e.p7 i 4 (f7 v)∧WOk H (fun x f H K=>D6 x f v H K) (tx Lib.itoa t):=fun i t ht hmem hft=>by
   obtain ⟨v,hv⟩:=O9 (l:=xs) (i:=i) (by have:=P4 ht;have:=hr.1;omega)
   exact ⟨v,hs.2 i v hv,b4z hP (hr.2 i v t hv ht) hft (hss t hmem)⟩
  refine a8K _ _ _ ?_
  unfold a4y
  rw [tx] at k
  have j1:∀(ad:Option Addr),(e.d6=5∨e.d6=6)→us.length=2→ts=[]→R7 (lvC e.d6) (if e.d6=6 then ⟨#[32,124,124,32]⟩ else ⟨#[32,38,38,32]⟩) e ad (ib l) x.fdeep H1 K:=by
   intro ad h56 hu ht0
   subst ht0
   obtain ⟨t1,t2,rfl⟩:=a8q hu
   rw [List.nil_append,formTs,formTs,Bool.and_eq_true,Bool.and_eq_true] at hfs
   obtain ⟨v,hv,hk,hw1⟩:=kid 0 t1 rfl (by simp) hfs.1
   obtain ⟨v2,hv2,hk2,hw2⟩:=kid 1 t2 rfl (by simp) hfs.2.1
   rw [List.nil_append,labT,if_neg (by omega),if_neg (by omega),if_neg (by omega),if_neg (by omega),txs,txs,txs] at k
   unfold R7
   refine ⟨by omega,by rw [hm];simp only [List.length_cons,List.length_nil];omega,v,hv.le hle,b6r hw1 (fun H K h=>b5D h) _ l H1 _ hle hl1 fun y3 l3 H3 hy3 h3 hw3=>?_⟩
   intro s c hc hs _
   refine a4I hs (a7c (by split<;>decide)) (by simp) _ l3 c _ (Hle.refl _) (hw3.bound (by decide)) fun y l' H' hy h2 hw=>?_
   have hH:=(hle.trans h3).trans (hc.trans h2)
   refine ⟨by omega,by rw [hm];simp only [List.length_cons,List.length_nil];omega,v2,hv2.le hH,b6r hw2 (fun H K h=>b5D h) _ l' H' _ hH (hw.bound (by decide)) fun y5 l5 H5 hy5 h5 hw5=>k _ l5 H5 (hy5.trans (hy.trans hy3)) ((h3.trans (hc.trans h2)).trans h5) ?_⟩
   have hl:=d4E e.d6
   have:=(hw3.trans hw).trans hw5
   rw [a3t,← hk,← hk2,show IntKind.wrap .i64 (lvC e.d6+1)=lvC e.d6+1 from X9 ⟨by omega,by omega⟩,show decide (lvC (kindT t2) < lvC e.d6+1)=decide (lvC (kindT t2)≤lvC e.d6) from decide_eq_decide.2 (by omega),apply_ite (fun s:ByteArray=>s.data.toList)] at this
   exact this
  refine b5D ⟨fun e1=>?_,fun n1=>⟨fun e2=>?_,fun n2=>⟨fun e3=>?_,fun n3=>⟨fun e4=>?_,fun n4=>⟨fun e6=>?_,fun n6=>?_⟩⟩⟩⟩⟩
  ·rw [labT,if_pos e1] at k
   intro s c hc hs _
   refine a4I hs (a7c (by decide)) (by simp) _ l c _ (Hle.refl _) hl1 fun y l' H' hy h2 hw=>k _ l' H' hy (hc.trans h2) ?_
   rwa [a3t] at hw
  ·rw [labT,if_neg n1,if_pos e2] at k
   intro s c hc hs _
   refine a4I hs (a7c (by decide)) (by simp) _ l c _ (Hle.refl _) hl1 fun y l' H' hy h2 hw=>k _ l' H' hy (hc.trans h2) ?_
   rwa [a3t] at hw
  ·rw [labT,if_neg n1,if_neg n2,if_pos e3] at k
   obtain ⟨t1,t2,rfl⟩:=a8q (l:=ts) (by omega)
   obtain rfl:us=[]:=List.length_eq_zero_iff.1 (by omega)
   rw [List.append_nil,formTs,formTs,Bool.and_eq_true,Bool.and_eq_true] at hfs
   obtain ⟨v,hv,hw1⟩:=kidE 0 t1 rfl (by simp) hfs.1
   obtain ⟨v2,hv2,hw2⟩:=kidE 1 t2 rfl (by simp) hfs.2.1
   rw [List.append_nil,txs,txs,txs] at k
   obtain ⟨o1,o2,o3⟩:=c7a (op:=e.fOp) (by omega) (by omega)
   refine ⟨by omega,by rw [hn];simp only [List.length_cons,List.length_nil];omega,v,hv.le hle,hw1 _ l H1 _ hle hl1 fun y3 l3 H3 hy3 h3 hw3=>⟨o1,o2,?_⟩⟩
   intro s c hc hs _
   rw [o3] at hs
   refine a4I hs (d3K (by decide) (c9Q _) (by decide)) (by simp) _ l3 c _ (Hle.refl _) (hw3.bound (by decide)) fun y l' H' hy h2 hw=>?_
   have hH:=(hle.trans h3).trans (hc.trans h2)
   refine ⟨by omega,by rw [hn];simp only [List.length_cons,List.length_nil];omega,v2,hv2.le hH,hw2 _ l' H' _ hH (hw.bound (by decide)) fun y5 l5 H5 hy5 h5 hw5=>k _ l5 H5 (hy5.trans (hy.trans hy3)) ((h3.trans (hc.trans h2)).trans h5) ?_⟩
   have:=(hw3.trans hw).trans hw5
   simpa using this
  ·rw [labT,if_neg n1,if_neg n2,if_neg n3,if_pos e4] at k
   obtain rfl:ts=[]:=List.length_eq_zero_iff.1 (by omega)
   obtain ⟨t1,rfl⟩:=a2G (l:=us) (by omega)
   rw [List.nil_append,formTs,Bool.and_eq_true] at hfs
   obtain ⟨v,hv,hk,hw1⟩:=kid 0 t1 rfl (by simp) hfs.1
   rw [List.nil_append,txs,txs] at k
   intro s c hc hs _
   refine a4I hs (a7c (by decide)) (by simp) _ l c _ (Hle.refl _) hl1 fun y l' H' hy h2 hw=>?_
   refine ⟨by omega,by rw [hm];simp only [List.length_cons,List.length_nil];omega,v,hv.le (hle.trans (hc.trans h2)),b6r hw1 (fun H K h=>b5D h) _ l' H' _ (hle.trans (hc.trans h2)) (hw.bound (by decide)) fun y2 l2 H2 hy2 h3 hw2=>k _ l2 H2 (hy2.trans hy) ((hc.trans h2).trans h3) ?_⟩
   have:=hw.trans hw2
   rw [a3t,e4,← hk] at this
   exact this
  ·have:=j1 x.G8.faddr (.inr e6) (by omega) (List.length_eq_zero_iff.1 (by omega))
   rw [if_pos e6] at this
   exact this
  ·have:=j1 x.G8.faddr (by omega) (by omega) (List.length_eq_zero_iff.1 (by omega))
   rw [if_neg n6] at this
   exact this
end
mutual
def dpT(B:Int):PT→Int→Prop
 | .mk _ cs,d=>d≤B∧dpTs B cs (d+1)
def dpTs(B:Int):List PT→Int→Prop
 | [],_=>True
 | t::ts,d=>dpT B t d∧dpTs B ts d
end
variable {B:Int}
theorem b1G:∀(a b:List PT)(d:Int),dpTs B (a++b) d↔dpTs B a d∧dpTs B b d
 | [],b,d=>by rw [List.nil_append,dpTs];exact ⟨fun h=>⟨trivial,h⟩,fun h=>h.2⟩
 | t::a,b,d=>by rw [List.cons_append,dpTs,dpTs,b1G a b,and_assoc]
theorem c2D{s:W}{d:Int}(hb:s.fbad=0)(h2:¬s.fn=4096)(h3:¬64 < d):wStep s d=⟨s.fn+1,if d > s.fdepth then d else s.fdepth,0⟩:=by
 unfold wStep;rw [if_pos hb,if_neg h2,if_neg h3]
mutual
theorem c4U:∀(t:PT)(d:Int)(s:W),0≤s.fn→s.fn≤4096→s.fbad=0→((wT t d s).fbad=0↔(s.fn+cT t≤4096∧dpT 64 t d))
 | .mk l cs,d,s,h0,h1,hb=>by
  rw [wT,cT,dpT]
  by_cases h2:s.fn=4096
  ·have:(wStep s d).fbad≠0:=by unfold wStep;rw [if_pos hb,if_pos h2];exact (by decide:(33:Int)≠0)
   rw [a5x _ _ _ this]
   exact ⟨fun e=>(this e).elim,fun e=>by omega⟩
  ·by_cases h3:64 < d
   ·have:(wStep s d).fbad≠0:=by unfold wStep;rw [if_pos hb,if_neg h2,if_pos h3];exact (by decide:(32:Int)≠0)
    rw [a5x _ _ _ this]
    exact ⟨fun e=>(this e).elim,fun e=>by omega⟩
   ·rw [c2D hb h2 h3,b6s cs (d+1) _ (by dsimp only;omega) (by dsimp only;omega) rfl]
    dsimp only
    constructor
    ·rintro ⟨a,b⟩;exact ⟨by omega,by omega,b⟩
    ·rintro ⟨a,b,c⟩;exact ⟨by omega,c⟩
theorem b6s:∀(ts:List PT)(d:Int)(s:W),0≤s.fn→s.fn≤4096→s.fbad=0→((wTs ts d s).fbad=0↔(s.fn+cTs ts≤4096∧dpTs 64 ts d))
 | [],d,s,h0,h1,hb=>by rw [wTs,cTs,dpTs];exact ⟨fun _=>⟨by omega,trivial⟩,fun _=>hb⟩
 | t::ts,d,s,h0,h1,hb=>by
  rw [wTs,cTs,dpTs]
  by_cases h2:(wT t d s).fbad=0
  ·have hi:=(c4U t d s h0 h1 hb).1 h2
   have hc:=c4y t d s h2
   rw [b6s ts d _ (by omega) (by omega) h2,hc]
   constructor
   ·rintro ⟨a,b⟩;exact ⟨by omega,hi.2,b⟩
   ·rintro ⟨a,b,c⟩;exact ⟨by omega,c⟩
  ·rw [a5x _ _ _ h2]
   have:=mt (c4U t d s h0 h1 hb).2 h2
   exact ⟨fun e=>(h2 e).elim,fun e=>(this ⟨by omega,e.2.1⟩).elim⟩
end
theorem b1H(ts:List PT):toldS ts=0↔(cTs ts≤4096∧dpTs 64 ts 1∧formTs ts=true∧namesTs ts=true):=by
 have h:=b6s ts 1 w0S (Int.le_refl _) (by decide) rfl
 have e0:w0S.fn=0:=rfl
 rw [e0] at h
 unfold toldS
 constructor
 ·intro e
  split at e
  ·rename_i hb
   have:=h.1 hb
   split at e
   ·rename_i hf
    split at e
    ·rename_i hn;exact ⟨by omega,this.2,hf,hn⟩
    ·cases e
   ·cases e
  ·rename_i hb;exact (hb e).elim
 ·rintro ⟨a,b,c,d⟩
  rw [if_pos (h.2 ⟨by omega,b⟩),if_pos c,if_pos d]
end Go.Proofs.YtoflkliecagjcaaGreatDoor
