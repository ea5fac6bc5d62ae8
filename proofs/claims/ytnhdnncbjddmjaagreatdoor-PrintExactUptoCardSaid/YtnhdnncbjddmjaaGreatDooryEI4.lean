/- Printing: the program's expressions and conditions write their text. Contracts off the printed formulas. -/
import Derived.Test.YtnhdnncbjddmjaaGreatDooryEI3
namespace Go.Proofs.YtnhdnncbjddmjaaGreatDoor
open Go.RowKit
set_option maxRecDepth 100000
set_option maxHeartbeats 2000000
theorem a6F{k n a:Int}{s:ByteArray}(h:formE k n s a=true):(k=1∧0≤n∧a=0)∨(k=2∧a=0)∨(k=3∧a=0)∨(k=4∧a=1)∨(k=5∧a=1)∨((k=6∨k=7∨k=8∨k=9∨k=10)∧a=2):=by
 unfold formE at h
 split at h
 ·cases h
 split at h
 ·rename_i c
  simp only [Bool.and_eq_true,decide_eq_true_eq] at h
  exact .inl ⟨c,h⟩
 split at h
 ·rename_i c
  rw [decide_eq_true_eq] at h
  rcases c with c | c
  ·exact .inr (.inl ⟨c,h⟩)
  ·exact .inr (.inr (.inl ⟨c,h⟩))
 split at h
 ·rename_i c
  rw [decide_eq_true_eq] at h
  rcases c with c | c
  ·exact .inr (.inr (.inr (.inl ⟨c,h⟩)))
  ·exact .inr (.inr (.inr (.inr (.inl ⟨c,h⟩))))
 split at h
 ·rename_i c
  rw [decide_eq_true_eq] at h
  exact .inr (.inr (.inr (.inr (.inr ⟨c,h⟩))))
 ·cases h
theorem a8E{k op e p:Int}(h:formC k op e p=true):((k=1∨k=2)∧e=0∧p=0)∨(k=3∧1≤op∧op≤6∧e=2∧p=0)∨(k=4∧e=0∧p=1)∨((k=5∨k=6)∧e=0∧p=2):=by
 unfold formC at h
 split at h
 ·rename_i c
  simp only [Bool.and_eq_true,decide_eq_true_eq] at h
  exact .inr (.inl ⟨c,h.1.1,h.1.2,h.2⟩)
 split at h
 ·split at h
  ·rename_i c
   rw [decide_eq_true_eq] at h
   exact .inl ⟨c,h⟩
  split at h
  ·rename_i c
   rw [decide_eq_true_eq] at h
   exact .inr (.inr (.inl ⟨c,h⟩))
  split at h
  ·rename_i c
   rw [decide_eq_true_eq] at h
   exact .inr (.inr (.inr ⟨c,h⟩))
  ·cases h
 ·cases h
theorem EH.kind{H:Hp}{e:d8}{t:PT}(h:EH H e t):kindT t=e.b8:=by cases h;rfl
theorem CH.kind{H:Hp}{e:f9}{t:PT}(h:CH H e t):kindT t=e.b8:=by cases h;rfl
theorem a9m{k:Int}{H:Hp}{K:Int→Hp→Prop}(h:K (lvE k) H):U8 k H K:=by
 refine a5Q _ ?_
 have j3:∀n:Int,K (IntKind.wrap .i64 (IntKind.wrap .i64 (n-1)-1)) H→L0 n H K:=fun n h=>h
 have j4:∀b:Bool,b=decide (k=6∨k=7)→G6 4 k b H K:=by
  intro b hb
  unfold G6
  refine ⟨fun q=>j3 _ ?_,fun q=>?_⟩
  ·rw [q] at hb
   have hb:=of_decide_eq_true hb.symm
   rw [show lvE k=1 by unfold lvE;rw [if_pos hb]] at h
   exact h
  ·rw [q] at hb
   have n67:=of_decide_eq_false hb.symm
   have j5:∀b:Bool,b=decide (k=8∨k=9∨k=10)→D2 4 k b H K:=by
    intro b hb
    unfold D2
    refine ⟨fun q=>j3 _ ?_,fun q=>?_⟩
    ·rw [q] at hb
     have hb:=of_decide_eq_true hb.symm
     rw [show lvE k=2 by unfold lvE;rw [if_neg n67,if_pos hb]] at h
     exact h
    ·rw [q] at hb
     have n8:=of_decide_eq_false hb.symm
     refine ⟨fun e5=>?_,fun e5=>?_⟩
     ·rw [show lvE k=3 by unfold lvE;rw [if_neg n67,if_neg n8,if_pos e5]] at h
      exact h
     ·rw [show lvE k=4 by unfold lvE;rw [if_neg n67,if_neg n8,if_neg e5]] at h
      exact h
   exact ⟨fun e=>j5 _ (decide_eq_decide.2 (by omega)),fun e=>⟨fun e=>j5 _ (decide_eq_decide.2 (by omega)),fun e=>j5 _ (decide_eq_decide.2 (by omega))⟩⟩
 exact ⟨fun e=>j4 _ (decide_eq_decide.2 (by omega)),fun e=>j4 _ (decide_eq_decide.2 (by omega))⟩
theorem a9n{k:Int}{H:Hp}{K:Int→Hp→Prop}(h:K (lvC k) H):V1 k H K:=by
 refine a6g _ ⟨fun e=>?_,fun e=>⟨fun e5=>?_,fun e5=>?_⟩⟩
 ·rw [show lvC k=1 by unfold lvC;rw [if_pos e]] at h;exact h
 ·rw [show lvC k=2 by unfold lvC;rw [if_neg e,if_pos e5]] at h;exact h
 ·rw [show lvC k=3 by unfold lvC;rw [if_neg e,if_neg e5]] at h;exact h
theorem b7Q{k:Int}(hk:k=6∨k=7∨k=8∨k=9∨k=10){H:Hp}{K:ByteArray→Hp→Prop}(h:K ⟨(sgnE k).toArray⟩ H):a1r k H K:=by
 rcases hk with rfl | rfl | rfl | rfl | rfl<;>exact a6n _ ⟨by decide,by decide,h⟩
theorem b2s{op:Int}(h0:1≤op)(h1:op≤6):(0:Int)≤IntKind.wrap .i64 (op-1)∧IntKind.wrap .i64 (op-1) < 6∧(([⟨#[60]⟩,⟨#[60,61]⟩,⟨#[61,61]⟩,⟨#[33,61]⟩,⟨#[62]⟩,⟨#[62,61]⟩]:List ByteArray).getD (IntKind.wrap .i64 (op-1):Int).toNat ⟨#[]⟩)=⟨(sgnC op).toArray⟩:=by
 have:op=1∨op=2∨op=3∨op=4∨op=5∨op=6:=by omega
 rcases this with rfl | rfl | rfl | rfl | rfl | rfl<;>exact ⟨by decide,by decide,rfl⟩
theorem a5b{α:Type}{l:List α}(h:l.length=2):∃a b,l=[a,b]:=by
 match l,h with
 | [a,b],_=>exact ⟨a,b,rfl⟩
theorem a1o{α:Type}{l:List α}(h:l.length=1):∃a,l=[a]:=by
 match l,h with
 | [a],_=>exact ⟨a,rfl⟩
theorem a4r{a:ByteArray}(h:a.size≤1048576):∀p∈[a],p.size≤1048576:=fun p hp=>by rw [List.mem_singleton.1 hp];exact h
theorem b3R{a b:ByteArray}(h:a.size≤1048576)(h2:b.size≤1048576):∀p∈[a,b],p.size≤1048576:=fun p hp=>by
 rcases List.mem_cons.1 hp with rfl | hp
 ·exact h
 ·exact a4r h2 p hp
theorem c0h{a b c:ByteArray}(h:a.size≤1048576)(h2:b.size≤1048576)(h3:c.size≤1048576):∀p∈[a,b,c],p.size≤1048576:=fun p hp=>by
 rcases List.mem_cons.1 hp with rfl | hp
 ·exact h
 ·exact b3R h2 h3 p hp
theorem b7R(k:Int):(⟨(sgnE k).toArray⟩:ByteArray).size≤1048576:=by
 unfold sgnE
 (repeat' split)<;>exact Nat.le_of_ble_eq_true rfl
theorem b7S(k:Int):(⟨(sgnC k).toArray⟩:ByteArray).size≤1048576:=by
 unfold sgnC
 (repeat' split)<;>exact Nat.le_of_ble_eq_true rfl
theorem c0F(k:Int):1≤lvE k∧lvE k≤4:=by
 unfold lvE
 (repeat' split)<;>omega
theorem c0G(k:Int):1≤lvC k∧lvC k≤3:=by
 unfold lvC
 (repeat' split)<;>omega
section
variable {H:Hp}
theorem a9N(hP:PowH H){e:d8}{t:PT}(he:EH H e t):formT t=true→Sm t→WOk H (fun x f H K=>u4 x f e H K) (tx Lib.itoa t):=by
 induction he with
 | @mk e xs ts hs hb hl hc ih=>
  intro hf hS x l H1 K hle hl1 k
  cases hS with | mk hsm hss=>
  rw [formT,Bool.and_eq_true] at hf
  obtain ⟨hf,hfs⟩:=hf
  have hfc:=a6F (show formE e.b8 e.a0w e.f4 (ts.length:Int)=true from hf)
  have hname:e.f4.size≤1048576:=hsm.1
  have hnum:e.a0w≤9223372036854775807:=hsm.2.2
  have hn:(e.r5.n:Int)=(ts.length:Int):=by have:=hs.1;omega
  have kid:∀(i:Nat)(t:PT),ts[i]? = some t→formT t=true→∃v,EltH H e.r5 i 4 (c7 v)∧kindT t=v.b8∧WOk H (fun x f H K=>u4 x f v H K) (tx Lib.itoa t):=fun i t ht hft=>by
   obtain ⟨v,hv⟩:=A0 (l:=xs) (i:=i) (by have:=t8 ht;omega)
   exact ⟨v,hs.2 i v hv,(hc i v t hv ht).kind,ih i v t hv ht hft (hss t (List.mem_of_getElem? ht))⟩
  refine a5e _ _ _ ?_
  unfold a0k
  rw [tx] at k
  refine a9m ⟨fun e1=>?_,fun n1=>⟨fun e2=>?_,fun n2=>⟨fun e3=>?_,fun n3=>⟨fun e4=>?_,fun n4=>⟨fun e5=>?_,fun n5=>?_⟩⟩⟩⟩⟩
  ·have h0:0≤e.a0w:=by omega
   rw [labT,if_pos e1] at k
   refine c0e (hP.le hle) h0 hnum fun s c hc hs _=>?_
   refine a2L hs (a4r (Nat.le_trans (b6I h0 hnum) (by decide))) (by simp) _ l c _ (Hle.refl _) hl1 fun y l' H' hy h2 hw=>k _ l' H' hy (hc.trans h2) ?_
   rwa [a1N] at hw
  ·rw [labT,if_neg n1,if_pos e2] at k
   intro s c hc hs _
   refine a2L hs (a4r hname) (by simp) _ l c _ (Hle.refl _) hl1 fun y l' H' hy h2 hw=>k _ l' H' hy (hc.trans h2) ?_
   rwa [a1N] at hw
  ·rw [labT,if_neg n1,if_neg n2,if_pos e3] at k
   intro s c hc hs _
   refine a2L hs (a4r (by decide)) (by simp) _ l c _ (Hle.refl _) hl1 fun y l' H' hy h2 hw=>k _ l' H' hy (hc.trans h2) ?_
   rwa [a1N] at hw
  ·rw [labT,if_neg n1,if_neg n2,if_neg n3,if_pos e4] at k
   obtain ⟨t1,rfl⟩:=a1o (l:=ts) (by omega)
   rw [formTs,Bool.and_eq_true] at hfs
   obtain ⟨v,hv,hk,hw1⟩:=kid 0 t1 rfl hfs.1
   rw [txs,txs] at k
   intro s c hc hs _
   refine a2L hs (b3R hname (by decide)) (by simp) _ l c _ (Hle.refl _) hl1 fun y l' H' hy h2 hw=>?_
   refine ⟨by omega,by rw [hn];simp only [List.length_cons,List.length_nil];omega,v,hv.le (hle.trans (hc.trans h2)),hw1 _ l' H' _ (hle.trans (hc.trans h2)) (hw.bound (by decide)) fun y2 l2 H2 hy2 h3 hw2=>?_⟩
   intro s3 c3 hc3 hs3 _
   refine a2L hs3 (a4r (by decide)) (by simp) _ l2 c3 _ (Hle.refl _) (hw2.bound (by decide)) fun y4 l4 H4 hy4 h4 hw4=>k _ l4 H4 (hy4.trans (hy2.trans hy)) (((hc.trans h2).trans h3).trans (hc3.trans h4)) ?_
   have:=(hw.trans hw2).trans hw4
   simpa using this
  ·rw [labT,if_neg n1,if_neg n2,if_neg n3,if_neg n4,if_pos e5] at k
   obtain ⟨t1,rfl⟩:=a1o (l:=ts) (by omega)
   rw [formTs,Bool.and_eq_true] at hfs
   obtain ⟨v,hv,hk,hw1⟩:=kid 0 t1 rfl hfs.1
   rw [txs,txs] at k
   intro s c hc hs _
   refine a2L hs (a4r (by decide)) (by simp) _ l c _ (Hle.refl _) hl1 fun y l' H' hy h2 hw=>?_
   refine ⟨by omega,by rw [hn];simp only [List.length_cons,List.length_nil];omega,v,hv.le (hle.trans (hc.trans h2)),b2r hw1 (fun H K h=>a9m h) _ l' H' _ (hle.trans (hc.trans h2)) (hw.bound (by decide)) fun y2 l2 H2 hy2 h3 hw2=>k _ l2 H2 (hy2.trans hy) ((hc.trans h2).trans h3) ?_⟩
   have:=hw.trans hw2
   rw [a1N,e5,← hk] at this
   exact this
  ·have hk6:(e.b8=6∨e.b8=7∨e.b8=8∨e.b8=9∨e.b8=10)∧(ts.length:Int)=2:=by omega
   rw [labT,if_neg n1,if_neg n2,if_neg n3,if_neg n4,if_neg n5] at k
   obtain ⟨t1,t2,rfl⟩:=a5b (l:=ts) (by omega)
   rw [formTs,formTs,Bool.and_eq_true,Bool.and_eq_true] at hfs
   obtain ⟨v,hv,hk,hw1⟩:=kid 0 t1 rfl hfs.1
   obtain ⟨v2,hv2,hk2,hw2⟩:=kid 1 t2 rfl hfs.2.1
   rw [txs,txs,txs] at k
   refine ⟨by omega,by rw [hn];simp only [List.length_cons,List.length_nil];omega,v,hv.le hle,b2r hw1 (fun H K h=>a9m h) _ l H1 _ hle hl1 fun y3 l3 H3 hy3 h3 hw3=>?_⟩
   refine b7Q hk6.1 ?_
   intro s c hc hs _
   refine a2L hs (c0h (by decide) (b7R _) (by decide)) (by simp) _ l3 c _ (Hle.refl _) (hw3.bound (by decide)) fun y l' H' hy h2 hw=>?_
   have hH:=(hle.trans h3).trans (hc.trans h2)
   refine ⟨by omega,by rw [hn];simp only [List.length_cons,List.length_nil];omega,v2,hv2.le hH,b2r hw2 (fun H K h=>a9m h) _ l' H' _ hH (hw.bound (by decide)) fun y5 l5 H5 hy5 h5 hw5=>k _ l5 H5 (hy5.trans (hy.trans hy3)) ((h3.trans (hc.trans h2)).trans h5) ?_⟩
   have hl:=c0F e.b8
   have:=(hw3.trans hw).trans hw5
   rw [←hk,← hk2,show IntKind.wrap .i64 (lvE e.b8+1)=lvE e.b8+1 from F0 ⟨by omega,by omega⟩,show decide (lvE (kindT t2) < lvE e.b8+1)=decide (lvE (kindT t2)≤lvE e.b8) from decide_eq_decide.2 (by omega)] at this
   simpa using this
theorem b7T(hP:PowH H){e:f9}{t:PT}(he:CH H e t):formT t=true→Sm t→WOk H (fun x f H K=>H8 x f e H K) (tx Lib.itoa t):=by
 induction he with
 | @mk e xs ts ys us hs hb hr hsy hby hl hc ih=>
  intro hf hS x l H1 K hle hl1 k
  cases hS with | mk hsm hss=>
  rw [formT,Bool.and_eq_true] at hf
  obtain ⟨hf,hfs⟩:=hf
  have hfc:=a8E (show formC e.b8 e.fOp (ts.length:Int) (us.length:Int)=true from hf)
  have hn:(e.f0.n:Int)=(ts.length:Int):=by have:=hs.1;have:=hr.1;omega
  have hm:(e.o0.n:Int)=(us.length:Int):=by have:=hsy.1;omega
  have kid:∀(i:Nat)(t:PT),us[i]? = some t→t∈ts++us→formT t=true→∃v,EltH H e.o0 i 4 (c9 v)∧kindT t=v.b8∧WOk H (fun x f H K=>H8 x f v H K) (tx Lib.itoa t):=fun i t ht hmem hft=>by
   obtain ⟨v,hv⟩:=A0 (l:=ys) (i:=i) (by have:=t8 ht;omega)
   exact ⟨v,hsy.2 i v hv,(hc i v t hv ht).kind,ih i v t hv ht hft (hss t hmem)⟩
  have kidE:∀(i:Nat)(t:PT),ts[i]? = some t→t∈ts++us→formT t=true→∃v,EltH H e.f0 i 4 (c7 v)∧WOk H (fun x f H K=>u4 x f v H K) (tx Lib.itoa t):=fun i t ht hmem hft=>by
   obtain ⟨v,hv⟩:=A0 (l:=xs) (i:=i) (by have:=t8 ht;have:=hr.1;omega)
   exact ⟨v,hs.2 i v hv,a9N hP (hr.2 i v t hv ht) hft (hss t hmem)⟩
  refine a5j _ _ _ ?_
  unfold a0t
  rw [tx] at k
  have j1:∀(ad:Option Addr),(e.b8=5∨e.b8=6)→us.length=2→ts=[]→E2 (lvC e.b8) (if e.b8=6 then ⟨#[32,124,124,32]⟩ else ⟨#[32,38,38,32]⟩) e ad (ib l) x.fdeep H1 K:=by
   intro ad h56 hu ht0
   subst ht0
   obtain ⟨t1,t2,rfl⟩:=a5b hu
   rw [List.nil_append,formTs,formTs,Bool.and_eq_true,Bool.and_eq_true] at hfs
   obtain ⟨v,hv,hk,hw1⟩:=kid 0 t1 rfl (by simp) hfs.1
   obtain ⟨v2,hv2,hk2,hw2⟩:=kid 1 t2 rfl (by simp) hfs.2.1
   rw [List.nil_append,labT,if_neg (by omega),if_neg (by omega),if_neg (by omega),if_neg (by omega),txs,txs,txs] at k
   unfold E2
   refine ⟨by omega,by rw [hm];simp only [List.length_cons,List.length_nil];omega,v,hv.le hle,a9M hw1 (fun H K h=>a9n h) _ l H1 _ hle hl1 fun y3 l3 H3 hy3 h3 hw3=>?_⟩
   intro s c hc hs _
   refine a2L hs (a4r (by split<;>decide)) (by simp) _ l3 c _ (Hle.refl _) (hw3.bound (by decide)) fun y l' H' hy h2 hw=>?_
   have hH:=(hle.trans h3).trans (hc.trans h2)
   refine ⟨by omega,by rw [hm];simp only [List.length_cons,List.length_nil];omega,v2,hv2.le hH,a9M hw2 (fun H K h=>a9n h) _ l' H' _ hH (hw.bound (by decide)) fun y5 l5 H5 hy5 h5 hw5=>k _ l5 H5 (hy5.trans (hy.trans hy3)) ((h3.trans (hc.trans h2)).trans h5) ?_⟩
   have hl:=c0G e.b8
   have:=(hw3.trans hw).trans hw5
   rw [a1N,← hk,← hk2,show IntKind.wrap .i64 (lvC e.b8+1)=lvC e.b8+1 from F0 ⟨by omega,by omega⟩,show decide (lvC (kindT t2) < lvC e.b8+1)=decide (lvC (kindT t2)≤lvC e.b8) from decide_eq_decide.2 (by omega),apply_ite (fun s:ByteArray=>s.data.toList)] at this
   exact this
  refine a9n ⟨fun e1=>?_,fun n1=>⟨fun e2=>?_,fun n2=>⟨fun e3=>?_,fun n3=>⟨fun e4=>?_,fun n4=>⟨fun e6=>?_,fun n6=>?_⟩⟩⟩⟩⟩
  ·rw [labT,if_pos e1] at k
   intro s c hc hs _
   refine a2L hs (a4r (by decide)) (by simp) _ l c _ (Hle.refl _) hl1 fun y l' H' hy h2 hw=>k _ l' H' hy (hc.trans h2) ?_
   rwa [a1N] at hw
  ·rw [labT,if_neg n1,if_pos e2] at k
   intro s c hc hs _
   refine a2L hs (a4r (by decide)) (by simp) _ l c _ (Hle.refl _) hl1 fun y l' H' hy h2 hw=>k _ l' H' hy (hc.trans h2) ?_
   rwa [a1N] at hw
  ·rw [labT,if_neg n1,if_neg n2,if_pos e3] at k
   obtain ⟨t1,t2,rfl⟩:=a5b (l:=ts) (by omega)
   obtain rfl:us=[]:=List.length_eq_zero_iff.1 (by omega)
   rw [List.append_nil,formTs,formTs,Bool.and_eq_true,Bool.and_eq_true] at hfs
   obtain ⟨v,hv,hw1⟩:=kidE 0 t1 rfl (by simp) hfs.1
   obtain ⟨v2,hv2,hw2⟩:=kidE 1 t2 rfl (by simp) hfs.2.1
   rw [List.append_nil,txs,txs,txs] at k
   obtain ⟨o1,o2,o3⟩:=b2s (op:=e.fOp) (by omega) (by omega)
   refine ⟨by omega,by rw [hn];simp only [List.length_cons,List.length_nil];omega,v,hv.le hle,hw1 _ l H1 _ hle hl1 fun y3 l3 H3 hy3 h3 hw3=>⟨o1,o2,?_⟩⟩
   intro s c hc hs _
   rw [o3] at hs
   refine a2L hs (c0h (by decide) (b7S _) (by decide)) (by simp) _ l3 c _ (Hle.refl _) (hw3.bound (by decide)) fun y l' H' hy h2 hw=>?_
   have hH:=(hle.trans h3).trans (hc.trans h2)
   refine ⟨by omega,by rw [hn];simp only [List.length_cons,List.length_nil];omega,v2,hv2.le hH,hw2 _ l' H' _ hH (hw.bound (by decide)) fun y5 l5 H5 hy5 h5 hw5=>k _ l5 H5 (hy5.trans (hy.trans hy3)) ((h3.trans (hc.trans h2)).trans h5) ?_⟩
   have:=(hw3.trans hw).trans hw5
   simpa using this
  ·rw [labT,if_neg n1,if_neg n2,if_neg n3,if_pos e4] at k
   obtain rfl:ts=[]:=List.length_eq_zero_iff.1 (by omega)
   obtain ⟨t1,rfl⟩:=a1o (l:=us) (by omega)
   rw [List.nil_append,formTs,Bool.and_eq_true] at hfs
   obtain ⟨v,hv,hk,hw1⟩:=kid 0 t1 rfl (by simp) hfs.1
   rw [List.nil_append,txs,txs] at k
   intro s c hc hs _
   refine a2L hs (a4r (by decide)) (by simp) _ l c _ (Hle.refl _) hl1 fun y l' H' hy h2 hw=>?_
   refine ⟨by omega,by rw [hm];simp only [List.length_cons,List.length_nil];omega,v,hv.le (hle.trans (hc.trans h2)),a9M hw1 (fun H K h=>a9n h) _ l' H' _ (hle.trans (hc.trans h2)) (hw.bound (by decide)) fun y2 l2 H2 hy2 h3 hw2=>k _ l2 H2 (hy2.trans hy) ((hc.trans h2).trans h3) ?_⟩
   have:=hw.trans hw2
   rw [a1N,e4,← hk] at this
   exact this
  ·have:=j1 x.A9.faddr (.inr e6) (by omega) (List.length_eq_zero_iff.1 (by omega))
   rw [if_pos e6] at this
   exact this
  ·have:=j1 x.A9.faddr (by omega) (by omega) (List.length_eq_zero_iff.1 (by omega))
   rw [if_neg n6] at this
   exact this
end
end Go.Proofs.YtnhdnncbjddmjaaGreatDoor
