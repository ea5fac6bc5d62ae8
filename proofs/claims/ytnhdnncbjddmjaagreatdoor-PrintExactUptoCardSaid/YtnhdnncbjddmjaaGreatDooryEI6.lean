/- Printing: how long texts are; the document's expressions and conditions. Contracts off the printed formulas. -/
import Derived.Test.YtnhdnncbjddmjaaGreatDooryEI5
namespace Go.Proofs.YtnhdnncbjddmjaaGreatDoor
open Go.RowKit
set_option maxRecDepth 100000
set_option maxHeartbeats 2000000
def bS(l:BL):ByteArray:=⟨l.toArray⟩
theorem O6(a b:BL):bS a++bS b=bS (a++b):=by apply ByteArray.ext;simp [bS]
theorem J4(l:BL):(bS l).size=l.length:=by show l.toArray.size=_;rw [List.size_toArray]
theorem a6S(s:ByteArray):s=bS s.data.toList:=by unfold bS;rw [Array.toArray_toList]
theorem a1E(b:Bool)(o c:UInt8)(t:BL):(par b o c t).length≤t.length+2:=by
 unfold par
 split<;>simp
theorem b6l(ts:List BL):(ts.headD []).length+(ts.tail.headD []).length≤ts.flatten.length:=by
 match ts with
 | []=>simp
 | [a]=>simp
 | a::b::l=>simp
theorem b2v(k:Int):(sgnE k).length≤1:=by
 unfold sgnE;(repeat' split)<;>simp
theorem b2w(k:Int):(sgnC k).length≤2:=by
 unfold sgnC;(repeat' split)<;>simp
theorem b6m{l:Lab}(hs:smL l)(hf:formL l=true)(ks:List Int)(ts:List BL):(labT Lib.itoa l ks ts).length≤1048600+ts.flatten.length:=by
 have hh:=b6l ts
 cases l with
 | decl _ _=>simp [labT]
 | stmt _ _ _ _ _ _=>simp [labT]
 | expr k n s m=>
  have hname:s.size≤1048576:=hs.1
  have hnl:s.data.toList.length=s.size:=by rw [Array.length_toList];rfl
  unfold labT
  dsimp only
  split
  ·rename_i e1
   have hfc:=a6F (show formE k n s m=true from hf)
   have:=Lib.itoa_length_le n (by omega) hs.2.2
   omega
  split
  ·omega
  split
  ·simp only [List.length_cons,List.length_nil];omega
  split
  ·simp only [List.length_append,List.length_cons,List.length_nil];omega
  split
  ·have:=a1E (decide (lvE (ks.headD 0) < 3)) 40 41 (ts.headD [])
   simp only [List.length_append,List.length_cons,List.length_nil];omega
  ·have p1:=a1E (decide (lvE (ks.headD 0) < lvE k)) 40 41 (ts.headD [])
   have p2:=a1E (decide (lvE (ks.tail.headD 0)≤lvE k)) 40 41 (ts.tail.headD [])
   have p3:=b2v k
   simp only [List.length_append,List.length_cons,List.length_nil];omega
 | cond k op a b=>
  unfold labT
  dsimp only
  split
  ·simp only [List.length_cons,List.length_nil];omega
  split
  ·simp only [List.length_cons,List.length_nil];omega
  split
  ·have p3:=b2w op
   simp only [List.length_append,List.length_cons,List.length_nil];omega
  split
  ·have:=a1E (decide (lvC (ks.headD 0) < 3)) 91 93 (ts.headD [])
   simp only [List.length_append,List.length_cons,List.length_nil];omega
  ·have p1:=a1E (decide (lvC (ks.headD 0) < lvC k)) 91 93 (ts.headD [])
   have p2:=a1E (decide (lvC (ks.tail.headD 0)≤lvC k)) 91 93 (ts.tail.headD [])
   have p3:(if k=6 then ([32,124,124,32]:BL) else [32,38,38,32]).length=4:=by split<;>rfl
   simp only [List.length_append];omega
mutual
theorem a6T:∀t:PT,formT t=true→Sm t→(tx Lib.itoa t).length≤1048600*cT t
 | .mk l cs,hf,hS=>by
  cases hS with | mk hsm hss=>
  rw [formT,Bool.and_eq_true] at hf
  rw [tx,cT]
  have h1:=b6m hsm hf.1 (cs.map kindT) (txs Lib.itoa cs)
  have h2:=b3b cs hf.2 hss
  omega
theorem b3b:∀ts:List PT,formTs ts=true→(∀t∈ts,Sm t)→(txs Lib.itoa ts).flatten.length≤1048600*cTs ts
 | [],_,_=>by rw [txs];simp
 | t::ts,hf,hS=>by
  rw [formTs,Bool.and_eq_true] at hf
  rw [txs,cTs,List.flatten_cons,List.length_append]
  have h1:=a6T t hf.1 (hS t (List.mem_cons_self ..))
  have h2:=b3b ts hf.2 fun u hu=>hS u (List.mem_cons_of_mem _ hu)
  omega
end
theorem a4U:∀{ts:List PT}{t:PT},t∈ts→cT t≤cTs ts
 | [],t,h=>by cases h
 | u::ts,t,h=>by
  rw [cTs]
  rcases List.mem_cons.1 h with rfl | h
  ·omega
  ·have:=a4U h;omega
section
variable {H:Hp}
theorem a6i{e:d8}{K:Int→Hp→Prop}(h:K (lvE e.b8) H):E3 e H K:=by
 refine a5p _ ?_
 have j1:∀b:Bool,b=decide (e.b8=6∨e.b8=7)→E6 e.b8 b e H K:=by
  intro b hb
  unfold E6
  refine ⟨fun q=>?_,fun q=>?_⟩
  ·rw [q] at hb
   have hb:=of_decide_eq_true hb.symm
   rwa [show lvE e.b8=1 by unfold lvE;rw [if_pos hb]] at h
  ·rw [q] at hb
   have n67:=of_decide_eq_false hb.symm
   have j2:∀b:Bool,b=decide (e.b8=8∨e.b8=9∨e.b8=10)→C2 e.b8 b e H K:=by
    intro b hb
    unfold C2
    refine ⟨fun q=>?_,fun q=>?_⟩
    ·rw [q] at hb
     have hb:=of_decide_eq_true hb.symm
     rwa [show lvE e.b8=2 by unfold lvE;rw [if_neg n67,if_pos hb]] at h
    ·rw [q] at hb
     have n8:=of_decide_eq_false hb.symm
     refine ⟨fun e5=>?_,fun e5=>?_⟩
     ·rwa [show lvE e.b8=3 by unfold lvE;rw [if_neg n67,if_neg n8,if_pos e5]] at h
     ·rwa [show lvE e.b8=4 by unfold lvE;rw [if_neg n67,if_neg n8,if_neg e5]] at h
   exact ⟨fun e=>j2 _ (decide_eq_decide.2 (by omega)),fun e=>⟨fun e=>j2 _ (decide_eq_decide.2 (by omega)),fun e=>j2 _ (decide_eq_decide.2 (by omega))⟩⟩
 exact ⟨fun e=>j1 _ (decide_eq_decide.2 (by omega)),fun e=>j1 _ (decide_eq_decide.2 (by omega))⟩
theorem a6U{c:f9}{K:Int→Hp→Prop}(h:K (lvC c.b8) H):G2 c H K:=by
 refine a6a _ ⟨fun e=>?_,fun e=>⟨fun e5=>?_,fun e5=>?_⟩⟩
 ·rwa [show lvC c.b8=1 by unfold lvC;rw [if_pos e]] at h
 ·rwa [show lvC c.b8=2 by unfold lvC;rw [if_neg e,if_pos e5]] at h
 ·rwa [show lvC c.b8=3 by unfold lvC;rw [if_neg e,if_neg e5]] at h
theorem a3X{l:BL}{b:Bool}{o c:UInt8}(hl:l.length≤1000000000000){K:ByteArray→Hp→Prop}(h:K (bS (par b o c l)) H):B1 (bS l) b ⟨#[o]⟩ ⟨#[c]⟩ H K:=by
 refine a5g _ _ _ _ ⟨fun e=>⟨?_,?_,?_⟩,fun e=>?_⟩
 ·rw [J4];show 1+_≤_;omega
 ·rw [show (⟨#[o]⟩:ByteArray)=bS [o] from rfl,O6,J4,List.length_append]
  show 1+_+1≤_;omega
 ·subst e
  rw [show (⟨#[o]⟩:ByteArray)=bS [o] from rfl,show (⟨#[c]⟩:ByteArray)=bS [c] from rfl,O6,O6]
  exact h
 ·subst e;exact h
theorem b7V{op:Int}(h0:1≤op)(h1:op≤6){K:ByteArray→Hp→Prop}(h:K (bS (sgnC op)) H):a0W op H K:=by
 obtain ⟨o1,o2,o3⟩:=b2s h0 h1
 refine a5S _ ⟨o1,o2,?_⟩
 rw [o3];exact h
theorem c1f{k:Int}(hk:k=6∨k=7∨k=8∨k=9∨k=10):(0:Int)≤IntKind.wrap .i64 (k-6)∧IntKind.wrap .i64 (k-6) < 5∧(([⟨#[32,43,32]⟩,⟨#[32,45,32]⟩,⟨#[32,42,32]⟩,⟨#[32,47,32]⟩,⟨#[32,37,32]⟩]:List ByteArray).getD (IntKind.wrap .i64 (k-6):Int).toNat ⟨#[]⟩)=bS ([32]++sgnE k++[32]):=by
 rcases hk with rfl | rfl | rfl | rfl | rfl<;>exact ⟨by decide,by decide,rfl⟩
theorem b2x{e:d8}{t:PT}(he:EH H e t):formT t=true→Sm t→cT t≤4096→∀(H1:Hp)(K:ByteArray→Hp→Prop),Hle H H1→(∀H',Hle H1 H'→K (bS (tx Lib.itoa t)) H')→o9 e H1 K:=by
 induction he with
 | @mk e xs ts hs hb hl hc ih=>
  intro hf0 hS0 hct H1 K hle k
  have hS:=hS0
  cases hS with | mk hsm hss=>
  have hf:=hf0
  rw [formT,Bool.and_eq_true] at hf
  obtain ⟨hf,hfs⟩:=hf
  have hfc:=a6F (show formE e.b8 e.a0w e.f4 (ts.length:Int)=true from hf)
  have hname:e.f4.size≤1048576:=hsm.1
  have hnum:e.a0w≤9223372036854775807:=hsm.2.2
  have hn:(e.r5.n:Int)=(ts.length:Int):=by have:=hs.1;omega
  rw [cT] at hct
  have kid:∀(i:Nat)(t:PT),ts[i]? = some t→formT t=true→∃v,EltH H e.r5 i 4 (c7 v)∧kindT t=v.b8∧(tx Lib.itoa t).length≤1000000000000∧∀(H1:Hp)(K:ByteArray→Hp→Prop),Hle H H1→(∀H',Hle H1 H'→K (bS (tx Lib.itoa t)) H')→o9 v H1 K:=fun i t ht hft=>by
   obtain ⟨v,hv⟩:=A0 (l:=xs) (i:=i) (by have:=t8 ht;omega)
   have hm:=List.mem_of_getElem? ht
   have h1:=a4U hm
   have h2:=a6T t hft (hss t hm)
   exact ⟨v,hs.2 i v hv,(hc i v t hv ht).kind,by omega,ih i v t hv ht hft (hss t hm) (by omega)⟩
  refine a5R _ ?_
  unfold a1f
  rw [tx] at k
  refine ⟨fun e1=>?_,fun n1=>⟨fun e2=>?_,fun n2=>⟨fun e3=>?_,fun n3=>⟨fun e4=>?_,fun n4=>⟨fun e5=>?_,fun n5=>?_⟩⟩⟩⟩⟩
  ·rw [labT,if_pos e1] at k
   exact b0j (by omega) hnum fun H' h=>k H' h
  ·rw [labT,if_neg n1,if_pos e2] at k
   rw [a6S e.f4]
   exact k H1 (Hle.refl _)
  ·rw [labT,if_neg n1,if_neg n2,if_pos e3] at k
   exact k H1 (Hle.refl _)
  ·rw [labT,if_neg n1,if_neg n2,if_neg n3,if_pos e4] at k
   obtain ⟨t1,rfl⟩:=a1o (l:=ts) (by omega)
   rw [formTs,Bool.and_eq_true] at hfs
   obtain ⟨v,hv,hk,hlen,hw1⟩:=kid 0 t1 rfl hfs.1
   rw [txs,txs] at k
   have hnl:e.f4.data.toList.length=e.f4.size:=by rw [Array.length_toList];rfl
   refine ⟨by show e.f4.size+1≤_;omega,by omega,by rw [hn];simp only [List.length_cons,List.length_nil];omega,v,hv.le hle,hw1 H1 _ hle fun H2 h2=>?_⟩
   rw [a6S e.f4,show (⟨#[91]⟩:ByteArray)=bS [91] from rfl,show (⟨#[93]⟩:ByteArray)=bS [93] from rfl]
   simp only [O6,J4,List.length_append,List.length_cons,List.length_nil]
   exact ⟨by omega,by omega,k H2 h2⟩
  ·rw [labT,if_neg n1,if_neg n2,if_neg n3,if_neg n4,if_pos e5] at k
   obtain ⟨t1,rfl⟩:=a1o (l:=ts) (by omega)
   rw [formTs,Bool.and_eq_true] at hfs
   obtain ⟨v,hv,hk,hlen,hw1⟩:=kid 0 t1 rfl hfs.1
   rw [txs,txs] at k
   refine ⟨by omega,by rw [hn];simp only [List.length_cons,List.length_nil];omega,v,hv.le hle,hw1 H1 _ hle fun H2 h2=>a6i (a3X hlen ?_)⟩
   have hp:=a1E (decide (lvE v.b8 < 3)) 40 41 (tx Lib.itoa t1)
   rw [show (⟨#[45]⟩:ByteArray)=bS [45] from rfl]
   simp only [O6,J4,List.length_cons,List.length_nil]
   refine ⟨by omega,?_⟩
   rw [←hk]
   exact k H2 h2
  ·have hk6:(e.b8=6∨e.b8=7∨e.b8=8∨e.b8=9∨e.b8=10)∧(ts.length:Int)=2:=by omega
   rw [labT,if_neg n1,if_neg n2,if_neg n3,if_neg n4,if_neg n5] at k
   obtain ⟨t1,t2,rfl⟩:=a5b (l:=ts) (by omega)
   rw [formTs,formTs,Bool.and_eq_true,Bool.and_eq_true] at hfs
   obtain ⟨v,hv,hk,hlen,hw1⟩:=kid 0 t1 rfl hfs.1
   obtain ⟨v2,hv2,hk2,hlen2,hw2⟩:=kid 1 t2 rfl hfs.2.1
   rw [txs,txs,txs] at k
   obtain ⟨o1,o2,o3⟩:=c1f hk6.1
   refine ⟨by omega,by rw [hn];simp only [List.length_cons,List.length_nil];omega,v,hv.le hle,hw1 H1 _ hle fun H2 h2=>a6i (a6i (a3X hlen ?_))⟩
   refine ⟨by omega,by rw [hn];simp only [List.length_cons,List.length_nil];omega,v2,hv2.le (hle.trans h2),hw2 H2 _ (hle.trans h2) fun H3 h3=>a6i (a6i (a3X hlen2 ?_))⟩
   have p1:=a1E (decide (lvE v.b8 < lvE e.b8)) 40 41 (tx Lib.itoa t1)
   have p2:=a1E (decide (lvE v2.b8≤lvE e.b8)) 40 41 (tx Lib.itoa t2)
   have p3:=b2v e.b8
   rw [o3]
   refine ⟨o1,o2,?_⟩
   simp only [O6,J4,List.length_append,List.length_cons,List.length_nil]
   refine ⟨by omega,by omega,?_⟩
   rw [←hk,← hk2]
   exact k H3 (h2.trans h3)
theorem b6n{e:f9}{t:PT}(he:CH H e t):formT t=true→Sm t→cT t≤4096→∀(H1:Hp)(K:ByteArray→Hp→Prop),Hle H H1→(∀H',Hle H1 H'→K (bS (tx Lib.itoa t)) H')→u0 e H1 K:=by
 induction he with
 | @mk e xs ts ys us hs hb hr hsy hby hl hc ih=>
  intro hf0 hS0 hct H1 K hle k
  have hS:=hS0
  cases hS with | mk hsm hss=>
  have hf:=hf0
  rw [formT,Bool.and_eq_true] at hf
  obtain ⟨hf,hfs⟩:=hf
  have hfc:=a8E (show formC e.b8 e.fOp (ts.length:Int) (us.length:Int)=true from hf)
  have hn:(e.f0.n:Int)=(ts.length:Int):=by have:=hs.1;have:=hr.1;omega
  have hm:(e.o0.n:Int)=(us.length:Int):=by have:=hsy.1;omega
  rw [cT] at hct
  have kid:∀(i:Nat)(t:PT),us[i]? = some t→t∈ts++us→formT t=true→∃v,EltH H e.o0 i 4 (c9 v)∧kindT t=v.b8∧(tx Lib.itoa t).length≤1000000000000∧∀(H1:Hp)(K:ByteArray→Hp→Prop),Hle H H1→(∀H',Hle H1 H'→K (bS (tx Lib.itoa t)) H')→u0 v H1 K:=fun i t ht hmem hft=>by
   obtain ⟨v,hv⟩:=A0 (l:=ys) (i:=i) (by have:=t8 ht;omega)
   have h1:=a4U hmem
   have h2:=a6T t hft (hss t hmem)
   exact ⟨v,hsy.2 i v hv,(hc i v t hv ht).kind,by omega,ih i v t hv ht hft (hss t hmem) (by omega)⟩
  have kidE:∀(i:Nat)(t:PT),ts[i]? = some t→t∈ts++us→formT t=true→∃v,EltH H e.f0 i 4 (c7 v)∧(tx Lib.itoa t).length≤1000000000000∧∀(H1:Hp)(K:ByteArray→Hp→Prop),Hle H H1→(∀H',Hle H1 H'→K (bS (tx Lib.itoa t)) H')→o9 v H1 K:=fun i t ht hmem hft=>by
   obtain ⟨v,hv⟩:=A0 (l:=xs) (i:=i) (by have:=t8 ht;have:=hr.1;omega)
   have h1:=a4U hmem
   have h2:=a6T t hft (hss t hmem)
   exact ⟨v,hs.2 i v hv,by omega,b2x (hr.2 i v t hv ht) hft (hss t hmem) (by omega)⟩
  refine a5J _ ?_
  unfold a1b
  rw [tx] at k
  have j1:(e.b8=5∨e.b8=6)→us.length=2→ts=[]→G5 (if e.b8=6 then ⟨#[32,124,124,32]⟩ else ⟨#[32,38,38,32]⟩) e H1 K:=by
   intro h56 hu ht0
   subst ht0
   obtain ⟨t1,t2,rfl⟩:=a5b hu
   rw [List.nil_append,formTs,formTs,Bool.and_eq_true,Bool.and_eq_true] at hfs
   obtain ⟨v,hv,hk,hlen,hw1⟩:=kid 0 t1 rfl (by simp) hfs.1
   obtain ⟨v2,hv2,hk2,hlen2,hw2⟩:=kid 1 t2 rfl (by simp) hfs.2.1
   rw [List.nil_append,labT,if_neg (by omega),if_neg (by omega),if_neg (by omega),if_neg (by omega),txs,txs,txs] at k
   unfold G5
   refine ⟨by omega,by rw [hm];simp only [List.length_cons,List.length_nil];omega,v,hv.le hle,hw1 H1 _ hle fun H2 h2=>a6U (a6U (a3X hlen ?_))⟩
   refine ⟨by omega,by rw [hm];simp only [List.length_cons,List.length_nil];omega,v2,hv2.le (hle.trans h2),hw2 H2 _ (hle.trans h2) fun H3 h3=>a6U (a6U (a3X hlen2 ?_))⟩
   have p1:=a1E (decide (lvC v.b8 < lvC e.b8)) 91 93 (tx Lib.itoa t1)
   have p2:=a1E (decide (lvC v2.b8≤lvC e.b8)) 91 93 (tx Lib.itoa t2)
   have p3:(if e.b8=6 then (⟨#[32,124,124,32]⟩:ByteArray) else ⟨#[32,38,38,32]⟩)=bS (if e.b8=6 then [32,124,124,32] else [32,38,38,32]):=by split<;>rfl
   have p4:(if e.b8=6 then ([32,124,124,32]:BL) else [32,38,38,32]).length=4:=by split<;>rfl
   rw [p3]
   simp only [O6,J4,List.length_append]
   refine ⟨by omega,by omega,?_⟩
   rw [←hk,← hk2]
   exact k H3 (h2.trans h3)
  refine ⟨fun e1=>?_,fun n1=>⟨fun e2=>?_,fun n2=>⟨fun e3=>?_,fun n3=>⟨fun e4=>?_,fun n4=>⟨fun e6=>?_,fun n6=>?_⟩⟩⟩⟩⟩
  ·rw [labT,if_pos e1] at k
   exact k H1 (Hle.refl _)
  ·rw [labT,if_neg n1,if_pos e2] at k
   exact k H1 (Hle.refl _)
  ·rw [labT,if_neg n1,if_neg n2,if_pos e3] at k
   obtain ⟨t1,t2,rfl⟩:=a5b (l:=ts) (by omega)
   obtain rfl:us=[]:=List.length_eq_zero_iff.1 (by omega)
   rw [List.append_nil,formTs,formTs,Bool.and_eq_true,Bool.and_eq_true] at hfs
   obtain ⟨v,hv,hlen,hw1⟩:=kidE 0 t1 rfl (by simp) hfs.1
   obtain ⟨v2,hv2,hlen2,hw2⟩:=kidE 1 t2 rfl (by simp) hfs.2.1
   rw [List.append_nil,txs,txs,txs] at k
   refine ⟨by omega,by rw [hn];simp only [List.length_cons,List.length_nil];omega,v,hv.le hle,by omega,by rw [hn];simp only [List.length_cons,List.length_nil];omega,v2,hv2.le hle,hw1 H1 _ hle fun H2 h2=>?_⟩
   have p3:=b2w e.fOp
   rw [show (⟨#[32]⟩:ByteArray)=bS [32] from rfl]
   simp only [O6,J4,List.length_append,List.length_cons,List.length_nil]
   refine ⟨by omega,b7V (by omega) (by omega) ?_⟩
   simp only [O6,J4,List.length_append,List.length_cons,List.length_nil]
   refine ⟨by omega,by omega,hw2 H2 _ (hle.trans h2) fun H3 h3=>?_⟩
   simp only [O6,J4,List.length_append,List.length_cons,List.length_nil]
   refine ⟨by omega,?_⟩
   have:=k H3 (h2.trans h3)
   simpa using this
  ·rw [labT,if_neg n1,if_neg n2,if_neg n3,if_pos e4] at k
   obtain rfl:ts=[]:=List.length_eq_zero_iff.1 (by omega)
   obtain ⟨t1,rfl⟩:=a1o (l:=us) (by omega)
   rw [List.nil_append,formTs,Bool.and_eq_true] at hfs
   obtain ⟨v,hv,hk,hlen,hw1⟩:=kid 0 t1 rfl (by simp) hfs.1
   rw [List.nil_append,txs,txs] at k
   refine ⟨by omega,by rw [hm];simp only [List.length_cons,List.length_nil];omega,v,hv.le hle,hw1 H1 _ hle fun H2 h2=>a6U (a3X hlen ?_)⟩
   have hp:=a1E (decide (lvC v.b8 < 3)) 91 93 (tx Lib.itoa t1)
   rw [show (⟨#[33]⟩:ByteArray)=bS [33] from rfl]
   simp only [O6,J4,List.length_cons,List.length_nil]
   refine ⟨by omega,?_⟩
   rw [←hk]
   exact k H2 h2
  ·have:=j1 (.inr e6) (by omega) (List.length_eq_zero_iff.1 (by omega))
   rw [if_pos e6] at this
   exact this
  ·have:=j1 (by omega) (by omega) (List.length_eq_zero_iff.1 (by omega))
   rw [if_neg n6] at this
   exact this
end
end Go.Proofs.YtnhdnncbjddmjaaGreatDoor
