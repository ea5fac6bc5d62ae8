/- Well programs: what declarations declare, which uses fit; the program's check. The law WellTurned. Contracts off the printed formulas; 'declared', which keeps maps, off its reading. -/
import Derived.Test.YtaokfhdinhimfaaGreatDooryLQ9
namespace Go.Proofs.YtaokfhdinhimfaaGreatDoor
open Go.RowKit
set_option maxRecDepth 100000
set_option maxHeartbeats 2000000
def kindD(d:i7):Int:=if 0 < d.N2 then 2 else 1
theorem a8j(d:i7):kindD d=1∨kindD d=2:=by unfold kindD;split<;>simp
def nk(l:List i7)(k:Int):Nat:=(l.filter fun d=>decide (kindD d=k)).length
theorem a6U(a b:List i7)(k:Int):nk (a++b) k=nk a k+nk b k:=by unfold nk;rw [List.filter_append,List.length_append]
theorem a7z(d:i7)(k:Int):nk [d] k=if kindD d=k then 1 else 0:=by
 unfold nk
 by_cases h:kindD d=k
 ·rw [if_pos h];simp [h]
 ·rw [if_neg h];simp [h]
theorem c6X(l:List i7)(k:Int):nk l k≤l.length:=List.length_filter_le _ _
def lim(k:Int):Nat:=if k=2 then 16 else 32
def hasN(l:List i7)(s:ByteArray):Bool:=memS (l.map (·.f6)) s
def declT:List i7→List i7→Option (ByteArray×Int)
 | _,[]=>none
 | pre,d::r=>if hasN pre d.f6=true then some (d.f6,60) else if 1024 < d.N2 then some (d.f6,61) else if lim (kindD d) < nk (pre++[d]) (kindD d) then some (d.f6,62) else declT (pre++[d]) r
def kOf:List i7→ByteArray→Int
 | [],_=>0
 | d::r,s=>if d.f6=s then kindD d else kOf r s
theorem b8J:∀(l:List i7)(s:ByteArray),kOf l s≠0↔hasN l s=true
 | [],s=>by simp [kOf,hasN,memS]
 | d::r,s=>by
  have ih:=b8J r s
  rw [kOf]
  by_cases h:d.f6=s
  ·rw [if_pos h]
   have h2:hasN (d::r) s=true:=a4l.2 (by rw [List.map_cons,h];exact List.mem_cons_self)
   rw [h2]
   rcases a8j d with e | e<;>rw [e]<;>simp
  ·rw [if_neg h,ih]
   unfold hasN
   rw [a4l,a4l,List.map_cons,List.mem_cons]
   constructor
   ·exact .inr
   ·rintro (e | e)
    ·exact (h e.symm).elim
    ·exact e
theorem c2b:∀(l:List i7)(d:i7)(s:ByteArray),hasN l d.f6=false→kOf (l++[d]) s=if s=d.f6 then kindD d else kOf l s
 | [],d,s,_=>by
  rw [List.nil_append,kOf,kOf,kOf]
  by_cases h:d.f6=s
  ·rw [if_pos h,if_pos h.symm]
  ·rw [if_neg h,if_neg (fun e=>h e.symm)]
 | x::l,d,s,h=>by
  have hx:¬x.f6=d.f6:=fun e=>by
   have:hasN (x::l) d.f6=true:=a4l.2 (by rw [List.map_cons,e];exact List.mem_cons_self)
   rw [h] at this;cases this
  have hl:hasN l d.f6=false:=Bool.eq_false_iff.2 fun e=>by
   have:hasN (x::l) d.f6=true:=a4l.2 (by rw [List.map_cons];exact List.mem_cons_of_mem _ (a4l.1 e))
   rw [h] at this;cases this
  rw [List.cons_append,kOf,kOf,c2b l d s hl]
  by_cases e:x.f6=s
  ·rw [if_pos e,if_pos e,if_neg (fun q=>hx (by rw [e,q]))]
  ·rw [if_neg e,if_neg e]
abbrev kvS:ByteArray→Value:=fun s=>Value.string s
abbrev kvI:Int→Value:=fun n=>Value.int .i64 n
section
variable {H:Hp}
theorem c2c{d:i7}{K:Int→Hp→Prop}(h:K (kindD d) H):b0c d H K:=by
 refine b4w _ ?_
 unfold a7w
 unfold kindD at h
 exact ⟨fun e=>by rw [if_pos e] at h;exact h,fun e=>by rw [if_neg e] at h;exact h⟩
theorem c1g{s:Sl}{ds:List i7}(hs:SlH H 2 i5 s ds)(hb:ds.length≤big){K:Option Nat→ByteArray→Int→Hp→Prop}(h1:∀n e,declT [] ds=some (n,e)→K none n e H)
  (h2:declT [] ds=none→∀x H' kvs,Hle H H'→MapH H' kvS kvI x kvs→(∀n,(lk n kvs).getD 0=kOf ds n)→K x ⟨#[]⟩ 0 H'):a8g s H K:=by
 intro w I
 refine d0r ?_
 unfold F93
 have n1:=hs.1
 simp only [big] at hb
 refine b4L I fun gn w1 I1 k1=>?_
 refine b4L I1 fun gl w2 I2 k2=>?_
 refine b1f (vv:=kvI) (keyI Tryz.underlying3) Tryz.underlying172 I2 (MapEs.nil kvI kvI) 1 32 fun es3 c3 w3 he3 I3 k3=>?_
 refine b1f (vv:=kvI) (keyI Tryz.underlying3) Tryz.underlying172 I3 he3 2 16 fun es4 c4 w4 he4 I4 k4=>?_
 refine o6 fun j1 hx1=>?_
 refine c5 (a0V _ _ _) ?_
 refine L5 (J:=fun n l w'=>∃(i:Nat)(kn:List (ByteArray×Int))(kl:List (Int×Int))(en:Array MapEntry)(cn:Nat)(el:Array MapEntry)(cl:Nat),n=ds.length-i∧l=[vi (i:Int)]∧i≤ds.length∧Inv w (inF []) H H [[(gl,.map el cl)],[(gn,.map en cn)]] w'∧MapEs kvS kvI en kn∧MapEs kvI kvI el kl∧
  (∀n,(lk n kn).getD 0=kOf (ds.take i) n)∧(∀k,k=1∨k=2→(lk k kl).getD 0=(lim k:Int)-(nk (ds.take i) k:Int))∧(∀k,k=1∨k=2→nk (ds.take i) k≤lim k)∧declT [] ds=declT (ds.take i) (ds.drop i))
  ⟨_,0,[],_,_,_,_,_,rfl,rfl,Nat.zero_le _,I4,MapEs.nil _ _,he4,fun n=>rfl,fun k hk=>by rcases hk with rfl | rfl<;>rfl,fun k hk=>Nat.zero_le _,by rw [List.take_zero,List.drop_zero]⟩ ?_
 rintro n τ w5 next2 ⟨i,kn,kl,en,cn,el,cl,rfl,hl,hi,I5,hen,hel,hkn,hkl,hbd,hd⟩ hn2
 simp only [List.map_cons,List.map_nil,List.cons.injEq,and_true] at hl
 simp only [hl]
 unfold c4E
 refine c5 (u0 _ _ _ _ _ _) ?_
 refine a5a (fun c=>?_) (fun c=>?_)
 ·obtain ⟨x,hx,hE⟩:=hs.get (i:=(i:Int)) (by omega) (by omega)
  rw [Int.toNat_natCast] at hx
  obtain ⟨g,o,ha,hA⟩:=hE
  have hlt:=v1 hx
  have hdrop:ds.drop i=x::ds.drop (i+1):=by
   rw [List.drop_eq_getElem_cons hlt];congr 1
   rw [List.getElem?_eq_getElem hlt] at hx;exact Option.some.inj hx
  have htk:ds.take (i+1)=ds.take i++[x]:=K9 hx
  rw [hdrop,declT] at hd
  have hkc:=a8j x
  refine c5 (U7 ha _ _ _ _ (by omega) (by omega)) ?_
  refine c6 (ldA (vs:=i5 x) Tryz.isAgg70 Tryz.sizeOf70 rfl (I5.atH hA)) ?_
  refine u4 I5 Tryz.zeroValue70 (cs:=[(Value.string ⟨#[]⟩),(vi 0)]) rfl fun g6 w6 I6 k6=>?_
  refine W5 I6 Tryz.sizeOf70 (vs:=i5 x) (cs':=i5 x) rfl rfl (nb rfl) rfl rfl fun w7 I7 k7=>?_
  refine c6 (ldA (vs:=i5 x) Tryz.isAgg70 Tryz.sizeOf70 rfl (I7.at1 (o:=0) (nb rfl) rfl)) ?_
  refine a5T (cap:=[]) (fun args w=>Tryz.call65 args w) ?_
  refine a5D (Fi:=[]) (Fr:=[bx g6 70 (i5 x),[(gl,.map el cl)],[(gn,.map en cn)]]) I7 (c2c (K:=fun r H'=>r=kindD x∧H'=H) ⟨rfl,rfl⟩) (fun v H8 Fo w8 I8 l8 k8 q=>?_) (fun _ _ _ _ _ q=>q.elim)
  obtain ⟨r,rfl,rfl,rfl,rfl⟩:=q
  refine b6G (vv:=kvI) (keyI Tryz.underlying3) Tryz.underlying172 (z:=0) Tryz.zeroValue3 (I8.bring 1) hel (kindD x) ?_
  refine c5 (a7n _ _ _ _ _ _) ?_
  refine b1f (vv:=kvI) (keyI Tryz.underlying3) Tryz.underlying172 (I8.bring 1) hel (kindD x) _ fun es9 c9 w9 he9 I9 k9=>?_
  refine c5 T8 ?_
  refine c6 (ld1 Tryz.isAgg9 ((I9.bring 1).at1 (o:=0) (vs:=[(Value.string x.f6)]) (nb rfl) rfl)) ?_
  refine b6G (vv:=kvI) (keyS Tryz.underlying9) Tryz.underlying66 (z:=0) Tryz.zeroValue3 (I9.bring 2) hen x.f6 ?_
  rw [hkn]
  refine c5 (W2 _ _ _ _ _ _) ?_
  refine a5b (fun c2=>?_) (fun c2=>?_)
  ·have hn:hasN (ds.take i) x.f6=true:=(b8J _ _).1 (by simpa using c2)
   rw [if_pos hn] at hd
   refine Q9 I9 fun w10 I10=>?_
   refine g8 T8 ?_
   refine p6 (ld1 Tryz.isAgg9 ((I10.bring 1).at1 (o:=0) (vs:=[(Value.string x.f6)]) (nb rfl) rfl)) ?_
   exact ⟨_,[],I10.drop.drop.drop,none,x.f6,60,rfl,rfl,h1 _ _ hd⟩
  have hn:hasN (ds.take i) x.f6=false:=Bool.eq_false_iff.2 fun e=>by have:=(b8J _ _).2 e;simp [this] at c2
  rw [if_neg (by rw [hn];decide)] at hd
  refine c5 a2f ?_
  refine c6 (ld1 Tryz.isAgg3 ((I9.bring 1).at1 (o:=1) (vs:=[(vi x.N2)]) (nb rfl) rfl)) ?_
  refine c5 (Y1 _ _ _ _ _ _) ?_
  refine a5a (fun c3=>?_) (fun c3=>?_)
  ·rw [if_pos c3] at hd
   refine Q9 I9 fun w10 I10=>?_
   refine g8 T8 ?_
   refine p6 (ld1 Tryz.isAgg9 ((I10.bring 1).at1 (o:=0) (vs:=[(Value.string x.f6)]) (nb rfl) rfl)) ?_
   exact ⟨_,[],I10.drop.drop.drop,none,x.f6,61,rfl,rfl,h1 _ _ hd⟩
  rw [if_neg c3] at hd
  refine b6G (vv:=kvI) (keyI Tryz.underlying3) Tryz.underlying172 (z:=0) Tryz.zeroValue3 I9 he9 (kindD x) ?_
  have hbx:=hbd _ hkc
  have hlim:lim (kindD x)≤32:=by unfold lim;split<;>decide
  have hsub:IntKind.wrap .i64 ((lk (kindD x) kl).getD 0-1)=(lim (kindD x):Int)-(nk (ds.take (i+1)) (kindD x):Int):=by
   rw [hkl _ hkc,htk,a6U,a7z,if_pos rfl,N7 ⟨by omega,by omega⟩];omega
  rw [b2N,if_pos rfl]
  refine c5 (u0 _ _ _ _ _ _) ?_
  refine a5a (fun c4=>?_) (fun c4=>?_)
  ·have c4':lim (kindD x) < nk (ds.take i++[x]) (kindD x):=by
    rw [←htk]
    have:((lim (kindD x):Int)-(nk (ds.take (i+1)) (kindD x):Int)) < 0:=by rw [←hsub];exact c4
    omega
   rw [if_pos c4'] at hd
   refine Q9 I9 fun w10 I10=>?_
   refine g8 T8 ?_
   refine p6 (ld1 Tryz.isAgg9 ((I10.bring 1).at1 (o:=0) (vs:=[(Value.string x.f6)]) (nb rfl) rfl)) ?_
   exact ⟨_,[],I10.drop.drop.drop,none,x.f6,62,rfl,rfl,h1 _ _ hd⟩
  have c4':¬lim (kindD x) < nk (ds.take i++[x]) (kindD x):=fun e=>c4 (by
   rw [←htk] at e
   show IntKind.wrap .i64 ((lk (kindD x) kl).getD 0-1) < 0
   rw [hsub];omega)
  rw [if_neg c4',← htk] at hd
  refine c5 T8 ?_
  refine c6 (ld1 Tryz.isAgg9 ((I9.bring 1).at1 (o:=0) (vs:=[(Value.string x.f6)]) (nb rfl) rfl)) ?_
  refine b1f (vv:=kvI) (keyS Tryz.underlying9) Tryz.underlying66 (I9.bring 2) hen x.f6 (kindD x) fun es10 c10 w10 he10 I10 k10=>?_
  refine c5 (o8 _ _ _ _ _ _) ?_
  rw [q6 (by omega) (by omega)]
  refine hn2 _ _ _ (show ds.length-(i+1) < ds.length-i by omega) ⟨i+1,_,_,_,_,_,_,rfl,rfl,hlt,(I10.bring 2).drop.bring 1,he10,he9,fun n=>?_,fun k hk=>?_,fun k hk=>?_,hd⟩
  ·rw [b2N,htk,c2b _ _ _ hn]
   by_cases e:n=x.f6
   ·rw [if_pos e,if_pos e];rfl
   ·rw [if_neg e,if_neg e];exact hkn n
  ·rw [b2N]
   by_cases e:k=kindD x
   ·rw [if_pos e,e];exact hsub
   ·rw [if_neg e,htk,a6U,a7z,if_neg (fun q=>e q.symm),Nat.add_zero];exact hkl k hk
  ·by_cases e:k=kindD x
   ·rw [e,htk];omega
   ·rw [htk,a6U,a7z,if_neg (fun q=>e q.symm),Nat.add_zero];exact hbd k hk
 ·refine hx1 _ _ ?_
  unfold c4D
  intro _
  have e:ds.take i=ds:=List.take_of_length_le (by omega)
  have e2:ds.drop i=[]:=List.drop_eq_nil_of_le (by omega)
  rw [e2,declT] at hd
  rw [e] at hkn
  obtain ⟨I6,l6,h6⟩:=(I5.bring 1).freeze
  exact ⟨_,[],I6.drop,some gn,⟨#[]⟩,0,rfl,rfl,h2 hd _ _ kn l6 ⟨gn,en,cn,rfl,h6 _ (List.mem_cons_self ..),hen⟩ hkn⟩
end
end Go.Proofs.YtaokfhdinhimfaaGreatDoor
