/- What the rows of the trees share: the tables that the rows list hold what the walks ask; a world for the witness. -/
import Derived.Test.YthaaobpfbgcfiaaGreatDoorCards
import Derived.Test.YthaaobpfbgcfiaaGreatDoorTie
import Derived.ShutString
import Derived.Deep.DeepHandedRow
import Derived.Lib.LaidU8T
import Derived.Lay
import Derived.ChangeMaps5
import Derived.Test.YthaaobpfbgcfiaaGreatDooryWN1
namespace Go.Proofs.YthaaobpfbgcfiaaGreatDoor
open Go.ChangeShapes Go.WideShapes Go.ChangeAt Go.RowKit Go.Shelf
theorem own:ownKnob Tryz.prog.godebug=none:=by kernel_rfl
theorem laidOut:laidOutB Tryz.prog=true:=by kernel_rfl
abbrev listed : List (String × DataW Unit) := [("unicode/utf8.acceptRanges", Rows.laid_unicode_utf8_acceptRanges), ("unicode/utf8.first", Rows.laid_unicode_utf8_first)]
theorem u8x:U8Extra Tryz.prog Tryz.b4O:=⟨by kernel_rfl,by kernel_rfl,by kernel_rfl,by kernel_rfl,by kernel_rfl,by kernel_rfl,by kernel_rfl⟩
theorem firstEq:Rows.laid_unicode_utf8_first=Lib.firstData:=by kernel_rfl
theorem acceptEq:(Rows.laid_unicode_utf8_acceptRanges:DataW Unit)=Lib.acceptData:=by kernel_rfl
theorem b8Z{W:World}(h:laidMetH Tryz.prog listed W):Lib.Utf8Tabs 0 1 W:=by
 rw [MakeChecks.laidMetH_plain _ _ _ (by kernel_rfl)] at h
 exact utf8Tabs_of_readsT (U8Types.of196 Tryz.c0K) u8x (firstEq ▸ Lib.laidMet.reads h (.tail _ (.head _))) (acceptEq ▸ Lib.laidMet.reads h (.head _))
theorem b1y{W w:World}(s:Sub (hpW W) w){a:Addr}{v:Value}(h:W.cell? a=some v):w.cell? a=some v:=by
 have hb:∀o,W.heap[a.block]? = some o→w.heap[a.block]? = some o:=fun o h=>s _ o h
 unfold World.cell? at h ⊢
 cases hq:W.heap[a.block]? with
 | none=>rw [hq] at h;cases h
 | some o=>rw [hq] at h;rw [hb o hq];exact h
theorem c5m{W:World}(h:Lib.Utf8Tabs 0 1 W):TabsH (hpW W):=fun w s=>
 ⟨fun c hc=>b1y s (h.1 c hc),fun i hi=>⟨b1y s (h.2 i hi).1,b1y s (h.2 i hi).2⟩⟩
noncomputable def wit(os:Os):World:=World.laidAll Tryz.prog os listed
theorem c8x(os:Os)(args:Array Value):laidMetH Tryz.prog listed ((wit os).forCall (fun _ _=>0) ⟨#[],args,[]⟩).memory:=by
 rw [MakeChecks.laidMetH_plain _ _ _ (by kernel_rfl)]
 exact laidMet_laidAll _ (by kernel_rfl) (by kernel_rfl)
theorem c8y{H:Type}{enc:TypeId×Value→H}{f:FuncId}{fn:Func}{s:OpenSpec}{conds:List PathCond}(os:Os)(args:Array Value)
  (hsh:((wit os).forCall (fun _ _=>0) ⟨#[],args,[]⟩).Shaped Tryz.prog)
  (hok:Input.okWideB Tryz.checked.prog ((wit os).forCall (fun _ _=>0) ⟨#[],args,[]⟩) f ⟨#[],args,[]⟩=true)
  (hrow:s.preRow enc Tryz.checked.prog fn conds false listed ((wit os).forCall (fun _ _=>0) ⟨#[],args,[]⟩).memory args):
  ∃(w:World)(tape:Tape)(i:Input),w.os=os∧(w.forCall tape i).Shaped Tryz.checked.prog∧i.vars=[]∧Input.okWide Tryz.checked.prog (w.forCall tape i) .any w.heap.size f i∧
   s.preRow enc Tryz.checked.prog fn conds false listed (w.forCall tape i).memory i.args∧({}:Assume).holds Tryz.checked.prog (lone (Frame.enter Tryz.checked.prog f i.args .normal) [] (w.forCall tape i)):=
 ⟨wit os,fun _ _=>0,⟨#[],args,[]⟩,World.laidAll_os _ _ _,hsh,(Input.okWide_of_okWideB (base:=0) hok).1,(Input.okWide_of_okWideB hok).2,hrow,by
  simp only [Assume.holds]
  exact ⟨by simp,by simp,fun _=>Modest.zero,by simp,by simp⟩⟩
open Go.RowKit
set_option maxRecDepth 100000
set_option maxHeartbeats 2000000
def kindD(d:j7):Int:=if 0 < d.C1 then 2 else 1
theorem b1z(d:j7):kindD d=1∨kindD d=2:=by unfold kindD;split<;>simp
def nk(l:List j7)(k:Int):Nat:=(l.filter fun d=>decide (kindD d=k)).length
theorem b1T(a b:List j7)(k:Int):nk (a++b) k=nk a k+nk b k:=by unfold nk;rw [List.filter_append,List.length_append]
theorem b3U(d:j7)(k:Int):nk [d] k=if kindD d=k then 1 else 0:=by
 unfold nk
 by_cases h:kindD d=k
 ·rw [if_pos h];simp [h]
 ·rw [if_neg h];simp [h]
def lim(k:Int):Nat:=if k=2 then 16 else 32
def hasN(l:List j7)(s:ByteArray):Bool:=memS (l.map (·.f8)) s
def declT:List j7→List j7→Option (ByteArray×Int)
 | _,[]=>none
 | pre,d::r=>if hasN pre d.f8=true then some (d.f8,60) else if 1024 < d.C1 then some (d.f8,61) else if lim (kindD d) < nk (pre++[d]) (kindD d) then some (d.f8,62) else declT (pre++[d]) r
def kOf:List j7→ByteArray→Int
 | [],_=>0
 | d::r,s=>if d.f8=s then kindD d else kOf r s
theorem c1V:∀(l:List j7)(s:ByteArray),kOf l s≠0↔hasN l s=true
 | [],s=>by simp [kOf,hasN,memS]
 | d::r,s=>by
  have ih:=c1V r s
  rw [kOf]
  by_cases h:d.f8=s
  ·rw [if_pos h]
   have h2:hasN (d::r) s=true:=a2S.2 (by rw [List.map_cons,h];exact List.mem_cons_self)
   rw [h2]
   rcases b1z d with e | e<;>rw [e]<;>simp
  ·rw [if_neg h,ih]
   unfold hasN
   rw [a2S,a2S,List.map_cons,List.mem_cons]
   constructor
   ·exact .inr
   ·rintro (e | e)
    ·exact (h e.symm).elim
    ·exact e
theorem c0R:∀(l:List j7)(d:j7)(s:ByteArray),hasN l d.f8=false→kOf (l++[d]) s=if s=d.f8 then kindD d else kOf l s
 | [],d,s,_=>by
  rw [List.nil_append,kOf,kOf,kOf]
  by_cases h:d.f8=s
  ·rw [if_pos h,if_pos h.symm]
  ·rw [if_neg h,if_neg (fun e=>h e.symm)]
 | x::l,d,s,h=>by
  have hx:¬x.f8=d.f8:=fun e=>by
   have:hasN (x::l) d.f8=true:=a2S.2 (by rw [List.map_cons,e];exact List.mem_cons_self)
   rw [h] at this;cases this
  have hl:hasN l d.f8=false:=Bool.eq_false_iff.2 fun e=>by
   have:hasN (x::l) d.f8=true:=a2S.2 (by rw [List.map_cons];exact List.mem_cons_of_mem _ (a2S.1 e))
   rw [h] at this;cases this
  rw [List.cons_append,kOf,kOf,c0R l d s hl]
  by_cases e:x.f8=s
  ·rw [if_pos e,if_pos e,if_neg (fun q=>hx (by rw [e,q]))]
  ·rw [if_neg e,if_neg e]
abbrev kvS:ByteArray→Value:=fun s=>Value.string s
abbrev kvI:Int→Value:=fun n=>Value.int .i64 n
section
variable {H:Hp}
theorem c0S{d:j7}{K:Int→Hp→Prop}(h:K (kindD d) H):a8w d H K:=by
 refine b3L _ ?_
 unfold a8C
 unfold kindD at h
 exact ⟨fun e=>by rw [if_pos e] at h;exact h,fun e=>by rw [if_neg e] at h;exact h⟩
theorem b9Y{s:Sl}{ds:List j7}(hs:SlH H 2 m3 s ds)(hb:ds.length≤big){K:Option Nat→ByteArray→Int→Hp→Prop}(h1:∀n e,declT [] ds=some (n,e)→K none n e H)
  (h2:declT [] ds=none→∀x H' kvs,Hle H H'→MapH H' kvS kvI x kvs→(∀n,(lk n kvs).getD 0=kOf ds n)→K x ⟨#[]⟩ 0 H'):a6F s H K:=by
 intro w I
 refine c9V ?_
 unfold F22
 have n1:=hs.1
 simp only [big] at hb
 refine a9T I fun gn w1 I1 k1=>?_
 refine a9T I1 fun gl w2 I2 k2=>?_
 refine a6Z (vv:=kvI) (keyI Tryz.underlying3) Tryz.underlying119 I2 (MapEs.nil kvI kvI) 1 32 fun es3 c3 w3 he3 I3 k3=>?_
 refine a6Z (vv:=kvI) (keyI Tryz.underlying3) Tryz.underlying119 I3 he3 2 16 fun es4 c4 w4 he4 I4 k4=>?_
 refine v6 fun j1 hx1=>?_
 refine b6 (a1U _ _ _) ?_
 refine K7 (J:=fun n l w'=>∃(i:Nat)(kn:List (ByteArray×Int))(kl:List (Int×Int))(en:Array MapEntry)(cn:Nat)(el:Array MapEntry)(cl:Nat),n=ds.length-i∧l=[vi (i:Int)]∧i≤ds.length∧Inv w (inF []) H H [[(gl,.map el cl)],[(gn,.map en cn)]] w'∧MapEs kvS kvI en kn∧MapEs kvI kvI el kl∧
  (∀n,(lk n kn).getD 0=kOf (ds.take i) n)∧(∀k,k=1∨k=2→(lk k kl).getD 0=(lim k:Int)-(nk (ds.take i) k:Int))∧(∀k,k=1∨k=2→nk (ds.take i) k≤lim k)∧declT [] ds=declT (ds.take i) (ds.drop i))
  ⟨_,0,[],_,_,_,_,_,rfl,rfl,Nat.zero_le _,I4,MapEs.nil _ _,he4,fun n=>rfl,fun k hk=>by rcases hk with rfl | rfl<;>rfl,fun k hk=>Nat.zero_le _,by rw [List.take_zero,List.drop_zero]⟩ ?_
 rintro n τ w5 next2 ⟨i,kn,kl,en,cn,el,cl,rfl,hl,hi,I5,hen,hel,hkn,hkl,hbd,hd⟩ hn2
 simp only [List.map_cons,List.map_nil,List.cons.injEq,and_true] at hl
 simp only [hl]
 unfold c3c
 refine b6 (A4 _ _ _ _ _ _) ?_
 refine D7 (fun c=>?_) (fun c=>?_)
 ·obtain ⟨x,hx,hE⟩:=hs.get (i:=(i:Int)) (by omega) (by omega)
  rw [Int.toNat_natCast] at hx
  obtain ⟨g,o,ha,hA⟩:=hE
  have hlt:=C3 hx
  have hdrop:ds.drop i=x::ds.drop (i+1):=by
   rw [List.drop_eq_getElem_cons hlt];congr 1
   rw [List.getElem?_eq_getElem hlt] at hx;exact Option.some.inj hx
  have htk:ds.take (i+1)=ds.take i++[x]:=L0 hx
  rw [hdrop,declT] at hd
  have hkc:=b1z x
  refine b6 (a2g ha _ _ _ _ (by omega) (by omega)) ?_
  refine d4 (ldA (vs:=m3 x) Tryz.isAgg58 Tryz.sizeOf58 rfl (I5.atH hA)) ?_
  refine s6 I5 Tryz.zeroValue58 (cs:=[(Value.string ⟨#[]⟩),(vi 0)]) rfl fun g6 w6 I6 k6=>?_
  refine E8 I6 Tryz.sizeOf58 (vs:=m3 x) (cs':=m3 x) rfl rfl (nb rfl) rfl rfl fun w7 I7 k7=>?_
  refine d4 (ldA (vs:=m3 x) Tryz.isAgg58 Tryz.sizeOf58 rfl (I7.at1 (o:=0) (nb rfl) rfl)) ?_
  refine q9 (cap:=[]) (fun args w=>Tryz.call47 args w) ?_
  refine O2 (Fi:=[]) (Fr:=[bx g6 58 (m3 x),[(gl,.map el cl)],[(gn,.map en cn)]]) I7 (c0S (K:=fun r H'=>r=kindD x∧H'=H) ⟨rfl,rfl⟩) (fun v H8 Fo w8 I8 l8 k8 q=>?_) (fun _ _ _ _ _ q=>q.elim)
  obtain ⟨r,rfl,rfl,rfl,rfl⟩:=q
  refine b6I (vv:=kvI) (keyI Tryz.underlying3) Tryz.underlying119 (z:=0) Tryz.zeroValue3 (I8.bring 1) hel (kindD x) ?_
  refine b6 (b0d _ _ _ _ _ _) ?_
  refine a6Z (vv:=kvI) (keyI Tryz.underlying3) Tryz.underlying119 (I8.bring 1) hel (kindD x) _ fun es9 c9 w9 he9 I9 k9=>?_
  refine b6 W4 ?_
  refine d4 (ld1 Tryz.isAgg9 ((I9.bring 1).at1 (o:=0) (vs:=[(Value.string x.f8)]) (nb rfl) rfl)) ?_
  refine b6I (vv:=kvI) (keyS Tryz.underlying9) Tryz.underlying68 (z:=0) Tryz.zeroValue3 (I9.bring 2) hen x.f8 ?_
  rw [hkn]
  refine b6 (O8 _ _ _ _ _ _) ?_
  refine N9 (fun c2=>?_) (fun c2=>?_)
  ·have hn:hasN (ds.take i) x.f8=true:=(c1V _ _).1 (by simpa using c2)
   rw [if_pos hn] at hd
   refine C6 I9 fun w10 I10=>?_
   refine d6 W4 ?_
   refine i8 (ld1 Tryz.isAgg9 ((I10.bring 1).at1 (o:=0) (vs:=[(Value.string x.f8)]) (nb rfl) rfl)) ?_
   exact ⟨_,[],I10.drop.drop.drop,none,x.f8,60,rfl,rfl,h1 _ _ hd⟩
  have hn:hasN (ds.take i) x.f8=false:=Bool.eq_false_iff.2 fun e=>by have:=(c1V _ _).2 e;simp [this] at c2
  rw [if_neg (by rw [hn];decide)] at hd
  refine b6 a0X ?_
  refine d4 (ld1 Tryz.isAgg3 ((I9.bring 1).at1 (o:=1) (vs:=[(vi x.C1)]) (nb rfl) rfl)) ?_
  refine b6 (O1 _ _ _ _ _ _) ?_
  refine D7 (fun c3=>?_) (fun c3=>?_)
  ·rw [if_pos c3] at hd
   refine C6 I9 fun w10 I10=>?_
   refine d6 W4 ?_
   refine i8 (ld1 Tryz.isAgg9 ((I10.bring 1).at1 (o:=0) (vs:=[(Value.string x.f8)]) (nb rfl) rfl)) ?_
   exact ⟨_,[],I10.drop.drop.drop,none,x.f8,61,rfl,rfl,h1 _ _ hd⟩
  rw [if_neg c3] at hd
  refine b6I (vv:=kvI) (keyI Tryz.underlying3) Tryz.underlying119 (z:=0) Tryz.zeroValue3 I9 he9 (kindD x) ?_
  have hbx:=hbd _ hkc
  have hlim:lim (kindD x)≤32:=by unfold lim;split<;>decide
  have hsub:IntKind.wrap .i64 ((lk (kindD x) kl).getD 0-1)=(lim (kindD x):Int)-(nk (ds.take (i+1)) (kindD x):Int):=by
   rw [hkl _ hkc,htk,b1T,b3U,if_pos rfl,Y2 ⟨by omega,by omega⟩];omega
  rw [a7Z,if_pos rfl]
  refine b6 (A4 _ _ _ _ _ _) ?_
  refine D7 (fun c4=>?_) (fun c4=>?_)
  ·have c4':lim (kindD x) < nk (ds.take i++[x]) (kindD x):=by
    rw [←htk]
    have:((lim (kindD x):Int)-(nk (ds.take (i+1)) (kindD x):Int)) < 0:=by rw [←hsub];exact c4
    omega
   rw [if_pos c4'] at hd
   refine C6 I9 fun w10 I10=>?_
   refine d6 W4 ?_
   refine i8 (ld1 Tryz.isAgg9 ((I10.bring 1).at1 (o:=0) (vs:=[(Value.string x.f8)]) (nb rfl) rfl)) ?_
   exact ⟨_,[],I10.drop.drop.drop,none,x.f8,62,rfl,rfl,h1 _ _ hd⟩
  have c4':¬lim (kindD x) < nk (ds.take i++[x]) (kindD x):=fun e=>c4 (by
   rw [←htk] at e
   show IntKind.wrap .i64 ((lk (kindD x) kl).getD 0-1) < 0
   rw [hsub];omega)
  rw [if_neg c4',← htk] at hd
  refine b6 W4 ?_
  refine d4 (ld1 Tryz.isAgg9 ((I9.bring 1).at1 (o:=0) (vs:=[(Value.string x.f8)]) (nb rfl) rfl)) ?_
  refine a6Z (vv:=kvI) (keyS Tryz.underlying9) Tryz.underlying68 (I9.bring 2) hen x.f8 (kindD x) fun es10 c10 w10 he10 I10 k10=>?_
  refine b6 (B0 _ _ _ _ _ _) ?_
  rw [D6 (by omega) (by omega)]
  refine hn2 _ _ _ (show ds.length-(i+1) < ds.length-i by omega) ⟨i+1,_,_,_,_,_,_,rfl,rfl,hlt,(I10.bring 2).drop.bring 1,he10,he9,fun n=>?_,fun k hk=>?_,fun k hk=>?_,hd⟩
  ·rw [a7Z,htk,c0R _ _ _ hn]
   by_cases e:n=x.f8
   ·rw [if_pos e,if_pos e];rfl
   ·rw [if_neg e,if_neg e];exact hkn n
  ·rw [a7Z]
   by_cases e:k=kindD x
   ·rw [if_pos e,e];exact hsub
   ·rw [if_neg e,htk,b1T,b3U,if_neg (fun q=>e q.symm),Nat.add_zero];exact hkl k hk
  ·by_cases e:k=kindD x
   ·rw [e,htk];omega
   ·rw [htk,b1T,b3U,if_neg (fun q=>e q.symm),Nat.add_zero];exact hbd k hk
 ·refine hx1 _ _ ?_
  unfold c3b
  intro _
  have e:ds.take i=ds:=List.take_of_length_le (by omega)
  have e2:ds.drop i=[]:=List.drop_eq_nil_of_le (by omega)
  rw [e2,declT] at hd
  rw [e] at hkn
  obtain ⟨I6,l6,h6⟩:=(I5.bring 1).freeze
  exact ⟨_,[],I6.drop,some gn,⟨#[]⟩,0,rfl,rfl,h2 hd _ _ kn l6 ⟨gn,en,cn,rfl,h6 _ (List.mem_cons_self ..),hen⟩ hkn⟩
end
end Go.Proofs.YthaaobpfbgcfiaaGreatDoor
