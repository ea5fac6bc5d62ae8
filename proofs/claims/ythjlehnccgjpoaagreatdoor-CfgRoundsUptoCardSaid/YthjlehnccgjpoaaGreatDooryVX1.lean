/- Lemmas. -/
import Derived.Test.YthjlehnccgjpoaaGreatDoorCards
import Derived.Test.YthjlehnccgjpoaaGreatDoorTie
import Derived.ShutString
import Derived.Deep.DeepHandedRow
import Derived.Lib.LaidU8T
import Derived.Lib.LaidTab
import Derived.Lay
import Derived.ChangeMaps5
import Derived.Stop.LaidErr
import Derived.Test.YthjlehnccgjpoaaGreatDooryVI2
namespace Go.Proofs.YthjlehnccgjpoaaGreatDoor
open Go.ChangeShapes Go.WideShapes Go.ChangeAt Go.RowKit Go.Shelf
theorem own:ownKnob Tryz.prog.godebug=none:=by kernel_rfl
theorem laidOut:laidOutB Tryz.prog=true:=by kernel_rfl
abbrev listed : List (String × DataW Unit) := [("math/bits.deBruijn32tab", Rows.laid_math_bits_deBruijn32tab), ("math/bits.deBruijn64tab", Rows.laid_math_bits_deBruijn64tab), ("internal/strconv.uint64pow10", Rows.laid_internal_strconv_uint64pow10), ("unicode/utf8.acceptRanges", Rows.laid_unicode_utf8_acceptRanges), ("strconv.ErrRange", Rows.laid_strconv_ErrRange), ("strconv.ErrSyntax", Rows.laid_strconv_ErrSyntax), ("unicode/utf8.first", Rows.laid_unicode_utf8_first)]
theorem u8x:U8Extra Tryz.prog Tryz.c1g:=⟨by kernel_rfl,by kernel_rfl,by kernel_rfl,by kernel_rfl,by kernel_rfl,by kernel_rfl,by kernel_rfl⟩
theorem firstEq:Rows.laid_unicode_utf8_first=Lib.firstData:=by kernel_rfl
theorem acceptEq:(Rows.laid_unicode_utf8_acceptRanges:DataW Unit)=Lib.acceptData:=by kernel_rfl
theorem powEq:(Rows.laid_internal_strconv_uint64pow10:DataW Unit)=Lib.tabData .u64 Lib.pow10Tab:=by kernel_rfl
theorem starE : "*" ++ "errors.errorString" = "*errors.errorString" := by decide
theorem rowE (u : TypeId) (h : Tryz.prog.typeName? 3 u = some "*errors.errorString") : u = 278 :=
 typeName_ptr_named (nm := "errors.errorString") (by rw [starE]; kernel_rfl) (by kernel_rfl) (by decide) u (by rw [starE]; exact h)
def ErrW(W:World):Prop:=∃(tp:TypeId)(x:Value),W.cell? ⟨7,0,none⟩=some (.iface tp x)
theorem c6T {W : World} (h : laidMetH Tryz.prog listed W) : Lib.Utf8Tabs 1 2 W /\ ErrW W /\ Lib.TabIs Tryz.prog W "internal/strconv.uint64pow10" .u64 Lib.pow10Tab := by
 rw [MakeChecks.laidMetH_plain _ _ _ (by kernel_rfl)] at h
 refine ⟨utf8Tabs_of_readsT (U8Types.of196 Tryz.c9I) u8x (firstEq ▸ Lib.laidMet.reads h (.tail _ (.tail _ (.tail _ (.tail _ (.tail _ (.tail _ (.head _)))))))) (acceptEq ▸ Lib.laidMet.reads h (.tail _ (.tail _ (.tail _ (.head _))))),?_,?_⟩
 ·have hg : Tryz.prog.globalNamed "strconv.ErrRange" = some 7 := by kernel_rfl
  obtain ⟨a0,s0,hv0,-,-,-⟩:=laid_sentinel h.tail.tail.tail.tail hg (show (Tryz.prog.globals[7]?).map (·.type)=some 156 by kernel_rfl) Tryz.underlying156 rowE Tryz.underlying278 Tryz.underlying280 rfl rfl Tryz.underlying9 (by kernel_rfl) (by kernel_rfl)
  exact ⟨_,_,by have h0:=World.var?_cell hg hv0 0;simpa using h0⟩
 ·have h2:=h.tail.tail
  rw [powEq] at h2
  exact Lib.tabIs_of_head (g:=0) (by kernel_rfl) (show (Tryz.prog.globals[0]?).map (·.type)=some 242 by kernel_rfl) Tryz.underlying242 Tryz.underlying208 (by kernel_rfl) (by kernel_rfl) h2
theorem b2Q{W w:World}(s:Sub (hpW W) w){a:Addr}{v:Value}(h:W.cell? a=some v):w.cell? a=some v:=by
 have hb:∀o,W.heap[a.block]? = some o->w.heap[a.block]? = some o:=λo h=>s _ o h
 unfold World.cell? at h ⊢
 cases hq:W.heap[a.block]? with
 | none=>rw [hq] at h;cases h
 | some o=>rw [hq] at h;rw [hb o hq];exact h
theorem d5U{W:World}(h:Lib.Utf8Tabs 1 2 W):TabsH (hpW W):=λw s=>
 ⟨λc hc=>b2Q s (h.1 c hc),λi hi=>⟨b2Q s (h.2 i hi).1,b2Q s (h.2 i hi).2⟩⟩
theorem e0C{W:World}(h:ErrW W):ErrH (hpW W):=by
 obtain ⟨tp,x,h⟩:=h
 exact ⟨tp,x,λw s=>b2Q s h⟩
theorem e0D {W : World} (h : Lib.TabIs Tryz.prog W "internal/strconv.uint64pow10" .u64 Lib.pow10Tab) : PowH (hpW W) := λw s => by
 unfold Lib.TabIs World.var? at h ⊢
 rw [show Tryz.prog.globalNamed "internal/strconv.uint64pow10" = some 0 by kernel_rfl] at h ⊢
 simp only [Option.bind_some] at h ⊢
 cases hq:W.heap[0]? with
 | none=>rw [hq] at h;cases h
 | some o=>rw [hq] at h;rw [s 0 o hq];exact h
noncomputable def wit(os:Os):World:=World.laidAll Tryz.prog os listed
theorem e0E(os:Os)(args:Array Value):laidMetH Tryz.prog listed ((wit os).forCall (λ_ _=>0) ⟨#[],args,[]⟩).memory:=by
 rw [MakeChecks.laidMetH_plain _ _ _ (by kernel_rfl)]
 exact laidMet_laidAll _ (by kernel_rfl) (by kernel_rfl)
theorem e0F{H:Type}{enc:TypeId×Value->H}{f:FuncId}{fn:Func}{s:OpenSpec}{conds:List PathCond}(os:Os)(args:Array Value)
  (hsh:((wit os).forCall (λ_ _=>0) ⟨#[],args,[]⟩).Shaped Tryz.prog)
  (hok:Input.okWideB Tryz.checked.prog ((wit os).forCall (λ_ _=>0) ⟨#[],args,[]⟩) f ⟨#[],args,[]⟩=true)
  (hrow:s.preRow enc Tryz.checked.prog fn conds false listed ((wit os).forCall (λ_ _=>0) ⟨#[],args,[]⟩).memory args):
  ∃(w:World)(tape:Tape)(i:Input),w.os=os/\(w.forCall tape i).Shaped Tryz.checked.prog/\i.vars=[]/\Input.okWide Tryz.checked.prog (w.forCall tape i) .any w.heap.size f i/\
   s.preRow enc Tryz.checked.prog fn conds false listed (w.forCall tape i).memory i.args/\({}:Assume).holds Tryz.checked.prog (lone (Frame.enter Tryz.checked.prog f i.args .normal) [] (w.forCall tape i)):=
 ⟨wit os,λ_ _=>0,⟨#[],args,[]⟩,World.laidAll_os _ _ _,hsh,(Input.okWide_of_okWideB (base:=0) hok).1,(Input.okWide_of_okWideB hok).2,hrow,by
  simp only [Assume.holds]
  exact ⟨by simp,by simp,λ_=>Modest.zero,by simp,by simp⟩⟩
open Go.Proofs.Tryz Go.RowKit
set_option maxRecDepth 100000
set_option maxHeartbeats 2000000
def kindD(d:j9):Int:=if 0 < d.D2 then 2 else 1
theorem b6M(d:j9):kindD d=1\/kindD d=2:=by unfold kindD;split<;>simp
def nk(l:List j9)(k:Int):Nat:=(l.filter λd=>decide (kindD d=k)).length
theorem b7x(a b:List j9)(k:Int):nk (a++b) k=nk a k+nk b k:=by unfold nk;rw [List.filter_append,List.length_append]
theorem b9I(d:j9)(k:Int):nk [d] k=if kindD d=k then 1 else 0:=by
 unfold nk
 by_cases h:kindD d=k
 ·rw [if_pos h];simp [h]
 ·rw [if_neg h];simp [h]
def qlim(k:Int):Nat:=if k=2 then 16 else 32
def hasN(l:List j9)(s:BA):Bool:=memS (l.map (·.o7)) s
def qdeclT:List j9->List j9->Option (BA×Int)
 | _,[]=>none
 | pre,d::r=>if hasN pre d.o7=true then some (d.o7,60) else if 1024 < d.D2 then some (d.o7,61) else if qlim (kindD d) < nk (pre++[d]) (kindD d) then some (d.o7,62) else qdeclT (pre++[d]) r
def kOf:List j9->BA->Int
 | [],_=>0
 | d::r,s=>if d.o7=s then kindD d else kOf r s
theorem d1k:∀(l:List j9)(s:BA),kOf l s≠0↔hasN l s=true
 | [],s=>by simp [kOf,hasN,memS]
 | d::r,s=>by
  have ih:=d1k r s
  rw [kOf]
  by_cases h:d.o7=s
  ·rw [if_pos h]
   have h2:hasN (d::r) s=true:=a6l.2 (by rw [List.map_cons,h];exact List.mem_cons_self)
   rw [h2]
   rcases b6M d with e | e<;>rw [e]<;>simp
  ·rw [if_neg h,ih]
   unfold hasN
   rw [a6l,a6l,List.map_cons,List.mem_cons]
   constructor
   ·exact .inr
   ·rintro (e | e)
    ·exact (h e.symm).elim
    ·exact e
theorem c9T:∀(l:List j9)(d:j9)(s:BA),hasN l d.o7=false->kOf (l++[d]) s=if s=d.o7 then kindD d else kOf l s
 | [],d,s,_=>by
  rw [List.nil_append,kOf,kOf,kOf]
  by_cases h:d.o7=s
  ·rw [if_pos h,if_pos h.symm]
  ·rw [if_neg h,if_neg (λe=>h e.symm)]
 | x::l,d,s,h=>by
  have hx:¬x.o7=d.o7:=λe=>by
   have:hasN (x::l) d.o7=true:=a6l.2 (by rw [List.map_cons,e];exact List.mem_cons_self)
   rw [h] at this;cases this
  have hl:hasN l d.o7=false:=Bool.eq_false_iff.2 λe=>by
   have:hasN (x::l) d.o7=true:=a6l.2 (by rw [List.map_cons];exact List.mem_cons_of_mem _ (a6l.1 e))
   rw [h] at this;cases this
  rw [List.cons_append,kOf,kOf,c9T l d s hl]
  by_cases e:x.o7=s
  ·rw [if_pos e,if_pos e,if_neg (λq=>hx (by rw [e,q]))]
  ·rw [if_neg e,if_neg e]
abbrev kvS:BA->Value:=λs=>Value.string s
abbrev kvI:Int->Value:=λn=>Value.int .i64 n
section
variable {H:Hp}
theorem c6U{d:j9}{K:KT Int}(h:K (kindD d) H):b2W d H K:=by
 refine b9t _ ?_
 unfold b3b
 unfold kindD at h
 exact ⟨λe=>by rw [if_pos e] at h;exact h,λe=>by rw [if_neg e] at h;exact h⟩
theorem c8w{s:Sl}{ds:List j9}(hs:SlH H 2 q6 s ds)(hb:ds.length<=big){K:Option Nat->BA->Int->Hp->Prop}(h1:∀n e,qdeclT [] ds=some (n,e)->K none n e H)
  (h2:qdeclT [] ds=none->∀x H' kvs,Hle H H'->MapH H' kvS kvI x kvs->(∀n,(lk n kvs).getD 0=kOf ds n)->K x ⟨#[]⟩ 0 H'):b0u s H K:=by
 intro w I
 refine d8H ?_
 have n1:=hs.1
 simp only [big] at hb
 refine c0h I λgn w1 I1 k1=>c0h I1 λgl w2 I2 k2=>b4V (vv:=kvI) (keyI underlying3) underlying230 I2 (MapEs.nil kvI kvI) 1 32 λes3 c3 w3 he3 I3 k3=>b4V (vv:=kvI) (keyI underlying3) underlying230 I3 he3 2 16 λes4 c4 w4 he4 I4 k4=>u7 λj1 hx1=>c7 (a3U _ _ _) ?_
 refine G6 (J:=λn l w'=>∃(i:Nat)(kn:List (BA×Int))(kl:List (Int×Int))(en:Array MapEntry)(cn:Nat)(el:Array MapEntry)(cl:Nat),n=ds.length-i/\l=[vi (i:Int)]/\i<=ds.length/\Inv w (inF []) H H [[(gl,.map el cl)],[(gn,.map en cn)]] w'/\MapEs kvS kvI en kn/\MapEs kvI kvI el kl/\
  (∀n,(lk n kn).getD 0=kOf (ds.take i) n)/\(∀k,k=1\/k=2->(lk k kl).getD 0=(qlim k:Int)-(nk (ds.take i) k:Int))/\(∀k,k=1\/k=2->nk (ds.take i) k<=qlim k)/\qdeclT [] ds=qdeclT (ds.take i) (ds.drop i))
  ⟨_,0,[],_,_,_,_,_,rfl,rfl,Nat.zero_le _,I4,MapEs.nil _ _,he4,λn=>rfl,λk hk=>by rcases hk with rfl | rfl<;>rfl,λk hk=>Nat.zero_le _,by rw [List.take_zero,List.drop_zero]⟩ ?_
 rintro n τ w5 next2 ⟨i,kn,kl,en,cn,el,cl,rfl,hl,hi,I5,hen,hel,hkn,hkl,hbd,hd⟩ hn2
 simp only [List.map_cons,List.map_nil,List.cons.injEq,and_true] at hl
 simp only [hl]
 refine c7 (D1 _ _ _ _ _ _) (X2 (λc=>?_) (λc=>?_))
 ·obtain ⟨x,hx,hE⟩:=hs.get (i:=(i:Int)) (by omega) (by omega)
  rw [Int.toNat_natCast] at hx
  obtain ⟨g,o,ha,hA⟩:=hE
  have hlt:=O1 hx
  have hdrop:ds.drop i=x::ds.drop (i+1):=by
   rw [List.drop_eq_getElem_cons hlt];congr 1
   rw [List.getElem?_eq_getElem hlt] at hx;exact Option.some.inj hx
  have htk:ds.take (i+1)=ds.take i++[x]:=W1 hx
  rw [hdrop,qdeclT] at hd
  have hkc:=b6M x
  refine c7 (a5l ha _ _ _ _ (by omega) (by omega)) (d7 (ldA (vs:=q6 x) isAgg65 sizeOf65 rfl (I5.atH hA)) ?_)
  refine r8 I5 zeroValue65 rfl λg6 w6 I6 k6=>H9 I6 sizeOf65 (vs:=q6 x) (cs':=q6 x) rfl rfl (nb rfl) rfl rfl λw7 I7 k7=>d7 (ldA (vs:=q6 x) isAgg65 sizeOf65 rfl (I7.at1 (o:=0) (nb rfl) rfl)) (a1O (cap:=[]) (λargs w=>call66 args w) ?_)
  refine a1y (Fi:=[]) (Fr:=[bx g6 65 (q6 x),[(gl,.map el cl)],[(gn,.map en cn)]]) I7 (c6U (K:=λr H'=>r=kindD x/\H'=H) ⟨rfl,rfl⟩) (λv H8 Fo w8 I8 l8 k8 q=>?_) (λ_ _ _ _ _ q=>q.elim)
  obtain ⟨r,rfl,rfl,rfl,rfl⟩:=q
  refine c3H (vv:=kvI) (keyI underlying3) underlying230 (z:=0) zeroValue3 (I8.bring 1) hel (kindD x) (c7 (a5j _ _ _ _ _ _) ?_)
  refine b4V (vv:=kvI) (keyI underlying3) underlying230 (I8.bring 1) hel (kindD x) _ λes9 c9 w9 he9 I9 k9=>c7 a3F (d7 (ld1 isAgg9 ((I9.bring 1).at1 (o:=0) (vs:=[(Value.string x.o7)]) (nb rfl) rfl)) ?_)
  refine c3H (vv:=kvI) (keyS underlying9) underlying61 (z:=0) zeroValue3 (I9.bring 2) hen x.o7 ?_
  rw [hkn]
  refine c7 (O4 _ _ _ _ _ _) (Z5 (λc2=>?_) (λc2=>?_))
  ·have hn:hasN (ds.take i) x.o7=true:=(d1k _ _).1 (by simpa using c2)
   rw [if_pos hn] at hd
   refine L6 I9 λw10 I10=>g8 a3F (s7 (ld1 isAgg9 ((I10.bring 1).at1 (o:=0) (vs:=[(Value.string x.o7)]) (nb rfl) rfl)) ?_)
   exact ⟨_,[],I10.drop.drop.drop,none,x.o7,60,rfl,rfl,h1 _ _ hd⟩
  have hn:hasN (ds.take i) x.o7=false:=Bool.eq_false_iff.2 λe=>by have:=(d1k _ _).2 e;simp [this] at c2
  rw [if_neg (by rw [hn];decide)] at hd
  refine c7 a4H (d7 (ld1 isAgg3 ((I9.bring 1).at1 (o:=1) (vs:=[(vi x.D2)]) (nb rfl) rfl)) ?_)
  refine c7 (X3 _ _ _ _ _ _) (X2 (λc3=>?_) (λc3=>?_))
  ·rw [if_pos c3] at hd
   refine L6 I9 λw10 I10=>g8 a3F (s7 (ld1 isAgg9 ((I10.bring 1).at1 (o:=0) (vs:=[(Value.string x.o7)]) (nb rfl) rfl)) ?_)
   exact ⟨_,[],I10.drop.drop.drop,none,x.o7,61,rfl,rfl,h1 _ _ hd⟩
  rw [if_neg c3] at hd
  refine c3H (vv:=kvI) (keyI underlying3) underlying230 (z:=0) zeroValue3 I9 he9 (kindD x) ?_
  have hbx:=hbd _ hkc
  have hlim:qlim (kindD x)<=32:=by unfold qlim;split<;>decide
  have hsub:IntKind.wrap .i64 ((lk (kindD x) kl).getD 0-1)=(qlim (kindD x):Int)-(nk (ds.take (i+1)) (kindD x):Int):=by
   rw [hkl _ hkc,htk,b7x,b9I,if_pos rfl,S3 ⟨by omega,by omega⟩];omega
  rw [b6O,if_pos rfl]
  refine c7 (D1 _ _ _ _ _ _) (X2 (λc4=>?_) (λc4=>?_))
  ·have c4':qlim (kindD x) < nk (ds.take i++[x]) (kindD x):=by
    rw [←htk]
    have:((qlim (kindD x):Int)-(nk (ds.take (i+1)) (kindD x):Int)) < 0:=by rw [←hsub];exact c4
    omega
   rw [if_pos c4'] at hd
   refine L6 I9 λw10 I10=>g8 a3F (s7 (ld1 isAgg9 ((I10.bring 1).at1 (o:=0) (vs:=[(Value.string x.o7)]) (nb rfl) rfl)) ?_)
   exact ⟨_,[],I10.drop.drop.drop,none,x.o7,62,rfl,rfl,h1 _ _ hd⟩
  have c4':¬qlim (kindD x) < nk (ds.take i++[x]) (kindD x):=λe=>c4 (by
   rw [←htk] at e
   show IntKind.wrap .i64 ((lk (kindD x) kl).getD 0-1) < 0
   rw [hsub];omega)
  rw [if_neg c4',← htk] at hd
  refine c7 a3F (d7 (ld1 isAgg9 ((I9.bring 1).at1 (o:=0) (vs:=[(Value.string x.o7)]) (nb rfl) rfl)) ?_)
  refine b4V (vv:=kvI) (keyS underlying9) underlying61 (I9.bring 2) hen x.o7 (kindD x) λes10 c10 w10 he10 I10 k10=>c7 (A7 _ _ _ _ _ _) ?_
  rw [K7 (by omega) (by omega)]
  refine hn2 _ _ _ (show ds.length-(i+1) < ds.length-i by omega) ⟨i+1,_,_,_,_,_,_,rfl,rfl,hlt,(I10.bring 2).drop.bring 1,he10,he9,λn=>?_,λk hk=>?_,λk hk=>?_,hd⟩
  ·rw [b6O,htk,c9T _ _ _ hn]
   by_cases e:n=x.o7
   ·rw [if_pos e,if_pos e];rfl
   ·rw [if_neg e,if_neg e];exact hkn n
  ·rw [b6O]
   by_cases e:k=kindD x
   ·rw [if_pos e,e];exact hsub
   ·rw [if_neg e,htk,b7x,b9I,if_neg (λq=>e q.symm),Nat.add_zero];exact hkl k hk
  ·by_cases e:k=kindD x
   ·rw [e,htk];omega
   ·rw [htk,b7x,b9I,if_neg (λq=>e q.symm),Nat.add_zero];exact hbd k hk
 ·refine hx1 _ _ ?_
  intro _
  have e:ds.take i=ds:=List.take_of_length_le (by omega)
  have e2:ds.drop i=[]:=List.drop_eq_nil_of_le (by omega)
  rw [e2,qdeclT] at hd
  rw [e] at hkn
  obtain ⟨I6,l6,h6⟩:=(I5.bring 1).freeze
  exact ⟨_,[],I6.drop,some gn,⟨#[]⟩,0,rfl,rfl,h2 hd _ _ kn l6 ⟨gn,en,cn,rfl,h6 _ (List.mem_cons_self ..),hen⟩ hkn⟩
end
open Go.RowKit
abbrev Wu:=m9
def asU(u:Us):Int:=if u.d1j=true then 2 else 1
def toW(u:Us):Wu:=⟨u.o7,asU u⟩
def gT(t:PT):List Wu:=(uT t).map toW
def gTs(ts:List PT):List Wu:=(uTs ts).map toW
theorem e4I{ts:List PT}{i:Nat}{t:PT}(h:ts[i]? = some t):gTs (ts.take (i+1))=gTs (ts.take i)++gT t:=by unfold gTs gT;rw [d3M h,List.map_append]
theorem c0D(a b:List PT):gTs (a++b)=gTs a++gTs b:=by unfold gTs;rw [c0C,List.map_append]
theorem e4J(t:PT):(gT t).length=(uT t).length:=by unfold gT;rw [List.length_map]
theorem c0E(ts:List PT):(gTs ts).length=(uTs ts).length:=by unfold gTs;rw [List.length_map]
theorem c5x(l:Lab)(cs:List PT):gT (.mk l cs)=(useL l).map toW++gTs cs:=by unfold gT gTs;rw [uT,List.map_append]
theorem c0F{ts:List PT}{i:Nat}{t:PT}(h:ts[i]? = some t):(gTs (ts.take i)).length+(gT t).length<=(gTs ts).length:=by
 rw [c0E,e4J,c0E];exact e6L h
theorem b8D{n:Nat}(h:n+1<=big){u:Wu}:(n+([u]:List Wu).length)*25<=140737488355328:=by
 simp only [big] at h;simp only [List.length_cons,List.length_nil];omega
section
variable {H:Hp}
theorem vloop{ts:List PT}{out:List Wu}{body:Int×List Wu->Hp->(Int×List Wu->Hp->Prop)->Prop}
  (hb:∀(i:Int)(cs:List Wu)(next:Int×List Wu->Hp->Prop),0<=i->i<=ts.length->cs=out++gTs (ts.take i.toNat)->(∀t,ts[i.toNat]? = some t->next (i+1,cs++gT t) H)->(ts.length<=i->cs=out++gTs ts)->body (i,cs) H next):TL ((0,out):Int×List Wu) H body:=by
 refine P7 (λ(q:Int×List Wu) H'=>0<=q.1/\q.1<=ts.length/\H'=H/\q.2=out++gTs (ts.take q.1.toNat)) (λq=>(ts.length-q.1).toNat) ⟨Int.le_refl _,by simp,rfl,by simp [gTs,uTs]⟩ ?_
 rintro ⟨i,cs⟩ H1 next ⟨i0,i1,rfl,hs⟩ hn
 dsimp only at i0 i1 hs ⊢
 refine hb i cs next i0 i1 hs (λt ht=>?_) λhe=>?_
 ·have:=O1 ht
  refine hn _ _ ⟨by dsimp only;omega,by dsimp only;omega,rfl,?_⟩ (by dsimp only;omega)
  dsimp only
  rw [show (i+1).toNat=i.toNat+1 by omega,e4I ht,hs,List.append_assoc]
 ·rw [hs,List.take_of_length_le (by omega)]
theorem c4T{e:l9}{t:PT}(he:EH H e t){z:u4}{out:List Wu}(hb:out.length+(gT t).length<=big){K:u4->List Wu->Hp->Prop}(h:∀z,K z (out++gT t) H):a0F z out e H K:=by
 induction he generalizing z out K with
 | @mk e xs ts hs hxb hl _ ih=>
  refine b4F _ _ _ ?_
  have hn:(e.L8.n:Int)=(ts.length:Int):=by have:=hs.1;omega
  rw [c5x,List.length_append] at hb
  have go:∀out':List Wu,out'=out++(useL (.expr e.d9 e.A6 e.o7 ts.length)).map toW->U0 out' e H K:=by
   rintro out' rfl
   unfold U0
   rw [hn]
   refine vloop (ts:=ts) λi cs next i0 i1 hcs hk hf=>?_
   unfold a3s
   refine ⟨λhc=>?_,λhc=>?_⟩
   ·obtain ⟨x,hx,hE⟩:=hs.get i0 (show i < (e.L8.n:Int) by omega)
    obtain ⟨t,ht⟩:=K2 (l:=ts) (i:=i.toNat) (by have:=O1 hx;omega)
    have:=c0F ht
    refine ⟨i0,by omega,x,hE,ih _ x t hx ht (by rw [hcs,List.length_append,List.length_append];omega) λz=>?_⟩
    rw [K7 i0 (by simp only [big] at hxb;have:=O1 hx;omega)]
    exact hk t ht
   ·rw [hf (by omega),List.append_assoc]
    have:=h (u4.mk (Sl.mk none 0 0))
    rw [c5x] at this;exact this
  unfold a8D
  refine ⟨λh2=>?_,λh2=>⟨λh4=>?_,λh4=>go _ ?_⟩⟩
  ·have e2:(useL (.expr e.d9 e.A6 e.o7 ts.length)).map toW=[⟨e.o7,1⟩]:=by
    simp only [useL]
    rw [h2];rfl
   rw [e2] at hb
   exact ⟨b8D (by simp only [List.length_cons,List.length_nil] at hb;omega),go _ (by rw [e2])⟩
  ·have e2:(useL (.expr e.d9 e.A6 e.o7 ts.length)).map toW=[⟨e.o7,2⟩]:=by
    simp only [useL]
    rw [h4];rfl
   rw [e2] at hb
   exact ⟨b8D (by simp only [List.length_cons,List.length_nil] at hb;omega),go _ (by rw [e2])⟩
  ·have e2:(useL (.expr e.d9 e.A6 e.o7 ts.length)).map toW=[]:=by
    simp only [useL]
    rw [decide_eq_false h2,decide_eq_false h4];rfl
   rw [e2,List.append_nil]
theorem d3P{e:p5}{t:PT}(he:CH H e t){z:u4}{out:List Wu}(hb:out.length+(gT t).length<=big){K:u4->List Wu->Hp->Prop}(h:∀z,K z (out++gT t) H):a2b z out e H K:=by
 induction he generalizing z out K with
 | @mk e xs ts ys us hs hxb hr hc hcb hcl _ ih=>
  refine b4L _ _ _ ?_
  have r0:=hr.1
  have hn:(e.z7.n:Int)=(ts.length:Int):=by have:=hs.1;omega
  have hm:(e.E9.n:Int)=(us.length:Int):=by have:=hc.1;omega
  have eg:gT (.mk (.cond e.d9 e.fOp ts.length us.length) (ts++us))=gTs ts++gTs us:=by rw [c5x,c0D];rfl
  rw [eg,List.length_append] at hb
  unfold a8L
  rw [hn]
  refine vloop (ts:=ts) λi cs next i0 i1 hcs hk hf=>?_
  unfold a3A
  refine ⟨λhq=>?_,λhq=>?_⟩
  ·obtain ⟨x,hx,hE⟩:=hs.get i0 (show i < (e.z7.n:Int) by omega)
   obtain ⟨t,ht⟩:=K2 (l:=ts) (i:=i.toNat) (by have:=O1 hx;omega)
   have:=c0F ht
   refine ⟨i0,by omega,x,hE,c4T (hr.2 _ x t hx ht) (by rw [hcs,List.length_append];omega) λz=>?_⟩
   rw [K7 i0 (by simp only [big] at hxb;have:=O1 hx;omega)]
   exact hk t ht
  ·rw [hf (by omega)]
   clear hk hf next hcs cs hq
   unfold a3z
   rw [hm]
   refine vloop (ts:=us) λi cs next i0 i1 hcs hk hf=>?_
   unfold a3y
   refine ⟨λhq=>?_,λhq=>?_⟩
   ·obtain ⟨x,hx,hE⟩:=hc.get i0 (show i < (e.E9.n:Int) by omega)
    obtain ⟨t,ht⟩:=K2 (l:=us) (i:=i.toNat) (by have:=O1 hx;omega)
    have:=c0F ht
    refine ⟨i0,by omega,x,hE,ih _ x t hx ht (by rw [hcs,List.length_append,List.length_append];omega) λz=>?_⟩
    rw [K7 i0 (by simp only [big] at hcb;have:=O1 hx;omega)]
    exact hk t ht
   ·rw [hf (by omega),List.append_assoc]
    have:=h (u4.mk (Sl.mk none 0 0))
    rw [eg] at this;exact this
def StW(H:Hp)(x:i6)(t:PT):Prop:=∀(s10:Sl)(s11 i:Int)(cs:List Wu)(n1:Int×List Wu->Hp->Prop)(K:u4->List Wu->Hp->Prop),cs.length+(gTs t.kids).length<=big->n1 (IntKind.wrap .i64 (i+1),cs++gTs t.kids) H->T4 s10 s11 i cs x H n1 K
theorem b9J{s:Sl}{xs:List i6}{ts:List PT}(hs:SlH H 6 q9 s xs)(hxb:xs.length<=big)(hl:xs.length=ts.length)(hr:∀(i:Nat)(x:i6)(t:PT),xs[i]? = some x->ts[i]? = some t->SH H x t)(ih:∀(i:Nat)(x:i6)(t:PT),xs[i]? = some x->ts[i]? = some t->StW H x t)
  {z:u4} {out:List Wu} (hb:out.length+(gTs ts).length<=big) {K:u4->List Wu->Hp->Prop} (h:∀z,K z (out++gTs ts) H):a0m z out s H K:=by
 refine b3L _ _ _ ?_
 have n1:=hs.1
 refine vloop (ts:=ts) λi cs next i0 i1 hcs hk hf=>?_
 dsimp only
 refine ⟨λhq=>?_,λhq=>?_⟩
 ·obtain ⟨x,hx,hE⟩:=hs.get i0 hq
  obtain ⟨t,ht⟩:=K2 (l:=ts) (i:=i.toNat) (by have:=O1 hx;omega)
  have hin:=c0F ht
  have hut:gT t=(useL t.lab).map toW++gTs t.kids:=by cases t;rw [c5x];rfl
  rw [hut,List.length_append] at hin
  have hlab:useL t.lab=if (decide (x.d9=1)||decide (x.d9=2))=true then [⟨x.o7,decide (x.d9=2)⟩] else []:=by
   cases hr _ x t hx ht;rfl
  have hcl:cs.length=out.length+(gTs (ts.take i.toNat)).length:=by rw [hcs,List.length_append]
  have hkt:=hk t ht
  rw [hut,← List.append_assoc,← K7 i0 (by simp only [big] at hxb;have:=O1 hx;omega)] at hkt
  refine ⟨i0,hq,x,hE,λh1=>?_,λh1=>⟨λh2=>?_,λh2=>?_⟩⟩
  ·have e2:(useL t.lab).map toW=[⟨x.o7,1⟩]:=by rw [hlab,h1];rfl
   rw [e2] at hin hkt
   simp only [List.length_cons,List.length_nil] at hin
   exact ⟨b8D (by omega),ih _ x t hx ht _ _ _ _ _ _ (by simp only [List.length_append,List.length_cons,List.length_nil];omega) hkt⟩
  ·have e2:(useL t.lab).map toW=[⟨x.o7,2⟩]:=by rw [hlab,h2];rfl
   rw [e2] at hin hkt
   simp only [List.length_cons,List.length_nil] at hin
   exact ⟨b8D (by omega),ih _ x t hx ht _ _ _ _ _ _ (by simp only [List.length_append,List.length_cons,List.length_nil];omega) hkt⟩
  ·have e2:(useL t.lab).map toW=[]:=by rw [hlab,decide_eq_false h1,decide_eq_false h2];rfl
   rw [e2] at hin hkt
   rw [List.append_nil] at hkt
   exact ih _ x t hx ht _ _ _ _ _ _ (by simp only [List.length_nil] at hin;omega) hkt
 ·rw [hf (by omega)]
  exact h _
theorem e4K{x:i6}{t:PT}(hx:SH H x t):StW H x t:=by
 induction hx with
 | @mk e xs ts ys us zs bs vs ws hs hb hr hc hcb hcr ha hab hal har hbs hbb hbl hbr iha ihb=>
  intro s10 s11 i9 cs0 n1 K hlen h
  change n1 (_,cs0++gTs (us++(ts++(vs++ws)))) H at h
  change cs0.length+(gTs (us++(ts++(vs++ws)))).length<=big at hlen
  rw [c0D,c0D,c0D] at h hlen
  simp only [List.length_append] at hlen
  have r0:=hr.1
  have r1:=hcr.1
  refine vloop (ts:=us) λi cs next i0 i1 hcs hk hf=>⟨λhq=>?_,λhq=>?_⟩
  ·obtain ⟨x,hx,hE⟩:=hc.get i0 hq
   obtain ⟨t,ht⟩:=K2 (l:=us) (i:=i.toNat) (by have:=O1 hx;omega)
   have:=c0F ht
   refine ⟨i0,hq,x,hE,d3P (hcr.2 _ x t hx ht) (by rw [hcs,List.length_append];omega) λz=>?_⟩
   rw [K7 i0 (by simp only [big] at hcb;have:=O1 hx;omega)]
   exact hk t ht
  ·rw [hf (by have:=hc.1;omega)]
   clear hk hf next hcs cs hq
   refine vloop (ts:=ts) λi cs next i0 i1 hcs hk hf=>⟨λhq=>?_,λhq=>?_⟩
   ·obtain ⟨x,hx,hE⟩:=hs.get i0 hq
    obtain ⟨t,ht⟩:=K2 (l:=ts) (i:=i.toNat) (by have:=O1 hx;omega)
    have:=c0F ht
    refine ⟨i0,hq,x,hE,c4T (hr.2 _ x t hx ht) (by rw [hcs,List.length_append,List.length_append];omega) λz=>?_⟩
    rw [K7 i0 (by simp only [big] at hb;have:=O1 hx;omega)]
    exact hk t ht
   ·rw [hf (by have:=hs.1;omega)]
    refine b9J ha hab hal har iha (by simp only [List.length_append];omega) λz=>?_
    refine b9J hbs hbb hbl hbr ihb (by simp only [List.length_append];omega) λz=>?_
    simp only [List.append_assoc]
    exact h
end
def useT(ds:List j9):List Us->BA×Int
 | []=>(⟨#[]⟩,0)
 | u::r=>if kOf ds u.o7=asU u then useT ds r else if kOf ds u.o7=0 then (u.o7,63) else (u.o7,64)
def wellS(q:PP):BA×Int:=
 if toldS q.nodes=0 then (match qdeclT [] q.decls with | some r=>r | none=>useT q.decls (uTs q.body)) else (⟨#[]⟩,toldS q.nodes)
theorem c4U(ds:List j9)(l:List Us)(h:∀u∈l,kOf ds u.o7=asU u)(r:List Us):useT ds (l++r)=useT ds r:=by
 induction l with
 | nil=>rfl
 | cons u l ih=>
  rw [List.cons_append,useT,if_pos (h u List.mem_cons_self)]
  exact ih λv hv=>h v (List.mem_cons_of_mem _ hv)
section
variable {H:Hp}
theorem e0G(hT:TabsH H){p:o8}{q:PP}(hp:PH H p q)(hsm:q.Sm){K:BA->Int->Hp->Prop}(h:∀H',Hle H H'->K (wellS q).1 (wellS q).2 H'):b1W p H K:=by
 refine b8Y _ ?_
 unfold b2b
 unfold wellS at h
 refine c1J hT hp hsm λH1 l1=>?_
 rw [show vEnd (allV q)=toldS q.nodes from c4e _]
 refine ⟨λhne=>by have:=h H1 l1;rw [if_neg hne] at this;exact this,λh0=>?_⟩
 rw [if_pos h0] at h
 have hcnt:=e0z (d5R h0).1
 have hul:=c4f q.body
 have hcb:cTs q.body<=4096:=by unfold PP.nodes at hcnt;rw [a8x] at hcnt;omega
 obtain ⟨hd,hbd,xs,hsl,hxb,hr⟩:=hp.le l1
 refine c8w hd hbd (λn e hde=>⟨λhne=>?_,λhe0=>?_⟩) λhdn x H2 kvs l2 hM hkv=>⟨λe=>(e rfl).elim,λ_=>?_⟩
 ·have:=h H1 l1;rw [hde] at this;exact this
 ·exfalso
  have:∀(l pre:List j9),qdeclT pre l=some (n,e)->e≠0:=by
   intro l
   induction l with
   | nil=>intro pre hq;rw [qdeclT] at hq;cases hq
   | cons d l ih=>
    intro pre hq
    rw [qdeclT] at hq
    split at hq
    ·cases hq;decide
    ·split at hq
     ·cases hq;decide
     ·split at hq
      ·cases hq;decide
      ·exact ih _ hq
  exact this _ _ hde he0
 ·rw [hdn] at h
  dsimp only at h
  have l12:=l1.trans l2
  refine b9J (hsl.le l2) hxb hr.1 (λi x t a b=>SH.le l2 (hr.2 i x t a b)) (λi x t a b=>e4K (SH.le l2 (hr.2 i x t a b))) (by rw [c0E];simp only [List.length_nil,big];omega) λz=>?_
  rw [List.nil_append]
  have gl:=c0E q.body
  refine P7 (λ(z:Int×BA×Int) H'=>z.1=0/\z.2.1=⟨#[]⟩/\0<=z.2.2/\z.2.2<=(uTs q.body).length/\H'=H2/\∀u∈(uTs q.body).take z.2.2.toNat,kOf q.decls u.o7=asU u) (λz=>((uTs q.body).length-z.2.2).toNat) ⟨rfl,rfl,Int.le_refl _,by dsimp only;omega,rfl,λu hu=>by simp at hu⟩ ?_
  rintro ⟨a,b,i⟩ H3 next ⟨ha,hb,i0,i1,rfl,hi⟩ hk
  dsimp only at ha hb i0 i1 hi ⊢
  subst ha;subst hb
  unfold b0w
  refine ⟨λhq=>?_,λhq=>?_⟩
  ·obtain ⟨u,hu⟩:=K2 (l:=uTs q.body) (i:=i.toNat) (by omega)
   have hlt:=O1 hu
   have hg:(gTs q.body)[i.toNat]? = some (toW u):=by unfold gTs;rw [List.getElem?_map,hu];rfl
   have hdrop:(uTs q.body).drop i.toNat=u::(uTs q.body).drop (i.toNat+1):=by
    rw [List.drop_eq_getElem_cons hlt];congr 1
    rw [List.getElem?_eq_getElem hlt] at hu;exact Option.some.inj hu
   have hall:useT q.decls (uTs q.body)=useT q.decls (u::(uTs q.body).drop (i.toNat+1)):=by
    have:=c4U q.decls ((uTs q.body).take i.toNat) hi ((uTs q.body).drop i.toNat)
    rw [List.take_append_drop,hdrop] at this;exact this
   have h':=h H3 l12
   rw [hall,useT] at h'
   refine ⟨i0,toW u,hg,kvs,hM,?_⟩
   show ((lk u.o7 kvs).getD 0=asU u->_)/\(¬((lk u.o7 kvs).getD 0=asU u)->((lk u.o7 kvs).getD 0=0->_)/\(¬((lk u.o7 kvs).getD 0=0)->_))
   rw [hkv]
   refine ⟨λe=>?_,λe=>⟨λe2=>?_,λe2=>?_⟩⟩
   ·rw [K7 i0 (by omega)]
    refine hk _ _ ⟨rfl,rfl,by dsimp only;omega,by dsimp only;omega,rfl,λv hv=>?_⟩ (by dsimp only;omega)
    dsimp only at hv
    rw [show (i+1).toNat=i.toNat+1 by omega,W1 hu] at hv
    rcases List.mem_append.1 hv with hv | hv
    ·exact hi v hv
    ·rw [List.mem_singleton.1 hv];exact e
   ·rw [if_neg e,if_pos e2] at h';exact h'
   ·rw [if_neg e,if_neg e2] at h';exact h'
  ·have h':=h H3 l12
   have:=c4U q.decls (uTs q.body) (by rw [List.take_of_length_le (by omega)] at hi;exact hi) []
   rw [List.append_nil] at this
   rw [this] at h'
   exact h'
end
def DeclOk(l:List j9):Prop:=(l.map (·.o7)).Nodup/\(∀d∈l,d.D2<=1024)/\nk l 1<=32/\nk l 2<=16
theorem c4V:∀(r pre:List j9),DeclOk pre->(qdeclT pre r=none↔DeclOk (pre++r))
 | [],pre,h=>by rw [qdeclT,List.append_nil];exact ⟨λ_=>h,λ_=>rfl⟩
 | d::r,pre,h=>by
  have hd:=b6M d
  obtain ⟨h1,h2,h3,h4⟩:=h
  rw [qdeclT]
  by_cases c1:hasN pre d.o7=true
  ·rw [if_pos c1]
   refine ⟨(λe=>by cases e),λe=>?_⟩
   exfalso
   have:=e.1
   rw [List.map_append,List.map_cons,List.nodup_append] at this
   exact this.2.2 d.o7 (a6l.1 c1) d.o7 List.mem_cons_self rfl
  ·rw [if_neg c1]
   by_cases c2:1024 < d.D2
   ·rw [if_pos c2]
    refine ⟨(λe=>by cases e),λe=>?_⟩
    have:=e.2.1 d (List.mem_append_right _ List.mem_cons_self)
    omega
   ·rw [if_neg c2]
    by_cases c3:qlim (kindD d) < nk (pre++[d]) (kindD d)
    ·rw [if_pos c3]
     refine ⟨(λe=>by cases e),λe=>?_⟩
     exfalso
     have e':nk (pre++d::r) (kindD d)<=qlim (kindD d):=by
      rcases hd with q | q
      ·rw [q];exact e.2.2.1
      ·rw [q];exact e.2.2.2
     rw [show pre++d::r=(pre++[d])++r by simp,b7x] at e'
     omega
    ·rw [if_neg c3]
     have hpre:DeclOk (pre++[d]):=by
      refine ⟨?_,?_,?_,?_⟩
      ·rw [List.map_append,List.nodup_append]
       refine ⟨h1,by simp,λa ha b hb e=>?_⟩
       rw [List.map_cons,List.map_nil,List.mem_singleton] at hb
       rw [e,hb] at ha
       exact c1 (a6l.2 ha)
      ·intro x hx
       rcases List.mem_append.1 hx with hx | hx
       ·exact h2 x hx
       ·rw [List.mem_singleton.1 hx];omega
      ·rcases hd with q | q
       ·rw [q] at c3;simp only [qlim] at c3
        rw [if_neg (by decide)] at c3;omega
       ·rw [b7x,b9I,q,if_neg (by decide)];omega
      ·rcases hd with q | q
       ·rw [b7x,b9I,q,if_neg (by decide)];omega
       ·rw [q] at c3;simp only [qlim] at c3
        rw [if_pos (by decide)] at c3;omega
     rw [c4V r (pre++[d]) hpre,show pre++d::r=(pre++[d])++r by simp]
theorem c6V(l:List j9):qdeclT [] l=none↔DeclOk l:=c4V l [] ⟨List.nodup_nil,(λd h=>by cases h),Nat.zero_le _,Nat.zero_le _⟩
theorem nz{n:Int}(h:n≠0){s:BA}:((s,n):BA×Int).2≠0:=h
theorem d5V{l pre:List j9}{r:BA×Int}(h:qdeclT pre l=some r):r.2≠0:=by
 induction l generalizing pre with
 | nil=>rw [qdeclT] at h;cases h
 | cons d l ih=>
  rw [qdeclT] at h
  split at h
  ·cases h;exact nz (by decide)
  ·split at h
   ·cases h;exact nz (by decide)
   ·split at h
    ·cases h;exact nz (by decide)
    ·exact ih h
section
variable {H:Hp}
end
mutual
def dpT(B:Int):PT->Int->Prop
 | .mk _ cs,d=>d<=B/\dpTs B cs (d+1)
def dpTs(B:Int):List PT->Int->Prop
 | [],_=>True
 | t::ts,d=>dpT B t d/\dpTs B ts d
end
variable {B:Int}
theorem b8E:∀(a b:List PT)(d:Int),dpTs B (a++b) d↔dpTs B a d/\dpTs B b d
 | [],b,d=>by rw [List.nil_append,dpTs];exact ⟨λh=>⟨trivial,h⟩,λh=>h.2⟩
 | t::a,b,d=>by rw [List.cons_append,dpTs,dpTs,b8E a b,and_assoc]
theorem d1l{s:W}{d:Int}(hb:s.fbad=0)(h2:¬s.fn=4096)(h3:¬64 < d):wStep s d=⟨s.fn+1,if d > s.fdepth then d else s.fdepth,0⟩:=by
 unfold wStep;rw [if_pos hb,if_neg h2,if_neg h3]
mutual
theorem d3Q:∀(t:PT)(d:Int)(s:W),0<=s.fn->s.fn<=4096->s.fbad=0->((wT t d s).fbad=0↔(s.fn+cT t<=4096/\dpT 64 t d))
 | .mk l cs,d,s,h0,h1,hb=>by
  rw [wT,cT,dpT]
  by_cases h2:s.fn=4096
  ·have:(wStep s d).fbad≠0:=by unfold wStep;rw [if_pos hb,if_pos h2];exact (by decide:(33:Int)≠0)
   rw [a9T _ _ _ this]
   exact ⟨λe=>(this e).elim,λe=>by omega⟩
  ·by_cases h3:64 < d
   ·have:(wStep s d).fbad≠0:=by unfold wStep;rw [if_pos hb,if_neg h2,if_pos h3];exact (by decide:(32:Int)≠0)
    rw [a9T _ _ _ this]
    exact ⟨λe=>(this e).elim,λe=>by omega⟩
   ·rw [d1l hb h2 h3,c4i cs (d+1) _ (by dsimp only;omega) (by dsimp only;omega) rfl]
    dsimp only
    constructor
    ·rintro ⟨a,b⟩;exact ⟨by omega,by omega,b⟩
    ·rintro ⟨a,b,c⟩;exact ⟨by omega,c⟩
theorem c4i:∀(ts:List PT)(d:Int)(s:W),0<=s.fn->s.fn<=4096->s.fbad=0->((wTs ts d s).fbad=0↔(s.fn+cTs ts<=4096/\dpTs 64 ts d))
 | [],d,s,h0,h1,hb=>by rw [wTs,cTs,dpTs];exact ⟨λ_=>⟨by omega,trivial⟩,λ_=>hb⟩
 | t::ts,d,s,h0,h1,hb=>by
  rw [wTs,cTs,dpTs]
  by_cases h2:(wT t d s).fbad=0
  ·have hi:=(d3Q t d s h0 h1 hb).1 h2
   have hc:=d3N t d s h2
   rw [c4i ts d _ (by omega) (by omega) h2,hc]
   constructor
   ·rintro ⟨a,b⟩;exact ⟨by omega,hi.2,b⟩
   ·rintro ⟨a,b,c⟩;exact ⟨by omega,c⟩
  ·rw [a9T _ _ _ h2]
   have:=mt (d3Q t d s h0 h1 hb).2 h2
   exact ⟨λe=>(h2 e).elim,λe=>(this ⟨by omega,e.2.1⟩).elim⟩
end
theorem c1M(ts:List PT):toldS ts=0↔(cTs ts<=4096/\dpTs 64 ts 1/\formTs ts=true/\namesTs ts=true):=by
 have h:=c4i ts 1 w0S (Int.le_refl _) (by decide) rfl
 have e0:w0S.fn=0:=rfl
 rw [e0] at h
 unfold toldS
 constructor
 ·intro e
  split at e
  ·rename_i hb
   have:=h.1 hb
   split at e
   ·rename_i hf
    split at e
    ·rename_i hn;exact ⟨by omega,this.2,hf,hn⟩
    ·cases e
   ·cases e
  ·rename_i hb;exact (hb e).elim
 ·rintro ⟨a,b,c,d⟩
  rw [if_pos (h.2 ⟨by omega,b⟩),if_pos c,if_pos d]
end Go.Proofs.YthjlehnccgjpoaaGreatDoor
namespace Go.Proofs.YthjlehnccgjpoaaGreatDoor
open Go.RowKit
set_option maxRecDepth 100000
set_option maxHeartbeats 2000000
theorem c6W(ds:List j9):∀l:List Us,(useT ds l).2=0↔∀u∈l,kOf ds u.o7=asU u
 | []=>by rw [useT];exact ⟨(λ_ u h=>by cases h),λ_=>rfl⟩
 | u::l=>by
  rw [useT]
  by_cases h:kOf ds u.o7=asU u
  ·rw [if_pos h,c6W ds l]
   constructor
   ·intro g v hv
    rcases List.mem_cons.1 hv with e | hv
    ·rw [e];exact h
    ·exact g v hv
   ·exact λg v hv=>g v (List.mem_cons_of_mem _ hv)
  ·rw [if_neg h]
   constructor
   ·intro e
    split at e
    ·exact (by decide:(63:Int)≠0) e |>.elim
    ·exact (by decide:(64:Int)≠0) e |>.elim
   ·exact λg=>(h (g u List.mem_cons_self)).elim
theorem b5Q(q:PP):(wellS q).2=0↔toldS q.nodes=0/\DeclOk q.decls/\∀u∈uTs q.body,kOf q.decls u.o7=asU u:=by
 unfold wellS
 by_cases h0:toldS q.nodes=0
 ·rw [if_pos h0]
  cases hd:qdeclT [] q.decls with
  | none=>
   rw [c6W]
   exact ⟨λh=>⟨h0,(c6V _).1 hd,h⟩,λh=>h.2.2⟩
  | some r=>
   refine ⟨λe=>(d5V hd e).elim,λh=>?_⟩
   rw [(c6V _).2 h.2.1] at hd;cases hd
 ·rw [if_neg h0]
  exact ⟨λe=>(h0 e).elim,λe=>(h0 e.1).elim⟩
open Go.Proofs.Tryz Go.RowKit
section
variable {α:Type}{P:Program}{E:Pan}{w0 w:World}{ps:Nat->Prop}{H0 H:Hp}{Fs:List Frag}{F:Frag}{K:Value->World->Prop}{e:TypeId}{sz:Nat}{c:α->List Value}{s:Sl}{xs:List α}
theorem e0H(h:∀x,(c x).length=sz)(xs:List α){i:Nat}(hi:i<=xs.length):(xs.flatMap c).take (i*sz)=(xs.take i).flatMap c:=by
 have e1:xs.flatMap c=(xs.take i).flatMap c++(xs.drop i).flatMap c:=by rw [←List.flatMap_append,List.take_append_drop]
 have e2:((xs.take i).flatMap c).length=i*sz:=by rw [Y1 h,List.length_take,Nat.min_eq_left hi]
 rw [e1,← e2,List.take_left]
theorem e0I{t ty:TypeId}{z:Value}{x0:α}(ht:P.underlying t=some (.slice e))(hz:∀w,(zeroValue e).run P w=.ok z w)(hzc:z.cells=(c x0).toArray)(h0:0 < sz)(I:Inv w0 ps H0 H (F::Fs) w)(h:RowL e sz c s xs F){i:Nat}(hi:i<=xs.length)
  (hk:∀(F':Frag)(w':World),RowL e sz c s (xs.take i++List.replicate (xs.length-i) x0) F'->Inv w0 ps H0 H (F'::Fs) w'->(∀k,(∀p∈F,p.1≠k)->w'.heap[k]? = w.heap[k]?)->K (.tuple #[]) w'):
  opK P E (xBuiltin .clear #[t] ty [false] [.slice (s.cut i s.n s.c sz).a (s.cut i s.n s.c sz).n (s.cut i s.n s.c sz).c]) w K:=by
 have hx:xBuiltin .clear #[t] ty [false] [.slice (s.cut i s.n s.c sz).a (s.cut i s.n s.c sz).n (s.cut i s.n s.c sz).c]=xV (Builtin.clear_ #[t] ty #[.slice (s.cut i s.n s.c sz).a (s.cut i s.n s.c sz).n (s.cut i s.n s.c sz).c]):=rfl
 rw [hx]
 obtain ⟨⟨h1,h2⟩,h3,h4,h5⟩:=h
 by_cases hn:i=xs.length
 ·subst hn
  have hrun:(Builtin.clear_ #[t] ty #[.slice (s.cut xs.length s.n s.c sz).a (s.cut xs.length s.n s.c sz).n (s.cut xs.length s.n s.c sz).c]).run P w=.ok (.tuple #[]) w:=by
   have:(s.cut xs.length s.n s.c sz).n=0:=by show s.n-xs.length=0;omega
   rw [this]
   cases (s.cut xs.length s.n s.c sz).a<;>simp [Builtin.clear_,run_underlying ht,Result.andThen]
  refine U7 hrun (hk F w ?_ I λ_ _=>rfl)
  rw [Nat.sub_self,List.replicate_zero,List.append_nil,List.take_length]
  exact ⟨⟨h1,h2⟩,h3,h4,h5⟩
 ·rcases h2 with ⟨rfl,_⟩ | ⟨g,arr,ha,rfl,q1,q2,q3,q4⟩
  ·have:(0:Nat)=xs.length:=h3
   omega
  ·obtain ⟨m,hm⟩:∃m,s.n-i=m+1:=⟨s.n-i-1,by omega⟩
   have e1:=Y1 h4 xs
   have hvl:((List.replicate (xs.length-i) x0).flatMap c).length=(xs.length-i)*sz:=by rw [Y1 h4,List.length_replicate]
   have hmul:i*sz+(xs.length-i)*sz=xs.length*sz:=by rw [←Nat.add_mul];congr 1;omega
   have hle:xs.length*sz<=arr.size:=by
    have:=congrArg List.length q4
    simp only [List.length_take,Array.length_toList] at this
    omega
   have hst:=run_storeCells_at P g (i*sz) e ((List.replicate (xs.length-i) x0).flatMap c) 0 arr w I.hp1 (by omega) (c5T h5 _)
   rw [Nat.add_zero] at hst
   have hzs:z.cells.size=sz:=by rw [hzc,List.size_toArray,h4]
   have hzc':(Builtin.zeroCells z.cells (m+1)).toList=(List.replicate (xs.length-i) x0).flatMap c:=by
    rw [←c4G hzc h4 h0 (xs.length-i),← hm,h3]
    unfold Builtin.zeroCells madeCells
    rw [hzs]
   have hrun:(Builtin.clear_ #[t] ty #[.slice (s.cut i s.n s.c sz).a (s.cut i s.n s.c sz).n (s.cut i s.n s.c sz).c]).run P w=.ok (.tuple #[]) (w.setRow g (arr.toList.take (i*sz)++(List.replicate (xs.length-i) x0).flatMap c++arr.toList.drop (i*sz+((List.replicate (xs.length-i) x0).flatMap c).length)).toArray):=by
    have e2:s.cut i s.n s.c sz=⟨some ⟨g,i*sz,none⟩,m+1,s.c-i⟩:=by
     unfold Sl.cut
     rw [if_neg (by omega),ha,hm,Option.map_some,a7q,Nat.zero_add]
    rw [e2]
    simp [Builtin.clear_,run_underlying ht,hz,hzc',hst,Result.andThen]
   refine U7 hrun (hk _ _ ⟨⟨?_,.inr ⟨g,_,ha,rfl,q1,q2,?_,?_⟩⟩,?_,h4,h5⟩ I.setRow λk hkk=>setRow_other w g k _ λeq=>hkk (g,.cells arr e (0,0)) (List.mem_singleton_self _) eq.symm)
   ·rw [Y1 h4,List.length_append,List.length_take,List.length_replicate,h3];congr 1;omega
   ·simp only [List.size_toArray,List.length_append,List.length_take,List.length_drop,hvl,Array.length_toList]
    omega
   ·rw [List.flatMap_append,← e0H h4 xs hi,← q4,h3,List.take_take,Nat.min_eq_left (by omega)]
    have hl:(arr.toList.take (i*sz)++(List.replicate (xs.length-i) x0).flatMap c).length=xs.length*sz:=by
     rw [List.length_append,List.length_take,hvl,Array.length_toList];omega
    rw [List.toList_toArray,← hl,List.take_left]
   ·rw [List.length_append,List.length_take,List.length_replicate];omega
end
section
variable {H:Hp}
abbrev delV(g:Nat):Value:=.func (.func 65) #[] #[.pointer (some ⟨g,0,none⟩)]
theorem d3R(d:j9)(k:Int)(g:Nat):Ct Tryz.prog 65 [(Value.agg (q6 d).toArray),.pointer (some ⟨g,0,none⟩)] H [bx g 3 [vi k]] (λv H' Fo=>v=.bool (!decide (kindD d=k))/\H'=H/\Fo=[bx g 3 [vi k]]) noQE:=by
 intro w I
 refine e3f (D3 I rfl λg1 w1 I1 k1=>?_)
 refine L6 I1 λw2 I2=>s7 (ldA (vs:=q6 d) isAgg65 sizeOf65 rfl (I2.at1 (o:=0) (nb rfl) rfl)) (s7 (ld1 isAgg3 ((I2.bring 1).at1 (o:=0) (vs:=[(vi k)]) (nb rfl) rfl)) ?_)
 refine a1O (cap:=[]) (λargs w=>call66 args w) (a1y (Fi:=[]) (Fr:=[bx g1 65 (q6 d),bx g 3 [vi k]]) I2 (c6U (K:=λr H'=>r=kindD d/\H'=H) ⟨rfl,rfl⟩) (λv H3 Fo w3 I3 l3 k3 q=>?_) (λ_ _ _ _ _ q=>q.elim))
 obtain ⟨r,rfl,rfl,rfl,rfl⟩:=q
 refine ⟨k3 g (I2.bring 1).lt1 (λ⟨p,hp,_⟩=>by cases hp),?_⟩
 exact g8 (O4 _ _ _ _ _ _) ⟨_,_,I3.drop,rfl,rfl,rfl⟩
theorem d3S{s:Sl}{ds:List j9}{F:Frag}(k:Int)(g:Nat)(hr:RowL 65 2 q6 s ds F)(hb:ds.length<=big):Ct Tryz.prog 103 [vs s,delV g] H [F,bx g 3 [vi k]]
  (λv H' Fo=>∃i:Int,v=vi i/\H'=H/\Fo=[F,bx g 3 [vi k]]/\((i = -1/\∀d∈ds,kindD d=k)\/(0<=i/\(∀d∈ds.take i.toNat,kindD d=k)/\∃d,ds[i.toNat]? = some d/\kindD d≠k))) noQE:=by
 intro w I
 refine d8M ?_
 simp only [big] at hb
 refine u7 λj1 hx1=>c7 (a4E underlying22 hr) (G6 (J:=λn l w'=>∃i:Nat,n=ds.length-i/\l=[vi (i:Int)]/\i<=ds.length/\Inv w (inF [F,bx g 3 [vi k]]) H H [F,bx g 3 [vi k]] w'/\∀d∈ds.take i,kindD d=k) ⟨_,0,rfl,rfl,Nat.zero_le _,I,λd hd=>by simp at hd⟩ ?_)
 rintro n τ w1 next2 ⟨i,rfl,hl,hi,I1,ha⟩ hn2
 simp only [List.map_cons,List.map_nil,List.cons.injEq,and_true] at hl
 simp only [hl]
 refine c7 (D1 _ _ _ _ _ _) (X2 (λc=>?_) (λc=>?_))
 ·obtain ⟨x,hx⟩:=K2 (l:=ds) (i:=i) (by omega)
  obtain ⟨g1,arr,ha1,hF⟩:=hr.addr hx
  have hlt:=O1 hx
  refine c7 (a5l ha1 _ _ _ _ (by omega) (by have:=hr.2.1;omega)) ?_
  refine d7 (ldA (vs:=q6 x) isAgg65 sizeOf65 rfl (hr.atW I1 ha1 hx)) (a1O (cap:=[.pointer (some ⟨g,0,none⟩)]) (λargs w=>call65 args w) ?_)
  refine a1y (Fi:=[bx g 3 [vi k]]) (Fr:=[F]) (I1.bring 1) (d3R x k g) (λv H3 Fo w3 I3 l3 k3 q=>?_) (λ_ _ _ _ _ q=>q.elim)
  obtain ⟨rfl,rfl,rfl⟩:=q
  refine b0R (λc2=>?_) (λc2=>?_)
  ·exact ⟨_,_,I3.bring 1,i,rfl,rfl,rfl,.inr ⟨by omega,ha,x,hx,c2⟩⟩
  ·refine c7 (A7 _ _ _ _ _ _) ?_
   rw [K7 (by omega) (by omega)]
   refine hn2 _ _ _ (show ds.length-(i+1) < ds.length-i by omega) ⟨i+1,rfl,rfl,hlt,I3.bring 1,λd hd=>?_⟩
   rw [W1 hx] at hd
   rcases List.mem_append.1 hd with hd | hd
   ·exact ha d hd
   ·rw [List.mem_singleton.1 hd];exact c2
 ·refine hx1 _ _ ?_
  intro _
  rw [List.take_of_length_le (by omega)] at ha
  exact ⟨_,_,I1,-1,rfl,rfl,rfl,.inl ⟨rfl,ha⟩⟩
def kF(k:Int)(ds:List j9):List j9:=ds.filter λd=>decide (kindD d=k)
theorem d3T{k:Int}{ds:List j9}(h:∀d∈ds,kindD d=k):kF k ds=ds:=List.filter_eq_self.2 λd hd=>decide_eq_true (h d hd)
theorem c6X(k:Int)(a b:List j9):kF k (a++b)=kF k a++kF k b:=List.filter_append ..
theorem e4L{k:Int}{d:j9}(h:kindD d=k):kF k [d]=[d]:=by unfold kF;simp [h]
theorem d8f{k:Int}{d:j9}(h:kindD d≠k):kF k [d]=[]:=by unfold kF;simp [h]
theorem e0J{s:Sl}{ds:List j9}{F:Frag}(k:Int)(g:Nat)(hr:RowL 65 2 q6 s ds F)(hb:ds.length<=big):Ct Tryz.prog 63 [vs s,delV g] H [F,bx g 3 [vi k]]
  (λv H' Fo=>∃s' F',v=vs s'/\H'=H/\Fo=[F',bx g 3 [vi k]]/\∀H1:Hp,(∀p∈F',H1 p.1=some p.2)->SlH H1 2 q6 s' (kF k ds)/\s'.n<=s'.c) noQE:=by
 intro w I
 refine e3d ?_
 have hcap:=hr.cap
 have hlen:=hr.2.1
 refine a1O (cap:=[]) (λargs w=>call103 args w) (a1y (Fi:=[F,bx g 3 [vi k]]) (Fr:=[]) I (d3S k g hr hb) (λv H1 Fo w1 I1 l1 k1 q=>?_) (λ_ _ _ _ _ q=>q.elim))
 obtain ⟨i0,rfl,rfl,rfl,hi0⟩:=q
 simp only [big] at hb
 refine c7 (o9 _ _ _ _ _ _) (X2 (λc=>?_) (λc=>?_))
 ·rcases hi0 with ⟨_,ha⟩ | ⟨h0,_⟩
  ·exact ⟨_,_,I1,s,F,rfl,rfl,rfl,λH2 h2=>⟨by rw [d3T ha];exact hr.frozen (by decide) h2,hcap⟩⟩
  ·omega
 ·rcases hi0 with ⟨e,_⟩ | ⟨h0,ha,d0,hd0,hk0⟩
  ·exact (c e).elim
  ·refine u7 λj1 hx1=>c7 (A7 _ _ _ _ _ _) ?_
   have hlt0:=O1 hd0
   rw [K7 h0 (by omega)]
   obtain ⟨i1,rfl⟩:∃i1:Nat,i0=i1:=⟨i0.toNat,by omega⟩
   rw [Int.toNat_natCast] at ha hd0 hlt0
   refine G6 (J:=λn l w'=>∃(i j:Nat)(es:List j9)(F':Frag),n=ds.length-j/\l=[vi (i:Int),vi (j:Int)]/\i < j/\j<=ds.length/\RowL 65 2 q6 s es F'/\Inv w (inF [F,bx g 3 [vi k]]) H1 H1 [F',bx g 3 [vi k]] w'/\es.length=ds.length/\es.take i=kF k (ds.take j)/\es.drop j=ds.drop j)
    ⟨_,i1,i1+1,ds,F,rfl,rfl,by omega,by omega,hr,I1,rfl,by rw [W1 hd0,c6X,d3T ha,d8f hk0,List.append_nil],rfl⟩ ?_
   rintro n τ w2 next2 ⟨i,j,es,F2,rfl,hl,hij,hj,hr2,I2,hel,ht,hd⟩ hn2
   simp only [List.map_cons,List.map_nil,List.cons.injEq,and_true] at hl
   simp only [hl.1,hl.2]
   refine c7 (a4E underlying22 hr2) (c7 (D1 _ _ _ _ _ _) ?_)
   refine X2 (λc2=>?_) (λc2=>?_)
   ·refine u7 λj3 hx3=>?_
    obtain ⟨x,hx⟩:=K2 (l:=ds) (i:=j) (by omega)
    have hx':es[j]? = some x:=by
     have:=congrArg (λl=>l[0]?) hd
     simp only [List.getElem?_drop,Nat.add_zero] at this
     rw [this];exact hx
    have hd':es.drop (j+1)=ds.drop (j+1):=by rw [←List.drop_drop,← List.drop_drop,hd]
    obtain ⟨g2,arr,ha2,hF2⟩:=hr2.addr hx'
    have hltj:=O1 hx
    refine c7 (a5l ha2 _ _ _ _ (by omega) (by omega)) (d7 (ldA (vs:=q6 x) isAgg65 sizeOf65 rfl (hr2.atW I2 ha2 hx')) ?_)
    refine r8 I2 zeroValue65 rfl λg6 w6 I6 k6=>H9 I6 sizeOf65 (vs:=q6 x) (cs':=q6 x) rfl rfl (nb rfl) rfl rfl λw7 I7 k7=>d7 (ldA (vs:=q6 x) isAgg65 sizeOf65 rfl (I7.at1 (o:=0) (nb rfl) rfl)) (a1O (cap:=[.pointer (some ⟨g,0,none⟩)]) (λargs w=>call65 args w) ?_)
    refine a1y (Fi:=[bx g 3 [vi k]]) (Fr:=[bx g6 65 (q6 x),F2]) (I7.bring 2) (d3R x k g) (λv H8 Fo w8 I8 l8 k8 q=>?_) (λ_ _ _ _ _ q=>q.elim)
    obtain ⟨rfl,rfl,rfl⟩:=q
    refine c7 (R5 _) (Z5 (λc3=>?_) (λc3=>?_))
    ·have hk:kindD x=k:=by simpa using c3
     refine d7 (ldA (vs:=q6 x) isAgg65 sizeOf65 rfl ((I8.bring 1).at1 (o:=0) (nb rfl) rfl)) (c7 (a5l ha2 _ _ _ _ (by omega) (by omega)) ?_)
     refine a9D (i:=i) (I8.bring 2) hr2 ha2 (by omega) sizeOf65 rfl λF9 w9 h9 I9 k9=>c7 (A7 _ _ _ _ _ _) ?_
     rw [K7 (by omega) (by omega)]
     refine hx3 _ _ ?_
     intro _
     refine c7 (A7 _ _ _ _ _ _) ?_
     rw [K7 (by omega) (by omega)]
     refine hn2 _ _ _ (show ds.length-(j+1) < ds.length-j by omega) ⟨i+1,j+1,_,F9,rfl,rfl,by omega,by omega,h9,(I9.bring 2).drop,by rw [List.length_set];exact hel,?_,?_⟩
     ·rw [W1 hx,c6X,e4L hk,← ht,W1 (x:=x) (by rw [List.getElem?_set_self (by omega)]),List.take_set_of_le (Nat.le_refl _)]
     ·rw [List.drop_set_of_lt (by omega),hd']
    ·have hk:kindD x≠k:=by simpa using c3
     refine hx3 _ _ ?_
     intro _
     refine c7 (A7 _ _ _ _ _ _) ?_
     rw [K7 (by omega) (by omega)]
     refine hn2 _ _ _ (show ds.length-(j+1) < ds.length-j by omega) ⟨i,j+1,es,F2,rfl,rfl,by omega,by omega,hr2,(I8.bring 1).drop.bring 1,hel,?_,hd'⟩
     rw [W1 hx,c6X,d8f hk,List.append_nil,ht]
   ·refine hx1 _ _ ?_
    intro _
    have hj':j=ds.length:=by omega
    rw [hj',List.take_length] at ht
    have hn2':=hr2.2.1
    refine c7 (d5g underlying22 sizeOf65 (s:=s) (l:=(i:Int)) (by omega) (by omega)) ?_
    rw [Int.toNat_natCast]
    refine e0I underlying22 zeroValue65 (x0:=⟨⟨#[]⟩,0⟩) rfl (by decide) I2 hr2 (i:=i) (by omega) λF9 w9 h9 I9 k9=>c7 (c1v underlying22 sizeOf65 (s:=s) (h:=(i:Int)) (by omega) (by omega)) ?_
    rw [Int.toNat_natCast]
    refine ⟨_,_,I9,s.cut 0 i s.c 2,F9,rfl,rfl,rfl,λH2 h2=>⟨?_,?_⟩⟩
    ·have:=(h9.frozen (by decide) h2).cut (l:=0) (h:=i) (m:=s.c) (Nat.zero_le _) (by omega) (by omega)
     rw [List.drop_zero,List.take_append_of_le_length (by rw [List.length_take];omega),List.take_take,Nat.min_self,ht] at this
     exact this
    ·show i-0<=s.c-0
     omega
theorem d5W{s:Sl}{ds:List j9}(hs:SlH H 2 q6 s ds)(hb:ds.length<=big):Ct Tryz.prog 64 [vs s] H [] (λv H' Fo=>∃s' F,v=vs s'/\H'=H/\Fo=[F]/\RowL 65 2 q6 s' ds F) noQE:=by
 intro w I
 refine e3e ?_
 simp only [big] at hb
 refine c7 (c8m _ _ s) (Z5 (λc=>?_) (λc=>?_))
 ·have:ds=[]:=by
   cases ds with
   | nil=>rfl
   | cons d ds=>
    obtain ⟨g,o,ha,_⟩:=hs.2 0 d rfl
    rw [ha] at c;cases c
  subst this
  exact ⟨_,_,I.nil,⟨none,0,0⟩,[],rfl,rfl,rfl,RowL.nil a7W b0B⟩
 ·refine O0 (e:=65) (c:=q6) (xs:=[]) I (d8A) rfl rfl a7W b0B (nb rfl) λs_2 F_3 w_4 h_5 I_6 k_7=>?_
  refine d2q (s:=s_2) (xs:=[]) I_6 h_5 (SlH.src I_6 hs a7W) (by simp only [List.length_nil];omega) λs_8 F_9 aa ab ad ae=>?_
  rw [List.nil_append] at ab
  exact ⟨_,_,ad,s_8,F_9,rfl,rfl,rfl,ab⟩
def ofS(q:PP)(k:Int):List j9:=if (wellS q).2=0 then kF k q.decls else []
theorem d8g(hT:TabsH H){p:o8}{q:PP}(hp:PH H p q)(hsm:q.Sm){k:Int}{K:Sl->Int->Hp->Prop}(h:∀s H',Hle H H'->SlH H' 2 q6 s (ofS q k)->s.n<=s.c->K s (wellS q).2 H'):b0H p k H K:=by
 intro w I
 refine e2u ?_
 unfold F31
 refine D3 I (cs:=(q7 p)) rfl λg1 w1 I1 k1=>D3 I1 (cs:=[vi k]) rfl λg2 w2 I2 k2=>d7 (ldA isAgg25 sizeOf25 rfl ((I2.bring 1).at1 (o:=0) (vs:=(q7 p)) (nb rfl) rfl)) (a1O (cap:=[]) (λargs w=>call62 args w) ?_)
 refine a1y (Fi:=[]) (Fr:=[bx g2 3 [vi k],bx g1 25 (q7 p)]) I2 (e0G hT hp hsm (K:=λn e H'=>e=(wellS q).2) λH' l'=>rfl) (λv H3 Fo w3 I3 l3 k3 q=>?_) (λ_ _ _ _ _ q=>q.elim)
 obtain ⟨r,e,rfl,rfl,rfl⟩:=q
 refine c7 (m7 _ _ _ rfl) (c7 (m7 _ _ _ rfl) ?_)
 refine c7 (O4 _ _ _ _ _ _) ?_
 unfold ofS at h
 refine b0R (λc=>?_) (λc=>?_)
 ·rw [if_neg c] at h
  exact ⟨_,[],I3.drop.drop,⟨none,0,0⟩,_,rfl,rfl,h _ _ l3 (SlH.nil _ _ _) (Nat.le_refl _)⟩
 ·rw [if_pos c] at h
  obtain ⟨hd,hbd,_⟩:=hp
  refine c7 a9I (d7 (ld1 isAgg22 ((I3.bring 1).at1 (o:=0) (vs:=[(vs p.a2h)]) (nb rfl) rfl)) ?_)
  refine a1O (cap:=[]) (λargs w=>call64 args w) (a1y (Fi:=[]) (Fr:=[bx g2 3 [vi k],bx g1 25 (q7 p)]) I3 (d5W (hd.le l3) hbd) (λv H4 Fo w4 I4 l4 k4 q=>?_) (λ_ _ _ _ _ q=>q.elim))
  obtain ⟨s4,F4,rfl,rfl,rfl,hr⟩:=q
  refine c7 (Q7 _ _ _) (a1O (cap:=[]) (λargs w=>call63 args w) ?_)
  refine a1y (Fi:=[F4,bx g2 3 [vi k]]) (Fr:=[bx g1 25 (q7 p)]) I4 (e0J k g2 hr hbd) (λv H5 Fo w5 I5 l5 k5 q=>?_) (λ_ _ _ _ _ q=>q.elim)
  obtain ⟨s5,F5,rfl,rfl,rfl,hs5⟩:=q
  obtain ⟨I6,l6,h6⟩:=I5.freeze
  obtain ⟨hs6,hc6⟩:=hs5 _ h6
  refine ⟨_,[],I6.drop.drop,s5,0,rfl,rfl,?_⟩
  have:=h s5 _ (l3.trans l6) hs6 hc6
  rw [c] at this
  exact this
end
section
variable {H:Hp}
theorem c6Y(q:PP)(k:Int):(ofS q k).length<=q.decls.length:=by
 unfold ofS;split
 ·exact List.length_filter_le _ _
 ·exact Nat.zero_le _
theorem e0K(hT:TabsH H){p:o8}{q:PP}(hp:PH H p q)(hsm:q.Sm){K:Sl->Int->Hp->Prop}(h:∀s H',Hle H H'->SlH H' 1 v7 s ((ofS q 1).map (·.o7))->K s (wellS q).2 H'):b2V p H K:=by
 refine b9y _ ?_
 have hb:=hp.bd
 simp only [big] at hb
 have hle:=c6Y q 1
 refine d8g hT hp hsm λs1 H1 l1 hS1 _=>?_
 have n1:=hS1.1
 refine P7 (λ(z:List BA×Int) H'=>0<=z.2/\z.2<=(ofS q 1).length/\H'=H1/\z.1=((ofS q 1).take z.2.toNat).map (·.o7)) (λz=>((ofS q 1).length-z.2).toNat) ⟨Int.le_refl _,by dsimp only;omega,rfl,rfl⟩ ?_
 rintro ⟨cs,i⟩ H2 next ⟨i0,i1,rfl,hcs⟩ hn
 dsimp only at i0 i1 hcs ⊢
 refine ⟨λc=>?_,λc=>?_⟩
 ·obtain ⟨x,hx,hE⟩:=hS1.get i0 (by omega)
  have hlt:=O1 hx
  have hcl:cs.length<=(ofS q 1).length:=by rw [hcs,List.length_map,List.length_take];omega
  refine ⟨i0,by omega,x,hE,by simp only [List.length_cons,List.length_nil];omega,?_⟩
  rw [K7 i0 (by omega)]
  refine hn _ _ ⟨by dsimp only;omega,by dsimp only;omega,rfl,?_⟩ (by dsimp only;omega)
  dsimp only
  rw [show (i+1).toNat=i.toNat+1 by omega,W1 hx,List.map_append,← hcs];rfl
 ·unfold a6R
  intro s2 H3 l3 hS3 _
  rw [hcs,List.take_of_length_le (by omega)] at hS3
  exact h s2 H3 (l1.trans l3) hS3
theorem d3U(hT:TabsH H){p:o8}{q:PP}(hp:PH H p q)(hsm:q.Sm){K:Sl->Int->Hp->Prop}(h:∀s H',Hle H H'->SlH H' 2 q6 s (ofS q 2)->K s (wellS q).2 H'):b1m p H K:=by
 exact b8p _ (d8g hT hp hsm λs1 H1 l1 hS1 _=>h s1 H1 l1 hS1)
theorem d5X{s s':Sl}{xs:List j9}(h1:SlH H 2 q6 s xs)(h2:SlH H 2 q6 s' xs)(hb:xs.length<=big){K:KT Bool}(h:K true H):a4L s s' H K:=by
 refine b4I _ _ ?_
 have n1:=h1.1;have n2:=h2.1
 refine ⟨λe=>by omega,λ_=>?_⟩
 refine P7 (λ(i:Int) H'=>0<=i/\i<=xs.length/\H'=H) (λi=>(xs.length-i).toNat) ⟨Int.le_refl _,by omega,rfl⟩ ?_
 rintro i H1 next ⟨i0,i1,rfl⟩ hn
 refine ⟨λhq=>?_,λhq=>?_⟩
 ·obtain ⟨x,hx,hE⟩:=h1.get i0 hq
  obtain ⟨y,hy,hF⟩:=h2.get i0 (show i < (s'.n:Int) by omega)
  rw [hx] at hy;cases hy
  refine ⟨i0,hq,x,hE,i0,by omega,x,hF,λe=>(e ⟨rfl,rfl⟩).elim,λ_=>?_⟩
  rw [K7 i0 (by simp only [big] at hb;omega)]
  exact hn _ _ ⟨by omega,by omega,rfl⟩ (by omega)
 ·unfold a3w;exact h
end
abbrev Op:=z6
abbrev Ed:=d8
structure Gr where
 p:Int
 t:Int
 es:List Ed
structure En where
 nv:Int
 vf:BA->Int
 af:BA->Int
 ex:Int
abbrev nO:Op:=⟨-1,0⟩
abbrev bareE(f t k:Int):Ed:=⟨f,t,k,-1,-1,0,nO,nO⟩
def edG(x:Ed)(g:Gr):Gr:=⟨g.p,g.t,g.es++[x]⟩
abbrev frG(g:Gr):Gr:=⟨g.p+1,g.t,g.es⟩
abbrev teG(d:Int)(g:Gr):Gr:=⟨g.p,if d+1 > g.t then d+1 else g.t,g.es⟩
abbrev kOs:List Int:=[0,0,0,9,10,3,4,5,6,7,8]
def kO(k:Int):Int:=kOs.getD k.toNat 0
def notO(op:Int):Int:=([0,6,5,4,3,2,1]:List Int).getD op.toNat 0
def plN(L:En)(k n:Int)(s:BA):List PT->Option Op
 | .mk (.expr k' n' _ _) _::_=>if k=1 then some ⟨-1,n⟩ else if k=5/\k'=1 then some ⟨-1,IntKind.wrap .i64 (0-n')⟩ else if k=2 then some ⟨L.vf s,0⟩ else none
 | _=>if k=1 then some ⟨-1,n⟩ else if k=2 then some ⟨L.vf s,0⟩ else none
structure Fs where
 pl:Option Op
 into:Int->Int->Int->Int->Gr->Gr
 co:Int->Int->Int->Gr->Gr
 st:Int->Int->Gr->Gr
def opF(L:En)(f:Fs)(from_ d:Int)(g:Gr):Op×Int×Gr:=
 match f.pl with
 | some o=>(o,from_,g)
 | none=>(⟨L.nv+d,0⟩,g.p,f.into (L.nv+d) from_ g.p d (teG d (frG g)))
def dpO(L:En)(o:Op)(d:Int):Int:=if L.nv<=o.K3 then d+1 else d
def twF(L:En)(f h:Fs)(from_ d:Int)(g:Gr):Op×Op×Int×Gr:=
 ((opF L f from_ d g).1,(opF L h (opF L f from_ d g).2.1 (dpO L (opF L f from_ d g).1 d) (opF L f from_ d g).2.2).1,(opF L h (opF L f from_ d g).2.1 (dpO L (opF L f from_ d g).1 d) (opF L f from_ d g).2.2).2.1,(opF L h (opF L f from_ d g).2.1 (dpO L (opF L f from_ d g).1 d) (opF L f from_ d g).2.2).2.2)
def inN(L:En)(k:Int)(s:BA)(fs:List Fs)(dst from_ tg d:Int)(g:Gr):Gr:=
 match fs with
 | []=>edG ⟨from_,tg,kO k,dst,if k=4 then L.af s else -1,0,nO,nO⟩ g
 | [f]=>edG ⟨(opF L f from_ d g).2.1,tg,kO k,dst,if k=4 then L.af s else -1,0,(opF L f from_ d g).1,nO⟩ (opF L f from_ d g).2.2
 | [f,h]=>edG ⟨(twF L f h from_ d g).2.2.1,tg,kO k,dst,if k=4 then L.af s else -1,0,(twF L f h from_ d g).1,(twF L f h from_ d g).2.1⟩ (twF L f h from_ d g).2.2.2
 | _=>g
def asN(L:En)(k op:Int)(a b:Op)(at_ yes no:Int)(g:Gr):Gr:=edG ⟨at_,no,12,-1,-1,notO op,a,b⟩ (edG ⟨at_,yes,12,-1,-1,op,a,b⟩ g)
def coN(L:En)(k op:Int)(fs:List Fs)(from_ yes no:Int)(g:Gr):Gr:=
 if k=1 then edG (bareE from_ yes 1) g
 else if k=2 then edG (bareE from_ no 1) g
 else match fs with
  | [f]=>if k=4 then f.co from_ no yes g else g
  | [f,h]=>if k=5 then h.co g.p yes no (f.co from_ g.p no (frG g)) else if k=6 then h.co g.p yes no (f.co from_ yes g.p (frG g))
    else asN L k op (twF L f h from_ 0 g).1 (twF L f h from_ 0 g).2.1 (twF L f h from_ 0 g).2.2.1 yes no (twF L f h from_ 0 g).2.2.2
  | _=>g
def begG(fs:List Fs)(tg:Int)(g:Gr):Int×Gr:=match fs with | []=>(tg,g) | _=>(g.p,frG g)
def blG:List Fs->Int->Int->Int->Gr->Gr
 | [],_,_,_,g=>g
 | [f],from_,_,tg,g=>f.st from_ tg g
 | f::h::r,from_,nx,tg,g=>blG (h::r) nx (nx+1) tg (f.st from_ nx g)
def blkG(fs:List Fs)(from_ tg:Int)(g:Gr):Gr:=blG fs from_ g.p tg ⟨g.p+(fs.length-1:Nat),g.t,g.es⟩
def lsN(L:En)(k:Int)(s:BA)(t:Nat)(fs:List Fs)(from_ tg:Int)(g:Gr):Gr:=
 match fs with
 | []=>edG (bareE from_ tg 1) g
 | f::r=>
  if k=1 then (match f.pl with
   | some o=>edG ⟨from_,tg,2,L.vf s,-1,0,o,nO⟩ g
   | none=>f.into (L.vf s) from_ tg 0 g)
  else if k=2 then (match r with
   | [h]=>edG ⟨(twF L f h from_ 0 g).2.2.1,tg,11,-1,L.af s,0,(twF L f h from_ 0 g).1,(twF L f h from_ 0 g).2.1⟩ (twF L f h from_ 0 g).2.2.2
   | _=>g)
  else if k=3 then
   blkG (r.drop t) (begG (r.drop t) tg (begG (r.take t) tg g).2).1 tg (blkG (r.take t) (begG (r.take t) tg g).1 tg (f.co from_ (begG (r.take t) tg g).1 (begG (r.drop t) tg (begG (r.take t) tg g).2).1 (begG (r.drop t) tg (begG (r.take t) tg g).2).2))
  else if k=4 then blkG r (begG r from_ g).1 from_ (f.co from_ (begG r from_ g).1 tg (begG r from_ g).2)
  else if k=5 then edG (bareE (g.p+1) tg 14) (edG (bareE g.p tg 13) (f.co from_ g.p (g.p+1) (frG (frG g))))
  else if k=6 then f.co from_ tg L.ex g
  else edG (bareE from_ tg 1) g
def loN(L:En)(l:Lab)(cs:List PT)(fs:List Fs):Fs:=
 match l with
 | .expr k n s _=>⟨plN L k n s cs,inN L k s fs,λ_ _ _ g=>g,λ_ _ g=>g⟩
 | .cond k op _ _=>⟨none,λ_ _ _ _ g=>g,coN L k op fs,λ_ _ g=>g⟩
 | .stmt k s _ _ t _=>⟨none,λ_ _ _ _ g=>g,λ_ _ _ g=>g,lsN L k s t fs⟩
 | .decl _ _=>⟨none,λ_ _ _ _ g=>g,λ_ _ _ g=>g,λ_ _ g=>g⟩
mutual
def loT(L:En):PT->Fs
 | .mk l cs=>loN L l cs (loTs L cs)
def loTs(L:En):List PT->List Fs
 | []=>[]
 | t::ts=>loT L t::loTs L ts
end
theorem b2D(L:En):∀ts:List PT,loTs L ts=ts.map (loT L)
 | []=>by rw [loTs];rfl
 | t::ts=>by rw [loTs,b2D L ts];rfl
theorem c1N(L:En){k n:Int}{s:BA}{a:Nat}{ts:List PT}:loT L (.mk (.expr k n s a) ts)=⟨plN L k n s ts,inN L k s (ts.map (loT L)),λ_ _ _ g=>g,λ_ _ g=>g⟩:=by rw [loT,b2D];rfl
theorem c6Z(L:En){k op:Int}{a b:Nat}{ts:List PT}:loT L (.mk (.cond k op a b) ts)=⟨none,λ_ _ _ _ g=>g,coN L k op (ts.map (loT L)),λ_ _ g=>g⟩:=by rw [loT,b2D];rfl
theorem c7a(L:En){k:Int}{s:BA}{a b t c:Nat}{ts:List PT}:loT L (.mk (.stmt k s a b t c) ts)=⟨none,λ_ _ _ _ g=>g,λ_ _ _ g=>g,lsN L k s t (ts.map (loT L))⟩:=by rw [loT,b2D];rfl
structure Gl (n:Nat) (g g':Gr):Prop where
 p0:g.p<=g'.p
 p1:g'.p<=g.p+n
 t:g.t<=g'.t
 es:∃l,g'.es=g.es++l/\l.length<=n
theorem Gl.refl(g:Gr):Gl 0 g g:=⟨Int.le_refl _,by omega,Int.le_refl _,[],by simp,Nat.le_refl _⟩
theorem Gl.trans{n m:Nat}{a b c:Gr}(h:Gl n a b)(k:Gl m b c):Gl (n+m) a c:=by
 obtain ⟨p0,p1,t0,l,e,hl⟩:=h
 obtain ⟨q0,q1,t1,l',e',hl'⟩:=k
 refine ⟨by omega,by omega,by omega,l++l',by rw [e',e,List.append_assoc],by rw [List.length_append];omega⟩
theorem Gl.mono{n m:Nat}{a b:Gr}(h:Gl n a b)(k:n<=m):Gl m a b:=by
 obtain ⟨p0,p1,t0,l,e,hl⟩:=h
 exact ⟨p0,by omega,t0,l,e,by omega⟩
theorem a7Q(x:Ed)(g:Gr):Gl 1 g (edG x g):=⟨Int.le_refl _,by unfold edG;dsimp only;omega,Int.le_refl _,[x],rfl,Nat.le_refl _⟩
theorem a9W(g:Gr):Gl 1 g (frG g):=⟨by dsimp only;omega,by dsimp only;omega,Int.le_refl _,[],by simp,by simp⟩
theorem d8h(d:Int)(g:Gr):Gl 0 g (teG d g):=⟨Int.le_refl _,by dsimp only;omega,by dsimp only;split<;>omega,[],by simp,Nat.le_refl _⟩
structure Fo (n:Nat) (f:Fs):Prop where
 into:∀dst a b d g,Gl n g (f.into dst a b d g)
 co:∀a b c g,Gl n g (f.co a b c g)
 st:∀a b g,Gl n g (f.st a b g)
theorem c2Z{L:En}{n:Nat}{f:Fs}(h:Fo n f)(a d:Int)(g:Gr):Gl (n+1) g (opF L f a d g).2.2:=by
 unfold opF
 split
 ·exact (Gl.refl g).mono (by omega)
 ·exact (((a9W g).trans (d8h d _)).trans (h.into ..)).mono (by omega)
theorem c0G{L:En}{n m:Nat}{f h:Fs}(hf:Fo n f)(hh:Fo m h)(a d:Int)(g:Gr):Gl (n+1+(m+1)) g (twF L f h a d g).2.2.2:=(c2Z hf a d g).trans (c2Z hh ..)
theorem b7y(fs:List Fs)(tg:Int)(g:Gr):Gl 1 g (begG fs tg g).2:=by
 unfold begG
 split
 ·exact (Gl.refl g).mono (by omega)
 ·exact a9W g
def sz:List Nat->Nat:=List.sum
inductive Fos:List PT->List Fs->Prop
 | nil:Fos [] []
 | cons {t:PT} {ts:List PT} {f:Fs} {fs:List Fs}:Fo (4*cT t-1) f->Fos ts fs->Fos (t::ts) (f::fs)
theorem R7(t:PT):1<=cT t:=by cases t;rw [cT];omega
theorem b4Y:∀r:List PT,r.length<=cTs r
 | []=>by simp
 | x::r=>by have:=R7 x;have:=b4Y r;rw [cTs,List.length_cons];omega
theorem d8i:∀{ts:List PT}{fs:List Fs},Fos ts fs->∀(a nx tg:Int)(g:Gr),Gl (4*cTs ts-ts.length) g (blG fs a nx tg g)
 | _,_,.nil,a,nx,tg,g=>by rw [blG];exact (Gl.refl g).mono (by omega)
 | _,_,.cons (t:=t) h .nil,a,nx,tg,g=>by rw [blG,cTs,cTs];exact (h.st ..).mono (by simp)
 | _,_,.cons (t:=t) (f:=f) h (.cons (t:=u) (ts:=r) h' k),a,nx,tg,g=>by
  rw [blG]
  have ih:=d8i (Fos.cons h' k) nx (nx+1) tg (f.st a nx g)
  refine ((h.st ..).trans ih).mono ?_
  simp only [cTs,List.length_cons]
  have:=R7 t;have:=R7 u
  have:=b4Y r
  omega
theorem Fos.len{ts:List PT}{fs:List Fs}(h:Fos ts fs):fs.length=ts.length:=by
 induction h with
 | nil=>rfl
 | cons _ _ ih=>rw [List.length_cons,List.length_cons,ih]
theorem b9K{ts:List PT}{fs:List Fs}(h:Fos ts fs)(a tg:Int)(g:Gr):Gl (4*cTs ts) g (blkG fs a tg g):=by
 have h1:Gl (fs.length-1) g ⟨g.p+(fs.length-1:Nat),g.t,g.es⟩:=⟨by dsimp only;omega,by dsimp only;omega,Int.le_refl _,[],by simp,by simp⟩
 refine (h1.trans (d8i h ..)).mono ?_
 have:=h.len;have:=b4Y ts;omega
theorem Fos.take{ts:List PT}{fs:List Fs}(h:Fos ts fs):∀n,Fos (ts.take n) (fs.take n):=by
 induction h with
 | nil=>intro n;simp;exact .nil
 | cons h _ ih=>intro n;cases n with
  | zero=>exact .nil
  | succ n=>exact .cons h (ih n)
theorem Fos.drop{ts:List PT}{fs:List Fs}(h:Fos ts fs):∀n,Fos (ts.drop n) (fs.drop n):=by
 induction h with
 | nil=>intro n;simp;exact .nil
 | cons h k ih=>intro n;cases n with
  | zero=>exact .cons h k
  | succ n=>exact ih n
theorem c4j(ts:List PT)(n:Nat):cTs (ts.take n)+cTs (ts.drop n)=cTs ts:=by rw [←a8x,List.take_append_drop]
theorem e0L(L:En){k n:Int}{s:BA}{cs:List PT}{fs:List Fs}(h:Fos cs fs)(dst a b d:Int)(g:Gr):Gl (4*cTs cs+1) g (inN L k s fs dst a b d g):=by
 cases h with
 | nil=>unfold inN;exact (a7Q ..).mono (by omega)
 | @cons t ts f fs h1 h2=>cases h2 with
  | nil=>
   refine ((c2Z (L:=L) h1 a d g).trans (a7Q ..)).mono ?_
   have:=R7 t;rw [cTs,cTs];omega
  | @cons u us f' fs' h3 h4=>cases h4 with
   | nil=>
    refine ((c0G (L:=L) h1 h3 a d g).trans (a7Q ..)).mono ?_
    have:=R7 t;have:=R7 u;rw [cTs,cTs,cTs];omega
   | cons _ _=>unfold inN;exact (Gl.refl g).mono (by omega)
theorem e0M(L:En){k op:Int}{cs:List PT}{fs:List Fs}(h:Fos cs fs)(a b c:Int)(g:Gr):Gl (4*cTs cs+2) g (coN L k op fs a b c g):=by
 unfold coN
 split
 ·exact (a7Q ..).mono (by omega)
 split
 ·exact (a7Q ..).mono (by omega)
 cases h with
 | nil=>exact (Gl.refl g).mono (by omega)
 | @cons t ts f fs h1 h2=>cases h2 with
  | nil=>
   dsimp only
   split
   ·refine (h1.co ..).mono ?_;rw [cTs,cTs];omega
   ·exact (Gl.refl g).mono (by omega)
  | @cons u us f' fs' h3 h4=>cases h4 with
   | nil=>
    have:=R7 t;have:=R7 u
    dsimp only
    split
    ·refine (((a9W g).trans (h1.co ..)).trans (h3.co ..)).mono ?_;rw [cTs,cTs,cTs];omega
    split
    ·refine (((a9W g).trans (h1.co ..)).trans (h3.co ..)).mono ?_;rw [cTs,cTs,cTs];omega
    ·unfold asN
     refine (((c0G (L:=L) h1 h3 a 0 g).trans (a7Q ..)).trans (a7Q ..)).mono ?_;rw [cTs,cTs,cTs];omega
   | cons _ _=>exact (Gl.refl g).mono (by omega)
theorem e0N(L:En){k:Int}{s:BA}{n:Nat}{cs:List PT}{fs:List Fs}(h:Fos cs fs)(a b:Int)(g:Gr):Gl (4*cTs cs+3) g (lsN L k s n fs a b g):=by
 unfold lsN
 cases h with
 | nil=>exact (a7Q ..).mono (by omega)
 | @cons t ts f r h1 h2=>
  have ht:=R7 t
  dsimp only
  rw [cTs]
  split
  ·cases f.pl with
   | some o=>exact (a7Q ..).mono (by omega)
   | none=>exact (h1.into ..).mono (by omega)
  split
  ·cases h2 with
   | nil=>exact (Gl.refl g).mono (by omega)
   | @cons u us f' fs' h3 h4=>cases h4 with
    | nil=>
     refine ((c0G (L:=L) h1 h3 a 0 g).trans (a7Q ..)).mono ?_
     have:=R7 u;rw [cTs,cTs];omega
    | cons _ _=>exact (Gl.refl g).mono (by omega)
  split
  ·refine (((((b7y ..).trans (b7y ..)).trans (h1.co ..)).trans (b9K (h2.take n) ..)).trans (b9K (h2.drop n) ..)).mono ?_
   have:=c4j ts n;omega
  split
  ·refine (((b7y ..).trans (h1.co ..)).trans (b9K h2 ..)).mono ?_;omega
  split
  ·refine (((((a9W g).trans (a9W _)).trans (h1.co ..)).trans (a7Q ..)).trans (a7Q ..)).mono ?_;omega
  split
  ·exact (h1.co ..).mono (by omega)
  ·exact (a7Q ..).mono (by omega)
mutual
theorem b0Q(L:En):∀t:PT,Fo (4*cT t-1) (loT L t)
 | .mk l cs=>by
  have hs:=d1m L cs
  rw [loT,cT]
  have z:∀(m:Nat)(g:Gr),Gl m g g:=λm g=>(Gl.refl g).mono (Nat.zero_le _)
  cases l with
  | expr k n s a=>exact ⟨λdst a b d g=>(e0L L (n:=n) hs ..).mono (by omega),λ_ _ _ g=>z _ g,λ_ _ g=>z _ g⟩
  | cond k op a b=>exact ⟨λ_ _ _ _ g=>z _ g,λ_ _ _ g=>(e0M L hs ..).mono (by omega),λ_ _ g=>z _ g⟩
  | stmt k s a b t f=>exact ⟨λ_ _ _ _ g=>z _ g,λ_ _ _ g=>z _ g,λ_ _ g=>(e0N L hs ..).mono (by omega)⟩
  | decl a b=>exact ⟨λ_ _ _ _ g=>z _ g,λ_ _ _ g=>z _ g,λ_ _ g=>z _ g⟩
theorem d1m(L:En):∀ts:List PT,Fos ts (loTs L ts)
 | []=>by rw [loTs];exact .nil
 | t::ts=>by rw [loTs];exact .cons (b0Q L t) (d1m L ts)
end
theorem d3V(L:En)(ts:List PT):Fos ts (ts.map (loT L)):=by rw [←b2D];exact d1m L ts
def Tl(m:Int)(g g':Gr):Prop:=g'.t<=g.t\/g'.t<=m
theorem Tl.trans{m:Int}{a b c:Gr}(h:Tl m a b)(k:Tl m b c):Tl m a c:=by unfold Tl at *;omega
theorem Tl.mono{m n:Int}{a b:Gr}(h:Tl m a b)(k:m<=n):Tl n a b:=by unfold Tl at *;omega
theorem Tl.same{m:Int}{a b:Gr}(h:b.t=a.t):Tl m a b:=.inl (by omega)
structure To (n:Nat) (f:Fs):Prop where
 into:∀dst a b d g,0<=d->Tl (d+n) g (f.into dst a b d g)
 co:∀a b c g,Tl n g (f.co a b c g)
 st:∀a b g,Tl n g (f.st a b g)
theorem d1n{L:En}{n:Nat}{f:Fs}(h:To n f)(hn:1<=n)(a d:Int)(g:Gr)(h0:0<=d):Tl (d+n) g (opF L f a d g).2.2:=by
 unfold opF
 split
 ·exact Tl.same rfl
 ·refine Tl.trans (b:=teG d (frG g)) ?_ (h.into _ _ _ _ _ h0)
  unfold Tl;dsimp only;split<;>omega
theorem d1o{L:En}{n m:Nat}{f h:Fs}(hf:To n f)(hn:1<=n)(hh:To m h)(hm:1<=m)(a d:Int)(g:Gr)(h0:0<=d):Tl (d+(n+m:Nat)) g (twF L f h a d g).2.2.2:=by
 have hd:d<=dpO L (opF L f a d g).1 d/\dpO L (opF L f a d g).1 d<=d+1:=by unfold dpO;split<;>omega
 refine ((d1n hf hn a d g h0).mono (by omega)).trans ((d1n hh hm _ _ _ (by omega)).mono (by omega))
theorem a9X{m:Int}(x:Ed)(g:Gr):Tl m g (edG x g):=Tl.same rfl
theorem c7b{m:Int}(fs:List Fs)(tg:Int)(g:Gr):Tl m g (begG fs tg g).2:=by
 unfold begG
 split<;>exact Tl.same rfl
inductive Tos:List PT->List Fs->Prop
 | nil:Tos [] []
 | cons {t:PT} {ts:List PT} {f:Fs} {fs:List Fs}:To (cT t) f->Tos ts fs->Tos (t::ts) (f::fs)
theorem d8j:∀{ts:List PT}{fs:List Fs},Tos ts fs->∀(a nx tg:Int)(g:Gr),Tl (cTs ts) g (blG fs a nx tg g)
 | _,_,.nil,a,nx,tg,g=>by rw [blG];exact Tl.same rfl
 | _,_,.cons (t:=t) h .nil,a,nx,tg,g=>by rw [blG,cTs,cTs];exact (h.st ..).mono (by omega)
 | _,_,.cons (t:=t) (f:=f) h (.cons (t:=u) (ts:=r) h' k),a,nx,tg,g=>by
  rw [blG]
  have ih:=d8j (Tos.cons h' k) nx (nx+1) tg (f.st a nx g)
  rw [cTs]
  exact ((h.st ..).mono (by omega)).trans (ih.mono (by omega))
theorem c3a{ts:List PT}{fs:List Fs}(h:Tos ts fs)(a tg:Int)(g:Gr):Tl (cTs ts) g (blkG fs a tg g):=by
 exact Tl.trans (b:=⟨g.p+(fs.length-1:Nat),g.t,g.es⟩) (Tl.same rfl) (d8j h ..)
theorem Tos.take{ts:List PT}{fs:List Fs}(h:Tos ts fs):∀n,Tos (ts.take n) (fs.take n):=by
 induction h with
 | nil=>intro n;simp;exact .nil
 | cons h _ ih=>intro n;cases n with
  | zero=>exact .nil
  | succ n=>exact .cons h (ih n)
theorem Tos.drop{ts:List PT}{fs:List Fs}(h:Tos ts fs):∀n,Tos (ts.drop n) (fs.drop n):=by
 induction h with
 | nil=>intro n;simp;exact .nil
 | cons h k ih=>intro n;cases n with
  | zero=>exact .cons h k
  | succ n=>exact ih n
mutual
theorem e9C(L:En):∀t:PT,To (cT t) (loT L t)
 | .mk l cs=>by
  have hs:=d1p L cs
  rw [loT,cT]
  have z:∀(m:Int)(g:Gr),Tl m g g:=λm g=>Tl.same rfl
  cases l with
  | expr k n s a=>
   refine ⟨λdst a b d g h0=>?_,λ_ _ _ g=>z _ g,λ_ _ g=>z _ g⟩
   dsimp only [loN]
   generalize loTs L cs=fs at hs
   unfold inN
   cases hs with
   | nil=>exact a9X ..
   | @cons t ts f r h1 h2=>cases h2 with
    | nil=>rw [cTs,cTs];exact ((d1n h1 (R7 t) a d g h0).mono (by omega)).trans (a9X ..)
    | @cons u us f' r' h3 h4=>cases h4 with
     | nil=>rw [cTs,cTs,cTs];exact ((d1o h1 (R7 t) h3 (R7 u) a d g h0).mono (by omega)).trans (a9X ..)
     | cons _ _=>exact z _ _
  | cond k op a b=>
   refine ⟨λ_ _ _ _ g _=>z _ g,λa b c g=>?_,λ_ _ g=>z _ g⟩
   dsimp only [loN]
   generalize loTs L cs=fs at hs
   unfold coN
   split
   ·exact a9X ..
   split
   ·exact a9X ..
   cases hs with
   | nil=>exact z _ _
   | @cons t ts f r h1 h2=>cases h2 with
    | nil=>
     dsimp only
     split
     ·exact (h1.co ..).mono (by rw [cTs,cTs];omega)
     ·exact z _ _
    | @cons u us f' r' h3 h4=>cases h4 with
     | nil=>
      dsimp only
      rw [cTs,cTs,cTs]
      split
      ·exact (Tl.trans (b:=frG g) (Tl.same rfl) ((h1.co ..).mono (by omega))).trans ((h3.co ..).mono (by omega))
      split
      ·exact (Tl.trans (b:=frG g) (Tl.same rfl) ((h1.co ..).mono (by omega))).trans ((h3.co ..).mono (by omega))
      ·unfold asN
       exact (((d1o h1 (R7 t) h3 (R7 u) a 0 g (by omega)).mono (by omega)).trans (a9X ..)).trans (a9X ..)
     | cons _ _=>exact z _ _
  | stmt k s a b t f=>
   refine ⟨λ_ _ _ _ g _=>z _ g,λ_ _ _ g=>z _ g,λa b g=>?_⟩
   dsimp only [loN]
   generalize loTs L cs=fs at hs
   unfold lsN
   cases hs with
   | nil=>exact a9X ..
   | @cons u us f r h1 h2=>
    dsimp only
    rw [cTs]
    split
    ·cases f.pl with
     | some o=>exact a9X ..
     | none=>exact (h1.into _ _ _ _ _ (by omega)).mono (by omega)
    split
    ·cases h2 with
     | nil=>exact z _ _
     | @cons v vs f' r' h3 h4=>cases h4 with
      | nil=>rw [cTs,cTs];exact ((d1o h1 (R7 u) h3 (R7 v) a 0 g (by omega)).mono (by omega)).trans (a9X ..)
      | cons _ _=>exact z _ _
    split
    ·have hc:=c4j us t
     exact ((((c7b ..).trans (c7b ..)).trans ((h1.co ..).mono (by omega))).trans ((c3a (h2.take t) ..).mono (by omega))).trans ((c3a (h2.drop t) ..).mono (by omega))
    split
    ·exact ((c7b ..).trans ((h1.co ..).mono (by omega))).trans ((c3a h2 ..).mono (by omega))
    split
    ·exact ((Tl.trans (b:=frG (frG g)) (Tl.same rfl) ((h1.co ..).mono (by omega))).trans (a9X ..)).trans (a9X ..)
    split
    ·exact (h1.co ..).mono (by omega)
    ·exact a9X ..
  | decl a b=>exact ⟨λ_ _ _ _ g _=>z _ g,λ_ _ _ g=>z _ g,λ_ _ g=>z _ g⟩
theorem d1p(L:En):∀ts:List PT,Tos ts (loTs L ts)
 | []=>by rw [loTs];exact .nil
 | t::ts=>by rw [loTs];exact .cons (e9C L t) (d1p L ts)
end
theorem e4N(L:En)(ts:List PT):Tos ts (ts.map (loT L)):=by rw [←b2D];exact d1p L ts
end Go.Proofs.YthjlehnccgjpoaaGreatDoor
namespace Go.Proofs.YthjlehnccgjpoaaGreatDoor
open Go.RowKit
set_option maxRecDepth 100000
set_option maxHeartbeats 2000000
theorem fmE{k n:Int}{s:BA}{a:Int}(h:formE k n s a=true):(k=1\/k=2\/k=3)/\a=0\/(k=4\/k=5)/\a=1\/(k=6\/k=7\/k=8\/k=9\/k=10)/\a=2:=by
 unfold formE at h
 split at h
 ·cases h
 split at h
 ·simp only [Bool.and_eq_true,decide_eq_true_eq] at h;omega
 split at h
 ·simp only [decide_eq_true_eq] at h;omega
 split at h
 ·simp only [decide_eq_true_eq] at h;omega
 split at h
 ·simp only [decide_eq_true_eq] at h;omega
 ·cases h
theorem fmC{k op e p:Int}(h:formC k op e p=true):(k=1\/k=2)/\e=0/\p=0\/k=3/\e=2/\p=0/\1<=op/\op<=6\/k=4/\e=0/\p=1\/(k=5\/k=6)/\e=0/\p=2:=by
 unfold formC at h
 split at h
 ·simp only [Bool.and_eq_true,decide_eq_true_eq] at h;omega
 split at h
 ·split at h
  ·simp only [decide_eq_true_eq] at h;omega
  split at h
  ·simp only [decide_eq_true_eq] at h;omega
  split at h
  ·simp only [decide_eq_true_eq] at h;omega
  ·cases h
 ·cases h
theorem fmS{k:Int}{s:BA}{e c t f:Int}(h0:0<=t)(h1:0<=f)(h:formS k s e c t f=true):k=1/\e=1/\c=0/\t=0/\f=0\/k=2/\e=2/\c=0/\t=0/\f=0\/k=3/\e=0/\c=1\/k=4/\e=0/\c=1/\f=0\/(k=5\/k=6)/\e=0/\c=1/\t=0/\f=0\/k=7/\e=0/\c=0/\t=0/\f=0:=by
 unfold formS at h
 split at h
 ·simp only [Bool.and_eq_true,Bool.not_eq_true',decide_eq_true_eq,decide_eq_false_iff_not] at h;omega
 split at h
 ·simp only [Bool.and_eq_true,Bool.not_eq_true',decide_eq_true_eq,decide_eq_false_iff_not] at h;omega
 split at h
 ·simp only [Bool.and_eq_true,decide_eq_true_eq] at h;omega
 split at h
 ·simp only [Bool.and_eq_true,decide_eq_true_eq] at h;omega
 split at h
 ·simp only [Bool.and_eq_true,Bool.not_eq_true',decide_eq_true_eq,decide_eq_false_iff_not] at h;omega
 split at h
 ·simp only [Bool.and_eq_true,Bool.not_eq_true',decide_eq_true_eq,decide_eq_false_iff_not] at h;omega
 ·cases h
structure Bd (n:Nat) (g:Gr):Prop where
 p0:0<=g.p
 p1:g.p+n<=1099511627776
 e1:g.es.length+n<=1099511627776
theorem Bd.mono{n m:Nat}{g:Gr}(h:Bd n g)(k:m<=n):Bd m g:=⟨h.p0,by have:=h.p1;omega,by have:=h.e1;omega⟩
theorem Bd.go{n m k:Nat}{g g':Gr}(h:Bd k g)(l:Gl n g g')(hk:n+m<=k):Bd m g':=by
 obtain ⟨a,b,c⟩:=h
 obtain ⟨p0,p1,_,w,e,hw⟩:=l
 refine ⟨by omega,by omega,?_⟩
 rw [e,List.length_append];omega
abbrev Lw:=m0
def lw(z:Lw)(g:Gr):Lw:=⟨⟨z.fc.E0,g.t,z.fc.C1,g.p,z.fc.K8,⟨none,0,0⟩⟩,z.fvars,z.farrays⟩
structure LwH (H:Hp) (L:En) (z:Lw):Prop where
 nv:L.nv=z.fc.E0.n
 nb:z.fc.E0.n<=1099511627776
 v:∃l,MapH H (λs:BA=>Value.string s) (λn:Int=>Value.int .i64 n) z.fvars l/\∀s,(lk s l).getD 0=L.vf s
 a:∃l,MapH H (λs:BA=>Value.string s) (λn:Int=>Value.int .i64 n) z.farrays l/\∀s,(lk s l).getD 0=L.af s
 ex:L.ex=z.fc.K8
section
variable {H:Hp}{L:En}{z:Lw}
theorem a9y(z:Lw)(g:Gr)(h0:0<=g.p)(h1:g.p+1<=1099511627776){K:Int->Lw->List Ed->Hp->Prop}(h:K g.p (lw z (frG g)) g.es H):M1 (lw z g) g.es H K:=by
 refine b3O _ _ ?_
 unfold a8f
 have e:IntKind.wrap .i64 ((lw z g).fc.i7+1)=g.p+1:=K7 (i:=g.p) h0 (by omega)
 have e2:IntKind.wrap .i64 (g.p+1-1)=g.p:=by rw [S3 ⟨by omega,by omega⟩];omega
 rw [e,e2];exact h
theorem a7b(z:Lw)(g:Gr)(x:Ed)(hb:Bd 1 g){K:Lw->List Ed->Hp->Prop}(h:K (lw z (edG x g)) (edG x g).es H):J0 (lw z g) g.es x H K:=by
 refine b4R _ _ _ ?_
 have:=hb.e1
 exact ⟨by simp only [List.length_cons,List.length_nil];omega,h⟩
theorem e0O(z:Lw)(g:Gr)(d:Int)(h0:0<=d)(h1:d+1<=1099511627776)(hn:z.fc.E0.n<=1099511627776){K:Int->Lw->List Ed->Hp->Prop}(h:K (z.fc.E0.n+d) (lw z (teG d g)) g.es H):a4O (lw z g) g.es d H K:=by
 refine b4J _ _ _ ?_
 unfold a8I
 have e:IntKind.wrap .i64 (((lw z g).fc.E0.n:Int)+d)=(z.fc.E0.n:Int)+d:=by rw [show (lw z g).fc.E0.n=z.fc.E0.n from rfl];exact S3 ⟨by omega,by omega⟩
 rw [e,K7 h0 (by omega)];exact h
theorem a9Y{K:KT Op}(h:K nO H):a0b H K:=b8o h
theorem a9Z{a b k:Int}{K:KT Ed}(h:K (bareE a b k) H):T3 a b k H K:=c1a _ _ _ (a9Y (a9Y h))
theorem d3W(hz:LwH H L z)(g:Gr){o:Op}{d:Int}(h0:0<=d)(h1:d+1<=1099511627776){K:KT Int}(h:K (dpO L o d) H):a3X (lw z g) g.es o d H K:=by
 refine b3j _ _ _ _ ?_
 unfold a7h
 unfold dpO at h
 rw [hz.nv] at h
 refine ⟨λq=>?_,λq=>?_⟩
 ·rw [K7 h0 (by omega)]
  rw [if_pos (show (z.fc.E0.n:Int)<=o.K3 from q)] at h;exact h
 ·rw [if_neg (show ¬(z.fc.E0.n:Int)<=o.K3 from q)] at h;exact h
theorem c7c(hz:LwH H L z)(g:Gr){e:l9}{t:PT}(he:EH H e t)(hf:formT t=true){K:Op->Bool->Hp->Prop}(h1:∀o,(loT L t).pl=some o->K o true H)(h2:(loT L t).pl=none->∀o,K o false H):a1G (lw z g) g.es e H K:=by
 cases he with
 | @mk e xs ts hs hb hl hr=>
 rw [c1N] at h1 h2
 rw [formT,Bool.and_eq_true] at hf
 have hk:=fmE hf.1
 have hn:=hs.1
 refine b3Z _ _ _ ?_
 unfold a8o
 refine ⟨λk1=>h1 _ ?_,λk1=>?_⟩
 ·unfold plN;split<;>rw [if_pos k1]
 by_cases k5:e.d9=5
 ·match ts,xs,hl,hr,h1,h2,hk,hn,hs with
  | [t1],[x1],hl,hr,h1,h2,hk,hn,hs=>
   have hE:EltH H e.L8 0 4 (g9 x1):=hs.2 0 x1 rfl
   have hx:=hr 0 x1 t1 rfl rfl
   cases hx with
   | @mk x1 ys us hs' hb' hl' hr'=>
    have hlt:(0:Int) < e.L8.n:=by simp only [List.length_cons,List.length_nil] at hn;omega
    refine ⟨x1,λ_=>⟨by omega,hlt,hE⟩,λq=>⟨by omega,hlt,x1,hE,h1 _ ?_⟩,λq=>⟨λk2=>by omega,λ_=>a9Y (h2 ?_ _)⟩⟩
    ·simp only [Bool.and_eq_true,decide_eq_true_eq] at q
     unfold plN;dsimp only;rw [if_neg k1,if_pos q]
    ·simp only [Bool.and_eq_false_iff,decide_eq_false_iff_not] at q
     unfold plN;dsimp only;rw [if_neg k1,if_neg (by omega),if_neg (by omega)]
  | [],_,hl,hr,h1,h2,hk,hn,hs=>simp only [List.length_nil] at hk;omega
  | _::_::_,_,hl,hr,h1,h2,hk,hn,hs=>simp only [List.length_cons] at hk;omega
  | [_],[],hl,hr,h1,h2,hk,hn,hs=>simp at hl
  | [_],_::_::_,hl,hr,h1,h2,hk,hn,hs=>simp at hl
 ·refine ⟨e,λq=>absurd (of_decide_eq_true q) k5,λq=>?_,λq=>⟨λk2=>?_,λk2=>a9Y (h2 ?_ _)⟩⟩
  ·simp only [Bool.and_eq_true,decide_eq_true_eq] at q;omega
  ·obtain ⟨l,hM,hv⟩:=hz.v
   refine ⟨l,hM,?_⟩
   rw [hv]
   refine h1 _ ?_
   unfold plN;split
   ·rw [if_neg k1,if_neg (by omega),if_pos k2]
   ·rw [if_neg k1,if_pos k2]
  ·unfold plN;split
   ·rw [if_neg k1,if_neg (by omega),if_neg k2]
   ·rw [if_neg k1,if_neg k2]
def IntoC(H:Hp)(L:En)(z:Lw)(e:l9)(t:PT):Prop:=∀(g:Gr)(dst a b d:Int)(K:Lw->List Ed->Hp->Prop),Bd (4*cT t-1) g->0<=d->d+cT t<=1099511627776->K (lw z ((loT L t).into dst a b d g)) ((loT L t).into dst a b d g).es H->a1Y (lw z g) g.es e dst a b d H K
theorem b8F(hz:LwH H L z){e:l9}{t:PT}(he:EH H e t)(hf:formT t=true)(hI:IntoC H L z e t)(g:Gr)(a d:Int)(hb:Bd (4*cT t) g)(h0:0<=d)(h1:d+cT t<=1099511627776){K:Op->Int->Lw->List Ed->Hp->Prop}(h:K (opF L (loT L t) a d g).1 (opF L (loT L t) a d g).2.1 (lw z (opF L (loT L t) a d g).2.2) (opF L (loT L t) a d g).2.2.es H):Y4 (lw z g) g.es e a d H K:=by
 refine b2l _ _ _ _ _ ?_
 have hc:=R7 t
 refine c7c hz g he hf (λo ho=>⟨λ_=>?_,(λq=>nomatch q)⟩) (λho o=>⟨(λq=>nomatch q),λ_=>?_⟩)
 ·unfold opF at h;rw [ho] at h;exact h
 ·unfold opF at h;rw [ho] at h
  rw [hz.nv] at h
  have b1:=hb.p1
  refine a9y z g hb.p0 (by omega) (e0O z (frG g) d h0 (by omega) hz.nb (hI (teG d (frG g)) _ _ _ _ _ ?_ h0 h1 h))
  exact hb.go ((a9W g).trans (d8h d _)) (by omega)
theorem c7d(hz:LwH H L z){s:Sl}{x1 x2:l9}{t1 t2:PT}(hs:SlH H 4 g9 s [x1,x2])(e1:EH H x1 t1)(e2:EH H x2 t2)(f1:formT t1=true)(f2:formT t2=true)(i1:IntoC H L z x1 t1)(i2:IntoC H L z x2 t2)(g:Gr)(a d:Int)(hb:Bd (4*(cT t1+cT t2)) g)(h0:0<=d)(h1:d+(cT t1+cT t2+1:Nat)<=1099511627776){K:Op->Op->Int->Lw->List Ed->Hp->Prop}
  (h:K (twF L (loT L t1) (loT L t2) a d g).1 (twF L (loT L t1) (loT L t2) a d g).2.1 (twF L (loT L t1) (loT L t2) a d g).2.2.1 (lw z (twF L (loT L t1) (loT L t2) a d g).2.2.2) (twF L (loT L t1) (loT L t2) a d g).2.2.2.es H):a0T (lw z g) g.es s a d H K:=by
 refine b5j _ _ _ _ _ ?_
 have hn:s.n=2:=hs.1
 have hc:=R7 t1
 refine ⟨by omega,by omega,x1,hs.2 0 x1 rfl,b8F hz e1 f1 i1 g a d (hb.mono (by omega)) h0 (by omega) ⟨by omega,by omega,x2,hs.2 1 x2 rfl,d3W hz (opF L (loT L t1) a d g).2.2 h0 (by omega) (b8F hz e2 f2 i2 (opF L (loT L t1) a d g).2.2 _ _ ?_ ?_ ?_ h)⟩⟩
 ·exact hb.go (c2Z (b0Q L t1) a d g) (by omega)
 ·unfold dpO;split<;>omega
 ·unfold dpO;split<;>omega
theorem d3X{k:Int}(h0:0<=k)(h1:k < 11){K:KT Int}(h:K (kO k) H):a8A k H K:=b8W _ ⟨h0,h1,h⟩
theorem e4O{op:Int}(h0:1<=op)(h1:op<=6){K:KT Int}(h:K (notO op) H):a5m op H K:=by
 refine b5K _ ⟨λq=>?_,λq=>⟨by omega,by omega,h⟩⟩
 simp only [Bool.or_eq_true,decide_eq_true_eq] at q;omega
theorem c4k(hz:LwH H L z){e:l9}(g:Gr){fr tg k dst:Int}{o1 o2:Op}(hb:Bd 1 g){K:Lw->List Ed->Hp->Prop}(h:K (lw z (edG ⟨fr,tg,k,dst,if e.d9=4 then L.af e.o7 else -1,0,o1,o2⟩ g)) (edG ⟨fr,tg,k,dst,if e.d9=4 then L.af e.o7 else -1,0,o1,o2⟩ g).es H):
  U1 ⟨fr,tg,k,dst,-1,0,o1,o2⟩ z.fc.E0 g.t z.fc.C1 g.p z.fc.K8 g.es z.fvars z.farrays e H K:=by
 refine ⟨λq=>?_,λq=>?_⟩
 ·rw [if_pos q] at h
  obtain ⟨l,hM,hv⟩:=hz.a
  refine ⟨l,hM,?_⟩
  rw [hv]
  exact a7b z g _ hb h
 ·rw [if_neg q] at h
  exact a7b z g _ hb h
theorem b7z(hz:LwH H L z){e:l9}{t:PT}(he:EH H e t):formT t=true->IntoC H L z e t:=by
 induction he with
 | @mk e xs ts hs hxb hl hr ih=>
 intro hf g dst a b d K hb h0 h1 h
 rw [c1N] at h
 rw [formT,Bool.and_eq_true] at hf
 have hk:=fmE hf.1
 have hn:=hs.1
 rw [cT] at hb h1
 refine b4N _ _ _ _ _ _ _ (d3X (by omega) (by omega) (a9Z ?_))
 match ts,xs,hl,hr,ih,hk,hn,hs,h,hb,h1,hf with
 | [],[],hl,hr,ih,hk,hn,hs,h,hb,h1,hf=>
  simp only [List.length_nil] at hn
  refine ⟨λq=>by omega,λ_=>⟨λq=>by omega,λ_=>?_⟩⟩
  exact c4k hz g (hb.mono (by rw [cTs];omega)) h
 | [t1],[x1],hl,hr,ih,hk,hn,hs,h,hb,h1,hf=>
  simp only [List.length_cons,List.length_nil] at hn
  rw [formTs,formTs,Bool.and_true] at hf
  rw [cTs,cTs] at hb h1
  have hx:=hr 0 x1 t1 rfl rfl
  have hc:=R7 t1
  refine ⟨λ_=>⟨by omega,by omega,x1,hs.2 0 x1 rfl,b8F hz hx hf.2 (ih 0 x1 t1 rfl rfl hf.2) g a d (hb.mono (by omega)) h0 (by omega) ?_⟩,λq=>by omega⟩
  exact c4k hz (opF L (loT L t1) a d g).2.2 (hb.go (c2Z (b0Q L t1) a d g) (by omega)) h
 | [t1,t2],[x1,x2],hl,hr,ih,hk,hn,hs,h,hb,h1,hf=>
  simp only [List.length_cons,List.length_nil] at hn
  rw [formTs,formTs,formTs,Bool.and_true,Bool.and_eq_true] at hf
  rw [cTs,cTs,cTs] at hb h1
  have hc:=R7 t1
  have hc2:=R7 t2
  refine ⟨λq=>by omega,λ_=>⟨λ_=>c7d hz hs (hr 0 x1 t1 rfl rfl) (hr 1 x2 t2 rfl rfl) hf.2.1 hf.2.2 (ih 0 x1 t1 rfl rfl hf.2.1) (ih 1 x2 t2 rfl rfl hf.2.2) g a d (hb.mono (by omega)) h0 (by omega) ?_,λq=>by omega⟩⟩
  exact c4k hz (twF L (loT L t1) (loT L t2) a d g).2.2.2 (hb.go (c0G (b0Q L t1) (b0Q L t2) a d g) (by omega)) h
 | _::_::_::_,_,hl,hr,ih,hk,hn,hs,h,hb,h1,hf=>simp only [List.length_cons] at hk;omega
 | [],_::_,hl,hr,ih,hk,hn,hs,h,hb,h1,hf=>simp at hl
 | [_],[],hl,hr,ih,hk,hn,hs,h,hb,h1,hf=>simp at hl
 | [_],_::_::_,hl,hr,ih,hk,hn,hs,h,hb,h1,hf=>simp at hl
 | [_,_],[],hl,hr,ih,hk,hn,hs,h,hb,h1,hf=>simp at hl
 | [_,_],[_],hl,hr,ih,hk,hn,hs,h,hb,h1,hf=>simp at hl
 | [_,_],_::_::_::_,hl,hr,ih,hk,hn,hs,h,hb,h1,hf=>simp at hl
end
theorem getElem?_set_ne'{α:Type}{l:List α}{i j:Nat}{x:α}(h:i≠j):(l.set i x)[j]? = l[j]?:=List.getElem?_set_ne h
section
variable {H:Hp}{op a b:Int}
def notG(op:Int):Int:=if op=1 then 6 else if op=2 then 5 else if op=3 then 4 else if op=4 then 3 else if op=5 then 2 else if op=6 then 1 else 0
theorem e0P{K:KT Int}(h:K (notG op) H):a5m op H K:=by
 refine b5K _ ?_
 unfold b5J
 unfold notG at h
 refine ⟨λh1=>?_,λh1=>⟨?_,?_,?_⟩⟩
 ·simp at h1
  rw [if_neg (by omega),if_neg (by omega),if_neg (by omega),if_neg (by omega),if_neg (by omega),if_neg (by omega)] at h
  exact h
 ·simp at h1;omega
 ·simp at h1;omega
 ·simp at h1
  obtain rfl | rfl | rfl | rfl | rfl | rfl:=(by omega:op=1\/op=2\/op=3\/op=4\/op=5\/op=6)<;>exact h
end
section
variable {H:Hp}
theorem b9L{a b c:Bool}{K:KT Bool}(h:K (bif a then b else c) H):a1N a b c H K:=by
 refine c1E _ _ _ ?_
 cases a
 ·exact ⟨λhc=>by (cases hc),λ_=>h⟩
 ·exact ⟨λ_=>h,λhc=>by (cases hc)⟩
def allS(c:s6):Int:=IntKind.wrap .i64 ((c.E0.n:Int)+c.D7)
def within(i n:Int):Bool:=decide (0<=i)&&decide (i < n)
theorem c1O{g:p8}{p:Int}{K:KT Bool}(h:K (within p g.C2.i7) H):a0S g p H K:=b5E _ _ (by unfold a9t;exact h)
theorem c1k{g:p8}{p:Int}{K:KT Bool}(h:K (within p (allS g.C2)) H):a1r g p H K:=b3m _ _ (by unfold a7j;exact h)
theorem d5Y{g:p8}{p:Int}{K:KT Bool}(h:K (within p (g.C2.C1.n:Int)) H):a5n g p H K:=b5v _ _ (by unfold a9n;exact h)
def opndS(o:z6)(n:Int):Bool:=decide (o.K3 = -1)||(within o.K3 n&&decide (o.A6=0))
def bareS(o:z6):Bool:=decide (o.K3 = -1/\o.A6=0)
theorem c7e{g:p8}{o:z6}{K:KT Bool}(h:K (opndS o (allS g.C2)) H):a1F g o H K:=by
 refine b3V _ _ ?_
 unfold a8k
 refine a2g (within o.K3 (allS g.C2)) (λ_ K' hk=>c1k hk) ?_
 unfold opndS at h
 by_cases hv:o.K3 = -1<;>simpa [hv] using h
def wantsS(k:Int):r7:=
 if k=2\/k=3 then ⟨true,false,false,true,false⟩ else if 4<=k/\k<=8 then ⟨true,false,false,true,true⟩ else if k=9 then ⟨true,false,false,false,false⟩
 else if k=10 then ⟨true,true,false,true,false⟩ else if k=11 then ⟨false,true,false,true,true⟩ else if k=12 then ⟨false,false,true,true,true⟩ else ⟨false,false,false,false,false⟩
theorem d1q{k:Int}{K:KT r7}(h:K (wantsS k) H):a7A k H K:=by
 refine b7Y _ ?_
 unfold wantsS at h
 have j3:∀{b:Bool}{c d:r7},c=⟨false,false,false,true,false⟩->(b=true↔4<=k/\k<=8)->¬(k=2\/k=3)->T2 k b c d H K:=by
  intro b c d hc hb h23
  subst hc
  unfold T2 T1
  rw [if_neg h23] at h
  refine ⟨λe=>?_,λe=>?_⟩
  ·rw [if_pos (hb.1 e)] at h;exact h
  ·rw [if_neg (λhn=>by rw [hb.2 hn] at e;cases e)] at h
   refine ⟨λh1=>?_,λh1=>⟨λh2=>?_,λh2=>⟨λh3=>?_,λh3=>⟨λh4=>?_,λh4=>?_⟩⟩⟩⟩<;>simpa [*] using h
 have j2:∀{b:Bool}{c d:r7},c=⟨false,false,false,true,false⟩->(b=true↔(k=2\/k=3))->a1l k b c d H K:=by
  intro b c d hc hb
  unfold a1l
  refine ⟨λe=>?_,λe=>?_⟩
  ·unfold T1
   rw [if_pos (hb.1 e)] at h
   rw [hc];exact h
  ·have h23:¬(k=2\/k=3):=λhn=>by rw [hb.2 hn] at e;cases e
   refine ⟨λh1=>j3 hc ?_ h23,λh1=>⟨λh2=>j3 hc ?_ h23,λh2=>⟨λh3=>j3 hc ?_ h23,λh3=>⟨λh4=>j3 hc ?_ h23,λh4=>j3 hc ?_ h23⟩⟩⟩⟩<;>(rw [decide_eq_true_eq];omega)
 unfold b1s
 refine ⟨λh1=>j2 rfl ?_,λh1=>j2 rfl ?_⟩<;>(rw [decide_eq_true_eq];omega)
def rightS(n na:Int)(e:d8):Bool:=
 (bif (wantsS e.d9).fdst then within e.a4F n else decide (e.a4F = -1))&&(bif (wantsS e.d9).farr then within e.a1q na else decide (e.a1q = -1)) &&
 (bif (wantsS e.d9).fop then decide (1<=e.fOp)&&decide (e.fOp<=6) else decide (e.fOp=0))&&(bif (wantsS e.d9).fa then opndS e.fA n else bareS e.fA)&&(bif (wantsS e.d9).fb then opndS e.fB n else bareS e.fB)
def kindS(k:Int):Bool:=decide (1<=k)&&decide (k<=14)
def edgeS(c:s6)(e:d8):Bool:=within e.D6 c.i7&&within e.fTo c.i7 && !decide (e.D6=c.K8)&&kindS e.d9&&rightS (allS c) (c.C1.n:Int) e
theorem e0Q(b c:Bool):(if b=true then c else false)=(b&&c):=by cases b<;>rfl
theorem d5Z{g:p8}{e:d8}{K:KT Bool}(h:K (edgeS g.C2 e) H):a5o g e H K:=by
 refine b5h _ _ ?_
 unfold a9i
 refine c1O (a2g (within e.fTo g.C2.i7) (λ_ K' hk=>c1O hk) ?_)
 have he:edgeS g.C2 e=(!((((((!within e.D6 g.C2.i7)||(!(if (!within e.D6 g.C2.i7)=false then within e.fTo g.C2.i7 else false)))||(decide (e.D6=g.C2.K8)))||(decide (e.d9 < 1)))||(decide (14 < e.d9))))&&rightS (allS g.C2) (g.C2.C1.n:Int) e):=by
  unfold edgeS kindS
  have k1:decide (e.d9 < 1) = !decide (1<=e.d9):=by by_cases hk:1<=e.d9<;>simp [hk]<;>omega
  have k2:decide (14 < e.d9) = !decide (e.d9<=14):=by by_cases hk:e.d9<=14<;>simp [hk]<;>omega
  rw [k1,k2]
  cases within e.D6 g.C2.i7<;>cases within e.fTo g.C2.i7<;>cases decide (e.D6=g.C2.K8)<;>cases decide (1<=e.d9)<;>cases decide (e.d9<=14)<;>rfl
 rw [he] at h
 refine ⟨λhc=>?_,λhc=>?_⟩
 ·rw [hc] at h;exact h
 ·rw [hc] at h
  refine d1q (c1k (b9L ?_))
  unfold rightS at h
  refine a2g (within e.a1q (g.C2.C1.n:Int)) (λ_ K' hk=>d5Y hk) ?_
  refine a2g (bif (wantsS e.d9).farr then within e.a1q (g.C2.C1.n:Int) else decide (e.a1q = -1)) (λhq K' hk=>b9L (by rw [if_pos hq];exact hk)) ?_
  refine a2g (bif (wantsS e.d9).fop then decide (1<=e.fOp)&&decide (e.fOp<=6) else decide (e.fOp=0)) (λhq K' hk=>b9L hk) (a2g (opndS e.fA (allS g.C2)) (λ_ K' hk=>c7e hk) ?_)
  refine a2g (z6.mk (-1) 0) (λ_ K' hk=>a9Y hk) ?_
  refine a2g (bif (wantsS e.d9).fa then opndS e.fA (allS g.C2) else bareS e.fA) (λhq K' hk=>b9L (by rw [if_pos hq,if_pos hq];exact hk)) ?_
  refine a2g (opndS e.fB (allS g.C2)) (λ_ K' hk=>c7e hk) (a2g (z6.mk (-1) 0) (λ_ K' hk=>a9Y hk) ?_)
  refine a2g (bif (wantsS e.d9).fb then opndS e.fB (allS g.C2) else bareS e.fB) (λhq K' hk=>b9L (by rw [if_pos hq,if_pos hq];exact hk)) ?_
  simp only [e0Q]
  generalize (bif (wantsS e.d9).fdst then within e.a4F (allS g.C2) else decide (e.a4F = -1))=b1 at *
  generalize (bif (wantsS e.d9).farr then within e.a1q (g.C2.C1.n:Int) else decide (e.a1q = -1))=b2 at *
  generalize (bif (wantsS e.d9).fop then decide (1<=e.fOp)&&decide (e.fOp<=6) else decide (e.fOp=0))=b3 at *
  generalize (bif (wantsS e.d9).fa then opndS e.fA (allS g.C2) else bareS e.fA)=b4 at *
  generalize (bif (wantsS e.d9).fb then opndS e.fB (allS g.C2) else bareS e.fB)=b5 at *
  cases b1<;>cases b2<;>cases b3<;>cases b4<;>cases b5<;>exact h
end
structure GH (H:Hp) (c:s6) (vs:List BA) (ds:List j9) (es:List d8):Prop where
 v:SlH H 1 v7 c.E0 vs
 a:SlH H 2 q6 c.C1 ds
 e:SlH H 10 p7 c.E1 es
 bv:vs.length<=1099511627776
 ba:ds.length<=1099511627776
 be:es.length<=1099511627776
 bt:a0h c.D7
theorem GH.le{H H':Hp}{c:s6}{vs:List BA}{ds:List j9}{es:List d8}(G:GH H c vs ds es)(l:Hle H H'):GH H' c vs ds es:=⟨G.v.le l,G.a.le l,G.e.le l,G.bv,G.ba,G.be,G.bt⟩
def sizesS(ds:List j9):Bool:=ds.all λd=>decide (1<=d.D2)&&decide (d.D2<=1024)
def goeS:List d8->Bool
 | []=>true
 | [a]=>!decide (a.d9=12)
 | [a,b]=>decide (a.d9=12)&&decide (b.d9=12)&&decide (a.fA.K3=b.fA.K3/\a.fA.A6=b.fA.A6)&&decide (a.fB.K3=b.fB.K3/\a.fB.A6=b.fB.A6)&&decide (b.fOp=notG a.fOp)
 | _=>false
theorem d3Y(a b:d8):goeS [a,b]=(decide (a.d9=12)&&decide (b.d9=12)&&decide (a.fA.K3=b.fA.K3/\a.fA.A6=b.fA.A6)&&decide (a.fB.K3=b.fB.K3/\a.fB.A6=b.fB.A6)&&decide (b.fOp=notG a.fOp)):=rfl
theorem e4P:∀{l:List d8},l.length≠0->l.length≠1->l.length≠2->goeS l=false
 | [],h,_,_=>(h rfl).elim
 | [_],_,h,_=>(h rfl).elim
 | [_,_],_,_,h=>(h rfl).elim
 | _::_::_::_,_,_,_=>rfl
def fromS(es:List d8)(p:Int):List d8:=es.filter λe=>decide (e.D6=p)
def varsS(c:s6)(vs:List BA):Bool:=decide (0<=c.D7)&&decide (c.D7<=64)&&decide ((vs.length:Int)+c.D7<=64)
def pointsS(c:s6)(es:List d8):Bool:=decide (1<=c.i7)&&decide (c.i7<=4096)&&decide ((es.length:Int)<=8192)
def forksS(c:s6)(es:List d8):Bool:=(List.range c.i7.toNat).all λp=>goeS (fromS es (p:Int))
def gformS(c:s6)(ds:List j9)(es:List d8):Bool:=decide ((ds.length:Int)<=16)&&sizesS ds&&within c.K8 c.i7&&es.all (edgeS c)&&forksS c es
def checkS(c:s6)(vs:List BA)(ds:List j9)(es:List d8):Int:=bif !varsS c vs then 90 else bif !pointsS c es then 91 else bif !gformS c ds es then 92 else 0
theorem d1r{c:s6}{vs:List BA}{ds:List j9}{es:List d8}(h1:varsS c vs=true)(h2:pointsS c es=true)(h3:gformS c ds es=false):checkS c vs ds es=92:=by
 unfold checkS
 rw [h1,h2,h3];rfl
def idxS(p:Int):Int->List d8->List Int
 | _,[]=>[]
 | k,e::l=>if e.D6=p then k::idxS p (k+1) l else idxS p (k+1) l
theorem c7f(p:Int)(e:d8):∀(k:Int)(l:List d8),idxS p k (l++[e])=idxS p k l++(if e.D6=p then [k+l.length] else [])
 | k,[]=>by simp [idxS]
 | k,a::l=>by
  rw [List.cons_append,idxS,idxS,c7f p e (k+1) l]
  have:k+1+(l.length:Int)=k+((a::l).length:Int):=by rw [List.length_cons];omega
  rw [this]
  split<;>simp
theorem d3Z(p:Int)(e:d8)(l:List d8):fromS (l++[e]) p=fromS l p++(if e.D6=p then [e] else []):=by
 unfold fromS
 rw [List.filter_append]
 by_cases h:e.D6=p<;>simp [h]
theorem c1P(p:Int):∀(k:Int)(l:List d8)(j:Nat)(i:Int),(idxS p k l)[j]? = some i->k<=i/\i < k+l.length/\∃e,l[(i-k).toNat]? = some e/\(fromS l p)[j]? = some e
 | k,[],j,i,h=>by simp [idxS] at h
 | k,a::l,j,i,h=>by
  unfold idxS at h
  by_cases hp:a.D6=p
  ·rw [if_pos hp] at h
   have hf:fromS (a::l) p=a::fromS l p:=by unfold fromS;simp [hp]
   rw [hf]
   cases j with
   | zero=>
    simp only [List.getElem?_cons_zero,Option.some.injEq] at h
    subst h
    refine ⟨Int.le_refl _,by rw [List.length_cons];omega,a,?_,rfl⟩
    rw [Int.sub_self];rfl
   | succ j=>
    obtain ⟨h1,h2,e,h3,h4⟩:=c1P p (k+1) l j i (by simpa using h)
    refine ⟨by omega,by rw [List.length_cons];omega,e,?_,by simpa using h4⟩
    rw [show (i-k).toNat=(i-(k+1)).toNat+1 by omega]
    simpa using h3
  ·rw [if_neg hp] at h
   have hf:fromS (a::l) p=fromS l p:=by unfold fromS;simp [hp]
   rw [hf]
   obtain ⟨h1,h2,e,h3,h4⟩:=c1P p (k+1) l j i h
   refine ⟨by omega,by rw [List.length_cons];omega,e,?_,h4⟩
   rw [show (i-k).toNat=(i-(k+1)).toNat+1 by omega]
   simpa using h3
theorem b8G(p:Int):∀(k:Int)(l:List d8),(idxS p k l).length=(fromS l p).length
 | k,[]=>rfl
 | k,a::l=>by
  unfold idxS fromS
  have ih:=b8G p (k+1) l
  unfold fromS at ih
  by_cases hp:a.D6=p<;>simp [hp,ih]
theorem c1Q(es:List d8)(p:Int):(fromS es p).length<=es.length:=List.length_filter_le _ _
theorem e0R{α:Type}:∀{l:List α},l.length=2->∃a b,l=[a,b]
 | [],h=>by cases h
 | [_],h=>by cases h
 | [a,b],_=>⟨a,b,rfl⟩
 | _::_::_::_,h=>by simp at h
section
variable {H:Hp}{c:s6}{vs:List BA}{ds:List j9}{es:List d8}
theorem e4Q{l:List d8}{s:Sl}(hs:SlH H 10 p7 s l){K:KT Bool}(h:K (goeS l) H):b0n s H K:=by
 refine c0U _ ?_
 have hn:=hs.1
 refine ⟨λh0=>?_,λh0=>⟨λh1=>?_,λh1=>⟨λh2=>?_,λh2=>?_⟩⟩⟩
 ·have:l=[]:=List.length_eq_zero_iff.1 (by omega)
  subst this;exact h
 ·obtain ⟨x,hx,hE⟩:=hs.get (i:=0) (by omega) (by omega)
  obtain ⟨a,rfl⟩:=List.length_eq_one_iff.1 (show l.length=1 by omega)
  simp at hx;subst hx
  exact ⟨by omega,by omega,a,hE,h⟩
 ·obtain ⟨x,hx,hE⟩:=hs.get (i:=0) (by omega) (by omega)
  obtain ⟨y,hy,hF⟩:=hs.get (i:=1) (by omega) (by omega)
  obtain ⟨a,b,rfl⟩:=e0R (show l.length=2 by omega)
  simp at hx hy;subst hx;subst hy
  refine ⟨by omega,by omega,a,hE,by omega,by omega,b,hF,?_⟩
  refine a2g (notG a.fOp) (λ_ K' hk=>e0P hk) ?_
  rw [d3Y] at h
  generalize hq:(decide (a.d9=12)&&decide (b.d9=12)&&decide (a.fA.K3=b.fA.K3/\a.fA.A6=b.fA.A6)&&decide (a.fB.K3=b.fB.K3/\a.fB.A6=b.fB.A6))=q at h ⊢
  cases q
  ·exact h
  ·rw [if_pos rfl];exact h
 ·have:goeS l=false:=e4P (by omega) (by omega) (by omega)
  rw [this] at h;exact h
theorem e0S(G:GH H c vs ds es)(h0:0<=c.D7)(h1:c.D7<=64):allS c=(vs.length:Int)+c.D7:=by
 unfold allS
 have:=G.v.1;have:=G.bv
 rw [S3 ⟨by omega,by omega⟩]
 omega
theorem c4l{α:Type}{f:α->Bool}{l:List α}{i:Nat}{x:α}(h:l[i]? = some x)(hf:f x=false):l.all f=false:=by
 rw [List.all_eq_false]
 exact ⟨x,List.mem_of_getElem? h,by rw [hf];decide⟩
theorem all_good{α:Type}{f:α->Bool}{l:List α}(h:∀(i:Nat)(x:α),l[i]? = some x->f x=true):l.all f=true:=by
 rw [List.all_eq_true]
 intro x hx
 obtain ⟨i,hi,rfl⟩:=List.mem_iff_getElem.1 hx
 exact h i _ (List.getElem?_eq_getElem hi)
def RowsAt{β:Type}(P:Int)(f:Int->List β)(xss:List (List β)):Prop:=(xss.length:Int)=P/\∀p:Nat,(p:Int) < P->xss[p]? = some (f p)
theorem RowsAt.start{β:Type}{P:Int}(h0:0<=P){f:Int->List β}(hf:∀p,f p=[]):RowsAt P f (List.replicate P.toNat ([]:List β)):=by
 refine ⟨by rw [List.length_replicate];omega,λp hp=>?_⟩
 rw [List.getElem?_replicate,if_pos (by omega),hf]
theorem RowsAt.put{β:Type}{P:Int}{f g:Int->List β}{xss:List (List β)}(h:RowsAt P f xss){q:Int}(h0:0<=q)(hq:q < P){x:β}(hg:∀p,g p=f p++(if q=p then [x] else [])):
  ∃xs,xss[q.toNat]? = some xs/\xs=f q/\RowsAt P g (xss.set q.toNat (xs++[x])):=by
 refine ⟨f q,by rw [h.2 q.toNat (by omega),Int.toNat_of_nonneg h0],rfl,by rw [List.length_set];exact h.1,λp hp=>?_⟩
 rw [hg]
 by_cases e:q.toNat=p
 ·subst e
  rw [List.getElem?_set_self (by have:=h.1;omega),if_pos (by omega),Int.toNat_of_nonneg h0]
 ·rw [getElem?_set_ne' e,h.2 p hp,if_neg (by omega),List.append_nil]
theorem b8H{e:d8}(h:edgeS c e=true):0<=e.D6/\e.D6 < c.i7:=by
 unfold edgeS within at h
 simp at h
 omega
theorem b1N(G:GH H c vs ds es){K:KT Int}(h:∀H',Hle H H'->K (checkS c vs ds es) H'):a1Q c H K:=by
 refine b9C _ ?_
 unfold b3z
 have nv:=G.v.1;have na:=G.a.1;have ne:=G.e.1
 have bv:=G.bv;have ba:=G.ba;have be:=G.be;have bt:=G.bt
 have hv:(((decide (c.D7 < 0))||(decide (64 < c.D7)))||(decide (64 < (IntKind.wrap .i64 ((c.E0.n:Int)+c.D7))))) = !varsS c vs:=by
  unfold varsS
  by_cases h0:0<=c.D7
  ·by_cases h1:c.D7<=64
   ·rw [S3 ⟨by omega,by omega⟩]
    by_cases h2:(vs.length:Int)+c.D7<=64<;>simp [h0,h1,h2]<;>omega
   ·simp [h0,h1];omega
  ·simp [h0];omega
 have hp:(((decide (c.i7 < 1))||(decide (4096 < c.i7)))||(decide (8192 < (c.E1.n:Int)))) = !pointsS c es:=by
  unfold pointsS
  rw [ne]
  by_cases h0:1<=c.i7<;>by_cases h1:c.i7<=4096<;>by_cases h2:(es.length:Int)<=8192<;>simp [h0,h1,h2]<;>omega
 rw [hv,hp]
 refine ⟨λq1=>?_,λq1=>⟨λq2=>?_,λq2=>?_⟩⟩
 ·have:=h H (Hle.refl _)
  unfold checkS at this
  rw [q1] at this;exact this
 ·have:=h H (Hle.refl _)
  unfold checkS at this
  rw [q1,q2] at this;exact this
 simp at q1 q2
 have bad:gformS c ds es=false->∀H',Hle H H'->K 92 H':=λhf H' hl=>by
  have:=h H' hl
  rwa [d1r q1 q2 hf] at this
 have pp:1<=c.i7/\c.i7<=4096/\(es.length:Int)<=8192:=by unfold pointsS at q2;simp at q2;omega
 refine ⟨λq3=>bad ?_ H (Hle.refl _),λq3=>?_⟩
 ·unfold gformS
  rw [show decide ((ds.length:Int)<=16)=false by simp;omega];rfl
 have a16:(ds.length:Int)<=16:=by omega
 refine P7 (λ(i:Int) H'=>0<=i/\i<=ds.length/\Hle H H'/\∀(j:Nat) d,(j:Int) < i->ds[j]? = some d->(decide (1<=d.D2)&&decide (d.D2<=1024))=true) (λi=>(ds.length-i).toNat) ⟨by omega,by omega,Hle.refl _,λj d hj=>by omega⟩ ?_
 rintro i H1 next ⟨i0,i1,l1,hi⟩ hn
 unfold b0V
 have G1:=G.le l1
 refine ⟨λhc=>?_,λhc=>?_⟩
 ·obtain ⟨d,hd,hE⟩:=G1.a.get i0 hc
  refine ⟨i0,hc,d,hE,λhb=>bad ?_ H1 l1,λhb=>?_⟩
  ·have:sizesS ds=false:=c4l hd (by
    by_cases z1:1<=d.D2<;>by_cases z2:d.D2<=1024<;>simp [z1,z2] at hb ⊢ <;> omega)
   unfold gformS
   rw [this];simp
  ·rw [K7 i0 (by omega)]
   refine hn _ _ ⟨by omega,by omega,l1,λj d' hj hd'=>?_⟩ (by omega)
   by_cases e:j=i.toNat
   ·subst e
    rw [hd] at hd';cases hd'
    by_cases z1:1<=d.D2<;>by_cases z2:d.D2<=1024<;>simp [z1,z2] at hb ⊢ <;> omega
   ·exact hi j d' (by omega) hd'
 have hsz:sizesS ds=true:=all_good λj d hd=>hi j d (by have:=(List.getElem?_eq_some_iff.1 hd).1;omega) hd
 clear hi hn next
 unfold a6Y
 refine c1O ⟨λhb=>bad ?_ H1 l1,λhb=>?_⟩
 ·have:within c.K8 c.i7=false:=by simpa using hb
  unfold gformS
  rw [this];simp
 have hex:within c.K8 c.i7=true:=by simpa using hb
 refine ⟨by omega,by omega,?_⟩
 refine P7 (λ(s:List (List d8)×Int) H'=>0<=s.2/\s.2<=es.length/\Hle H H'/\RowsAt c.i7 (λp=>fromS (es.take s.2.toNat) p) s.1/\∀(j:Nat) e,(j:Int) < s.2->es[j]? = some e->edgeS c e=true) (λs=>(es.length-s.2).toNat)
  ⟨by simp,by simp,l1,RowsAt.start (by omega) λp=>rfl,λj d hj=>by simp at hj;omega⟩ ?_
 rintro ⟨xss,i⟩ H2 next ⟨i0,i1,l2,hr,hi⟩ hn
 dsimp only at i0 i1 hr hi ⊢
 unfold a6X
 have G2:=G.le l2
 refine ⟨λhc=>?_,λhc=>?_⟩
 ·obtain ⟨e,he,hE⟩:=G2.e.get i0 (show i < (c.E1.n:Int) by omega)
  refine ⟨i0,by omega,e,hE,d5Z ⟨λhb=>bad ?_ H2 l2,λhb=>?_⟩⟩
  ·have:es.all (edgeS c)=false:=c4l he (by simpa using hb)
   unfold gformS
   rw [this];simp
  ·have hg:edgeS c e=true:=by simpa using hb
   obtain ⟨f0,f1⟩:=b8H hg
   have tk:es.take (i+1).toNat=es.take i.toNat++[e]:=by
    rw [show (i+1).toNat=i.toNat+1 by omega];exact W1 he
   obtain ⟨xs,hx,hxe,hr2⟩:=hr.put (g:=λp=>fromS (es.take (i+1).toNat) p) f0 f1 (x:=e) (λp=>by rw [tk,d3Z])
   have hxl:xs.length<=8192:=by
    rw [hxe]
    have:=c1Q (es.take i.toNat) e.D6
    rw [List.length_take] at this
    omega
   refine ⟨f0,xs,hx,by simp;omega,?_⟩
   rw [K7 i0 (by omega)]
   refine hn _ _ ⟨by omega,by omega,l2,hr2,λj d' hj hd'=>?_⟩ (by omega)
   by_cases ej:j=i.toNat
   ·subst ej
    rw [he] at hd';cases hd'
    exact hg
   ·exact hi j d' (by omega) hd'
 have hall:es.all (edgeS c)=true:=all_good λj d hd=>hi j d (by have:=(List.getElem?_eq_some_iff.1 hd).1;omega) hd
 have htk:es.take i.toNat=es:=List.take_of_length_le (by omega)
 rw [htk] at hr
 clear hi hn next
 unfold a6W
 intro s H3 l3 hs _
 obtain ⟨sn,ss,hss,hin⟩:=hs
 refine P7 (λ(i:Int) H'=>0<=i/\i<=c.i7/\Hle H3 H'/\∀(p:Nat),(p:Int) < i->goeS (fromS es (p:Int))=true) (λi=>(c.i7-i).toNat) ⟨by omega,by omega,Hle.refl _,λj hj=>by omega⟩ ?_
 rintro i H4 next ⟨i0,i1,l4,hi⟩ hn
 unfold b0U
 refine ⟨λhc=>?_,λhc=>?_⟩
 ·have hl:=hr.1
  obtain ⟨x,hx,hE⟩:=(hss.le l4).get i0 (show i < (s.n:Int) by omega)
  obtain ⟨hxs,_⟩:=hin i.toNat x _ hx (hr.2 i.toNat (by omega))
  rw [Int.toNat_of_nonneg i0] at hxs
  refine ⟨i0,by omega,x,hE,e4Q (hxs.le l4) ⟨λhb=>bad ?_ H4 (l2.trans (l3.trans l4)),λhb=>?_⟩⟩
  ·have:forksS c es=false:=by
    unfold forksS
    refine c4l (i:=i.toNat) (x:=i.toNat) (by rw [List.getElem?_range (by omega)]) ?_
    rw [Int.toNat_of_nonneg i0];simpa using hb
   unfold gformS
   rw [this];simp
  ·rw [K7 i0 (by omega)]
   refine hn _ _ ⟨by omega,by omega,l4,λp hp=>?_⟩ (by omega)
   by_cases e:(p:Int)=i
   ·rw [e];simpa using hb
   ·exact hi p (by omega)
 ·unfold a6V
  have hf:forksS c es=true:=by
   unfold forksS
   refine all_good λj p hp=>?_
   have:p < c.i7.toNat:=List.mem_range.1 (List.mem_of_getElem? hp)
   exact hi p (by omega)
  have:=h H4 (l2.trans (l3.trans l4))
  have hff:gformS c ds es=true:=by unfold gformS;rw [hsz,hex,hall,hf];simp;omega
  unfold checkS at this
  rw [q1,q2,hff] at this;exact this
end
section
variable {H:Hp}{c:s6}{vs:List BA}{ds:List j9}{es:List d8}
structure FromH (H:Hp) (P:Int) (es:List d8) (s:Sl):Prop where
 n:(s.n:Int)=P
 row:∀p:Int,0<=p->p < P->∃si:Sl,EltH H s p 1 [Value.slice si.a si.n si.c]/\SlH H 1 K4 si (idxS p 0 es)
theorem FromH.le{H':Hp}{P:Int}{s:Sl}(F:FromH H P es s)(l:Hle H H'):FromH H' P es s:=⟨F.n,λp h0 h1=>by
 obtain ⟨si,a,b⟩:=F.row p h0 h1
 exact ⟨si,a.le l,b.le l⟩⟩
theorem FromH.of{P:Int}{s:Sl}{xss:List (List Int)}(hr:RowsAt P (λp=>idxS p 0 es) xss)(hs:SlHH H 1 K4 s xss):FromH H P es s:=by
 obtain ⟨sn,ss,hss,hin⟩:=hs
 refine ⟨by have:=hr.1;omega,λp h0 h1=>?_⟩
 obtain ⟨x,hx,hE⟩:=hss.get h0 (show p < (s.n:Int) by have:=hr.1;omega)
 have:=(hin p.toNat x _ hx (hr.2 p.toNat (by omega))).1
 rw [Int.toNat_of_nonneg h0] at this
 exact ⟨x,hE,this⟩
theorem c9U(G:GH H c vs ds es)(hp:0<=c.i7/\c.i7<=4096)(hb:(es.length:Int)<=8192)(ha:es.all (edgeS c)=true){K:KT Sl}(h:∀s H',Hle H H'->FromH H' c.i7 es s->K s H'):a6r c H K:=by
 refine c0V _ ?_
 have ne:=G.e.1
 refine ⟨by omega,by omega,?_⟩
 refine P7 (λ(s:List (List Int)×Int) H'=>0<=s.2/\s.2<=es.length/\Hle H H'/\RowsAt c.i7 (λp=>idxS p 0 (es.take s.2.toNat)) s.1) (λs=>(es.length-s.2).toNat)
  ⟨by simp,by simp,Hle.refl _,RowsAt.start (by omega) λp=>rfl⟩ ?_
 rintro ⟨xss,i⟩ H2 next ⟨i0,i1,l2,hr⟩ hn
 dsimp only at i0 i1 hr ⊢
 refine ⟨λhc=>?_,λhc=>?_⟩
 ·obtain ⟨e,he,hE⟩:=(G.le l2).e.get i0 (show i < (c.E1.n:Int) by omega)
  obtain ⟨f0,f1⟩:=b8H (List.all_eq_true.1 ha e (List.mem_of_getElem? he))
  have tk:es.take (i+1).toNat=es.take i.toNat++[e]:=by
   rw [show (i+1).toNat=i.toNat+1 by omega];exact W1 he
  have hlt:((es.take i.toNat).length:Int)=i:=by rw [List.length_take];omega
  obtain ⟨xs,hx,hxe,hr2⟩:=hr.put (g:=λp=>idxS p 0 (es.take (i+1).toNat)) f0 f1 (x:=i) (λp=>by rw [tk,c7f,hlt,Int.zero_add])
  have hxl:xs.length<=8192:=by
   rw [hxe,b8G]
   have:=c1Q (es.take i.toNat) e.D6
   rw [List.length_take] at this
   omega
  refine ⟨i0,by omega,e,hE,f0,xs,hx,by simp;omega,?_⟩
  rw [K7 i0 (by omega)]
  exact hn _ _ ⟨by omega,by omega,l2,hr2⟩ (by omega)
 ·have htk:es.take i.toNat=es:=List.take_of_length_le (by omega)
  rw [htk] at hr
  intro s H3 l3 hs _
  exact h s H3 (l2.trans l3) (FromH.of hr hs)
end
structure Dv where
 b:List Bool
 d:List Int
def toS(es:List d8)(i:Int):Int:=(es[i.toNat]?.map (·.fTo)).getD 0
def visL(v:Int->Dv->Dv)(es:List d8):List Int->Dv->Dv
 | [],s=>s
 | i::l,s=>visL v es l (if s.b.getD (toS es i).toNat true=true then s else v (toS es i) s)
def vis(es:List d8):Nat->Int->Dv->Dv
 | 0,_,s=>s
 | f+1,p,s=>⟨(visL (vis es f) es (idxS p 0 es) ⟨s.b.set p.toNat true,s.d⟩).b,(visL (vis es f) es (idxS p 0 es) ⟨s.b.set p.toNat true,s.d⟩).d++[p]⟩
def cF(b:List Bool):Nat:=b.count false
theorem c3b:∀{b:List Bool}{i:Nat},b[i]? = some false->cF (b.set i true)+1=cF b
 | [],_,h=>by simp at h
 | x::l,0,h=>by
  simp only [List.getElem?_cons_zero,Option.some.injEq] at h
  subst h;simp [cF]
 | x::l,i+1,h=>by
  have:=c3b (b:=l) (i:=i) (by simpa using h)
  unfold cF at this ⊢
  rw [List.set_cons_succ,List.count_cons,List.count_cons]
  omega
structure Kp (s s':Dv):Prop where
 n:s'.b.length=s.b.length
 c:cF s'.b<=cF s.b
 d:s'.d.length+cF s'.b<=s.d.length+cF s.b
theorem Kp.refl(s:Dv):Kp s s:=⟨rfl,Nat.le_refl _,Nat.le_refl _⟩
theorem Kp.trans{a b c:Dv}(h:Kp a b)(k:Kp b c):Kp a c:=⟨k.n.trans h.n,Nat.le_trans k.c h.c,Nat.le_trans k.d h.d⟩
theorem d1s{l:List Bool}{i:Nat}(h:¬l.getD i true=true):l[i]? = some false:=by
 rw [List.getD_eq_getElem?_getD] at h
 cases hq:l[i]? with
 | none=>rw [hq] at h;exact (h rfl).elim
 | some x=>rw [hq] at h;cases x<;>simp_all
theorem d6a{v:Int->Dv->Dv}{es:List d8}(hv:∀q s,s.b[q.toNat]? = some false->Kp s (v q s)):∀(l:List Int)(s:Dv),Kp s (visL v es l s)
 | [],s=>by rw [visL];exact Kp.refl s
 | i::l,s=>by
  rw [visL]
  split
  ·exact d6a hv l s
  ·rename_i h;exact (hv _ _ (d1s h)).trans (d6a hv l _)
theorem c7g(es:List d8):∀(f:Nat)(p:Int)(s:Dv),s.b[p.toNat]? = some false->Kp s (vis es f p s)
 | 0,p,s,_=>by rw [vis];exact Kp.refl s
 | f+1,p,s,h=>by
  rw [vis]
  have hk:=d6a (es:=es) (c7g es f) (idxS p 0 es) ⟨s.b.set p.toNat true,s.d⟩
  have hc:=c3b h
  obtain ⟨a,b,c⟩:=hk
  dsimp only at a b c
  refine ⟨?_,?_,?_⟩
  ·dsimp only;rw [a,List.length_set]
  ·dsimp only;omega
  ·dsimp only;rw [List.length_append,List.length_singleton];omega
section
variable {H:Hp}{c:s6}{vs:List BA}{ds:List j9}{es:List d8}{sf:Sl}
abbrev nSl:Sl:=Sl.mk none 0 0
theorem c7h(ha:es.all (edgeS c)=true){i:Int}{e:d8}(h:es[i.toNat]? = some e):toS es i=e.fTo/\0<=e.fTo/\e.fTo < c.i7:=by
 have:=List.all_eq_true.1 ha e (List.mem_of_getElem? h)
 unfold edgeS within at this
 simp only [Bool.and_eq_true,decide_eq_true_eq] at this
 exact ⟨by unfold toS;rw [h];rfl,this.1.1.1.2.1,this.1.1.1.2.2⟩
theorem d4a(G:GH H c vs ds es)(F:FromH H c.i7 es sf)(hp:c.i7<=4096)(hes:es.length<=8192)(ha:es.all (edgeS c)=true):∀(f:Nat)(p:Int)(s:Dv)(K:Sl->List Bool->Sl->List Int->Hp->Prop),(s.b.length:Int)=c.i7->0<=p->s.b[p.toNat]? = some false->cF s.b<=f->s.d.length+cF s.b<=8192->
  K nSl (vis es f p s).b nSl (vis es f p s).d H->a4N p nSl s.b sf c nSl s.d H K:=by
 intro f
 induction f with
 | zero=>intro p s K hn h0 hb hc hd h;have:=c3b hb;omega
 | succ f ih=>
  intro p s K hn h0 hb hc hd h
  refine b8r _ _ _ _ _ _ _ ?_
  unfold b1E
  have hlt:=O1 hb
  obtain ⟨si,hE,hS⟩:=F.row p h0 (by omega)
  have hsn:=hS.1
  have hne:=G.e.1
  have hcs:=c3b hb
  have hil:(idxS p 0 es).length<=8192:=by rw [b8G];exact Nat.le_trans (c1Q es p) hes
  refine ⟨h0,false,hb,h0,by have:=F.n;omega,si,hE,?_⟩
  rw [vis] at h
  generalize hs1:(⟨s.b.set p.toNat true,s.d⟩:Dv)=s1 at h
  have e1:s.b.set p.toNat true=s1.b:=by rw [←hs1]
  have e2:s.d=s1.d:=by rw [←hs1]
  have hn1:s1.b.length=s.b.length:=by rw [←e1,List.length_set]
  have hc1:cF s1.b+1=cF s.b:=by rw [←e1];exact hcs
  rw [e1,e2]
  rw [e2] at hd
  refine P7 (λst H'=>H'=H/\∃(j:Nat)(s':Dv),j<=(idxS p 0 es).length/\st=((j:Int),s'.b,s'.d)/\Kp s1 s'/\visL (vis es f) es ((idxS p 0 es).drop j) s'=visL (vis es f) es (idxS p 0 es) s1) (λst=>(idxS p 0 es).length-st.1.toNat)
   ⟨rfl,0,s1,Nat.zero_le _,rfl,Kp.refl _,by rw [List.drop_zero]⟩ ?_
  rintro st H1 next ⟨rfl,j,s',hj,rfl,hk,hv⟩ hnx
  unfold a5Q
  obtain ⟨kn,kc,kd⟩:=hk
  refine ⟨λq=>?_,λq=>?_⟩
  ·obtain ⟨i,hi⟩:=K2 (l:=idxS p 0 es) (i:=j) (by omega)
   obtain ⟨i0,i1,e,he,_⟩:=c1P p 0 es j i hi
   rw [Int.sub_zero] at he
   obtain ⟨t1,t2,t3⟩:=c7h ha he
   have hEe:=G.e.2 i.toNat e he
   rw [Int.toNat_of_nonneg i0] at hEe
   have hdrop:(idxS p 0 es).drop j=i::(idxS p 0 es).drop (j+1):=by
    obtain ⟨hlt,heq⟩:=List.getElem?_eq_some_iff.1 hi
    rw [List.drop_eq_getElem_cons hlt,heq]
   rw [hdrop,visL,t1] at hv
   have ej:IntKind.wrap .i64 ((j:Int)+1)=((j+1:Nat):Int):=by rw [K7 (by omega) (by omega)];omega
   obtain ⟨x,hx⟩:=K2 (l:=s'.b) (i:=e.fTo.toNat) (by omega)
   have hxd:s'.b.getD e.fTo.toNat true=x:=by rw [List.getD_eq_getElem?_getD,hx];rfl
   refine ⟨by omega,by omega,i,hS.2 j i hi,i0,by omega,e,hEe,t2,x,hx,λhq=>?_,λhq=>?_⟩
   ·obtain rfl:x=false:=by simpa using hq
    rw [if_neg (by rw [hxd];decide)] at hv
    have kv:=c7g es f e.fTo s' hx
    refine ih e.fTo s' _ (by omega) t2 hx (by omega) (by omega) ?_
    unfold a1o
    rw [ej]
    exact hnx _ _ ⟨rfl,j+1,vis es f e.fTo s',by omega,rfl,Kp.trans ⟨kn,kc,kd⟩ kv,hv⟩ (by dsimp only;omega)
   ·obtain rfl:x=true:=by simpa using hq
    rw [if_pos hxd] at hv
    unfold a1o
    rw [ej]
    exact hnx _ _ ⟨rfl,j+1,s',by omega,rfl,⟨kn,kc,kd⟩,hv⟩ (by dsimp only;omega)
  ·obtain rfl:j=(idxS p 0 es).length:=by omega
   rw [List.drop_length,visL] at hv
   rw [←hv] at h
   unfold a5P
   exact ⟨by simp only [List.length_cons,List.length_nil];omega,h⟩
theorem d1t{xs:List Int}(hb:xs.length<=1099511627776){K:List Int->Hp->Prop}(h:K xs.reverse H):a5p xs H K:=by
 refine b5i _ ?_
 unfold a9j
 rw [show IntKind.wrap .i64 ((xs.length:Int)-1)=(xs.length:Int)-1 from S3 ⟨by omega,by omega⟩]
 refine P7 (λst H'=>H'=H/\∃(i:Nat)(cs:List Int),2*i<=xs.length+1/\st=(cs,(i:Int),(xs.length:Int)-1-i)/\cs.length=xs.length/\∀k:Nat,k < xs.length->cs[k]? = if k < i\/xs.length<=k+i then xs[xs.length-1-k]? else xs[k]?) (λst=>xs.length-st.2.1.toNat)
  ⟨rfl,0,xs,by omega,by simp,rfl,λk hk=>by rw [if_neg (by omega)]⟩ ?_
 rintro st H1 next ⟨rfl,i,cs,hi,rfl,hl,hk⟩ hnx
 dsimp only
 unfold a4b
 refine ⟨λq=>?_,λq=>?_⟩
 ·have hi1:i < xs.length-1-i:=by omega
  obtain ⟨a,ha⟩:=K2 (l:=xs) (i:=i) (by omega)
  obtain ⟨b,hb'⟩:=K2 (l:=xs) (i:=xs.length-1-i) (by omega)
  have ca:cs[i]? = some a:=by rw [hk i (by omega),if_neg (by omega)];exact ha
  have cb:cs[xs.length-1-i]? = some b:=by rw [hk _ (by omega),if_neg (by omega)];exact hb'
  have ej:((xs.length:Int)-1-(i:Int)).toNat=xs.length-1-i:=by omega
  rw [ej,Int.toNat_natCast]
  refine ⟨by omega,b,cb,by omega,a,ca,by omega,a,ca,by omega,b,by rw [List.getElem?_set_ne (by omega)];exact cb,?_⟩
  rw [show IntKind.wrap .i64 ((i:Int)+1)=((i+1:Nat):Int) by rw [K7 (by omega) (by omega)];omega,show IntKind.wrap .i64 ((xs.length:Int)-1-i-1)=(xs.length:Int)-1-((i+1:Nat):Int) by rw [S3 ⟨by omega,by omega⟩];omega]
  refine hnx _ _ ⟨rfl,i+1,_,by omega,rfl,by rw [List.length_set,List.length_set];exact hl,λk hkl=>?_⟩ (by dsimp only;omega)
  rw [List.getElem?_set,List.getElem?_set]
  by_cases e1:xs.length-1-i=k
  ·rw [if_pos e1,if_pos (by rw [List.length_set];omega),if_pos (by omega),show xs.length-1-k=i by omega,ha]
  ·rw [if_neg e1]
   by_cases e2:i=k
   ·subst e2
    rw [if_pos rfl,if_pos (by omega),if_pos (by omega),hb']
   ·rw [if_neg e2,hk k hkl]
    by_cases e3:k < i\/xs.length<=k+i
    ·rw [if_pos e3,if_pos (by omega)]
    ·rw [if_neg e3,if_neg (by omega)]
 ·have:cs=xs.reverse:=by
   refine List.ext_getElem? λk=>?_
   by_cases hkl:k < xs.length
   ·rw [hk k hkl,List.getElem?_reverse hkl]
    by_cases e3:k < i\/xs.length<=k+i
    ·rw [if_pos e3]
    ·rw [if_neg e3];congr 1;omega
   ·rw [List.getElem?_eq_none (by omega),List.getElem?_eq_none (by rw [List.length_reverse];omega)]
  rw [this];exact h
def wkS(P:Int)(es:List d8):Dv:=vis es P.toNat 0 ⟨List.replicate P.toNat false,[]⟩
def newS(b:List Bool)(n:Nat):List Int:=((List.range n).filter λp=>!(b.getD p true)).map Int.ofNat
def ordS(P:Int)(es:List d8):List Int:=(wkS P es).d.reverse++newS (wkS P es).b P.toNat
theorem c4W(b:List Bool)(n:Nat):newS b (n+1)=newS b n++(if b.getD n true=true then [] else [(n:Int)]):=by
 unfold newS
 rw [List.range_succ,List.filter_append,List.map_append]
 congr 1
 by_cases h:b.getD n true=true<;>simp [List.filter_cons]
 ·simp only [List.getD_eq_getElem?_getD] at h;simp [h]
 ·simp only [List.getD_eq_getElem?_getD] at h;simp [h]
theorem c7i(b:List Bool)(n:Nat):(newS b n).length<=n:=by
 unfold newS
 rw [List.length_map]
 exact Nat.le_trans (List.length_filter_le _ _) (by rw [List.length_range];exact Nat.le_refl _)
theorem b9M(n:Nat):cF (List.replicate n false)=n:=by unfold cF;rw [List.count_replicate_self]
theorem d1u{P:Int}{es:List d8}(h1:1<=P):Kp ⟨List.replicate P.toNat false,[]⟩ (wkS P es):=by
 refine c7g es _ _ _ ?_
 rw [show (0:Int).toNat=0 from rfl,List.getElem?_replicate,if_pos (by omega)]
theorem b2E(G:GH H c vs ds es)(h:checkS c vs ds es=0):1<=c.i7/\c.i7<=4096/\es.length<=8192/\es.all (edgeS c)=true/\0<=c.K8/\c.K8 < c.i7/\0<=c.D7/\(vs.length:Int)+c.D7<=64:=by
 unfold checkS at h
 cases hv:varsS c vs
 ·rw [hv] at h;cases h
 cases hq:pointsS c es
 ·rw [hv,hq] at h;cases h
 cases hf:gformS c ds es
 ·rw [hv,hq,hf] at h;cases h
 unfold varsS at hv
 unfold pointsS at hq
 unfold gformS within at hf
 simp only [Bool.and_eq_true,decide_eq_true_eq] at hv hq hf
 exact ⟨hq.1.1,hq.1.2,by omega,hf.1.2,hf.1.1.2.1,hf.1.1.2.2,hv.1.1,hv.2⟩
theorem d6b(G:GH H c vs ds es){K:Sl->Int->Hp->Prop}(h1:checkS c vs ds es≠0->∀H',Hle H H'->K nSl (checkS c vs ds es) H')(h2:checkS c vs ds es=0->∀s H',Hle H H'->SlH H' 1 K4 s (ordS c.i7 es)->K s 0 H'):a9a c H K:=by
 refine b9v _ ?_
 unfold b3f
 refine b1N G λH1 l1=>⟨λe=>h1 e H1 l1,λe=>?_⟩
 obtain ⟨p1,p2,pe,ha,_⟩:=b2E G e
 have G1:=G.le l1
 refine c9U G1 ⟨by omega,p2⟩ (by omega) ha λsf H2 l2 F=>?_
 have l12:=l1.trans l2
 have G2:=G.le l12
 have hk:=d1u (es:=es) p1
 obtain ⟨kn,kc,kd⟩:=hk
 simp only [List.length_replicate,List.length_nil,b9M] at kn kc kd
 refine ⟨by omega,by omega,d4a G2 F p2 pe ha c.i7.toNat 0 ⟨List.replicate c.i7.toNat false,[]⟩ _ (by simp only [List.length_replicate];omega) (by omega) ?_ (by simp only [b9M];omega) (by simp only [b9M,List.length_nil];omega) ?_⟩
 ·simp only [show (0:Int).toNat=0 from rfl]
  rw [List.getElem?_replicate,if_pos (by omega)]
 have hwk:vis es c.i7.toNat 0 ⟨List.replicate c.i7.toNat false,[]⟩=wkS c.i7 es:=rfl
 rw [hwk]
 refine d1t (by omega) (P7 (λst H'=>H'=H2/\∃i:Nat,i<=c.i7.toNat/\st=((i:Int),(wkS c.i7 es).d.reverse++newS (wkS c.i7 es).b i)) (λst=>c.i7.toNat-st.1.toNat) ⟨rfl,0,by omega,by simp [newS]⟩ ?_)
 rintro st H3 next ⟨rfl,i,hi,rfl⟩ hnx
 unfold a6K
 refine ⟨λq=>?_,λq=>?_⟩
 ·obtain ⟨x,hx⟩:=K2 (l:=(wkS c.i7 es).b) (i:=i) (by omega)
  have hxd:(wkS c.i7 es).b.getD i true=x:=by rw [List.getD_eq_getElem?_getD,hx];rfl
  have hnl:=c7i (wkS c.i7 es).b i
  have hs:=c4W (wkS c.i7 es).b i
  have ei:IntKind.wrap .i64 ((i:Int)+1)=((i+1:Nat):Int):=by rw [K7 (by omega) (by omega)];omega
  refine ⟨by omega,x,hx,λhq=>⟨?_,?_⟩,λhq=>?_⟩
  ·simp only [List.length_append,List.length_reverse,List.length_cons,List.length_nil];omega
  ·obtain rfl:x=false:=by simpa using hq
   rw [if_neg (by rw [hxd];decide)] at hs
   unfold a1R
   rw [ei,List.append_assoc,← hs]
   exact hnx _ _ ⟨rfl,i+1,by omega,rfl⟩ (by dsimp only;omega)
  ·obtain rfl:x=true:=by simpa using hq
   rw [if_pos hxd,List.append_nil] at hs
   unfold a1R
   rw [ei,← hs]
   exact hnx _ _ ⟨rfl,i+1,by omega,rfl⟩ (by dsimp only;omega)
 ·obtain rfl:i=c.i7.toNat:=by omega
  unfold a6J
  intro s H4 l4 hs _
  exact h2 e s H4 (l12.trans l4) hs
end
theorem e0T{c:s6}{es:List d8}(ha:es.all (edgeS c)=true)(h1:1<=c.i7)(i:Int):0<=toS es i/\toS es i < c.i7:=by
 cases h:es[i.toNat]? with
 | none=>unfold toS;rw [h];exact ⟨Int.le_refl _,by show (0:Int) < _;omega⟩
 | some e=>have:=c7h ha h;rw [this.1];exact this.2
theorem d6c{P:Int}{v:Int->Dv->Dv}{es:List d8}(ht:∀i,0<=toS es i/\toS es i < P)(hv:∀q s,0<=q->q < P->(∀x∈s.d,0<=x/\x < P)->∀x∈(v q s).d,0<=x/\x < P):∀(l:List Int)(s:Dv),(∀x∈s.d,0<=x/\x < P)->∀x∈(visL v es l s).d,0<=x/\x < P
 | [],s,h=>by rw [visL];exact h
 | i::l,s,h=>by
  rw [visL]
  split
  ·exact d6c ht hv l s h
  ·exact d6c ht hv l _ (hv _ _ (ht i).1 (ht i).2 h)
theorem d4b{P:Int}{es:List d8}(ht:∀i,0<=toS es i/\toS es i < P):∀(f:Nat)(p:Int)(s:Dv),0<=p->p < P->(∀x∈s.d,0<=x/\x < P)->∀x∈(vis es f p s).d,0<=x/\x < P
 | 0,p,s,_,_,h=>by rw [vis];exact h
 | f+1,p,s,h0,h1,h=>by
  rw [vis]
  intro x hx
  rcases List.mem_append.1 hx with hx | hx
  ·exact d6c ht (d4b ht f) _ ⟨s.b.set p.toNat true,s.d⟩ h x hx
  ·rw [List.mem_singleton] at hx;subst hx;exact ⟨h0,h1⟩
theorem e4R{c:s6}{es:List d8}(ha:es.all (edgeS c)=true)(h1:1<=c.i7):∀x∈ordS c.i7 es,0<=x/\x < c.i7:=by
 intro x hx
 rcases List.mem_append.1 hx with hx | hx
 ·exact d4b (e0T ha h1) _ _ _ (by omega) (by omega) (λy hy=>by cases hy) x (List.mem_reverse.1 hx)
 ·unfold newS at hx
  obtain ⟨n,hn,rfl⟩:=List.mem_map.1 hx
  have:=List.mem_range.1 (List.mem_filter.1 hn).1
  exact ⟨by show (0:Int)<=(n:Int);omega,by show (n:Int) < _;omega⟩
theorem e0U{c:s6}{es:List d8}(h1:1<=c.i7)(h2:c.i7<=4096):(ordS c.i7 es).length<=8192:=by
 unfold ordS
 have hk:=d1u (es:=es) h1
 have hd:=hk.d
 simp only [List.length_nil,b9M] at hd
 have:=c7i (wkS c.i7 es).b c.i7.toNat
 rw [List.length_append,List.length_reverse]
 omega
def rkU(l:List Int)(P:Nat)(i:Nat):List Int:=(List.range i).foldl (λr j=>r.set (l.getD j 0).toNat (j:Int)) (List.replicate P 0)
theorem c1R(l:List Int)(P i:Nat):rkU l P (i+1)=(rkU l P i).set (l.getD i 0).toNat (i:Int):=by
 unfold rkU;rw [List.range_succ,List.foldl_append];rfl
theorem c4m(l:List Int)(P:Nat):∀i,(rkU l P i).length=P
 | 0=>by simp [rkU]
 | i+1=>by rw [c1R,List.length_set,c4m l P i]
def hdU(es:List d8)(rk:List Int)(P:Nat)(i:Nat):List Bool:=
 (es.take i).foldl (λb e=>b.set e.fTo.toNat (b.getD e.fTo.toNat false||decide (rk.getD e.fTo.toNat 0<=rk.getD e.D6.toNat 0))) (List.replicate P false)
theorem c7j{es:List d8}{rk:List Int}{P i:Nat}{e:d8}(h:es[i]? = some e):hdU es rk P (i+1)=(hdU es rk P i).set e.fTo.toNat ((hdU es rk P i).getD e.fTo.toNat false||decide (rk.getD e.fTo.toNat 0<=rk.getD e.D6.toNat 0)):=by
 unfold hdU;rw [W1 h,List.foldl_append];rfl
theorem c4n(es:List d8)(rk:List Int)(P i:Nat):(hdU es rk P i).length=P:=by
 unfold hdU
 have:∀(l:List d8)(b:List Bool),(l.foldl (λb e=>b.set e.fTo.toNat (b.getD e.fTo.toNat false||decide (rk.getD e.fTo.toNat 0<=rk.getD e.D6.toNat 0))) b).length=b.length:=by
  intro l
  induction l with
  | nil=>intro b;rfl
  | cons e l ih=>intro b;rw [List.foldl_cons,ih,List.length_set]
 rw [this,List.length_replicate]
def yesS(b:List Bool)(n:Nat):List Int:=((List.range n).filter λp=>b.getD p false).map Int.ofNat
theorem d4c(b:List Bool)(n:Nat):yesS b (n+1)=yesS b n++(if b.getD n false=true then [(n:Int)] else []):=by
 unfold yesS
 rw [List.range_succ,List.filter_append,List.map_append]
 congr 1
 by_cases h:b.getD n false=true<;>simp [List.filter_cons]
 ·simp only [List.getD_eq_getElem?_getD] at h;simp [h]
 ·simp only [List.getD_eq_getElem?_getD] at h;simp [h]
theorem c7k(b:List Bool)(n:Nat):(yesS b n).length<=n:=by
 unfold yesS
 rw [List.length_map]
 exact Nat.le_trans (List.length_filter_le _ _) (by rw [List.length_range];exact Nat.le_refl _)
def rankS(P:Int)(es:List d8):List Int:=rkU (ordS P es) P.toNat (ordS P es).length
def headS(P:Int)(es:List d8):List Bool:=hdU es (rankS P es) P.toNat es.length
def headsS(P:Int)(es:List d8):List Int:=yesS (headS P es) P.toNat
theorem b3D{α:Type}{l:List α}{i:Nat}{x d:α}(h:l[i]? = some x):l.getD i d=x:=by rw [List.getD_eq_getElem?_getD,h];rfl
section
variable {H:Hp}{c:s6}{vs:List BA}{ds:List j9}{es:List d8}{sf:Sl}
theorem e4S(G:GH H c vs ds es){p:Int}{K:Sl->Int->Hp->Prop}(h1:checkS c vs ds es≠0->∀H',Hle H H'->K nSl (checkS c vs ds es) H')(h2:checkS c vs ds es=0->p < 0\/c.i7<=p->∀H',Hle H H'->K nSl 92 H')(h3:checkS c vs ds es=0->0<=p->p < c.i7->∀s H',Hle H H'->SlH H' 1 K4 s (idxS p 0 es)->K s 0 H'):b0G c p H K:=by
 refine c1H _ _ (b1N G λH1 l1=>⟨λe=>h1 e H1 l1,λe=>⟨λq=>?_,λq=>?_⟩⟩)
 ·simp only [Bool.or_eq_true,decide_eq_true_eq] at q
  exact h2 e q H1 l1
 ·simp only [Bool.or_eq_false_iff,decide_eq_false_iff_not] at q
  obtain ⟨p1,p2,pe,ha,_⟩:=b2E G e
  refine c9U (G.le l1) ⟨by omega,p2⟩ (by omega) ha λsf H2 l2 F=>?_
  obtain ⟨si,hE,hS⟩:=F.row p (by omega) (by omega)
  exact ⟨by omega,by have:=F.n;omega,si,hE,h3 e (by omega) (by omega) si H2 (l1.trans l2) hS⟩
theorem d6d(G:GH H c vs ds es){K:Sl->Int->Hp->Prop}(h1:checkS c vs ds es≠0->∀H',Hle H H'->K nSl (checkS c vs ds es) H')(h2:checkS c vs ds es=0->∀s H',Hle H H'->SlH H' 1 K4 s (headsS c.i7 es)->K s 0 H'):a9b c H K:=by
 refine b9x _ ?_
 unfold b3g
 refine b1N G λH1 l1=>⟨λe=>h1 e H1 l1,λe=>?_⟩
 obtain ⟨p1,p2,pe,ha,_⟩:=b2E G e
 have hin:=e4R ha p1
 have hol:=e0U (es:=es) p1 p2
 refine d6b (G.le l1) (λe2=>(e2 e).elim) λ_ so H2 l2 hso=>?_
 have l12:=l1.trans l2
 have hon:=hso.1
 have G2:=G.le l12
 have hne:=G2.e.1
 refine ⟨by omega,by omega,?_⟩
 refine P7 (λst H'=>H'=H2/\∃i:Nat,i<=(ordS c.i7 es).length/\st=(rkU (ordS c.i7 es) c.i7.toNat i,(i:Int))) (λst=>(ordS c.i7 es).length-st.2.toNat) ⟨rfl,0,Nat.zero_le _,rfl⟩ ?_
 rintro st H3 next ⟨rfl,i,hi,rfl⟩ hnx
 unfold a6Q
 refine ⟨λq=>?_,λq=>?_⟩
 ·obtain ⟨x,hx⟩:=K2 (l:=ordS c.i7 es) (i:=i) (by omega)
  obtain ⟨x0,x1⟩:=hin x (List.mem_of_getElem? hx)
  obtain ⟨y,hy⟩:=K2 (l:=rkU (ordS c.i7 es) c.i7.toNat i) (i:=x.toNat) (by rw [c4m];omega)
  refine ⟨by omega,by omega,x,hso.2 i x hx,x0,y,hy,?_⟩
  rw [show IntKind.wrap .i64 ((i:Int)+1)=((i+1:Nat):Int) by rw [K7 (by omega) (by omega)];omega]
  refine hnx _ _ ⟨rfl,i+1,by omega,?_⟩ (by dsimp only;omega)
  rw [c1R,b3D hx]
 obtain rfl:i=(ordS c.i7 es).length:=by omega
 unfold a6P
 refine ⟨by omega,by omega,?_⟩
 have hrk:rkU (ordS c.i7 es) c.i7.toNat (ordS c.i7 es).length=rankS c.i7 es:=rfl
 rw [hrk]
 have hrl:(rankS c.i7 es).length=c.i7.toNat:=c4m ..
 refine P7 (λst H'=>H'=H3/\∃i:Nat,i<=es.length/\st=(hdU es (rankS c.i7 es) c.i7.toNat i,(i:Int))) (λst=>es.length-st.2.toNat) ⟨rfl,0,Nat.zero_le _,rfl⟩ ?_
 rintro st H4 next2 ⟨rfl,i,hi2,rfl⟩ hnx2
 unfold a6O
 refine ⟨λq2=>?_,λq2=>?_⟩
 ·obtain ⟨ed,hed⟩:=K2 (l:=es) (i:=i) (by omega)
  have hal:=List.all_eq_true.1 ha ed (List.mem_of_getElem? hed)
  have hf:=b8H hal
  have ht:0<=ed.fTo/\ed.fTo < c.i7:=by
   unfold edgeS within at hal
   simp only [Bool.and_eq_true,decide_eq_true_eq] at hal
   exact hal.1.1.1.2
  obtain ⟨b,hb⟩:=K2 (l:=hdU es (rankS c.i7 es) c.i7.toNat i) (i:=ed.fTo.toNat) (by rw [c4n];omega)
  obtain ⟨x,hx⟩:=K2 (l:=rankS c.i7 es) (i:=ed.D6.toNat) (by omega)
  obtain ⟨y,hy⟩:=K2 (l:=rankS c.i7 es) (i:=ed.fTo.toNat) (by omega)
  refine ⟨by omega,by omega,ed,G2.e.2 i ed hed,ht.1,b,hb,x,λ_=>⟨hf.1,hx⟩,y,λ_=>⟨ht.1,hy⟩,ht.1,b,hb,?_⟩
  rw [show IntKind.wrap .i64 ((i:Int)+1)=((i+1:Nat):Int) by rw [K7 (by omega) (by omega)];omega]
  refine hnx2 _ _ ⟨rfl,i+1,by omega,?_⟩ (by dsimp only;omega)
  rw [c7j hed,b3D hb,b3D hx,b3D hy]
 obtain rfl:i=es.length:=by omega
 unfold a6N
 have hhd:hdU es (rankS c.i7 es) c.i7.toNat es.length=headS c.i7 es:=rfl
 rw [hhd]
 have hhl:(headS c.i7 es).length=c.i7.toNat:=c4n ..
 refine P7 (λst H'=>H'=H4/\∃i:Nat,i<=c.i7.toNat/\st=(yesS (headS c.i7 es) i,(i:Int))) (λst=>c.i7.toNat-st.2.toNat) ⟨rfl,0,Nat.zero_le _,rfl⟩ ?_
 rintro st H5 next3 ⟨rfl,i,hi3,rfl⟩ hnx3
 unfold a6M
 refine ⟨λq3=>?_,λq3=>?_⟩
 ·obtain ⟨b,hb⟩:=K2 (l:=headS c.i7 es) (i:=i) (by omega)
  have hs:=d4c (headS c.i7 es) i
  have hyl:=c7k (headS c.i7 es) i
  rw [b3D hb] at hs
  have ei:IntKind.wrap .i64 ((i:Int)+1)=((i+1:Nat):Int):=by rw [K7 (by omega) (by omega)];omega
  refine ⟨by omega,b,hb,λhq=>⟨by simp only [List.length_cons,List.length_nil];omega,?_⟩,λhq=>?_⟩
  ·rw [if_pos hq] at hs
   unfold a1S
   rw [ei,← hs]
   exact hnx3 _ _ ⟨rfl,i+1,by omega,rfl⟩ (by dsimp only;omega)
  ·rw [if_neg (by rw [hq];decide),List.append_nil] at hs
   unfold a1S
   rw [ei,← hs]
   exact hnx3 _ _ ⟨rfl,i+1,by omega,rfl⟩ (by dsimp only;omega)
 obtain rfl:i=c.i7.toNat:=by omega
 unfold a6L
 intro s H6 l6 hs _
 exact h2 e s H6 (l12.trans l6) hs
end
theorem c9V(b:List Bool):∀n,(newS b n).length<=cF (b.take n)
 | 0=>by simp [newS]
 | n+1=>by
  have ih:=c9V b n
  rw [c4W,List.length_append,List.take_add_one]
  unfold cF at ih ⊢
  rw [List.count_append,List.getD_eq_getElem?_getD]
  cases h:b[n]? with
  | none=>simpa using ih
  | some x=>cases x<;>simp<;>omega
theorem e4T{P:Int}{es:List d8}(h1:1<=P):(ordS P es).length<=P.toNat:=by
 obtain ⟨n,_,d⟩:=d1u (es:=es) h1
 have:=c9V (wkS P es).b P.toNat
 rw [List.length_replicate] at n
 rw [List.take_of_length_le (by omega)] at this
 rw [List.length_nil,b9M] at d
 unfold ordS
 rw [List.length_append,List.length_reverse]
 omega
theorem d4d(l:List Int)(P:Nat):∀(i p:Nat),0<=(rkU l P i).getD p 0/\(rkU l P i).getD p 0<=i
 | 0,p=>by
  unfold rkU
  rw [List.getD_eq_getElem?_getD,List.range_zero,List.foldl_nil,List.getElem?_replicate]
  split<;>exact ⟨Int.le_refl _,Int.le_refl _⟩
 | i+1,p=>by
  have ih:=d4d l P i p
  rw [List.getD_eq_getElem?_getD] at ih
  rw [c1R,List.getD_eq_getElem?_getD,List.getElem?_set]
  split
  ·split
   ·exact ⟨by show (0:Int)<=(i:Int);omega,by show (i:Int)<=_;omega⟩
   ·exact ⟨Int.le_refl _,by show (0:Int)<=_;omega⟩
  ·exact ⟨ih.1,by omega⟩
def rkP(P:Int)(es:List d8)(p:Int):Int:=(rankS P es).getD p.toNat 0
theorem d4e{P:Int}{es:List d8}(h1:1<=P)(p:Int):0<=rkP P es p/\rkP P es p<=P:=by
 have h:=d4d (ordS P es) P.toNat (ordS P es).length p.toNat
 have:=e4T (es:=es) h1
 exact ⟨h.1,Int.le_trans h.2 (by omega)⟩
theorem d1v{es:List d8}{rk:List Int}{P:Nat}{e:d8}(hp:e.fTo.toNat < P):∀(i:Nat),i<=es.length->∀j,j < i->es[j]? = some e->(hdU es rk P i).getD e.fTo.toNat false=false->rk.getD e.D6.toNat 0 < rk.getD e.fTo.toNat 0
 | 0,_,j,hj,_,_=>absurd hj (Nat.not_lt_zero _)
 | i+1,hi,j,hj,he,h=>by
  obtain ⟨x,hx⟩:∃x,es[i]? = some x:=⟨es[i],List.getElem?_eq_getElem (by omega)⟩
  rw [c7j hx,List.getD_eq_getElem?_getD,List.getElem?_set,c4n] at h
  by_cases c:x.fTo.toNat=e.fTo.toNat
  ·rw [if_pos c,if_pos (by omega)] at h
   have h:((hdU es rk P i).getD x.fTo.toNat false||decide (rk.getD x.fTo.toNat 0<=rk.getD x.D6.toNat 0))=false:=h
   rw [Bool.or_eq_false_iff,c] at h
   by_cases q:j=i
   ·subst q
    rw [he] at hx
    cases hx
    have:=of_decide_eq_false h.2
    omega
   ·exact d1v hp i (by omega) j (by omega) he h.1
  ·rw [if_neg c,← List.getD_eq_getElem?_getD] at h
   by_cases q:j=i
   ·subst q
    rw [he] at hx
    cases hx
    exact absurd rfl c
   ·exact d1v hp i (by omega) j (by omega) he h
theorem e4U{P:Int}{es:List d8}{e:d8}{j:Nat}(he:es[j]? = some e)(h0:0<=e.fTo)(h1:e.fTo < P)(h:¬e.fTo∈headsS P es):rkP P es e.D6 < rkP P es e.fTo:=by
 have hj:j < es.length:=(List.getElem?_eq_some_iff.1 he).1
 refine d1v (P:=P.toNat) (by omega) es.length (Nat.le_refl _) j hj he ?_
 cases c:(hdU es (rankS P es) P.toNat es.length).getD e.fTo.toNat false with
 | false=>rfl
 | true=>
  refine (h ?_).elim
  exact List.mem_map.2 ⟨e.fTo.toNat,List.mem_filter.2 ⟨List.mem_range.2 (by omega),c⟩,by show ((e.fTo.toNat:Nat):Int)=_;omega⟩
theorem d6e{P:Int}{es:List d8}{x:Int}(h:x∈headsS P es):0<=x/\x < P:=by
 obtain ⟨n,hn,rfl⟩:=List.mem_map.1 h
 have:=List.mem_range.1 (List.mem_filter.1 hn).1
 exact ⟨by show (0:Int)<=(n:Int);omega,by show (n:Int) < _;omega⟩
abbrev BL:=List UInt8
def lim:Nat:=65536
def Wt(B:Nat)(xs t ys:BL):Prop:=if xs.length+t.length<=lim then ys=xs++t else lim < ys.length/\ys.length<=B
theorem Wt.bound{B:Nat}{xs t ys:BL}(hB:lim<=B)(h:Wt B xs t ys):ys.length<=B:=by
 unfold Wt at h
 split at h
 ·rw [h,List.length_append];omega
 ·exact h.2
theorem Wt.nil{B:Nat}{xs:BL}(h:xs.length<=B):Wt B xs [] xs:=by
 unfold Wt
 split
 ·rw [List.append_nil]
 ·rename_i c
  rw [List.length_nil,Nat.add_zero] at c
  exact ⟨by omega,h⟩
theorem Wt.trans{B:Nat}{xs t ys u zs:BL}(h:Wt B xs t ys)(k:Wt B ys u zs):Wt B xs (t++u) zs:=by
 unfold Wt at h k ⊢
 rw [List.length_append]
 by_cases c:xs.length+t.length<=lim
 ·rw [if_pos c] at h
  subst h
  rw [List.length_append] at k
  by_cases c2:xs.length+t.length+u.length<=lim
  ·rw [if_pos c2] at k
   rw [if_pos (by omega),k,List.append_assoc]
  ·rw [if_neg c2] at k
   rw [if_neg (by omega)]
   exact k
 ·rw [if_neg c] at h
  rw [if_neg (by omega)] at k
  rw [if_neg (by omega)]
  exact k
def putW(xs s:BL):BL:=if lim < xs.length then xs else xs++s
theorem Wt.put{B:Nat}{xs s:BL}(h:xs.length<=B)(hs:lim+s.length<=B):Wt B xs s (putW xs s):=by
 unfold Wt putW
 by_cases c:lim < xs.length
 ·rw [if_pos c,if_neg (by omega)]
  exact ⟨c,h⟩
 ·rw [if_neg c]
  split
  ·rfl
  ·rw [List.length_append]
   exact ⟨by omega,by omega⟩
theorem Wt.full{B:Nat}{xs t:BL}(h:lim < xs.length)(hB:xs.length<=B):Wt B xs t xs:=by
 unfold Wt
 rw [if_neg (by omega)]
 exact ⟨h,hB⟩
def kindL:Lab->Int
 | .decl ..=>0
 | .stmt k ..=>k
 | .cond k ..=>k
 | .expr k ..=>k
def kindT:PT->Int
 | .mk l _=>kindL l
def lvE(k:Int):Int:=if k=6\/k=7 then 1 else if k=8\/k=9\/k=10 then 2 else if k=5 then 3 else 4
def lvC(k:Int):Int:=if k=6 then 1 else if k=5 then 2 else 3
def par(b:Bool)(o c:UInt8)(t:BL):BL:=if b=true then [o]++t++[c] else t
def sgnE(k:Int):BL:=if k=6 then [43] else if k=7 then [45] else if k=8 then [42] else if k=9 then [47] else [37]
def sgnC(op:Int):BL:=if op=1 then [60] else if op=2 then [60,61] else if op=3 then [61,61] else if op=4 then [33,61] else if op=5 then [62] else [62,61]
section
variable (dec:Int->BL)
def labT:Lab->List Int->List BL->BL
 | .expr k n s _,ks,ts=>
  if k=1 then dec n else if k=2 then s.data.toList else if k=3 then [105,110,112,117,116]
  else if k=4 then s.data.toList++[91]++ts.headD []++[93]
  else if k=5 then [45]++par (decide (lvE (ks.headD 0) < 3)) 40 41 (ts.headD [])
  else par (decide (lvE (ks.headD 0) < lvE k)) 40 41 (ts.headD [])++([32]++sgnE k++[32])++par (decide (lvE (ks.tail.headD 0)<=lvE k)) 40 41 (ts.tail.headD [])
 | .cond k op _ _,ks,ts=>
  if k=1 then [116,114,117,101] else if k=2 then [102,97,108,115,101]
  else if k=3 then ts.headD []++([32]++sgnC op++[32])++ts.tail.headD []
  else if k=4 then [33]++par (decide (lvC (ks.headD 0) < 3)) 91 93 (ts.headD [])
  else par (decide (lvC (ks.headD 0) < lvC k)) 91 93 (ts.headD [])++(if k=6 then [32,124,124,32] else [32,38,38,32])++par (decide (lvC (ks.tail.headD 0)<=lvC k)) 91 93 (ts.tail.headD [])
 | _,_,_=>[]
mutual
def tx:PT->BL
 | .mk l cs=>labT dec l (cs.map kindT) (txs cs)
def txs:List PT->List BL
 | []=>[]
 | t::ts=>tx t::txs ts
end
def lineT(d:Nat)(t:BL):BL:=(List.replicate d ([32,32]:BL)).flatten++t++[10]
def labS(d:Nat):Lab->List BL->List BL->BL
 | .stmt k s e c t _,ts,ss=>
  if k=1 then lineT d (s.data.toList++[32,61,32]++ts.headD []++[59])
  else if k=2 then lineT d (s.data.toList++[91]++ts.headD []++[93,32,61,32]++ts.tail.headD []++[59])
  else if k=3 then lineT d ([105,102,32]++ts.headD []++[32,123])++((ss.drop (c+e)).take t).flatten++(if ss.length<=c+e+t then [] else lineT d [125,32,101,108,115,101,32,123]++(ss.drop (c+e+t)).flatten)++lineT d [125]
  else if k=4 then lineT d ([119,104,105,108,101,32]++ts.headD []++[32,123])++((ss.drop (c+e)).take t).flatten++lineT d [125]
  else if k=5 then lineT d ([97,115,115,101,114,116,32]++ts.headD []++[59])
  else if k=6 then lineT d ([97,115,115,117,109,101,32]++ts.headD []++[59])
  else lineT d [115,107,105,112,59]
 | _,_,_=>[]
mutual
def stx:Nat->PT->BL
 | d,.mk l cs=>labS d l (txs dec cs) (stxs (d+1) cs)
def stxs:Nat->List PT->List BL
 | _,[]=>[]
 | d,t::ts=>stx d t::stxs d ts
end
def declT(d:j9):BL:=if d.D2=0 then lineT 0 ([118,97,114,32]++d.o7.data.toList++[59]) else lineT 0 ([97,114,114,97,121,32]++d.o7.data.toList++[91]++dec d.D2++[93,59])
def progT(q:PP):BL:=(q.decls.map (declT dec)).flatten++(stxs dec 0 q.body).flatten
end
end Go.Proofs.YthjlehnccgjpoaaGreatDoor
namespace Go.Proofs.YthjlehnccgjpoaaGreatDoor
open Go.RowKit
set_option maxRecDepth 100000
set_option maxHeartbeats 1000000
abbrev Tok:=d6
abbrev Flt:=Int×f8
abbrev PM(α:Type):=List Tok->Except Flt (α×List Tok)
def hd(r:List Tok):Tok:=r.headD ⟨5,⟨#[]⟩,0,⟨0,0⟩⟩
def isT(s:BA)(r:List Tok):Bool:=(decide ((hd r).d9=3)||decide ((hd r).d9=4))&&decide ((hd r).N9=s)
def wantE{α:Type}:PM α:=λr=>.error (40,(hd r).fAt)
def deadE{α:Type}(b:List Tok->Bool):PM α:=λr=>if b r then .error (41,(hd r).fAt) else .error (40,(hd r).fAt)
def pureP{α:Type}(a:α):PM α:=λr=>.ok (a,r)
def bindP{α β:Type}(p:PM α)(f:α->PM β):PM β:=λr=>match p r with
 | .error x=>.error x
 | .ok (a,r')=>f a r'
def mustP(s:BA):PM Unit:=λr=>if isT s r then .ok ((),r.tail) else .error (40,(hd r).fAt)
def WfT:List Tok->Prop
 | []=>False
 | [t]=>t.d9=5
 | t::u::r=>t.d9≠5/\WfT (u::r)
def factB(r:List Tok):Bool:=(((decide ((hd r).d9=1)||decide ((hd r).d9=2))||isT ⟨#[45]⟩ r)||isT ⟨#[105,110,112,117,116]⟩ r)||isT ⟨#[40]⟩ r
def litB(r:List Tok):Bool:=(((factB r||isT ⟨#[116,114,117,101]⟩ r)||isT ⟨#[102,97,108,115,101]⟩ r)||isT ⟨#[33]⟩ r)||isT ⟨#[91]⟩ r
def stmtB(r:List Tok):Bool:=((((decide ((hd r).d9=1)||isT ⟨#[105,102]⟩ r)||isT ⟨#[119,104,105,108,101]⟩ r)||isT ⟨#[97,115,115,101,114,116]⟩ r)||isT ⟨#[97,115,115,117,109,101]⟩ r)||isT ⟨#[115,107,105,112]⟩ r
def eX(k num:Int)(s:BA)(ts:List PT):PT:=.mk (.expr k num s ts.length) ts
def cX(k op:Int)(es cs:List PT):PT:=.mk (.cond k op es.length cs.length) (es++cs)
def sX(k:Int)(s:BA)(es cs vs ws:List PT):PT:=.mk (.stmt k s es.length cs.length vs.length ws.length) (cs++(es++(vs++ws)))
def chainF(w:List Tok->Int)(part:PM PT):Nat->PT->PM PT
 | 0,e=>λr=>.ok (e,r)
 | n+1,e=>λr=>if w r=0 then .ok (e,r) else bindP part (λa=>chainF w part n (eX (w r) 0 ⟨#[]⟩ [e,a])) r.tail
def chainP(w:List Tok->Int)(part:PM PT):PM PT:=bindP part λe r=>chainF w part r.length e r
def joinsF(s:BA)(k:Int)(part:PM PT):Nat->PT->PM PT
 | 0,c=>λr=>.ok (c,r)
 | n+1,c=>λr=>if isT s r then bindP part (λd=>joinsF s k part n (cX k 0 [] [c,d])) r.tail else .ok (c,r)
def joinsP(s:BA)(k:Int)(part:PM PT):PM PT:=bindP part λc r=>joinsF s k part r.length c r
def whG:List BA->List Int->List Tok->Int
 | s::ss,k::ks,r=>if isT s r then k else whG ss ks r
 | _,_,_=>0
abbrev sMul:List BA:=[⟨#[42]⟩,⟨#[47]⟩,⟨#[37]⟩]
abbrev kMul:List Int:=[8,9,10]
abbrev sAdd:List BA:=[⟨#[43]⟩,⟨#[45]⟩]
abbrev kAdd:List Int:=[6,7]
def termOf(f:PM PT):PM PT:=chainP (whG sMul kMul) f
def exprOf(f:PM PT):PM PT:=chainP (whG sAdd kAdd) (termOf f)
def factS(f:PM PT):PM PT:=λr=>
 if factB r=false then wantE r else
 if isT ⟨#[45]⟩ r then bindP f (λe=>pureP (eX 5 0 ⟨#[]⟩ [e])) r.tail else
 if isT ⟨#[40]⟩ r then bindP (exprOf f) (λe=>bindP (mustP ⟨#[41]⟩) λ_=>pureP e) r.tail else
 if isT ⟨#[105,110,112,117,116]⟩ r then .ok (eX 3 0 ⟨#[]⟩ [],r.tail) else
 if (hd r).d9=2 then .ok (eX 1 (hd r).A6 ⟨#[]⟩ [],r.tail) else
 if isT ⟨#[91]⟩ r.tail then bindP (exprOf f) (λe=>bindP (mustP ⟨#[93]⟩) λ_=>pureP (eX 4 0 (hd r).N9 [e])) r.tail.tail else
 .ok (eX 2 0 (hd r).N9 [],r.tail)
def factP:Nat->PM PT
 | 0=>deadE factB
 | g+1=>factS (factP g)
def exprP(g:Nat):PM PT:=exprOf (factP g)
def relR(r:List Tok):Int:=whG [⟨#[60]⟩,⟨#[60,61]⟩,⟨#[61,61]⟩,⟨#[33,61]⟩,⟨#[62]⟩,⟨#[62,61]⟩] [1,2,3,4,5,6] r
def relP:PM Int:=λr=>if relR r=0 then wantE r else .ok (relR r,r.tail)
def conjOf(l:PM PT):PM PT:=joinsP ⟨#[38,38]⟩ 5 l
def condOf(l:PM PT):PM PT:=joinsP ⟨#[124,124]⟩ 6 (conjOf l)
def litS(l ex:PM PT):PM PT:=λr=>
 if litB r=false then wantE r else
 if isT ⟨#[116,114,117,101]⟩ r then .ok (cX 1 0 [] [],r.tail) else
 if isT ⟨#[102,97,108,115,101]⟩ r then .ok (cX 2 0 [] [],r.tail) else
 if isT ⟨#[33]⟩ r then bindP l (λc=>pureP (cX 4 0 [] [c])) r.tail else
 if isT ⟨#[91]⟩ r then bindP (condOf l) (λc=>bindP (mustP ⟨#[93]⟩) λ_=>pureP c) r.tail else
 bindP ex (λa=>bindP relP λop=>bindP ex λb=>pureP (cX 3 op [a,b] [])) r
def litP:Nat->PM PT
 | 0=>deadE litB
 | g+1=>litS (litP g) (exprP (g+1))
def condP(g:Nat):PM PT:=condOf (litP g)
def stmtsF(stop:List Tok->Bool)(st:PM PT):Nat->List PT->PM (List PT)
 | 0,l=>λr=>.ok (l,r)
 | n+1,l=>λr=>if stop r then .ok (l,r) else bindP st (λs=>stmtsF stop st n (l++[s])) r
def blockOf(st:PM PT):PM (List PT):=bindP (mustP ⟨#[123]⟩) λ_=>bindP (λr=>stmtsF (isT ⟨#[125]⟩) st r.length [] r) λl r=>.ok (l,r.tail)
def endS(s:PT):PM PT:=bindP (mustP ⟨#[59]⟩) λ_=>pureP s
def setS(k:Int)(s:BA)(es:List PT)(ex:PM PT):PM PT:=bindP (mustP ⟨#[61]⟩) λ_=>bindP ex λe=>endS (sX k s (es++[e]) [] [] [])
def stmtS(st sub ex co:PM PT):PM PT:=λr=>
 if stmtB r=false then wantE r else
 if (hd r).d9=1 then
  if isT ⟨#[91]⟩ r.tail then bindP sub (λe=>bindP (mustP ⟨#[93]⟩) λ_=>setS 2 (hd r).N9 [e] ex) r.tail.tail else setS 1 (hd r).N9 [] ex r.tail else
 if (hd r).N9=⟨#[105,102]⟩ then bindP co (λc=>bindP (blockOf st) λth r'=>if isT ⟨#[101,108,115,101]⟩ r' then bindP (blockOf st) (λel=>pureP (sX 3 ⟨#[]⟩ [] [c] th el)) r'.tail else .ok (sX 3 ⟨#[]⟩ [] [c] th [],r')) r.tail else
 if (hd r).N9=⟨#[119,104,105,108,101]⟩ then bindP co (λc=>bindP (blockOf st) λth=>pureP (sX 4 ⟨#[]⟩ [] [c] th [])) r.tail else
 if (hd r).N9=⟨#[97,115,115,101,114,116]⟩ then bindP co (λc=>endS (sX 5 ⟨#[]⟩ [] [c] [] [])) r.tail else
 if (hd r).N9=⟨#[97,115,115,117,109,101]⟩ then bindP co (λc=>endS (sX 6 ⟨#[]⟩ [] [c] [] [])) r.tail else
 endS (sX 7 ⟨#[]⟩ [] [] [] []) r.tail
def stmtP:Nat->PM PT
 | 0=>deadE stmtB
 | g+1=>stmtS (stmtP g) (exprP g) (exprP (g+1)) (condP (g+1))
def declP(arr:Bool):PM j9:=λr=>
 if (hd r).d9≠1 then wantE r else
 if arr then bindP (mustP ⟨#[91]⟩) (λ_ r'=>
  if ((!decide ((hd r').d9=2))||decide ((hd r').A6 < 1))||decide (2147483647 < (hd r').A6) then wantE r'
  else bindP (mustP ⟨#[93]⟩) (λ_=>bindP (mustP ⟨#[59]⟩) λ_=>pureP (⟨(hd r).N9,(hd r').A6⟩:j9)) r'.tail) r.tail
 else bindP (mustP ⟨#[59]⟩) (λ_=>pureP (⟨(hd r).N9,0⟩:j9)) r.tail
abbrev tVar:BA:=⟨#[118,97,114]⟩
abbrev tArr:BA:=⟨#[97,114,114,97,121]⟩
def declsF:Nat->List j9->PM (List j9)
 | 0,l=>λr=>.ok (l,r)
 | n+1,l=>λr=>if isT tVar r||isT tArr r then bindP (declP (isT tArr r)) (λd=>declsF n (l++[d])) r.tail else .ok (l,r)
def endB(r:List Tok):Bool:=decide ((hd r).d9=5)
def progP:PM PP:=bindP (λr=>declsF r.length [] r) λds=>bindP (λr=>stmtsF endB (stmtP 40) r.length [] r) λb=>pureP ⟨ds,b⟩
def Shr{α:Type}(p:PM α):Prop:=∀r a r',p r=.ok (a,r')->r'.length<=r.length
def SShr{α:Type}(p:PM α):Prop:=∀r a r',p r=.ok (a,r')->r'.length < r.length
theorem SShr.shr{α:Type}{p:PM α}(h:SShr p):Shr p:=λr a r' e=>Nat.le_of_lt (h r a r' e)
theorem d6f{s:BA}{r:List Tok}(h:isT s r=true):(hd r).d9=3\/(hd r).d9=4:=by
 unfold isT at h
 simp only [Bool.and_eq_true,Bool.or_eq_true,decide_eq_true_eq] at h
 exact h.1
theorem b1O{s:BA}{r:List Tok}(h:isT s r=true):(hd r).d9≠5:=by rcases d6f h with e | e<;>omega
theorem a7c{r:List Tok}(h:(hd r).d9≠5):r.tail.length < r.length:=by
 cases r with
 | nil=>exact absurd rfl h
 | cons t r=>simp
theorem b2F(r:List Tok):r.tail.length<=r.length:=by simp
theorem bind_ok{α β:Type}{p:PM α}{f:α->PM β}{r:List Tok}{b:β}{r':List Tok}(h:bindP p f r=.ok (b,r')):∃a r1,p r=.ok (a,r1)/\f a r1=.ok (b,r'):=by
 unfold bindP at h
 split at h
 ·cases h
 ·exact ⟨_,_,by assumption,h⟩
theorem Shr.bind{α β:Type}{p:PM α}{f:α->PM β}(hp:Shr p)(hf:∀a,Shr (f a)):Shr (bindP p f):=λr b r' h=>by
 obtain ⟨a,r1,h1,h2⟩:=bind_ok h
 exact Nat.le_trans (hf a _ _ _ h2) (hp _ _ _ h1)
theorem SShr.bind{α β:Type}{p:PM α}{f:α->PM β}(hp:SShr p)(hf:∀a,Shr (f a)):SShr (bindP p f):=λr b r' h=>by
 obtain ⟨a,r1,h1,h2⟩:=bind_ok h
 exact Nat.lt_of_le_of_lt (hf a _ _ _ h2) (hp _ _ _ h1)
theorem a5y{α:Type}(a:α):Shr (pureP a):=λr b r' h=>by cases h;exact Nat.le_refl _
theorem a5z(s:BA):SShr (mustP s):=λr b r' h=>by
 unfold mustP at h
 split at h
 ·rename_i c
  cases h
  exact a7c (b1O c)
 ·cases h
theorem c1S{α:Type}(b:List Tok->Bool):SShr (deadE (α:=α) b):=λr a r' h=>by
 unfold deadE at h
 split at h<;>cases h
theorem e4V{ss:List BA}:∀{ks:List Int}{r:List Tok},whG ss ks r≠0->(hd r).d9≠5:=by
 induction ss with
 | nil=>intro ks r h;exact absurd rfl h
 | cons s ss ih=>
  intro ks r h
  cases ks with
  | nil=>exact absurd rfl h
  | cons k ks=>
   unfold whG at h
   split at h
   ·rename_i c;exact b1O c
   ·exact ih h
theorem c3c{w:List Tok->Int}{part:PM PT}(hp:Shr part):∀(n:Nat)(e:PT),Shr (chainF w part n e)
 | 0,e=>λr b r' h=>by cases h;exact Nat.le_refl _
 | n+1,e=>λr b r' h=>by
  unfold chainF at h
  split at h
  ·cases h;exact Nat.le_refl _
  ·exact Nat.le_trans (Shr.bind hp (λa=>c3c hp n _) _ _ _ h) (b2F r)
theorem c3d{s:BA}{k:Int}{part:PM PT}(hp:Shr part):∀(n:Nat)(e:PT),Shr (joinsF s k part n e)
 | 0,e=>λr b r' h=>by cases h;exact Nat.le_refl _
 | n+1,e=>λr b r' h=>by
  unfold joinsF at h
  split at h
  ·exact Nat.le_trans (Shr.bind hp (λa=>c3d hp n _) _ _ _ h) (b2F r)
  ·cases h;exact Nat.le_refl _
theorem b0a{w:List Tok->Int}{part:PM PT}(hp:SShr part):SShr (chainP w part):=hp.bind λe r _ _ h=>c3c hp.shr r.length e _ _ _ h
theorem b0b{s:BA}{k:Int}{part:PM PT}(hp:SShr part):SShr (joinsP s k part):=hp.bind λe r _ _ h=>c3d hp.shr r.length e _ _ _ h
theorem d4f{f:PM PT}(hf:SShr f):SShr (factS f):=λr a r' h=>by
 have he:SShr (exprOf f):=b0a (b0a hf)
 unfold factS at h
 split at h
 ·cases h
 rename_i c
 have hne:(hd r).d9≠5:=λe=>c (by unfold factB isT;rw [e];rfl)
 have ht:=a7c hne
 have h2:=b2F r.tail
 split at h
 ·exact Nat.lt_of_le_of_lt ((hf.bind λ_=>a5y _).shr _ _ _ h) ht
 split at h
 ·exact Nat.lt_of_le_of_lt ((he.bind λ_=>(a5z _).shr.bind λ_=>a5y _).shr _ _ _ h) ht
 split at h
 ·cases h;exact ht
 split at h
 ·cases h;exact ht
 split at h
 ·exact Nat.lt_of_le_of_lt (Nat.le_trans ((he.bind λ_=>(a5z _).shr.bind λ_=>a5y _).shr _ _ _ h) h2) ht
 ·cases h;exact ht
theorem b0Y:∀g,SShr (factP g)
 | 0=>c1S _
 | g+1=>d4f (b0Y g)
theorem b9N(g:Nat):SShr (exprP g):=b0a (b0a (b0Y g))
theorem d6g:SShr relP:=λr a r' h=>by
 unfold relP at h
 split at h
 ·cases h
 ·rename_i c
  cases h
  exact a7c (e4V c)
theorem d6h{l ex:PM PT}(hl:SShr l)(hx:SShr ex):SShr (litS l ex):=λr a r' h=>by
 have hc:SShr (condOf l):=b0b (b0b hl)
 unfold litS at h
 split at h
 ·cases h
 split at h
 ·rename_i c;cases h;exact a7c (b1O c)
 split at h
 ·rename_i c;cases h;exact a7c (b1O c)
 split at h
 ·rename_i c
  exact Nat.lt_of_le_of_lt ((hl.bind λ_=>a5y _).shr _ _ _ h) (a7c (b1O c))
 split at h
 ·rename_i c
  exact Nat.lt_of_le_of_lt ((hc.bind λ_=>(a5z _).shr.bind λ_=>a5y _).shr _ _ _ h) (a7c (b1O c))
 ·exact (hx.bind λ_=>d6g.shr.bind λ_=>hx.shr.bind λ_=>a5y _) _ _ _ h
theorem b5R:∀g,SShr (litP g)
 | 0=>c1S _
 | g+1=>d6h (b5R g) (b9N _)
theorem d4g(g:Nat):SShr (condP g):=b0b (b0b (b5R g))
theorem c3e{stop:List Tok->Bool}{st:PM PT}(hs:Shr st):∀(n:Nat)(l:List PT),Shr (stmtsF stop st n l)
 | 0,l=>λr b r' h=>by cases h;exact Nat.le_refl _
 | n+1,l=>λr b r' h=>by
  unfold stmtsF at h
  split at h
  ·cases h;exact Nat.le_refl _
  ·exact Shr.bind hs (λa=>c3e hs n _) _ _ _ h
theorem c8x{st:PM PT}(hs:Shr st):SShr (blockOf st):=(a5z _).bind λ_=>Shr.bind (λr _ _ h=>c3e hs r.length [] _ _ _ h) λ_ r _ r' h=>by
 cases h;exact b2F r
theorem b8I(s:PT):SShr (endS s):=(a5z _).bind λ_=>a5y _
theorem c7l{k:Int}{s:BA}{es:List PT}{ex:PM PT}(hx:Shr ex):SShr (setS k s es ex):=(a5z _).bind λ_=>hx.bind λ_=>(b8I _).shr
theorem d4h{st sub ex co:PM PT}(hs:Shr st)(hb:Shr sub)(hx:Shr ex)(hc:Shr co):SShr (stmtS st sub ex co):=λr a r' h=>by
 unfold stmtS at h
 split at h
 ·cases h
 rename_i c
 have hne:(hd r).d9≠5:=λe=>c (by unfold stmtB isT;rw [e];rfl)
 have ht:=a7c hne
 have h2:=b2F r.tail
 have hbl:=(c8x hs).shr
 split at h
 ·split at h
  ·exact Nat.lt_of_le_of_lt (Nat.le_trans ((hb.bind λ_=>(a5z _).shr.bind λ_=>(c7l hx).shr) _ _ _ h) h2) ht
  ·exact Nat.lt_of_le_of_lt ((c7l hx).shr _ _ _ h) ht
 split at h
 ·refine Nat.lt_of_le_of_lt ((hc.bind λ_=>hbl.bind λth r1 a1 r2 h1=>?_) _ _ _ h) ht
  split at h1
  ·exact Nat.le_trans ((hbl.bind λ_=>a5y _) _ _ _ h1) (b2F r1)
  ·cases h1;exact Nat.le_refl _
 split at h
 ·exact Nat.lt_of_le_of_lt ((hc.bind λ_=>hbl.bind λ_=>a5y _) _ _ _ h) ht
 split at h
 ·exact Nat.lt_of_le_of_lt ((hc.bind λ_=>(b8I _).shr) _ _ _ h) ht
 split at h
 ·exact Nat.lt_of_le_of_lt ((hc.bind λ_=>(b8I _).shr) _ _ _ h) ht
 ·exact Nat.lt_of_le_of_lt ((b8I _).shr _ _ _ h) ht
theorem b9O:∀g,SShr (stmtP g)
 | 0=>c1S _
 | g+1=>d4h (b9O g).shr (b9N _).shr (b9N _).shr (d4g _).shr
theorem d4i(arr:Bool):SShr (declP arr):=λr a r' h=>by
 unfold declP at h
 split at h
 ·cases h
 rename_i c
 have ht:=a7c (r:=r) (by intro e;exact c (by rw [e];decide))
 split at h
 ·refine Nat.lt_of_le_of_lt ((Shr.bind (a5z _).shr λ_ r1 a1 r2 h1=>?_) _ _ _ h) ht
  split at h1
  ·cases h1
  ·exact Nat.le_trans (((a5z _).bind λ_=>(a5z _).shr.bind λ_=>a5y _).shr _ _ _ h1) (b2F r1)
 ·exact Nat.lt_of_le_of_lt (((a5z _).bind λ_=>a5y _).shr _ _ _ h) ht
end Go.Proofs.YthjlehnccgjpoaaGreatDoor
