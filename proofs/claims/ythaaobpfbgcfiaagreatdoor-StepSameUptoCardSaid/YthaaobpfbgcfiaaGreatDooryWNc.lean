/- A run's frame: the deferred function takes the panic. Off the code, by the kit's wp. -/
import Derived.Tactics2
import Derived.Defers
import Derived.Recover
import Derived.Test.YthaaobpfbgcfiaaGreatDooryWNa
namespace Go.Proofs.YthaaobpfbgcfiaaGreatDoor
open Go.RowKit
set_option maxRecDepth 100000
set_option maxHeartbeats 4000000
section
variable {P:Program}{ops:Array Oper}{i:Nat}{rest:List Nat}{a:Act}{w:World}{o:Oper}{s:Sem Next}
theorem wk{Q:Exit→Act→World→Prop}(ho:ops[i]? = some o)(hg:o.guard=none)(hs:execOp a.eval o=s)
  (h:opK P (fun c w'=>Q (.panic c) a w') s w fun v w'=>wpOps P ops Q rest (a.put o.dst v) w'):wpOps P ops Q (i::rest) a w:=by
 unfold wpOps
 rw [ho]
 have:Region.wanted o (yielded ops a.tmps)=true:=by unfold Region.wanted;rw [hg]
 simp only [this,if_true]
 exact .inl (b7Z hs h (fun _ _ h=>h) fun _ _ h=>h)
theorem c5Q{Q:Exit→Act→World→Prop}{d:Deferred}(ho:ops[i]? = some o)(hg:o.guard=none)(hr:(execOp a.eval o).run P w=.ok (.defer d) w)
  (h:wpOps P ops Q rest (({ a with defers:=d::a.defers }:Act).put o.dst undef) w):wpOps P ops Q (i::rest) a w:=by
 unfold wpOps
 rw [ho]
 have:Region.wanted o (yielded ops a.tmps)=true:=by unfold Region.wanted;rw [hg]
 simp only [this,if_true]
 refine .inl ?_
 unfold Oper.wp
 rw [hr]
 exact h
theorem a8W(v:Value):Pu P (pure (.value v)) v:=fun w=>rfl
end
section
variable {H:Hp}
theorem c4s(ge:Nat)(w:World):CallsD Tryz.prog 24 #[rP ge] .returning w fun e u' w'=>e=.returned (.tuple #[])∧u'=.returning∧w'=w:=by
 refine callsD_of_wpS Tryz.func24 rfl fun c₀ cs hu=>?_
 apply wpS_seq
 apply wpS_region
 simp [wpOpsS,go_sem,recoverD,hu,Exit.thenS]
 refine wpS_of_wp ?_
 apply wp_seq
 apply wp_seq
 apply wp_region
 refine wk (s:=pure (.value .nilIface)) rfl rfl (by kernel_rfl) (b6 (a8W _) ?_)
 refine wk (s:=xBin .eql 20 (.tmp 5) (.const .nilIface) .nilIface .nilIface) rfl rfl (by kernel_rfl) (b6 (v:=.bool true) (fun w=>by kernel_rfl) ?_)
 refine wp_cond (t:=true) (by kernel_rfl) ?_
 refine wp_ret ?_
 refine ⟨rfl,.returning,?_,_,results_none rfl _ _ _,rfl,rfl,rfl⟩
 rw [←hu]
theorem c4t(ge:Nat)(st wr:Int)(w w0:World)(ps:Nat→Prop)(H0:Hp)(Fs:List Frag)(I:Inv w0 ps H0 H (bx ge 61 [vi 0,vi 0]::Fs) w):
  CallsD Tryz.prog 24 #[rP ge] (.panicking [{ v:=endsV st wr,recovered:=false }]) w fun e u' w'=>e=.returned (.tuple #[])∧u'=.panicking [{ v:=endsV st wr,recovered:=true }]∧Inv w0 ps H0 H (bx ge 61 [vi st,vi wr]::Fs) w':=by
 refine callsD_of_wpS Tryz.func24 rfl fun c₀ cs hu=>?_
 apply wpS_seq
 apply wpS_region
 simp [wpOpsS,go_sem,recoverD,hu,Exit.thenS]
 refine wpS_of_wp ?_
 apply wp_seq
 apply wp_seq
 apply wp_region
 refine wk (s:=pure (.value (endsV st wr))) rfl rfl (by kernel_rfl) (b6 (a8W _) ?_)
 refine wk (s:=xBin .eql 20 (.tmp 5) (.const .nilIface) (endsV st wr) .nilIface) rfl rfl (by kernel_rfl) (b6 (v:=.bool false) (fun w=>by kernel_rfl) ?_)
 refine wp_cond (t:=false) (by kernel_rfl) ?_
 refine wp_skip ?_
 apply wp_seq
 apply wp_seq
 apply wp_region
 refine wk (s:=pure (.value (endsV st wr))) rfl rfl (by kernel_rfl) (b6 (a8W _) ?_)
 refine wk (s:=xV (Instr.typeAssert (endsV st wr) 20 61 true)) rfl rfl (by kernel_rfl) (b6 (v:=.tuple #[.agg #[vi st,vi wr],.bool true]) (Pu.ok fun w=>by kernel_rfl) ?_)
 refine wk (s:=pure (.value (.tuple #[.agg #[vi st,vi wr],.bool true]))) rfl rfl (by kernel_rfl) (b6 (a8W _) ?_)
 refine wk (s:=xV (Instr.extract (.tuple #[.agg #[vi st,vi wr],.bool true]) 0)) rfl rfl (by kernel_rfl) (b6 (i5 _ 0 _ rfl) ?_)
 refine wk (s:=xV (Instr.extract (.tuple #[.agg #[vi st,vi wr],.bool true]) 1)) rfl rfl (by kernel_rfl) (b6 (i5 _ 1 _ rfl) ?_)
 refine wk (s:=xV (Instr.alloc 61 true (.tuple #[]))) rfl rfl (by kernel_rfl) ?_
 refine s6 I Tryz.zeroValue61 (cs:=[vi 0,vi 0]) rfl fun g1 w1 I1 _=>?_
 refine wk (s:=xU (Instr.storeAt 61 (rP g1) (.agg #[vi st,vi wr]))) rfl rfl (by kernel_rfl) ?_
 refine E8 I1 Tryz.sizeOf61 (vs:=[vi st,vi wr]) (cs':=[vi st,vi wr]) rfl rfl (nb rfl) rfl rfl fun w2 I2 _=>?_
 refine wk (s:=pure (.value (.bool true))) rfl rfl (by kernel_rfl) (b6 (a8W _) ?_)
 apply wp_seq
 apply wp_region
 refine wk (s:=pure (.value (.bool true))) rfl rfl (by kernel_rfl) (b6 (a8W _) ?_)
 refine wp_cond (t:=true) (by kernel_rfl) ?_
 apply wp_seq
 apply wp_region
 refine wk (s:=xV (Instr.loadAt 61 (rP g1))) rfl rfl (by kernel_rfl) (d4 (ldA (vs:=[vi st,vi wr]) Tryz.isAgg61 Tryz.sizeOf61 rfl (I2.at1 (o:=0) (nb rfl) rfl)) ?_)
 refine wk (s:=xU (Instr.storeAt 61 (rP ge) (.agg #[vi st,vi wr]))) rfl rfl (by kernel_rfl) ?_
 refine E8 (I2.bring 1) Tryz.sizeOf61 (vs:=[vi st,vi wr]) (cs':=[vi st,vi wr]) rfl rfl (nb rfl) rfl rfl fun w3 I3 _=>?_
 refine wp_ret ?_
 exact ⟨rfl,_,rfl,_,results_none rfl _ _ _,rfl,rfl,(I3.bring 1).drop⟩
theorem b9F{P:Program}{fn:Func}{t:Tmp}{ty:TypeId}(h:fn.results=#[.cell t ty]){tmps:Array Value}{w:World}{p v0:Value}(ht:tmps.getD t undef=p)(hx:xcell P ty p w fun v=>v=v0):(results fn tmps).run P w=.ok v0 w:=by
 obtain ⟨v,hr,rfl⟩:=hx
 unfold cellAt at hr
 subst ht
 simpa [results,h,Result.andThen] using hr
variable {k0:Int}{ev0:Nat}{ns ars:List ByteArray}{g:Nat}{X:Cx}
theorem c8V{s:Sl}{m:M Unit}(hst:CR k0 ev0 ns ars 25 [rP g,vs s] H g X m uE){σ:St}{F:Frag}(hr:RnF g X σ H F)(ho:Okst k0 ev0 ns ars σ):
  Ct Tryz.prog 11 [rP g,vs s] H [F] (fun v H' Fo=>∃F',v=.agg #[vi (endS (m σ)).1,vi (endS (m σ)).2.1]∧H'=H∧RnF g X (endS (m σ)).2.2 H F'∧Fo=[F']) noQE:=by
 intro w I
 unfold Cv
 refine calls_of_wp_defers Tryz.func11 rfl ?_
 apply wp_seq
 apply wp_region
 refine wk (s:=xV (Instr.alloc 61 true (.tuple #[]))) rfl rfl (by kernel_rfl) ?_
 refine s6 I Tryz.zeroValue61 (cs:=[vi 0,vi 0]) rfl fun ge w1 I1 _=>?_
 apply wp_seq
 apply wp_region
 refine wk (s:=xV (Instr.makeFunc (.func 24) #[] #[rP ge])) rfl rfl (by kernel_rfl) (b6 (a6z _ _ _) ?_)
 refine c5Q (d:={ target:=.fn (.func 24) #[rP ge],args:=#[] }) rfl rfl (by kernel_rfl) ?_
 have fin:∀{H':Hp}{st wr:Int}{F':Frag}{σ':St}{tmps:Array Value}{w':World},endS (m σ)=(st,wr,σ')→H'=H→tmps.getD 4 undef=rP ge→RnF g X σ' H F'→Inv w (inF [F]) H H [bx ge 61 [vi st,vi wr],F'] w'→
   ∃v,(results Tryz.f11 tmps).run Tryz.prog w'=.ok v w'∧∃H' Fo,Inv w (inF [F]) H H' Fo w'∧∃F',v=.agg #[vi (endS (m σ)).1,vi (endS (m σ)).2.1]∧H'=H∧RnF g X (endS (m σ)).2.2 H F'∧Fo=[F']:=fun{H'}{st}{wr}{F'}{σ'}{tmps}{w'} e _ ht hr J=>by
  rw [e]
  exact ⟨_,b9F rfl ht (b1B (vs:=[vi st,vi wr]) Tryz.isAgg61 Tryz.sizeOf61 rfl (J.at1 (o:=0) (nb rfl) rfl) rfl),_,_,J.drop,F',rfl,rfl,hr,rfl⟩
 apply wp_seq
 apply wp_region
 refine wk (s:=pure (.value (rP g))) rfl rfl (by kernel_rfl) (b6 (a8W _) ?_)
 refine wk (s:=pure (.value (vs s))) rfl rfl (by kernel_rfl) (b6 (a8W _) ?_)
 refine wk (s:=xCall (.func (.func 25) #[] #[]) [rP g,vs s]) rfl rfl (by kernel_rfl) ?_
 refine q9 (cap:=[]) (fun args w=>Tryz.call25 args w) ?_
 refine hst.use hr ho (I1.bring 1) (fun a σ' F' w' e hr' J=>?_) fun st wr σ' F' w' e hr' J=>?_
 ·apply wp_seq
  apply wp_region
  refine wk (s:=xV (Instr.build 61 #[(0,vi 2)])) rfl rfl (by kernel_rfl) (b6 (v:=.agg #[vi 2,vi 0]) (Pu.ok fun w=>by kernel_rfl) ?_)
  refine wk (s:=xU (Instr.storeAt 61 (rP ge) (.agg #[vi 2,vi 0]))) rfl rfl (by kernel_rfl) ?_
  refine E8 (J.bring 1) Tryz.sizeOf61 (vs:=[vi 2,vi 0]) (cs':=[vi 2,vi 0]) rfl rfl (nb rfl) rfl rfl fun w3 I3 _=>?_
  refine wp_ret ?_
  refine leaves_cons (f:=24) (args:=#[rP ge]) (fun h=>by cases h) (Tryz.call24 _ w3) ?_
  refine (c4s ge w3).mono fun e1 u' w4 q=>?_
  obtain ⟨rfl,rfl,rfl⟩:=q
  exact fin (by rw [e];rfl) rfl (by kernel_rfl) hr' I3
 ·refine leaves_cons (f:=24) (args:=#[rP ge]) (fun h=>by cases h) (Tryz.call24 _ w') ?_
  refine (c4t ge st wr w' _ _ _ _ (J.bring 1)).mono fun e1 u' w4 q=>?_
  obtain ⟨rfl,rfl,J4⟩:=q
  exact fin (by rw [e];rfl) rfl (by kernel_rfl) hr' J4
end
theorem d2o{α:Type}{a b:List α}(h:∀f:List α→Nat,f []=0→(∀x y,f (x++y)=f x+f y)→f a=f b):a.Perm b:=by
 classical
 refine List.perm_iff_count.2 fun x=>?_
 exact h (fun l=>List.count x l) (by simp) (fun a b=>by simp [List.count_append])
theorem Inv.re{w0 w:World}{ps:Nat→Prop}{H0 H:Hp}{Fs Gs:List Frag}(D:Frag)(I:Inv w0 ps H0 H Fs w)(h:∀f:Frag→Nat,f []=0→(∀x y,f (x++y)=f x+f y)→f (D::Gs).flatten=f Fs.flatten):Inv w0 ps H0 H Gs w:=(I.perm (Gs:=D::Gs) (d2o h)).drop
abbrev mB(g:Nat)(es:Array MapEntry)(c:Nat):Frag:=[(g,.map es c)]
abbrev pB(g:Nat)(p:z8):Frag:=bx g 25 (v7 p)
abbrev oB(g:Nat)(o:f7):Frag:=bx g 32 (q7 o)
theorem b5z{ν:Type}(k:ByteArray)(v:ν):∀l:List (ByteArray×ν),k ∉ l.map (·.1)→T7 k v l=l++[(k,v)]
 | [],_=>rfl
 | p::r,h=>by
  rw [List.map_cons,List.mem_cons,not_or] at h
  rw [T7,if_neg h.1,b5z k v r h.2];rfl
theorem b6z{ν:Type}{k:ByteArray}{v:ν}:∀{l:List (ByteArray×ν)}{j:Nat},(l.map (·.1)).Nodup→l[j]? = some (k,v)→lk k l=some v
 | [],_,_,h=>by simp at h
 | p::r,0,_,h=>by
  simp only [List.getElem?_cons_zero,Option.some.injEq] at h
  subst h
  rw [lk,if_pos rfl]
 | p::r,j+1,hn,h=>by
  simp only [List.getElem?_cons_succ] at h
  rw [List.map_cons,List.nodup_cons] at hn
  have hm:k∈r.map (·.1):=List.mem_map.2 ⟨_,List.mem_of_getElem? h,rfl⟩
  have hne:¬k=p.1:=fun e=>hn.1 (by rw [←e];exact hm)
  rw [lk,if_neg hne]
  exact b6z hn.2 h
theorem Boxes.fst{lv:List (ByteArray×Option Addr)}{vs:List (ByteArray×Int)}{F:Frag}(h:Boxes lv vs F):lv.map (·.1)=vs.map (·.1):=by
 induction h with
 | nil=>rfl
 | cons _ ih=>rw [List.map_cons,List.map_cons,ih]
theorem Arrs.fst{la:List (ByteArray×Sl)}{rs:List (ByteArray×List Int)}{F:Frag}(h:Arrs la rs F):la.map (·.1)=rs.map (·.1):=by
 induction h with
 | nil=>rfl
 | cons _ _ ih=>rw [List.map_cons,List.map_cons,ih]
theorem Boxes.snoc{s:ByteArray}{g:Nat}{v:Int}{lv:List (ByteArray×Option Addr)}{vs:List (ByteArray×Int)}{F:Frag}(h:Boxes lv vs F):Boxes (lv++[(s,some ⟨g,0,none⟩)]) (vs++[(s,v)]) (F++bx g 2 [vi v]):=by
 induction h with
 | nil=>exact .cons .nil
 | cons _ ih=>rw [List.append_assoc];exact .cons ih
theorem Arrs.snoc{s:ByteArray}{sl:Sl}{xs:List Int}{la:List (ByteArray×Sl)}{rs:List (ByteArray×List Int)}{F G:Frag}(h:Arrs la rs F)(hr:RowL 2 1 ci sl xs G):Arrs (la++[(s,sl)]) (rs++[(s,xs)]) (F++G):=by
 induction h with
 | nil=>have:=Arrs.cons (s:=s) hr .nil;rw [List.append_nil] at this;exact this
 | cons h1 _ ih=>rw [List.append_assoc];exact .cons h1 ih
theorem Arrs.inners{la:List (ByteArray×Sl)}{rs:List (ByteArray×List Int)}{F:Frag}(h:Arrs la rs F):Inners 2 1 ci (la.map (·.2)) (rs.map (·.2)) F:=by
 induction h with
 | nil=>exact .nil
 | cons h1 _ ih=>exact .cons h1 ih
theorem b7V{ds:List j7}{i:Nat}{d:j7}(h:ds[i]? = some d):vD (ds.take (i+1))=vD (ds.take i)++(if 0 < d.C1 then [] else [(d.f8,0)]):=by
 rw [L0 h]
 unfold vD
 rw [List.filter_append,List.map_append]
 by_cases c:0 < d.C1<;>simp [c]
theorem b7W{ds:List j7}{i:Nat}{d:j7}(h:ds[i]? = some d):aD (ds.take (i+1))=aD (ds.take i)++(if 0 < d.C1 then [(d.f8,List.replicate d.C1.toNat 0)] else []):=by
 rw [L0 h]
 unfold aD
 rw [List.filter_append,List.map_append]
 by_cases c:0 < d.C1<;>simp [c]
theorem c5R(ds:List j7)(i:Nat):vD ds=vD (ds.take i)++vD (ds.drop i):=by
 unfold vD
 rw [←List.map_append,← List.filter_append,List.take_append_drop]
theorem c5S(ds:List j7)(i:Nat):aD ds=aD (ds.take i)++aD (ds.drop i):=by
 unfold aD
 rw [←List.map_append,← List.filter_append,List.take_append_drop]
theorem d2p(ds:List j7):∀s∈(vD ds).map (·.1),s∈ds.map (·.f8):=by
 intro s hs
 unfold vD at hs
 rw [List.map_map] at hs
 obtain ⟨d,hd,rfl⟩:=List.mem_map.1 hs
 exact List.mem_map.2 ⟨d,(List.mem_filter.1 hd).1,rfl⟩
theorem d2q(ds:List j7):∀s∈(aD ds).map (·.1),s∈ds.map (·.f8):=by
 intro s hs
 unfold aD at hs
 rw [List.map_map] at hs
 obtain ⟨d,hd,rfl⟩:=List.mem_map.1 hs
 exact List.mem_map.2 ⟨d,(List.mem_filter.1 hd).1,rfl⟩
theorem c5T{ds:List j7}(hn:(ds.map (·.f8)).Nodup){i:Nat}{d:j7}(h:ds[i]? = some d):d.f8 ∉ (ds.take i).map (·.f8):=by
 intro hm
 obtain ⟨d',hd',he⟩:=List.mem_map.1 hm
 obtain ⟨j,hj⟩:=List.mem_iff_getElem?.1 hd'
 have hji:j < i:=by
  have:=C3 hj
  rw [List.length_take] at this
  omega
 rw [List.getElem?_take,if_pos hji] at hj
 have e1:(ds.map (·.f8))[j]? = some d.f8:=by rw [List.getElem?_map,hj,← he];rfl
 have e2:(ds.map (·.f8))[i]? = some d.f8:=by rw [List.getElem?_map,h];rfl
 have:=(List.getElem?_inj (C3 e1) hn).1 (e1.trans e2.symm)
 omega
theorem b7H{ds:List j7}(hn:(ds.map (·.f8)).Nodup):((vD ds).map (·.1)).Nodup∧((aD ds).map (·.1)).Nodup:=by
 unfold vD aD
 rw [List.map_map,List.map_map]
 exact ⟨hn.sublist (List.filter_sublist.map _),hn.sublist (List.filter_sublist.map _)⟩
theorem b9G{k:Int}(hk:k≠0){s:ByteArray}:∀{l:List j7},kOf l s=k→∃d∈l,d.f8=s∧kindD d=k
 | [],h=>(hk h.symm).elim
 | d::r,h=>by
  rw [kOf] at h
  by_cases e:d.f8=s
  ·rw [if_pos e] at h;exact ⟨d,List.mem_cons_self,e,h⟩
  ·rw [if_neg e] at h
   obtain ⟨d',h1,h2⟩:=b9G hk h
   exact ⟨d',List.mem_cons_of_mem _ h1,h2⟩
theorem b7f{q:PP}(h:(wellS q).2=0):Nm ((vD q.decls).map (·.1)) ((aD q.decls).map (·.1)) (uTs q.body):=by
 obtain ⟨_,_,hu⟩:=(a5E q).1 h
 intro u hm
 have:=hu u hm
 unfold asU at this
 constructor
 ·intro hi
  rw [if_pos hi] at this
  obtain ⟨d,h1,h2,h3⟩:=b9G (by decide) this
  have hs:0 < d.C1:=by unfold kindD at h3;split at h3;assumption;cases h3
  rw [←h2]
  unfold aD
  rw [List.map_map]
  exact List.mem_map.2 ⟨d,List.mem_filter.2 ⟨h1,by simpa using hs⟩,rfl⟩
 ·intro hi
  rw [if_neg (by rw [hi];decide)] at this
  obtain ⟨d,h1,h2,h3⟩:=b9G (by decide) this
  have hs:¬0 < d.C1:=by unfold kindD at h3;split at h3;cases h3;assumption
  rw [←h2]
  unfold vD
  rw [List.map_map]
  exact List.mem_map.2 ⟨d,List.mem_filter.2 ⟨h1,by simpa using hs⟩,rfl⟩
theorem c6Z{q:PP}(h:(wellS q).2=0){sc:List Int}(hs:∀x∈sc,o8 x)(n:Nat):Okst n n ((vD q.decls).map (·.1)) ((aD q.decls).map (·.1)) (s0 q.decls sc n):=by
 obtain ⟨_,hd,_⟩:=(a5E q).1 h
 refine ⟨by show (0:Int)+n=n;omega,Int.le_refl 0,by show 0+n≤n;omega,rfl,rfl,?_,?_,hs⟩
 ·intro p hp
  obtain ⟨d,_,rfl⟩:=List.mem_map.1 hp
  show o8 0
  unfold o8;omega
 ·intro p hp
  obtain ⟨d,hd',rfl⟩:=List.mem_map.1 hp
  have:=hd.2.1 d (List.mem_filter.1 hd').1
  refine ⟨by rw [List.length_replicate];omega,fun x hx=>?_⟩
  rw [(List.mem_replicate.1 hx).2]
  unfold o8;omega
def errR(q:PP)(sc:List Int)(k:Int):Int:=if (wellS q).2≠0 then (wellS q).2 else if k < 0∨65536 < k∨65536 < (sc.length:Int) then 80 else 0
def oz:f7:=⟨0,0,0,⟨none,0,0⟩,⟨none,0,0⟩,⟨none,0,0⟩⟩
def Oown(o:f7)(c:Oc)(Fo:List Frag):Prop:=o.P0=c.st∧o.a0f=c.wr∧o.J8=c.steps∧∃Fe Fv Fr,Fo=[Fe,Fv,Fr]∧RowL 87 3 m6 o.K8 c.events Fe∧RowL 2 1 ci o.o9 c.vars Fv∧RowsL 26 2 1 ci o.m8 c.arrs Fr
section
variable {E:Pan}{w0 w:World}{ps:Nat→Prop}{H0 H:Hp}{Fs:List Frag}{F:Frag}{K:Value→World→Prop}
theorem d2r:Tryz.prog.info? 26=some ((Tryz.prog.info? 26).getD default):=by kernel_rfl
theorem d3u{kl kc:IntKind}{n:Int}(I:Inv w0 ps H0 H Fs w)(hn:0≤n)(hb:n*9≤140737488355328)(h:∀(s':Sl)(F':Frag)(w':World),RowL 2 1 ci s' (List.replicate n.toNat 0) F'→Inv w0 ps H0 H (F'::Fs) w'→(∀k,k < w.heap.size→w'.heap[k]? = w.heap[k]?)→K (.slice s'.a s'.n s'.c) w'):opK Tryz.prog E (xV (Instr.makeSlice 26 (.int kl n) (.int kc n))) w K:=
 b5I (bytes:=8) (x0:=(0:Int)) Tryz.underlying26 c1n (z:=(Value.int .i64 0)) (by kernel_rfl) (by kernel_rfl) (by kernel_rfl) rfl I b8X b8Y (by decide) kl kc n hn hb h
theorem d2s{s:Sl}{xs:List Sl}{t2:Sl}{ys:List Sl}{ks:List Bool}{ty:TypeId}(I:Inv w0 ps H0 H (F::Fs) w)(hr:RowL 26 1 csl s xs F)(hs:SrcO w csl t2 ys)(hb:(xs.length+ys.length)*25≤140737488355328)(h:∀(s':Sl)(F':Frag)(w':World),RowL 26 1 csl s' (xs++ys) F'→Inv w0 ps H0 H (F'::Fs) w'→(∀k,k < w.heap.size→(∀p∈F,p.1≠k)→w'.heap[k]? = w.heap[k]?)→K (.slice s'.a s'.n s'.c) w'):opK Tryz.prog E (xBuiltin .append #[30,30] ty ks [.slice s.a s.n s.c,.slice t2.a t2.n t2.c]) w K:=
 a8n (bytes:=24) Tryz.underlying30 d2r (z:=(Value.slice none 0 0)) (by kernel_rfl) (by kernel_rfl) (by kernel_rfl) (by kernel_rfl) I hr hs hb h
theorem d3v(s:Sl)(w:World):(Instr.buildSlice 30 1 #[(0,vs s)]).run Tryz.prog w=.ok (.slice (some ⟨w.heap.size,0,none⟩) 1 1) (w.alloc (.cells (csl s).toArray 26)):=by kernel_rfl
end
end Go.Proofs.YthaaobpfbgcfiaaGreatDoor
