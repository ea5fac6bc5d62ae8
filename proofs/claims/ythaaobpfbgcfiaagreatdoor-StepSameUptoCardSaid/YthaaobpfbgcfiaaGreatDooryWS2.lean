/- Rows: slices that the running call owns (append, make, an element read or written), and frozen ones as lists. No program in sight. -/
import Derived.Test.YthaaobpfbgcfiaaGreatDooryWS1
namespace Go.Proofs.YthaaobpfbgcfiaaGreatDoor
open Go.RowKit
def SlH{α:Type}(H:Hp)(sz:Nat)(c:α→List Value)(s:Sl)(xs:List α):Prop:=s.n=xs.length∧∀(i:Nat)(x:α),xs[i]? = some x→EltH H s i sz (c x)
theorem SlH.le{α:Type}{H H':Hp}{sz:Nat}{c:α→List Value}{s:Sl}{xs:List α}(h:SlH H sz c s xs)(e:Hle H H'):SlH H' sz c s xs:=⟨h.1,fun i x hx=>(h.2 i x hx).le e⟩
theorem SlH.get{α:Type}{H:Hp}{sz:Nat}{c:α→List Value}{s:Sl}{xs:List α}(h:SlH H sz c s xs){i:Int}(h0:0≤i)(h1:i < s.n):∃x,xs[i.toNat]? = some x∧EltH H s i sz (c x):=by
 have hi:i.toNat < xs.length:=by have:=h.1;omega
 refine ⟨xs[i.toNat],List.getElem?_eq_getElem hi,?_⟩
 have:=h.2 i.toNat _ (List.getElem?_eq_getElem hi)
 rwa [Int.toNat_of_nonneg h0] at this
theorem SlH.nil{α:Type}(H:Hp)(sz:Nat)(c:α→List Value):SlH H sz c ⟨none,0,0⟩ ([]:List α):=⟨rfl,fun i x h=>by simp at h⟩
def RowL{α:Type}(e:TypeId)(sz:Nat)(c:α→List Value)(s:Sl)(xs:List α)(F:Frag):Prop:=RowR e sz s (xs.flatMap c) F∧s.n=xs.length∧(∀x,(c x).length=sz)∧∀x,(c x).all (·.oneCell')=true
theorem RowL.nil{α:Type}{e:TypeId}{sz:Nat}{c:α→List Value}(h1:∀x,(c x).length=sz)(h2:∀x,(c x).all (·.oneCell')=true):RowL e sz c ⟨none,0,0⟩ ([]:List α) []:=⟨RowR.nil e sz,rfl,h1,h2⟩
section
variable {α:Type}{c:α→List Value}{sz:Nat}
theorem S6(h:∀x,(c x).length=sz):∀xs:List α,(xs.flatMap c).length=xs.length*sz
 | []=>by simp
 | x::l=>by rw [List.flatMap_cons,List.length_append,h,S6 h l,List.length_cons,Nat.succ_mul,Nat.add_comm]
theorem b3v(h:∀x,(c x).length=sz):∀(xs:List α)(i:Nat)(x:α),xs[i]? = some x→((xs.flatMap c).drop (i*sz)).take sz=c x
 | [],i,x,hx=>by simp at hx
 | y::l,0,x,hx=>by
  simp only [List.getElem?_cons_zero,Option.some.injEq] at hx
  subst hx
  rw [List.flatMap_cons,Nat.zero_mul,List.drop_zero,← h y,List.take_left']
  rfl
 | y::l,i+1,x,hx=>by
  rw [List.flatMap_cons,Nat.succ_mul,Nat.add_comm (i*sz),← List.drop_drop,← h y,List.drop_left,h y]
  exact b3v h l i x (by simpa using hx)
theorem b8j(h:∀x,(c x).length=sz):∀(xs:List α)(i:Nat)(v:α),i < xs.length→(xs.set i v).flatMap c=(xs.flatMap c).take (i*sz)++c v++(xs.flatMap c).drop (i*sz+sz)
 | [],i,v,hi=>by simp at hi
 | y::l,0,v,_=>by
  rw [List.set_cons_zero,List.flatMap_cons,List.flatMap_cons,Nat.zero_mul,List.take_zero,List.nil_append,Nat.zero_add,← h y,List.drop_left]
 | y::l,i+1,v,hi=>by
  rw [List.set_cons_succ,List.flatMap_cons,List.flatMap_cons,b8j h l i v (by simpa using hi),Nat.succ_mul,Nat.add_comm (i*sz),← h y,List.take_length_add_append,Nat.add_assoc,List.drop_length_add_append,Nat.add_comm (c y).length (i*(c y).length)]
  simp only [List.append_assoc]
theorem b8k(h:∀x,(c x).all (·.oneCell')=true)(xs:List α):∀v∈xs.flatMap c,v.oneCell'=true:=by
 intro v hv
 obtain ⟨x,_,hx⟩:=List.mem_flatMap.1 hv
 exact List.all_eq_true.1 (h x) v hx
end
section
variable {P:Program}{E:Pan}{w0 w:World}{ps:Nat→Prop}{H0 H:Hp}{Fs:List Frag}{K:Value→World→Prop}{α:Type}{c:α→List Value}{e:TypeId}{sz:Nat}{s:Sl}{xs:List α}{F:Frag}
theorem RowL.frozen(h:RowL e sz c s xs F)(h0:0 < sz)(hF:∀p∈F,H p.1=some p.2):SlH H sz c s xs:=by
 obtain ⟨h1,h2,h3,h4⟩:=h
 refine ⟨h2,fun i x hx=>?_⟩
 have hi:i < xs.length:=(List.getElem?_eq_some_iff.1 hx).1
 have hl:=S6 h3 xs
 have hm:i*sz+sz≤xs.length*sz:=by rw [←Nat.succ_mul];exact Nat.mul_le_mul_right sz hi
 refine RowR.elt h1 hF (by omega) ?_ ?_ ?_
 ·rw [h3,hl,Int.toNat_natCast];exact hm
 ·intro hc
  have:=h3 x
  rw [hc] at this
  simp at this
  omega
 ·rw [h3,Int.toNat_natCast]
  exact b3v h3 xs i x hx
theorem Inv.freezeL(I:Inv w0 ps H0 H (F::Fs) w)(h:RowL e sz c s xs F)(h0:0 < sz):∃H',Inv w0 ps H0 H' Fs w∧Hle H H'∧SlH H' sz c s xs:=
 ⟨_,I.freeze.1,I.freeze.2.1,h.frozen h0 I.freeze.2.2⟩
theorem a3S{t ty:TypeId}(hu:P.underlying t=some (.slice e))(h:RowL e sz c s xs F):Pu P (xBuiltin .len #[t] ty [false] [.slice s.a s.n s.c]) (.int .i64 (xs.length:Int)):=by
 rw [←h.2.1]
 exact O9 hu _ _ _
def SrcW(w:World)(c:α→List Value)(t:Sl)(ys:List α):Prop:=t.n=ys.length∧∃a,t.a=some a∧∀j v,(ys.flatMap c)[j]? = some v→w.cell? (a.add j)=some v
theorem RowL.src{w':World}(I:Inv w0 ps H0 H (F::Fs) w)(h:RowL e sz c s xs F)(hn:xs≠[])(hw:∀p∈F,w'.heap[p.1]? = w.heap[p.1]?):SrcW w' c s xs:=by
 obtain ⟨⟨h1,h2⟩,h3,h4,h5⟩:=h
 refine ⟨h3,?_⟩
 rcases h2 with ⟨rfl,_⟩ | ⟨g,arr,ha,rfl,_,_,hsz,htk⟩
 ·exact (hn (List.length_eq_zero_iff.1 h3.symm)).elim
 ·refine ⟨_,ha,fun j v hj=>?_⟩
  rw [a3R,b2g ((hw _ (List.mem_singleton_self _)).trans I.hp1),Nat.zero_add]
  rw [←htk,List.getElem?_take] at hj
  split at hj
  ·simpa using hj
  ·cases hj
theorem c1l{t ty:TypeId}{i:TypeInfo}{z:Value}{bytes:Nat}(ht:P.underlying t=some (.slice e))(hi:P.info? e=some i)(hz:i.zero=some z)(hsize:i.size=sz)(hby:i.bytes=bytes)(hzs:z.cells.size=sz)
  (I:Inv w0 ps H0 H (F::Fs) w) (hr:RowL e sz c s xs F) {t2:Sl} {ys:List α} (hs:SrcW w c t2 ys) (hy:ys≠[]) (hb:(xs.length+ys.length)*(bytes+1)≤140737488355328):
  ∃(s':Sl)(F':Frag)(w':World),(Builtin.append_ #[t,t] ty #[.slice s.a s.n s.c,.slice t2.a t2.n t2.c]).run P w=.ok (.slice s'.a s'.n s'.c) w'∧RowL e sz c s' (xs++ys) F'∧Inv w0 ps H0 H (F'::Fs) w'∧∀k,k < w.heap.size→(∀p∈F,p.1≠k)→w'.heap[k]? = w.heap[k]?:=by
 subst hsize
 subst hby
 obtain ⟨hR,hn,hc,h1⟩:=hr
 obtain ⟨hm,a,ha,hcell⟩:=hs
 have hyl:0 < ys.length:=List.length_pos_iff.2 hy
 have e1:=S6 hc xs
 have e2:=S6 hc ys
 have hmax:xs.length+ys.length≤140737488355328:=Nat.le_trans (Nat.le_mul_of_pos_right _ (Nat.succ_pos _)) hb
 have hb':(xs.length+ys.length)*i.bytes≤140737488355328:=Nat.le_trans (Nat.mul_le_mul_left _ (Nat.le_succ _)) hb
 have hml:xs.length+ys.length≤maxLen:=by simp only [maxLen];omega
 have flat:(xs++ys).flatMap c=xs.flatMap c++ys.flatMap c:=List.flatMap_append
 rw [ha,hm,hn]
 have fresh:∀old,old < xs.length+ys.length→RowL e i.size c ⟨some ⟨w.heap.size,0,none⟩,xs.length+ys.length,grownCap w (xs.length+ys.length) old e⟩ (xs++ys)
   [(w.heap.size,.cells ((xs.flatMap c).toArray++(ys.flatMap c).toArray++Builtin.zeroCells z.cells (grownCap w (xs.length+ys.length) old e-(xs.length+ys.length))) e (0,0))]:=by
  intro old ho
  have hge:=grownCap_ge w (xs.length+ys.length) old e
  refine ⟨⟨by rw [S6 hc,List.length_append],.inr ⟨_,_,rfl,rfl,hge,grownCap_le_maxLen w _ old e hml,?_,?_⟩⟩,by simp,hc,h1⟩
  ·simp only [Array.size_append,List.size_toArray,size_zeroCells,hzs,e1,e2,← Nat.add_mul]
   congr 1
   omega
  ·simp only [Array.toList_append,List.append_assoc]
   rw [←List.append_assoc,← flat,show (xs.length+ys.length)*i.size=((xs++ys).flatMap c).length by rw [S6 hc,List.length_append]]
   exact List.take_left
 obtain ⟨hl,hR⟩:=hR
 rcases hR with ⟨rfl,rfl⟩ | ⟨g,arr,hsa,rfl,h3,h4,h5,h6⟩
 ·have hx:xs=[]:=List.length_eq_zero_iff.1 hn.symm
  subst hx
  have hr:=run_append_nil (P:=P) w t ty e i z ht hi hz a ys.length t2.c (ys.flatMap c) e2 hcell hyl (by omega) (by simp only [List.length_nil,Nat.zero_add] at hb';omega)
  have hf:=fresh 0 (by simp;omega)
  simp only [List.flatMap_nil,List.length_nil,Nat.zero_add,List.nil_append,Array.empty_append] at hf
  refine ⟨_,_,_,hr,hf,(I.drop.drawn (w.drawn+1)).alloc _,fun k hk _=>?_⟩
  exact Below.heap_alloc w.drew _ k hk
 ·rw [hsa]
  have hn':s.n=xs.length:=hn
  by_cases hroom:xs.length+ys.length≤s.c
  ·have hfit:xs.length*i.size+(ys.flatMap c).length≤arr.size:=by rw [e2,h5,← Nat.add_mul];exact Nat.mul_le_mul_right _ hroom
   have hr:=run_append_room (P:=P) w t ty e i ht hi g xs.length s.c arr I.hp1 a ys.length t2.c (ys.flatMap c) e2 hcell (b8k h1 ys) hroom hfit
   refine ⟨⟨some ⟨g,0,none⟩,xs.length+ys.length,s.c⟩,_,_,hr,⟨⟨by rw [S6 hc,List.length_append],.inr ⟨g,_,rfl,rfl,hroom,h4,?_,?_⟩⟩,by simp,hc,h1⟩,I.setRow,fun k _ hk=>setRow_other w g k _ fun eq=>hk (g,.cells arr e (0,0)) (List.mem_singleton_self _) eq.symm⟩
   ·simp only [List.size_toArray,List.length_append,List.length_take,List.length_drop,Array.length_toList]
    omega
   ·rw [hn'] at h6
    simp only []
    rw [h6,← flat,show (xs.length+ys.length)*i.size=((xs++ys).flatMap c).length by rw [S6 hc,List.length_append]]
    exact List.take_left
  ·have holds:∀j v,(xs.flatMap c)[j]? = some v→w.cell? ((⟨g,0,none⟩:Addr).add j)=some v:=fun j v hj=>by
    rw [a3R,b2g I.hp1,Nat.zero_add]
    rw [←h6,List.getElem?_take] at hj
    split at hj
    ·simpa using hj
    ·cases hj
   have hr:=run_append_grow (P:=P) w t ty e i z ht hi hz ⟨g,0,none⟩ xs.length s.c (xs.flatMap c) e1 holds a ys.length t2.c (ys.flatMap c) e2 hcell (by omega) (by omega) (growslice_fits (by omega) hb')
   refine ⟨_,_,_,hr,fresh s.c (by omega),(I.drop.drawn (w.drawn+1)).alloc _,fun k hk _=>?_⟩
   exact Below.heap_alloc w.drew _ k hk
theorem b9N{t ty:TypeId}{i:TypeInfo}(ht:P.underlying t=some (.slice e))(hi:P.info? e=some i)(hr:RowL e sz c s xs F)(a2:Option Addr)(c2:Nat):
  (Builtin.append_ #[t,t] ty #[.slice s.a s.n s.c,.slice a2 0 c2]).run P w=.ok (.slice s.a s.n s.c) w:=by
 have hle:s.n≤s.c:=by
  rcases hr.1.2 with ⟨rfl,_⟩ | ⟨g,arr,_,_,h,_⟩
  ·exact Nat.le_refl _
  ·exact h
 cases ha:s.a<;>cases a2<;>simp [Builtin.append_,run_underlying ht,sizeOf,typeInfo,hi,Builtin.lenOf,Builtin.firstCells,loadCells,loadCellsFrom,storeCells,hle]
def SrcO(w:World)(c:α→List Value)(t:Sl)(ys:List α):Prop:=t.n=ys.length∧(ys≠[]→SrcW w c t ys)
theorem a8n{t ty:TypeId}{ks:List Bool}{i:TypeInfo}{z:Value}{bytes:Nat}(ht:P.underlying t=some (.slice e))(hi:P.info? e=some i)(hz:i.zero=some z)(hsize:i.size=sz)(hby:i.bytes=bytes)(hzs:z.cells.size=sz)
  (I:Inv w0 ps H0 H (F::Fs) w) (hr:RowL e sz c s xs F) {t2:Sl} {ys:List α} (hs:SrcO w c t2 ys) (hb:(xs.length+ys.length)*(bytes+1)≤140737488355328)
  (h:∀(s':Sl)(F':Frag)(w':World),RowL e sz c s' (xs++ys) F'→Inv w0 ps H0 H (F'::Fs) w'→(∀k,k < w.heap.size→(∀p∈F,p.1≠k)→w'.heap[k]? = w.heap[k]?)→K (.slice s'.a s'.n s'.c) w'):
  opK P E (xBuiltin .append #[t,t] ty ks [.slice s.a s.n s.c,.slice t2.a t2.n t2.c]) w K:=by
 have hx:xBuiltin .append #[t,t] ty ks [.slice s.a s.n s.c,.slice t2.a t2.n t2.c]=xV (Builtin.append_ #[t,t] ty #[.slice s.a s.n s.c,.slice t2.a t2.n t2.c]):=rfl
 rw [hx]
 by_cases hy:ys=[]
 ·subst hy
  have h0:t2.n=0:=hs.1
  have hrun:=b9N (P:=P) (w:=w) (ty:=ty) ht hi hr t2.a t2.c
  rw [←h0] at hrun
  refine a0J hrun (h s F w ?_ I fun _ _ _=>rfl)
  rw [List.append_nil]
  exact hr
 ·obtain ⟨s',F',w',h1,h2,h3,h4⟩:=c1l (ty:=ty) ht hi hz hsize hby hzs I hr (hs.2 hy) hy hb
  exact a0J h1 (h s' F' w' h2 h3 h4)
theorem SlH.src(I:Inv w0 ps H0 H Fs w){t:Sl}{ys:List α}(h:SlH H sz c t ys)(hc:∀x,(c x).length=sz):SrcO w c t ys:=by
 refine ⟨h.1,fun hy=>⟨h.1,?_⟩⟩
 obtain ⟨y,l,rfl⟩:=List.exists_cons_of_ne_nil hy
 obtain ⟨g,o,ha,_⟩:=h.2 0 y rfl
 refine ⟨_,ha,?_⟩
 have all:∀(zs:List α)(k:Nat),(∀(i:Nat)(x:α),zs[i]? = some x→AtW w g (o+(k+i)*sz) (c x))→∀j v,(zs.flatMap c)[j]? = some v→w.cell? ⟨g,o+k*sz+j,none⟩=some v:=by
  intro zs
  induction zs with
  | nil=>intro k _ j v hj;simp at hj
  | cons z zs ih=>
   intro k hz j v hj
   rw [List.flatMap_cons] at hj
   by_cases hlt:j < sz
   ·rw [List.getElem?_append_left (by rw [hc];exact hlt)] at hj
    have:=(hz 0 z rfl).get hj
    rwa [Nat.add_zero] at this
   ·rw [List.getElem?_append_right (by rw [hc];omega),hc] at hj
    have:=ih (k+1) (fun i x hx=>by
     have:=hz (i+1) x (by simpa using hx)
     rwa [show k+(i+1)=k+1+i by omega] at this) _ _ hj
    rwa [show o+(k+1)*sz+(j-sz)=o+k*sz+j by rw [Nat.succ_mul];omega] at this
 intro j v hj
 have:=all (y::l) 0 (fun i x hx=>by
  obtain ⟨g',o',ha',hx'⟩:=h.2 i x hx
  rw [ha] at ha'
  cases ha'
  rw [Int.toNat_natCast] at hx'
  rw [Nat.zero_add]
  exact I.atH hx') j v hj
 rw [a3R]
 rwa [Nat.zero_mul,Nat.add_zero] at this
theorem RowL.srcO{F2:Frag}(I:Inv w0 ps H0 H (F2::Fs) w){t:Sl}{ys:List α}(h:RowL e sz c t ys F2):SrcO w c t ys:=⟨h.2.1,fun hy=>h.src I hy fun _ _=>rfl⟩
theorem Y1{t:TypeId}{n:Nat}{parts:Array (Nat×Value)}{cs:List Value}(I:Inv w0 ps H0 H Fs w)(hrun:∀w:World,(Instr.buildSlice t n parts).run P w=.ok (.slice (some ⟨w.heap.size,0,none⟩) n n) (w.alloc (.cells cs.toArray e)))
  (hn:n=xs.length) (hcs:xs.flatMap c=cs) (hc:∀x,(c x).length=sz) (h1:∀x,(c x).all (·.oneCell')=true) (hm:n≤maxLen)
  (h:∀(s':Sl)(F':Frag)(w':World),RowL e sz c s' xs F'→Inv w0 ps H0 H (F'::Fs) w'→(∀k,k < w.heap.size→w'.heap[k]? = w.heap[k]?)→K (.slice s'.a s'.n s'.c) w'):
  opK P E (xV (Instr.buildSlice t n parts)) w K:=by
 subst hn
 subst hcs
 have e1:=S6 hc xs
 refine a0J (hrun w) (h ⟨some ⟨w.heap.size,0,none⟩,xs.length,xs.length⟩ _ _ ⟨⟨e1,.inr ⟨_,_,rfl,rfl,Nat.le_refl _,hm,by simp [e1],?_⟩⟩,rfl,hc,h1⟩ (I.alloc _) fun k hk=>Below.heap_alloc w _ k hk)
 simp only []
 rw [←e1]
 exact List.take_length
theorem b7l{z:Value}{x0:α}(hz:z.cells=(c x0).toArray)(hc:∀x,(c x).length=sz)(h0:0 < sz):∀n:Nat,(madeCells z.cells (n*sz)).toList=(List.replicate n x0).flatMap c:=by
 intro n
 refine List.ext_getElem? fun j=>?_
 have hlz:z.cells.size=sz:=by rw [hz,List.size_toArray,hc]
 have main:∀n j,((List.replicate n x0).flatMap c)[j]? = if j < n*sz then (c x0)[j % sz]? else none:=by
  intro n
  induction n with
  | zero=>intro j;simp
  | succ n ih=>
   intro j
   rw [List.replicate_succ,List.flatMap_cons]
   by_cases hj:j < sz
   ·rw [List.getElem?_append_left (by rw [hc];exact hj),Nat.mod_eq_of_lt hj,if_pos (by rw [Nat.succ_mul];omega)]
   ·rw [List.getElem?_append_right (by rw [hc];omega),hc,ih,← Nat.mod_eq_sub_mod (by omega)]
    have:(j-sz < n*sz)=(j < (n+1)*sz):=by rw [Nat.succ_mul];exact propext ⟨fun h=>by omega,fun h=>by omega⟩
    simp only [this]
 rw [main]
 simp only [madeCells,Array.toList_map,Array.toList_range,List.getElem?_map]
 by_cases hj:j < n*sz
 ·rw [List.getElem?_range hj,if_pos hj,Option.map_some,hlz]
  have hm:j % sz < (c x0).length:=by rw [hc];exact Nat.mod_lt _ h0
  rw [hz,List.getElem?_eq_getElem hm]
  simp [hm]
 ·rw [if_neg hj,List.getElem?_eq_none (by simpa using hj)]
  rfl
theorem b5I{t:TypeId}{i:TypeInfo}{z:Value}{bytes:Nat}{x0:α}(ht:P.underlying t=some (.slice e))(hi:P.info? e=some i)(hz:i.zero=some z)(hsize:i.size=sz)(hby:i.bytes=bytes)(hzc:z.cells=(c x0).toArray)
  (I:Inv w0 ps H0 H Fs w) (hc:∀x,(c x).length=sz) (h1:∀x,(c x).all (·.oneCell')=true) (h0:0 < sz) (kl kc:IntKind) (n:Int) (hn0:0≤n) (hb:n*(bytes+1)≤140737488355328)
  (h:∀(s':Sl)(F':Frag)(w':World),RowL e sz c s' (List.replicate n.toNat x0) F'→Inv w0 ps H0 H (F'::Fs) w'→(∀k,k < w.heap.size→w'.heap[k]? = w.heap[k]?)→K (.slice s'.a s'.n s'.c) w'):
  opK P E (xV (Instr.makeSlice t (.int kl n) (.int kc n))) w K:=by
 subst hsize
 subst hby
 have hnn:((n.toNat:Nat):Int)=n:=Int.toNat_of_nonneg hn0
 have hb1:n≤n*((i.bytes:Int)+1):=by
  have:n*1≤n*((i.bytes:Int)+1):=Int.mul_le_mul_of_nonneg_left (by omega) hn0
  rwa [Int.mul_one] at this
 have hb2:(i.bytes:Int)*n≤281474976710656:=by
  have:n*((i.bytes:Int)+1)=(i.bytes:Int)*n+n:=by rw [Int.mul_add,Int.mul_one,Int.mul_comm]
  omega
 have hrun:=run_make (P:=P) w t e i z ht hi hz kl kc n n hn0 (Int.le_refl _) hb2 (by omega)
 refine a0J hrun (h ⟨some ⟨w.heap.size,0,none⟩,n.toNat,n.toNat⟩ _ _ ⟨⟨by rw [S6 hc,List.length_replicate],.inr ⟨_,_,rfl,rfl,Nat.le_refl _,?_,size_madeCells _ _,?_⟩⟩,by simp,hc,h1⟩ (I.alloc _) fun k hk=>Below.heap_alloc w _ k hk)
 ·simp only [maxLen]
  omega
 ·simp only []
  rw [b7l hzc hc h0]
  have:n.toNat*i.size=((List.replicate n.toNat x0).flatMap c).length:=by rw [S6 hc,List.length_replicate]
  rw [this]
  exact List.take_length
theorem RowL.addr(h:RowL e sz c s xs F){i:Nat}{x:α}(hx:xs[i]? = some x):∃g arr,s.a=some ⟨g,0,none⟩∧F=[(g,.cells arr e (0,0))]:=by
 obtain ⟨⟨h1,h2⟩,h3,_⟩:=h
 have hi:i < xs.length:=(List.getElem?_eq_some_iff.1 hx).1
 rcases h2 with ⟨rfl,_⟩ | ⟨g,arr,ha,hF,_⟩
 ·simp only at h3;omega
 ·exact ⟨g,arr,ha,hF⟩
theorem RowL.atW(I:Inv w0 ps H0 H (F::Fs) w)(h:RowL e sz c s xs F){g:Nat}(ha:s.a=some ⟨g,0,none⟩){i:Nat}{x:α}(hx:xs[i]? = some x):AtW w g (0+i*sz) (c x):=by
 obtain ⟨⟨h1,h2⟩,h3,h4,_⟩:=h
 have hi:i < xs.length:=(List.getElem?_eq_some_iff.1 hx).1
 rcases h2 with ⟨rfl,_⟩ | ⟨g',arr,ha',rfl,q1,q2,q3,q4⟩
 ·cases ha
 ·rw [ha] at ha'
  cases ha'
  rw [Nat.zero_add]
  refine RowR.at_ (s:=s) ⟨h1,.inr ⟨g,arr,ha,rfl,q1,q2,q3,q4⟩⟩ I rfl q4 ?_ ?_
  ·rw [h4,S6 h4,← Nat.succ_mul]
   exact Nat.mul_le_mul_right sz hi
  ·rw [h4]
   exact b3v h4 xs i x hx
theorem b9O{β:Type}{L v:List β}{a k N:Nat}(h:a+k≤N)(hN:N≤L.length)(hv:v.length=k):(L.take a++v++L.drop (a+k)).take N=(L.take N).take a++v++(L.take N).drop (a+k):=by
 have hl:(L.take a++v).length=a+k:=by simp only [List.length_append,List.length_take,hv];omega
 rw [List.take_append,hl,List.take_of_length_le (by omega),List.drop_take,List.take_take,Nat.min_eq_left (by omega)]
theorem a1p{t:TypeId}{v:Value}{x:α}(I:Inv w0 ps H0 H (F::Fs) w)(h:RowL e sz c s xs F){g:Nat}(ha:s.a=some ⟨g,0,none⟩){i:Nat}(hi:i < xs.length)(hs:∀w,(sizeOf t).run P w=.ok sz w)(hv:v.cells=(c x).toArray)
  (hk:∀(F':Frag)(w':World),RowL e sz c s (xs.set i x) F'→Inv w0 ps H0 H (F'::Fs) w'→(∀k,(∀p∈F,p.1≠k)→w'.heap[k]? = w.heap[k]?)→K undef w'):opK P E (xU (Instr.storeAt t (.pointer (some ⟨g,0+i*sz,none⟩)) v)) w K:=by
 obtain ⟨⟨h1,h2⟩,h3,h4,h5⟩:=h
 rcases h2 with ⟨rfl,_⟩ | ⟨g',arr,ha',rfl,q1,q2,q3,q4⟩
 ·cases ha
 ·rw [ha] at ha'
  cases ha'
  have e1:=S6 h4 xs
  have hm:i*sz+sz≤xs.length*sz:=by rw [←Nat.succ_mul];exact Nat.mul_le_mul_right sz hi
  have hle:xs.length*sz≤arr.size:=by
   have:=congrArg List.length q4
   simp only [List.length_take,Array.length_toList] at this
   omega
  have I':Inv w0 ps H0 H ([(g,.cells arr.toList.toArray e (0,0))]::Fs) w:=by rw [Array.toArray_toList];exact I
  refine E8 (cs:=arr.toList) I' hs (vs:=c x) hv (h4 x) (by rw [Nat.zero_add,Array.length_toList];omega) (h5 x) rfl fun w' J hw=>?_
  refine hk _ w' ⟨⟨by rw [S6 h4,List.length_set,h3],.inr ⟨g,_,ha,rfl,q1,q2,?_,?_⟩⟩,by rw [List.length_set];exact h3,h4,h5⟩ J fun k hkk=>hw k fun eq=>hkk (g,.cells arr e (0,0)) (List.mem_singleton_self _) eq.symm
  ·simp only [List.size_toArray,List.length_append,List.length_take,List.length_drop,h4,Nat.zero_add,Array.length_toList]
   omega
  ·rw [b8j h4 xs i x hi,← q4,h3,Nat.zero_add,h4]
   exact b9O hm (by rw [Array.length_toList];exact hle) (h4 x)
theorem RowL.lt(h:RowL e sz c s xs F){i:Int}{x:α}(h0:0≤i)(hx:xs[i.toNat]? = some x):i < (s.n:Int):=by
 have hi:=(List.getElem?_eq_some_iff.1 hx).1
 have:=h.2.1
 omega
theorem Inv.b8l{g:Nat}{o:Obj}{F':Frag}(I:Inv w0 ps H0 H (F::((g,o)::F')::Fs) w):∀p∈F,p.1≠g:=fun p hp eq=>
 Inv.E1 (Fi:=[F]) (Fr:=Fs) I ⟨p,by simpa using hp,eq⟩
end
end Go.Proofs.YthaaobpfbgcfiaaGreatDoor
