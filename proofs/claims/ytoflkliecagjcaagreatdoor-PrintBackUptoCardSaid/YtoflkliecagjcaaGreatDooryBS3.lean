/- Rows: slices that the running call owns (append, make, an element read or written), and frozen ones as lists. No program in sight. -/
import Derived.Test.YtoflkliecagjcaaGreatDooryBS1
namespace Go.Proofs.YtoflkliecagjcaaGreatDoor
open Go.RowKit
def SlH{α:Type}(H:Hp)(sz:Nat)(c:α→List Value)(s:Sl)(xs:List α):Prop:=s.n=xs.length∧∀(i:Nat)(x:α),xs[i]? = some x→EltH H s i sz (c x)
theorem SlH.le{α:Type}{H H':Hp}{sz:Nat}{c:α→List Value}{s:Sl}{xs:List α}(h:SlH H sz c s xs)(e:Hle H H'):SlH H' sz c s xs:=⟨h.1,fun i x hx=>(h.2 i x hx).le e⟩
theorem SlH.get{α:Type}{H:Hp}{sz:Nat}{c:α→List Value}{s:Sl}{xs:List α}(h:SlH H sz c s xs){i:Int}(h0:0≤i)(h1:i < s.n):∃x,xs[i.toNat]? = some x∧EltH H s i sz (c x):=by
 have hi:i.toNat < xs.length:=by have:=h.1;omega
 refine ⟨xs[i.toNat],List.getElem?_eq_getElem hi,?_⟩
 have:=h.2 i.toNat _ (List.getElem?_eq_getElem hi)
 rwa [Int.toNat_of_nonneg h0] at this
theorem SlH.nil{α:Type}(H:Hp)(sz:Nat)(c:α→List Value):SlH H sz c ⟨none,0,0⟩ ([]:List α):=⟨rfl,fun i x h=>by simp at h⟩
def RowL{α:Type}(e:TypeId)(sz:Nat)(c:α→List Value)(s:Sl)(xs:List α)(F:Frag):Prop:=RowR e sz s (xs.flatMap c) F∧s.n=xs.length∧(∀x,(c x).length=sz)∧∀x,(c x).all (·.oneCell')=true
theorem RowL.nil{α:Type}{e:TypeId}{sz:Nat}{c:α→List Value}(h1:∀x,(c x).length=sz)(h2:∀x,(c x).all (·.oneCell')=true):RowL e sz c ⟨none,0,0⟩ ([]:List α) []:=⟨RowR.nil e sz,rfl,h1,h2⟩
section
variable {α:Type}{c:α→List Value}{sz:Nat}
theorem a1L(h:∀x,(c x).length=sz):∀xs:List α,(xs.flatMap c).length=xs.length*sz
 | []=>by simp
 | x::l=>by rw [List.flatMap_cons,List.length_append,h,a1L h l,List.length_cons,Nat.succ_mul,Nat.add_comm]
theorem b2f(h:∀x,(c x).length=sz):∀(xs:List α)(i:Nat)(x:α),xs[i]? = some x→((xs.flatMap c).drop (i*sz)).take sz=c x
 | [],i,x,hx=>by simp at hx
 | y::l,0,x,hx=>by
  simp only [List.getElem?_cons_zero,Option.some.injEq] at hx
  subst hx
  rw [List.flatMap_cons,Nat.zero_mul,List.drop_zero,← h y,List.take_left']
  rfl
 | y::l,i+1,x,hx=>by
  rw [List.flatMap_cons,Nat.succ_mul,Nat.add_comm (i*sz),← List.drop_drop,← h y,List.drop_left,h y]
  exact b2f h l i x (by simpa using hx)
theorem c5s(h:∀x,(c x).all (·.oneCell')=true)(xs:List α):∀v∈xs.flatMap c,v.oneCell'=true:=by
 intro v hv
 obtain ⟨x,_,hx⟩:=List.mem_flatMap.1 hv
 exact List.all_eq_true.1 (h x) v hx
end
section
variable {P:Program}{E:Pan}{w0 w:World}{ps:Nat→Prop}{H0 H:Hp}{Fs:List Frag}{K:Value→World→Prop}{α:Type}{c:α→List Value}{e:TypeId}{sz:Nat}{s:Sl}{xs:List α}{F:Frag}
theorem RowL.frozen(h:RowL e sz c s xs F)(h0:0 < sz)(hF:∀p∈F,H p.1=some p.2):SlH H sz c s xs:=by
 obtain ⟨h1,h2,h3,h4⟩:=h
 refine ⟨h2,fun i x hx=>?_⟩
 have hi:i < xs.length:=(List.getElem?_eq_some_iff.1 hx).1
 have hl:=a1L h3 xs
 have hm:i*sz+sz≤xs.length*sz:=by rw [←Nat.succ_mul];exact Nat.mul_le_mul_right sz hi
 refine RowR.elt h1 hF (by omega) ?_ ?_ ?_
 ·rw [h3,hl,Int.toNat_natCast];exact hm
 ·intro hc
  have:=h3 x
  rw [hc] at this
  simp at this
  omega
 ·rw [h3,Int.toNat_natCast]
  exact b2f h3 xs i x hx
theorem Inv.freezeL(I:Inv w0 ps H0 H (F::Fs) w)(h:RowL e sz c s xs F)(h0:0 < sz):∃H',Inv w0 ps H0 H' Fs w∧Hle H H'∧SlH H' sz c s xs:=
 ⟨_,I.freeze.1,I.freeze.2.1,h.frozen h0 I.freeze.2.2⟩
theorem a8R{t ty:TypeId}(hu:P.underlying t=some (.slice e))(h:RowL e sz c s xs F):Pu P (xBuiltin .len #[t] ty [false] [.slice s.a s.n s.c]) (.int .i64 (xs.length:Int)):=by
 rw [←h.2.1]
 exact a1t hu _ _ _
def SrcW(w:World)(c:α→List Value)(t:Sl)(ys:List α):Prop:=t.n=ys.length∧∃a,t.a=some a∧∀j v,(ys.flatMap c)[j]? = some v→w.cell? (a.add j)=some v
theorem RowL.src{w':World}(I:Inv w0 ps H0 H (F::Fs) w)(h:RowL e sz c s xs F)(hn:xs≠[])(hw:∀p∈F,w'.heap[p.1]? = w.heap[p.1]?):SrcW w' c s xs:=by
 obtain ⟨⟨h1,h2⟩,h3,h4,h5⟩:=h
 refine ⟨h3,?_⟩
 rcases h2 with ⟨rfl,_⟩ | ⟨g,arr,ha,rfl,_,_,hsz,htk⟩
 ·exact (hn (List.length_eq_zero_iff.1 h3.symm)).elim
 ·refine ⟨_,ha,fun j v hj=>?_⟩
  rw [a2w,a3d ((hw _ (List.mem_singleton_self _)).trans I.hp1),Nat.zero_add]
  rw [←htk,List.getElem?_take] at hj
  split at hj
  ·simpa using hj
  ·cases hj
theorem c1F{t ty:TypeId}{i:TypeInfo}{z:Value}{bytes:Nat}(ht:P.underlying t=some (.slice e))(hi:P.info? e=some i)(hz:i.zero=some z)(hsize:i.size=sz)(hby:i.bytes=bytes)(hzs:z.cells.size=sz)
  (I:Inv w0 ps H0 H (F::Fs) w) (hr:RowL e sz c s xs F) {t2:Sl} {ys:List α} (hs:SrcW w c t2 ys) (hy:ys≠[]) (hb:(xs.length+ys.length)*(bytes+1)≤140737488355328):
  ∃(s':Sl)(F':Frag)(w':World),(Builtin.append_ #[t,t] ty #[.slice s.a s.n s.c,.slice t2.a t2.n t2.c]).run P w=.ok (.slice s'.a s'.n s'.c) w'∧RowL e sz c s' (xs++ys) F'∧Inv w0 ps H0 H (F'::Fs) w'∧∀k,k < w.heap.size→(∀p∈F,p.1≠k)→w'.heap[k]? = w.heap[k]?:=by
 subst hsize
 subst hby
 obtain ⟨hR,hn,hc,h1⟩:=hr
 obtain ⟨hm,a,ha,hcell⟩:=hs
 have hyl:0 < ys.length:=List.length_pos_iff.2 hy
 have e1:=a1L hc xs
 have e2:=a1L hc ys
 have hmax:xs.length+ys.length≤140737488355328:=Nat.le_trans (Nat.le_mul_of_pos_right _ (Nat.succ_pos _)) hb
 have hb':(xs.length+ys.length)*i.bytes≤140737488355328:=Nat.le_trans (Nat.mul_le_mul_left _ (Nat.le_succ _)) hb
 have hml:xs.length+ys.length≤maxLen:=by simp only [maxLen];omega
 have flat:(xs++ys).flatMap c=xs.flatMap c++ys.flatMap c:=List.flatMap_append
 rw [ha,hm,hn]
 have fresh:∀old,old < xs.length+ys.length→RowL e i.size c ⟨some ⟨w.heap.size,0,none⟩,xs.length+ys.length,grownCap w (xs.length+ys.length) old e⟩ (xs++ys)
   [(w.heap.size,.cells ((xs.flatMap c).toArray++(ys.flatMap c).toArray++Builtin.zeroCells z.cells (grownCap w (xs.length+ys.length) old e-(xs.length+ys.length))) e (0,0))]:=by
  intro old ho
  have hge:=grownCap_ge w (xs.length+ys.length) old e
  refine ⟨⟨by rw [a1L hc,List.length_append],.inr ⟨_,_,rfl,rfl,hge,grownCap_le_maxLen w _ old e hml,?_,?_⟩⟩,by simp,hc,h1⟩
  ·simp only [Array.size_append,List.size_toArray,size_zeroCells,hzs,e1,e2,← Nat.add_mul]
   congr 1
   omega
  ·simp only [Array.toList_append,List.append_assoc]
   rw [←List.append_assoc,← flat,show (xs.length+ys.length)*i.size=((xs++ys).flatMap c).length by rw [a1L hc,List.length_append]]
   exact List.take_left
 obtain ⟨hl,hR⟩:=hR
 rcases hR with ⟨rfl,rfl⟩ | ⟨g,arr,hsa,rfl,h3,h4,h5,h6⟩
 ·have hx:xs=[]:=List.length_eq_zero_iff.1 hn.symm
  subst hx
  have hr:=run_append_nil (P:=P) w t ty e i z ht hi hz a ys.length t2.c (ys.flatMap c) e2 hcell hyl (by omega) (by simp only [List.length_nil,Nat.zero_add] at hb';omega)
  have hf:=fresh 0 (by simp;omega)
  simp only [List.flatMap_nil,List.length_nil,Nat.zero_add,List.nil_append,Array.empty_append] at hf
  refine ⟨_,_,_,hr,hf,(I.drop.drawn (w.drawn+1)).alloc _,fun k hk _=>?_⟩
  exact Below.heap_alloc w.drew _ k hk
 ·rw [hsa]
  have hn':s.n=xs.length:=hn
  by_cases hroom:xs.length+ys.length≤s.c
  ·have hfit:xs.length*i.size+(ys.flatMap c).length≤arr.size:=by rw [e2,h5,← Nat.add_mul];exact Nat.mul_le_mul_right _ hroom
   have hr:=run_append_room (P:=P) w t ty e i ht hi g xs.length s.c arr I.hp1 a ys.length t2.c (ys.flatMap c) e2 hcell (c5s h1 ys) hroom hfit
   refine ⟨⟨some ⟨g,0,none⟩,xs.length+ys.length,s.c⟩,_,_,hr,⟨⟨by rw [a1L hc,List.length_append],.inr ⟨g,_,rfl,rfl,hroom,h4,?_,?_⟩⟩,by simp,hc,h1⟩,I.setRow,fun k _ hk=>setRow_other w g k _ fun eq=>hk (g,.cells arr e (0,0)) (List.mem_singleton_self _) eq.symm⟩
   ·simp only [List.size_toArray,List.length_append,List.length_take,List.length_drop,Array.length_toList]
    omega
   ·rw [hn'] at h6
    simp only []
    rw [h6,← flat,show (xs.length+ys.length)*i.size=((xs++ys).flatMap c).length by rw [a1L hc,List.length_append]]
    exact List.take_left
  ·have holds:∀j v,(xs.flatMap c)[j]? = some v→w.cell? ((⟨g,0,none⟩:Addr).add j)=some v:=fun j v hj=>by
    rw [a2w,a3d I.hp1,Nat.zero_add]
    rw [←h6,List.getElem?_take] at hj
    split at hj
    ·simpa using hj
    ·cases hj
   have hr:=run_append_grow (P:=P) w t ty e i z ht hi hz ⟨g,0,none⟩ xs.length s.c (xs.flatMap c) e1 holds a ys.length t2.c (ys.flatMap c) e2 hcell (by omega) (by omega) (growslice_fits (by omega) hb')
   refine ⟨_,_,_,hr,fresh s.c (by omega),(I.drop.drawn (w.drawn+1)).alloc _,fun k hk _=>?_⟩
   exact Below.heap_alloc w.drew _ k hk
theorem b9J{t ty:TypeId}{i:TypeInfo}(ht:P.underlying t=some (.slice e))(hi:P.info? e=some i)(hr:RowL e sz c s xs F)(a2:Option Addr)(c2:Nat):
  (Builtin.append_ #[t,t] ty #[.slice s.a s.n s.c,.slice a2 0 c2]).run P w=.ok (.slice s.a s.n s.c) w:=by
 have hle:s.n≤s.c:=by
  rcases hr.1.2 with ⟨rfl,_⟩ | ⟨g,arr,_,_,h,_⟩
  ·exact Nat.le_refl _
  ·exact h
 cases ha:s.a<;>cases a2<;>simp [Builtin.append_,run_underlying ht,sizeOf,typeInfo,hi,Builtin.lenOf,Builtin.firstCells,loadCells,loadCellsFrom,storeCells,hle]
def SrcO(w:World)(c:α→List Value)(t:Sl)(ys:List α):Prop:=t.n=ys.length∧(ys≠[]→SrcW w c t ys)
theorem b2K{t ty:TypeId}{ks:List Bool}{i:TypeInfo}{z:Value}{bytes:Nat}(ht:P.underlying t=some (.slice e))(hi:P.info? e=some i)(hz:i.zero=some z)(hsize:i.size=sz)(hby:i.bytes=bytes)(hzs:z.cells.size=sz)
  (I:Inv w0 ps H0 H (F::Fs) w) (hr:RowL e sz c s xs F) {t2:Sl} {ys:List α} (hs:SrcO w c t2 ys) (hb:(xs.length+ys.length)*(bytes+1)≤140737488355328)
  (h:∀(s':Sl)(F':Frag)(w':World),RowL e sz c s' (xs++ys) F'→Inv w0 ps H0 H (F'::Fs) w'→(∀k,k < w.heap.size→(∀p∈F,p.1≠k)→w'.heap[k]? = w.heap[k]?)→K (.slice s'.a s'.n s'.c) w'):
  opK P E (xBuiltin .append #[t,t] ty ks [.slice s.a s.n s.c,.slice t2.a t2.n t2.c]) w K:=by
 have hx:xBuiltin .append #[t,t] ty ks [.slice s.a s.n s.c,.slice t2.a t2.n t2.c]=xV (Builtin.append_ #[t,t] ty #[.slice s.a s.n s.c,.slice t2.a t2.n t2.c]):=rfl
 rw [hx]
 by_cases hy:ys=[]
 ·subst hy
  have h0:t2.n=0:=hs.1
  have hrun:=b9J (P:=P) (w:=w) (ty:=ty) ht hi hr t2.a t2.c
  rw [←h0] at hrun
  refine V8 hrun (h s F w ?_ I fun _ _ _=>rfl)
  rw [List.append_nil]
  exact hr
 ·obtain ⟨s',F',w',h1,h2,h3,h4⟩:=c1F (ty:=ty) ht hi hz hsize hby hzs I hr (hs.2 hy) hy hb
  exact V8 h1 (h s' F' w' h2 h3 h4)
theorem SlH.src(I:Inv w0 ps H0 H Fs w){t:Sl}{ys:List α}(h:SlH H sz c t ys)(hc:∀x,(c x).length=sz):SrcO w c t ys:=by
 refine ⟨h.1,fun hy=>⟨h.1,?_⟩⟩
 obtain ⟨y,l,rfl⟩:=List.exists_cons_of_ne_nil hy
 obtain ⟨g,o,ha,_⟩:=h.2 0 y rfl
 refine ⟨_,ha,?_⟩
 have all:∀(zs:List α)(k:Nat),(∀(i:Nat)(x:α),zs[i]? = some x→AtW w g (o+(k+i)*sz) (c x))→∀j v,(zs.flatMap c)[j]? = some v→w.cell? ⟨g,o+k*sz+j,none⟩=some v:=by
  intro zs
  induction zs with
  | nil=>intro k _ j v hj;simp at hj
  | cons z zs ih=>
   intro k hz j v hj
   rw [List.flatMap_cons] at hj
   by_cases hlt:j < sz
   ·rw [List.getElem?_append_left (by rw [hc];exact hlt)] at hj
    have:=(hz 0 z rfl).get hj
    rwa [Nat.add_zero] at this
   ·rw [List.getElem?_append_right (by rw [hc];omega),hc] at hj
    have:=ih (k+1) (fun i x hx=>by
     have:=hz (i+1) x (by simpa using hx)
     rwa [show k+(i+1)=k+1+i by omega] at this) _ _ hj
    rwa [show o+(k+1)*sz+(j-sz)=o+k*sz+j by rw [Nat.succ_mul];omega] at this
 intro j v hj
 have:=all (y::l) 0 (fun i x hx=>by
  obtain ⟨g',o',ha',hx'⟩:=h.2 i x hx
  rw [ha] at ha'
  cases ha'
  rw [Int.toNat_natCast] at hx'
  rw [Nat.zero_add]
  exact I.atH hx') j v hj
 rw [a2w]
 rwa [Nat.zero_mul,Nat.add_zero] at this
theorem RowL.srcO{F2:Frag}(I:Inv w0 ps H0 H (F2::Fs) w){t:Sl}{ys:List α}(h:RowL e sz c t ys F2):SrcO w c t ys:=⟨h.2.1,fun hy=>h.src I hy fun _ _=>rfl⟩
theorem O4{t:TypeId}{n:Nat}{parts:Array (Nat×Value)}{cs:List Value}(I:Inv w0 ps H0 H Fs w)(hrun:∀w:World,(Instr.buildSlice t n parts).run P w=.ok (.slice (some ⟨w.heap.size,0,none⟩) n n) (w.alloc (.cells cs.toArray e)))
  (hn:n=xs.length) (hcs:xs.flatMap c=cs) (hc:∀x,(c x).length=sz) (h1:∀x,(c x).all (·.oneCell')=true) (hm:n≤maxLen)
  (h:∀(s':Sl)(F':Frag)(w':World),RowL e sz c s' xs F'→Inv w0 ps H0 H (F'::Fs) w'→(∀k,k < w.heap.size→w'.heap[k]? = w.heap[k]?)→K (.slice s'.a s'.n s'.c) w'):
  opK P E (xV (Instr.buildSlice t n parts)) w K:=by
 subst hn
 subst hcs
 have e1:=a1L hc xs
 refine V8 (hrun w) (h ⟨some ⟨w.heap.size,0,none⟩,xs.length,xs.length⟩ _ _ ⟨⟨e1,.inr ⟨_,_,rfl,rfl,Nat.le_refl _,hm,by simp [e1],?_⟩⟩,rfl,hc,h1⟩ (I.alloc _) fun k hk=>Below.heap_alloc w _ k hk)
 simp only []
 rw [←e1]
 exact List.take_length
theorem RowL.addr(h:RowL e sz c s xs F){i:Nat}{x:α}(hx:xs[i]? = some x):∃g arr,s.a=some ⟨g,0,none⟩∧F=[(g,.cells arr e (0,0))]:=by
 obtain ⟨⟨h1,h2⟩,h3,_⟩:=h
 have hi:i < xs.length:=(List.getElem?_eq_some_iff.1 hx).1
 rcases h2 with ⟨rfl,_⟩ | ⟨g,arr,ha,hF,_⟩
 ·simp only at h3;omega
 ·exact ⟨g,arr,ha,hF⟩
theorem RowL.atW(I:Inv w0 ps H0 H (F::Fs) w)(h:RowL e sz c s xs F){g:Nat}(ha:s.a=some ⟨g,0,none⟩){i:Nat}{x:α}(hx:xs[i]? = some x):AtW w g (0+i*sz) (c x):=by
 obtain ⟨⟨h1,h2⟩,h3,h4,_⟩:=h
 have hi:i < xs.length:=(List.getElem?_eq_some_iff.1 hx).1
 rcases h2 with ⟨rfl,_⟩ | ⟨g',arr,ha',rfl,q1,q2,q3,q4⟩
 ·cases ha
 ·rw [ha] at ha'
  cases ha'
  rw [Nat.zero_add]
  refine RowR.at_ (s:=s) ⟨h1,.inr ⟨g,arr,ha,rfl,q1,q2,q3,q4⟩⟩ I rfl q4 ?_ ?_
  ·rw [h4,a1L h4,← Nat.succ_mul]
   exact Nat.mul_le_mul_right sz hi
  ·rw [h4]
   exact b2f h4 xs i x hx
theorem RowL.lt(h:RowL e sz c s xs F){i:Int}{x:α}(h0:0≤i)(hx:xs[i.toNat]? = some x):i < (s.n:Int):=by
 have hi:=(List.getElem?_eq_some_iff.1 hx).1
 have:=h.2.1
 omega
end
def csl(x:Sl):List Value:=[Value.slice x.a x.n x.c]
theorem b7z(x:Sl):(csl x).length=1:=rfl
theorem b7A(x:Sl):(csl x).all (·.oneCell')=true:=rfl
inductive Inners {α:Type} (e:TypeId) (sz:Nat) (c:α→List Value):List Sl→List (List α)→Frag→Prop
 | nil:Inners e sz c [] [] []
 | cons {s:Sl} {xs:List α} {F:Frag} {ss:List Sl} {xss:List (List α)} {G:Frag}:RowL e sz c s xs F→Inners e sz c ss xss G→Inners e sz c (s::ss) (xs::xss) (F++G)
def RowsL{α:Type}(o e:TypeId)(sz:Nat)(c:α→List Value)(s:Sl)(xss:List (List α))(F:Frag):Prop:=
 ∃(ss:List Sl)(Fo Fi:Frag),RowL o 1 csl s ss Fo∧Inners e sz c ss xss Fi∧F.Perm (Fo++Fi)
def Hole{α:Type}(e:TypeId)(sz:Nat)(c:α→List Value)(ss:List Sl)(xss:List (List α))(i:Nat)(Fr:Frag):Prop:=
 ∀(si':Sl)(xs':List α)(Fi':Frag),RowL e sz c si' xs' Fi'→∃F',Inners e sz c (ss.set i si') (xss.set i xs') F'∧F'.Perm (Fi'++Fr)
section
variable {P:Program}{E:Pan}{w0 w:World}{ps:Nat→Prop}{H0 H:Hp}{Fs:List Frag}{K:Value→World→Prop}{α:Type}{c:α→List Value}{o e:TypeId}{sz:Nat}{s:Sl}{xss:List (List α)}{F:Frag}
theorem Inners.len{ss:List Sl}(h:Inners e sz c ss xss F):ss.length=xss.length:=by
 induction h with
 | nil=>rfl
 | cons _ _ ih=>rw [List.length_cons,List.length_cons,ih]
theorem Inners.get{ss:List Sl}(h:Inners e sz c ss xss F):∀{i:Nat}{xs:List α},xss[i]? = some xs→∃(si:Sl)(Fi Fr:Frag),ss[i]? = some si∧RowL e sz c si xs Fi∧F.Perm (Fi++Fr)∧Hole e sz c ss xss i Fr:=by
 induction h with
 | nil=>intro i xs hx;simp at hx
 | @cons s xs0 F ss xss G hr hi ih=>
  intro i xs hx
  cases i with
  | zero=>
   simp only [List.getElem?_cons_zero,Option.some.injEq] at hx
   subst hx
   exact ⟨s,F,G,rfl,hr,.refl _,fun si' xs' Fi' hr'=>⟨_,.cons hr' hi,.refl _⟩⟩
  | succ i=>
   obtain ⟨si,Fi,Fr,h1,h2,h3,h4⟩:=ih (by simpa using hx)
   refine ⟨si,Fi,F++Fr,by simpa using h1,h2,(List.Perm.append_left F h3).trans (List.perm_append_comm_assoc F Fi Fr),fun si' xs' Fi' hr'=>?_⟩
   obtain ⟨F',k1,k2⟩:=h4 si' xs' Fi' hr'
   exact ⟨F++F',.cons hr k1,(List.Perm.append_left F k2).trans (List.perm_append_comm_assoc F Fi' Fr)⟩
theorem Inners.app{ss ts:List Sl}{yss:List (List α)}{G:Frag}(h:Inners e sz c ss xss F)(k:Inners e sz c ts yss G):Inners e sz c (ss++ts) (xss++yss) (F++G):=by
 induction h with
 | nil=>exact k
 | cons hr _ ih=>
  rw [List.append_assoc]
  exact .cons hr ih
theorem RowsL.nil(h1:∀x,(c x).length=sz)(h2:∀x,(c x).all (·.oneCell')=true):RowsL o e sz c ⟨none,0,0⟩ ([]:List (List α)) []:=⟨[],[],[],RowL.nil b7z b7A,.nil,.refl _⟩
theorem RowsL.len(h:RowsL o e sz c s xss F):s.n=xss.length:=by
 obtain ⟨ss,Fo,Fi,h1,h2,_⟩:=h
 rw [h1.2.1,h2.len]
theorem RowsL.split(h:RowsL o e sz c s xss F)(I:Inv w0 ps H0 H (F::Fs) w):∃(ss:List Sl)(Fo Fi:Frag),RowL o 1 csl s ss Fo∧Inners e sz c ss xss Fi∧Inv w0 ps H0 H (Fo::Fi::Fs) w:=by
 obtain ⟨ss,Fo,Fa,h1,h2,h3⟩:=h
 refine ⟨ss,Fo,Fa,h1,h2,I.perm ?_⟩
 simp only [List.flatten_cons]
 have:=List.Perm.append_right Fs.flatten h3.symm
 simpa only [List.append_assoc] using this
theorem c5t{β:Type}{l:List β}{i:Nat}{x:β}(h:l[i]? = some x):l.set i x=l:=by
 obtain ⟨h1,h2⟩:=List.getElem?_eq_some_iff.1 h
 subst h2
 exact List.set_getElem_self h1
theorem RowsL.same{i:Nat}{xs:List α}(h:RowsL o e sz c s (xss.set i xs) F)(hx:xss[i]? = some xs):RowsL o e sz c s xss F:=by rwa [c5t hx] at h
theorem RowsL.app{s':Sl}{ss ts:List Sl}{yss:List (List α)}{Fo Fi G:Frag}(h:RowL o 1 csl s' (ss++ts) Fo)(h1:Inners e sz c ss xss Fi)(h2:Inners e sz c ts yss G):RowsL o e sz c s' (xss++yss) (Fo++(Fi++G)):=⟨_,Fo,_,h,h1.app h2,.refl _⟩
theorem RowsL.one{xs:List α}{si:Sl}{Fo Fi:Frag}(h:RowL o 1 csl s [si] Fo)(h1:RowL e sz c si xs Fi):RowsL o e sz c s [xs] (Fo++Fi):=⟨_,Fo,Fi,h,by have:=Inners.cons h1 Inners.nil;rwa [List.append_nil] at this,.refl _⟩
def SlHH{α:Type}(H:Hp)(sz:Nat)(c:α→List Value)(s:Sl)(xss:List (List α)):Prop:=
 s.n=xss.length∧∃ss:List Sl,SlH H 1 csl s ss∧∀(i:Nat)(si:Sl)(xs:List α),ss[i]? = some si→xss[i]? = some xs→SlH H sz c si xs∧si.n≤si.c
theorem SlHH.le{H':Hp}(h:SlHH H sz c s xss)(l:Hle H H'):SlHH H' sz c s xss:=by
 obtain ⟨h0,ss,h1,h2⟩:=h
 exact ⟨h0,ss,h1.le l,fun i si xs a b=>⟨(h2 i si xs a b).1.le l,(h2 i si xs a b).2⟩⟩
theorem RowL.cap{xs:List α}(h:RowL e sz c s xs F):s.n≤s.c:=by
 rcases h.1.2 with ⟨rfl,_⟩ | ⟨_,_,_,_,h,_⟩
 ·exact Nat.le_refl _
 ·exact h
theorem Inners.frozen{ss:List Sl}(h:Inners e sz c ss xss F)(h0:0 < sz)(hF:∀p∈F,H p.1=some p.2):∀(i:Nat)(si:Sl)(xs:List α),ss[i]? = some si→xss[i]? = some xs→SlH H sz c si xs∧si.n≤si.c:=by
 induction h with
 | nil=>intro i si xs hs;simp at hs
 | cons hr _ ih=>
  intro i si xs hs hx
  cases i with
  | zero=>
   simp only [List.getElem?_cons_zero,Option.some.injEq] at hs hx
   subst hs;subst hx
   exact ⟨hr.frozen h0 fun p hp=>hF p (List.mem_append_left _ hp),hr.cap⟩
  | succ i=>exact ih (fun p hp=>hF p (List.mem_append_right _ hp)) i si xs (by simpa using hs) (by simpa using hx)
theorem Inv.freezeC{xs:List α}(I:Inv w0 ps H0 H (F::Fs) w)(h:RowL e sz c s xs F)(h0:0 < sz):∃H',Inv w0 ps H0 H' Fs w∧Hle H H'∧SlH H' sz c s xs∧s.n≤s.c:=
 ⟨_,I.freeze.1,I.freeze.2.1,h.frozen h0 I.freeze.2.2,h.cap⟩
def NewS(H H':Hp)(e:TypeId)(sz:Nat)(s:Sl):Prop:=s.n≤s.c∧(s.n=0∨∃g arr,s.a=some ⟨g,0,none⟩∧H' g=some (.cells arr e (0,0))∧H g=none∧s.n*sz≤arr.size)
theorem NewS.le{H H1 H2:Hp}{sz:Nat}{s:Sl}(h:NewS H H1 e sz s)(l:Hle H1 H2):NewS H H2 e sz s:=⟨h.1,h.2.imp id fun ⟨g,arr,a,b,c,d⟩=>⟨g,arr,a,l _ _ b,c,d⟩⟩
theorem NewS.sub{H0 H H1:Hp}{sz:Nat}{s:Sl}(h:NewS H H1 e sz s)(l:Hle H0 H):NewS H0 H1 e sz s:=by
 refine ⟨h.1,h.2.imp id ?_⟩
 rintro ⟨g,arr,a,b,c,d⟩
 refine ⟨g,arr,a,b,?_,d⟩
 cases e:H0 g with
 | none=>rfl
 | some o=>have:=l _ _ e;rw [c] at this;cases this
theorem RowL.inF{xs:List α}(h:RowL e sz c s xs F){g:Nat}(ha:s.a=some ⟨g,0,none⟩):∃ob,F=[(g,ob)]:=by
 rcases h.1.2 with ⟨rfl,_⟩ | ⟨g',arr,ha',rfl,_⟩
 ·cases ha
 ·rw [ha] at ha'
  cases ha'
  exact ⟨_,rfl⟩
end
def Sl.cut(s:Sl)(l h m sz:Nat):Sl:=⟨if m=l then s.a else s.a.map (·.add (l*sz)),h-l,m-l⟩
theorem SlH.cut{α:Type}{H:Hp}{sz:Nat}{c:α→List Value}{s:Sl}{xs:List α}(hs:SlH H sz c s xs){l h m:Nat}(h1:l≤h)(h2:h≤s.n)(h3:h≤m):SlH H sz c (s.cut l h m sz) ((xs.take h).drop l):=by
 have hn:=hs.1
 refine ⟨by simp only [Sl.cut,List.length_drop,List.length_take];omega,fun i x hx=>?_⟩
 rw [List.getElem?_drop,List.getElem?_take] at hx
 split at hx
 ·rename_i hlt
  obtain ⟨g,o,ha,hA⟩:=hs.2 _ x hx
  have hml:m≠l:=by omega
  refine ⟨g,o+l*sz,?_,?_⟩
  ·simp only [Sl.cut,if_neg hml,ha,Option.map_some,a2w]
  ·rw [Int.toNat_natCast] at hA ⊢
   rwa [Nat.add_mul,← Nat.add_assoc] at hA
 ·cases hx
section
variable {P:Program}{t e:TypeId}{sz:Nat}(ht:P.underlying t=some (.slice e))(hz:∀w,(sizeOf e).run P w=.ok sz w)(s:Sl)
include ht
theorem c7P:P.elem t=e:=by simp [Program.elem,ht]
include hz
theorem b7U{k:IntKind}{h:Int}(h0:0≤h)(h1:h≤s.c):Pu P (xV (Instr.sliceAt t (.slice s.a s.n s.c) none (some (.int k h)) none)) (.slice (s.cut 0 h.toNat s.c sz).a (s.cut 0 h.toNat s.c sz).n (s.cut 0 h.toNat s.c sz).c):=by
 have he:=c7P ht
 refine Pu.ok fun w=>?_
 rw [run_sliceAt_slice _ _ _ _ _ _ (by rw [he];exact ht),run_slice_h _ _ _ _ _ (by rw [he];exact ht) _ _ h0 h1,he,hz]
 rfl
end
end Go.Proofs.YtoflkliecagjcaaGreatDoor
