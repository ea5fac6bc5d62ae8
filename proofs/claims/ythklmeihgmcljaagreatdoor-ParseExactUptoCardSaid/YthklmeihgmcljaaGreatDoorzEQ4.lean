/- Nodes: a list's nodes, lists put together; a node's own form, its name, its parts. Contracts off the printed formulas. -/
import Derived.Test.YthklmeihgmcljaaGreatDoorzEQ3
namespace Go.Proofs.YthklmeihgmcljaaGreatDoor
open Go.RowKit
set_option maxRecDepth 100000
set_option maxHeartbeats 2000000
def NH(H:Hp):k7→PT→Prop
 | .Q6 y,t=>t=dT y.a2q
 | .N6 y,t=>SH H y.p6 t
 | .S3 y,t=>CH H y.z6 t
 | .M4 y,t=>EH H y.z7 t
 | .nil,_=>False
theorem NH.le{H H':Hp}(l:Hle H H'){x:k7}{t:PT}(h:NH H x t):NH H' x t:=by
 cases x with
 | nil=>exact h
 | Q6 y=>exact h
 | N6 y=>exact SH.le l h
 | S3 y=>exact CH.le l h
 | M4 y=>exact EH.le l h
theorem b9j{α:Type}(l:List (List α))(i:Nat):(l.take i).flatten.length≤l.flatten.length:=by
 have:l.flatten=(l.take i).flatten++(l.drop i).flatten:=by rw [←List.flatten_append,List.take_append_drop]
 rw [this,List.length_append];omega
theorem b9k{α:Type}{l:List (List α)}{i:Nat}{x:List α}(h:l[i]? = some x):(l.take (i+1)).flatten=(l.take i).flatten++x:=by
 rw [a5z h,List.flatten_append];simp
section
variable {H:Hp}
theorem c1z{s:Sl}{xs:List m7}(hs:SlH H 2 u5 s xs)(hb:xs.length≤big){K:Sl→Hp→Prop}(h:∀(r:Sl)(H':Hp),Hle H H'→SlH H' 1 y7 r (xs.map fun x=>k7.Q6 ⟨x⟩)→K r H'):N1 s H K:=by
 refine a2N _ ?_
 unfold W4
 have n1:=hs.1
 refine D1 (fun(z:List k7×Int) H'=>0≤z.2∧z.2≤xs.length∧H'=H∧z.1=(xs.take z.2.toNat).map fun x=>k7.Q6 ⟨x⟩) (fun z=>(xs.length-z.2).toNat) ⟨Int.le_refl _,by simp,rfl,by simp⟩ ?_
 rintro ⟨l,i⟩ H1 next ⟨i0,i1,rfl,hl⟩ hn
 dsimp only at i0 i1 hl ⊢
 unfold L6
 refine ⟨fun hc=>?_,fun hc=>?_⟩
 ·obtain ⟨x,hx,hE⟩:=hs.get i0 hc
  have hlt:=E0 hx
  refine ⟨i0,hc,x,hE,b4U _ ?_⟩
  unfold b0d
  refine ⟨?_,?_⟩
  ·rw [hl,List.length_map,List.length_take];simp only [big] at hb;simp only [List.length_cons,List.length_nil];omega
  ·rw [G3 i0 (by simp only [big] at hb;omega)]
   refine hn _ _ ⟨by dsimp only;omega,by dsimp only;omega,rfl,?_⟩ (by dsimp only;omega)
   dsimp only
   rw [show (i+1).toNat=i.toNat+1 by omega,a5z hx,List.map_append,← hl];rfl
 ·unfold L5
  intro ss H2 l2 hss hc2
  refine h ss H2 l2 ?_
  rw [hl,List.take_of_length_le (by omega)] at hss;exact hss
theorem b4g{s:Sl}{xs:List b9}(hs:SlH H 6 m6 s xs)(hb:xs.length≤big){K:Sl→Hp→Prop}(h:∀(r:Sl)(H':Hp),Hle H H'→SlH H' 1 y7 r (xs.map fun x=>k7.N6 ⟨x⟩)→K r H'):C1 s H K:=by
 refine a2O _ ?_
 unfold W5
 have n1:=hs.1
 refine D1 (fun(z:List k7×Int) H'=>0≤z.2∧z.2≤xs.length∧H'=H∧z.1=(xs.take z.2.toNat).map fun x=>k7.N6 ⟨x⟩) (fun z=>(xs.length-z.2).toNat) ⟨Int.le_refl _,by simp,rfl,by simp⟩ ?_
 rintro ⟨l,i⟩ H1 next ⟨i0,i1,rfl,hl⟩ hn
 dsimp only at i0 i1 hl ⊢
 unfold L9
 refine ⟨fun hc=>?_,fun hc=>?_⟩
 ·obtain ⟨x,hx,hE⟩:=hs.get i0 hc
  have hlt:=E0 hx
  refine ⟨i0,hc,x,hE,b4Z _ ?_⟩
  unfold b0n
  refine ⟨?_,?_⟩
  ·rw [hl,List.length_map,List.length_take];simp only [big] at hb;simp only [List.length_cons,List.length_nil];omega
  ·rw [G3 i0 (by simp only [big] at hb;omega)]
   refine hn _ _ ⟨by dsimp only;omega,by dsimp only;omega,rfl,?_⟩ (by dsimp only;omega)
   dsimp only
   rw [show (i+1).toNat=i.toNat+1 by omega,a5z hx,List.map_append,← hl];rfl
 ·unfold L8
  intro ss H2 l2 hss hc2
  refine h ss H2 l2 ?_
  rw [hl,List.take_of_length_le (by omega)] at hss;exact hss
theorem b7a{s:Sl}{xs:List f8}(hs:SlH H 4 i7 s xs)(hb:xs.length≤big){K:Sl→Hp→Prop}(h:∀(r:Sl)(H':Hp),Hle H H'→SlH H' 1 y7 r (xs.map fun x=>k7.S3 ⟨x⟩)→K r H'):E8 s H K:=by
 refine a2K _ ?_
 unfold W3
 have n1:=hs.1
 refine D1 (fun(z:List k7×Int) H'=>0≤z.2∧z.2≤xs.length∧H'=H∧z.1=(xs.take z.2.toNat).map fun x=>k7.S3 ⟨x⟩) (fun z=>(xs.length-z.2).toNat) ⟨Int.le_refl _,by simp,rfl,by simp⟩ ?_
 rintro ⟨l,i⟩ H1 next ⟨i0,i1,rfl,hl⟩ hn
 dsimp only at i0 i1 hl ⊢
 unfold L4
 refine ⟨fun hc=>?_,fun hc=>?_⟩
 ·obtain ⟨x,hx,hE⟩:=hs.get i0 hc
  have hlt:=E0 hx
  refine ⟨i0,hc,x,hE,b5a _ ?_⟩
  unfold b0p
  refine ⟨?_,?_⟩
  ·rw [hl,List.length_map,List.length_take];simp only [big] at hb;simp only [List.length_cons,List.length_nil];omega
  ·rw [G3 i0 (by simp only [big] at hb;omega)]
   refine hn _ _ ⟨by dsimp only;omega,by dsimp only;omega,rfl,?_⟩ (by dsimp only;omega)
   dsimp only
   rw [show (i+1).toNat=i.toNat+1 by omega,a5z hx,List.map_append,← hl];rfl
 ·unfold L3
  intro ss H2 l2 hss hc2
  refine h ss H2 l2 ?_
  rw [hl,List.take_of_length_le (by omega)] at hss;exact hss
theorem b4h{s:Sl}{xs:List d9}(hs:SlH H 4 g7 s xs)(hb:xs.length≤big){K:Sl→Hp→Prop}(h:∀(r:Sl)(H':Hp),Hle H H'→SlH H' 1 y7 r (xs.map fun x=>k7.M4 ⟨x⟩)→K r H'):C2 s H K:=by
 refine a2J _ ?_
 unfold W2
 have n1:=hs.1
 refine D1 (fun(z:List k7×Int) H'=>0≤z.2∧z.2≤xs.length∧H'=H∧z.1=(xs.take z.2.toNat).map fun x=>k7.M4 ⟨x⟩) (fun z=>(xs.length-z.2).toNat) ⟨Int.le_refl _,by simp,rfl,by simp⟩ ?_
 rintro ⟨l,i⟩ H1 next ⟨i0,i1,rfl,hl⟩ hn
 dsimp only at i0 i1 hl ⊢
 unfold L2
 refine ⟨fun hc=>?_,fun hc=>?_⟩
 ·obtain ⟨x,hx,hE⟩:=hs.get i0 hc
  have hlt:=E0 hx
  refine ⟨i0,hc,x,hE,b4X _ ?_⟩
  unfold b0j
  refine ⟨?_,?_⟩
  ·rw [hl,List.length_map,List.length_take];simp only [big] at hb;simp only [List.length_cons,List.length_nil];omega
  ·rw [G3 i0 (by simp only [big] at hb;omega)]
   refine hn _ _ ⟨by dsimp only;omega,by dsimp only;omega,rfl,?_⟩ (by dsimp only;omega)
   dsimp only
   rw [show (i+1).toNat=i.toNat+1 by omega,a5z hx,List.map_append,← hl];rfl
 ·unfold L1
  intro ss H2 l2 hss hc2
  refine h ss H2 l2 ?_
  rw [hl,List.take_of_length_le (by omega)] at hss;exact hss
theorem b9l(a:Option Addr)(n c:Nat):Pu Tryz.prog (xBuiltin .cap #[128] 3 [false] [.slice a n c]) (.int .i64 (c:Int)):=by
 have e':Program.elem Tryz.prog 128=131:=by simp [Program.elem,Tryz.underlying128]
 have:xBuiltin .cap #[128] 3 [false] [.slice a n c]=xV (Builtin.cap_ #[128] 3 #[.slice a n c]):=rfl
 rw [this]
 exact Pu.ok fun w=>run_cap_slice (P:=Tryz.prog) (w:=w) 128 3 a n c (by rw [e'];exact Tryz.underlying128)
theorem d1f{n:Int}(h0:0≤n)(hb:n*17≤140737488355328){K:List k7→Hp→Prop}(h:K [] H):X2 n H K:=by
 intro w I
 refine c9z ?_
 unfold d3X
 refine p7 fun j1 hx1=>?_
 refine a7 (A8 _ _ _ _ _ _) ?_
 refine a4d (fun c=>?_) (fun c=>?_)
 ·have:=of_decide_eq_true c;omega
 refine hx1 _ _ ?_
 unfold c2b
 intro _
 refine p7 fun j2 hx2=>?_
 refine a7 (b9l _ _ _) ?_
 refine a7 (b2o _ _ _) ?_
 refine a7 (a7E _ _ _ _ _ _) ?_
 refine a7 (a7E _ _ _ _ _ _) ?_
 rw [show IntKind.wrap .i64 (n-IntKind.wrap .i64 (((0:Nat):Int)-((0:Nat):Int)))=n by
  rw [show IntKind.wrap .i64 (((0:Nat):Int)-((0:Nat):Int))=0 by decide,Int.sub_zero];exact z1 ⟨by omega,by omega⟩]
 refine a7 (a1s _ _ _ _ _ _) ?_
 refine a4d (fun c=>?_) (fun c=>?_)
 ·have hp:=of_decide_eq_true c
  refine a7 (b9l _ _ _) ?_
  refine a7 (b9U (e:=131) (sz:=1) Tryz.underlying128 Tryz.sizeOf131 (s:=⟨none,0,0⟩) (h:=((0:Nat):Int)) (by decide) (by decide)) ?_
  refine d1H (z:=Value.nilIface) (bytes:=16) (kn:=.i64) Tryz.underlying128 Tryz.underlying3 c1J (by kernel_rfl) (by kernel_rfl) (by kernel_rfl) (by kernel_rfl) (by decide) V7 Z5 I hp hb fun g m F' w' hr I'=>?_
  refine a7 (b2o _ _ _) ?_
  refine a7 (b9U (e:=131) (sz:=1) Tryz.underlying128 Tryz.sizeOf131 (s:=⟨some ⟨g,0,none⟩,n.toNat,m⟩) (h:=((0:Nat):Int)) (by decide) (by simp)) ?_
  refine hx2 _ _ ?_
  unfold b8r
  intro _
  refine ⟨H,_,I',[],⟨some ⟨g,0,none⟩,0,m⟩,F',?_,rfl,hr,h⟩
  simp [Sl.cut,Addr.add,nth]
 ·refine hx2 _ _ ?_
  unfold b8r
  intro _
  exact ⟨H,_,I.nil,[],⟨none,0,0⟩,[],rfl,rfl,RowL.nil V7 Z5,h⟩
theorem b5Y{s:Sl}{ss:List Sl}{nss:List (List k7)}(hs:SlH H 1 csl s ss)(hr:u2 (SlH H 1 y7) ss nss)(hb:nss.flatten.length*17≤140737488355328)(hss:ss.length≤big){K:Sl→Hp→Prop}
  (h:∀(r:Sl)(H':Hp),Hle H H'→SlH H' 1 y7 r nss.flatten→K r H'):D6 s H K:=by
 refine a4i _ ?_
 unfold a0k
 have n1:=hs.1;have r1:=hr.1
 refine D1 (fun(z:Int×Int) H'=>0≤z.2∧z.2≤ss.length∧H'=H∧z.1=((nss.take z.2.toNat).flatten.length:Int)) (fun z=>(ss.length-z.2).toNat) ⟨Int.le_refl _,by simp,rfl,by simp⟩ ?_
 rintro ⟨q,i⟩ H1 next ⟨i0,i1,rfl,hq⟩ hn
 dsimp only at i0 i1 hq ⊢
 subst hq
 unfold Y9
 refine ⟨fun hc=>?_,fun hc=>?_⟩
 ·obtain ⟨x,hx,hE⟩:=hs.get i0 hc
  obtain ⟨ns,hns,hS⟩:=hr.get hx
  have hlt:=E0 hx
  have e1:=b9k hns
  have e2:=b9j nss (i.toNat+1)
  have e3:(nss.take (i.toNat+1)).flatten.length=(nss.take i.toNat).flatten.length+ns.length:=by rw [e1,List.length_append]
  have e4:IntKind.wrap .i64 (((nss.take i.toNat).flatten.length:Int)+(x.n:Int))=((nss.take (i.toNat+1)).flatten.length:Int):=by
   rw [z1 ⟨by omega,by have:=hS.1;omega⟩]
   have:=hS.1;omega
  refine ⟨i0,hc,x,hE,?_⟩
  rw [e4]
  refine ⟨fun hneg=>by omega,fun _=>?_⟩
  unfold P2
  rw [G3 i0 (by simp only [big] at hss;omega)]
  refine hn _ _ ⟨by dsimp only;omega,by dsimp only;omega,rfl,?_⟩ (by dsimp only;omega)
  dsimp only
  rw [show (i+1).toNat=i.toNat+1 by omega]
 ·rw [List.take_of_length_le (by omega)]
  clear hn next
  unfold P5
  refine d1f (by omega) (by omega) ?_
  refine D1 (fun(z:List k7×Int) H'=>0≤z.2∧z.2≤ss.length∧H'=H1∧z.1=(nss.take z.2.toNat).flatten) (fun z=>(ss.length-z.2).toNat) ⟨Int.le_refl _,by simp,rfl,by simp⟩ ?_
  rintro ⟨q,j⟩ H2 next ⟨j0,j1,rfl,hq⟩ hn
  dsimp only at j0 j1 hq ⊢
  subst hq
  unfold P4
  refine ⟨fun hc=>?_,fun hc=>?_⟩
  ·obtain ⟨x,hx,hE⟩:=hs.get j0 hc
   obtain ⟨ns,hns,hS⟩:=hr.get hx
   have hlt:=E0 hx
   have e1:=b9k hns
   have e2:=b9j nss (j.toNat+1)
   have e3:(nss.take (j.toNat+1)).flatten.length=(nss.take j.toNat).flatten.length+ns.length:=by rw [e1,List.length_append]
   refine ⟨j0,hc,x,hE,ns,hS,by omega,?_⟩
   rw [G3 j0 (by simp only [big] at hss;omega),← e1]
   refine hn _ _ ⟨by dsimp only;omega,by dsimp only;omega,rfl,?_⟩ (by dsimp only;omega)
   dsimp only
   rw [show (j+1).toNat=j.toNat+1 by omega]
  ·unfold P3
   intro r H3 l3 hS _
   rw [List.take_of_length_le (by omega)] at hS
   exact h r H3 l3 hS
def nameL:Lab→ByteArray×Bool
 | .decl _ s=>(s,true)
 | .stmt k s _ _ _ _=>(s,decide (k=1)||decide (k=2))
 | .cond ..=>(⟨#[]⟩,false)
 | .expr k _ s _=>(s,decide (k=2)||decide (k=4))
theorem c3b{x:k7}{t:PT}(hx:NH H x t){K:ByteArray→Bool→Hp→Prop}(h:K (nameL t.lab).1 (nameL t.lab).2 H):a2Z x H K:=by
 refine b5L _ ?_
 unfold b1H
 cases x with
 | nil=>exact hx.elim
 | Q6 y=>
  cases (show t=dT y.a2q from hx)
  exact ⟨fun _=>h,fun q=>(by cases q)⟩
 | N6 y=>
  cases (show SH H y.p6 t from hx)
  exact ⟨fun q=>(by cases q),fun _=>⟨fun _=>h,fun q=>(by cases q)⟩⟩
 | M4 y=>
  cases (show EH H y.z7 t from hx)
  exact ⟨fun q=>(by cases q),fun _=>⟨fun q=>(by cases q),fun _=>⟨fun _=>h,fun q=>(by cases q)⟩⟩⟩
 | S3 y=>
  cases (show CH H y.z6 t from hx)
  exact ⟨fun q=>(by cases q),fun _=>⟨fun q=>(by cases q),fun _=>⟨fun q=>(by cases q),fun _=>h⟩⟩⟩
def formE(k n:Int)(s:ByteArray)(a:Int):Bool:=
 if (((!decide (k=1))&&(!decide (n=0)))||((!(decide (k=2)||decide (k=4)))&&(!decide (s=⟨#[]⟩))))=true then false
 else if k=1 then decide (0≤n)&&decide (a=0)
 else if k=2∨k=3 then decide (a=0)
 else if k=4∨k=5 then decide (a=1)
 else if k=6∨k=7∨k=8∨k=9∨k=10 then decide (a=2) else false
def formC(k op e p:Int):Bool:=
 if k=3 then (decide (1≤op)&&decide (op≤6))&&decide (e=2∧p=0)
 else if op=0 then
  (if k=1∨k=2 then decide (e=0∧p=0) else if k=4 then decide (e=0∧p=1) else if k=5∨k=6 then decide (e=0∧p=2) else false)
 else false
def formS(k:Int)(s:ByteArray)(e c t f:Int):Bool:=
 if k=1 then !decide (0 < t+f)&&decide (e=1∧c=0)
 else if k=2 then !decide (0 < t+f)&&decide (e=2∧c=0)
 else if k=3 then decide (s=⟨#[]⟩)&&decide (e=0∧c=1)
 else if k=4 then decide (s=⟨#[]⟩)&&decide (f=0)&&decide (e=0∧c=1)
 else if k=5∨k=6 then (decide (s=⟨#[]⟩) && !decide (0 < t+f))&&decide (e=0∧c=1)
 else if k=7 then (decide (s=⟨#[]⟩) && !decide (0 < t+f))&&decide (e=0∧c=0)
 else false
def formL:Lab→Bool
 | .decl z _=>decide (0≤z)&&decide (z≤2147483647)
 | .stmt k s e c t f=>formS k s e c t f
 | .cond k op e p=>formC k op e p
 | .expr k n s a=>formE k n s a
theorem b6K{α:Type}{b:Bool}{q:Prop} [Decidable q] (hb:b=true↔q) (x y:α):(if b=true then x else y)=if q then x else y:=by
 by_cases hq:q
 ·rw [if_pos (hb.2 hq),if_pos hq]
 ·rw [if_neg (fun e=>hq (hb.1 e)),if_neg hq]
theorem ej3{a:Int}{b:Bool}{x:S0}{K:Bool→Hp→Prop}(h:K (if b=true then decide (a=2) else false) H):M0 a b x H K:=by
 unfold M0
 cases b
 ·exact ⟨fun q=>(by cases q),fun _=>h⟩
 ·exact ⟨fun _=>h,fun q=>(by cases q)⟩
theorem ej2{a k:Int}{b:Bool}{x:S0}{K:Bool→Hp→Prop}(h:K (if b=true then decide (a=1) else if k=6∨k=7∨k=8∨k=9∨k=10 then decide (a=2) else false) H):Y3 a k b x H K:=by
 unfold Y3
 cases b
 ·refine ⟨fun q=>(by cases q),fun _=>?_⟩
  rw [if_neg (by decide)] at h
  refine ⟨fun e=>ej3 ?_,fun e1=>⟨fun e=>ej3 ?_,fun e2=>⟨fun e=>ej3 ?_,fun e3=>⟨fun e=>ej3 ?_,fun e4=>ej3 ?_⟩⟩⟩⟩ <;>
   (rw [b6K (q:=k=6∨k=7∨k=8∨k=9∨k=10) (by rw [decide_eq_true_eq];omega)];exact h)
 ·exact ⟨fun _=>h,fun q=>(by cases q)⟩
theorem ej1{a k:Int}{b:Bool}{x:S0}{K:Bool→Hp→Prop}(h:K (if b=true then decide (a=0) else if k=4∨k=5 then decide (a=1) else if k=6∨k=7∨k=8∨k=9∨k=10 then decide (a=2) else false) H):Y4 a k b x H K:=by
 unfold Y4
 cases b
 ·refine ⟨fun q=>(by cases q),fun _=>?_⟩
  rw [if_neg (by decide)] at h
  refine ⟨fun e=>ej2 ?_,fun e1=>ej2 ?_⟩ <;>
   (rw [b6K (q:=k=4∨k=5) (by rw [decide_eq_true_eq];omega)];exact h)
 ·exact ⟨fun _=>h,fun q=>(by cases q)⟩
theorem c7U{e:d9}{t:PT}(he:EH H e t){K:Bool→Hp→Prop}(h:K (formL t.lab) H):a5r ⟨e⟩ H K:=by
 refine b3y _ ?_
 unfold a8y
 refine c3b (x:=.M4 ⟨e⟩) (t:=t) he ?_
 cases he with
 | @mk e xs ts hs hb hl hr=>
  have hn:e.G4.n=ts.length:=by have:=hs.1;omega
  change K (formE e.d8 e.G9 e.t7 (ts.length:Int)) H at h
  unfold formE at h
  dsimp only [PT.lab,nameL]
  rw [hn]
  generalize (ts.length:Int)=a at h ⊢
  refine ⟨fun hg=>by rw [if_pos hg] at h;exact h,fun hg=>?_⟩
  rw [if_neg (by rw [hg];decide)] at h
  refine ⟨fun e1=>by rw [if_pos e1] at h;exact h,fun e1=>?_⟩
  rw [if_neg e1] at h
  refine ⟨fun e2=>ej1 ?_,fun e2=>ej1 ?_⟩ <;>
   (rw [b6K (q:=e.d8=2∨e.d8=3) (by rw [decide_eq_true_eq];omega)];exact h)
theorem cj2{b:Bool}{y:V2}{x:a0b}{K:Bool→Hp→Prop}(h:K (if b=true then decide (y.fexprs=0∧y.fparts=2) else false) H):Y7 b y x H K:=by
 unfold Y7
 cases b
 ·exact ⟨fun q=>(by cases q),fun _=>h⟩
 ·exact ⟨fun _=>h,fun q=>(by cases q)⟩
theorem cj1{k:Int}{b:Bool}{y:V2}{x:a0b}{K:Bool→Hp→Prop}(h:K (if b=true then decide (y.fexprs=0∧y.fparts=0) else if k=4 then decide (y.fexprs=0∧y.fparts=1) else if k=5∨k=6 then decide (y.fexprs=0∧y.fparts=2) else false) H):Y8 k b y x H K:=by
 unfold Y8
 cases b
 ·refine ⟨fun q=>(by cases q),fun _=>?_⟩
  rw [if_neg (by decide)] at h
  refine ⟨fun e=>by rw [if_pos e] at h;exact h,fun e=>?_⟩
  rw [if_neg e] at h
  refine ⟨fun e2=>cj2 ?_,fun e2=>cj2 ?_⟩ <;>
   (rw [b6K (q:=k=5∨k=6) (by rw [decide_eq_true_eq];omega)];exact h)
 ·exact ⟨fun _=>h,fun q=>(by cases q)⟩
theorem c7V{e:f8}{t:PT}(he:CH H e t){K:Bool→Hp→Prop}(h:K (formL t.lab) H):a5s ⟨e⟩ H K:=by
 refine b3B _ ?_
 unfold a8B
 cases he with
 | @mk e xs ts ys us hs hb hr hc hcb hcl hcr=>
  have hn:e.o4.n=ts.length:=by have:=hs.1;have:=hr.1;omega
  have hm:e.B0.n=us.length:=by have:=hc.1;omega
  change K (formC e.d8 e.fOp (ts.length:Int) (us.length:Int)) H at h
  unfold formC at h
  dsimp only
  rw [hn,hm]
  generalize (ts.length:Int)=a at h ⊢
  generalize (us.length:Int)=b at h ⊢
  refine ⟨fun e1=>by rw [if_pos e1] at h;exact h,fun e1=>?_⟩
  rw [if_neg e1] at h
  refine ⟨fun e2=>by rw [if_neg e2] at h;exact h,fun e2=>?_⟩
  rw [if_pos e2] at h
  refine ⟨fun e3=>cj1 ?_,fun e3=>cj1 ?_⟩ <;>
   (rw [b6K (q:=e.d8=1∨e.d8=2) (by rw [decide_eq_true_eq];omega)];exact h)
theorem sj1{v:Bool}{k:Int}{b:Bool}{y:a0O}{x:a0d}{K:Bool→Hp→Prop}(h:K (if b=true then v&&decide (y.fexprs=0∧y.fconds=1) else if k=7 then v&&decide (y.fexprs=0∧y.fconds=0) else false) H):Y5 v k b y x H K:=by
 unfold Y5
 cases b
 ·refine ⟨fun q=>(by cases q),fun _=>?_⟩
  rw [if_neg (by decide)] at h
  exact ⟨fun e=>by rw [if_pos e] at h;exact h,fun e=>by rw [if_neg e] at h;exact h⟩
 ·exact ⟨fun _=>h,fun q=>(by cases q)⟩
theorem c7W{e:b9}{t:PT}(he:SH H e t){K:Bool→Hp→Prop}(h:K (formL t.lab) H):a5t ⟨e⟩ H K:=by
 refine b3z _ ?_
 unfold a8z
 cases he with
 | @mk e xs ts ys us zs bs vs ws hs hb hr hc hcb hcr ha hab hal har hbs hbb hbl hbr=>
  have n1:e.o4.n=ts.length:=by have:=hs.1;have:=hr.1;omega
  have n2:e.v8.n=us.length:=by have:=hc.1;have:=hcr.1;omega
  have n3:e.J5.n=vs.length:=by have:=ha.1;omega
  have n4:e.H7.n=ws.length:=by have:=hbs.1;omega
  change K (formS e.d8 e.t7 (ts.length:Int) (us.length:Int) (vs.length:Int) (ws.length:Int)) H at h
  unfold formS at h
  dsimp only
  rw [n1,n2,n3,n4,z1 (a:=(vs.length:Int)+(ws.length:Int)) ⟨by omega,by simp only [big] at hab hbb;omega⟩]
  generalize (ts.length:Int)=a at h ⊢
  generalize (us.length:Int)=b at h ⊢
  generalize (vs.length:Int)=c at h ⊢
  generalize (ws.length:Int)=d at h ⊢
  refine ⟨fun e1=>by rw [if_pos e1] at h;exact h,fun e1=>?_⟩
  rw [if_neg e1] at h
  refine ⟨fun e1=>by rw [if_pos e1] at h;exact h,fun e2=>?_⟩
  rw [if_neg e2] at h
  refine ⟨fun e1=>by rw [if_pos e1] at h;exact h,fun e3=>?_⟩
  rw [if_neg e3] at h
  refine ⟨fun e1=>by rw [if_pos e1] at h;exact h,fun e4=>?_⟩
  rw [if_neg e4] at h
  refine ⟨fun e5=>sj1 ?_,fun e5=>sj1 ?_⟩ <;>
   (rw [b6K (q:=e.d8=5∨e.d8=6) (by rw [decide_eq_true_eq];omega)];exact h)
theorem d1g{x:k7}{t:PT}(hx:NH H x t){K:Bool→Hp→Prop}(h:K (formL t.lab) H):a6U x H K:=by
 cases x with
 | nil=>exact hx.elim
 | M4 y=>exact c7U hx h
 | S3 y=>exact c7V hx h
 | N6 y=>exact c7W hx h
 | Q6 y=>
  cases (show t=dT y.a2q from hx)
  refine b3C _ ?_
  unfold a8C
  exact h
theorem c7X{x:k7}{t:PT}(hx:NH H x t){K:Sl→Hp→Prop}(h:∀(r:Sl)(H':Hp)(ns:List k7),Hle H H'→SlH H' 1 y7 r ns→u2 (NH H') ns t.kids→t.kids.length≤4*big→K r H'):a6q x H K:=by
 cases x with
 | nil=>exact hx.elim
 | Q6 y=>
  cases (show t=dT y.a2q from hx)
  refine b3s _ ?_
  unfold a7X
  exact h _ _ [] (Hle.refl _) (SlH.nil _ _ _) u2.nil (Nat.zero_le _)
 | M4 y=>
  have hx:EH H y.z7 t:=hx
  refine b3r _ ?_
  unfold a7W
  obtain ⟨e⟩:=y
  cases hx with
  | @mk e xs ts hs hb hl hr=>
   refine b4h hs hb fun r H' l hS=>h r H' _ l hS ?_ ?_
   ·exact u2.map ⟨hl,fun i a b ha hb=>EH.le l (hr i a b ha hb)⟩
   ·show ts.length≤_;omega
 | S3 y=>
  have hx:CH H y.z6 t:=hx
  refine b3f _ ?_
  unfold a7O
  obtain ⟨e⟩:=y
  cases hx with
  | @mk e xs ts ys us hs hb hr hc hcb hcl hcr=>
   refine b4h hs hb fun r1 H1 l1 hS1=>?_
   refine b7a (hc.le l1) hcb fun r2 H2 l2 hS2=>?_
   intro s H3 l3 hS hcap
   have r0:=hr.1
   refine b5Y hS (nss:=[_,_]) ((u2.one (hS1.le (l2.trans l3))).app (u2.one (hS2.le l3))) ?_ (by simp [big]) fun r H4 l4 hS4=>?_
   ·simp only [List.flatten_cons,List.flatten_nil,List.append_nil,List.length_append,List.length_map];simp only [big] at hb hcb;omega
   simp only [List.flatten_cons,List.flatten_nil,List.append_nil] at hS4
   have l14:=l1.trans (l2.trans (l3.trans l4))
   refine h r H4 _ l14 hS4 ?_ ?_
   ·exact (u2.map (R:=NH H4) (f:=fun x=>.M4 ⟨x⟩) (hr.mono fun _ _=>EH.le l14)).app (u2.map (R:=NH H4) (f:=fun x=>.S3 ⟨x⟩) ⟨hcl,fun i a b ha hb=>CH.le l14 (hcr i a b ha hb)⟩)
   ·show (ts++us).length≤_;rw [List.length_append];omega
 | N6 y=>
  have hx:SH H y.p6 t:=hx
  refine b3l _ ?_
  unfold a7R
  obtain ⟨e⟩:=y
  cases hx with
  | @mk e xs ts ys us zs bs vs ws hs hb hr hc hcb hcr ha hab hal har hbs hbb hbl hbr=>
   refine b7a hc hcb fun r1 H1 l1 hS1=>?_
   refine b4h (hs.le l1) hb fun r2 H2 l2 hS2=>?_
   refine b4g (ha.le (l1.trans l2)) hab fun r3 H3 l3 hS3=>?_
   refine b4g (hbs.le (l1.trans (l2.trans l3))) hbb fun r4 H4 l4 hS4=>?_
   intro s H5 l5 hS hcap
   have r0:=hr.1
   have r0':=hcr.1
   refine b5Y hS (nss:=[_,_,_,_]) ((u2.one (hS1.le (l2.trans (l3.trans (l4.trans l5))))).app ((u2.one (hS2.le (l3.trans (l4.trans l5)))).app ((u2.one (hS3.le (l4.trans l5))).app (u2.one (hS4.le l5))))) ?_ (by simp [big]) fun r H6 l6 hS6=>?_
   ·simp only [List.flatten_cons,List.flatten_nil,List.append_nil,List.length_append,List.length_map];simp only [big] at hb hcb hab hbb;omega
   simp only [List.flatten_cons,List.flatten_nil,List.append_nil] at hS6
   have l16:=l1.trans (l2.trans (l3.trans (l4.trans (l5.trans l6))))
   refine h r H6 _ l16 hS6 ?_ ?_
   ·exact (u2.map (R:=NH H6) (f:=fun x=>.S3 ⟨x⟩) (hcr.mono fun _ _=>CH.le l16)).app ((u2.map (R:=NH H6) (f:=fun x=>.M4 ⟨x⟩) (hr.mono fun _ _=>EH.le l16)).app ((u2.map (R:=NH H6) (f:=fun x=>.N6 ⟨x⟩) ⟨hal,fun i a b ha hb=>SH.le l16 (har i a b ha hb)⟩).app (u2.map (R:=NH H6) (f:=fun x=>.N6 ⟨x⟩) ⟨hbl,fun i a b ha hb=>SH.le l16 (hbr i a b ha hb)⟩)))
   ·show (us++(ts++(vs++ws))).length≤_;simp only [List.length_append];omega
end
end Go.Proofs.YthklmeihgmcljaaGreatDoor
