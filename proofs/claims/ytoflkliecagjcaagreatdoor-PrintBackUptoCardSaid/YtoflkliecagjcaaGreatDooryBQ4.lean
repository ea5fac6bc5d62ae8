/- Nodes: a list's nodes, lists put together; a node's own form, its name, its parts. Contracts off the printed formulas. -/
import Derived.Test.YtoflkliecagjcaaGreatDooryBQ3
namespace Go.Proofs.YtoflkliecagjcaaGreatDoor
open Go.RowKit
set_option maxRecDepth 100000
set_option maxHeartbeats 2000000
def NH(H:Hp):d8→PT→Prop
 | .O1 y,t=>t=dT y.a0I
 | .L5 y,t=>SH H y.m0 t
 | .P1 y,t=>CH H y.u6 t
 | .G3 y,t=>EH H y.y7 t
 | .nil,_=>False
theorem NH.le{H H':Hp}(l:Hle H H'){x:d8}{t:PT}(h:NH H x t):NH H' x t:=by
 cases x with
 | nil=>exact h
 | O1 y=>exact h
 | L5 y=>exact SH.le l h
 | P1 y=>exact CH.le l h
 | G3 y=>exact EH.le l h
theorem b6F{α:Type}(l:List (List α))(i:Nat):(l.take i).flatten.length≤l.flatten.length:=by
 have:l.flatten=(l.take i).flatten++(l.drop i).flatten:=by rw [←List.flatten_append,List.take_append_drop]
 rw [this,List.length_append];omega
theorem b6G{α:Type}{l:List (List α)}{i:Nat}{x:List α}(h:l[i]? = some x):(l.take (i+1)).flatten=(l.take i).flatten++x:=by
 rw [a6B h,List.flatten_append];simp
section
variable {H:Hp}
theorem b9T{s:Sl}{xs:List i6}(hs:SlH H 2 u1 s xs)(hb:xs.length≤big){K:Sl→Hp→Prop}(h:∀(r:Sl)(H':Hp),Hle H H'→SlH H' 1 s8 r (xs.map fun x=>d8.O1 ⟨x⟩)→K r H'):L2 s H K:=by
 refine a0Z _ ?_
 unfold S3
 have n1:=hs.1
 refine U6 (fun(z:List d8×Int) H'=>0≤z.2∧z.2≤xs.length∧H'=H∧z.1=(xs.take z.2.toNat).map fun x=>d8.O1 ⟨x⟩) (fun z=>(xs.length-z.2).toNat) ⟨Int.le_refl _,by simp,rfl,by simp⟩ ?_
 rintro ⟨l,i⟩ H1 next ⟨i0,i1,rfl,hl⟩ hn
 dsimp only at i0 i1 hl ⊢
 unfold I0
 refine ⟨fun hc=>?_,fun hc=>?_⟩
 ·obtain ⟨x,hx,hE⟩:=hs.get i0 hc
  have hlt:=P4 hx
  refine ⟨i0,hc,x,hE,b1n _ ?_⟩
  unfold a6R
  refine ⟨?_,?_⟩
  ·rw [hl,List.length_map,List.length_take];simp only [big] at hb;simp only [List.length_cons,List.length_nil];omega
  ·rw [a0e i0 (by simp only [big] at hb;omega)]
   refine hn _ _ ⟨by dsimp only;omega,by dsimp only;omega,rfl,?_⟩ (by dsimp only;omega)
   dsimp only
   rw [show (i+1).toNat=i.toNat+1 by omega,a6B hx,List.map_append,← hl];rfl
 ·unfold H9
  intro ss H2 l2 hss hc2
  refine h ss H2 l2 ?_
  rw [hl,List.take_of_length_le (by omega)] at hss;exact hss
theorem b0s{s:Sl}{xs:List d9}(hs:SlH H 6 k7 s xs)(hb:xs.length≤big){K:Sl→Hp→Prop}(h:∀(r:Sl)(H':Hp),Hle H H'→SlH H' 1 s8 r (xs.map fun x=>d8.L5 ⟨x⟩)→K r H'):B1 s H K:=by
 refine a1e _ ?_
 unfold S6
 have n1:=hs.1
 refine U6 (fun(z:List d8×Int) H'=>0≤z.2∧z.2≤xs.length∧H'=H∧z.1=(xs.take z.2.toNat).map fun x=>d8.L5 ⟨x⟩) (fun z=>(xs.length-z.2).toNat) ⟨Int.le_refl _,by simp,rfl,by simp⟩ ?_
 rintro ⟨l,i⟩ H1 next ⟨i0,i1,rfl,hl⟩ hn
 dsimp only at i0 i1 hl ⊢
 unfold K4
 refine ⟨fun hc=>?_,fun hc=>?_⟩
 ·obtain ⟨x,hx,hE⟩:=hs.get i0 hc
  have hlt:=P4 hx
  refine ⟨i0,hc,x,hE,b1o _ ?_⟩
  unfold a6S
  refine ⟨?_,?_⟩
  ·rw [hl,List.length_map,List.length_take];simp only [big] at hb;simp only [List.length_cons,List.length_nil];omega
  ·rw [a0e i0 (by simp only [big] at hb;omega)]
   refine hn _ _ ⟨by dsimp only;omega,by dsimp only;omega,rfl,?_⟩ (by dsimp only;omega)
   dsimp only
   rw [show (i+1).toNat=i.toNat+1 by omega,a6B hx,List.map_append,← hl];rfl
 ·unfold K3
  intro ss H2 l2 hss hc2
  refine h ss H2 l2 ?_
  rw [hl,List.take_of_length_le (by omega)] at hss;exact hss
theorem b3I{s:Sl}{xs:List i7}(hs:SlH H 4 g7 s xs)(hb:xs.length≤big){K:Sl→Hp→Prop}(h:∀(r:Sl)(H':Hp),Hle H H'→SlH H' 1 s8 r (xs.map fun x=>d8.P1 ⟨x⟩)→K r H'):D8 s H K:=by
 refine a1d _ ?_
 unfold S5
 have n1:=hs.1
 refine U6 (fun(z:List d8×Int) H'=>0≤z.2∧z.2≤xs.length∧H'=H∧z.1=(xs.take z.2.toNat).map fun x=>d8.P1 ⟨x⟩) (fun z=>(xs.length-z.2).toNat) ⟨Int.le_refl _,by simp,rfl,by simp⟩ ?_
 rintro ⟨l,i⟩ H1 next ⟨i0,i1,rfl,hl⟩ hn
 dsimp only at i0 i1 hl ⊢
 unfold K2
 refine ⟨fun hc=>?_,fun hc=>?_⟩
 ·obtain ⟨x,hx,hE⟩:=hs.get i0 hc
  have hlt:=P4 hx
  refine ⟨i0,hc,x,hE,b1r _ ?_⟩
  unfold a6W
  refine ⟨?_,?_⟩
  ·rw [hl,List.length_map,List.length_take];simp only [big] at hb;simp only [List.length_cons,List.length_nil];omega
  ·rw [a0e i0 (by simp only [big] at hb;omega)]
   refine hn _ _ ⟨by dsimp only;omega,by dsimp only;omega,rfl,?_⟩ (by dsimp only;omega)
   dsimp only
   rw [show (i+1).toNat=i.toNat+1 by omega,a6B hx,List.map_append,← hl];rfl
 ·unfold K0
  intro ss H2 l2 hss hc2
  refine h ss H2 l2 ?_
  rw [hl,List.take_of_length_le (by omega)] at hss;exact hss
theorem b0t{s:Sl}{xs:List f8}(hs:SlH H 4 f7 s xs)(hb:xs.length≤big){K:Sl→Hp→Prop}(h:∀(r:Sl)(H':Hp),Hle H H'→SlH H' 1 s8 r (xs.map fun x=>d8.G3 ⟨x⟩)→K r H'):B2 s H K:=by
 refine a1b _ ?_
 unfold S4
 have n1:=hs.1
 refine U6 (fun(z:List d8×Int) H'=>0≤z.2∧z.2≤xs.length∧H'=H∧z.1=(xs.take z.2.toNat).map fun x=>d8.G3 ⟨x⟩) (fun z=>(xs.length-z.2).toNat) ⟨Int.le_refl _,by simp,rfl,by simp⟩ ?_
 rintro ⟨l,i⟩ H1 next ⟨i0,i1,rfl,hl⟩ hn
 dsimp only at i0 i1 hl ⊢
 unfold J5
 refine ⟨fun hc=>?_,fun hc=>?_⟩
 ·obtain ⟨x,hx,hE⟩:=hs.get i0 hc
  have hlt:=P4 hx
  refine ⟨i0,hc,x,hE,b1h _ ?_⟩
  unfold a6L
  refine ⟨?_,?_⟩
  ·rw [hl,List.length_map,List.length_take];simp only [big] at hb;simp only [List.length_cons,List.length_nil];omega
  ·rw [a0e i0 (by simp only [big] at hb;omega)]
   refine hn _ _ ⟨by dsimp only;omega,by dsimp only;omega,rfl,?_⟩ (by dsimp only;omega)
   dsimp only
   rw [show (i+1).toNat=i.toNat+1 by omega,a6B hx,List.map_append,← hl];rfl
 ·unfold J0
  intro ss H2 l2 hss hc2
  refine h ss H2 l2 ?_
  rw [hl,List.take_of_length_le (by omega)] at hss;exact hss
theorem b6H(a:Option Addr)(n c:Nat):Pu Tryz.prog (xBuiltin .cap #[101] 3 [false] [.slice a n c]) (.int .i64 (c:Int)):=by
 have e':Program.elem Tryz.prog 101=107:=by simp [Program.elem,Tryz.underlying101]
 have:xBuiltin .cap #[101] 3 [false] [.slice a n c]=xV (Builtin.cap_ #[101] 3 #[.slice a n c]):=rfl
 rw [this]
 exact Pu.ok fun w=>run_cap_slice (P:=Tryz.prog) (w:=w) 101 3 a n c (by rw [e'];exact Tryz.underlying101)
theorem c8S{n:Int}(h0:0≤n)(hb:n*17≤140737488355328){K:List d8→Hp→Prop}(h:K [] H):S7 n H K:=by
 intro w I
 refine d1H ?_
 unfold F78
 refine u2 fun j1 hx1=>?_
 refine a7 (T5 _ _ _ _ _ _) ?_
 refine W8 (fun c=>?_) (fun c=>?_)
 ·have:=of_decide_eq_true c;omega
 refine hx1 _ _ ?_
 unfold c3F
 intro _
 refine u2 fun j2 hx2=>?_
 refine a7 (b6H _ _ _) ?_
 refine a7 (a8V _ _ _) ?_
 refine a7 (a5N _ _ _ _ _ _) ?_
 refine a7 (a5N _ _ _ _ _ _) ?_
 rw [show IntKind.wrap .i64 (n-IntKind.wrap .i64 (((0:Nat):Int)-((0:Nat):Int)))=n by
  rw [show IntKind.wrap .i64 (((0:Nat):Int)-((0:Nat):Int))=0 by decide,Int.sub_zero];exact X9 ⟨by omega,by omega⟩]
 refine a7 (a4n _ _ _ _ _ _) ?_
 refine W8 (fun c=>?_) (fun c=>?_)
 ·have hp:=of_decide_eq_true c
  refine a7 (b6H _ _ _) ?_
  refine a7 (b7U (e:=107) (sz:=1) Tryz.underlying101 Tryz.sizeOf107 (s:=⟨none,0,0⟩) (h:=((0:Nat):Int)) (by decide) (by decide)) ?_
  refine c9Y (z:=Value.nilIface) (bytes:=16) (kn:=.i64) Tryz.underlying101 Tryz.underlying3 c0o (by kernel_rfl) (by kernel_rfl) (by kernel_rfl) (by kernel_rfl) (by decide) Q1 S1 I hp hb fun g m F' w' hr I'=>?_
  refine a7 (a8V _ _ _) ?_
  refine a7 (b7U (e:=107) (sz:=1) Tryz.underlying101 Tryz.sizeOf107 (s:=⟨some ⟨g,0,none⟩,n.toNat,m⟩) (h:=((0:Nat):Int)) (by decide) (by simp)) ?_
  refine hx2 _ _ ?_
  unfold b8j
  intro _
  refine ⟨H,_,I',[],⟨some ⟨g,0,none⟩,0,m⟩,F',?_,rfl,hr,h⟩
  simp [Sl.cut,Addr.add,nth]
 ·refine hx2 _ _ ?_
  unfold b8j
  intro _
  exact ⟨H,_,I.nil,[],⟨none,0,0⟩,[],rfl,rfl,RowL.nil Q1 S1,h⟩
theorem b2r{s:Sl}{ss:List Sl}{nss:List (List d8)}(hs:SlH H 1 csl s ss)(hr:u5 (SlH H 1 s8) ss nss)(hb:nss.flatten.length*17≤140737488355328)(hss:ss.length≤big){K:Sl→Hp→Prop}
  (h:∀(r:Sl)(H':Hp),Hle H H'→SlH H' 1 s8 r nss.flatten→K r H'):D1 s H K:=by
 refine a2t _ ?_
 unfold V9
 have n1:=hs.1;have r1:=hr.1
 refine U6 (fun(z:Int×Int) H'=>0≤z.2∧z.2≤ss.length∧H'=H∧z.1=((nss.take z.2.toNat).flatten.length:Int)) (fun z=>(ss.length-z.2).toNat) ⟨Int.le_refl _,by simp,rfl,by simp⟩ ?_
 rintro ⟨q,i⟩ H1 next ⟨i0,i1,rfl,hq⟩ hn
 dsimp only at i0 i1 hq ⊢
 subst hq
 unfold T8
 refine ⟨fun hc=>?_,fun hc=>?_⟩
 ·obtain ⟨x,hx,hE⟩:=hs.get i0 hc
  obtain ⟨ns,hns,hS⟩:=hr.get hx
  have hlt:=P4 hx
  have e1:=b6G hns
  have e2:=b6F nss (i.toNat+1)
  have e3:(nss.take (i.toNat+1)).flatten.length=(nss.take i.toNat).flatten.length+ns.length:=by rw [e1,List.length_append]
  have e4:IntKind.wrap .i64 (((nss.take i.toNat).flatten.length:Int)+(x.n:Int))=((nss.take (i.toNat+1)).flatten.length:Int):=by
   rw [X9 ⟨by omega,by have:=hS.1;omega⟩]
   have:=hS.1;omega
  refine ⟨i0,hc,x,hE,?_⟩
  rw [e4]
  refine ⟨fun hneg=>by omega,fun _=>?_⟩
  unfold N2
  rw [a0e i0 (by simp only [big] at hss;omega)]
  refine hn _ _ ⟨by dsimp only;omega,by dsimp only;omega,rfl,?_⟩ (by dsimp only;omega)
  dsimp only
  rw [show (i+1).toNat=i.toNat+1 by omega]
 ·rw [List.take_of_length_le (by omega)]
  clear hn next
  unfold N5
  refine c8S (by omega) (by omega) ?_
  refine U6 (fun(z:List d8×Int) H'=>0≤z.2∧z.2≤ss.length∧H'=H1∧z.1=(nss.take z.2.toNat).flatten) (fun z=>(ss.length-z.2).toNat) ⟨Int.le_refl _,by simp,rfl,by simp⟩ ?_
  rintro ⟨q,j⟩ H2 next ⟨j0,j1,rfl,hq⟩ hn
  dsimp only at j0 j1 hq ⊢
  subst hq
  unfold N4
  refine ⟨fun hc=>?_,fun hc=>?_⟩
  ·obtain ⟨x,hx,hE⟩:=hs.get j0 hc
   obtain ⟨ns,hns,hS⟩:=hr.get hx
   have hlt:=P4 hx
   have e1:=b6G hns
   have e2:=b6F nss (j.toNat+1)
   have e3:(nss.take (j.toNat+1)).flatten.length=(nss.take j.toNat).flatten.length+ns.length:=by rw [e1,List.length_append]
   refine ⟨j0,hc,x,hE,ns,hS,by omega,?_⟩
   rw [a0e j0 (by simp only [big] at hss;omega),← e1]
   refine hn _ _ ⟨by dsimp only;omega,by dsimp only;omega,rfl,?_⟩ (by dsimp only;omega)
   dsimp only
   rw [show (j+1).toNat=j.toNat+1 by omega]
  ·unfold N3
   intro r H3 l3 hS _
   rw [List.take_of_length_le (by omega)] at hS
   exact h r H3 l3 hS
def nameL:Lab→ByteArray×Bool
 | .decl _ s=>(s,true)
 | .stmt k s _ _ _ _=>(s,decide (k=1)||decide (k=2))
 | .cond ..=>(⟨#[]⟩,false)
 | .expr k _ s _=>(s,decide (k=2)||decide (k=4))
theorem c0N{x:d8}{t:PT}(hx:NH H x t){K:ByteArray→Bool→Hp→Prop}(h:K (nameL t.lab).1 (nameL t.lab).2 H):a1w x H K:=by
 refine b2j _ ?_
 unfold a8c
 cases x with
 | nil=>exact hx.elim
 | O1 y=>
  cases (show t=dT y.a0I from hx)
  exact ⟨fun _=>h,fun q=>(by cases q)⟩
 | L5 y=>
  cases (show SH H y.m0 t from hx)
  exact ⟨fun q=>(by cases q),fun _=>⟨fun _=>h,fun q=>(by cases q)⟩⟩
 | G3 y=>
  cases (show EH H y.y7 t from hx)
  exact ⟨fun q=>(by cases q),fun _=>⟨fun q=>(by cases q),fun _=>⟨fun _=>h,fun q=>(by cases q)⟩⟩⟩
 | P1 y=>
  cases (show CH H y.u6 t from hx)
  exact ⟨fun q=>(by cases q),fun _=>⟨fun q=>(by cases q),fun _=>⟨fun q=>(by cases q),fun _=>h⟩⟩⟩
def formE(k n:Int)(s:ByteArray)(a:Int):Bool:=
 if (((!decide (k=1))&&(!decide (n=0)))||((!(decide (k=2)||decide (k=4)))&&(!decide (s=⟨#[]⟩))))=true then false
 else if k=1 then decide (0≤n)&&decide (a=0)
 else if k=2∨k=3 then decide (a=0)
 else if k=4∨k=5 then decide (a=1)
 else if k=6∨k=7∨k=8∨k=9∨k=10 then decide (a=2) else false
def formC(k op e p:Int):Bool:=
 if k=3 then (decide (1≤op)&&decide (op≤6))&&decide (e=2∧p=0)
 else if op=0 then
  (if k=1∨k=2 then decide (e=0∧p=0) else if k=4 then decide (e=0∧p=1) else if k=5∨k=6 then decide (e=0∧p=2) else false)
 else false
def formS(k:Int)(s:ByteArray)(e c t f:Int):Bool:=
 if k=1 then !decide (0 < t+f)&&decide (e=1∧c=0)
 else if k=2 then !decide (0 < t+f)&&decide (e=2∧c=0)
 else if k=3 then decide (s=⟨#[]⟩)&&decide (e=0∧c=1)
 else if k=4 then decide (s=⟨#[]⟩)&&decide (f=0)&&decide (e=0∧c=1)
 else if k=5∨k=6 then (decide (s=⟨#[]⟩) && !decide (0 < t+f))&&decide (e=0∧c=1)
 else if k=7 then (decide (s=⟨#[]⟩) && !decide (0 < t+f))&&decide (e=0∧c=0)
 else false
def formL:Lab→Bool
 | .decl z _=>decide (0≤z)&&decide (z≤2147483647)
 | .stmt k s e c t f=>formS k s e c t f
 | .cond k op e p=>formC k op e p
 | .expr k n s a=>formE k n s a
theorem b3a{α:Type}{b:Bool}{q:Prop} [Decidable q] (hb:b=true↔q) (x y:α):(if b=true then x else y)=if q then x else y:=by
 by_cases hq:q
 ·rw [if_pos (hb.2 hq),if_pos hq]
 ·rw [if_neg (fun e=>hq (hb.1 e)),if_neg hq]
theorem ej3{a:Int}{b:Bool}{x:L4}{K:Bool→Hp→Prop}(h:K (if b=true then decide (a=2) else false) H):K5 a b x H K:=by
 unfold K5
 cases b
 ·exact ⟨fun q=>(by cases q),fun _=>h⟩
 ·exact ⟨fun _=>h,fun q=>(by cases q)⟩
theorem ej2{a k:Int}{b:Bool}{x:L4}{K:Bool→Hp→Prop}(h:K (if b=true then decide (a=1) else if k=6∨k=7∨k=8∨k=9∨k=10 then decide (a=2) else false) H):U2 a k b x H K:=by
 unfold U2
 cases b
 ·refine ⟨fun q=>(by cases q),fun _=>?_⟩
  rw [if_neg (by decide)] at h
  refine ⟨fun e=>ej3 ?_,fun e1=>⟨fun e=>ej3 ?_,fun e2=>⟨fun e=>ej3 ?_,fun e3=>⟨fun e=>ej3 ?_,fun e4=>ej3 ?_⟩⟩⟩⟩ <;>
   (rw [b3a (q:=k=6∨k=7∨k=8∨k=9∨k=10) (by rw [decide_eq_true_eq];omega)];exact h)
 ·exact ⟨fun _=>h,fun q=>(by cases q)⟩
theorem ej1{a k:Int}{b:Bool}{x:L4}{K:Bool→Hp→Prop}(h:K (if b=true then decide (a=0) else if k=4∨k=5 then decide (a=1) else if k=6∨k=7∨k=8∨k=9∨k=10 then decide (a=2) else false) H):U3 a k b x H K:=by
 unfold U3
 cases b
 ·refine ⟨fun q=>(by cases q),fun _=>?_⟩
  rw [if_neg (by decide)] at h
  refine ⟨fun e=>ej2 ?_,fun e1=>ej2 ?_⟩ <;>
   (rw [b3a (q:=k=4∨k=5) (by rw [decide_eq_true_eq];omega)];exact h)
 ·exact ⟨fun _=>h,fun q=>(by cases q)⟩
theorem c5L{e:f8}{t:PT}(he:EH H e t){K:Bool→Hp→Prop}(h:K (formL t.lab) H):a2Q ⟨e⟩ H K:=by
 refine a9T _ ?_
 unfold a5I
 refine c0N (x:=.G3 ⟨e⟩) (t:=t) he ?_
 cases he with
 | @mk e xs ts hs hb hl hr=>
  have hn:e.N8.n=ts.length:=by have:=hs.1;omega
  change K (formE e.d6 e.M4 e.o8 (ts.length:Int)) H at h
  unfold formE at h
  dsimp only [PT.lab,nameL]
  rw [hn]
  generalize (ts.length:Int)=a at h ⊢
  refine ⟨fun hg=>by rw [if_pos hg] at h;exact h,fun hg=>?_⟩
  rw [if_neg (by rw [hg];decide)] at h
  refine ⟨fun e1=>by rw [if_pos e1] at h;exact h,fun e1=>?_⟩
  rw [if_neg e1] at h
  refine ⟨fun e2=>ej1 ?_,fun e2=>ej1 ?_⟩ <;>
   (rw [b3a (q:=e.d6=2∨e.d6=3) (by rw [decide_eq_true_eq];omega)];exact h)
theorem cj2{b:Bool}{y:v8}{x:V3}{K:Bool→Hp→Prop}(h:K (if b=true then decide (y.fexprs=0∧y.fparts=2) else false) H):U0 b y x H K:=by
 unfold U0
 cases b
 ·exact ⟨fun q=>(by cases q),fun _=>h⟩
 ·exact ⟨fun _=>h,fun q=>(by cases q)⟩
theorem cj1{k:Int}{b:Bool}{y:v8}{x:V3}{K:Bool→Hp→Prop}(h:K (if b=true then decide (y.fexprs=0∧y.fparts=0) else if k=4 then decide (y.fexprs=0∧y.fparts=1) else if k=5∨k=6 then decide (y.fexprs=0∧y.fparts=2) else false) H):U1 k b y x H K:=by
 unfold U1
 cases b
 ·refine ⟨fun q=>(by cases q),fun _=>?_⟩
  rw [if_neg (by decide)] at h
  refine ⟨fun e=>by rw [if_pos e] at h;exact h,fun e=>?_⟩
  rw [if_neg e] at h
  refine ⟨fun e2=>cj2 ?_,fun e2=>cj2 ?_⟩ <;>
   (rw [b3a (q:=k=5∨k=6) (by rw [decide_eq_true_eq];omega)];exact h)
 ·exact ⟨fun _=>h,fun q=>(by cases q)⟩
theorem c5M{e:i7}{t:PT}(he:CH H e t){K:Bool→Hp→Prop}(h:K (formL t.lab) H):a2S ⟨e⟩ H K:=by
 refine a9S _ ?_
 unfold a5H
 cases he with
 | @mk e xs ts ys us hs hb hr hc hcb hcl hcr=>
  have hn:e.p7.n=ts.length:=by have:=hs.1;have:=hr.1;omega
  have hm:e.E6.n=us.length:=by have:=hc.1;omega
  change K (formC e.d6 e.fOp (ts.length:Int) (us.length:Int)) H at h
  unfold formC at h
  dsimp only
  rw [hn,hm]
  generalize (ts.length:Int)=a at h ⊢
  generalize (us.length:Int)=b at h ⊢
  refine ⟨fun e1=>by rw [if_pos e1] at h;exact h,fun e1=>?_⟩
  rw [if_neg e1] at h
  refine ⟨fun e2=>by rw [if_neg e2] at h;exact h,fun e2=>?_⟩
  rw [if_pos e2] at h
  refine ⟨fun e3=>cj1 ?_,fun e3=>cj1 ?_⟩ <;>
   (rw [b3a (q:=e.d6=1∨e.d6=2) (by rw [decide_eq_true_eq];omega)];exact h)
theorem sj1{v:Bool}{k:Int}{b:Bool}{y:G5}{x:V2}{K:Bool→Hp→Prop}(h:K (if b=true then v&&decide (y.fexprs=0∧y.fconds=1) else if k=7 then v&&decide (y.fexprs=0∧y.fconds=0) else false) H):T9 v k b y x H K:=by
 unfold T9
 cases b
 ·refine ⟨fun q=>(by cases q),fun _=>?_⟩
  rw [if_neg (by decide)] at h
  exact ⟨fun e=>by rw [if_pos e] at h;exact h,fun e=>by rw [if_neg e] at h;exact h⟩
 ·exact ⟨fun _=>h,fun q=>(by cases q)⟩
theorem c5N{e:d9}{t:PT}(he:SH H e t){K:Bool→Hp→Prop}(h:K (formL t.lab) H):a2R ⟨e⟩ H K:=by
 refine a9R _ ?_
 unfold a5G
 cases he with
 | @mk e xs ts ys us zs bs vs ws hs hb hr hc hcb hcr ha hab hal har hbs hbb hbl hbr=>
  have n1:e.p7.n=ts.length:=by have:=hs.1;have:=hr.1;omega
  have n2:e.C0.n=us.length:=by have:=hc.1;have:=hcr.1;omega
  have n3:e.P5.n=vs.length:=by have:=ha.1;omega
  have n4:e.O6.n=ws.length:=by have:=hbs.1;omega
  change K (formS e.d6 e.o8 (ts.length:Int) (us.length:Int) (vs.length:Int) (ws.length:Int)) H at h
  unfold formS at h
  dsimp only
  rw [n1,n2,n3,n4,X9 (a:=(vs.length:Int)+(ws.length:Int)) ⟨by omega,by simp only [big] at hab hbb;omega⟩]
  generalize (ts.length:Int)=a at h ⊢
  generalize (us.length:Int)=b at h ⊢
  generalize (vs.length:Int)=c at h ⊢
  generalize (ws.length:Int)=d at h ⊢
  refine ⟨fun e1=>by rw [if_pos e1] at h;exact h,fun e1=>?_⟩
  rw [if_neg e1] at h
  refine ⟨fun e1=>by rw [if_pos e1] at h;exact h,fun e2=>?_⟩
  rw [if_neg e2] at h
  refine ⟨fun e1=>by rw [if_pos e1] at h;exact h,fun e3=>?_⟩
  rw [if_neg e3] at h
  refine ⟨fun e1=>by rw [if_pos e1] at h;exact h,fun e4=>?_⟩
  rw [if_neg e4] at h
  refine ⟨fun e5=>sj1 ?_,fun e5=>sj1 ?_⟩ <;>
   (rw [b3a (q:=e.d6=5∨e.d6=6) (by rw [decide_eq_true_eq];omega)];exact h)
theorem c8T{x:d8}{t:PT}(hx:NH H x t){K:Bool→Hp→Prop}(h:K (formL t.lab) H):a4f x H K:=by
 cases x with
 | nil=>exact hx.elim
 | G3 y=>exact c5L hx h
 | P1 y=>exact c5M hx h
 | L5 y=>exact c5N hx h
 | O1 y=>
  cases (show t=dT y.a0I from hx)
  refine a9Q _ ?_
  unfold a5F
  exact h
theorem c5O{x:d8}{t:PT}(hx:NH H x t){K:Sl→Hp→Prop}(h:∀(r:Sl)(H':Hp)(ns:List d8),Hle H H'→SlH H' 1 s8 r ns→u5 (NH H') ns t.kids→t.kids.length≤4*big→K r H'):a3K x H K:=by
 cases x with
 | nil=>exact hx.elim
 | O1 y=>
  cases (show t=dT y.a0I from hx)
  refine a9s _ ?_
  unfold a4T
  exact h _ _ [] (Hle.refl _) (SlH.nil _ _ _) u5.nil (Nat.zero_le _)
 | G3 y=>
  have hx:EH H y.y7 t:=hx
  refine a9z _ ?_
  unfold a4W
  obtain ⟨e⟩:=y
  cases hx with
  | @mk e xs ts hs hb hl hr=>
   refine b0t hs hb fun r H' l hS=>h r H' _ l hS ?_ ?_
   ·exact u5.map ⟨hl,fun i a b ha hb=>EH.le l (hr i a b ha hb)⟩
   ·show ts.length≤_;omega
 | P1 y=>
  have hx:CH H y.u6 t:=hx
  refine a9t _ ?_
  unfold a4U
  obtain ⟨e⟩:=y
  cases hx with
  | @mk e xs ts ys us hs hb hr hc hcb hcl hcr=>
   refine b0t hs hb fun r1 H1 l1 hS1=>?_
   refine b3I (hc.le l1) hcb fun r2 H2 l2 hS2=>?_
   intro s H3 l3 hS hcap
   have r0:=hr.1
   refine b2r hS (nss:=[_,_]) ((u5.one (hS1.le (l2.trans l3))).app (u5.one (hS2.le l3))) ?_ (by simp [big]) fun r H4 l4 hS4=>?_
   ·simp only [List.flatten_cons,List.flatten_nil,List.append_nil,List.length_append,List.length_map];simp only [big] at hb hcb;omega
   simp only [List.flatten_cons,List.flatten_nil,List.append_nil] at hS4
   have l14:=l1.trans (l2.trans (l3.trans l4))
   refine h r H4 _ l14 hS4 ?_ ?_
   ·exact (u5.map (R:=NH H4) (f:=fun x=>.G3 ⟨x⟩) (hr.mono fun _ _=>EH.le l14)).app (u5.map (R:=NH H4) (f:=fun x=>.P1 ⟨x⟩) ⟨hcl,fun i a b ha hb=>CH.le l14 (hcr i a b ha hb)⟩)
   ·show (ts++us).length≤_;rw [List.length_append];omega
 | L5 y=>
  have hx:SH H y.m0 t:=hx
  refine a9A _ ?_
  unfold a4X
  obtain ⟨e⟩:=y
  cases hx with
  | @mk e xs ts ys us zs bs vs ws hs hb hr hc hcb hcr ha hab hal har hbs hbb hbl hbr=>
   refine b3I hc hcb fun r1 H1 l1 hS1=>?_
   refine b0t (hs.le l1) hb fun r2 H2 l2 hS2=>?_
   refine b0s (ha.le (l1.trans l2)) hab fun r3 H3 l3 hS3=>?_
   refine b0s (hbs.le (l1.trans (l2.trans l3))) hbb fun r4 H4 l4 hS4=>?_
   intro s H5 l5 hS hcap
   have r0:=hr.1
   have r0':=hcr.1
   refine b2r hS (nss:=[_,_,_,_]) ((u5.one (hS1.le (l2.trans (l3.trans (l4.trans l5))))).app ((u5.one (hS2.le (l3.trans (l4.trans l5)))).app ((u5.one (hS3.le (l4.trans l5))).app (u5.one (hS4.le l5))))) ?_ (by simp [big]) fun r H6 l6 hS6=>?_
   ·simp only [List.flatten_cons,List.flatten_nil,List.append_nil,List.length_append,List.length_map];simp only [big] at hb hcb hab hbb;omega
   simp only [List.flatten_cons,List.flatten_nil,List.append_nil] at hS6
   have l16:=l1.trans (l2.trans (l3.trans (l4.trans (l5.trans l6))))
   refine h r H6 _ l16 hS6 ?_ ?_
   ·exact (u5.map (R:=NH H6) (f:=fun x=>.P1 ⟨x⟩) (hcr.mono fun _ _=>CH.le l16)).app ((u5.map (R:=NH H6) (f:=fun x=>.G3 ⟨x⟩) (hr.mono fun _ _=>EH.le l16)).app ((u5.map (R:=NH H6) (f:=fun x=>.L5 ⟨x⟩) ⟨hal,fun i a b ha hb=>SH.le l16 (har i a b ha hb)⟩).app (u5.map (R:=NH H6) (f:=fun x=>.L5 ⟨x⟩) ⟨hbl,fun i a b ha hb=>SH.le l16 (hbr i a b ha hb)⟩)))
   ·show (us++(ts++(vs++ws))).length≤_;simp only [List.length_append];omega
end
end Go.Proofs.YtoflkliecagjcaaGreatDoor
