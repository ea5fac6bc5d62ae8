/- Nodes: a list's nodes, lists put together; a node's own form, its name, its parts. Contracts off the printed formulas. -/
import Derived.Test.YtnhdnncbjddmjaaGreatDooryEQ3
namespace Go.Proofs.YtnhdnncbjddmjaaGreatDoor
open Go.RowKit
set_option maxRecDepth 100000
set_option maxHeartbeats 2000000
def NH(H:Hp):c6→PT→Prop
 | .D5 y,t=>t=dT y.T7
 | .B4 y,t=>SH H y.d6 t
 | .E5 y,t=>CH H y.k6 t
 | .v1 y,t=>EH H y.m8 t
 | .nil,_=>False
theorem NH.le{H H':Hp}(l:Hle H H'){x:c6}{t:PT}(h:NH H x t):NH H' x t:=by
 cases x with
 | nil=>exact h
 | D5 y=>exact h
 | B4 y=>exact SH.le l h
 | E5 y=>exact CH.le l h
 | v1 y=>exact EH.le l h
theorem b0a{α:Type}(l:List (List α))(i:Nat):(l.take i).flatten.length≤l.flatten.length:=by
 have:l.flatten=(l.take i).flatten++(l.drop i).flatten:=by rw [←List.flatten_append,List.take_append_drop]
 rw [this,List.length_append];omega
theorem b0b{α:Type}{l:List (List α)}{i:Nat}{x:List α}(h:l[i]? = some x):(l.take (i+1)).flatten=(l.take i).flatten++x:=by
 rw [a1I h,List.flatten_append];simp
section
variable {H:Hp}
theorem b2I{s:Sl}{xs:List G4}(hs:SlH H 2 u7 s xs)(hb:xs.length≤big){K:Sl→Hp→Prop}(h:∀(r:Sl)(H':Hp),Hle H H'→SlH H' 1 l7 r (xs.map fun x=>c6.D5 ⟨x⟩)→K r H'):C0 s H K:=by
 refine Y5 _ ?_
 unfold C4
 have n1:=hs.1
 refine Q9 (fun(z:List c6×Int) H'=>0≤z.2∧z.2≤xs.length∧H'=H∧z.1=(xs.take z.2.toNat).map fun x=>c6.D5 ⟨x⟩) (fun z=>(xs.length-z.2).toNat) ⟨Int.le_refl _,by simp,rfl,by simp⟩ ?_
 rintro ⟨l,i⟩ H1 next ⟨i0,i1,rfl,hl⟩ hn
 dsimp only at i0 i1 hl ⊢
 unfold s8
 refine ⟨fun hc=>?_,fun hc=>?_⟩
 ·obtain ⟨x,hx,hE⟩:=hs.get i0 hc
  have hlt:=t8 hx
  refine ⟨i0,hc,x,hE,a7j _ ?_⟩
  unfold a2o
  refine ⟨?_,?_⟩
  ·rw [hl,List.length_map,List.length_take];simp only [big] at hb;simp only [List.length_cons,List.length_nil];omega
  ·rw [u5 i0 (by simp only [big] at hb;omega)]
   refine hn _ _ ⟨by dsimp only;omega,by dsimp only;omega,rfl,?_⟩ (by dsimp only;omega)
   dsimp only
   rw [show (i+1).toNat=i.toNat+1 by omega,a1I hx,List.map_append,← hl];rfl
 ·unfold s7
  intro ss H2 l2 hss hc2
  refine h ss H2 l2 ?_
  rw [hl,List.take_of_length_le (by omega)] at hss;exact hss
theorem a6C{s:Sl}{xs:List i6}(hs:SlH H 6 d7 s xs)(hb:xs.length≤big){K:Sl→Hp→Prop}(h:∀(r:Sl)(H':Hp),Hle H H'→SlH H' 1 l7 r (xs.map fun x=>c6.B4 ⟨x⟩)→K r H'):p7 s H K:=by
 refine Y1 _ ?_
 unfold C1
 have n1:=hs.1
 refine Q9 (fun(z:List c6×Int) H'=>0≤z.2∧z.2≤xs.length∧H'=H∧z.1=(xs.take z.2.toNat).map fun x=>c6.B4 ⟨x⟩) (fun z=>(xs.length-z.2).toNat) ⟨Int.le_refl _,by simp,rfl,by simp⟩ ?_
 rintro ⟨l,i⟩ H1 next ⟨i0,i1,rfl,hl⟩ hn
 dsimp only at i0 i1 hl ⊢
 unfold r8
 refine ⟨fun hc=>?_,fun hc=>?_⟩
 ·obtain ⟨x,hx,hE⟩:=hs.get i0 hc
  have hlt:=t8 hx
  refine ⟨i0,hc,x,hE,a7m _ ?_⟩
  unfold a2r
  refine ⟨?_,?_⟩
  ·rw [hl,List.length_map,List.length_take];simp only [big] at hb;simp only [List.length_cons,List.length_nil];omega
  ·rw [u5 i0 (by simp only [big] at hb;omega)]
   refine hn _ _ ⟨by dsimp only;omega,by dsimp only;omega,rfl,?_⟩ (by dsimp only;omega)
   dsimp only
   rw [show (i+1).toNat=i.toNat+1 by omega,a1I hx,List.map_append,← hl];rfl
 ·unfold r7
  intro ss H2 l2 hss hc2
  refine h ss H2 l2 ?_
  rw [hl,List.take_of_length_le (by omega)] at hss;exact hss
theorem a8C{s:Sl}{xs:List f9}(hs:SlH H 4 c9 s xs)(hb:xs.length≤big){K:Sl→Hp→Prop}(h:∀(r:Sl)(H':Hp),Hle H H'→SlH H' 1 l7 r (xs.map fun x=>c6.E5 ⟨x⟩)→K r H'):u6 s H K:=by
 refine Y6 _ ?_
 unfold C5
 have n1:=hs.1
 refine Q9 (fun(z:List c6×Int) H'=>0≤z.2∧z.2≤xs.length∧H'=H∧z.1=(xs.take z.2.toNat).map fun x=>c6.E5 ⟨x⟩) (fun z=>(xs.length-z.2).toNat) ⟨Int.le_refl _,by simp,rfl,by simp⟩ ?_
 rintro ⟨l,i⟩ H1 next ⟨i0,i1,rfl,hl⟩ hn
 dsimp only at i0 i1 hl ⊢
 unfold t6
 refine ⟨fun hc=>?_,fun hc=>?_⟩
 ·obtain ⟨x,hx,hE⟩:=hs.get i0 hc
  have hlt:=t8 hx
  refine ⟨i0,hc,x,hE,a7o _ ?_⟩
  unfold a2s
  refine ⟨?_,?_⟩
  ·rw [hl,List.length_map,List.length_take];simp only [big] at hb;simp only [List.length_cons,List.length_nil];omega
  ·rw [u5 i0 (by simp only [big] at hb;omega)]
   refine hn _ _ ⟨by dsimp only;omega,by dsimp only;omega,rfl,?_⟩ (by dsimp only;omega)
   dsimp only
   rw [show (i+1).toNat=i.toNat+1 by omega,a1I hx,List.map_append,← hl];rfl
 ·unfold s9
  intro ss H2 l2 hss hc2
  refine h ss H2 l2 ?_
  rw [hl,List.take_of_length_le (by omega)] at hss;exact hss
theorem a6D{s:Sl}{xs:List d8}(hs:SlH H 4 c7 s xs)(hb:xs.length≤big){K:Sl→Hp→Prop}(h:∀(r:Sl)(H':Hp),Hle H H'→SlH H' 1 l7 r (xs.map fun x=>c6.v1 ⟨x⟩)→K r H'):p8 s H K:=by
 refine Y4 _ ?_
 unfold C3
 have n1:=hs.1
 refine Q9 (fun(z:List c6×Int) H'=>0≤z.2∧z.2≤xs.length∧H'=H∧z.1=(xs.take z.2.toNat).map fun x=>c6.v1 ⟨x⟩) (fun z=>(xs.length-z.2).toNat) ⟨Int.le_refl _,by simp,rfl,by simp⟩ ?_
 rintro ⟨l,i⟩ H1 next ⟨i0,i1,rfl,hl⟩ hn
 dsimp only at i0 i1 hl ⊢
 unfold s6
 refine ⟨fun hc=>?_,fun hc=>?_⟩
 ·obtain ⟨x,hx,hE⟩:=hs.get i0 hc
  have hlt:=t8 hx
  refine ⟨i0,hc,x,hE,a7s _ ?_⟩
  unfold a2x
  refine ⟨?_,?_⟩
  ·rw [hl,List.length_map,List.length_take];simp only [big] at hb;simp only [List.length_cons,List.length_nil];omega
  ·rw [u5 i0 (by simp only [big] at hb;omega)]
   refine hn _ _ ⟨by dsimp only;omega,by dsimp only;omega,rfl,?_⟩ (by dsimp only;omega)
   dsimp only
   rw [show (i+1).toNat=i.toNat+1 by omega,a1I hx,List.map_append,← hl];rfl
 ·unfold r9
  intro ss H2 l2 hss hc2
  refine h ss H2 l2 ?_
  rw [hl,List.take_of_length_le (by omega)] at hss;exact hss
theorem b0c(a:Option Addr)(n c:Nat):Pu Tryz.prog (xBuiltin .cap #[86] 3 [false] [.slice a n c]) (.int .i64 (c:Int)):=by
 have e':Program.elem Tryz.prog 86=92:=by simp [Program.elem,Tryz.underlying86]
 have:xBuiltin .cap #[86] 3 [false] [.slice a n c]=xV (Builtin.cap_ #[86] 3 #[.slice a n c]):=rfl
 rw [this]
 exact Pu.ok fun w=>run_cap_slice (P:=Tryz.prog) (w:=w) 86 3 a n c (by rw [e'];exact Tryz.underlying86)
theorem b7w{n:Int}(h0:0≤n)(hb:n*17≤140737488355328){K:List c6→Hp→Prop}(h:K [] H):K9 n H K:=by
 intro w I
 refine b9h ?_
 unfold F64
 refine k8 fun j1 hx1=>?_
 refine a7 (q9 _ _ _ _ _ _) ?_
 refine a0P (fun c=>?_) (fun c=>?_)
 ·have:=of_decide_eq_true c;omega
 refine hx1 _ _ ?_
 unfold b4R
 intro _
 refine k8 fun j2 hx2=>?_
 refine a7 (b0c _ _ _) ?_
 refine a7 (a6q _ _ _) ?_
 refine a7 (a0v _ _ _ _ _ _) ?_
 refine a7 (a0v _ _ _ _ _ _) ?_
 rw [show IntKind.wrap .i64 (n-IntKind.wrap .i64 (((0:Nat):Int)-((0:Nat):Int)))=n by
  rw [show IntKind.wrap .i64 (((0:Nat):Int)-((0:Nat):Int))=0 by decide,Int.sub_zero];exact F0 ⟨by omega,by omega⟩]
 refine a7 (a1F _ _ _ _ _ _) ?_
 refine a0P (fun c=>?_) (fun c=>?_)
 ·have hp:=of_decide_eq_true c
  refine a7 (b0c _ _ _) ?_
  refine a7 (b0H (e:=92) (sz:=1) Tryz.underlying86 Tryz.sizeOf92 (s:=⟨none,0,0⟩) (h:=((0:Nat):Int)) (by decide) (by decide)) ?_
  refine b8e (z:=Value.nilIface) (bytes:=16) (kn:=.i64) Tryz.underlying86 Tryz.underlying3 b4q (by kernel_rfl) (by kernel_rfl) (by kernel_rfl) (by kernel_rfl) (by decide) G9 K4 I hp hb fun g m F' w' hr I'=>?_
  refine a7 (a6q _ _ _) ?_
  refine a7 (b0H (e:=92) (sz:=1) Tryz.underlying86 Tryz.sizeOf92 (s:=⟨some ⟨g,0,none⟩,n.toNat,m⟩) (h:=((0:Nat):Int)) (by decide) (by simp)) ?_
  refine hx2 _ _ ?_
  unfold b1N
  intro _
  refine ⟨H,_,I',[],⟨some ⟨g,0,none⟩,0,m⟩,F',?_,rfl,hr,h⟩
  simp [Sl.cut,Addr.add,nth]
 ·refine hx2 _ _ ?_
  unfold b1N
  intro _
  exact ⟨H,_,I.nil,[],⟨none,0,0⟩,[],rfl,rfl,RowL.nil G9 K4,h⟩
theorem a7W{s:Sl}{ss:List Sl}{nss:List (List c6)}(hs:SlH H 1 csl s ss)(hr:B9 (SlH H 1 l7) ss nss)(hb:nss.flatten.length*17≤140737488355328)(hss:ss.length≤big){K:Sl→Hp→Prop}
  (h:∀(r:Sl)(H':Hp),Hle H H'→SlH H' 1 l7 r nss.flatten→K r H'):t7 s H K:=by
 refine a0S _ ?_
 unfold E8
 have n1:=hs.1;have r1:=hr.1
 refine Q9 (fun(z:Int×Int) H'=>0≤z.2∧z.2≤ss.length∧H'=H∧z.1=((nss.take z.2.toNat).flatten.length:Int)) (fun z=>(ss.length-z.2).toNat) ⟨Int.le_refl _,by simp,rfl,by simp⟩ ?_
 rintro ⟨q,i⟩ H1 next ⟨i0,i1,rfl,hq⟩ hn
 dsimp only at i0 i1 hq ⊢
 subst hq
 unfold D8
 refine ⟨fun hc=>?_,fun hc=>?_⟩
 ·obtain ⟨x,hx,hE⟩:=hs.get i0 hc
  obtain ⟨ns,hns,hS⟩:=hr.get hx
  have hlt:=t8 hx
  have e1:=b0b hns
  have e2:=b0a nss (i.toNat+1)
  have e3:(nss.take (i.toNat+1)).flatten.length=(nss.take i.toNat).flatten.length+ns.length:=by rw [e1,List.length_append]
  have e4:IntKind.wrap .i64 (((nss.take i.toNat).flatten.length:Int)+(x.n:Int))=((nss.take (i.toNat+1)).flatten.length:Int):=by
   rw [F0 ⟨by omega,by have:=hS.1;omega⟩]
   have:=hS.1;omega
  refine ⟨i0,hc,x,hE,?_⟩
  rw [e4]
  refine ⟨fun hneg=>by omega,fun _=>?_⟩
  unfold y8
  rw [u5 i0 (by simp only [big] at hss;omega)]
  refine hn _ _ ⟨by dsimp only;omega,by dsimp only;omega,rfl,?_⟩ (by dsimp only;omega)
  dsimp only
  rw [show (i+1).toNat=i.toNat+1 by omega]
 ·rw [List.take_of_length_le (by omega)]
  clear hn next
  unfold z7
  refine b7w (by omega) (by omega) ?_
  refine Q9 (fun(z:List c6×Int) H'=>0≤z.2∧z.2≤ss.length∧H'=H1∧z.1=(nss.take z.2.toNat).flatten) (fun z=>(ss.length-z.2).toNat) ⟨Int.le_refl _,by simp,rfl,by simp⟩ ?_
  rintro ⟨q,j⟩ H2 next ⟨j0,j1,rfl,hq⟩ hn
  dsimp only at j0 j1 hq ⊢
  subst hq
  unfold z6
  refine ⟨fun hc=>?_,fun hc=>?_⟩
  ·obtain ⟨x,hx,hE⟩:=hs.get j0 hc
   obtain ⟨ns,hns,hS⟩:=hr.get hx
   have hlt:=t8 hx
   have e1:=b0b hns
   have e2:=b0a nss (j.toNat+1)
   have e3:(nss.take (j.toNat+1)).flatten.length=(nss.take j.toNat).flatten.length+ns.length:=by rw [e1,List.length_append]
   refine ⟨j0,hc,x,hE,ns,hS,by omega,?_⟩
   rw [u5 j0 (by simp only [big] at hss;omega),← e1]
   refine hn _ _ ⟨by dsimp only;omega,by dsimp only;omega,rfl,?_⟩ (by dsimp only;omega)
   dsimp only
   rw [show (j+1).toNat=j.toNat+1 by omega]
  ·unfold y9
   intro r H3 l3 hS _
   rw [List.take_of_length_le (by omega)] at hS
   exact h r H3 l3 hS
def nameL:Lab→ByteArray×Bool
 | .decl _ s=>(s,true)
 | .stmt k s _ _ _ _=>(s,decide (k=1)||decide (k=2))
 | .cond ..=>(⟨#[]⟩,false)
 | .expr k _ s _=>(s,decide (k=2)||decide (k=4))
theorem b2X{x:c6}{t:PT}(hx:NH H x t){K:ByteArray→Bool→Hp→Prop}(h:K (nameL t.lab).1 (nameL t.lab).2 H):Z7 x H K:=by
 refine a7O _ ?_
 unfold a2V
 cases x with
 | nil=>exact hx.elim
 | D5 y=>
  cases (show t=dT y.T7 from hx)
  exact ⟨fun _=>h,fun q=>(by cases q)⟩
 | B4 y=>
  cases (show SH H y.d6 t from hx)
  exact ⟨fun q=>(by cases q),fun _=>⟨fun _=>h,fun q=>(by cases q)⟩⟩
 | v1 y=>
  cases (show EH H y.m8 t from hx)
  exact ⟨fun q=>(by cases q),fun _=>⟨fun q=>(by cases q),fun _=>⟨fun _=>h,fun q=>(by cases q)⟩⟩⟩
 | E5 y=>
  cases (show CH H y.k6 t from hx)
  exact ⟨fun q=>(by cases q),fun _=>⟨fun q=>(by cases q),fun _=>⟨fun q=>(by cases q),fun _=>h⟩⟩⟩
def formE(k n:Int)(s:ByteArray)(a:Int):Bool:=
 if (((!decide (k=1))&&(!decide (n=0)))||((!(decide (k=2)||decide (k=4)))&&(!decide (s=⟨#[]⟩))))=true then false
 else if k=1 then decide (0≤n)&&decide (a=0)
 else if k=2∨k=3 then decide (a=0)
 else if k=4∨k=5 then decide (a=1)
 else if k=6∨k=7∨k=8∨k=9∨k=10 then decide (a=2) else false
def formC(k op e p:Int):Bool:=
 if k=3 then (decide (1≤op)&&decide (op≤6))&&decide (e=2∧p=0)
 else if op=0 then
  (if k=1∨k=2 then decide (e=0∧p=0) else if k=4 then decide (e=0∧p=1) else if k=5∨k=6 then decide (e=0∧p=2) else false)
 else false
def formS(k:Int)(s:ByteArray)(e c t f:Int):Bool:=
 if k=1 then !decide (0 < t+f)&&decide (e=1∧c=0)
 else if k=2 then !decide (0 < t+f)&&decide (e=2∧c=0)
 else if k=3 then decide (s=⟨#[]⟩)&&decide (e=0∧c=1)
 else if k=4 then decide (s=⟨#[]⟩)&&decide (f=0)&&decide (e=0∧c=1)
 else if k=5∨k=6 then (decide (s=⟨#[]⟩) && !decide (0 < t+f))&&decide (e=0∧c=1)
 else if k=7 then (decide (s=⟨#[]⟩) && !decide (0 < t+f))&&decide (e=0∧c=0)
 else false
def formL:Lab→Bool
 | .decl z _=>decide (0≤z)&&decide (z≤2147483647)
 | .stmt k s e c t f=>formS k s e c t f
 | .cond k op e p=>formC k op e p
 | .expr k n s a=>formE k n s a
theorem a8p{α:Type}{b:Bool}{q:Prop} [Decidable q] (hb:b=true↔q) (x y:α):(if b=true then x else y)=if q then x else y:=by
 by_cases hq:q
 ·rw [if_pos (hb.2 hq),if_pos hq]
 ·rw [if_neg (fun e=>hq (hb.1 e)),if_neg hq]
theorem ej3{a:Int}{b:Bool}{x:B6}{K:Bool→Hp→Prop}(h:K (if b=true then decide (a=2) else false) H):z8 a b x H K:=by
 unfold z8
 cases b
 ·exact ⟨fun q=>(by cases q),fun _=>h⟩
 ·exact ⟨fun _=>h,fun q=>(by cases q)⟩
theorem ej2{a k:Int}{b:Bool}{x:B6}{K:Bool→Hp→Prop}(h:K (if b=true then decide (a=1) else if k=6∨k=7∨k=8∨k=9∨k=10 then decide (a=2) else false) H):H9 a k b x H K:=by
 unfold H9
 cases b
 ·refine ⟨fun q=>(by cases q),fun _=>?_⟩
  rw [if_neg (by decide)] at h
  refine ⟨fun e=>ej3 ?_,fun e1=>⟨fun e=>ej3 ?_,fun e2=>⟨fun e=>ej3 ?_,fun e3=>⟨fun e=>ej3 ?_,fun e4=>ej3 ?_⟩⟩⟩⟩ <;>
   (rw [a8p (q:=k=6∨k=7∨k=8∨k=9∨k=10) (by rw [decide_eq_true_eq];omega)];exact h)
 ·exact ⟨fun _=>h,fun q=>(by cases q)⟩
theorem ej1{a k:Int}{b:Bool}{x:B6}{K:Bool→Hp→Prop}(h:K (if b=true then decide (a=0) else if k=4∨k=5 then decide (a=1) else if k=6∨k=7∨k=8∨k=9∨k=10 then decide (a=2) else false) H):I0 a k b x H K:=by
 unfold I0
 cases b
 ·refine ⟨fun q=>(by cases q),fun _=>?_⟩
  rw [if_neg (by decide)] at h
  refine ⟨fun e=>ej2 ?_,fun e1=>ej2 ?_⟩ <;>
   (rw [a8p (q:=k=4∨k=5) (by rw [decide_eq_true_eq];omega)];exact h)
 ·exact ⟨fun _=>h,fun q=>(by cases q)⟩
theorem b5R{e:d8}{t:PT}(he:EH H e t){K:Bool→Hp→Prop}(h:K (formL t.lab) H):a1s ⟨e⟩ H K:=by
 refine a6k _ ?_
 unfold a1y
 refine b2X (x:=.v1 ⟨e⟩) (t:=t) he ?_
 cases he with
 | @mk e xs ts hs hb hl hr=>
  have hn:e.r5.n=ts.length:=by have:=hs.1;omega
  change K (formE e.b8 e.a0w e.f4 (ts.length:Int)) H at h
  unfold formE at h
  dsimp only [PT.lab,nameL]
  rw [hn]
  generalize (ts.length:Int)=a at h ⊢
  refine ⟨fun hg=>by rw [if_pos hg] at h;exact h,fun hg=>?_⟩
  rw [if_neg (by rw [hg];decide)] at h
  refine ⟨fun e1=>by rw [if_pos e1] at h;exact h,fun e1=>?_⟩
  rw [if_neg e1] at h
  refine ⟨fun e2=>ej1 ?_,fun e2=>ej1 ?_⟩ <;>
   (rw [a8p (q:=e.b8=2∨e.b8=3) (by rw [decide_eq_true_eq];omega)];exact h)
theorem cj2{b:Bool}{y:g9}{x:L5}{K:Bool→Hp→Prop}(h:K (if b=true then decide (y.fexprs=0∧y.fparts=2) else false) H):J0 b y x H K:=by
 unfold J0
 cases b
 ·exact ⟨fun q=>(by cases q),fun _=>h⟩
 ·exact ⟨fun _=>h,fun q=>(by cases q)⟩
theorem cj1{k:Int}{b:Bool}{y:g9}{x:L5}{K:Bool→Hp→Prop}(h:K (if b=true then decide (y.fexprs=0∧y.fparts=0) else if k=4 then decide (y.fexprs=0∧y.fparts=1) else if k=5∨k=6 then decide (y.fexprs=0∧y.fparts=2) else false) H):J1 k b y x H K:=by
 unfold J1
 cases b
 ·refine ⟨fun q=>(by cases q),fun _=>?_⟩
  rw [if_neg (by decide)] at h
  refine ⟨fun e=>by rw [if_pos e] at h;exact h,fun e=>?_⟩
  rw [if_neg e] at h
  refine ⟨fun e2=>cj2 ?_,fun e2=>cj2 ?_⟩ <;>
   (rw [a8p (q:=k=5∨k=6) (by rw [decide_eq_true_eq];omega)];exact h)
 ·exact ⟨fun _=>h,fun q=>(by cases q)⟩
theorem b5S{e:f9}{t:PT}(he:CH H e t){K:Bool→Hp→Prop}(h:K (formL t.lab) H):a1u ⟨e⟩ H K:=by
 refine a6l _ ?_
 unfold a1z
 cases he with
 | @mk e xs ts ys us hs hb hr hc hcb hcl hcr=>
  have hn:e.f0.n=ts.length:=by have:=hs.1;have:=hr.1;omega
  have hm:e.o0.n=us.length:=by have:=hc.1;omega
  change K (formC e.b8 e.fOp (ts.length:Int) (us.length:Int)) H at h
  unfold formC at h
  dsimp only
  rw [hn,hm]
  generalize (ts.length:Int)=a at h ⊢
  generalize (us.length:Int)=b at h ⊢
  refine ⟨fun e1=>by rw [if_pos e1] at h;exact h,fun e1=>?_⟩
  rw [if_neg e1] at h
  refine ⟨fun e2=>by rw [if_neg e2] at h;exact h,fun e2=>?_⟩
  rw [if_pos e2] at h
  refine ⟨fun e3=>cj1 ?_,fun e3=>cj1 ?_⟩ <;>
   (rw [a8p (q:=e.b8=1∨e.b8=2) (by rw [decide_eq_true_eq];omega)];exact h)
theorem sj1{v:Bool}{k:Int}{b:Bool}{y:p6}{x:L4}{K:Bool→Hp→Prop}(h:K (if b=true then v&&decide (y.fexprs=0∧y.fconds=1) else if k=7 then v&&decide (y.fexprs=0∧y.fconds=0) else false) H):J2 v k b y x H K:=by
 unfold J2
 cases b
 ·refine ⟨fun q=>(by cases q),fun _=>?_⟩
  rw [if_neg (by decide)] at h
  exact ⟨fun e=>by rw [if_pos e] at h;exact h,fun e=>by rw [if_neg e] at h;exact h⟩
 ·exact ⟨fun _=>h,fun q=>(by cases q)⟩
theorem b5T{e:i6}{t:PT}(he:SH H e t){K:Bool→Hp→Prop}(h:K (formL t.lab) H):a1t ⟨e⟩ H K:=by
 refine a6m _ ?_
 unfold a1A
 cases he with
 | @mk e xs ts ys us zs bs vs ws hs hb hr hc hcb hcr ha hab hal har hbs hbb hbl hbr=>
  have n1:e.f0.n=ts.length:=by have:=hs.1;have:=hr.1;omega
  have n2:e.m7.n=us.length:=by have:=hc.1;have:=hcr.1;omega
  have n3:e.D1.n=vs.length:=by have:=ha.1;omega
  have n4:e.A6.n=ws.length:=by have:=hbs.1;omega
  change K (formS e.b8 e.f4 (ts.length:Int) (us.length:Int) (vs.length:Int) (ws.length:Int)) H at h
  unfold formS at h
  dsimp only
  rw [n1,n2,n3,n4,F0 (a:=(vs.length:Int)+(ws.length:Int)) ⟨by omega,by simp only [big] at hab hbb;omega⟩]
  generalize (ts.length:Int)=a at h ⊢
  generalize (us.length:Int)=b at h ⊢
  generalize (vs.length:Int)=c at h ⊢
  generalize (ws.length:Int)=d at h ⊢
  refine ⟨fun e1=>by rw [if_pos e1] at h;exact h,fun e1=>?_⟩
  rw [if_neg e1] at h
  refine ⟨fun e1=>by rw [if_pos e1] at h;exact h,fun e2=>?_⟩
  rw [if_neg e2] at h
  refine ⟨fun e1=>by rw [if_pos e1] at h;exact h,fun e3=>?_⟩
  rw [if_neg e3] at h
  refine ⟨fun e1=>by rw [if_pos e1] at h;exact h,fun e4=>?_⟩
  rw [if_neg e4] at h
  refine ⟨fun e5=>sj1 ?_,fun e5=>sj1 ?_⟩ <;>
   (rw [a8p (q:=e.b8=5∨e.b8=6) (by rw [decide_eq_true_eq];omega)];exact h)
theorem b7x{x:c6}{t:PT}(hx:NH H x t){K:Bool→Hp→Prop}(h:K (formL t.lab) H):a2l x H K:=by
 cases x with
 | nil=>exact hx.elim
 | v1 y=>exact b5R hx h
 | E5 y=>exact b5S hx h
 | B4 y=>exact b5T hx h
 | D5 y=>
  cases (show t=dT y.T7 from hx)
  refine a6j _ ?_
  unfold a1x
  exact h
theorem b5U{x:c6}{t:PT}(hx:NH H x t){K:Sl→Hp→Prop}(h:∀(r:Sl)(H':Hp)(ns:List c6),Hle H H'→SlH H' 1 l7 r ns→B9 (NH H') ns t.kids→t.kids.length≤4*big→K r H'):a1Z x H K:=by
 cases x with
 | nil=>exact hx.elim
 | D5 y=>
  cases (show t=dT y.T7 from hx)
  refine a5P _ ?_
  unfold a1e
  exact h _ _ [] (Hle.refl _) (SlH.nil _ _ _) B9.nil (Nat.zero_le _)
 | v1 y=>
  have hx:EH H y.m8 t:=hx
  refine a5Y _ ?_
  unfold a1k
  obtain ⟨e⟩:=y
  cases hx with
  | @mk e xs ts hs hb hl hr=>
   refine a6D hs hb fun r H' l hS=>h r H' _ l hS ?_ ?_
   ·exact B9.map ⟨hl,fun i a b ha hb=>EH.le l (hr i a b ha hb)⟩
   ·show ts.length≤_;omega
 | E5 y=>
  have hx:CH H y.k6 t:=hx
  refine a5T _ ?_
  unfold a1h
  obtain ⟨e⟩:=y
  cases hx with
  | @mk e xs ts ys us hs hb hr hc hcb hcl hcr=>
   refine a6D hs hb fun r1 H1 l1 hS1=>?_
   refine a8C (hc.le l1) hcb fun r2 H2 l2 hS2=>?_
   intro s H3 l3 hS hcap
   have r0:=hr.1
   refine a7W hS (nss:=[_,_]) ((B9.one (hS1.le (l2.trans l3))).app (B9.one (hS2.le l3))) ?_ (by simp [big]) fun r H4 l4 hS4=>?_
   ·simp only [List.flatten_cons,List.flatten_nil,List.append_nil,List.length_append,List.length_map];simp only [big] at hb hcb;omega
   simp only [List.flatten_cons,List.flatten_nil,List.append_nil] at hS4
   have l14:=l1.trans (l2.trans (l3.trans l4))
   refine h r H4 _ l14 hS4 ?_ ?_
   ·exact (B9.map (R:=NH H4) (f:=fun x=>.v1 ⟨x⟩) (hr.mono fun _ _=>EH.le l14)).app (B9.map (R:=NH H4) (f:=fun x=>.E5 ⟨x⟩) ⟨hcl,fun i a b ha hb=>CH.le l14 (hcr i a b ha hb)⟩)
   ·show (ts++us).length≤_;rw [List.length_append];omega
 | B4 y=>
  have hx:SH H y.d6 t:=hx
  refine a5Z _ ?_
  unfold a1l
  obtain ⟨e⟩:=y
  cases hx with
  | @mk e xs ts ys us zs bs vs ws hs hb hr hc hcb hcr ha hab hal har hbs hbb hbl hbr=>
   refine a8C hc hcb fun r1 H1 l1 hS1=>?_
   refine a6D (hs.le l1) hb fun r2 H2 l2 hS2=>?_
   refine a6C (ha.le (l1.trans l2)) hab fun r3 H3 l3 hS3=>?_
   refine a6C (hbs.le (l1.trans (l2.trans l3))) hbb fun r4 H4 l4 hS4=>?_
   intro s H5 l5 hS hcap
   have r0:=hr.1
   have r0':=hcr.1
   refine a7W hS (nss:=[_,_,_,_]) ((B9.one (hS1.le (l2.trans (l3.trans (l4.trans l5))))).app ((B9.one (hS2.le (l3.trans (l4.trans l5)))).app ((B9.one (hS3.le (l4.trans l5))).app (B9.one (hS4.le l5))))) ?_ (by simp [big]) fun r H6 l6 hS6=>?_
   ·simp only [List.flatten_cons,List.flatten_nil,List.append_nil,List.length_append,List.length_map];simp only [big] at hb hcb hab hbb;omega
   simp only [List.flatten_cons,List.flatten_nil,List.append_nil] at hS6
   have l16:=l1.trans (l2.trans (l3.trans (l4.trans (l5.trans l6))))
   refine h r H6 _ l16 hS6 ?_ ?_
   ·exact (B9.map (R:=NH H6) (f:=fun x=>.E5 ⟨x⟩) (hcr.mono fun _ _=>CH.le l16)).app ((B9.map (R:=NH H6) (f:=fun x=>.v1 ⟨x⟩) (hr.mono fun _ _=>EH.le l16)).app ((B9.map (R:=NH H6) (f:=fun x=>.B4 ⟨x⟩) ⟨hal,fun i a b ha hb=>SH.le l16 (har i a b ha hb)⟩).app (B9.map (R:=NH H6) (f:=fun x=>.B4 ⟨x⟩) ⟨hbl,fun i a b ha hb=>SH.le l16 (hbr i a b ha hb)⟩)))
   ·show (us++(ts++(vs++ws))).length≤_;simp only [List.length_append];omega
end
end Go.Proofs.YtnhdnncbjddmjaaGreatDoor
