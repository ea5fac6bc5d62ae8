/- Nodes: a list's nodes, lists put together; a node's own form, its name, its parts. Contracts off the printed formulas. -/
import Derived.Test.YtaokfhdinhimfaaGreatDooryLQ3
namespace Go.Proofs.YtaokfhdinhimfaaGreatDoor
open Go.RowKit
set_option maxRecDepth 100000
set_option maxHeartbeats 2000000
def NH(H:Hp):f5→PT→Prop
 | .O5 y,t=>t=dT y.a1J
 | .L6 y,t=>SH H y.m1 t
 | .P5 y,t=>CH H y.s6 t
 | .K7 y,t=>EH H y.y7 t
 | .nil,_=>False
theorem NH.le{H H':Hp}(l:Hle H H'){x:f5}{t:PT}(h:NH H x t):NH H' x t:=by
 cases x with
 | nil=>exact h
 | O5 y=>exact h
 | L6 y=>exact SH.le l h
 | P5 y=>exact CH.le l h
 | K7 y=>exact EH.le l h
theorem b8j{α:Type}(l:List (List α))(i:Nat):(l.take i).flatten.length≤l.flatten.length:=by
 have:l.flatten=(l.take i).flatten++(l.drop i).flatten:=by rw [←List.flatten_append,List.take_append_drop]
 rw [this,List.length_append];omega
theorem b8k{α:Type}{l:List (List α)}{i:Nat}{x:List α}(h:l[i]? = some x):(l.take (i+1)).flatten=(l.take i).flatten++x:=by
 rw [K9 h,List.flatten_append];simp
section
variable {H:Hp}
theorem c1d{s:Sl}{xs:List i7}(hs:SlH H 2 i5 s xs)(hb:xs.length≤big){K:Sl→Hp→Prop}(h:∀(r:Sl)(H':Hp),Hle H H'→SlH H' 1 v7 r (xs.map fun x=>f5.O5 ⟨x⟩)→K r H'):L9 s H K:=by
 refine a3b _ ?_
 unfold M3
 have n1:=hs.1
 refine Q6 (fun(z:List f5×Int) H'=>0≤z.2∧z.2≤xs.length∧H'=H∧z.1=(xs.take z.2.toNat).map fun x=>f5.O5 ⟨x⟩) (fun z=>(xs.length-z.2).toNat) ⟨Int.le_refl _,by simp,rfl,by simp⟩ ?_
 rintro ⟨l,i⟩ H1 next ⟨i0,i1,rfl,hl⟩ hn
 dsimp only at i0 i1 hl ⊢
 unfold D6
 refine ⟨fun hc=>?_,fun hc=>?_⟩
 ·obtain ⟨x,hx,hE⟩:=hs.get i0 hc
  have hlt:=v1 hx
  refine ⟨i0,hc,x,hE,b3x _ ?_⟩
  unfold a6x
  refine ⟨?_,?_⟩
  ·rw [hl,List.length_map,List.length_take];simp only [big] at hb;simp only [List.length_cons,List.length_nil];omega
  ·rw [q6 i0 (by simp only [big] at hb;omega)]
   refine hn _ _ ⟨by dsimp only;omega,by dsimp only;omega,rfl,?_⟩ (by dsimp only;omega)
   dsimp only
   rw [show (i+1).toNat=i.toNat+1 by omega,K9 hx,List.map_append,← hl];rfl
 ·unfold D5
  intro ss H2 l2 hss hc2
  refine h ss H2 l2 ?_
  rw [hl,List.take_of_length_le (by omega)] at hss;exact hss
theorem b2H{s:Sl}{xs:List i8}(hs:SlH H 6 g7 s xs)(hb:xs.length≤big){K:Sl→Hp→Prop}(h:∀(r:Sl)(H':Hp),Hle H H'→SlH H' 1 v7 r (xs.map fun x=>f5.L6 ⟨x⟩)→K r H'):B1 s H K:=by
 refine a3h _ ?_
 unfold M4
 have n1:=hs.1
 refine Q6 (fun(z:List f5×Int) H'=>0≤z.2∧z.2≤xs.length∧H'=H∧z.1=(xs.take z.2.toNat).map fun x=>f5.L6 ⟨x⟩) (fun z=>(xs.length-z.2).toNat) ⟨Int.le_refl _,by simp,rfl,by simp⟩ ?_
 rintro ⟨l,i⟩ H1 next ⟨i0,i1,rfl,hl⟩ hn
 dsimp only at i0 i1 hl ⊢
 unfold D8
 refine ⟨fun hc=>?_,fun hc=>?_⟩
 ·obtain ⟨x,hx,hE⟩:=hs.get i0 hc
  have hlt:=v1 hx
  refine ⟨i0,hc,x,hE,b3G _ ?_⟩
  unfold a6G
  refine ⟨?_,?_⟩
  ·rw [hl,List.length_map,List.length_take];simp only [big] at hb;simp only [List.length_cons,List.length_nil];omega
  ·rw [q6 i0 (by simp only [big] at hb;omega)]
   refine hn _ _ ⟨by dsimp only;omega,by dsimp only;omega,rfl,?_⟩ (by dsimp only;omega)
   dsimp only
   rw [show (i+1).toNat=i.toNat+1 by omega,K9 hx,List.map_append,← hl];rfl
 ·unfold D7
  intro ss H2 l2 hss hc2
  refine h ss H2 l2 ?_
  rw [hl,List.take_of_length_le (by omega)] at hss;exact hss
theorem b5x{s:Sl}{xs:List j8}(hs:SlH H 4 f7 s xs)(hb:xs.length≤big){K:Sl→Hp→Prop}(h:∀(r:Sl)(H':Hp),Hle H H'→SlH H' 1 v7 r (xs.map fun x=>f5.P5 ⟨x⟩)→K r H'):E8 s H K:=by
 refine a3o _ ?_
 unfold M9
 have n1:=hs.1
 refine Q6 (fun(z:List f5×Int) H'=>0≤z.2∧z.2≤xs.length∧H'=H∧z.1=(xs.take z.2.toNat).map fun x=>f5.P5 ⟨x⟩) (fun z=>(xs.length-z.2).toNat) ⟨Int.le_refl _,by simp,rfl,by simp⟩ ?_
 rintro ⟨l,i⟩ H1 next ⟨i0,i1,rfl,hl⟩ hn
 dsimp only at i0 i1 hl ⊢
 unfold E0
 refine ⟨fun hc=>?_,fun hc=>?_⟩
 ·obtain ⟨x,hx,hE⟩:=hs.get i0 hc
  have hlt:=v1 hx
  refine ⟨i0,hc,x,hE,b3F _ ?_⟩
  unfold a6E
  refine ⟨?_,?_⟩
  ·rw [hl,List.length_map,List.length_take];simp only [big] at hb;simp only [List.length_cons,List.length_nil];omega
  ·rw [q6 i0 (by simp only [big] at hb;omega)]
   refine hn _ _ ⟨by dsimp only;omega,by dsimp only;omega,rfl,?_⟩ (by dsimp only;omega)
   dsimp only
   rw [show (i+1).toNat=i.toNat+1 by omega,K9 hx,List.map_append,← hl];rfl
 ·unfold D9
  intro ss H2 l2 hss hc2
  refine h ss H2 l2 ?_
  rw [hl,List.take_of_length_le (by omega)] at hss;exact hss
theorem b2I{s:Sl}{xs:List f8}(hs:SlH H 4 d7 s xs)(hb:xs.length≤big){K:Sl→Hp→Prop}(h:∀(r:Sl)(H':Hp),Hle H H'→SlH H' 1 v7 r (xs.map fun x=>f5.K7 ⟨x⟩)→K r H'):B2 s H K:=by
 refine a3p _ ?_
 unfold N0
 have n1:=hs.1
 refine Q6 (fun(z:List f5×Int) H'=>0≤z.2∧z.2≤xs.length∧H'=H∧z.1=(xs.take z.2.toNat).map fun x=>f5.K7 ⟨x⟩) (fun z=>(xs.length-z.2).toNat) ⟨Int.le_refl _,by simp,rfl,by simp⟩ ?_
 rintro ⟨l,i⟩ H1 next ⟨i0,i1,rfl,hl⟩ hn
 dsimp only at i0 i1 hl ⊢
 unfold E2
 refine ⟨fun hc=>?_,fun hc=>?_⟩
 ·obtain ⟨x,hx,hE⟩:=hs.get i0 hc
  have hlt:=v1 hx
  refine ⟨i0,hc,x,hE,b3C _ ?_⟩
  unfold a6z
  refine ⟨?_,?_⟩
  ·rw [hl,List.length_map,List.length_take];simp only [big] at hb;simp only [List.length_cons,List.length_nil];omega
  ·rw [q6 i0 (by simp only [big] at hb;omega)]
   refine hn _ _ ⟨by dsimp only;omega,by dsimp only;omega,rfl,?_⟩ (by dsimp only;omega)
   dsimp only
   rw [show (i+1).toNat=i.toNat+1 by omega,K9 hx,List.map_append,← hl];rfl
 ·unfold E1
  intro ss H2 l2 hss hc2
  refine h ss H2 l2 ?_
  rw [hl,List.take_of_length_le (by omega)] at hss;exact hss
theorem b8l(a:Option Addr)(n c:Nat):Pu Tryz.prog (xBuiltin .cap #[179] 3 [false] [.slice a n c]) (.int .i64 (c:Int)):=by
 have e':Program.elem Tryz.prog 179=182:=by simp [Program.elem,Tryz.underlying179]
 have:xBuiltin .cap #[179] 3 [false] [.slice a n c]=xV (Builtin.cap_ #[179] 3 #[.slice a n c]):=rfl
 rw [this]
 exact Pu.ok fun w=>run_cap_slice (P:=Tryz.prog) (w:=w) 179 3 a n c (by rw [e'];exact Tryz.underlying179)
theorem c8t{n:Int}(h0:0≤n)(hb:n*17≤140737488355328){K:List f5→Hp→Prop}(h:K [] H):W4 n H K:=by
 intro w I
 refine c7Q ?_
 unfold d0Y
 refine o6 fun j1 hx1=>?_
 refine c5 (u0 _ _ _ _ _ _) ?_
 refine a5b (fun c=>?_) (fun c=>?_)
 ·have:=of_decide_eq_true c;omega
 refine hx1 _ _ ?_
 unfold c1R
 intro _
 refine o6 fun j2 hx2=>?_
 refine c5 (b8l _ _ _) ?_
 refine c5 (b0G _ _ _) ?_
 refine c5 (a7n _ _ _ _ _ _) ?_
 refine c5 (a7n _ _ _ _ _ _) ?_
 rw [show IntKind.wrap .i64 (n-IntKind.wrap .i64 (((0:Nat):Int)-((0:Nat):Int)))=n by
  rw [show IntKind.wrap .i64 (((0:Nat):Int)-((0:Nat):Int))=0 by decide,Int.sub_zero];exact N7 ⟨by omega,by omega⟩]
 refine c5 (Y1 _ _ _ _ _ _) ?_
 refine a5b (fun c=>?_) (fun c=>?_)
 ·have hp:=of_decide_eq_true c
  refine c5 (b8l _ _ _) ?_
  refine c5 (b3j (e:=182) (sz:=1) Tryz.underlying179 Tryz.sizeOf182 (s:=⟨none,0,0⟩) (h:=((0:Nat):Int)) (by decide) (by decide)) ?_
  refine c9h (z:=Value.nilIface) (bytes:=16) (kn:=.i64) Tryz.underlying179 Tryz.underlying3 c1s (by kernel_rfl) (by kernel_rfl) (by kernel_rfl) (by kernel_rfl) (by decide) U8 a0b I hp hb fun g m F' w' hr I'=>?_
  refine c5 (b0G _ _ _) ?_
  refine c5 (b3j (e:=182) (sz:=1) Tryz.underlying179 Tryz.sizeOf182 (s:=⟨some ⟨g,0,none⟩,n.toNat,m⟩) (h:=((0:Nat):Int)) (by decide) (by simp)) ?_
  refine hx2 _ _ ?_
  unfold b7s
  intro _
  refine ⟨H,_,I',[],⟨some ⟨g,0,none⟩,0,m⟩,F',?_,rfl,hr,h⟩
  simp [Sl.cut,Addr.add,nth]
 ·refine hx2 _ _ ?_
  unfold b7s
  intro _
  exact ⟨H,_,I.nil,[],⟨none,0,0⟩,[],rfl,rfl,RowL.nil U8 a0b,h⟩
theorem b4z{s:Sl}{ss:List Sl}{nss:List (List f5)}(hs:SlH H 1 csl s ss)(hr:N1 (SlH H 1 v7) ss nss)(hb:nss.flatten.length*17≤140737488355328)(hss:ss.length≤big){K:Sl→Hp→Prop}
  (h:∀(r:Sl)(H':Hp),Hle H H'→SlH H' 1 v7 r nss.flatten→K r H'):E3 s H K:=by
 refine a5e _ ?_
 unfold Q3
 have n1:=hs.1;have r1:=hr.1
 refine Q6 (fun(z:Int×Int) H'=>0≤z.2∧z.2≤ss.length∧H'=H∧z.1=((nss.take z.2.toNat).flatten.length:Int)) (fun z=>(ss.length-z.2).toNat) ⟨Int.le_refl _,by simp,rfl,by simp⟩ ?_
 rintro ⟨q,i⟩ H1 next ⟨i0,i1,rfl,hq⟩ hn
 dsimp only at i0 i1 hq ⊢
 subst hq
 unfold O7
 refine ⟨fun hc=>?_,fun hc=>?_⟩
 ·obtain ⟨x,hx,hE⟩:=hs.get i0 hc
  obtain ⟨ns,hns,hS⟩:=hr.get hx
  have hlt:=v1 hx
  have e1:=b8k hns
  have e2:=b8j nss (i.toNat+1)
  have e3:(nss.take (i.toNat+1)).flatten.length=(nss.take i.toNat).flatten.length+ns.length:=by rw [e1,List.length_append]
  have e4:IntKind.wrap .i64 (((nss.take i.toNat).flatten.length:Int)+(x.n:Int))=((nss.take (i.toNat+1)).flatten.length:Int):=by
   rw [N7 ⟨by omega,by have:=hS.1;omega⟩]
   have:=hS.1;omega
  refine ⟨i0,hc,x,hE,?_⟩
  rw [e4]
  refine ⟨fun hneg=>by omega,fun _=>?_⟩
  unfold H9
  rw [q6 i0 (by simp only [big] at hss;omega)]
  refine hn _ _ ⟨by dsimp only;omega,by dsimp only;omega,rfl,?_⟩ (by dsimp only;omega)
  dsimp only
  rw [show (i+1).toNat=i.toNat+1 by omega]
 ·rw [List.take_of_length_le (by omega)]
  clear hn next
  unfold J1
  refine c8t (by omega) (by omega) ?_
  refine Q6 (fun(z:List f5×Int) H'=>0≤z.2∧z.2≤ss.length∧H'=H1∧z.1=(nss.take z.2.toNat).flatten) (fun z=>(ss.length-z.2).toNat) ⟨Int.le_refl _,by simp,rfl,by simp⟩ ?_
  rintro ⟨q,j⟩ H2 next ⟨j0,j1,rfl,hq⟩ hn
  dsimp only at j0 j1 hq ⊢
  subst hq
  unfold J0
  refine ⟨fun hc=>?_,fun hc=>?_⟩
  ·obtain ⟨x,hx,hE⟩:=hs.get j0 hc
   obtain ⟨ns,hns,hS⟩:=hr.get hx
   have hlt:=v1 hx
   have e1:=b8k hns
   have e2:=b8j nss (j.toNat+1)
   have e3:(nss.take (j.toNat+1)).flatten.length=(nss.take j.toNat).flatten.length+ns.length:=by rw [e1,List.length_append]
   refine ⟨j0,hc,x,hE,ns,hS,by omega,?_⟩
   rw [q6 j0 (by simp only [big] at hss;omega),← e1]
   refine hn _ _ ⟨by dsimp only;omega,by dsimp only;omega,rfl,?_⟩ (by dsimp only;omega)
   dsimp only
   rw [show (j+1).toNat=j.toNat+1 by omega]
  ·unfold I0
   intro r H3 l3 hS _
   rw [List.take_of_length_le (by omega)] at hS
   exact h r H3 l3 hS
def nameL:Lab→ByteArray×Bool
 | .decl _ s=>(s,true)
 | .stmt k s _ _ _ _=>(s,decide (k=1)||decide (k=2))
 | .cond ..=>(⟨#[]⟩,false)
 | .expr k _ s _=>(s,decide (k=2)||decide (k=4))
theorem c1Y{x:f5}{t:PT}(hx:NH H x t){K:ByteArray→Bool→Hp→Prop}(h:K (nameL t.lab).1 (nameL t.lab).2 H):a3A x H K:=by
 refine b4v _ ?_
 unfold a7v
 cases x with
 | nil=>exact hx.elim
 | O5 y=>
  cases (show t=dT y.a1J from hx)
  exact ⟨fun _=>h,fun q=>(by cases q)⟩
 | L6 y=>
  cases (show SH H y.m1 t from hx)
  exact ⟨fun q=>(by cases q),fun _=>⟨fun _=>h,fun q=>(by cases q)⟩⟩
 | K7 y=>
  cases (show EH H y.y7 t from hx)
  exact ⟨fun q=>(by cases q),fun _=>⟨fun q=>(by cases q),fun _=>⟨fun _=>h,fun q=>(by cases q)⟩⟩⟩
 | P5 y=>
  cases (show CH H y.s6 t from hx)
  exact ⟨fun q=>(by cases q),fun _=>⟨fun q=>(by cases q),fun _=>⟨fun q=>(by cases q),fun _=>h⟩⟩⟩
def formE(k n:Int)(s:ByteArray)(a:Int):Bool:=
 if (((!decide (k=1))&&(!decide (n=0)))||((!(decide (k=2)||decide (k=4)))&&(!decide (s=⟨#[]⟩))))=true then false
 else if k=1 then decide (0≤n)&&decide (a=0)
 else if k=2∨k=3 then decide (a=0)
 else if k=4∨k=5 then decide (a=1)
 else if k=6∨k=7∨k=8∨k=9∨k=10 then decide (a=2) else false
def formC(k op e p:Int):Bool:=
 if k=3 then (decide (1≤op)&&decide (op≤6))&&decide (e=2∧p=0)
 else if op=0 then
  (if k=1∨k=2 then decide (e=0∧p=0) else if k=4 then decide (e=0∧p=1) else if k=5∨k=6 then decide (e=0∧p=2) else false)
 else false
def formS(k:Int)(s:ByteArray)(e c t f:Int):Bool:=
 if k=1 then !decide (0 < t+f)&&decide (e=1∧c=0)
 else if k=2 then !decide (0 < t+f)&&decide (e=2∧c=0)
 else if k=3 then decide (s=⟨#[]⟩)&&decide (e=0∧c=1)
 else if k=4 then decide (s=⟨#[]⟩)&&decide (f=0)&&decide (e=0∧c=1)
 else if k=5∨k=6 then (decide (s=⟨#[]⟩) && !decide (0 < t+f))&&decide (e=0∧c=1)
 else if k=7 then (decide (s=⟨#[]⟩) && !decide (0 < t+f))&&decide (e=0∧c=0)
 else false
def formL:Lab→Bool
 | .decl z _=>decide (0≤z)&&decide (z≤2147483647)
 | .stmt k s e c t f=>formS k s e c t f
 | .cond k op e p=>formC k op e p
 | .expr k n s a=>formE k n s a
theorem b5f{α:Type}{b:Bool}{q:Prop} [Decidable q] (hb:b=true↔q) (x y:α):(if b=true then x else y)=if q then x else y:=by
 by_cases hq:q
 ·rw [if_pos (hb.2 hq),if_pos hq]
 ·rw [if_neg (fun e=>hq (hb.1 e)),if_neg hq]
theorem ej3{a:Int}{b:Bool}{x:P2}{K:Bool→Hp→Prop}(h:K (if b=true then decide (a=2) else false) H):G9 a b x H K:=by
 unfold G9
 cases b
 ·exact ⟨fun q=>(by cases q),fun _=>h⟩
 ·exact ⟨fun _=>h,fun q=>(by cases q)⟩
theorem ej2{a k:Int}{b:Bool}{x:P2}{K:Bool→Hp→Prop}(h:K (if b=true then decide (a=1) else if k=6∨k=7∨k=8∨k=9∨k=10 then decide (a=2) else false) H):R7 a k b x H K:=by
 unfold R7
 cases b
 ·refine ⟨fun q=>(by cases q),fun _=>?_⟩
  rw [if_neg (by decide)] at h
  refine ⟨fun e=>ej3 ?_,fun e1=>⟨fun e=>ej3 ?_,fun e2=>⟨fun e=>ej3 ?_,fun e3=>⟨fun e=>ej3 ?_,fun e4=>ej3 ?_⟩⟩⟩⟩ <;>
   (rw [b5f (q:=k=6∨k=7∨k=8∨k=9∨k=10) (by rw [decide_eq_true_eq];omega)];exact h)
 ·exact ⟨fun _=>h,fun q=>(by cases q)⟩
theorem ej1{a k:Int}{b:Bool}{x:P2}{K:Bool→Hp→Prop}(h:K (if b=true then decide (a=0) else if k=4∨k=5 then decide (a=1) else if k=6∨k=7∨k=8∨k=9∨k=10 then decide (a=2) else false) H):R8 a k b x H K:=by
 unfold R8
 cases b
 ·refine ⟨fun q=>(by cases q),fun _=>?_⟩
  rw [if_neg (by decide)] at h
  refine ⟨fun e=>ej2 ?_,fun e1=>ej2 ?_⟩ <;>
   (rw [b5f (q:=k=4∨k=5) (by rw [decide_eq_true_eq];omega)];exact h)
 ·exact ⟨fun _=>h,fun q=>(by cases q)⟩
theorem c5T{e:f8}{t:PT}(he:EH H e t){K:Bool→Hp→Prop}(h:K (formL t.lab) H):a5I ⟨e⟩ H K:=by
 refine b2f _ ?_
 unfold a5L
 refine c1Y (x:=.K7 ⟨e⟩) (t:=t) he ?_
 cases he with
 | @mk e xs ts hs hb hl hr=>
  have hn:e.u1.n=ts.length:=by have:=hs.1;omega
  change K (formE e.c8 e.s7 e.f6 (ts.length:Int)) H at h
  unfold formE at h
  dsimp only [PT.lab,nameL]
  rw [hn]
  generalize (ts.length:Int)=a at h ⊢
  refine ⟨fun hg=>by rw [if_pos hg] at h;exact h,fun hg=>?_⟩
  rw [if_neg (by rw [hg];decide)] at h
  refine ⟨fun e1=>by rw [if_pos e1] at h;exact h,fun e1=>?_⟩
  rw [if_neg e1] at h
  refine ⟨fun e2=>ej1 ?_,fun e2=>ej1 ?_⟩ <;>
   (rw [b5f (q:=e.c8=2∨e.c8=3) (by rw [decide_eq_true_eq];omega)];exact h)
theorem cj2{b:Bool}{y:q7}{x:W7}{K:Bool→Hp→Prop}(h:K (if b=true then decide (y.fexprs=0∧y.fparts=2) else false) H):R9 b y x H K:=by
 unfold R9
 cases b
 ·exact ⟨fun q=>(by cases q),fun _=>h⟩
 ·exact ⟨fun _=>h,fun q=>(by cases q)⟩
theorem cj1{k:Int}{b:Bool}{y:q7}{x:W7}{K:Bool→Hp→Prop}(h:K (if b=true then decide (y.fexprs=0∧y.fparts=0) else if k=4 then decide (y.fexprs=0∧y.fparts=1) else if k=5∨k=6 then decide (y.fexprs=0∧y.fparts=2) else false) H):S1 k b y x H K:=by
 unfold S1
 cases b
 ·refine ⟨fun q=>(by cases q),fun _=>?_⟩
  rw [if_neg (by decide)] at h
  refine ⟨fun e=>by rw [if_pos e] at h;exact h,fun e=>?_⟩
  rw [if_neg e] at h
  refine ⟨fun e2=>cj2 ?_,fun e2=>cj2 ?_⟩ <;>
   (rw [b5f (q:=k=5∨k=6) (by rw [decide_eq_true_eq];omega)];exact h)
 ·exact ⟨fun _=>h,fun q=>(by cases q)⟩
theorem c5U{e:j8}{t:PT}(he:CH H e t){K:Bool→Hp→Prop}(h:K (formL t.lab) H):a5J ⟨e⟩ H K:=by
 refine b2g _ ?_
 unfold a5M
 cases he with
 | @mk e xs ts ys us hs hb hr hc hcb hcl hcr=>
  have hn:e.l7.n=ts.length:=by have:=hs.1;have:=hr.1;omega
  have hm:e.r7.n=us.length:=by have:=hc.1;omega
  change K (formC e.c8 e.fOp (ts.length:Int) (us.length:Int)) H at h
  unfold formC at h
  dsimp only
  rw [hn,hm]
  generalize (ts.length:Int)=a at h ⊢
  generalize (us.length:Int)=b at h ⊢
  refine ⟨fun e1=>by rw [if_pos e1] at h;exact h,fun e1=>?_⟩
  rw [if_neg e1] at h
  refine ⟨fun e2=>by rw [if_neg e2] at h;exact h,fun e2=>?_⟩
  rw [if_pos e2] at h
  refine ⟨fun e3=>cj1 ?_,fun e3=>cj1 ?_⟩ <;>
   (rw [b5f (q:=e.c8=1∨e.c8=2) (by rw [decide_eq_true_eq];omega)];exact h)
theorem sj1{v:Bool}{k:Int}{b:Bool}{y:B0}{x:W6}{K:Bool→Hp→Prop}(h:K (if b=true then v&&decide (y.fexprs=0∧y.fconds=1) else if k=7 then v&&decide (y.fexprs=0∧y.fconds=0) else false) H):S2 v k b y x H K:=by
 unfold S2
 cases b
 ·refine ⟨fun q=>(by cases q),fun _=>?_⟩
  rw [if_neg (by decide)] at h
  exact ⟨fun e=>by rw [if_pos e] at h;exact h,fun e=>by rw [if_neg e] at h;exact h⟩
 ·exact ⟨fun _=>h,fun q=>(by cases q)⟩
theorem c5V{e:i8}{t:PT}(he:SH H e t){K:Bool→Hp→Prop}(h:K (formL t.lab) H):a5H ⟨e⟩ H K:=by
 refine b2j _ ?_
 unfold a5Q
 cases he with
 | @mk e xs ts ys us zs bs vs ws hs hb hr hc hcb hcr ha hab hal har hbs hbb hbl hbr=>
  have n1:e.l7.n=ts.length:=by have:=hs.1;have:=hr.1;omega
  have n2:e.r9.n=us.length:=by have:=hc.1;have:=hcr.1;omega
  have n3:e.K5.n=vs.length:=by have:=ha.1;omega
  have n4:e.L2.n=ws.length:=by have:=hbs.1;omega
  change K (formS e.c8 e.f6 (ts.length:Int) (us.length:Int) (vs.length:Int) (ws.length:Int)) H at h
  unfold formS at h
  dsimp only
  rw [n1,n2,n3,n4,N7 (a:=(vs.length:Int)+(ws.length:Int)) ⟨by omega,by simp only [big] at hab hbb;omega⟩]
  generalize (ts.length:Int)=a at h ⊢
  generalize (us.length:Int)=b at h ⊢
  generalize (vs.length:Int)=c at h ⊢
  generalize (ws.length:Int)=d at h ⊢
  refine ⟨fun e1=>by rw [if_pos e1] at h;exact h,fun e1=>?_⟩
  rw [if_neg e1] at h
  refine ⟨fun e1=>by rw [if_pos e1] at h;exact h,fun e2=>?_⟩
  rw [if_neg e2] at h
  refine ⟨fun e1=>by rw [if_pos e1] at h;exact h,fun e3=>?_⟩
  rw [if_neg e3] at h
  refine ⟨fun e1=>by rw [if_pos e1] at h;exact h,fun e4=>?_⟩
  rw [if_neg e4] at h
  refine ⟨fun e5=>sj1 ?_,fun e5=>sj1 ?_⟩ <;>
   (rw [b5f (q:=e.c8=5∨e.c8=6) (by rw [decide_eq_true_eq];omega)];exact h)
theorem c8u{x:f5}{t:PT}(hx:NH H x t){K:Bool→Hp→Prop}(h:K (formL t.lab) H):a6w x H K:=by
 cases x with
 | nil=>exact hx.elim
 | K7 y=>exact c5T hx h
 | P5 y=>exact c5U hx h
 | L6 y=>exact c5V hx h
 | O5 y=>
  cases (show t=dT y.a1J from hx)
  refine b2i _ ?_
  unfold a5P
  exact h
theorem c5W{x:f5}{t:PT}(hx:NH H x t){K:Sl→Hp→Prop}(h:∀(r:Sl)(H':Hp)(ns:List f5),Hle H H'→SlH H' 1 v7 r ns→N1 (NH H') ns t.kids→t.kids.length≤4*big→K r H'):a6p x H K:=by
 cases x with
 | nil=>exact hx.elim
 | O5 y=>
  cases (show t=dT y.a1J from hx)
  refine b1u _ ?_
  unfold a5o
  exact h _ _ [] (Hle.refl _) (SlH.nil _ _ _) N1.nil (Nat.zero_le _)
 | K7 y=>
  have hx:EH H y.y7 t:=hx
  refine b1S _ ?_
  unfold a5B
  obtain ⟨e⟩:=y
  cases hx with
  | @mk e xs ts hs hb hl hr=>
   refine b2I hs hb fun r H' l hS=>h r H' _ l hS ?_ ?_
   ·exact N1.map ⟨hl,fun i a b ha hb=>EH.le l (hr i a b ha hb)⟩
   ·show ts.length≤_;omega
 | P5 y=>
  have hx:CH H y.s6 t:=hx
  refine b1w _ ?_
  unfold a5q
  obtain ⟨e⟩:=y
  cases hx with
  | @mk e xs ts ys us hs hb hr hc hcb hcl hcr=>
   refine b2I hs hb fun r1 H1 l1 hS1=>?_
   refine b5x (hc.le l1) hcb fun r2 H2 l2 hS2=>?_
   intro s H3 l3 hS hcap
   have r0:=hr.1
   refine b4z hS (nss:=[_,_]) ((N1.one (hS1.le (l2.trans l3))).app (N1.one (hS2.le l3))) ?_ (by simp [big]) fun r H4 l4 hS4=>?_
   ·simp only [List.flatten_cons,List.flatten_nil,List.append_nil,List.length_append,List.length_map];simp only [big] at hb hcb;omega
   simp only [List.flatten_cons,List.flatten_nil,List.append_nil] at hS4
   have l14:=l1.trans (l2.trans (l3.trans l4))
   refine h r H4 _ l14 hS4 ?_ ?_
   ·exact (N1.map (R:=NH H4) (f:=fun x=>.K7 ⟨x⟩) (hr.mono fun _ _=>EH.le l14)).app (N1.map (R:=NH H4) (f:=fun x=>.P5 ⟨x⟩) ⟨hcl,fun i a b ha hb=>CH.le l14 (hcr i a b ha hb)⟩)
   ·show (ts++us).length≤_;rw [List.length_append];omega
 | L6 y=>
  have hx:SH H y.m1 t:=hx
  refine b1v _ ?_
  unfold a5p
  obtain ⟨e⟩:=y
  cases hx with
  | @mk e xs ts ys us zs bs vs ws hs hb hr hc hcb hcr ha hab hal har hbs hbb hbl hbr=>
   refine b5x hc hcb fun r1 H1 l1 hS1=>?_
   refine b2I (hs.le l1) hb fun r2 H2 l2 hS2=>?_
   refine b2H (ha.le (l1.trans l2)) hab fun r3 H3 l3 hS3=>?_
   refine b2H (hbs.le (l1.trans (l2.trans l3))) hbb fun r4 H4 l4 hS4=>?_
   intro s H5 l5 hS hcap
   have r0:=hr.1
   have r0':=hcr.1
   refine b4z hS (nss:=[_,_,_,_]) ((N1.one (hS1.le (l2.trans (l3.trans (l4.trans l5))))).app ((N1.one (hS2.le (l3.trans (l4.trans l5)))).app ((N1.one (hS3.le (l4.trans l5))).app (N1.one (hS4.le l5))))) ?_ (by simp [big]) fun r H6 l6 hS6=>?_
   ·simp only [List.flatten_cons,List.flatten_nil,List.append_nil,List.length_append,List.length_map];simp only [big] at hb hcb hab hbb;omega
   simp only [List.flatten_cons,List.flatten_nil,List.append_nil] at hS6
   have l16:=l1.trans (l2.trans (l3.trans (l4.trans (l5.trans l6))))
   refine h r H6 _ l16 hS6 ?_ ?_
   ·exact (N1.map (R:=NH H6) (f:=fun x=>.P5 ⟨x⟩) (hcr.mono fun _ _=>CH.le l16)).app ((N1.map (R:=NH H6) (f:=fun x=>.K7 ⟨x⟩) (hr.mono fun _ _=>EH.le l16)).app ((N1.map (R:=NH H6) (f:=fun x=>.L6 ⟨x⟩) ⟨hal,fun i a b ha hb=>SH.le l16 (har i a b ha hb)⟩).app (N1.map (R:=NH H6) (f:=fun x=>.L6 ⟨x⟩) ⟨hbl,fun i a b ha hb=>SH.le l16 (hbr i a b ha hb)⟩)))
   ·show (us++(ts++(vs++ws))).length≤_;simp only [List.length_append];omega
end
end Go.Proofs.YtaokfhdinhimfaaGreatDoor
