/- Nodes: a list's nodes, lists put together; a node's own form, its name, its parts. Contracts off the printed formulas. -/
import Derived.Test.YtaokfhdinhimfaaGreatDooryCQ3
namespace Go.Proofs.YtaokfhdinhimfaaGreatDoor
open Go.RowKit
set_option maxRecDepth 100000
set_option maxHeartbeats 2000000
def NH(H:Hp):g7→PT→Prop
 | .N9 y,t=>t=dT y.a0L
 | .L4 y,t=>SH H y.i8 t
 | .O7 y,t=>CH H y.u0 t
 | .K7 y,t=>EH H y.A4 t
 | .nil,_=>False
theorem NH.le{H H':Hp}(l:Hle H H'){x:g7}{t:PT}(h:NH H x t):NH H' x t:=by
 cases x with
 | nil=>exact h
 | N9 y=>exact h
 | L4 y=>exact SH.le l h
 | O7 y=>exact CH.le l h
 | K7 y=>exact EH.le l h
theorem b6X{α:Type}(l:List (List α))(i:Nat):(l.take i).flatten.length≤l.flatten.length:=by
 have:l.flatten=(l.take i).flatten++(l.drop i).flatten:=by rw [←List.flatten_append,List.take_append_drop]
 rw [this,List.length_append];omega
theorem b6Y{α:Type}{l:List (List α)}{i:Nat}{x:List α}(h:l[i]? = some x):(l.take (i+1)).flatten=(l.take i).flatten++x:=by
 rw [N6 h,List.flatten_append];simp
section
variable {H:Hp}
theorem b9W{s:Sl}{xs:List o0}(hs:SlH H 2 m2 s xs)(hb:xs.length≤big){K:Sl→Hp→Prop}(h:∀(r:Sl)(H':Hp),Hle H H'→SlH H' 1 z6 r (xs.map fun x=>g7.N9 ⟨x⟩)→K r H'):L9 s H K:=by
 refine a1w _ ?_
 unfold M1
 have n1:=hs.1
 refine N4 (fun(z:List g7×Int) H'=>0≤z.2∧z.2≤xs.length∧H'=H∧z.1=(xs.take z.2.toNat).map fun x=>g7.N9 ⟨x⟩) (fun z=>(xs.length-z.2).toNat) ⟨Int.le_refl _,by simp,rfl,by simp⟩ ?_
 rintro ⟨l,i⟩ H1 next ⟨i0,i1,rfl,hl⟩ hn
 dsimp only at i0 i1 hl ⊢
 unfold E9
 refine ⟨fun hc=>?_,fun hc=>?_⟩
 ·obtain ⟨x,hx,hE⟩:=hs.get i0 hc
  have hlt:=Q5 hx
  refine ⟨i0,hc,x,hE,b2d _ ?_⟩
  unfold a5J
  refine ⟨?_,?_⟩
  ·rw [hl,List.length_map,List.length_take];simp only [big] at hb;simp only [List.length_cons,List.length_nil];omega
  ·rw [B7 i0 (by simp only [big] at hb;omega)]
   refine hn _ _ ⟨by dsimp only;omega,by dsimp only;omega,rfl,?_⟩ (by dsimp only;omega)
   dsimp only
   rw [show (i+1).toNat=i.toNat+1 by omega,N6 hx,List.map_append,← hl];rfl
 ·unfold E8
  intro ss H2 l2 hss hc2
  refine h ss H2 l2 ?_
  rw [hl,List.take_of_length_le (by omega)] at hss;exact hss
theorem b1q{s:Sl}{xs:List B0}(hs:SlH H 6 A8 s xs)(hb:xs.length≤big){K:Sl→Hp→Prop}(h:∀(r:Sl)(H':Hp),Hle H H'→SlH H' 1 z6 r (xs.map fun x=>g7.L4 ⟨x⟩)→K r H'):C8 s H K:=by
 refine a1y _ ?_
 unfold M2
 have n1:=hs.1
 refine N4 (fun(z:List g7×Int) H'=>0≤z.2∧z.2≤xs.length∧H'=H∧z.1=(xs.take z.2.toNat).map fun x=>g7.L4 ⟨x⟩) (fun z=>(xs.length-z.2).toNat) ⟨Int.le_refl _,by simp,rfl,by simp⟩ ?_
 rintro ⟨l,i⟩ H1 next ⟨i0,i1,rfl,hl⟩ hn
 dsimp only at i0 i1 hl ⊢
 unfold F3
 refine ⟨fun hc=>?_,fun hc=>?_⟩
 ·obtain ⟨x,hx,hE⟩:=hs.get i0 hc
  have hlt:=Q5 hx
  refine ⟨i0,hc,x,hE,b2o _ ?_⟩
  unfold a5V
  refine ⟨?_,?_⟩
  ·rw [hl,List.length_map,List.length_take];simp only [big] at hb;simp only [List.length_cons,List.length_nil];omega
  ·rw [B7 i0 (by simp only [big] at hb;omega)]
   refine hn _ _ ⟨by dsimp only;omega,by dsimp only;omega,rfl,?_⟩ (by dsimp only;omega)
   dsimp only
   rw [show (i+1).toNat=i.toNat+1 by omega,N6 hx,List.map_append,← hl];rfl
 ·unfold F1
  intro ss H2 l2 hss hc2
  refine h ss H2 l2 ?_
  rw [hl,List.take_of_length_le (by omega)] at hss;exact hss
theorem b4v{s:Sl}{xs:List B5}(hs:SlH H 4 t6 s xs)(hb:xs.length≤big){K:Sl→Hp→Prop}(h:∀(r:Sl)(H':Hp),Hle H H'→SlH H' 1 z6 r (xs.map fun x=>g7.O7 ⟨x⟩)→K r H'):J0 s H K:=by
 refine a1G _ ?_
 unfold M5
 have n1:=hs.1
 refine N4 (fun(z:List g7×Int) H'=>0≤z.2∧z.2≤xs.length∧H'=H∧z.1=(xs.take z.2.toNat).map fun x=>g7.O7 ⟨x⟩) (fun z=>(xs.length-z.2).toNat) ⟨Int.le_refl _,by simp,rfl,by simp⟩ ?_
 rintro ⟨l,i⟩ H1 next ⟨i0,i1,rfl,hl⟩ hn
 dsimp only at i0 i1 hl ⊢
 unfold G3
 refine ⟨fun hc=>?_,fun hc=>?_⟩
 ·obtain ⟨x,hx,hE⟩:=hs.get i0 hc
  have hlt:=Q5 hx
  refine ⟨i0,hc,x,hE,b2k _ ?_⟩
  unfold a5R
  refine ⟨?_,?_⟩
  ·rw [hl,List.length_map,List.length_take];simp only [big] at hb;simp only [List.length_cons,List.length_nil];omega
  ·rw [B7 i0 (by simp only [big] at hb;omega)]
   refine hn _ _ ⟨by dsimp only;omega,by dsimp only;omega,rfl,?_⟩ (by dsimp only;omega)
   dsimp only
   rw [show (i+1).toNat=i.toNat+1 by omega,N6 hx,List.map_append,← hl];rfl
 ·unfold F7
  intro ss H2 l2 hss hc2
  refine h ss H2 l2 ?_
  rw [hl,List.take_of_length_le (by omega)] at hss;exact hss
theorem b1r{s:Sl}{xs:List v6}(hs:SlH H 4 q8 s xs)(hb:xs.length≤big){K:Sl→Hp→Prop}(h:∀(r:Sl)(H':Hp),Hle H H'→SlH H' 1 z6 r (xs.map fun x=>g7.K7 ⟨x⟩)→K r H'):C9 s H K:=by
 refine a1H _ ?_
 unfold M6
 have n1:=hs.1
 refine N4 (fun(z:List g7×Int) H'=>0≤z.2∧z.2≤xs.length∧H'=H∧z.1=(xs.take z.2.toNat).map fun x=>g7.K7 ⟨x⟩) (fun z=>(xs.length-z.2).toNat) ⟨Int.le_refl _,by simp,rfl,by simp⟩ ?_
 rintro ⟨l,i⟩ H1 next ⟨i0,i1,rfl,hl⟩ hn
 dsimp only at i0 i1 hl ⊢
 unfold G5
 refine ⟨fun hc=>?_,fun hc=>?_⟩
 ·obtain ⟨x,hx,hE⟩:=hs.get i0 hc
  have hlt:=Q5 hx
  refine ⟨i0,hc,x,hE,b2g _ ?_⟩
  unfold a5K
  refine ⟨?_,?_⟩
  ·rw [hl,List.length_map,List.length_take];simp only [big] at hb;simp only [List.length_cons,List.length_nil];omega
  ·rw [B7 i0 (by simp only [big] at hb;omega)]
   refine hn _ _ ⟨by dsimp only;omega,by dsimp only;omega,rfl,?_⟩ (by dsimp only;omega)
   dsimp only
   rw [show (i+1).toNat=i.toNat+1 by omega,N6 hx,List.map_append,← hl];rfl
 ·unfold G4
  intro ss H2 l2 hss hc2
  refine h ss H2 l2 ?_
  rw [hl,List.take_of_length_le (by omega)] at hss;exact hss
theorem b6Z(a:Option Addr)(n c:Nat):Pu Tryz.prog (xBuiltin .cap #[179] 3 [false] [.slice a n c]) (.int .i64 (c:Int)):=by
 have e':Program.elem Tryz.prog 179=182:=by simp [Program.elem,Tryz.underlying179]
 have:xBuiltin .cap #[179] 3 [false] [.slice a n c]=xV (Builtin.cap_ #[179] 3 #[.slice a n c]):=rfl
 rw [this]
 exact Pu.ok fun w=>run_cap_slice (P:=Tryz.prog) (w:=w) 179 3 a n c (by rw [e'];exact Tryz.underlying179)
theorem c6C{n:Int}(h0:0≤n)(hb:n*17≤140737488355328){K:List g7→Hp→Prop}(h:K [] H):S6 n H K:=by
 intro w I
 refine c6b ?_
 unfold c8L
 refine s8 fun j1 hx1=>?_
 refine c7 (m4 _ _ _ _ _ _) ?_
 refine a5q (fun c=>?_) (fun c=>?_)
 ·have:=of_decide_eq_true c;omega
 refine hx1 _ _ ?_
 unfold c0u
 intro _
 refine s8 fun j2 hx2=>?_
 refine c7 (b6Z _ _ _) ?_
 refine c7 (a9F _ _ _) ?_
 refine c7 (a7N _ _ _ _ _ _) ?_
 refine c7 (a7N _ _ _ _ _ _) ?_
 rw [show IntKind.wrap .i64 (n-IntKind.wrap .i64 (((0:Nat):Int)-((0:Nat):Int)))=n by
  rw [show IntKind.wrap .i64 (((0:Nat):Int)-((0:Nat):Int))=0 by decide,Int.sub_zero];exact a0f ⟨by omega,by omega⟩]
 refine c7 (p7 _ _ _ _ _ _) ?_
 refine a5q (fun c=>?_) (fun c=>?_)
 ·have hp:=of_decide_eq_true c
  refine c7 (b6Z _ _ _) ?_
  refine c7 (b4B (e:=182) (sz:=1) Tryz.underlying179 Tryz.sizeOf182 (s:=⟨none,0,0⟩) (h:=((0:Nat):Int)) (by decide) (by decide)) ?_
  refine c7h (z:=Value.nilIface) (bytes:=16) (kn:=.i64) Tryz.underlying179 Tryz.underlying3 c0l (by kernel_rfl) (by kernel_rfl) (by kernel_rfl) (by kernel_rfl) (by decide) R7 U6 I hp hb fun g m F' w' hr I'=>?_
  refine c7 (a9F _ _ _) ?_
  refine c7 (b4B (e:=182) (sz:=1) Tryz.underlying179 Tryz.sizeOf182 (s:=⟨some ⟨g,0,none⟩,n.toNat,m⟩) (h:=((0:Nat):Int)) (by decide) (by simp)) ?_
  refine hx2 _ _ ?_
  unfold b6i
  intro _
  refine ⟨H,_,I',[],⟨some ⟨g,0,none⟩,0,m⟩,F',?_,rfl,hr,h⟩
  simp [Sl.cut,Addr.add,nth]
 ·refine hx2 _ _ ?_
  unfold b6i
  intro _
  exact ⟨H,_,I.nil,[],⟨none,0,0⟩,[],rfl,rfl,RowL.nil R7 U6,h⟩
theorem b3q{s:Sl}{ss:List Sl}{nss:List (List g7)}(hs:SlH H 1 csl s ss)(hr:O4 (SlH H 1 z6) ss nss)(hb:nss.flatten.length*17≤140737488355328)(hss:ss.length≤big){K:Sl→Hp→Prop}
  (h:∀(r:Sl)(H':Hp),Hle H H'→SlH H' 1 z6 r nss.flatten→K r H'):G6 s H K:=by
 refine a3T _ ?_
 unfold P2
 have n1:=hs.1;have r1:=hr.1
 refine N4 (fun(z:Int×Int) H'=>0≤z.2∧z.2≤ss.length∧H'=H∧z.1=((nss.take z.2.toNat).flatten.length:Int)) (fun z=>(ss.length-z.2).toNat) ⟨Int.le_refl _,by simp,rfl,by simp⟩ ?_
 rintro ⟨q,i⟩ H1 next ⟨i0,i1,rfl,hq⟩ hn
 dsimp only at i0 i1 hq ⊢
 subst hq
 unfold O1
 refine ⟨fun hc=>?_,fun hc=>?_⟩
 ·obtain ⟨x,hx,hE⟩:=hs.get i0 hc
  obtain ⟨ns,hns,hS⟩:=hr.get hx
  have hlt:=Q5 hx
  have e1:=b6Y hns
  have e2:=b6X nss (i.toNat+1)
  have e3:(nss.take (i.toNat+1)).flatten.length=(nss.take i.toNat).flatten.length+ns.length:=by rw [e1,List.length_append]
  have e4:IntKind.wrap .i64 (((nss.take i.toNat).flatten.length:Int)+(x.n:Int))=((nss.take (i.toNat+1)).flatten.length:Int):=by
   rw [a0f ⟨by omega,by have:=hS.1;omega⟩]
   have:=hS.1;omega
  refine ⟨i0,hc,x,hE,?_⟩
  rw [e4]
  refine ⟨fun hneg=>by omega,fun _=>?_⟩
  unfold J9
  rw [B7 i0 (by simp only [big] at hss;omega)]
  refine hn _ _ ⟨by dsimp only;omega,by dsimp only;omega,rfl,?_⟩ (by dsimp only;omega)
  dsimp only
  rw [show (i+1).toNat=i.toNat+1 by omega]
 ·rw [List.take_of_length_le (by omega)]
  clear hn next
  unfold K2
  refine c6C (by omega) (by omega) ?_
  refine N4 (fun(z:List g7×Int) H'=>0≤z.2∧z.2≤ss.length∧H'=H1∧z.1=(nss.take z.2.toNat).flatten) (fun z=>(ss.length-z.2).toNat) ⟨Int.le_refl _,by simp,rfl,by simp⟩ ?_
  rintro ⟨q,j⟩ H2 next ⟨j0,j1,rfl,hq⟩ hn
  dsimp only at j0 j1 hq ⊢
  subst hq
  unfold K1
  refine ⟨fun hc=>?_,fun hc=>?_⟩
  ·obtain ⟨x,hx,hE⟩:=hs.get j0 hc
   obtain ⟨ns,hns,hS⟩:=hr.get hx
   have hlt:=Q5 hx
   have e1:=b6Y hns
   have e2:=b6X nss (j.toNat+1)
   have e3:(nss.take (j.toNat+1)).flatten.length=(nss.take j.toNat).flatten.length+ns.length:=by rw [e1,List.length_append]
   refine ⟨j0,hc,x,hE,ns,hS,by omega,?_⟩
   rw [B7 j0 (by simp only [big] at hss;omega),← e1]
   refine hn _ _ ⟨by dsimp only;omega,by dsimp only;omega,rfl,?_⟩ (by dsimp only;omega)
   dsimp only
   rw [show (j+1).toNat=j.toNat+1 by omega]
  ·unfold K0
   intro r H3 l3 hS _
   rw [List.take_of_length_le (by omega)] at hS
   exact h r H3 l3 hS
def nameL:Lab→ByteArray×Bool
 | .decl _ s=>(s,true)
 | .stmt k s _ _ _ _=>(s,decide (k=1)||decide (k=2))
 | .cond ..=>(⟨#[]⟩,false)
 | .expr k _ s _=>(s,decide (k=2)||decide (k=4))
theorem c0B{x:g7}{t:PT}(hx:NH H x t){K:ByteArray→Bool→Hp→Prop}(h:K (nameL t.lab).1 (nameL t.lab).2 H):a1Y x H K:=by
 refine b3m _ ?_
 unfold a6N
 cases x with
 | nil=>exact hx.elim
 | N9 y=>
  cases (show t=dT y.a0L from hx)
  exact ⟨fun _=>h,fun q=>(by cases q)⟩
 | L4 y=>
  cases (show SH H y.i8 t from hx)
  exact ⟨fun q=>(by cases q),fun _=>⟨fun _=>h,fun q=>(by cases q)⟩⟩
 | K7 y=>
  cases (show EH H y.A4 t from hx)
  exact ⟨fun q=>(by cases q),fun _=>⟨fun q=>(by cases q),fun _=>⟨fun _=>h,fun q=>(by cases q)⟩⟩⟩
 | O7 y=>
  cases (show CH H y.u0 t from hx)
  exact ⟨fun q=>(by cases q),fun _=>⟨fun q=>(by cases q),fun _=>⟨fun q=>(by cases q),fun _=>h⟩⟩⟩
def formE(k n:Int)(s:ByteArray)(a:Int):Bool:=
 if (((!decide (k=1))&&(!decide (n=0)))||((!(decide (k=2)||decide (k=4)))&&(!decide (s=⟨#[]⟩))))=true then false
 else if k=1 then decide (0≤n)&&decide (a=0)
 else if k=2∨k=3 then decide (a=0)
 else if k=4∨k=5 then decide (a=1)
 else if k=6∨k=7∨k=8∨k=9∨k=10 then decide (a=2) else false
def formC(k op e p:Int):Bool:=
 if k=3 then (decide (1≤op)&&decide (op≤6))&&decide (e=2∧p=0)
 else if op=0 then
  (if k=1∨k=2 then decide (e=0∧p=0) else if k=4 then decide (e=0∧p=1) else if k=5∨k=6 then decide (e=0∧p=2) else false)
 else false
def formS(k:Int)(s:ByteArray)(e c t f:Int):Bool:=
 if k=1 then !decide (0 < t+f)&&decide (e=1∧c=0)
 else if k=2 then !decide (0 < t+f)&&decide (e=2∧c=0)
 else if k=3 then decide (s=⟨#[]⟩)&&decide (e=0∧c=1)
 else if k=4 then decide (s=⟨#[]⟩)&&decide (f=0)&&decide (e=0∧c=1)
 else if k=5∨k=6 then (decide (s=⟨#[]⟩) && !decide (0 < t+f))&&decide (e=0∧c=1)
 else if k=7 then (decide (s=⟨#[]⟩) && !decide (0 < t+f))&&decide (e=0∧c=0)
 else false
def formL:Lab→Bool
 | .decl z _=>decide (0≤z)&&decide (z≤2147483647)
 | .stmt k s e c t f=>formS k s e c t f
 | .cond k op e p=>formC k op e p
 | .expr k n s a=>formE k n s a
theorem b4b{α:Type}{b:Bool}{q:Prop} [Decidable q] (hb:b=true↔q) (x y:α):(if b=true then x else y)=if q then x else y:=by
 by_cases hq:q
 ·rw [if_pos (hb.2 hq),if_pos hq]
 ·rw [if_neg (fun e=>hq (hb.1 e)),if_neg hq]
theorem ej3{a:Int}{b:Bool}{x:O6}{K:Bool→Hp→Prop}(h:K (if b=true then decide (a=2) else false) H):J8 a b x H K:=by
 unfold J8
 cases b
 ·exact ⟨fun q=>(by cases q),fun _=>h⟩
 ·exact ⟨fun _=>h,fun q=>(by cases q)⟩
theorem ej2{a k:Int}{b:Bool}{x:O6}{K:Bool→Hp→Prop}(h:K (if b=true then decide (a=1) else if k=6∨k=7∨k=8∨k=9∨k=10 then decide (a=2) else false) H):Q0 a k b x H K:=by
 unfold Q0
 cases b
 ·refine ⟨fun q=>(by cases q),fun _=>?_⟩
  rw [if_neg (by decide)] at h
  refine ⟨fun e=>ej3 ?_,fun e1=>⟨fun e=>ej3 ?_,fun e2=>⟨fun e=>ej3 ?_,fun e3=>⟨fun e=>ej3 ?_,fun e4=>ej3 ?_⟩⟩⟩⟩ <;>
   (rw [b4b (q:=k=6∨k=7∨k=8∨k=9∨k=10) (by rw [decide_eq_true_eq];omega)];exact h)
 ·exact ⟨fun _=>h,fun q=>(by cases q)⟩
theorem ej1{a k:Int}{b:Bool}{x:O6}{K:Bool→Hp→Prop}(h:K (if b=true then decide (a=0) else if k=4∨k=5 then decide (a=1) else if k=6∨k=7∨k=8∨k=9∨k=10 then decide (a=2) else false) H):Q1 a k b x H K:=by
 unfold Q1
 cases b
 ·refine ⟨fun q=>(by cases q),fun _=>?_⟩
  rw [if_neg (by decide)] at h
  refine ⟨fun e=>ej2 ?_,fun e1=>ej2 ?_⟩ <;>
   (rw [b4b (q:=k=4∨k=5) (by rw [decide_eq_true_eq];omega)];exact h)
 ·exact ⟨fun _=>h,fun q=>(by cases q)⟩
theorem c4a{e:v6}{t:PT}(he:EH H e t){K:Bool→Hp→Prop}(h:K (formL t.lab) H):a4B ⟨e⟩ H K:=by
 refine b0R _ ?_
 unfold a4G
 refine c0B (x:=.K7 ⟨e⟩) (t:=t) he ?_
 cases he with
 | @mk e xs ts hs hb hl hr=>
  have hn:e.K5.n=ts.length:=by have:=hs.1;omega
  change K (formE e.f3 e.u1 e.m5 (ts.length:Int)) H at h
  unfold formE at h
  dsimp only [PT.lab,nameL]
  rw [hn]
  generalize (ts.length:Int)=a at h ⊢
  refine ⟨fun hg=>by rw [if_pos hg] at h;exact h,fun hg=>?_⟩
  rw [if_neg (by rw [hg];decide)] at h
  refine ⟨fun e1=>by rw [if_pos e1] at h;exact h,fun e1=>?_⟩
  rw [if_neg e1] at h
  refine ⟨fun e2=>ej1 ?_,fun e2=>ej1 ?_⟩ <;>
   (rw [b4b (q:=e.f3=2∨e.f3=3) (by rw [decide_eq_true_eq];omega)];exact h)
theorem cj2{b:Bool}{y:t7}{x:T3}{K:Bool→Hp→Prop}(h:K (if b=true then decide (y.fexprs=0∧y.fparts=2) else false) H):Q2 b y x H K:=by
 unfold Q2
 cases b
 ·exact ⟨fun q=>(by cases q),fun _=>h⟩
 ·exact ⟨fun _=>h,fun q=>(by cases q)⟩
theorem cj1{k:Int}{b:Bool}{y:t7}{x:T3}{K:Bool→Hp→Prop}(h:K (if b=true then decide (y.fexprs=0∧y.fparts=0) else if k=4 then decide (y.fexprs=0∧y.fparts=1) else if k=5∨k=6 then decide (y.fexprs=0∧y.fparts=2) else false) H):Q3 k b y x H K:=by
 unfold Q3
 cases b
 ·refine ⟨fun q=>(by cases q),fun _=>?_⟩
  rw [if_neg (by decide)] at h
  refine ⟨fun e=>by rw [if_pos e] at h;exact h,fun e=>?_⟩
  rw [if_neg e] at h
  refine ⟨fun e2=>cj2 ?_,fun e2=>cj2 ?_⟩ <;>
   (rw [b4b (q:=k=5∨k=6) (by rw [decide_eq_true_eq];omega)];exact h)
 ·exact ⟨fun _=>h,fun q=>(by cases q)⟩
theorem c4b{e:B5}{t:PT}(he:CH H e t){K:Bool→Hp→Prop}(h:K (formL t.lab) H):a4C ⟨e⟩ H K:=by
 refine b0S _ ?_
 unfold a4H
 cases he with
 | @mk e xs ts ys us hs hb hr hc hcb hcl hcr=>
  have hn:e.m9.n=ts.length:=by have:=hs.1;have:=hr.1;omega
  have hm:e.D7.n=us.length:=by have:=hc.1;omega
  change K (formC e.f3 e.fOp (ts.length:Int) (us.length:Int)) H at h
  unfold formC at h
  dsimp only
  rw [hn,hm]
  generalize (ts.length:Int)=a at h ⊢
  generalize (us.length:Int)=b at h ⊢
  refine ⟨fun e1=>by rw [if_pos e1] at h;exact h,fun e1=>?_⟩
  rw [if_neg e1] at h
  refine ⟨fun e2=>by rw [if_neg e2] at h;exact h,fun e2=>?_⟩
  rw [if_pos e2] at h
  refine ⟨fun e3=>cj1 ?_,fun e3=>cj1 ?_⟩ <;>
   (rw [b4b (q:=e.f3=1∨e.f3=2) (by rw [decide_eq_true_eq];omega)];exact h)
theorem sj1{v:Bool}{k:Int}{b:Bool}{y:u4}{x:T2}{K:Bool→Hp→Prop}(h:K (if b=true then v&&decide (y.fexprs=0∧y.fconds=1) else if k=7 then v&&decide (y.fexprs=0∧y.fconds=0) else false) H):Q4 v k b y x H K:=by
 unfold Q4
 cases b
 ·refine ⟨fun q=>(by cases q),fun _=>?_⟩
  rw [if_neg (by decide)] at h
  exact ⟨fun e=>by rw [if_pos e] at h;exact h,fun e=>by rw [if_neg e] at h;exact h⟩
 ·exact ⟨fun _=>h,fun q=>(by cases q)⟩
theorem c4c{e:B0}{t:PT}(he:SH H e t){K:Bool→Hp→Prop}(h:K (formL t.lab) H):a4A ⟨e⟩ H K:=by
 refine b0V _ ?_
 unfold a4K
 cases he with
 | @mk e xs ts ys us zs bs vs ws hs hb hr hc hcb hcr ha hab hal har hbs hbb hbl hbr=>
  have n1:e.m9.n=ts.length:=by have:=hs.1;have:=hr.1;omega
  have n2:e.A0.n=us.length:=by have:=hc.1;have:=hcr.1;omega
  have n3:e.T0.n=vs.length:=by have:=ha.1;omega
  have n4:e.T1.n=ws.length:=by have:=hbs.1;omega
  change K (formS e.f3 e.m5 (ts.length:Int) (us.length:Int) (vs.length:Int) (ws.length:Int)) H at h
  unfold formS at h
  dsimp only
  rw [n1,n2,n3,n4,a0f (a:=(vs.length:Int)+(ws.length:Int)) ⟨by omega,by simp only [big] at hab hbb;omega⟩]
  generalize (ts.length:Int)=a at h ⊢
  generalize (us.length:Int)=b at h ⊢
  generalize (vs.length:Int)=c at h ⊢
  generalize (ws.length:Int)=d at h ⊢
  refine ⟨fun e1=>by rw [if_pos e1] at h;exact h,fun e1=>?_⟩
  rw [if_neg e1] at h
  refine ⟨fun e1=>by rw [if_pos e1] at h;exact h,fun e2=>?_⟩
  rw [if_neg e2] at h
  refine ⟨fun e1=>by rw [if_pos e1] at h;exact h,fun e3=>?_⟩
  rw [if_neg e3] at h
  refine ⟨fun e1=>by rw [if_pos e1] at h;exact h,fun e4=>?_⟩
  rw [if_neg e4] at h
  refine ⟨fun e5=>sj1 ?_,fun e5=>sj1 ?_⟩ <;>
   (rw [b4b (q:=e.f3=5∨e.f3=6) (by rw [decide_eq_true_eq];omega)];exact h)
theorem c6D{x:g7}{t:PT}(hx:NH H x t){K:Bool→Hp→Prop}(h:K (formL t.lab) H):a5H x H K:=by
 cases x with
 | nil=>exact hx.elim
 | K7 y=>exact c4a hx h
 | O7 y=>exact c4b hx h
 | L4 y=>exact c4c hx h
 | N9 y=>
  cases (show t=dT y.a0L from hx)
  refine b0U _ ?_
  unfold a4J
  exact h
theorem c4d{x:g7}{t:PT}(hx:NH H x t){K:Sl→Hp→Prop}(h:∀(r:Sl)(H':Hp)(ns:List g7),Hle H H'→SlH H' 1 z6 r ns→O4 (NH H') ns t.kids→t.kids.length≤4*big→K r H'):a5t x H K:=by
 cases x with
 | nil=>exact hx.elim
 | N9 y=>
  cases (show t=dT y.a0L from hx)
  refine b0n _ ?_
  unfold a4h
  exact h _ _ [] (Hle.refl _) (SlH.nil _ _ _) O4.nil (Nat.zero_le _)
 | K7 y=>
  have hx:EH H y.A4 t:=hx
  refine b0K _ ?_
  unfold a4u
  obtain ⟨e⟩:=y
  cases hx with
  | @mk e xs ts hs hb hl hr=>
   refine b1r hs hb fun r H' l hS=>h r H' _ l hS ?_ ?_
   ·exact O4.map ⟨hl,fun i a b ha hb=>EH.le l (hr i a b ha hb)⟩
   ·show ts.length≤_;omega
 | O7 y=>
  have hx:CH H y.u0 t:=hx
  refine b0p _ ?_
  unfold a4j
  obtain ⟨e⟩:=y
  cases hx with
  | @mk e xs ts ys us hs hb hr hc hcb hcl hcr=>
   refine b1r hs hb fun r1 H1 l1 hS1=>?_
   refine b4v (hc.le l1) hcb fun r2 H2 l2 hS2=>?_
   intro s H3 l3 hS hcap
   have r0:=hr.1
   refine b3q hS (nss:=[_,_]) ((O4.one (hS1.le (l2.trans l3))).app (O4.one (hS2.le l3))) ?_ (by simp [big]) fun r H4 l4 hS4=>?_
   ·simp only [List.flatten_cons,List.flatten_nil,List.append_nil,List.length_append,List.length_map];simp only [big] at hb hcb;omega
   simp only [List.flatten_cons,List.flatten_nil,List.append_nil] at hS4
   have l14:=l1.trans (l2.trans (l3.trans l4))
   refine h r H4 _ l14 hS4 ?_ ?_
   ·exact (O4.map (R:=NH H4) (f:=fun x=>.K7 ⟨x⟩) (hr.mono fun _ _=>EH.le l14)).app (O4.map (R:=NH H4) (f:=fun x=>.O7 ⟨x⟩) ⟨hcl,fun i a b ha hb=>CH.le l14 (hcr i a b ha hb)⟩)
   ·show (ts++us).length≤_;rw [List.length_append];omega
 | L4 y=>
  have hx:SH H y.i8 t:=hx
  refine b0o _ ?_
  unfold a4i
  obtain ⟨e⟩:=y
  cases hx with
  | @mk e xs ts ys us zs bs vs ws hs hb hr hc hcb hcr ha hab hal har hbs hbb hbl hbr=>
   refine b4v hc hcb fun r1 H1 l1 hS1=>?_
   refine b1r (hs.le l1) hb fun r2 H2 l2 hS2=>?_
   refine b1q (ha.le (l1.trans l2)) hab fun r3 H3 l3 hS3=>?_
   refine b1q (hbs.le (l1.trans (l2.trans l3))) hbb fun r4 H4 l4 hS4=>?_
   intro s H5 l5 hS hcap
   have r0:=hr.1
   have r0':=hcr.1
   refine b3q hS (nss:=[_,_,_,_]) ((O4.one (hS1.le (l2.trans (l3.trans (l4.trans l5))))).app ((O4.one (hS2.le (l3.trans (l4.trans l5)))).app ((O4.one (hS3.le (l4.trans l5))).app (O4.one (hS4.le l5))))) ?_ (by simp [big]) fun r H6 l6 hS6=>?_
   ·simp only [List.flatten_cons,List.flatten_nil,List.append_nil,List.length_append,List.length_map];simp only [big] at hb hcb hab hbb;omega
   simp only [List.flatten_cons,List.flatten_nil,List.append_nil] at hS6
   have l16:=l1.trans (l2.trans (l3.trans (l4.trans (l5.trans l6))))
   refine h r H6 _ l16 hS6 ?_ ?_
   ·exact (O4.map (R:=NH H6) (f:=fun x=>.O7 ⟨x⟩) (hcr.mono fun _ _=>CH.le l16)).app ((O4.map (R:=NH H6) (f:=fun x=>.K7 ⟨x⟩) (hr.mono fun _ _=>EH.le l16)).app ((O4.map (R:=NH H6) (f:=fun x=>.L4 ⟨x⟩) ⟨hal,fun i a b ha hb=>SH.le l16 (har i a b ha hb)⟩).app (O4.map (R:=NH H6) (f:=fun x=>.L4 ⟨x⟩) ⟨hbl,fun i a b ha hb=>SH.le l16 (hbr i a b ha hb)⟩)))
   ·show (us++(ts++(vs++ws))).length≤_;simp only [List.length_append];omega
end
end Go.Proofs.YtaokfhdinhimfaaGreatDoor
