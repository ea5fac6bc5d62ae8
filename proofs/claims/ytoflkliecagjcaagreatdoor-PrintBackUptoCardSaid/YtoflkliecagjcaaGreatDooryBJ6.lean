/- Printing, read back: a tree's tokens; the plain parser on them: expressions, conditions. Plain. -/
import Derived.Lib.ItoaNum
import Derived.Test.YtoflkliecagjcaaGreatDooryBX1
namespace Go.Proofs.YtoflkliecagjcaaGreatDoor
open Go.RowKit
set_option maxRecDepth 100000
set_option maxHeartbeats 2000000
inductive XE:PT→Prop
 | num (n:Int):0≤n→n≤9223372036854775807→XE (eX 1 n ⟨#[]⟩ [])
 | var (s:ByteArray):XE (eX 2 0 s [])
 | inp:XE (eX 3 0 ⟨#[]⟩ [])
 | item (s:ByteArray) (e:PT):XE e→XE (eX 4 0 s [e])
 | neg (e:PT):XE e→XE (eX 5 0 ⟨#[]⟩ [e])
 | bin (k:Int) (a b:PT):(k=6∨k=7∨k=8∨k=9∨k=10)→XE a→XE b→XE (eX k 0 ⟨#[]⟩ [a,b])
inductive XC:PT→Prop
 | tru:XC (cX 1 0 [] [])
 | fls:XC (cX 2 0 [] [])
 | cmp (op:Int) (a b:PT):1≤op→op≤6→XE a→XE b→XC (cX 3 op [a,b] [])
 | not (c:PT):XC c→XC (cX 4 0 [] [c])
 | bin (k:Int) (a b:PT):(k=5∨k=6)→XC a→XC b→XC (cX k 0 [] [a,b])
abbrev p0:c8:=⟨0,0⟩
def sgT(w:BL):Tok:=⟨4,⟨w.toArray⟩,0,p0⟩
def nbT(n:Int):Tok:=⟨2,⟨(Lib.itoa n).toArray⟩,n,p0⟩
def wdT(s:ByteArray)(k:Int):Tok:=⟨k,s,0,p0⟩
def parT(b:Bool)(o c:UInt8)(l:List Tok):List Tok:=if b=true then sgT [o]::(l++[sgT [c]]) else l
def labK:Lab→List Int→List (List Tok)→List Tok
 | .expr k n s _,ks,ts=>
  if k=1 then [nbT n] else if k=2 then [wdT s 1] else if k=3 then [wdT ⟨#[105,110,112,117,116]⟩ 3]
  else if k=4 then wdT s 1::sgT [91]::(ts.headD []++[sgT [93]])
  else if k=5 then sgT [45]::parT (decide (lvE (ks.headD 0) < 3)) 40 41 (ts.headD [])
  else parT (decide (lvE (ks.headD 0) < lvE k)) 40 41 (ts.headD [])++sgT (sgnE k)::parT (decide (lvE (ks.tail.headD 0)≤lvE k)) 40 41 (ts.tail.headD [])
 | .cond k op _ _,ks,ts=>
  if k=1 then [wdT ⟨#[116,114,117,101]⟩ 3] else if k=2 then [wdT ⟨#[102,97,108,115,101]⟩ 3]
  else if k=3 then ts.headD []++sgT (sgnC op)::ts.tail.headD []
  else if k=4 then sgT [33]::parT (decide (lvC (ks.headD 0) < 3)) 91 93 (ts.headD [])
  else parT (decide (lvC (ks.headD 0) < lvC k)) 91 93 (ts.headD [])++sgT (if k=6 then [124,124] else [38,38])::parT (decide (lvC (ks.tail.headD 0)≤lvC k)) 91 93 (ts.tail.headD [])
 | _,_,_=>[]
mutual
def tkT:PT→List Tok
 | .mk l cs=>labK l (cs.map kindT) (tkTs cs)
def tkTs:List PT→List (List Tok)
 | []=>[]
 | t::ts=>tkT t::tkTs ts
end
def upD(b:Bool)(d:Nat):Nat:=if b=true then d+1 else d
def labD:Lab→List Int→List Nat→Nat
 | .expr k _ _ _,ks,ds=>
  if k=4 then ds.headD 0+1 else if k=5 then upD (decide (lvE (ks.headD 0) < 3)) (ds.headD 0)+1
  else if k=6∨k=7∨k=8∨k=9∨k=10 then max (upD (decide (lvE (ks.headD 0) < lvE k)) (ds.headD 0)) (upD (decide (lvE (ks.tail.headD 0)≤lvE k)) (ds.tail.headD 0)) else 1
 | .cond k _ _ _,ks,ds=>
  if k=3 then max (ds.headD 0) (ds.tail.headD 0) else if k=4 then upD (decide (lvC (ks.headD 0) < 3)) (ds.headD 0)+1
  else if k=5∨k=6 then max (upD (decide (lvC (ks.headD 0) < lvC k)) (ds.headD 0)) (upD (decide (lvC (ks.tail.headD 0)≤lvC k)) (ds.tail.headD 0)) else 1
 | .stmt k _ _ _ _ _,_,ds=>
  if k=2 then max (ds.headD 0+1) (ds.tail.headD 0) else if k=3∨k=4 then max (max (ds.headD 0) 1) (ds.tail.foldr max 0+1)
  else if k=1∨k=5∨k=6 then max (ds.headD 0) 1 else 1
 | .decl _ _,_,_=>1
mutual
def nd:PT→Nat
 | .mk l cs=>labD l (cs.map kindT) (nds cs)
def nds:List PT→List Nat
 | []=>[]
 | t::ts=>nd t::nds ts
end
def tL(n:Int)(t:PT):List Tok:=parT (decide (lvE (kindT t) < n)) 40 41 (tkT t)
def nL(n:Int)(t:PT):Nat:=upD (decide (lvE (kindT t) < n)) (nd t)
def cL(n:Int)(t:PT):List Tok:=parT (decide (lvC (kindT t) < n)) 91 93 (tkT t)
def eL(n:Int)(t:PT):Nat:=upD (decide (lvC (kindT t) < n)) (nd t)
theorem b9a(n:Int):tkT (eX 1 n ⟨#[]⟩ [])=[nbT n]:=rfl
theorem c4L(s:ByteArray):tkT (eX 2 0 s [])=[wdT s 1]:=rfl
theorem c4M:tkT (eX 3 0 ⟨#[]⟩ [])=[wdT ⟨#[105,110,112,117,116]⟩ 3]:=rfl
theorem b6k(s:ByteArray)(e:PT):tkT (eX 4 0 s [e])=wdT s 1::sgT [91]::(tkT e++[sgT [93]]):=rfl
theorem b9b(e:PT):tkT (eX 5 0 ⟨#[]⟩ [e])=sgT [45]::tL 3 e:=rfl
theorem b3p(a b:Int):decide (a≤b)=decide (a < b+1):=decide_eq_decide.2 (by omega)
theorem b2B{k:Int}(hk:k=6∨k=7∨k=8∨k=9∨k=10)(a b:PT):tkT (eX k 0 ⟨#[]⟩ [a,b])=tL (lvE k) a++sgT (sgnE k)::tL (lvE k+1) b:=by
 unfold tL
 rw [←b3p]
 rcases hk with rfl | rfl | rfl | rfl | rfl<;>rfl
theorem b6l(s:ByteArray)(e:PT):nd (eX 4 0 s [e])=nd e+1:=rfl
theorem b9c(e:PT):nd (eX 5 0 ⟨#[]⟩ [e])=nL 3 e+1:=rfl
theorem b2C{k:Int}(hk:k=6∨k=7∨k=8∨k=9∨k=10)(a b:PT):nd (eX k 0 ⟨#[]⟩ [a,b])=max (nL (lvE k) a) (nL (lvE k+1) b):=by
 unfold nL
 rw [←b3p]
 rcases hk with rfl | rfl | rfl | rfl | rfl<;>rfl
theorem b5q(op:Int)(a b:PT):tkT (cX 3 op [a,b] [])=tkT a++sgT (sgnC op)::tkT b:=rfl
theorem b9d(c:PT):tkT (cX 4 0 [] [c])=sgT [33]::cL 3 c:=rfl
theorem b3q{k:Int}(hk:k=5∨k=6)(a b:PT):tkT (cX k 0 [] [a,b])=cL (lvC k) a++sgT (if k=6 then [124,124] else [38,38])::cL (lvC k+1) b:=by
 unfold cL
 rw [←b3p]
 rcases hk with rfl | rfl<;>rfl
theorem b9e(op:Int)(a b:PT):nd (cX 3 op [a,b] [])=max (nd a) (nd b):=rfl
theorem b9f(c:PT):nd (cX 4 0 [] [c])=eL 3 c+1:=rfl
theorem b0Q{k:Int}(hk:k=5∨k=6)(a b:PT):nd (cX k 0 [] [a,b])=max (eL (lvC k) a) (eL (lvC k+1) b):=by
 unfold eL
 rw [←b3p]
 rcases hk with rfl | rfl<;>rfl
theorem a6v(k n:Int)(s:ByteArray)(ts:List PT):kindT (eX k n s ts)=k:=rfl
theorem b0R(b:Bool)(d:Nat):d≤upD b d:=by unfold upD;split<;>omega
theorem XE.nd1{t:PT}(h:XE t):1≤nd t:=by
 induction h with
 | num n _ _=>exact Nat.le_refl _
 | var s=>exact Nat.le_refl _
 | inp=>exact Nat.le_refl _
 | item s e _ _=>rw [b6l];omega
 | neg e _ _=>rw [b9c];omega
 | bin k a b hk _ _ ha hb=>rw [b2C hk];have:=b0R (decide (lvE (kindT a) < lvE k)) (nd a);unfold nL;omega
theorem XC.nd1{t:PT}(h:XC t):1≤nd t:=by
 induction h with
 | tru=>exact Nat.le_refl _
 | fls=>exact Nat.le_refl _
 | cmp op a b _ _ ha hb=>rw [b9e];have:=ha.nd1;omega
 | not c _ _=>rw [b9f];omega
 | bin k a b hk _ _ ha hb=>rw [b0Q hk];have:=b0R (decide (lvC (kindT a) < lvC k)) (nd a);unfold eL;omega
theorem U5(s:ByteArray)(w:BL)(r:List Tok):isT s (sgT w::r)=decide ((⟨w.toArray⟩:ByteArray)=s):=by
 show ((decide ((4:Int)=3)||decide ((4:Int)=4))&&decide ((⟨w.toArray⟩:ByteArray)=s))=_
 simp
structure NE (r:List Tok):Prop where
 b:isT ⟨#[91]⟩ r=false
 m:whG sMul kMul r=0
 a:whG sAdd kAdd r=0
def Rs{α:Type}(b:Prop)(x:Except Flt (α×List Tok))(a:α)(r:List Tok):Prop:=(b→x=.ok (a,r))∧(¬b→∃pl,x=.error (41,pl))
theorem b3N{w:List Tok→Int}(hw:w []=0){part:PM PT}(hp:Shr part):∀(n m:Nat)(e:PT)(r:List Tok),r.length≤n→r.length≤m→chainF w part n e r=chainF w part m e r
 | 0,m,e,r,hn,_=>by
  obtain rfl:r=[]:=List.length_eq_zero_iff.1 (by omega)
  cases m with
  | zero=>rfl
  | succ m=>rw [chainF,chainF];simp [hw]
 | n+1,0,e,r,_,hm=>by
  obtain rfl:r=[]:=List.length_eq_zero_iff.1 (by omega)
  rw [chainF,chainF];simp [hw]
 | n+1,m+1,e,r,hn,hm=>by
  unfold chainF
  split
  ·rfl
  ·unfold bindP
   have ht:r.tail.length≤n∧r.tail.length≤m:=by rw [List.length_tail];omega
   cases hpr:part r.tail with
   | error y=>rfl
   | ok y=>
    have:=hp _ _ _ (show part r.tail=.ok (y.1,y.2) from hpr)
    exact b3N hw hp n m _ y.2 (by omega) (by omega)
def chainC(w:List Tok→Int)(part:PM PT)(e:PT)(r:List Tok):Except Flt (PT×List Tok):=chainF w part r.length e r
theorem b3O{w:List Tok→Int}(hw:w []=0){part:PM PT}(hp:Shr part){e:PT}{t:Tok}{r:List Tok}(h:w (t::r)≠0):chainC w part e (t::r)=bindP part (fun a=>chainC w part (eX (w (t::r)) 0 ⟨#[]⟩ [e,a])) r:=by
 unfold chainC
 rw [List.length_cons]
 conv=>lhs;unfold chainF
 rw [if_neg h]
 show bindP part _ r=_
 unfold bindP
 cases hpr:part r with
 | error y=>rfl
 | ok y=>
  have:=hp _ _ _ (show part r=.ok (y.1,y.2) from hpr)
  exact b3N hw hp _ _ _ y.2 this (Nat.le_refl _)
theorem b5r{w:List Tok→Int}{part:PM PT}{e:PT}{r:List Tok}(h:w r=0):chainC w part e r=.ok (e,r):=by
 unfold chainC
 cases r with
 | nil=>rfl
 | cons t r=>rw [List.length_cons];unfold chainF;rw [if_pos h]
theorem b3P{s:ByteArray}{k:Int}{part:PM PT}(hp:Shr part):∀(n m:Nat)(e:PT)(r:List Tok),r.length≤n→r.length≤m→joinsF s k part n e r=joinsF s k part m e r
 | 0,m,e,r,hn,_=>by
  obtain rfl:r=[]:=List.length_eq_zero_iff.1 (by omega)
  cases m with
  | zero=>rfl
  | succ m=>rw [joinsF,joinsF];simp [isT,hd]
 | n+1,0,e,r,_,hm=>by
  obtain rfl:r=[]:=List.length_eq_zero_iff.1 (by omega)
  rw [joinsF,joinsF];simp [isT,hd]
 | n+1,m+1,e,r,hn,hm=>by
  unfold joinsF
  split
  ·unfold bindP
   have ht:r.tail.length≤n∧r.tail.length≤m:=by rw [List.length_tail];omega
   cases hpr:part r.tail with
   | error y=>rfl
   | ok y=>
    have:=hp _ _ _ (show part r.tail=.ok (y.1,y.2) from hpr)
    exact b3P hp n m _ y.2 (by omega) (by omega)
  ·rfl
def joinsC(s:ByteArray)(k:Int)(part:PM PT)(e:PT)(r:List Tok):Except Flt (PT×List Tok):=joinsF s k part r.length e r
theorem b3Q{s:ByteArray}{k:Int}{part:PM PT}(hp:Shr part){e:PT}{t:Tok}{r:List Tok}(h:isT s (t::r)=true):joinsC s k part e (t::r)=bindP part (fun a=>joinsC s k part (cX k 0 [] [e,a])) r:=by
 unfold joinsC
 rw [List.length_cons]
 conv=>lhs;unfold joinsF
 rw [if_pos h]
 show bindP part _ r=_
 unfold bindP
 cases hpr:part r with
 | error y=>rfl
 | ok y=>
  have:=hp _ _ _ (show part r=.ok (y.1,y.2) from hpr)
  exact b3P hp _ _ _ y.2 this (Nat.le_refl _)
theorem b5s{s:ByteArray}{k:Int}{part:PM PT}{e:PT}{r:List Tok}(h:isT s r=false):joinsC s k part e r=.ok (e,r):=by
 unfold joinsC
 cases r with
 | nil=>rfl
 | cons t r=>rw [List.length_cons];unfold joinsF;rw [h];rfl
theorem c4N{k:Int}(hk:k=8∨k=9∨k=10)(r:List Tok):whG sMul kMul (sgT (sgnE k)::r)=k:=by
 unfold whG whG whG
 rw [U5,U5,U5]
 rcases hk with rfl | rfl | rfl<;>rfl
theorem c4O{k:Int}(hk:k=6∨k=7)(r:List Tok):whG sAdd kAdd (sgT (sgnE k)::r)=k:=by
 unfold whG whG
 rw [U5,U5]
 rcases hk with rfl | rfl<;>rfl
theorem NE.of{w:BL}{r:List Tok}(h1:(⟨w.toArray⟩:ByteArray)≠⟨#[91]⟩)(h2:(⟨w.toArray⟩:ByteArray)≠⟨#[42]⟩)(h3:(⟨w.toArray⟩:ByteArray)≠⟨#[47]⟩)(h4:(⟨w.toArray⟩:ByteArray)≠⟨#[37]⟩)(h5:(⟨w.toArray⟩:ByteArray)≠⟨#[43]⟩)(h6:(⟨w.toArray⟩:ByteArray)≠⟨#[45]⟩):NE (sgT w::r):=by
 refine ⟨?_,?_,?_⟩
 ·rw [U5,decide_eq_false h1]
 ·simp only [whG,U5,decide_eq_false h2,decide_eq_false h3,decide_eq_false h4];rfl
 ·simp only [whG,U5,decide_eq_false h5,decide_eq_false h6];rfl
theorem d3r{k:Int}(hk:k=6∨k=7)(r:List Tok):isT ⟨#[91]⟩ (sgT (sgnE k)::r)=false∧whG sMul kMul (sgT (sgnE k)::r)=0:=by
 rcases hk with rfl | rfl<;>exact ⟨by rw [U5];decide,by simp only [whG,U5];decide⟩
theorem d3s{k:Int}(hk:k=8∨k=9∨k=10)(r:List Tok):isT ⟨#[91]⟩ (sgT (sgnE k)::r)=false:=by
 rcases hk with rfl | rfl | rfl<;>(rw [U5];decide)
theorem NE.par(r:List Tok):NE (sgT [41]::r):=NE.of (by decide) (by decide) (by decide) (by decide) (by decide) (by decide)
theorem NE.brk(r:List Tok):NE (sgT [93]::r):=NE.of (by decide) (by decide) (by decide) (by decide) (by decide) (by decide)
theorem NE.cmp(op:Int)(r:List Tok):NE (sgT (sgnC op)::r):=by
 unfold sgnC
 (repeat' split)<;>exact NE.of (by decide) (by decide) (by decide) (by decide) (by decide) (by decide)
section
variable {g:Nat}
def FactR(g:Nat)(f:PM PT):Prop:=∀(t:PT),XE t→∀rest,isT ⟨#[91]⟩ rest=false→Rs (nL 3 t≤g) (f (tL 3 t++rest)) t rest
theorem Rs.bind{α β:Type}{b c:Prop}{p:PM α}{f:α→PM β}{r r1:List Tok}{a:α}{y:β}{rest:List Tok}(h:Rs b (p r) a r1)(k:b→Rs c (f a r1) y rest):Rs (b∧c) (bindP p f r) y rest:=by
 unfold bindP
 constructor
 ·rintro ⟨hb,hc⟩
  rw [h.1 hb]
  exact (k hb).1 hc
 ·intro hn
  by_cases hb:b
  ·rw [h.1 hb]
   exact (k hb).2 fun hc=>hn ⟨hb,hc⟩
  ·obtain ⟨pl,e⟩:=h.2 hb
   rw [e]
   exact ⟨pl,rfl⟩
theorem Rs.iff{α:Type}{b c:Prop}{x:Except Flt (α×List Tok)}{a:α}{r:List Tok}(h:Rs b x a r)(e:b↔c):Rs c x a r:=⟨fun hc=>h.1 (e.2 hc),fun hc=>h.2 fun hb=>hc (e.1 hb)⟩
theorem Rs.ok{α:Type}{a:α}{r:List Tok}:Rs True (.ok (a,r)) a r:=⟨fun _=>rfl,fun h=>(h trivial).elim⟩
theorem b9g{k:Int}(hk:k=6∨k=7∨k=8∨k=9∨k=10):((k=6∨k=7)∧lvE k=1)∨((k=8∨k=9∨k=10)∧lvE k=2):=by
 rcases hk with rfl | rfl | rfl | rfl | rfl<;>decide
theorem Z7{n:Int}{t:PT}(h:n≤lvE (kindT t)):tL n t=tkT t∧nL n t=nd t:=by
 unfold tL nL parT upD
 rw [decide_eq_false (by omega)]
 exact ⟨rfl,rfl⟩
theorem b0f{n:Int}{t:PT}(h:lvE (kindT t) < n):tL n t=sgT [40]::(tkT t++[sgT [41]])∧nL n t=nd t+1:=by
 unfold tL nL parT upD
 rw [decide_eq_true h]
 exact ⟨rfl,rfl⟩
theorem c9E{f:PM PT}(hf:FactR g f)(hsh:Shr f){t:PT}(h:XE t):∀rest,isT ⟨#[91]⟩ rest=false→(nL 2 t≤g→termOf f (tL 2 t++rest)=chainC (whG sMul kMul) f t rest)∧(¬nL 2 t≤g→∃pl,termOf f (tL 2 t++rest)=.error (41,pl)):=by
 have base:∀{t:PT},XE t→tL 2 t=tL 3 t∧nL 2 t=nL 3 t→∀rest,isT ⟨#[91]⟩ rest=false→(nL 2 t≤g→termOf f (tL 2 t++rest)=chainC (whG sMul kMul) f t rest)∧(¬nL 2 t≤g→∃pl,termOf f (tL 2 t++rest)=.error (41,pl)):=by
  intro t ht ⟨e1,e2⟩ rest hr
  have h:=hf t ht rest hr
  rw [e1,e2]
  unfold termOf chainP bindP
  constructor
  ·intro hb;rw [h.1 hb];rfl
  ·intro hb;obtain ⟨pl,e⟩:=h.2 hb;rw [e];exact ⟨pl,rfl⟩
 have hi:∀{t:PT},XE t→3≤lvE (kindT t)→tL 2 t=tL 3 t∧nL 2 t=nL 3 t:=fun{t} _ h=>by
  rw [(Z7 h).1,(Z7 h).2,(Z7 (n:=2) (by omega)).1,(Z7 (n:=2) (by omega)).2];exact ⟨rfl,rfl⟩
 induction h with
 | num n h0 h1=>exact base (.num n h0 h1) (hi (.num n h0 h1) (by show (3:Int)≤lvE 1;decide))
 | var s=>exact base (.var s) (hi (.var s) (by show (3:Int)≤lvE 2;decide))
 | inp=>exact base .inp (hi .inp (by decide))
 | item s e he _=>exact base (.item s e he) (hi (.item s e he) (by show (3:Int)≤lvE 4;decide))
 | neg e he _=>exact base (.neg e he) (hi (.neg e he) (by show (3:Int)≤lvE 5;decide))
 | bin k a b hk ha hb iha _=>
  rcases b9g hk with ⟨hk1,hl⟩ | ⟨hk1,hl⟩
  ·refine base (.bin k a b hk ha hb) ?_
   rw [(b0f (n:=2) (t:=eX k 0 ⟨#[]⟩ [a,b]) (by rw [a6v];omega)).1,(b0f (n:=2) (t:=eX k 0 ⟨#[]⟩ [a,b]) (by rw [a6v];omega)).2,(b0f (n:=3) (t:=eX k 0 ⟨#[]⟩ [a,b]) (by rw [a6v];omega)).1,(b0f (n:=3) (t:=eX k 0 ⟨#[]⟩ [a,b]) (by rw [a6v];omega)).2]
   exact ⟨rfl,rfl⟩
  ·intro rest hr
   obtain ⟨e1,e2⟩:=Z7 (n:=2) (t:=eX k 0 ⟨#[]⟩ [a,b]) (by rw [a6v];omega)
   rw [e1,e2,b2B hk,b2C hk,hl,show (2:Int)+1=3 from rfl,List.append_assoc,List.cons_append]
   obtain ⟨i1,i2⟩:=iha (sgT (sgnE k)::(tL 3 b++rest)) (d3s hk1 _)
   have hB:=hf b hb rest hr
   have hstep:=b3O (w:=whG sMul kMul) rfl hsh (e:=a) (t:=sgT (sgnE k)) (r:=tL 3 b++rest) (by rw [c4N hk1];omega)
   rw [c4N hk1] at hstep
   unfold bindP at hstep
   constructor
   ·intro hb'
    rw [i1 (by omega),hstep,hB.1 (by omega)]
   ·intro hb'
    by_cases ha':nL 2 a≤g
    ·obtain ⟨pl,e⟩:=hB.2 (by omega)
     rw [i1 ha',hstep,e]
     exact ⟨pl,rfl⟩
    ·exact i2 ha'
theorem c4P(k:Int):1≤lvE k:=by
 unfold lvE
 (repeat' split)<;>omega
theorem b9h{f:PM PT}(hf:FactR g f)(hsh:Shr f){t:PT}(h:XE t)(rest:List Tok)(hb:isT ⟨#[91]⟩ rest=false)(hm:whG sMul kMul rest=0):Rs (nL 2 t≤g) (termOf f (tL 2 t++rest)) t rest:=by
 obtain ⟨h1,h2⟩:=c9E hf hsh h rest hb
 exact ⟨fun q=>by rw [h1 q,b5r hm],h2⟩
theorem c2x{f:PM PT}(hf:SShr f):SShr (termOf f):=a5z hf
theorem c9F{f:PM PT}(hf:FactR g f)(hsh:SShr f){t:PT}(h:XE t):∀rest,isT ⟨#[91]⟩ rest=false→whG sMul kMul rest=0→(nd t≤g→exprOf f (tkT t++rest)=chainC (whG sAdd kAdd) (termOf f) t rest)∧(¬nd t≤g→∃pl,exprOf f (tkT t++rest)=.error (41,pl)):=by
 have base:∀{t:PT},XE t→2≤lvE (kindT t)→∀rest,isT ⟨#[91]⟩ rest=false→whG sMul kMul rest=0→(nd t≤g→exprOf f (tkT t++rest)=chainC (whG sAdd kAdd) (termOf f) t rest)∧(¬nd t≤g→∃pl,exprOf f (tkT t++rest)=.error (41,pl)):=by
  intro t ht hl rest hr hm
  have h:=b9h hf hsh.shr ht rest hr hm
  rw [(Z7 hl).1,(Z7 hl).2] at h
  unfold exprOf
  unfold chainP
  unfold bindP
  constructor
  ·intro hb;rw [h.1 hb];rfl
  ·intro hb;obtain ⟨pl,e⟩:=h.2 hb;rw [e];exact ⟨pl,rfl⟩
 induction h with
 | num n h0 h1=>exact base (.num n h0 h1) (by show (2:Int)≤lvE 1;decide)
 | var s=>exact base (.var s) (by show (2:Int)≤lvE 2;decide)
 | inp=>exact base .inp (by decide)
 | item s e he _=>exact base (.item s e he) (by show (2:Int)≤lvE 4;decide)
 | neg e he _=>exact base (.neg e he) (by show (2:Int)≤lvE 5;decide)
 | bin k a b hk ha hb iha _=>
  rcases b9g hk with ⟨hk1,hl⟩ | ⟨hk1,hl⟩
  ·intro rest hr hm
   rw [b2B hk,b2C hk,hl,show (1:Int)+1=2 from rfl,List.append_assoc,List.cons_append]
   have l1:=c4P (kindT a)
   rw [(Z7 (n:=1) (t:=a) l1).1,(Z7 (n:=1) (t:=a) l1).2]
   obtain ⟨n1,n2⟩:=d3r hk1 (tL 2 b++rest)
   obtain ⟨i1,i2⟩:=iha (sgT (sgnE k)::(tL 2 b++rest)) n1 n2
   have hB:=b9h hf hsh.shr hb rest hr hm
   have hstep:=b3O (w:=whG sAdd kAdd) rfl (c2x hsh).shr (e:=a) (t:=sgT (sgnE k)) (r:=tL 2 b++rest) (by rw [c4O hk1];omega)
   rw [c4O hk1] at hstep
   unfold bindP at hstep
   show (_≤g→exprOf f (tkT a++sgT (sgnE k)::(tL 2 b++rest))=_)∧(_→∃pl,exprOf f (tkT a++sgT (sgnE k)::(tL 2 b++rest))=_)
   constructor
   ·intro hb'
    have h1:nd a≤g:=Nat.le_trans (Nat.le_max_left _ _) hb'
    have h2:nL 2 b≤g:=Nat.le_trans (Nat.le_max_right _ _) hb'
    rw [i1 h1,hstep,hB.1 h2]
   ·intro hb'
    by_cases ha':nd a≤g
    ·obtain ⟨pl,e⟩:=hB.2 (fun q=>hb' (Nat.max_le.2 ⟨ha',q⟩))
     rw [i1 ha',hstep,e]
     exact ⟨pl,rfl⟩
    ·exact i2 ha'
  ·exact base (.bin k a b hk ha hb) (by rw [a6v];omega)
theorem b4q{f:PM PT}(hf:FactR g f)(hsh:SShr f){t:PT}(h:XE t)(rest:List Tok)(hr:NE rest):Rs (nd t≤g) (exprOf f (tkT t++rest)) t rest:=by
 obtain ⟨h1,h2⟩:=c9F hf hsh h rest hr.b hr.m
 exact ⟨fun q=>by rw [h1 q,b5r hr.a],h2⟩
end
end Go.Proofs.YtoflkliecagjcaaGreatDoor
namespace Go.Proofs.YtoflkliecagjcaaGreatDoor
open Go.RowKit
set_option maxRecDepth 100000
set_option maxHeartbeats 2000000
theorem a3s(p:Prop):(p∧True)↔p:=⟨fun h=>h.1,fun h=>⟨h,trivial⟩⟩
theorem c1o(c:UInt8)(r:List Tok):mustP ⟨#[c]⟩ (sgT [c]::r)=.ok ((),r):=by
 unfold mustP
 rw [U5,decide_eq_true rfl]
 rfl
theorem d3t(f:PM PT)(r:List Tok):factS f (sgT [45]::r)=bindP f (fun e=>pureP (eX 5 0 ⟨#[]⟩ [e])) r:=rfl
theorem d3u(f:PM PT)(r:List Tok):factS f (sgT [40]::r)=bindP (exprOf f) (fun e=>bindP (mustP ⟨#[41]⟩) fun _=>pureP e) r:=rfl
theorem c9G(f:PM PT)(s:ByteArray)(r:List Tok):factS f (wdT s 1::sgT [91]::r)=bindP (exprOf f) (fun e=>bindP (mustP ⟨#[93]⟩) fun _=>pureP (eX 4 0 s [e])) r:=rfl
theorem d3v(f:PM PT)(s:ByteArray){r:List Tok}(h:isT ⟨#[91]⟩ r=false):factS f (wdT s 1::r)=.ok (eX 2 0 s [],r):=by
 show (if isT ⟨#[91]⟩ r=true then _ else _)=_
 rw [h];rfl
theorem Rs.must{c:UInt8}{r:List Tok}{α:Type}{y:α}:Rs True (bindP (mustP ⟨#[c]⟩) (fun _=>pureP y) (sgT [c]::r)) y r:=by
 unfold bindP
 rw [c1o]
 exact Rs.ok
theorem Rs.c2y{c:UInt8}{r r':List Tok}{α:Type}{b:Prop}{f:Unit→PM α}{y:α}(h:Rs b (f () r) y r'):Rs b (bindP (mustP ⟨#[c]⟩) f (sgT [c]::r)) y r':=by
 unfold bindP
 rw [c1o]
 exact h
inductive Fst:Tok→Prop
 | nb (n:Int):Fst (nbT n)
 | w1 (s:ByteArray):Fst (wdT s 1)
 | inp:Fst (wdT ⟨#[105,110,112,117,116]⟩ 3)
 | neg:Fst (sgT [45])
 | par:Fst (sgT [40])
theorem b4r{t:PT}(h:XE t):∃k r,Fst k∧tkT t=k::r:=by
 induction h with
 | num n _ _=>exact ⟨_,_,.nb n,rfl⟩
 | var s=>exact ⟨_,_,.w1 s,rfl⟩
 | inp=>exact ⟨_,_,.inp,rfl⟩
 | item s e _ _=>exact ⟨_,_,.w1 s,rfl⟩
 | neg e _ _=>exact ⟨_,_,.neg,rfl⟩
 | bin k a b hk _ _ ha _=>
  rw [b2B hk]
  obtain ⟨k1,r1,h1,h2⟩:=ha
  by_cases c:lvE (kindT a) < lvE k
  ·rw [(b0f c).1];exact ⟨_,_,.par,rfl⟩
  ·rw [(Z7 (by omega)).1,h2];exact ⟨_,_,h1,rfl⟩
theorem c6R{t:PT}(h:XE t)(n:Int):∃k r,Fst k∧tL n t=k::r:=by
 by_cases c:lvE (kindT t) < n
 ·rw [(b0f c).1];exact ⟨_,_,.par,rfl⟩
 ·rw [(Z7 (by omega)).1];exact b4r h
theorem Fst.fb{k:Tok}(h:Fst k)(r:List Tok):factB (k::r)=true:=by
 cases h<;>rfl
theorem a7N{α:Type}{b:List Tok→Bool}{r:List Tok}(h:b r=true):∃pl,deadE (α:=α) b r=.error (41,pl):=by
 unfold deadE
 rw [if_pos h]
 exact ⟨_,rfl⟩
theorem b9i:∀g,FactR g (factP g)
 | 0=>fun t ht rest hr=>by
  refine ⟨fun q=>?_,fun _=>?_⟩
  ·have:=ht.nd1
   have:=b0R (decide (lvE (kindT t) < 3)) (nd t)
   unfold nL at q
   omega
  ·obtain ⟨k,r,h1,h2⟩:=c6R ht 3
   rw [h2]
   exact a7N (h1.fb _)
 | g+1=>fun t ht rest hr=>by
  have ih:=b9i g
  have hsh:=a6u g
  show Rs _ (factS (factP g) (tL 3 t++rest)) t rest
  cases ht with
  | num n h0 h1=>
   rw [(Z7 (n:=3) (t:=eX 1 n ⟨#[]⟩ []) (by show (3:Int)≤lvE 1;decide)).1,(Z7 (n:=3) (t:=eX 1 n ⟨#[]⟩ []) (by show (3:Int)≤lvE 1;decide)).2,b9a]
   exact Rs.iff Rs.ok ⟨fun _=>by show 1≤_;omega,fun _=>trivial⟩
  | var s=>
   rw [(Z7 (n:=3) (t:=eX 2 0 s []) (by show (3:Int)≤lvE 2;decide)).1,(Z7 (n:=3) (t:=eX 2 0 s []) (by show (3:Int)≤lvE 2;decide)).2,c4L]
   rw [List.singleton_append,d3v _ _ hr]
   exact Rs.iff Rs.ok ⟨fun _=>by show 1≤_;omega,fun _=>trivial⟩
  | inp=>
   rw [(Z7 (n:=3) (t:=eX 3 0 ⟨#[]⟩ []) (by show (3:Int)≤lvE 3;decide)).1,(Z7 (n:=3) (t:=eX 3 0 ⟨#[]⟩ []) (by show (3:Int)≤lvE 3;decide)).2,c4M]
   exact Rs.iff Rs.ok ⟨fun _=>by show 1≤_;omega,fun _=>trivial⟩
  | item s e he=>
   rw [(Z7 (n:=3) (t:=eX 4 0 s [e]) (by show (3:Int)≤lvE 4;decide)).1,(Z7 (n:=3) (t:=eX 4 0 s [e]) (by show (3:Int)≤lvE 4;decide)).2,b6k,b6l]
   rw [List.cons_append,List.cons_append,List.append_assoc,c9G]
   exact (Rs.bind (b4q ih hsh he (sgT [93]::rest) (NE.brk rest)) fun _=>Rs.must).iff (by rw [a3s];omega)
  | neg e he=>
   rw [(Z7 (n:=3) (t:=eX 5 0 ⟨#[]⟩ [e]) (by show (3:Int)≤lvE 5;decide)).1,(Z7 (n:=3) (t:=eX 5 0 ⟨#[]⟩ [e]) (by show (3:Int)≤lvE 5;decide)).2,b9b,b9c]
   rw [List.cons_append,d3t]
   exact (Rs.bind (ih e he rest hr) fun _=>Rs.ok).iff (by rw [a3s];omega)
  | bin k a b hk ha hb=>
   have hl:lvE (kindT (eX k 0 ⟨#[]⟩ [a,b])) < 3:=by
    rw [a6v]
    rcases b9g hk with ⟨_,e⟩ | ⟨_,e⟩<;>omega
   rw [(b0f hl).1,(b0f hl).2,List.cons_append,List.append_assoc,d3u]
   exact (Rs.bind (b4q ih hsh (.bin k a b hk ha hb) (sgT [41]::rest) (NE.par rest)) fun _=>Rs.must).iff (by rw [a3s];omega)
theorem a9M(g:Nat){t:PT}(h:XE t)(rest:List Tok)(hr:NE rest):Rs (nd t≤g) (exprP g (tkT t++rest)) t rest:=b4q (b9i g) (a6u g) h rest hr
section
variable {g:Nat}
def CondR(g:Nat)(l:PM PT):Prop:=∀(t:PT),XC t→∀rest,NE rest→Rs (eL 3 t≤g) (l (cL 3 t++rest)) t rest
theorem a2M{n:Int}{t:PT}(h:n≤lvC (kindT t)):cL n t=tkT t∧eL n t=nd t:=by
 unfold cL eL parT upD
 rw [decide_eq_false (by omega)]
 exact ⟨rfl,rfl⟩
theorem b1E{n:Int}{t:PT}(h:lvC (kindT t) < n):cL n t=sgT [91]::(tkT t++[sgT [93]])∧eL n t=nd t+1:=by
 unfold cL eL parT upD
 rw [decide_eq_true h]
 exact ⟨rfl,rfl⟩
theorem NE.and(r:List Tok):NE (sgT [38,38]::r):=NE.of (by decide) (by decide) (by decide) (by decide) (by decide) (by decide)
theorem NE.or(r:List Tok):NE (sgT [124,124]::r):=NE.of (by decide) (by decide) (by decide) (by decide) (by decide) (by decide)
theorem c9H{l:PM PT}(hf:CondR g l)(hsh:Shr l){t:PT}(h:XC t):∀rest,NE rest→(eL 2 t≤g→conjOf l (cL 2 t++rest)=joinsC ⟨#[38,38]⟩ 5 l t rest)∧(¬eL 2 t≤g→∃pl,conjOf l (cL 2 t++rest)=.error (41,pl)):=by
 have base:∀{t:PT},XC t→cL 2 t=cL 3 t∧eL 2 t=eL 3 t→∀rest,NE rest→(eL 2 t≤g→conjOf l (cL 2 t++rest)=joinsC ⟨#[38,38]⟩ 5 l t rest)∧(¬eL 2 t≤g→∃pl,conjOf l (cL 2 t++rest)=.error (41,pl)):=by
  intro t ht ⟨e1,e2⟩ rest hr
  have h:=hf t ht rest hr
  rw [e1,e2]
  unfold conjOf joinsP bindP
  constructor
  ·intro hb;rw [h.1 hb];rfl
  ·intro hb;obtain ⟨pl,e⟩:=h.2 hb;rw [e];exact ⟨pl,rfl⟩
 have hi:∀{t:PT},3≤lvC (kindT t)→cL 2 t=cL 3 t∧eL 2 t=eL 3 t:=fun{t} h=>by
  rw [(a2M h).1,(a2M h).2,(a2M (n:=2) (by omega)).1,(a2M (n:=2) (by omega)).2];exact ⟨rfl,rfl⟩
 induction h with
 | tru=>exact base .tru (hi (by decide))
 | fls=>exact base .fls (hi (by decide))
 | cmp op a b h0 h1 ha hb=>exact base (.cmp op a b h0 h1 ha hb) (hi (by show (3:Int)≤lvC 3;decide))
 | not c hc _=>exact base (.not c hc) (hi (by show (3:Int)≤lvC 4;decide))
 | bin k a b hk ha hb iha _=>
  rcases hk with rfl | rfl
  ·intro rest hr
   obtain ⟨e1,e2⟩:=a2M (n:=2) (t:=cX 5 0 [] [a,b]) (by show (2:Int)≤lvC 5;decide)
   rw [e1,e2,b3q (.inl rfl),b0Q (.inl rfl),show lvC 5=2 from rfl,List.append_assoc,List.cons_append,show (if (5:Int)=6 then ([124,124]:BL) else [38,38])=[38,38] from rfl]
   obtain ⟨i1,i2⟩:=iha (sgT [38,38]::(cL 3 b++rest)) (NE.and _)
   have hB:=hf b hb rest hr
   have hstep:=b3Q (s:=⟨#[38,38]⟩) (k:=5) hsh (e:=a) (t:=sgT [38,38]) (r:=cL 3 b++rest) (by rw [U5];decide)
   unfold bindP at hstep
   show (_≤g→conjOf l (cL 2 a++sgT [38,38]::(cL 3 b++rest))=_)∧(_→∃pl,conjOf l (cL 2 a++sgT [38,38]::(cL 3 b++rest))=_)
   constructor
   ·intro hb'
    have h1:eL 2 a≤g:=Nat.le_trans (Nat.le_max_left _ _) hb'
    have h2:eL 3 b≤g:=Nat.le_trans (Nat.le_max_right _ _) hb'
    rw [i1 h1,hstep,hB.1 h2]
   ·intro hb'
    by_cases ha':eL 2 a≤g
    ·obtain ⟨pl,e⟩:=hB.2 (fun q=>hb' (Nat.max_le.2 ⟨ha',q⟩))
     rw [i1 ha',hstep,e]
     exact ⟨pl,rfl⟩
    ·exact i2 ha'
  ·refine base (.bin 6 a b (.inr rfl) ha hb) ?_
   have h2:lvC (kindT (cX 6 0 [] [a,b])) < 2:=by show lvC 6 < 2;decide
   have h3:lvC (kindT (cX 6 0 [] [a,b])) < 3:=by show lvC 6 < 3;decide
   rw [(b1E h2).1,(b1E h2).2,(b1E h3).1,(b1E h3).2]
   exact ⟨rfl,rfl⟩
theorem b9j{l:PM PT}(hf:CondR g l)(hsh:Shr l){t:PT}(h:XC t)(rest:List Tok)(hr:NE rest)(hn:isT ⟨#[38,38]⟩ rest=false):Rs (eL 2 t≤g) (conjOf l (cL 2 t++rest)) t rest:=by
 obtain ⟨h1,h2⟩:=c9H hf hsh h rest hr
 exact ⟨fun q=>by rw [h1 q,b5s hn],h2⟩
theorem c4Q(k:Int):1≤lvC k:=by
 unfold lvC
 (repeat' split)<;>omega
theorem c9I{l:PM PT}(hf:CondR g l)(hsh:SShr l){t:PT}(h:XC t):∀rest,NE rest→isT ⟨#[38,38]⟩ rest=false→(nd t≤g→condOf l (tkT t++rest)=joinsC ⟨#[124,124]⟩ 6 (conjOf l) t rest)∧(¬nd t≤g→∃pl,condOf l (tkT t++rest)=.error (41,pl)):=by
 have base:∀{t:PT},XC t→2≤lvC (kindT t)→∀rest,NE rest→isT ⟨#[38,38]⟩ rest=false→(nd t≤g→condOf l (tkT t++rest)=joinsC ⟨#[124,124]⟩ 6 (conjOf l) t rest)∧(¬nd t≤g→∃pl,condOf l (tkT t++rest)=.error (41,pl)):=by
  intro t ht hl rest hr hn
  have h:=b9j hf hsh.shr ht rest hr hn
  rw [(a2M hl).1,(a2M hl).2] at h
  unfold condOf
  unfold joinsP
  unfold bindP
  constructor
  ·intro hb;rw [h.1 hb];rfl
  ·intro hb;obtain ⟨pl,e⟩:=h.2 hb;rw [e];exact ⟨pl,rfl⟩
 induction h with
 | tru=>exact base .tru (by decide)
 | fls=>exact base .fls (by decide)
 | cmp op a b h0 h1 ha hb=>exact base (.cmp op a b h0 h1 ha hb) (by show (2:Int)≤lvC 3;decide)
 | not c hc _=>exact base (.not c hc) (by show (2:Int)≤lvC 4;decide)
 | bin k a b hk ha hb iha _=>
  rcases hk with rfl | rfl
  ·exact base (.bin 5 a b (.inl rfl) ha hb) (by show (2:Int)≤lvC 5;decide)
  ·intro rest hr hn
   rw [b3q (.inr rfl),b0Q (.inr rfl),show lvC 6=1 from rfl,List.append_assoc,List.cons_append,show (if (6:Int)=6 then ([124,124]:BL) else [38,38])=[124,124] from rfl]
   have l1:=c4Q (kindT a)
   rw [(a2M (n:=1) (t:=a) l1).1,(a2M (n:=1) (t:=a) l1).2]
   obtain ⟨i1,i2⟩:=iha (sgT [124,124]::(cL 2 b++rest)) (NE.or _) (by rw [U5];decide)
   have hB:=b9j hf hsh.shr hb rest hr hn
   have hstep:=b3Q (s:=⟨#[124,124]⟩) (k:=6) (part:=conjOf l) (a5A (s:=⟨#[38,38]⟩) (k:=5) hsh).shr (e:=a) (t:=sgT [124,124]) (r:=cL 2 b++rest) (by rw [U5];decide)
   unfold bindP at hstep
   show (_≤g→condOf l (tkT a++sgT [124,124]::(cL 2 b++rest))=_)∧(_→∃pl,condOf l (tkT a++sgT [124,124]::(cL 2 b++rest))=_)
   constructor
   ·intro hb'
    have h1:nd a≤g:=Nat.le_trans (Nat.le_max_left _ _) hb'
    have h2:eL 2 b≤g:=Nat.le_trans (Nat.le_max_right _ _) hb'
    rw [i1 h1,hstep,hB.1 h2]
   ·intro hb'
    by_cases ha':nd a≤g
    ·obtain ⟨pl,e⟩:=hB.2 (fun q=>hb' (Nat.max_le.2 ⟨ha',q⟩))
     rw [i1 ha',hstep,e]
     exact ⟨pl,rfl⟩
    ·exact i2 ha'
theorem b9k{l:PM PT}(hf:CondR g l)(hsh:SShr l){t:PT}(h:XC t)(rest:List Tok)(hr:NE rest)(hn:isT ⟨#[38,38]⟩ rest=false)(ho:isT ⟨#[124,124]⟩ rest=false):Rs (nd t≤g) (condOf l (tkT t++rest)) t rest:=by
 obtain ⟨h1,h2⟩:=c9I hf hsh h rest hr hn
 exact ⟨fun q=>by rw [h1 q,b5s ho],h2⟩
end
theorem d3w(l ex:PM PT)(r:List Tok):litS l ex (sgT [33]::r)=bindP l (fun c=>pureP (cX 4 0 [] [c])) r:=rfl
theorem d3x(l ex:PM PT)(r:List Tok):litS l ex (sgT [91]::r)=bindP (condOf l) (fun c=>bindP (mustP ⟨#[93]⟩) fun _=>pureP c) r:=rfl
theorem d3y(l ex:PM PT){k:Tok}(h:Fst k)(r:List Tok):litS l ex (k::r)=bindP ex (fun a=>bindP relP fun op=>bindP ex fun b=>pureP (cX 3 op [a,b] [])) (k::r):=by
 cases h<;>rfl
theorem d3z{op:Int}(h0:1≤op)(h1:op≤6)(r:List Tok):relP (sgT (sgnC op)::r)=.ok (op,r):=by
 have:op=1∨op=2∨op=3∨op=4∨op=5∨op=6:=by omega
 rcases this with rfl | rfl | rfl | rfl | rfl | rfl<;>rfl
theorem c1p:∀g,CondR g (litP g)
 | 0=>fun t ht rest hr=>by
  refine ⟨fun q=>?_,fun _=>?_⟩
  ·have:=ht.nd1
   have:=b0R (decide (lvC (kindT t) < 3)) (nd t)
   unfold eL at q
   omega
  ·have lb:∀{k:Tok}(r:List Tok),Fst k→litB (k::r)=true:=fun r h=>by
    unfold litB;rw [h.fb];rfl
   by_cases c:lvC (kindT t) < 3
   ·rw [(b1E c).1];exact a7N rfl
   ·rw [(a2M (by omega)).1]
    cases ht with
    | tru=>exact a7N rfl
    | fls=>exact a7N rfl
    | cmp op a b _ _ ha hb=>
     obtain ⟨k,r,h1,h2⟩:=b4r ha
     rw [b5q,h2]
     exact a7N (lb _ h1)
    | not c _=>exact a7N rfl
    | bin k a b hk _ _=>
     rcases hk with rfl | rfl
     ·exact (c (by show lvC 5 < 3;decide)).elim
     ·exact (c (by show lvC 6 < 3;decide)).elim
 | g+1=>fun t ht rest hr=>by
  have ih:=c1p g
  have hsh:=a9J g
  show Rs _ (litS (litP g) (exprP (g+1)) (cL 3 t++rest)) t rest
  cases ht with
  | tru=>exact Rs.iff Rs.ok ⟨fun _=>by show 1≤_;omega,fun _=>trivial⟩
  | fls=>exact Rs.iff Rs.ok ⟨fun _=>by show 1≤_;omega,fun _=>trivial⟩
  | cmp op a b h0 h1 ha hb=>
   rw [(a2M (n:=3) (t:=cX 3 op [a,b] []) (by show (3:Int)≤lvC 3;decide)).1,(a2M (n:=3) (t:=cX 3 op [a,b] []) (by show (3:Int)≤lvC 3;decide)).2,b5q,b9e]
   obtain ⟨k,r,f1,f2⟩:=b4r ha
   have e:litS (litP g) (exprP (g+1)) ((tkT a++sgT (sgnC op)::tkT b)++rest)=bindP (exprP (g+1)) (fun a=>bindP relP fun op=>bindP (exprP (g+1)) fun b=>pureP (cX 3 op [a,b] [])) (tkT a++(sgT (sgnC op)::(tkT b++rest))):=by
    rw [List.append_assoc,f2];exact d3y _ _ f1 _
   rw [e]
   refine (Rs.bind (a9M (g+1) ha _ (NE.cmp op _)) fun _=>(?_:Rs (nd b≤g+1) _ _ _)).iff (Iff.symm Nat.max_le)
   unfold bindP
   rw [d3z h0 h1]
   exact (Rs.bind (f:=fun b=>pureP (cX 3 op [a,b] [])) (a9M (g+1) hb rest hr) fun _=>Rs.ok).iff (a3s _)
  | not c hc=>
   rw [(a2M (n:=3) (t:=cX 4 0 [] [c]) (by show (3:Int)≤lvC 4;decide)).1,(a2M (n:=3) (t:=cX 4 0 [] [c]) (by show (3:Int)≤lvC 4;decide)).2,b9d,b9f]
   rw [List.cons_append,d3w]
   exact (Rs.bind (ih c hc rest hr) fun _=>Rs.ok).iff (by rw [a3s];omega)
  | bin k a b hk ha hb=>
   have hl:lvC (kindT (cX k 0 [] [a,b])) < 3:=by
    rcases hk with rfl | rfl
    ·show lvC 5 < 3;decide
    ·show lvC 6 < 3;decide
   rw [(b1E hl).1,(b1E hl).2,List.cons_append,List.append_assoc,d3x]
   exact (Rs.bind (b9k ih hsh (.bin k a b hk ha hb) (sgT [93]::rest) (NE.brk rest) (by rw [U5];decide) (by rw [U5];decide)) fun _=>Rs.must).iff (by rw [a3s];omega)
theorem b1F(g:Nat){t:PT}(h:XC t)(rest:List Tok)(hr:NE rest)(hn:isT ⟨#[38,38]⟩ rest=false)(ho:isT ⟨#[124,124]⟩ rest=false):Rs (nd t≤g) (condP g (tkT t++rest)) t rest:=b9k (c1p g) (a9J g) h rest hr hn ho
end Go.Proofs.YtoflkliecagjcaaGreatDoor
