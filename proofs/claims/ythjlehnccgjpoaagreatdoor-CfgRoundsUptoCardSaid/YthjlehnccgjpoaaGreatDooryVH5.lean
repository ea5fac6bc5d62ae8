/- Lemmas. -/
import Derived.Lib.ItoaNum
import Derived.Test.YthjlehnccgjpoaaGreatDooryVX1
namespace Go.Proofs.YthjlehnccgjpoaaGreatDoor
open Go.RowKit
set_option maxRecDepth 100000
set_option maxHeartbeats 2000000
inductive XE:PT->Prop
 | num (n:Int):0<=n->n<=9223372036854775807->XE (eX 1 n ⟨#[]⟩ [])
 | var (s:BA):XE (eX 2 0 s [])
 | inp:XE (eX 3 0 ⟨#[]⟩ [])
 | item (s:BA) (e:PT):XE e->XE (eX 4 0 s [e])
 | neg (e:PT):XE e->XE (eX 5 0 ⟨#[]⟩ [e])
 | bin (k:Int) (a b:PT):(k=6\/k=7\/k=8\/k=9\/k=10)->XE a->XE b->XE (eX k 0 ⟨#[]⟩ [a,b])
inductive XC:PT->Prop
 | tru:XC (cX 1 0 [] [])
 | fls:XC (cX 2 0 [] [])
 | cmp (op:Int) (a b:PT):1<=op->op<=6->XE a->XE b->XC (cX 3 op [a,b] [])
 | not (c:PT):XC c->XC (cX 4 0 [] [c])
 | bin (k:Int) (a b:PT):(k=5\/k=6)->XC a->XC b->XC (cX k 0 [] [a,b])
abbrev p0:f8:=⟨0,0⟩
def sgT(w:BL):Tok:=⟨4,⟨w.toArray⟩,0,p0⟩
def nbT(n:Int):Tok:=⟨2,⟨(Lib.itoa n).toArray⟩,n,p0⟩
def wdT(s:BA)(k:Int):Tok:=⟨k,s,0,p0⟩
def parT(b:Bool)(o c:UInt8)(l:List Tok):List Tok:=if b=true then sgT [o]::(l++[sgT [c]]) else l
def labK:Lab->List Int->List (List Tok)->List Tok
 | .expr k n s _,ks,ts=>
  if k=1 then [nbT n] else if k=2 then [wdT s 1] else if k=3 then [wdT ⟨#[105,110,112,117,116]⟩ 3]
  else if k=4 then wdT s 1::sgT [91]::(ts.headD []++[sgT [93]])
  else if k=5 then sgT [45]::parT (decide (lvE (ks.headD 0) < 3)) 40 41 (ts.headD [])
  else parT (decide (lvE (ks.headD 0) < lvE k)) 40 41 (ts.headD [])++sgT (sgnE k)::parT (decide (lvE (ks.tail.headD 0)<=lvE k)) 40 41 (ts.tail.headD [])
 | .cond k op _ _,ks,ts=>
  if k=1 then [wdT ⟨#[116,114,117,101]⟩ 3] else if k=2 then [wdT ⟨#[102,97,108,115,101]⟩ 3]
  else if k=3 then ts.headD []++sgT (sgnC op)::ts.tail.headD []
  else if k=4 then sgT [33]::parT (decide (lvC (ks.headD 0) < 3)) 91 93 (ts.headD [])
  else parT (decide (lvC (ks.headD 0) < lvC k)) 91 93 (ts.headD [])++sgT (if k=6 then [124,124] else [38,38])::parT (decide (lvC (ks.tail.headD 0)<=lvC k)) 91 93 (ts.tail.headD [])
 | _,_,_=>[]
mutual
def tkT:PT->List Tok
 | .mk l cs=>labK l (cs.map kindT) (tkTs cs)
def tkTs:List PT->List (List Tok)
 | []=>[]
 | t::ts=>tkT t::tkTs ts
end
def upD(b:Bool)(d:Nat):Nat:=if b=true then d+1 else d
def labD:Lab->List Int->List Nat->Nat
 | .expr k _ _ _,ks,ds=>
  if k=4 then ds.headD 0+1 else if k=5 then upD (decide (lvE (ks.headD 0) < 3)) (ds.headD 0)+1
  else if k=6\/k=7\/k=8\/k=9\/k=10 then max (upD (decide (lvE (ks.headD 0) < lvE k)) (ds.headD 0)) (upD (decide (lvE (ks.tail.headD 0)<=lvE k)) (ds.tail.headD 0)) else 1
 | .cond k _ _ _,ks,ds=>
  if k=3 then max (ds.headD 0) (ds.tail.headD 0) else if k=4 then upD (decide (lvC (ks.headD 0) < 3)) (ds.headD 0)+1
  else if k=5\/k=6 then max (upD (decide (lvC (ks.headD 0) < lvC k)) (ds.headD 0)) (upD (decide (lvC (ks.tail.headD 0)<=lvC k)) (ds.tail.headD 0)) else 1
 | .stmt k _ _ _ _ _,_,ds=>
  if k=2 then max (ds.headD 0+1) (ds.tail.headD 0) else if k=3\/k=4 then max (max (ds.headD 0) 1) (ds.tail.foldr max 0+1)
  else if k=1\/k=5\/k=6 then max (ds.headD 0) 1 else 1
 | .decl _ _,_,_=>1
mutual
def nd:PT->Nat
 | .mk l cs=>labD l (cs.map kindT) (nds cs)
def nds:List PT->List Nat
 | []=>[]
 | t::ts=>nd t::nds ts
end
def tL(n:Int)(t:PT):List Tok:=parT (decide (lvE (kindT t) < n)) 40 41 (tkT t)
def nL(n:Int)(t:PT):Nat:=upD (decide (lvE (kindT t) < n)) (nd t)
def cL(n:Int)(t:PT):List Tok:=parT (decide (lvC (kindT t) < n)) 91 93 (tkT t)
def eL(n:Int)(t:PT):Nat:=upD (decide (lvC (kindT t) < n)) (nd t)
theorem c7m(n:Int):tkT (eX 1 n ⟨#[]⟩ [])=[nbT n]:=rfl
theorem d4j(s:BA):tkT (eX 2 0 s [])=[wdT s 1]:=rfl
theorem d4k:tkT (eX 3 0 ⟨#[]⟩ [])=[wdT ⟨#[105,110,112,117,116]⟩ 3]:=rfl
theorem c4o(s:BA)(e:PT):tkT (eX 4 0 s [e])=wdT s 1::sgT [91]::(tkT e++[sgT [93]]):=rfl
theorem c7n(e:PT):tkT (eX 5 0 ⟨#[]⟩ [e])=sgT [45]::tL 3 e:=rfl
theorem c0H(a b:Int):decide (a<=b)=decide (a < b+1):=decide_eq_decide.2 (by omega)
theorem b9P{k:Int}(hk:k=6\/k=7\/k=8\/k=9\/k=10)(a b:PT):tkT (eX k 0 ⟨#[]⟩ [a,b])=tL (lvE k) a++sgT (sgnE k)::tL (lvE k+1) b:=by
 unfold tL
 rw [←c0H]
 rcases hk with rfl | rfl | rfl | rfl | rfl<;>rfl
theorem c9W(s:BA)(e:PT):nd (eX 4 0 s [e])=nd e+1:=rfl
theorem d4l(e:PT):nd (eX 5 0 ⟨#[]⟩ [e])=nL 3 e+1:=rfl
theorem c7o{k:Int}(hk:k=6\/k=7\/k=8\/k=9\/k=10)(a b:PT):nd (eX k 0 ⟨#[]⟩ [a,b])=max (nL (lvE k) a) (nL (lvE k+1) b):=by
 unfold nL
 rw [←c0H]
 rcases hk with rfl | rfl | rfl | rfl | rfl<;>rfl
theorem c3f(op:Int)(a b:PT):tkT (cX 3 op [a,b] [])=tkT a++sgT (sgnC op)::tkT b:=rfl
theorem c7p(c:PT):tkT (cX 4 0 [] [c])=sgT [33]::cL 3 c:=rfl
theorem c0I{k:Int}(hk:k=5\/k=6)(a b:PT):tkT (cX k 0 [] [a,b])=cL (lvC k) a++sgT (if k=6 then [124,124] else [38,38])::cL (lvC k+1) b:=by
 unfold cL
 rw [←c0H]
 rcases hk with rfl | rfl<;>rfl
theorem d4m(op:Int)(a b:PT):nd (cX 3 op [a,b] [])=max (nd a) (nd b):=rfl
theorem d4n(c:PT):nd (cX 4 0 [] [c])=eL 3 c+1:=rfl
theorem c4p{k:Int}(hk:k=5\/k=6)(a b:PT):nd (cX k 0 [] [a,b])=max (eL (lvC k) a) (eL (lvC k+1) b):=by
 unfold eL
 rw [←c0H]
 rcases hk with rfl | rfl<;>rfl
theorem b2G(k n:Int)(s:BA)(ts:List PT):kindT (eX k n s ts)=k:=rfl
theorem c3g(b:Bool)(d:Nat):d<=upD b d:=by unfold upD;split<;>omega
theorem XE.nd1{t:PT}(h:XE t):1<=nd t:=by
 induction h with
 | num n _ _=>exact Nat.le_refl _
 | var s=>exact Nat.le_refl _
 | inp=>exact Nat.le_refl _
 | item s e _ _=>rw [c9W];omega
 | neg e _ _=>rw [d4l];omega
 | bin k a b hk _ _ ha hb=>rw [c7o hk];have:=c3g (decide (lvE (kindT a) < lvE k)) (nd a);unfold nL;omega
theorem XC.nd1{t:PT}(h:XC t):1<=nd t:=by
 induction h with
 | tru=>exact Nat.le_refl _
 | fls=>exact Nat.le_refl _
 | cmp op a b _ _ ha hb=>rw [d4m];have:=ha.nd1;omega
 | not c _ _=>rw [d4n];omega
 | bin k a b hk _ _ ha hb=>rw [c4p hk];have:=c3g (decide (lvC (kindT a) < lvC k)) (nd a);unfold eL;omega
theorem a0u(s:BA)(w:BL)(r:List Tok):isT s (sgT w::r)=decide ((⟨w.toArray⟩:BA)=s):=by
 show ((decide ((4:Int)=3)||decide ((4:Int)=4))&&decide ((⟨w.toArray⟩:BA)=s))=_
 simp
structure NE (r:List Tok):Prop where
 b:isT ⟨#[91]⟩ r=false
 m:whG sMul kMul r=0
 a:whG sAdd kAdd r=0
def Rs{α:Type}(b:Prop)(x:Except Flt (α×List Tok))(a:α)(r:List Tok):Prop:=(b->x=.ok (a,r))/\(¬b->∃pl,x=.error (41,pl))
theorem c1l{w:List Tok->Int}(hw:w []=0){part:PM PT}(hp:Shr part):∀(n m:Nat)(e:PT)(r:List Tok),r.length<=n->r.length<=m->chainF w part n e r=chainF w part m e r
 | 0,m,e,r,hn,_=>by
  obtain rfl:r=[]:=List.length_eq_zero_iff.1 (by omega)
  cases m with
  | zero=>rfl
  | succ m=>rw [chainF,chainF];simp [hw]
 | n+1,0,e,r,_,hm=>by
  obtain rfl:r=[]:=List.length_eq_zero_iff.1 (by omega)
  rw [chainF,chainF];simp [hw]
 | n+1,m+1,e,r,hn,hm=>by
  unfold chainF
  split
  ·rfl
  ·unfold bindP
   have ht:r.tail.length<=n/\r.tail.length<=m:=by rw [List.length_tail];omega
   cases hpr:part r.tail with
   | error y=>rfl
   | ok y=>
    have:=hp _ _ _ (show part r.tail=.ok (y.1,y.2) from hpr)
    exact c1l hw hp n m _ y.2 (by omega) (by omega)
def chainC(w:List Tok->Int)(part:PM PT)(e:PT)(r:List Tok):Except Flt (PT×List Tok):=chainF w part r.length e r
theorem c1m{w:List Tok->Int}(hw:w []=0){part:PM PT}(hp:Shr part){e:PT}{t:Tok}{r:List Tok}(h:w (t::r)≠0):chainC w part e (t::r)=bindP part (λa=>chainC w part (eX (w (t::r)) 0 ⟨#[]⟩ [e,a])) r:=by
 unfold chainC
 rw [List.length_cons]
 conv=>lhs;unfold chainF
 rw [if_neg h]
 show bindP part _ r=_
 unfold bindP
 cases hpr:part r with
 | error y=>rfl
 | ok y=>
  have:=hp _ _ _ (show part r=.ok (y.1,y.2) from hpr)
  exact c1l hw hp _ _ _ y.2 this (Nat.le_refl _)
theorem c3h{w:List Tok->Int}{part:PM PT}{e:PT}{r:List Tok}(h:w r=0):chainC w part e r=.ok (e,r):=by
 unfold chainC
 cases r with
 | nil=>rfl
 | cons t r=>rw [List.length_cons];unfold chainF;rw [if_pos h]
theorem c1n{s:BA}{k:Int}{part:PM PT}(hp:Shr part):∀(n m:Nat)(e:PT)(r:List Tok),r.length<=n->r.length<=m->joinsF s k part n e r=joinsF s k part m e r
 | 0,m,e,r,hn,_=>by
  obtain rfl:r=[]:=List.length_eq_zero_iff.1 (by omega)
  cases m with
  | zero=>rfl
  | succ m=>rw [joinsF,joinsF];simp [isT,hd]
 | n+1,0,e,r,_,hm=>by
  obtain rfl:r=[]:=List.length_eq_zero_iff.1 (by omega)
  rw [joinsF,joinsF];simp [isT,hd]
 | n+1,m+1,e,r,hn,hm=>by
  unfold joinsF
  split
  ·unfold bindP
   have ht:r.tail.length<=n/\r.tail.length<=m:=by rw [List.length_tail];omega
   cases hpr:part r.tail with
   | error y=>rfl
   | ok y=>
    have:=hp _ _ _ (show part r.tail=.ok (y.1,y.2) from hpr)
    exact c1n hp n m _ y.2 (by omega) (by omega)
  ·rfl
def joinsC(s:BA)(k:Int)(part:PM PT)(e:PT)(r:List Tok):Except Flt (PT×List Tok):=joinsF s k part r.length e r
theorem c1o{s:BA}{k:Int}{part:PM PT}(hp:Shr part){e:PT}{t:Tok}{r:List Tok}(h:isT s (t::r)=true):joinsC s k part e (t::r)=bindP part (λa=>joinsC s k part (cX k 0 [] [e,a])) r:=by
 unfold joinsC
 rw [List.length_cons]
 conv=>lhs;unfold joinsF
 rw [if_pos h]
 show bindP part _ r=_
 unfold bindP
 cases hpr:part r with
 | error y=>rfl
 | ok y=>
  have:=hp _ _ _ (show part r=.ok (y.1,y.2) from hpr)
  exact c1n hp _ _ _ y.2 this (Nat.le_refl _)
theorem c3i{s:BA}{k:Int}{part:PM PT}{e:PT}{r:List Tok}(h:isT s r=false):joinsC s k part e r=.ok (e,r):=by
 unfold joinsC
 cases r with
 | nil=>rfl
 | cons t r=>rw [List.length_cons];unfold joinsF;rw [h];rfl
theorem d4o{k:Int}(hk:k=8\/k=9\/k=10)(r:List Tok):whG sMul kMul (sgT (sgnE k)::r)=k:=by
 unfold whG whG whG
 rw [a0u,a0u,a0u]
 rcases hk with rfl | rfl | rfl<;>rfl
theorem d4p{k:Int}(hk:k=6\/k=7)(r:List Tok):whG sAdd kAdd (sgT (sgnE k)::r)=k:=by
 unfold whG whG
 rw [a0u,a0u]
 rcases hk with rfl | rfl<;>rfl
theorem NE.of{w:BL}{r:List Tok}(h1:(⟨w.toArray⟩:BA)≠⟨#[91]⟩)(h2:(⟨w.toArray⟩:BA)≠⟨#[42]⟩)(h3:(⟨w.toArray⟩:BA)≠⟨#[47]⟩)(h4:(⟨w.toArray⟩:BA)≠⟨#[37]⟩)(h5:(⟨w.toArray⟩:BA)≠⟨#[43]⟩)(h6:(⟨w.toArray⟩:BA)≠⟨#[45]⟩):NE (sgT w::r):=by
 refine ⟨?_,?_,?_⟩
 ·rw [a0u,decide_eq_false h1]
 ·simp only [whG,a0u,decide_eq_false h2,decide_eq_false h3,decide_eq_false h4];rfl
 ·simp only [whG,a0u,decide_eq_false h5,decide_eq_false h6];rfl
theorem e4W{k:Int}(hk:k=6\/k=7)(r:List Tok):isT ⟨#[91]⟩ (sgT (sgnE k)::r)=false/\whG sMul kMul (sgT (sgnE k)::r)=0:=by
 rcases hk with rfl | rfl<;>exact ⟨by rw [a0u];decide,by simp only [whG,a0u];decide⟩
theorem e4X{k:Int}(hk:k=8\/k=9\/k=10)(r:List Tok):isT ⟨#[91]⟩ (sgT (sgnE k)::r)=false:=by
 rcases hk with rfl | rfl | rfl<;>(rw [a0u];decide)
theorem NE.par(r:List Tok):NE (sgT [41]::r):=NE.of (by decide) (by decide) (by decide) (by decide) (by decide) (by decide)
theorem NE.brk(r:List Tok):NE (sgT [93]::r):=NE.of (by decide) (by decide) (by decide) (by decide) (by decide) (by decide)
theorem NE.cmp(op:Int)(r:List Tok):NE (sgT (sgnC op)::r):=by
 unfold sgnC
 (repeat' split)<;>exact NE.of (by decide) (by decide) (by decide) (by decide) (by decide) (by decide)
section
variable {g:Nat}
def FactR(g:Nat)(f:PM PT):Prop:=∀(t:PT),XE t->∀rest,isT ⟨#[91]⟩ rest=false->Rs (nL 3 t<=g) (f (tL 3 t++rest)) t rest
theorem Rs.bind{α β:Type}{b c:Prop}{p:PM α}{f:α->PM β}{r r1:List Tok}{a:α}{y:β}{rest:List Tok}(h:Rs b (p r) a r1)(k:b->Rs c (f a r1) y rest):Rs (b/\c) (bindP p f r) y rest:=by
 unfold bindP
 constructor
 ·rintro ⟨hb,hc⟩
  rw [h.1 hb]
  exact (k hb).1 hc
 ·intro hn
  by_cases hb:b
  ·rw [h.1 hb]
   exact (k hb).2 λhc=>hn ⟨hb,hc⟩
  ·obtain ⟨pl,e⟩:=h.2 hb
   rw [e]
   exact ⟨pl,rfl⟩
theorem Rs.iff{α:Type}{b c:Prop}{x:Except Flt (α×List Tok)}{a:α}{r:List Tok}(h:Rs b x a r)(e:b↔c):Rs c x a r:=⟨λhc=>h.1 (e.2 hc),λhc=>h.2 λhb=>hc (e.1 hb)⟩
theorem Rs.ok{α:Type}{a:α}{r:List Tok}:Rs True (.ok (a,r)) a r:=⟨λ_=>rfl,λh=>(h trivial).elim⟩
theorem c7q{k:Int}(hk:k=6\/k=7\/k=8\/k=9\/k=10):((k=6\/k=7)/\lvE k=1)\/((k=8\/k=9\/k=10)/\lvE k=2):=by
 rcases hk with rfl | rfl | rfl | rfl | rfl<;>decide
theorem a3R{n:Int}{t:PT}(h:n<=lvE (kindT t)):tL n t=tkT t/\nL n t=nd t:=by
 unfold tL nL parT upD
 rw [decide_eq_false (by omega)]
 exact ⟨rfl,rfl⟩
theorem b6q{n:Int}{t:PT}(h:lvE (kindT t) < n):tL n t=sgT [40]::(tkT t++[sgT [41]])/\nL n t=nd t+1:=by
 unfold tL nL parT upD
 rw [decide_eq_true h]
 exact ⟨rfl,rfl⟩
theorem e0V{f:PM PT}(hf:FactR g f)(hsh:Shr f){t:PT}(h:XE t):∀rest,isT ⟨#[91]⟩ rest=false->(nL 2 t<=g->termOf f (tL 2 t++rest)=chainC (whG sMul kMul) f t rest)/\(¬nL 2 t<=g->∃pl,termOf f (tL 2 t++rest)=.error (41,pl)):=by
 have base:∀{t:PT},XE t->tL 2 t=tL 3 t/\nL 2 t=nL 3 t->∀rest,isT ⟨#[91]⟩ rest=false->(nL 2 t<=g->termOf f (tL 2 t++rest)=chainC (whG sMul kMul) f t rest)/\(¬nL 2 t<=g->∃pl,termOf f (tL 2 t++rest)=.error (41,pl)):=by
  intro t ht ⟨e1,e2⟩ rest hr
  have h:=hf t ht rest hr
  rw [e1,e2]
  unfold termOf chainP bindP
  constructor
  ·intro hb;rw [h.1 hb];rfl
  ·intro hb;obtain ⟨pl,e⟩:=h.2 hb;rw [e];exact ⟨pl,rfl⟩
 have hi:∀{t:PT},XE t->3<=lvE (kindT t)->tL 2 t=tL 3 t/\nL 2 t=nL 3 t:=λ{t} _ h=>by
  rw [(a3R h).1,(a3R h).2,(a3R (n:=2) (by omega)).1,(a3R (n:=2) (by omega)).2];exact ⟨rfl,rfl⟩
 induction h with
 | num n h0 h1=>exact base (.num n h0 h1) (hi (.num n h0 h1) (by show (3:Int)<=lvE 1;decide))
 | var s=>exact base (.var s) (hi (.var s) (by show (3:Int)<=lvE 2;decide))
 | inp=>exact base .inp (hi .inp (by decide))
 | item s e he _=>exact base (.item s e he) (hi (.item s e he) (by show (3:Int)<=lvE 4;decide))
 | neg e he _=>exact base (.neg e he) (hi (.neg e he) (by show (3:Int)<=lvE 5;decide))
 | bin k a b hk ha hb iha _=>
  rcases c7q hk with ⟨hk1,hl⟩ | ⟨hk1,hl⟩
  ·refine base (.bin k a b hk ha hb) ?_
   rw [(b6q (n:=2) (t:=eX k 0 ⟨#[]⟩ [a,b]) (by rw [b2G];omega)).1,(b6q (n:=2) (t:=eX k 0 ⟨#[]⟩ [a,b]) (by rw [b2G];omega)).2,(b6q (n:=3) (t:=eX k 0 ⟨#[]⟩ [a,b]) (by rw [b2G];omega)).1,(b6q (n:=3) (t:=eX k 0 ⟨#[]⟩ [a,b]) (by rw [b2G];omega)).2]
   exact ⟨rfl,rfl⟩
  ·intro rest hr
   obtain ⟨e1,e2⟩:=a3R (n:=2) (t:=eX k 0 ⟨#[]⟩ [a,b]) (by rw [b2G];omega)
   rw [e1,e2,b9P hk,c7o hk,hl,show (2:Int)+1=3 from rfl,List.append_assoc,List.cons_append]
   obtain ⟨i1,i2⟩:=iha (sgT (sgnE k)::(tL 3 b++rest)) (e4X hk1 _)
   have hB:=hf b hb rest hr
   have hstep:=c1m (w:=whG sMul kMul) rfl hsh (e:=a) (t:=sgT (sgnE k)) (r:=tL 3 b++rest) (by rw [d4o hk1];omega)
   rw [d4o hk1] at hstep
   unfold bindP at hstep
   constructor
   ·intro hb'
    rw [i1 (by omega),hstep,hB.1 (by omega)]
   ·intro hb'
    by_cases ha':nL 2 a<=g
    ·obtain ⟨pl,e⟩:=hB.2 (by omega)
     rw [i1 ha',hstep,e]
     exact ⟨pl,rfl⟩
    ·exact i2 ha'
theorem e4Y(k:Int):1<=lvE k:=by
 unfold lvE
 (repeat' split)<;>omega
theorem c7r{f:PM PT}(hf:FactR g f)(hsh:Shr f){t:PT}(h:XE t)(rest:List Tok)(hb:isT ⟨#[91]⟩ rest=false)(hm:whG sMul kMul rest=0):Rs (nL 2 t<=g) (termOf f (tL 2 t++rest)) t rest:=by
 obtain ⟨h1,h2⟩:=e0V hf hsh h rest hb
 exact ⟨λq=>by rw [h1 q,c3h hm],h2⟩
theorem d1w{f:PM PT}(hf:SShr f):SShr (termOf f):=b0a hf
theorem e0W{f:PM PT}(hf:FactR g f)(hsh:SShr f){t:PT}(h:XE t):∀rest,isT ⟨#[91]⟩ rest=false->whG sMul kMul rest=0->(nd t<=g->exprOf f (tkT t++rest)=chainC (whG sAdd kAdd) (termOf f) t rest)/\(¬nd t<=g->∃pl,exprOf f (tkT t++rest)=.error (41,pl)):=by
 have base:∀{t:PT},XE t->2<=lvE (kindT t)->∀rest,isT ⟨#[91]⟩ rest=false->whG sMul kMul rest=0->(nd t<=g->exprOf f (tkT t++rest)=chainC (whG sAdd kAdd) (termOf f) t rest)/\(¬nd t<=g->∃pl,exprOf f (tkT t++rest)=.error (41,pl)):=by
  intro t ht hl rest hr hm
  have h:=c7r hf hsh.shr ht rest hr hm
  rw [(a3R hl).1,(a3R hl).2] at h
  unfold exprOf
  unfold chainP
  unfold bindP
  constructor
  ·intro hb;rw [h.1 hb];rfl
  ·intro hb;obtain ⟨pl,e⟩:=h.2 hb;rw [e];exact ⟨pl,rfl⟩
 induction h with
 | num n h0 h1=>exact base (.num n h0 h1) (by show (2:Int)<=lvE 1;decide)
 | var s=>exact base (.var s) (by show (2:Int)<=lvE 2;decide)
 | inp=>exact base .inp (by decide)
 | item s e he _=>exact base (.item s e he) (by show (2:Int)<=lvE 4;decide)
 | neg e he _=>exact base (.neg e he) (by show (2:Int)<=lvE 5;decide)
 | bin k a b hk ha hb iha _=>
  rcases c7q hk with ⟨hk1,hl⟩ | ⟨hk1,hl⟩
  ·intro rest hr hm
   rw [b9P hk,c7o hk,hl,show (1:Int)+1=2 from rfl,List.append_assoc,List.cons_append]
   have l1:=e4Y (kindT a)
   rw [(a3R (n:=1) (t:=a) l1).1,(a3R (n:=1) (t:=a) l1).2]
   obtain ⟨n1,n2⟩:=e4W hk1 (tL 2 b++rest)
   obtain ⟨i1,i2⟩:=iha (sgT (sgnE k)::(tL 2 b++rest)) n1 n2
   have hB:=c7r hf hsh.shr hb rest hr hm
   have hstep:=c1m (w:=whG sAdd kAdd) rfl (d1w hsh).shr (e:=a) (t:=sgT (sgnE k)) (r:=tL 2 b++rest) (by rw [d4p hk1];omega)
   rw [d4p hk1] at hstep
   unfold bindP at hstep
   show (_<=g->exprOf f (tkT a++sgT (sgnE k)::(tL 2 b++rest))=_)/\(_->∃pl,exprOf f (tkT a++sgT (sgnE k)::(tL 2 b++rest))=_)
   constructor
   ·intro hb'
    have h1:nd a<=g:=Nat.le_trans (Nat.le_max_left _ _) hb'
    have h2:nL 2 b<=g:=Nat.le_trans (Nat.le_max_right _ _) hb'
    rw [i1 h1,hstep,hB.1 h2]
   ·intro hb'
    by_cases ha':nd a<=g
    ·obtain ⟨pl,e⟩:=hB.2 (λq=>hb' (Nat.max_le.2 ⟨ha',q⟩))
     rw [i1 ha',hstep,e]
     exact ⟨pl,rfl⟩
    ·exact i2 ha'
  ·exact base (.bin k a b hk ha hb) (by rw [b2G];omega)
theorem c1T{f:PM PT}(hf:FactR g f)(hsh:SShr f){t:PT}(h:XE t)(rest:List Tok)(hr:NE rest):Rs (nd t<=g) (exprOf f (tkT t++rest)) t rest:=by
 obtain ⟨h1,h2⟩:=e0W hf hsh h rest hr.b hr.m
 exact ⟨λq=>by rw [h1 q,c3h hr.a],h2⟩
end
section
theorem a6f(p:Prop):(p/\True)↔p:=⟨λh=>h.1,λh=>⟨h,trivial⟩⟩
theorem c9X(c:UInt8)(r:List Tok):mustP ⟨#[c]⟩ (sgT [c]::r)=.ok ((),r):=by
 unfold mustP
 rw [a0u,decide_eq_true rfl]
 rfl
theorem e4Z(f:PM PT)(r:List Tok):factS f (sgT [45]::r)=bindP f (λe=>pureP (eX 5 0 ⟨#[]⟩ [e])) r:=rfl
theorem e5a(f:PM PT)(r:List Tok):factS f (sgT [40]::r)=bindP (exprOf f) (λe=>bindP (mustP ⟨#[41]⟩) λ_=>pureP e) r:=rfl
theorem e0X(f:PM PT)(s:BA)(r:List Tok):factS f (wdT s 1::sgT [91]::r)=bindP (exprOf f) (λe=>bindP (mustP ⟨#[93]⟩) λ_=>pureP (eX 4 0 s [e])) r:=rfl
theorem e5b(f:PM PT)(s:BA){r:List Tok}(h:isT ⟨#[91]⟩ r=false):factS f (wdT s 1::r)=.ok (eX 2 0 s [],r):=by
 show (if isT ⟨#[91]⟩ r=true then _ else _)=_
 rw [h];rfl
theorem Rs.must{c:UInt8}{r:List Tok}{α:Type}{y:α}:Rs True (bindP (mustP ⟨#[c]⟩) (λ_=>pureP y) (sgT [c]::r)) y r:=by
 unfold bindP
 rw [c9X]
 exact Rs.ok
theorem Rs.d1x{c:UInt8}{r r':List Tok}{α:Type}{b:Prop}{f:Unit->PM α}{y:α}(h:Rs b (f () r) y r'):Rs b (bindP (mustP ⟨#[c]⟩) f (sgT [c]::r)) y r':=by
 unfold bindP
 rw [c9X]
 exact h
inductive Fst:Tok->Prop
 | nb (n:Int):Fst (nbT n)
 | w1 (s:BA):Fst (wdT s 1)
 | inp:Fst (wdT ⟨#[105,110,112,117,116]⟩ 3)
 | neg:Fst (sgT [45])
 | par:Fst (sgT [40])
theorem c1U{t:PT}(h:XE t):∃k r,Fst k/\tkT t=k::r:=by
 induction h with
 | num n _ _=>exact ⟨_,_,.nb n,rfl⟩
 | var s=>exact ⟨_,_,.w1 s,rfl⟩
 | inp=>exact ⟨_,_,.inp,rfl⟩
 | item s e _ _=>exact ⟨_,_,.w1 s,rfl⟩
 | neg e _ _=>exact ⟨_,_,.neg,rfl⟩
 | bin k a b hk _ _ ha _=>
  rw [b9P hk]
  obtain ⟨k1,r1,h1,h2⟩:=ha
  by_cases c:lvE (kindT a) < lvE k
  ·rw [(b6q c).1];exact ⟨_,_,.par,rfl⟩
  ·rw [(a3R (by omega)).1,h2];exact ⟨_,_,h1,rfl⟩
theorem d6i{t:PT}(h:XE t)(n:Int):∃k r,Fst k/\tL n t=k::r:=by
 by_cases c:lvE (kindT t) < n
 ·rw [(b6q c).1];exact ⟨_,_,.par,rfl⟩
 ·rw [(a3R (by omega)).1];exact c1U h
theorem Fst.fb{k:Tok}(h:Fst k)(r:List Tok):factB (k::r)=true:=by
 cases h<;>rfl
theorem b2H{α:Type}{b:List Tok->Bool}{r:List Tok}(h:b r=true):∃pl,deadE (α:=α) b r=.error (41,pl):=by
 unfold deadE
 rw [if_pos h]
 exact ⟨_,rfl⟩
theorem c7s:∀g,FactR g (factP g)
 | 0=>λt ht rest hr=>by
  refine ⟨λq=>?_,λ_=>?_⟩
  ·have:=ht.nd1
   have:=c3g (decide (lvE (kindT t) < 3)) (nd t)
   unfold nL at q
   omega
  ·obtain ⟨k,r,h1,h2⟩:=d6i ht 3
   rw [h2]
   exact b2H (h1.fb _)
 | g+1=>λt ht rest hr=>by
  have ih:=c7s g
  have hsh:=b0Y g
  show Rs _ (factS (factP g) (tL 3 t++rest)) t rest
  cases ht with
  | num n h0 h1=>
   rw [(a3R (n:=3) (t:=eX 1 n ⟨#[]⟩ []) (by show (3:Int)<=lvE 1;decide)).1,(a3R (n:=3) (t:=eX 1 n ⟨#[]⟩ []) (by show (3:Int)<=lvE 1;decide)).2,c7m]
   exact Rs.iff Rs.ok ⟨λ_=>by show 1<=_;omega,λ_=>trivial⟩
  | var s=>
   rw [(a3R (n:=3) (t:=eX 2 0 s []) (by show (3:Int)<=lvE 2;decide)).1,(a3R (n:=3) (t:=eX 2 0 s []) (by show (3:Int)<=lvE 2;decide)).2,d4j]
   rw [List.singleton_append,e5b _ _ hr]
   exact Rs.iff Rs.ok ⟨λ_=>by show 1<=_;omega,λ_=>trivial⟩
  | inp=>
   rw [(a3R (n:=3) (t:=eX 3 0 ⟨#[]⟩ []) (by show (3:Int)<=lvE 3;decide)).1,(a3R (n:=3) (t:=eX 3 0 ⟨#[]⟩ []) (by show (3:Int)<=lvE 3;decide)).2,d4k]
   exact Rs.iff Rs.ok ⟨λ_=>by show 1<=_;omega,λ_=>trivial⟩
  | item s e he=>
   rw [(a3R (n:=3) (t:=eX 4 0 s [e]) (by show (3:Int)<=lvE 4;decide)).1,(a3R (n:=3) (t:=eX 4 0 s [e]) (by show (3:Int)<=lvE 4;decide)).2,c4o,c9W]
   rw [List.cons_append,List.cons_append,List.append_assoc,e0X]
   exact (Rs.bind (c1T ih hsh he (sgT [93]::rest) (NE.brk rest)) λ_=>Rs.must).iff (by rw [a6f];omega)
  | neg e he=>
   rw [(a3R (n:=3) (t:=eX 5 0 ⟨#[]⟩ [e]) (by show (3:Int)<=lvE 5;decide)).1,(a3R (n:=3) (t:=eX 5 0 ⟨#[]⟩ [e]) (by show (3:Int)<=lvE 5;decide)).2,c7n,d4l]
   rw [List.cons_append,e4Z]
   exact (Rs.bind (ih e he rest hr) λ_=>Rs.ok).iff (by rw [a6f];omega)
  | bin k a b hk ha hb=>
   have hl:lvE (kindT (eX k 0 ⟨#[]⟩ [a,b])) < 3:=by
    rw [b2G]
    rcases c7q hk with ⟨_,e⟩ | ⟨_,e⟩<;>omega
   rw [(b6q hl).1,(b6q hl).2,List.cons_append,List.append_assoc,e5a]
   exact (Rs.bind (c1T ih hsh (.bin k a b hk ha hb) (sgT [41]::rest) (NE.par rest)) λ_=>Rs.must).iff (by rw [a6f];omega)
theorem b5S(g:Nat){t:PT}(h:XE t)(rest:List Tok)(hr:NE rest):Rs (nd t<=g) (exprP g (tkT t++rest)) t rest:=c1T (c7s g) (b0Y g) h rest hr
section
variable {g:Nat}
def CondR(g:Nat)(l:PM PT):Prop:=∀(t:PT),XC t->∀rest,NE rest->Rs (eL 3 t<=g) (l (cL 3 t++rest)) t rest
theorem a8U{n:Int}{t:PT}(h:n<=lvC (kindT t)):cL n t=tkT t/\eL n t=nd t:=by
 unfold cL eL parT upD
 rw [decide_eq_false (by omega)]
 exact ⟨rfl,rfl⟩
theorem b8J{n:Int}{t:PT}(h:lvC (kindT t) < n):cL n t=sgT [91]::(tkT t++[sgT [93]])/\eL n t=nd t+1:=by
 unfold cL eL parT upD
 rw [decide_eq_true h]
 exact ⟨rfl,rfl⟩
theorem NE.and(r:List Tok):NE (sgT [38,38]::r):=NE.of (by decide) (by decide) (by decide) (by decide) (by decide) (by decide)
theorem NE.or(r:List Tok):NE (sgT [124,124]::r):=NE.of (by decide) (by decide) (by decide) (by decide) (by decide) (by decide)
theorem e0Y{l:PM PT}(hf:CondR g l)(hsh:Shr l){t:PT}(h:XC t):∀rest,NE rest->(eL 2 t<=g->conjOf l (cL 2 t++rest)=joinsC ⟨#[38,38]⟩ 5 l t rest)/\(¬eL 2 t<=g->∃pl,conjOf l (cL 2 t++rest)=.error (41,pl)):=by
 have base:∀{t:PT},XC t->cL 2 t=cL 3 t/\eL 2 t=eL 3 t->∀rest,NE rest->(eL 2 t<=g->conjOf l (cL 2 t++rest)=joinsC ⟨#[38,38]⟩ 5 l t rest)/\(¬eL 2 t<=g->∃pl,conjOf l (cL 2 t++rest)=.error (41,pl)):=by
  intro t ht ⟨e1,e2⟩ rest hr
  have h:=hf t ht rest hr
  rw [e1,e2]
  unfold conjOf joinsP bindP
  constructor
  ·intro hb;rw [h.1 hb];rfl
  ·intro hb;obtain ⟨pl,e⟩:=h.2 hb;rw [e];exact ⟨pl,rfl⟩
 have hi:∀{t:PT},3<=lvC (kindT t)->cL 2 t=cL 3 t/\eL 2 t=eL 3 t:=λ{t} h=>by
  rw [(a8U h).1,(a8U h).2,(a8U (n:=2) (by omega)).1,(a8U (n:=2) (by omega)).2];exact ⟨rfl,rfl⟩
 induction h with
 | tru=>exact base .tru (hi (by decide))
 | fls=>exact base .fls (hi (by decide))
 | cmp op a b h0 h1 ha hb=>exact base (.cmp op a b h0 h1 ha hb) (hi (by show (3:Int)<=lvC 3;decide))
 | not c hc _=>exact base (.not c hc) (hi (by show (3:Int)<=lvC 4;decide))
 | bin k a b hk ha hb iha _=>
  rcases hk with rfl | rfl
  ·intro rest hr
   obtain ⟨e1,e2⟩:=a8U (n:=2) (t:=cX 5 0 [] [a,b]) (by show (2:Int)<=lvC 5;decide)
   rw [e1,e2,c0I (.inl rfl),c4p (.inl rfl),show lvC 5=2 from rfl,List.append_assoc,List.cons_append,show (if (5:Int)=6 then ([124,124]:BL) else [38,38])=[38,38] from rfl]
   obtain ⟨i1,i2⟩:=iha (sgT [38,38]::(cL 3 b++rest)) (NE.and _)
   have hB:=hf b hb rest hr
   have hstep:=c1o (s:=⟨#[38,38]⟩) (k:=5) hsh (e:=a) (t:=sgT [38,38]) (r:=cL 3 b++rest) (by rw [a0u];decide)
   unfold bindP at hstep
   show (_<=g->conjOf l (cL 2 a++sgT [38,38]::(cL 3 b++rest))=_)/\(_->∃pl,conjOf l (cL 2 a++sgT [38,38]::(cL 3 b++rest))=_)
   constructor
   ·intro hb'
    have h1:eL 2 a<=g:=Nat.le_trans (Nat.le_max_left _ _) hb'
    have h2:eL 3 b<=g:=Nat.le_trans (Nat.le_max_right _ _) hb'
    rw [i1 h1,hstep,hB.1 h2]
   ·intro hb'
    by_cases ha':eL 2 a<=g
    ·obtain ⟨pl,e⟩:=hB.2 (λq=>hb' (Nat.max_le.2 ⟨ha',q⟩))
     rw [i1 ha',hstep,e]
     exact ⟨pl,rfl⟩
    ·exact i2 ha'
  ·refine base (.bin 6 a b (.inr rfl) ha hb) ?_
   have h2:lvC (kindT (cX 6 0 [] [a,b])) < 2:=by show lvC 6 < 2;decide
   have h3:lvC (kindT (cX 6 0 [] [a,b])) < 3:=by show lvC 6 < 3;decide
   rw [(b8J h2).1,(b8J h2).2,(b8J h3).1,(b8J h3).2]
   exact ⟨rfl,rfl⟩
theorem c7t{l:PM PT}(hf:CondR g l)(hsh:Shr l){t:PT}(h:XC t)(rest:List Tok)(hr:NE rest)(hn:isT ⟨#[38,38]⟩ rest=false):Rs (eL 2 t<=g) (conjOf l (cL 2 t++rest)) t rest:=by
 obtain ⟨h1,h2⟩:=e0Y hf hsh h rest hr
 exact ⟨λq=>by rw [h1 q,c3i hn],h2⟩
theorem e5c(k:Int):1<=lvC k:=by
 unfold lvC
 (repeat' split)<;>omega
theorem e0Z{l:PM PT}(hf:CondR g l)(hsh:SShr l){t:PT}(h:XC t):∀rest,NE rest->isT ⟨#[38,38]⟩ rest=false->(nd t<=g->condOf l (tkT t++rest)=joinsC ⟨#[124,124]⟩ 6 (conjOf l) t rest)/\(¬nd t<=g->∃pl,condOf l (tkT t++rest)=.error (41,pl)):=by
 have base:∀{t:PT},XC t->2<=lvC (kindT t)->∀rest,NE rest->isT ⟨#[38,38]⟩ rest=false->(nd t<=g->condOf l (tkT t++rest)=joinsC ⟨#[124,124]⟩ 6 (conjOf l) t rest)/\(¬nd t<=g->∃pl,condOf l (tkT t++rest)=.error (41,pl)):=by
  intro t ht hl rest hr hn
  have h:=c7t hf hsh.shr ht rest hr hn
  rw [(a8U hl).1,(a8U hl).2] at h
  unfold condOf
  unfold joinsP
  unfold bindP
  constructor
  ·intro hb;rw [h.1 hb];rfl
  ·intro hb;obtain ⟨pl,e⟩:=h.2 hb;rw [e];exact ⟨pl,rfl⟩
 induction h with
 | tru=>exact base .tru (by decide)
 | fls=>exact base .fls (by decide)
 | cmp op a b h0 h1 ha hb=>exact base (.cmp op a b h0 h1 ha hb) (by show (2:Int)<=lvC 3;decide)
 | not c hc _=>exact base (.not c hc) (by show (2:Int)<=lvC 4;decide)
 | bin k a b hk ha hb iha _=>
  rcases hk with rfl | rfl
  ·exact base (.bin 5 a b (.inl rfl) ha hb) (by show (2:Int)<=lvC 5;decide)
  ·intro rest hr hn
   rw [c0I (.inr rfl),c4p (.inr rfl),show lvC 6=1 from rfl,List.append_assoc,List.cons_append,show (if (6:Int)=6 then ([124,124]:BL) else [38,38])=[124,124] from rfl]
   have l1:=e5c (kindT a)
   rw [(a8U (n:=1) (t:=a) l1).1,(a8U (n:=1) (t:=a) l1).2]
   obtain ⟨i1,i2⟩:=iha (sgT [124,124]::(cL 2 b++rest)) (NE.or _) (by rw [a0u];decide)
   have hB:=c7t hf hsh.shr hb rest hr hn
   have hstep:=c1o (s:=⟨#[124,124]⟩) (k:=6) (part:=conjOf l) (b0b (s:=⟨#[38,38]⟩) (k:=5) hsh).shr (e:=a) (t:=sgT [124,124]) (r:=cL 2 b++rest) (by rw [a0u];decide)
   unfold bindP at hstep
   show (_<=g->condOf l (tkT a++sgT [124,124]::(cL 2 b++rest))=_)/\(_->∃pl,condOf l (tkT a++sgT [124,124]::(cL 2 b++rest))=_)
   constructor
   ·intro hb'
    have h1:nd a<=g:=Nat.le_trans (Nat.le_max_left _ _) hb'
    have h2:eL 2 b<=g:=Nat.le_trans (Nat.le_max_right _ _) hb'
    rw [i1 h1,hstep,hB.1 h2]
   ·intro hb'
    by_cases ha':nd a<=g
    ·obtain ⟨pl,e⟩:=hB.2 (λq=>hb' (Nat.max_le.2 ⟨ha',q⟩))
     rw [i1 ha',hstep,e]
     exact ⟨pl,rfl⟩
    ·exact i2 ha'
theorem c7u{l:PM PT}(hf:CondR g l)(hsh:SShr l){t:PT}(h:XC t)(rest:List Tok)(hr:NE rest)(hn:isT ⟨#[38,38]⟩ rest=false)(ho:isT ⟨#[124,124]⟩ rest=false):Rs (nd t<=g) (condOf l (tkT t++rest)) t rest:=by
 obtain ⟨h1,h2⟩:=e0Z hf hsh h rest hr hn
 exact ⟨λq=>by rw [h1 q,c3i ho],h2⟩
end
theorem e5d(l ex:PM PT)(r:List Tok):litS l ex (sgT [33]::r)=bindP l (λc=>pureP (cX 4 0 [] [c])) r:=rfl
theorem e5e(l ex:PM PT)(r:List Tok):litS l ex (sgT [91]::r)=bindP (condOf l) (λc=>bindP (mustP ⟨#[93]⟩) λ_=>pureP c) r:=rfl
theorem e5f(l ex:PM PT){k:Tok}(h:Fst k)(r:List Tok):litS l ex (k::r)=bindP ex (λa=>bindP relP λop=>bindP ex λb=>pureP (cX 3 op [a,b] [])) (k::r):=by
 cases h<;>rfl
theorem e5g{op:Int}(h0:1<=op)(h1:op<=6)(r:List Tok):relP (sgT (sgnC op)::r)=.ok (op,r):=by
 have:op=1\/op=2\/op=3\/op=4\/op=5\/op=6:=by omega
 rcases this with rfl | rfl | rfl | rfl | rfl | rfl<;>rfl
theorem c9Y:∀g,CondR g (litP g)
 | 0=>λt ht rest hr=>by
  refine ⟨λq=>?_,λ_=>?_⟩
  ·have:=ht.nd1
   have:=c3g (decide (lvC (kindT t) < 3)) (nd t)
   unfold eL at q
   omega
  ·have lb:∀{k:Tok}(r:List Tok),Fst k->litB (k::r)=true:=λr h=>by
    unfold litB;rw [h.fb];rfl
   by_cases c:lvC (kindT t) < 3
   ·rw [(b8J c).1];exact b2H rfl
   ·rw [(a8U (by omega)).1]
    cases ht with
    | tru=>exact b2H rfl
    | fls=>exact b2H rfl
    | cmp op a b _ _ ha hb=>
     obtain ⟨k,r,h1,h2⟩:=c1U ha
     rw [c3f,h2]
     exact b2H (lb _ h1)
    | not c _=>exact b2H rfl
    | bin k a b hk _ _=>
     rcases hk with rfl | rfl
     ·exact (c (by show lvC 5 < 3;decide)).elim
     ·exact (c (by show lvC 6 < 3;decide)).elim
 | g+1=>λt ht rest hr=>by
  have ih:=c9Y g
  have hsh:=b5R g
  show Rs _ (litS (litP g) (exprP (g+1)) (cL 3 t++rest)) t rest
  cases ht with
  | tru=>exact Rs.iff Rs.ok ⟨λ_=>by show 1<=_;omega,λ_=>trivial⟩
  | fls=>exact Rs.iff Rs.ok ⟨λ_=>by show 1<=_;omega,λ_=>trivial⟩
  | cmp op a b h0 h1 ha hb=>
   rw [(a8U (n:=3) (t:=cX 3 op [a,b] []) (by show (3:Int)<=lvC 3;decide)).1,(a8U (n:=3) (t:=cX 3 op [a,b] []) (by show (3:Int)<=lvC 3;decide)).2,c3f,d4m]
   obtain ⟨k,r,f1,f2⟩:=c1U ha
   have e:litS (litP g) (exprP (g+1)) ((tkT a++sgT (sgnC op)::tkT b)++rest)=bindP (exprP (g+1)) (λa=>bindP relP λop=>bindP (exprP (g+1)) λb=>pureP (cX 3 op [a,b] [])) (tkT a++(sgT (sgnC op)::(tkT b++rest))):=by
    rw [List.append_assoc,f2];exact e5f _ _ f1 _
   rw [e]
   refine (Rs.bind (b5S (g+1) ha _ (NE.cmp op _)) λ_=>(?_:Rs (nd b<=g+1) _ _ _)).iff (Iff.symm Nat.max_le)
   unfold bindP
   rw [e5g h0 h1]
   exact (Rs.bind (f:=λb=>pureP (cX 3 op [a,b] [])) (b5S (g+1) hb rest hr) λ_=>Rs.ok).iff (a6f _)
  | not c hc=>
   rw [(a8U (n:=3) (t:=cX 4 0 [] [c]) (by show (3:Int)<=lvC 4;decide)).1,(a8U (n:=3) (t:=cX 4 0 [] [c]) (by show (3:Int)<=lvC 4;decide)).2,c7p,d4n]
   rw [List.cons_append,e5d]
   exact (Rs.bind (ih c hc rest hr) λ_=>Rs.ok).iff (by rw [a6f];omega)
  | bin k a b hk ha hb=>
   have hl:lvC (kindT (cX k 0 [] [a,b])) < 3:=by
    rcases hk with rfl | rfl
    ·show lvC 5 < 3;decide
    ·show lvC 6 < 3;decide
   rw [(b8J hl).1,(b8J hl).2,List.cons_append,List.append_assoc,e5e]
   exact (Rs.bind (c7u ih hsh (.bin k a b hk ha hb) (sgT [93]::rest) (NE.brk rest) (by rw [a0u];decide) (by rw [a0u];decide)) λ_=>Rs.must).iff (by rw [a6f];omega)
theorem b8K(g:Nat){t:PT}(h:XC t)(rest:List Tok)(hr:NE rest)(hn:isT ⟨#[38,38]⟩ rest=false)(ho:isT ⟨#[124,124]⟩ rest=false):Rs (nd t<=g) (condP g (tkT t++rest)) t rest:=c7u (c9Y g) (b5R g) h rest hr hn ho
inductive XS:PT->Prop
 | asg (s:BA) (e:PT):XE e->XS (sX 1 s [e] [] [] [])
 | sto (s:BA) (i e:PT):XE i->XE e->XS (sX 2 s [i,e] [] [] [])
 | iff (c:PT) (th el:List PT):XC c->(∀t∈th,XS t)->(∀t∈el,XS t)->XS (sX 3 ⟨#[]⟩ [] [c] th el)
 | whl (c:PT) (th:List PT):XC c->(∀t∈th,XS t)->XS (sX 4 ⟨#[]⟩ [] [c] th [])
 | asr (c:PT):XC c->XS (sX 5 ⟨#[]⟩ [] [c] [] [])
 | asm (c:PT):XC c->XS (sX 6 ⟨#[]⟩ [] [c] [] [])
 | skp:XS (sX 7 ⟨#[]⟩ [] [] [] [])
abbrev wIf:BA:=⟨#[105,102]⟩
abbrev wWh:BA:=⟨#[119,104,105,108,101]⟩
abbrev wAr:BA:=⟨#[97,115,115,101,114,116]⟩
abbrev wAm:BA:=⟨#[97,115,115,117,109,101]⟩
abbrev wSk:BA:=⟨#[115,107,105,112]⟩
abbrev wEl:BA:=⟨#[101,108,115,101]⟩
def labQ:Lab->List (List Tok)->List (List Tok)->List Tok
 | .stmt k s e c t _,ts,ss=>
  if k=1 then wdT s 1::sgT [61]::(ts.headD []++[sgT [59]])
  else if k=2 then wdT s 1::sgT [91]::(ts.headD []++sgT [93]::sgT [61]::(ts.tail.headD []++[sgT [59]]))
  else if k=3 then wdT wIf 3::(ts.headD []++sgT [123]::(((ss.drop (c+e)).take t).flatten++sgT [125]::(if ss.length<=c+e+t then [] else wdT wEl 3::sgT [123]::((ss.drop (c+e+t)).flatten++[sgT [125]]))))
  else if k=4 then wdT wWh 3::(ts.headD []++sgT [123]::(((ss.drop (c+e)).take t).flatten++[sgT [125]]))
  else if k=5 then wdT wAr 3::(ts.headD []++[sgT [59]])
  else if k=6 then wdT wAm 3::(ts.headD []++[sgT [59]])
  else [wdT wSk 3,sgT [59]]
 | _,_,_=>[]
mutual
def tkZ:PT->List Tok
 | .mk l cs=>labQ l (tkTs cs) (tkZs cs)
def tkZs:List PT->List (List Tok)
 | []=>[]
 | t::ts=>tkZ t::tkZs ts
end
theorem c1V:∀ts:List PT,tkZs ts=ts.map tkZ
 | []=>rfl
 | t::ts=>by rw [tkZs,c1V ts];rfl
theorem c4q:∀ts:List PT,nds ts=ts.map nd
 | []=>rfl
 | t::ts=>by rw [nds,c4q ts];rfl
abbrev flS(ts:List PT):List Tok:=(ts.map tkZ).flatten
theorem c3j(s:BA)(e:PT):tkZ (sX 1 s [e] [] [] [])=wdT s 1::sgT [61]::(tkT e++[sgT [59]]):=rfl
theorem c3k(s:BA)(i e:PT):tkZ (sX 2 s [i,e] [] [] [])=wdT s 1::sgT [91]::(tkT i++sgT [93]::sgT [61]::(tkT e++[sgT [59]])):=rfl
theorem c3l(c:PT):tkZ (sX 5 ⟨#[]⟩ [] [c] [] [])=wdT wAr 3::(tkT c++[sgT [59]]):=rfl
theorem c3m(c:PT):tkZ (sX 6 ⟨#[]⟩ [] [c] [] [])=wdT wAm 3::(tkT c++[sgT [59]]):=rfl
theorem c3n:tkZ (sX 7 ⟨#[]⟩ [] [] [] [])=[wdT wSk 3,sgT [59]]:=rfl
theorem c3o(c:PT)(th:List PT):tkZ (sX 4 ⟨#[]⟩ [] [c] th [])=wdT wWh 3::(tkT c++sgT [123]::(flS th++[sgT [125]])):=by
 show labQ (.stmt 4 ⟨#[]⟩ 0 1 th.length 0) (tkTs (c::([]++(th++[])))) (tkZs (c::([]++(th++[]))))=_
 rw [c1V,tkTs,List.nil_append,List.append_nil]
 show wdT wWh 3::(tkT c++sgT [123]::(((((tkZ c::th.map tkZ).drop (1+0)).take th.length).flatten)++[sgT [125]]))=_
 rw [show (tkZ c::th.map tkZ).drop (1+0)=th.map tkZ from rfl,List.take_of_length_le (by rw [List.length_map];exact Nat.le_refl _)]
theorem c5y(c:PT)(th el:List PT):tkZ (sX 3 ⟨#[]⟩ [] [c] th el)=wdT wIf 3::(tkT c++sgT [123]::(flS th++sgT [125]::(if el=[] then [] else wdT wEl 3::sgT [123]::(flS el++[sgT [125]])))):=by
 show labQ (.stmt 3 ⟨#[]⟩ 0 1 th.length el.length) (tkTs (c::([]++(th++el)))) (tkZs (c::([]++(th++el))))=_
 rw [c1V,tkTs,List.nil_append]
 show wdT wIf 3::(tkT c++sgT [123]::((((((tkZ c::(th++el).map tkZ)).drop (1+0)).take th.length).flatten)++sgT [125]::(if (tkZ c::(th++el).map tkZ).length<=1+0+th.length then [] else wdT wEl 3::sgT [123]::(((tkZ c::(th++el).map tkZ).drop (1+0+th.length)).flatten++[sgT [125]]))))=_
 have e1:(tkZ c::(th++el).map tkZ).drop (1+0)=(th++el).map tkZ:=rfl
 have e2:(tkZ c::(th++el).map tkZ).drop (1+0+th.length)=el.map tkZ:=by
  rw [←List.drop_drop,e1,List.map_append,List.drop_left' (List.length_map _)]
 have e3:((tkZ c::(th++el).map tkZ).length<=1+0+th.length)↔el=[]:=by
  rw [List.length_cons,List.length_map,List.length_append,← List.length_eq_zero_iff];omega
 rw [e1,e2,List.map_append,List.take_left' (List.length_map _)]
 by_cases h:el=[]
 ·rw [if_pos (by rw [←List.map_append];exact e3.2 h),if_pos h]
 ·rw [if_neg (by rw [←List.map_append];exact λq=>h (e3.1 q)),if_neg h]
theorem c1W{n:Nat}:∀l:List PT,(l.map nd).foldr max 0<=n↔∀t∈l,nd t<=n
 | []=>⟨λ_ t h=>(by cases h),λ_=>Nat.zero_le _⟩
 | t::l=>by
  rw [List.map_cons,List.foldr_cons,Nat.max_le,c1W l]
  simp
theorem d4q(s:BA)(e:PT):nd (sX 1 s [e] [] [] [])=max (nd e) 1:=rfl
theorem d4r(s:BA)(i e:PT):nd (sX 2 s [i,e] [] [] [])=max (nd i+1) (nd e):=rfl
theorem d4s(c:PT):nd (sX 5 ⟨#[]⟩ [] [c] [] [])=max (nd c) 1:=rfl
theorem d4t(c:PT):nd (sX 6 ⟨#[]⟩ [] [c] [] [])=max (nd c) 1:=rfl
theorem e6O{c:PT}{th el:List PT}{g:Nat}:nd (sX 3 ⟨#[]⟩ [] [c] th el)<=g+1↔nd c<=g+1/\(∀t∈th,nd t<=g)/\(∀t∈el,nd t<=g):=by
 show labD (.stmt 3 ⟨#[]⟩ 0 1 th.length el.length) ((c::([]++(th++el))).map kindT) (nds (c::([]++(th++el))))<=g+1↔_
 rw [c4q,List.nil_append]
 show max (max (nd c) 1) (((th++el).map nd).foldr max 0+1)<=g+1↔_
 rw [Nat.max_le,Nat.max_le,Nat.add_le_add_iff_right,c1W]
 constructor
 ·rintro ⟨⟨h1,_⟩,h2⟩
  exact ⟨h1,λt ht=>h2 t (List.mem_append_left _ ht),λt ht=>h2 t (List.mem_append_right _ ht)⟩
 ·rintro ⟨h1,h2,h3⟩
  exact ⟨⟨h1,by omega⟩,λt ht=>(List.mem_append.1 ht).elim (h2 t) (h3 t)⟩
theorem e5h{c:PT}{th:List PT}{g:Nat}:nd (sX 4 ⟨#[]⟩ [] [c] th [])<=g+1↔nd c<=g+1/\(∀t∈th,nd t<=g):=by
 show labD (.stmt 4 ⟨#[]⟩ 0 1 th.length 0) ((c::([]++(th++[]))).map kindT) (nds (c::([]++(th++[]))))<=g+1↔_
 rw [c4q,List.nil_append,List.append_nil]
 show max (max (nd c) 1) ((th.map nd).foldr max 0+1)<=g+1↔_
 rw [Nat.max_le,Nat.max_le,Nat.add_le_add_iff_right,c1W]
 exact ⟨λh=>⟨h.1.1,h.2⟩,λh=>⟨⟨h.1,by omega⟩,h.2⟩⟩
inductive SF:Tok->Prop
 | w1 (s:BA):SF (wdT s 1)
 | iff:SF (wdT wIf 3)
 | whl:SF (wdT wWh 3)
 | asr:SF (wdT wAr 3)
 | asm:SF (wdT wAm 3)
 | skp:SF (wdT wSk 3)
theorem b3E{t:PT}(h:XS t):∃k r,SF k/\tkZ t=k::r:=by
 cases h with
 | asg s e _=>exact ⟨_,_,.w1 s,c3j s e⟩
 | sto s i e _ _=>exact ⟨_,_,.w1 s,c3k s i e⟩
 | iff c th el _ _ _=>exact ⟨_,_,.iff,c5y c th el⟩
 | whl c th _ _=>exact ⟨_,_,.whl,c3o c th⟩
 | asr c _=>exact ⟨_,_,.asr,c3l c⟩
 | asm c _=>exact ⟨_,_,.asm,c3m c⟩
 | skp=>exact ⟨_,_,.skp,c3n⟩
theorem SF.el{k:Tok}(h:SF k)(r:List Tok):isT wEl (k::r)=false:=by cases h<;>rfl
theorem SF.cb{k:Tok}(h:SF k)(r:List Tok):isT ⟨#[125]⟩ (k::r)=false:=by cases h<;>rfl
theorem SF.eb{k:Tok}(h:SF k)(r:List Tok):endB (k::r)=false:=by cases h<;>rfl
theorem SF.vr{k:Tok}(h:SF k)(r:List Tok):(isT tVar (k::r)||isT tArr (k::r))=false:=by cases h<;>rfl
theorem SF.sb{k:Tok}(h:SF k)(r:List Tok):stmtB (k::r)=true:=by cases h<;>rfl
theorem e5i{ts:List PT}(h:∀t∈ts,XS t){rest:List Tok}(hr:isT wEl rest=false):isT wEl (flS ts++rest)=false:=by
 cases ts with
 | nil=>exact hr
 | cons t ts=>
  obtain ⟨k,r,h1,h2⟩:=b3E (h t (by simp))
  unfold flS
  rw [List.map_cons,List.flatten_cons,h2]
  exact h1.el _
theorem c4r:∀{ts:List PT},(∀t∈ts,XS t)->ts.length<=(flS ts).length
 | [],_=>Nat.le_refl _
 | t::ts,h=>by
  obtain ⟨k,r,h1,h2⟩:=b3E (h t (by simp))
  have:=c4r λu hu=>h u (List.mem_cons_of_mem _ hu)
  unfold flS at this ⊢
  rw [List.map_cons,List.flatten_cons,h2,List.length_append,List.length_cons,List.length_cons]
  omega
section
variable {g:Nat}
def StR(g:Nat)(st:PM PT):Prop:=∀(t:PT),XS t->∀rest,isT wEl rest=false->Rs (nd t<=g) (st (tkZ t++rest)) t rest
theorem c1X{st:PM PT}{stop:List Tok->Bool}(hst:StR g st)(hsp:∀{k:Tok}(r:List Tok),SF k->stop (k::r)=false):∀(ts:List PT),(∀t∈ts,XS t)->∀(n:Nat)(l:List PT)(rest:List Tok),stop rest=true->isT wEl rest=false->ts.length<=n->Rs (∀t∈ts,nd t<=g) (stmtsF stop st n l (flS ts++rest)) (l++ts) rest
 | [],_,n,l,rest,hs,_,_=>by
  rw [List.append_nil]
  refine Rs.iff (b:=True) ?_ ⟨λ_ t h=>(by cases h),λ_=>trivial⟩
  cases n with
  | zero=>exact Rs.ok
  | succ n=>
   show Rs True (stmtsF stop st (n+1) l rest) l rest
   unfold stmtsF
   rw [if_pos hs]
   exact Rs.ok
 | t::ts,hx,n,l,rest,hs,he,hn=>by
  obtain ⟨n,rfl⟩:∃m,n=m+1:=⟨n-1,by rw [List.length_cons] at hn;omega⟩
  have hx2:∀u∈ts,XS u:=λu hu=>hx u (List.mem_cons_of_mem _ hu)
  have e:flS (t::ts)++rest=tkZ t++(flS ts++rest):=by unfold flS;rw [List.map_cons,List.flatten_cons,List.append_assoc]
  obtain ⟨k,r,h1,h2⟩:=b3E (hx t (by simp))
  have hsf:stop (flS (t::ts)++rest)=false:=by rw [e,h2];exact hsp _ h1
  unfold stmtsF
  rw [hsf,e]
  show Rs _ (bindP st (λs=>stmtsF stop st n (l++[s])) (tkZ t++(flS ts++rest))) _ _
  have ih:=c1X hst hsp ts hx2 n (l++[t]) rest hs he (by rw [List.length_cons] at hn;omega)
  rw [List.append_assoc,List.singleton_append] at ih
  exact (Rs.bind (f:=λs=>stmtsF stop st n (l++[s])) (hst t (hx t (by simp)) _ (e5i hx2 he)) λ_=>ih).iff (by simp)
theorem c1Y{st:PM PT}(hst:StR g st){ts:List PT}(hx:∀t∈ts,XS t)(rest:List Tok):Rs (∀t∈ts,nd t<=g) (blockOf st (sgT [123]::(flS ts++sgT [125]::rest))) ts rest:=by
 refine Rs.d1x ((Rs.bind (f:=λl r=>.ok (l,r.tail)) (r1:=sgT [125]::rest) (a:=ts) (c:=True) (p:=λr=>stmtsF (isT ⟨#[125]⟩) st r.length [] r) (c1X hst (λr h=>h.cb r) ts hx _ [] (sgT [125]::rest) rfl rfl ?_) λ_=>Rs.ok).iff (a6f _))
 have:=c4r hx
 rw [List.length_append]
 omega
theorem e5j(st sub ex co:PM PT)(s:BA)(r:List Tok):stmtS st sub ex co (wdT s 1::sgT [61]::r)=bindP ex (λe=>endS (sX 1 s [e] [] [] [])) r:=rfl
theorem e5k(st sub ex co:PM PT)(s:BA)(r:List Tok):stmtS st sub ex co (wdT s 1::sgT [91]::r)=bindP sub (λe=>bindP (mustP ⟨#[93]⟩) λ_=>setS 2 s [e] ex) r:=rfl
theorem e6P(st sub ex co:PM PT)(r:List Tok):stmtS st sub ex co (wdT wIf 3::r)=bindP co (λc=>bindP (blockOf st) λth r'=>if isT wEl r' then bindP (blockOf st) (λel=>pureP (sX 3 ⟨#[]⟩ [] [c] th el)) r'.tail else .ok (sX 3 ⟨#[]⟩ [] [c] th [],r')) r:=rfl
theorem e5l(st sub ex co:PM PT)(r:List Tok):stmtS st sub ex co (wdT wWh 3::r)=bindP co (λc=>bindP (blockOf st) λth=>pureP (sX 4 ⟨#[]⟩ [] [c] th [])) r:=rfl
theorem e5m(st sub ex co:PM PT)(r:List Tok):stmtS st sub ex co (wdT wAr 3::r)=bindP co (λc=>endS (sX 5 ⟨#[]⟩ [] [c] [] [])) r:=rfl
theorem e5n(st sub ex co:PM PT)(r:List Tok):stmtS st sub ex co (wdT wAm 3::r)=bindP co (λc=>endS (sX 6 ⟨#[]⟩ [] [c] [] [])) r:=rfl
theorem e5o(st sub ex co:PM PT)(r:List Tok):stmtS st sub ex co (wdT wSk 3::r)=endS (sX 7 ⟨#[]⟩ [] [] [] []) r:=rfl
theorem b9Q(t:PT)(rest:List Tok):Rs True (endS t (sgT [59]::rest)) t rest:=Rs.must
end
theorem NE.semi(r:List Tok):NE (sgT [59]::r):=NE.of (by decide) (by decide) (by decide) (by decide) (by decide) (by decide)
theorem NE.cur(r:List Tok):NE (sgT [123]::r):=NE.of (by decide) (by decide) (by decide) (by decide) (by decide) (by decide)
theorem XS.nd1{t:PT}(h:XS t):1<=nd t:=by
 cases h with
 | asg s e _=>rw [d4q];omega
 | sto s i e _ _=>rw [d4r];omega
 | iff c th el _ _ _=>exact Nat.le_trans (Nat.le_max_right _ _) (Nat.le_max_left _ _)
 | whl c th _ _=>exact Nat.le_trans (Nat.le_max_right _ _) (Nat.le_max_left _ _)
 | asr c _=>rw [d4s];omega
 | asm c _=>rw [d4t];omega
 | skp=>exact Nat.le_refl _
theorem c7v:∀g,StR g (stmtP g)
 | 0=>λt ht rest hr=>by
  refine ⟨λq=>by have:=ht.nd1;omega,λ_=>?_⟩
  obtain ⟨k,r,h1,h2⟩:=b3E ht
  rw [h2]
  exact b2H (h1.sb _)
 | g+1=>λt ht rest hr=>by
  have ih:=c7v g
  show Rs _ (stmtS (stmtP g) (exprP g) (exprP (g+1)) (condP (g+1)) (tkZ t++rest)) t rest
  cases ht with
  | asg s e he=>
   rw [c3j,d4q,List.cons_append,List.cons_append,List.append_assoc,e5j]
   exact (Rs.bind (f:=λe=>endS (sX 1 s [e] [] [] [])) (b5S (g+1) he (sgT [59]::rest) (NE.semi _)) λ_=>b9Q _ _).iff (by rw [a6f];omega)
  | sto s i e hi he=>
   rw [c3k,d4r,List.cons_append,List.cons_append,List.append_assoc,e5k]
   refine (Rs.bind (b5S g hi (sgT [93]::(sgT [61]::(tkT e++[sgT [59]])++rest)) (NE.brk _)) λ_=>(?_:Rs (nd e<=g+1) _ _ _)).iff (by omega)
   refine Rs.d1x ?_
   show Rs _ (setS 2 s [i] (exprP (g+1)) (sgT [61]::((tkT e++[sgT [59]])++rest))) _ _
   refine Rs.d1x ?_
   rw [List.append_assoc]
   exact (Rs.bind (f:=λe=>endS (sX 2 s ([i]++[e]) [] [] [])) (b5S (g+1) he (sgT [59]::rest) (NE.semi _)) λ_=>b9Q _ _).iff (a6f _)
  | iff c th el hc hth hel=>
   rw [c5y,List.cons_append,List.append_assoc,List.cons_append,List.append_assoc,List.cons_append,e6P]
   refine (Rs.bind (b8K (g+1) hc (sgT [123]::(flS th++sgT [125]::((if el=[] then [] else wdT wEl 3::sgT [123]::(flS el++[sgT [125]]))++rest))) (NE.cur _) (by rw [a0u];decide) (by rw [a0u];decide)) λ_=>(?_:Rs ((∀t∈th,nd t<=g)/\(∀t∈el,nd t<=g)) _ _ _)).iff e6O.symm
   refine Rs.bind (c1Y ih hth _) λ_=>?_
   by_cases he:el=[]
   ·subst he
    rw [if_pos rfl,List.nil_append,hr]
    exact Rs.iff Rs.ok ⟨λ_ t h=>(by cases h),λ_=>trivial⟩
   ·rw [if_neg he,List.cons_append,List.cons_append,List.append_assoc]
    show Rs _ (bindP (blockOf (stmtP g)) (λel=>pureP (sX 3 ⟨#[]⟩ [] [c] th el)) (sgT [123]::(flS el++sgT [125]::rest))) _ _
    exact (Rs.bind (c1Y ih hel rest) λ_=>Rs.ok).iff (a6f _)
  | whl c th hc hth=>
   rw [c3o,List.cons_append,List.append_assoc,List.cons_append,List.append_assoc,e5l]
   refine (Rs.bind (b8K (g+1) hc (sgT [123]::(flS th++sgT [125]::rest)) (NE.cur _) (by rw [a0u];decide) (by rw [a0u];decide)) λ_=>(?_:Rs (∀t∈th,nd t<=g) _ _ _)).iff e5h.symm
   exact (Rs.bind (c1Y ih hth rest) λ_=>Rs.ok).iff (a6f _)
  | asr c hc=>
   rw [c3l,d4s,List.cons_append,List.append_assoc,e5m]
   exact (Rs.bind (f:=λc=>endS (sX 5 ⟨#[]⟩ [] [c] [] [])) (b8K (g+1) hc (sgT [59]::rest) (NE.semi _) (by rw [a0u];decide) (by rw [a0u];decide)) λ_=>b9Q _ _).iff (by rw [a6f];omega)
  | asm c hc=>
   rw [c3m,d4t,List.cons_append,List.append_assoc,e5n]
   exact (Rs.bind (f:=λc=>endS (sX 6 ⟨#[]⟩ [] [c] [] [])) (b8K (g+1) hc (sgT [59]::rest) (NE.semi _) (by rw [a0u];decide) (by rw [a0u];decide)) λ_=>b9Q _ _).iff (by rw [a6f];omega)
  | skp=>
   rw [c3n,List.cons_append,e5o]
   exact (b9Q _ rest).iff ⟨λ_=>by show 1<=g+1;omega,λ_=>trivial⟩
def dTk(d:j9):List Tok:=if d.D2=0 then [wdT tVar 3,wdT d.o7 1,sgT [59]] else [wdT tArr 3,wdT d.o7 1,sgT [91],nbT d.D2,sgT [93],sgT [59]]
abbrev eofT:Tok:=⟨5,⟨#[]⟩,0,p0⟩
def tkP(q:PP):List Tok:=(q.decls.map dTk).flatten++(flS q.body++[eofT])
theorem d6j(nm:BA)(r:List Tok):declP false (wdT nm 1::sgT [59]::r)=.ok (⟨nm,0⟩,r):=rfl
theorem d6k(nm:BA){z:Int}(h0:1<=z)(h1:z<=2147483647)(r:List Tok):declP true (wdT nm 1::sgT [91]::nbT z::sgT [93]::sgT [59]::r)=.ok (⟨nm,z⟩,r):=by
 have e:declP true (wdT nm 1::sgT [91]::nbT z::sgT [93]::sgT [59]::r)=if ((!decide ((2:Int)=2))||decide (z < 1))||decide (2147483647 < z) then wantE (nbT z::sgT [93]::sgT [59]::r) else .ok (⟨nm,z⟩,r):=rfl
 rw [e,decide_eq_true rfl,decide_eq_false (by omega),decide_eq_false (by omega)]
 rfl
theorem c7w:∀(ds:List j9),(∀d∈ds,0<=d.D2/\d.D2<=2147483647)->∀(n:Nat)(l:List j9)(rest:List Tok),(isT tVar rest||isT tArr rest)=false->ds.length<=n->declsF n l ((ds.map dTk).flatten++rest)=.ok (l++ds,rest)
 | [],_,n,l,rest,hr,_=>by
  rw [List.append_nil]
  cases n with
  | zero=>rfl
  | succ n=>
   show declsF (n+1) l rest=_
   unfold declsF
   rw [hr];rfl
 | d::ds,hd,n,l,rest,hr,hn=>by
  obtain ⟨n,rfl⟩:∃m,n=m+1:=⟨n-1,by rw [List.length_cons] at hn;omega⟩
  have ih:=c7w ds (λx hx=>hd x (List.mem_cons_of_mem _ hx)) n (l++[d]) rest hr (by rw [List.length_cons] at hn;omega)
  rw [List.append_assoc,List.singleton_append] at ih
  obtain ⟨h0,h1⟩:=hd d (by simp)
  rw [List.map_cons,List.flatten_cons,List.append_assoc]
  unfold dTk
  obtain ⟨nm,z⟩:=d
  split
  ·rename_i c
   subst c
   show bindP (declP false) (λd=>declsF n (l++[d])) (wdT nm 1::sgT [59]::((ds.map dTk).flatten++rest))=_
   unfold bindP
   rw [d6j]
   exact ih
  ·rename_i c
   show bindP (declP true) (λd=>declsF n (l++[d])) (wdT nm 1::sgT [91]::nbT z::sgT [93]::sgT [59]::((ds.map dTk).flatten++rest))=_
   unfold bindP
   rw [d6k nm (by omega) h1]
   exact ih
theorem e1a(ds:List j9):ds.length<=((ds.map dTk).flatten).length:=by
 induction ds with
 | nil=>exact Nat.le_refl _
 | cons d ds ih=>
  rw [List.map_cons,List.flatten_cons,List.length_append,List.length_cons]
  have:1<=(dTk d).length:=by unfold dTk;split<;>simp
  omega
theorem d6l{α β:Type}{p:PM α}{f:α->PM β}{r r':List Tok}{a:α}(h:p r=.ok (a,r')):bindP p f r=f a r':=by unfold bindP;rw [h]
theorem e1b{q:PP}(hd:∀d∈q.decls,0<=d.D2/\d.D2<=2147483647)(hb:∀t∈q.body,XS t):Rs (∀t∈q.body,nd t<=40) (progP (tkP q)) q [eofT]:=by
 unfold progP
 have hf:(isT tVar (flS q.body++[eofT])||isT tArr (flS q.body++[eofT]))=false:=by
  cases hq:q.body with
  | nil=>rfl
  | cons t ts=>
   obtain ⟨k,r,h1,h2⟩:=b3E (hb t (by rw [hq];simp))
   unfold flS
   rw [List.map_cons,List.flatten_cons,h2]
   exact h1.vr _
 have h1:declsF (tkP q).length [] (tkP q)=.ok (q.decls,flS q.body++[eofT]):=c7w q.decls hd (tkP q).length [] _ hf (by unfold tkP;rw [List.length_append];have:=e1a q.decls;omega)
 rw [d6l (p:=λr=>declsF r.length [] r) h1]
 refine (Rs.bind (f:=λb=>pureP (⟨q.decls,b⟩:PP)) (p:=λr=>stmtsF endB (stmtP 40) r.length [] r) (a:=q.body) (c1X (c7v 40) (λr h=>h.eb r) q.body hb _ [] [eofT] rfl rfl ?_) λ_=>Rs.ok).iff (a6f _)
 have:=c4r hb
 rw [List.length_append]
 omega
end
theorem b4j{α:Type}{l:List α}(h:l.length=1):∃a,l=[a]:=List.length_eq_one_iff.1 h
theorem b9R{α:Type}{l:List α}(h:l.length=2):∃a b,l=[a,b]:=by
 match l,h with
 | [a,b],_=>exact ⟨a,b,rfl⟩
section
variable {H:Hp}{L:En}{z:Lw}
def CondC(H:Hp)(L:En)(z:Lw)(c:p5)(t:PT):Prop:=∀(g:Gr)(a yes no:Int)(K:Lw->List Ed->Hp->Prop),Bd (4*cT t-1) g->cT t<=1099511627776->K (lw z ((loT L t).co a yes no g)) ((loT L t).co a yes no g).es H->K9 (lw z g) g.es c a yes no H K
theorem b8L(hz:LwH H L z){c:p5}{t:PT}(he:CH H c t):formT t=true->CondC H L z c t:=by
 induction he with
 | @mk c xs ts ys us hs hxb hr hy hyb hl hrc ih=>
 intro hf g a yes no K hb h1 h
 rw [c6Z] at h
 dsimp only at h
 rw [formT,Bool.and_eq_true] at hf
 have hk:=fmC hf.1
 have hn:=hs.1
 have hm:=hy.1
 have hr1:=hr.1
 rw [cT] at hb h1
 refine b4O _ _ _ _ _ _ ?_
 unfold a8O
 unfold coN at h
 refine ⟨λq=>?_,λn1=>⟨λq=>?_,λn2=>⟨λq=>?_,λn4=>⟨λq=>?_,λn5=>⟨λq=>?_,λn6=>?_⟩⟩⟩⟩⟩
 ·rw [if_pos q] at h
  exact a9Z (a7b z g _ (hb.mono (by omega)) h)
 ·rw [if_neg n1,if_pos q] at h
  exact a9Z (a7b z g _ (hb.mono (by omega)) h)
 ·rw [if_neg n1,if_neg n2] at h
  obtain rfl:ts=[]:=List.length_eq_zero_iff.1 (by omega)
  obtain ⟨u,rfl⟩:=b4j (l:=us) (by omega)
  obtain ⟨y,rfl⟩:=b4j (l:=ys) (by simpa using hl)
  simp only [List.nil_append,formTs,Bool.and_true,cTs,List.length_cons,List.length_nil] at hf hb h1 hm
  simp only [List.nil_append,List.map_cons,List.map_nil,if_pos q] at h
  exact ⟨by omega,by omega,y,hy.2 0 y rfl,ih 0 y u rfl rfl hf.2 g _ _ _ _ (hb.mono (by omega)) (by omega) h⟩
 ·rw [if_neg n1,if_neg n2] at h
  obtain rfl:ts=[]:=List.length_eq_zero_iff.1 (by omega)
  obtain ⟨u,v,rfl⟩:=b9R (l:=us) (by omega)
  obtain ⟨y,w,rfl⟩:=b9R (l:=ys) (by simpa using hl)
  simp only [List.nil_append,formTs,Bool.and_true,Bool.and_eq_true,cTs,List.length_cons,List.length_nil] at hf hb h1 hm
  simp only [List.nil_append,List.map_cons,List.map_nil,if_pos q] at h
  have c1:=R7 u;have c2:=R7 v
  have b1:=hb.p1
  have g1:=(b0Q L u).co a g.p no (frG g)
  refine a9y z g hb.p0 (by omega) ⟨by omega,by omega,y,hy.2 0 y rfl,ih 0 y u rfl rfl hf.2.1 (frG g) _ _ _ _ ?_ (by omega) ⟨by omega,by omega,w,hy.2 1 w rfl,ih 1 w v rfl rfl hf.2.2 _ _ _ _ _ ?_ (by omega) h⟩⟩
  ·exact hb.go (a9W g) (by omega)
  ·exact hb.go ((a9W g).trans g1) (by omega)
 ·rw [if_neg n1,if_neg n2] at h
  obtain rfl:ts=[]:=List.length_eq_zero_iff.1 (by omega)
  obtain ⟨u,v,rfl⟩:=b9R (l:=us) (by omega)
  obtain ⟨y,w,rfl⟩:=b9R (l:=ys) (by simpa using hl)
  simp only [List.nil_append,formTs,Bool.and_true,Bool.and_eq_true,cTs,List.length_cons,List.length_nil] at hf hb h1 hm
  simp only [List.nil_append,List.map_cons,List.map_nil,if_neg n5,if_pos q] at h
  have c1:=R7 u;have c2:=R7 v
  have b1:=hb.p1
  have g1:=(b0Q L u).co a yes g.p (frG g)
  refine a9y z g hb.p0 (by omega) ⟨by omega,by omega,y,hy.2 0 y rfl,ih 0 y u rfl rfl hf.2.1 (frG g) _ _ _ _ ?_ (by omega) ⟨by omega,by omega,w,hy.2 1 w rfl,ih 1 w v rfl rfl hf.2.2 _ _ _ _ _ ?_ (by omega) h⟩⟩
  ·exact hb.go (a9W g) (by omega)
  ·exact hb.go ((a9W g).trans g1) (by omega)
 ·rw [if_neg n1,if_neg n2] at h
  obtain rfl:us=[]:=List.length_eq_zero_iff.1 (by omega)
  obtain ⟨u,v,rfl⟩:=b9R (l:=ts) (by omega)
  obtain ⟨y,w,rfl⟩:=b9R (l:=xs) (by omega)
  simp only [List.append_nil,formTs,Bool.and_true,Bool.and_eq_true,cTs] at hf hb h1
  simp only [List.append_nil,List.map_cons,List.map_nil,if_neg n5,if_neg n6] at h
  unfold asN at h
  have e1:=hr.2 0 y u rfl rfl
  have e2:=hr.2 1 w v rfl rfl
  have l1:=c0G (L:=L) (b0Q L u) (b0Q L v) a 0 g
  have c1:=R7 u;have c2:=R7 v
  refine c7d hz hs e1 e2 hf.2.1 hf.2.2 (b7z hz e1 hf.2.1) (b7z hz e2 hf.2.2) g a 0 (hb.mono (by omega)) (by omega) (by omega) (a9Z (a7b z _ _ ?_ (e4O (by omega) (by omega) (a7b z _ _ ?_ h))))
  ·exact hb.go l1 (by omega)
  ·exact hb.go (l1.trans (a7Q ..)) (by omega)
theorem b9S(z:Lw)(g:Gr){s:Sl}{fs:List Fs}(hs:s.n=fs.length)(tg:Int)(h0:0<=g.p)(h1:g.p+1<=1099511627776){K:Int->Lw->List Ed->Hp->Prop}(h:K (begG fs tg g).1 (lw z (begG fs tg g).2) (begG fs tg g).2.es H):Z1 (lw z g) g.es s tg H K:=by
 refine b3a _ _ _ _ ?_
 cases fs with
 | nil=>exact ⟨λ_=>h,λq=>by simp only [List.length_nil] at hs;omega⟩
 | cons f fs=>
  simp only [List.length_cons] at hs
  exact ⟨λq=>by omega,λ_=>a9y z g h0 h1 h⟩
def StmC(H:Hp)(L:En)(z:Lw)(x:i6)(t:PT):Prop:=∀(g:Gr)(a tg:Int)(K:Lw->List Ed->Hp->Prop),Bd (4*cT t-1) g->cT t<=1099511627776->K (lw z ((loT L t).st a tg g)) ((loT L t).st a tg g).es H->a4P (lw z g) g.es x a tg H K
theorem d6m(a tg:Int)(g:Gr):blkG [] a tg g=g:=by
 unfold blkG
 rw [blG]
 cases g
 simp
def atP(a tg p:Int)(n k:Nat):Int:=if k=0 then a else if k=n then tg else p+((k-1:Nat):Int)
theorem d4u(a tg p:Int)(n k:Nat)(hn:1<=n)(hk:k<=n):((a::(List.range (n-1)).map λ(j:Nat)=>p+(j:Int))++[tg])[k]? = some (atP a tg p n k):=by
 unfold atP
 cases k with
 | zero=>simp
 | succ k=>
  rw [if_neg (by omega)]
  by_cases e:k+1=n
  ·rw [if_pos e,List.getElem?_append_right (by simp;omega)]
   simp only [List.length_cons,List.length_map,List.length_range]
   rw [show k+1-(n-1+1)=0 by omega];rfl
  ·rw [if_neg e,List.getElem?_append_left (by simp;omega)]
   simp only [List.getElem?_cons_succ,List.getElem?_map]
   rw [List.getElem?_range (by omega)];simp
theorem e5p{fs:List Fs}{k:Nat}{f:Fs}(hf:fs[k]? = some f)(a tg p:Int)(g:Gr):blG (fs.drop k) (atP a tg p fs.length k) (p+k) tg g=blG (fs.drop (k+1)) (atP a tg p fs.length (k+1)) (p+(k+1:Nat)) tg (f.st (atP a tg p fs.length k) (atP a tg p fs.length (k+1)) g):=by
 obtain ⟨hk,he⟩:=List.getElem?_eq_some_iff.1 hf
 rw [List.drop_eq_getElem_cons hk,he]
 cases hd:fs.drop (k+1) with
 | nil=>
  have:fs.length<=k+1:=by simpa using hd
  rw [blG,blG]
  congr 1
  unfold atP
  rw [if_neg (by omega),if_pos (by omega)]
 | cons u r=>
  have hl:k+1 < fs.length:=by
   have:=congrArg List.length hd
   simp only [List.length_drop,List.length_cons] at this;omega
  have e:atP a tg p fs.length (k+1)=p+k:=by
   unfold atP
   rw [if_neg (by omega),if_neg (by omega)];simp
  rw [blG,e]
  congr 1
  omega
theorem d6n{ts:List PT}{k:Nat}{t:PT}(h:ts[k]? = some t):cTs (ts.drop k)=cT t+cTs (ts.drop (k+1)):=by
 obtain ⟨hk,he⟩:=List.getElem?_eq_some_iff.1 h
 rw [List.drop_eq_getElem_cons hk,he,cTs]
theorem b6r{s:Sl}{xs:List i6}{vs:List PT}(hs:SlH H 6 q9 s xs)(hl:xs.length=vs.length)(hc:∀(i:Nat)(x:i6)(t:PT),xs[i]? = some x->vs[i]? = some t->StmC H L z x t)(g:Gr)(a tg:Int)(hb:Bd (4*cTs vs) g)(h1:cTs vs<=1099511627776){K:Lw->List Ed->Hp->Prop}
  (h:K (lw z (blkG (vs.map (loT L)) a tg g)) (blkG (vs.map (loT L)) a tg g).es H):V6 (lw z g) g.es s a tg H K:=by
 refine b4a _ _ _ _ _ ?_
 unfold a8p
 have hn:=hs.1
 have hlen:=b4Y vs
 refine ⟨λq=>?_,λq=>?_⟩
 ·obtain rfl:vs=[]:=List.length_eq_zero_iff.1 (by omega)
  rw [List.map_nil,d6m] at h
  exact h
 have en:IntKind.wrap .i64 ((s.n:Int)-1)=((vs.length-1:Nat):Int):=by rw [S3 ⟨by omega,by omega⟩];omega
 rw [en]
 refine P7 (λst H'=>H'=H/\∃i:Nat,i<=vs.length-1/\st=(a::(List.range i).map (λ(j:Nat)=>g.p+(j:Int)),(i:Int),z.fc.E0,g.t,z.fc.C1,g.p+i,z.fc.K8,g.es,z.fvars,z.farrays)) (λst=>(vs.length-1)-st.2.1.toNat) ⟨rfl,0,by omega,by simp [lw]⟩ ?_
 rintro st H1 next ⟨rfl,i,hi,rfl⟩ hnx
 dsimp only
 unfold a2U
 refine ⟨λq2=>?_,λq2=>?_⟩
 ·have b1:=hb.p1
  refine a9y z ⟨g.p+i,g.t,g.es⟩ (by have:=hb.p0;dsimp only;omega) (by dsimp only;omega) ⟨?_,hnx _ _ ⟨rfl,i+1,by omega,?_⟩ ?_⟩
  ·simp only [List.length_cons,List.length_map,List.length_range,List.length_nil];omega
  ·rw [List.range_succ,List.map_append,K7 (by omega) (by omega)]
   simp only [lw,List.map_cons,List.map_nil,List.cons_append,Prod.mk.injEq,and_true,true_and]
   omega
  ·dsimp only
   rw [K7 (by omega) (by omega)];omega
 obtain rfl:i=vs.length-1:=by omega
 unfold a2T
 refine ⟨by simp only [List.length_cons,List.length_map,List.length_range,List.length_nil];omega,?_⟩
 unfold blkG at h
 have hfl:(vs.map (loT L)).length=vs.length:=List.length_map ..
 rw [hfl] at h
 refine P7 (λst H'=>H'=H1/\∃(i:Nat)(g':Gr),i<=vs.length/\st=((i:Int),z.fc.E0,g'.t,z.fc.C1,g'.p,z.fc.K8,g'.es,z.fvars,z.farrays)/\Bd (4*cTs (vs.drop i)-(vs.length-i)) g'/\
  blG ((vs.map (loT L)).drop i) (atP a tg g.p vs.length i) (g.p+i) tg g'=blG (vs.map (loT L)) a g.p tg ⟨g.p+(vs.length-1:Nat),g.t,g.es⟩) (λst=>vs.length-st.1.toNat) ⟨rfl,0,⟨g.p+(vs.length-1:Nat),g.t,g.es⟩,by omega,rfl,?_,by simp [atP]⟩ ?_
 ·rw [List.drop_zero]
  have b0:=hb.p0;have b1:=hb.p1;have b2:=hb.e1
  refine ⟨by dsimp only;omega,by dsimp only;omega,by dsimp only;omega⟩
 rintro st H2 next ⟨rfl,i,g',hi,rfl,hbg,hg⟩ hnx2
 dsimp only
 unfold a2S
 refine ⟨λq3=>?_,λq3=>?_⟩
 ·have hiv:i < vs.length:=by omega
  obtain ⟨x,hx⟩:=K2 (l:=xs) (i:=i) (by omega)
  obtain ⟨t,ht⟩:=K2 (l:=vs) (i:=i) hiv
  have hst:=hc i x t hx ht
  have hft:(vs.map (loT L))[i]? = some (loT L t):=by rw [List.getElem?_map,ht];rfl
  rw [←hfl,e5p hft,hfl] at hg
  have ew:IntKind.wrap .i64 ((i:Int)+1)=((i+1:Nat):Int):=by rw [K7 (by omega) (by omega)];omega
  rw [ew]
  have hd:=d6n ht
  have hct:cT t<=cTs vs:=by
   have:=c4j vs i;omega
  have hlr:=b4Y (vs.drop (i+1))
  rw [List.length_drop] at hlr
  refine ⟨by omega,by omega,x,hs.2 i x hx,by omega,_,d4u a tg g.p vs.length i (by omega) (by omega),by omega,_,d4u a tg g.p vs.length (i+1) (by omega) (by omega),hst g' _ _ _ (hbg.mono (by omega)) (by omega) ?_⟩
  refine hnx2 _ _ ⟨rfl,i+1,_,by omega,rfl,?_,hg⟩ (by dsimp only;omega)
  exact hbg.go ((b0Q L t).st _ _ _) (by have:=R7 t;omega)
 ·obtain rfl:i=vs.length:=by omega
  rw [List.drop_of_length_le (by omega),blG] at hg
  rw [←hg] at h
  exact h
end
theorem b9T:∀{ts:List PT}{i:Nat}{t:PT},formTs ts=true->ts[i]? = some t->formT t=true
 | [],_,_,_,h=>by simp at h
 | u::r,0,t,hf,h=>by
  rw [formTs,Bool.and_eq_true] at hf
  simp only [List.getElem?_cons_zero,Option.some.injEq] at h
  subst h;exact hf.1
 | u::r,i+1,t,hf,h=>by
  rw [formTs,Bool.and_eq_true] at hf
  exact b9T hf.2 (by simpa using h)
section
variable {H:Hp}{L:En}{z:Lw}
theorem d4v(hz:LwH H L z){e:l9}{t:PT}(he:EH H e t)(hf:formT t=true)(g:Gr)(dst a tg:Int)(hb:Bd (4*cT t) g)(h1:cT t<=1099511627776){K:Lw->List Ed->Hp->Prop}
  (h2:∀o,(loT L t).pl=some o->K (lw z (edG ⟨a,tg,2,dst,-1,0,o,nO⟩ g)) (edG ⟨a,tg,2,dst,-1,0,o,nO⟩ g).es H) (h3:(loT L t).pl=none->K (lw z ((loT L t).into dst a tg 0 g)) ((loT L t).into dst a tg 0 g).es H):a3Y (lw z g) g.es dst e a tg H K:=by
 refine b3s _ _ _ _ _ _ ?_
 have hc:=R7 t
 refine c7c hz g he hf (λo ho=>⟨(λq=>nomatch q),λ_=>?_⟩) (λho o=>⟨λ_=>?_,(λq=>nomatch q)⟩)
 ·exact a9Z (a7b z g _ (hb.mono (by omega)) (h2 o ho))
 ·exact b7z hz he hf g _ _ _ _ _ (hb.mono (by omega)) (by omega) (by omega) (h3 ho)
theorem d6o(hz:LwH H L z){x:i6}{t:PT}(he:SH H x t):formT t=true->StmC H L z x t:=by
 induction he with
 | @mk s xs ts ys us zs bs vs ws hs hxb hr hy hyb hry hz1 hzb hzl hzr hw1 hwb hwl hwr ih1 ih2=>
 intro hf g a tg K hb h1 h
 rw [c7a] at h
 dsimp only at h
 rw [formT,Bool.and_eq_true] at hf
 have hk:=fmS (by omega) (by omega) hf.1
 have hn:=hs.1;have hm:=hy.1;have hrl:=hr.1;have hyl:=hry.1;have hv1:=hz1.1;have hw1':=hw1.1
 rw [cT] at hb h1
 have b1:=hb.p1;have b0:=hb.p0
 refine b4P _ _ _ _ _ ?_
 unfold a8P
 refine ⟨λq=>?_,λn1=>⟨λq=>?_,λn2=>⟨λq=>?_,λn3=>⟨λq=>?_,λn4=>⟨λq=>?_,λn5=>⟨λq=>?_,λn6=>?_⟩⟩⟩⟩⟩⟩
 ·obtain rfl:us=[]:=List.length_eq_zero_iff.1 (by omega)
  obtain rfl:vs=[]:=List.length_eq_zero_iff.1 (by omega)
  obtain rfl:ws=[]:=List.length_eq_zero_iff.1 (by omega)
  obtain ⟨u,rfl⟩:=b4j (l:=ts) (by omega)
  obtain ⟨y,rfl⟩:=b4j (l:=xs) (by omega)
  simp only [List.nil_append,List.append_nil,formTs,Bool.and_true,cTs,List.length_cons,List.length_nil] at hf hb h1 hn
  simp only [List.nil_append,List.append_nil,List.map_cons,List.map_nil] at h
  unfold lsN at h
  dsimp only at h
  rw [if_pos q] at h
  obtain ⟨l,hM,hv⟩:=hz.v
  refine ⟨l,hM,by omega,by omega,y,hs.2 0 y rfl,?_⟩
  rw [hv]
  refine d4v hz (hr.2 0 y u rfl rfl) hf.2 g _ _ _ (hb.mono (by omega)) (by omega) (λo ho=>?_) λho=>?_
  ·rw [ho] at h;exact h
  ·rw [ho] at h;exact h
 ·obtain rfl:us=[]:=List.length_eq_zero_iff.1 (by omega)
  obtain rfl:vs=[]:=List.length_eq_zero_iff.1 (by omega)
  obtain rfl:ws=[]:=List.length_eq_zero_iff.1 (by omega)
  obtain ⟨u,v,rfl⟩:=b9R (l:=ts) (by omega)
  obtain ⟨y,y2,rfl⟩:=b9R (l:=xs) (by omega)
  simp only [List.nil_append,List.append_nil,formTs,Bool.and_true,Bool.and_eq_true,cTs] at hf hb h1
  simp only [List.nil_append,List.append_nil,List.map_cons,List.map_nil] at h
  unfold lsN at h
  dsimp only at h
  rw [if_neg n1,if_pos q] at h
  obtain ⟨l,hM,hv⟩:=hz.a
  have e1:=hr.2 0 y u rfl rfl
  have e2:=hr.2 1 y2 v rfl rfl
  have c1:=R7 u;have c2:=R7 v
  refine a9Z ⟨l,hM,?_⟩
  rw [hv]
  refine c7d hz hs e1 e2 hf.2.1 hf.2.2 (b7z hz e1 hf.2.1) (b7z hz e2 hf.2.2) g a 0 (hb.mono (by omega)) (by omega) (by omega) (a7b z _ _ ?_ h)
  exact hb.go (c0G (b0Q L u) (b0Q L v) a 0 g) (by omega)
 ·obtain rfl:ts=[]:=List.length_eq_zero_iff.1 (by omega)
  obtain ⟨u,rfl⟩:=b4j (l:=us) (by omega)
  obtain ⟨y,rfl⟩:=b4j (l:=ys) (by omega)
  have e1:=hry.2 0 y u rfl rfl
  simp only [List.nil_append,List.cons_append,formTs,Bool.and_eq_true,cTs,a8x,a2u,List.length_cons,List.length_nil] at hf hb h1 hm
  simp only [List.nil_append,List.cons_append,List.map_cons] at h
  unfold lsN at h
  dsimp only at h
  have et:((vs++ws).map (loT L)).take vs.length=vs.map (loT L):=by rw [List.map_append,← List.length_map (f:=loT L),List.take_left'];rfl
  have ed:((vs++ws).map (loT L)).drop vs.length=ws.map (loT L):=by rw [List.map_append,← List.length_map (f:=loT L),List.drop_left'];rfl
  rw [if_neg n1,if_neg n2,if_pos q,et,ed] at h
  have c1:=R7 u
  have l1:=b7y (vs.map (loT L)) tg g
  generalize hy1:begG (vs.map (loT L)) tg g=r1 at h l1
  have l2:=b7y (ws.map (loT L)) tg r1.2
  generalize hy2:begG (ws.map (loT L)) tg r1.2=r2 at h l2
  have l3:=(b0Q L u).co a r1.1 r2.1 r2.2
  have l4:=b9K (d3V L vs) r1.1 tg ((loT L u).co a r1.1 r2.1 r2.2)
  have ba:Bd (4*cT u-1) r2.2:=hb.go (l1.trans l2) (by omega)
  have bb:Bd (4*cTs vs) ((loT L u).co a r1.1 r2.1 r2.2):=hb.go ((l1.trans l2).trans l3) (by omega)
  have bc:Bd (4*cTs ws) (blkG (vs.map (loT L)) r1.1 tg ((loT L u).co a r1.1 r2.1 r2.2)):=hb.go (((l1.trans l2).trans l3).trans l4) (by omega)
  have bd:Bd 1 r1.2:=hb.go l1 (by omega)
  refine b9S z g (fs:=vs.map (loT L)) (by rw [List.length_map];omega) tg b0 (by omega) ?_
  rw [hy1]
  refine b9S z r1.2 (fs:=ws.map (loT L)) (by rw [List.length_map];omega) tg bd.p0 bd.p1 ?_
  rw [hy2]
  refine ⟨by omega,by omega,y,hy.2 0 y rfl,b8L hz e1 hf.2.1 r2.2 _ _ _ _ ba (by omega) ?_⟩
  exact b6r hz1 hzl (λi x t hx ht=>ih1 i x t hx ht (b9T hf.2.2.1 ht)) _ _ _ bb (by omega) (b6r hw1 hwl (λi x t hx ht=>ih2 i x t hx ht (b9T hf.2.2.2 ht)) _ _ _ bc (by omega) h)
 ·obtain rfl:ts=[]:=List.length_eq_zero_iff.1 (by omega)
  obtain rfl:ws=[]:=List.length_eq_zero_iff.1 (by omega)
  obtain ⟨u,rfl⟩:=b4j (l:=us) (by omega)
  obtain ⟨y,rfl⟩:=b4j (l:=ys) (by omega)
  have e1:=hry.2 0 y u rfl rfl
  simp only [List.nil_append,List.append_nil,List.cons_append,formTs,Bool.and_eq_true,cTs,List.length_cons,List.length_nil] at hf hb h1 hm
  simp only [List.nil_append,List.append_nil,List.cons_append,List.map_cons] at h
  unfold lsN at h
  dsimp only at h
  rw [if_neg n1,if_neg n2,if_neg n3,if_pos q] at h
  have c1:=R7 u
  have l1:=b7y (vs.map (loT L)) a g
  generalize hy1:begG (vs.map (loT L)) a g=r1 at h l1
  have l3:=(b0Q L u).co a r1.1 tg r1.2
  have ba:Bd (4*cT u-1) r1.2:=hb.go l1 (by omega)
  have bb:Bd (4*cTs vs) ((loT L u).co a r1.1 tg r1.2):=hb.go (l1.trans l3) (by omega)
  refine b9S z g (fs:=vs.map (loT L)) (by rw [List.length_map];omega) a b0 (by omega) ?_
  rw [hy1]
  refine ⟨by omega,by omega,y,hy.2 0 y rfl,b8L hz e1 hf.2.1 r1.2 _ _ _ _ ba (by omega) ?_⟩
  exact b6r hz1 hzl (λi x t hx ht=>ih1 i x t hx ht (b9T hf.2.2 ht)) _ _ _ bb (by omega) h
 ·obtain rfl:ts=[]:=List.length_eq_zero_iff.1 (by omega)
  obtain rfl:vs=[]:=List.length_eq_zero_iff.1 (by omega)
  obtain rfl:ws=[]:=List.length_eq_zero_iff.1 (by omega)
  obtain ⟨u,rfl⟩:=b4j (l:=us) (by omega)
  obtain ⟨y,rfl⟩:=b4j (l:=ys) (by omega)
  have e1:=hry.2 0 y u rfl rfl
  simp only [List.append_nil,formTs,Bool.and_true,cTs,List.length_cons,List.length_nil] at hf hb h1 hm
  simp only [List.append_nil,List.map_cons,List.map_nil] at h
  unfold lsN at h
  dsimp only at h
  rw [if_neg n1,if_neg n2,if_neg n3,if_neg n4,if_pos q] at h
  have c1:=R7 u
  have l1:=(a9W g).trans (a9W (frG g))
  have l2:=l1.trans ((b0Q L u).co a g.p (g.p+1) (frG (frG g)))
  refine a9y z g b0 (by omega) (a9y z (frG g) (by dsimp only;omega) (by dsimp only;omega) ⟨by omega,by omega,y,hy.2 0 y rfl,b8L hz e1 hf.2 (frG (frG g)) _ _ _ _ ?_ (by omega) (a9Z (a7b z _ _ ?_ (a9Z (a7b z _ _ ?_ h))))⟩)
  ·exact hb.go l1 (by omega)
  ·exact hb.go l2 (by omega)
  ·exact hb.go (l2.trans (a7Q ..)) (by omega)
 ·obtain rfl:ts=[]:=List.length_eq_zero_iff.1 (by omega)
  obtain rfl:vs=[]:=List.length_eq_zero_iff.1 (by omega)
  obtain rfl:ws=[]:=List.length_eq_zero_iff.1 (by omega)
  obtain ⟨u,rfl⟩:=b4j (l:=us) (by omega)
  obtain ⟨y,rfl⟩:=b4j (l:=ys) (by omega)
  have e1:=hry.2 0 y u rfl rfl
  simp only [List.append_nil,formTs,Bool.and_true,cTs,List.length_cons,List.length_nil] at hf hb h1 hm
  simp only [List.append_nil,List.map_cons,List.map_nil] at h
  unfold lsN at h
  dsimp only at h
  rw [if_neg n1,if_neg n2,if_neg n3,if_neg n4,if_neg n5,if_pos q,hz.ex] at h
  exact ⟨by omega,by omega,y,hy.2 0 y rfl,b8L hz e1 hf.2 g _ _ _ _ (hb.mono (by omega)) (by omega) h⟩
 ·obtain rfl:us=[]:=List.length_eq_zero_iff.1 (by omega)
  obtain rfl:ts=[]:=List.length_eq_zero_iff.1 (by omega)
  obtain rfl:vs=[]:=List.length_eq_zero_iff.1 (by omega)
  obtain rfl:ws=[]:=List.length_eq_zero_iff.1 (by omega)
  exact a9Z (a7b z g _ (hb.mono (by omega)) h)
end
open Go.Proofs.Tryz Go.RowKit
def mapU(xs:List BA)(i:Nat):List (BA×Int):=(List.range i).foldl (λm j=>b3I (xs.getD j ⟨#[]⟩) (j:Int) m) []
theorem b9U(xs:List BA)(i:Nat):mapU xs (i+1)=b3I (xs.getD i ⟨#[]⟩) (i:Int) (mapU xs i):=by
 unfold mapU;rw [List.range_succ,List.foldl_append];rfl
def idx(xs:List BA)(s:BA):Int:=(lk s (mapU xs xs.length)).getD 0
def vN(q:PP):List BA:=(ofS q 1).map (·.o7)
def aN(q:PP):List BA:=(ofS q 2).map (·.o7)
def exS(q:PP):Int:=if q.body=[] then 0 else 1
def enS(q:PP):En:=⟨(vN q).length,idx (vN q),idx (aN q),exS q⟩
def loS(q:PP):Gr:=blkG (q.body.map (loT (enS q))) 0 (exS q) ⟨1+exS q,0,[]⟩
def loE(q:PP):Int:=if (wellS q).2≠0 then (wellS q).2 else if (64:Int) < (enS q).nv+(loS q).t then 90 else if 4096 < (loS q).p\/(8192:Int) < (loS q).es.length then 91 else 0
theorem d4w{P:Program}{E:Pan}{w:World}{K:Value->World->Prop}{f:FuncId}{b args:List Value}(he:∀args w,(callFunc f args).run P w=.ok (.enter f args) w)(h:Cv P f (b++args).toArray w K E):opK P E (xCall (.func (.func f) b.toArray #[]) args) w K:=by
 refine a4p (f:=f) (args:=(b++args).toArray) ?_ h
 simp only [xCall,Deferred.ofValue,invoke,Sem.run_bind,Sem.run_pure,Result.andThen_ok,he,Array.append_empty,List.append_toArray]
abbrev rp(g:Nat):Value:=.pointer (some ⟨g,0,none⟩)
abbrev cz:s6:=⟨⟨none,0,0⟩,0,⟨none,0,0⟩,0,0,⟨none,0,0⟩⟩
def NewE(H H':Hp)(s:Sl)(es:List Ed):Prop:=∃F,RowL 43 10 p7 s es F/\(∀p∈F,H' p.1=some p.2)/\∀p∈F,H p.1=none
structure CfH (H H':Hp) (q:PP) (c:s6):Prop where
 v:SlH H' 1 v7 c.E0 (vN q)
 a:SlH H' 2 q6 c.C1 (ofS q 2)
 e:NewE H H' c.E1 (loS q).es
 t:c.D7=(loS q).t
 p:c.i7=(loS q).p
 x:c.K8=exS q
section
variable {H:Hp}{w0 w:World}{ps0:Nat->Prop}{H0 Hc:Hp}{R:Value->World->Prop}{E:Pan}{q:PP}{p:o8}{K:s6->Int->Hp->Prop}
theorem e6Q(hq:cTs q.body<=4096):Bd (4*cTs q.body) ⟨1+exS q,0,[]⟩:=by
 have:0<=exS q/\exS q<=1:=by unfold exS;split<;>omega
 exact ⟨by dsimp only;omega,by dsimp only;omega,by simp;omega⟩
theorem d4x(hR:∀v H' Fo w',Inv w0 ps0 H0 H' Fo w'->(∃(r0:s6)(r1:Int),v=(Value.tuple #[(Value.agg (r9 r0).toArray),(vi r1)])/\Fo=[]/\K r0 r1 H')->R v w'){z:Lw}(hz:LwH Hc (enS q) z)(hp:PH Hc p q)(hl:Hle H Hc)
  (hwell:(wellS q).2=0) (hf:formTs q.body=true) (hq:cTs q.body<=4096) (hv:SlH Hc 1 v7 z.fc.E0 (vN q)) (ha:SlH Hc 2 q6 z.fc.C1 (ofS q 2)) (hvl:(vN q).length<=4096)
  (h1:loE q≠0->∀H',Hle Hc H'->K cz (loE q) H') (h2:loE q=0->∀c H',Hle Hc H'->CfH H H' q c->K c 0 H')
  {gk gc gb:Nat} {s0:Sl} {F0:Frag} (hr0:RowL 43 10 p7 s0 [] F0) (I:Inv w0 ps0 H0 Hc [bx gk 63 (A8 (lw z ⟨1+exS q,0,[]⟩) s0),F0,bx gc 31 (r9 cz),bx gb 25 (q7 p)] w):
  d0M (rp gb) (rp gc) (vs z.fc.E0) (rp gk) w R E:=by
 intro _
 refine c7 (Q7 _ _ _) (L6 I λw1 I1=>?_)
 refine g8 a7u (g8 (t7 _) ?_)
 refine g8 Y0 (g8 a5W ?_)
 refine s7 (l1 isAgg23 (I1.bring 3) rfl) (s7 (l1 isAgg3 I1 rfl) ?_)
 obtain ⟨xs,hs,hxb,hr⟩:=hp.b
 have hex:z.fc.K8=exS q:=hz.ex.symm
 have hlow:V6 (lw z ⟨1+exS q,0,[]⟩) [] p.a7s 0 z.fc.K8 Hc (λy es H'=>y=lw z (loS q)/\es=(loS q).es/\H'=Hc):=by
  rw [hex]
  exact b6r hs hr.1 (λi x t hx ht=>d6o hz (hr.2 i x t hx ht) (b9T hf ht)) ⟨1+exS q,0,[]⟩ 0 (exS q) (e6Q hq) (by omega) ⟨rfl,rfl,rfl⟩
 have hct:=hlow gk s0 F0 hr0
 clear hlow
 refine d4w (b:=[rp gk]) (args:=[vs p.a7s,vi 0,vi z.fc.K8]) (λargs w=>call15 args w) (a1y (QE:=noQE) (args:=[rp gk,vs p.a7s,vi 0,vi z.fc.K8]) (Fr:=[bx gc 31 (r9 cz),bx gb 25 (q7 p)]) I1 hct ?_ (λ_ _ _ _ _ q=>q.elim))
 rintro _ H2 Fo w2 I2 l2 k2 ⟨y,es,se,Fe,rfl,rfl,hrow,rfl,rfl,rfl⟩
 have hn:=hv.1
 have hnv:(enS q).nv=(z.fc.E0.n:Int):=hz.nv
 have hgl:Gl (4*cTs q.body) ⟨1+exS q,0,[]⟩ (loS q):=b9K (d3V (enS q) q.body) 0 (exS q) _
 refine c7 (a3T _ _ _) (c7 (t7 _) ?_)
 refine c7 Y0 (c7 a4G ?_)
 refine d7 (l1 isAgg3 I2 rfl) (c7 (A7 _ _ _ _ _ _) ?_)
 refine c7 (X3 _ _ _ _ _ _) ?_
 have htl:=c3a (e4N (enS q) q.body) 0 (exS q) ⟨1+exS q,0,[]⟩
 have ht0:0<=(loS q).t:=hgl.t
 have htb:(loS q).t<=4096:=by
  have:(loS q).t<=0\/(loS q).t<=(cTs q.body:Int):=htl
  omega
 have et:IntKind.wrap .i64 ((z.fc.E0.n:Int)+(lw z (loS q)).fc.D7)=(enS q).nv+(loS q).t:=by
  rw [hnv]
  exact S3 (a:=(z.fc.E0.n:Int)+(loS q).t) ⟨by omega,by omega⟩
 rw [et]
 refine X2 (λc=>?_) (λc=>?_)
 ·have e:loE q=90:=by unfold loE;rw [if_neg (by omega),if_pos c]
  refine c7 b9n (v8 (I2.bring 2) sizeOf31 (vs:=r9 cz) λw3 I3 _=>?_)
  refine D9 isAgg31 sizeOf31 rfl I3 ?_
  have:=h1 (by rw [e];decide) _ (Hle.refl _)
  rw [e] at this
  exact hR _ _ _ _ I3.drop.drop.drop.drop ⟨cz,90,rfl,rfl,this⟩
 refine c7 (t7 _) (c7 Y0 ?_)
 refine c7 O6 (d7 (l1 isAgg3 I2 rfl) ?_)
 refine c7 (X3 _ _ _ _ _ _) ?_
 have bad:4096 < (loS q).p\/(8192:Int) < (loS q).es.length->∀w3,Inv w0 ps0 H0 H2 [bx gk 63 (A8 (lw z (loS q)) se),Fe,bx gc 31 (r9 cz),bx gb 25 (q7 p)] w3->
   opK Tryz.prog E (xV (Instr.build 31 #[])) w3 λbh bi=>opK Tryz.prog E (xU (Instr.storeAt 31 (rp gc) bh)) bi λ_ j=>xcell Tryz.prog 31 (rp gc) j λbj=>R (Value.tuple #[bj,Value.int IntKind.i64 91]) j:=λhb w3 I3=>by
  have e:loE q=91:=by unfold loE;rw [if_neg (by omega),if_neg c,if_pos hb]
  refine c7 b9n (v8 (I3.bring 2) sizeOf31 (vs:=r9 cz) λw4 I4 _=>?_)
  refine D9 isAgg31 sizeOf31 rfl I4 ?_
  have:=h1 (by rw [e];decide) _ (Hle.refl _)
  rw [e] at this
  exact hR _ _ _ _ I4.drop.drop.drop.drop ⟨cz,91,rfl,rfl,this⟩
 by_cases c2:4096 < (loS q).p
 ·rw [show decide (4096 < (lw z (loS q)).fc.i7)=true from decide_eq_true c2]
  exact a9C (λh=>nomatch h) λ_=>a9C (λh=>nomatch h) λ_=>a9C (λh=>nomatch h) λ_=>a9C (λh=>nomatch h) λ_=>a9C (λh=>nomatch h) λ_=>a9C (λh=>nomatch h) λ_=>c7 (c0d true _ _) (Z5 (λ_=>bad (.inl c2) _ I2) (λh=>nomatch h))
 ·rw [show decide (4096 < (lw z (loS q)).fc.i7)=false from decide_eq_false c2]
  refine a9C (λ_=>c7 (t7 _) ?_) (λh=>absurd rfl h)
  refine a9C (λ_=>c7 Y0 ?_) (λh=>absurd rfl h)
  refine a9C (λ_=>c7 X9 ?_) (λh=>absurd rfl h)
  refine a9C (λ_=>d7 (l1 isAgg29 I2 rfl) ?_) (λh=>absurd rfl h)
  refine a9C (λ_=>c7 (a4E underlying29 hrow) ?_) (λh=>absurd rfl h)
  refine a9C (λ_=>c7 (X3 _ _ _ _ _ _) ?_) (λh=>absurd rfl h)
  refine c7 (c0d false _ _) (X2 (λc3=>bad (.inr c3) _ I2) (λc3=>?_))
  have e:loE q=0:=by unfold loE;rw [if_neg (by omega),if_neg c,if_neg (by omega)]
  refine c7 (t7 _) (c7 Y0 ?_)
  refine d7 (ldA (vs:=r9 ⟨z.fc.E0,(loS q).t,z.fc.C1,(loS q).p,z.fc.K8,se⟩) isAgg31 sizeOf31 rfl (I2.at1 (o:=0) (nb rfl) rfl)) (v8 (I2.bring 2) sizeOf31 (vs:=r9 ⟨z.fc.E0,(loS q).t,z.fc.C1,(loS q).p,z.fc.K8,se⟩) λw3 I3 _=>?_)
  refine D9 isAgg31 sizeOf31 rfl I3 ?_
  have I4:=((I3.drop.drop).bring 1).drop
  have hfz:=I4.freeze
  have hpr:∀x∈Fe,H x.1=none:=λx hx=>by
   cases hH:H x.1 with
   | none=>rfl
   | some o=>
    have:=I4.priv x (by simpa using hx)
    rw [hl _ _ hH] at this;cases this
  exact hR _ _ _ _ hfz.1 ⟨⟨z.fc.E0,(loS q).t,z.fc.C1,(loS q).p,z.fc.K8,se⟩,0,rfl,rfl,h2 e _ _ hfz.2.1 ⟨hv.le hfz.2.1,ha.le hfz.2.1,⟨Fe,hrow,hfz.2.2,hpr⟩,rfl,rfl,hex⟩⟩
abbrev zx(sv sa:Sl)(gm gn:Nat)(x:Int):Lw:=⟨⟨sv,0,sa,1,x,⟨none,0,0⟩⟩,some gm,some gn⟩
theorem e5q(hR:∀v H' Fo w',Inv w0 ps0 H0 H' Fo w'->(∃(r0:s6)(r1:Int),v=(Value.tuple #[(Value.agg (r9 r0).toArray),(vi r1)])/\Fo=[]/\K r0 r1 H')->R v w'){sv sa:Sl}{gm gn:Nat}(hz:LwH Hc (enS q) (zx sv sa gm gn (exS q)))(hp:PH Hc p q)(hl:Hle H Hc)
  (hwell:(wellS q).2=0) (hf:formTs q.body=true) (hq:cTs q.body<=4096) (hv:SlH Hc 1 v7 sv (vN q)) (ha:SlH Hc 2 q6 sa (ofS q 2)) (hvl:(vN q).length<=4096)
  (h1:loE q≠0->∀H',Hle Hc H'->K cz (loE q) H') (h2:loE q=0->∀c H',Hle Hc H'->CfH H H' q c->K c 0 H')
  {gk gc gb:Nat} (I:Inv w0 ps0 H0 Hc [bx gk 63 (A8 (zx sv sa gm gn 0) ⟨none,0,0⟩),bx gc 31 (r9 cz),bx gb 25 (q7 p)] w):
  d0N (rp gb) (rp gc) (vs sv) (rp gk) w R E:=by
 intro _
 refine u7 λj3 hx3=>?_
 obtain ⟨xs,hs,hxb,hr⟩:=hp.b
 have hn:=hs.1
 have hrl:=hr.1
 refine c7 a7u (d7 (l1 isAgg23 (I.bring 2) rfl) ?_)
 refine c7 (a1P _ _ _) (c7 (X3 _ _ _ _ _ _) ?_)
 refine X2 (λc=>?_) (λc=>?_)
 ·have hne:q.body≠[]:=λe=>by rw [e] at hrl;simp at hrl;rw [hrl] at hn;simp at hn;omega
  have ex1:exS q=1:=by unfold exS;rw [if_neg hne]
  have hlow:M1 (lw (zx sv sa gm gn 0) ⟨1,0,[]⟩) [] Hc (λr y es H'=>r=1/\y=lw (zx sv sa gm gn 0) ⟨2,0,[]⟩/\es=[]/\H'=Hc):=
   a9y (zx sv sa gm gn 0) ⟨1,0,[]⟩ (by decide) (by decide) ⟨rfl,rfl,rfl,rfl⟩
  refine f7 (Fr:=[bx gc 31 (r9 cz),bx gb 25 (q7 p)]) call14 (hlow gk ⟨none,0,0⟩ [] (RowL.nil a7U a7V)) (I.nil.bring 1) ?_
  rintro _ H2 Fo w2 I2 l2 k2 ⟨r,y,es,se,Fe,rfl,rfl,hrow,rfl,rfl,rfl,rfl⟩
  refine c7 (t7 _) (c7 Y0 ?_)
  refine c7 a5W (K0 I2 sizeOf3 λw3 I3 _=>?_)
  refine hx3 _ _ (d4x hR (z:=zx sv sa gm gn (exS q)) hz hp hl hwell hf hq hv ha hvl h1 h2 hrow ?_)
  rw [ex1]
  exact I3
 ·have hne:q.body=[]:=List.length_eq_zero_iff.1 (by omega)
  have ex1:exS q=0:=by unfold exS;rw [if_pos hne]
  refine hx3 _ _ (d4x hR (z:=zx sv sa gm gn (exS q)) hz hp hl hwell hf hq hv ha hvl h1 h2 (RowL.nil a7U a7V) ?_)
  rw [ex1]
  exact I.nil.bring 1
theorem e5r{sv sa:Sl}{gm gn:Nat}{x:Int}{H':Hp}(hn:sv.n=(vN q).length)(hb:(vN q).length<=4096)(hx:x=exS q)(hm:∃l,MapH H' kvS kvI (some gm) l/\l=mapU (vN q) (vN q).length)(hm2:∃l,MapH H' kvS kvI (some gn) l/\l=mapU (aN q) (aN q).length):LwH H' (enS q) (zx sv sa gm gn x):=by
 obtain ⟨l,h1,rfl⟩:=hm
 obtain ⟨l2,h2,rfl⟩:=hm2
 exact ⟨by show ((vN q).length:Int)=sv.n;rw [hn],by show sv.n<=1099511627776;omega,⟨_,h1,λs=>rfl⟩,⟨_,h2,λs=>rfl⟩,hx.symm⟩
theorem getD_map{α:Type}{f:α->BA}{l:List α}{i:Nat}{x:α}(h:l[i]? = some x):(l.map f).getD i ⟨#[]⟩=f x:=by
 rw [List.getD_eq_getElem?_getD,List.getElem?_map,h];rfl
theorem e5s(hR:∀v H' Fo w',Inv w0 ps0 H0 H' Fo w'->(∃(r0:s6)(r1:Int),v=(Value.tuple #[(Value.agg (r9 r0).toArray),(vi r1)])/\Fo=[]/\K r0 r1 H')->R v w'){sv sa:Sl}{gm gn:Nat}{en1:Array MapEntry}{cn1:Nat}(he1:MapEs kvS kvI en1 (mapU (vN q) (vN q).length))(hp:PH Hc p q)(hl:Hle H Hc)
  (hwell:(wellS q).2=0) (hf:formTs q.body=true) (hq:cTs q.body<=4096) (hv:SlH Hc 1 v7 sv (vN q)) (ha:SlH Hc 2 q6 sa (ofS q 2)) (hvl:(vN q).length<=4096) (hal:(ofS q 2).length<=4096)
  (h1:loE q≠0->∀H',Hle Hc H'->K cz (loE q) H') (h2:loE q=0->∀c H',Hle Hc H'->CfH H H' q c->K c 0 H')
  {gk gc gb:Nat} (I:Inv w0 ps0 H0 Hc [[(gn,.map #[] 0)],bx gk 63 (A8 (zx sv sa gm gn 0) ⟨none,0,0⟩),[(gm,.map en1 cn1)],bx gc 31 (r9 cz),bx gb 25 (q7 p)] w):
  d0O (rp gb) (rp gc) (vs sv) (vs sa) (rp gk) w R E:=by
 intro _
 refine u7 λj2 hx2=>?_
 have n1:=ha.1
 refine c7 (a3U _ _ _) ?_
 refine G6 (J:=λn l w'=>∃(i:Nat)(en:Array MapEntry)(cn:Nat),n=(ofS q 2).length-i/\l=[vi (i:Int)]/\i<=(ofS q 2).length/\Inv w0 ps0 H0 Hc [[(gn,.map en cn)],bx gk 63 (A8 (zx sv sa gm gn 0) ⟨none,0,0⟩),[(gm,.map en1 cn1)],bx gc 31 (r9 cz),bx gb 25 (q7 p)] w'/\MapEs kvS kvI en (mapU (aN q) i))
  ⟨_,0,_,_,rfl,rfl,Nat.zero_le _,I,MapEs.nil _ _⟩ ?_
 rintro n τ w5 next4 ⟨i,en,cn,rfl,hl5,hi,I5,hen⟩ hn4
 simp only [List.map_cons,List.map_nil,List.cons.injEq,and_true] at hl5
 simp only [hl5]
 refine c7 (D1 _ _ _ _ _ _) (X2 (λc=>?_) (λc=>?_))
 ·obtain ⟨x,hx,hE⟩:=ha.get (i:=(i:Int)) (by omega) (by omega)
  rw [Int.toNat_natCast] at hx
  obtain ⟨g,o,hga,hA⟩:=hE
  have hlt:=O1 hx
  refine c7 (a5l hga _ _ _ _ (by omega) (by omega)) (d7 (ldA (vs:=q6 x) isAgg65 sizeOf65 rfl (I5.atH hA)) ?_)
  refine r8 I5 zeroValue65 rfl λg6 w6 I6 k6=>v8 I6 sizeOf65 (vs:=q6 x) λw7 I7 k7=>L6 I7 λw8 I8=>g8 (t7 _) (g8 b7N ?_)
  refine g8 a3F (s7 (l1 isAgg61 (I8.bring 2) rfl) ?_)
  refine s7 (l1 isAgg9 I8 rfl) (b4V (kv:=kvS) (vv:=kvI) (keyS underlying9) underlying61 (I8.bring 1) hen x.o7 (i:Int) λes9 c9 w9 he9 I9 k9=>?_)
  refine c7 (A7 _ _ _ _ _ _) ?_
  rw [K7 (by omega) (by omega)]
  have I10:=(I9.bring 1).drop
  refine hn4 _ _ _ (by omega) ⟨i+1,es9,c9,rfl,rfl,by omega,I10,?_⟩
  rw [b9U,show (aN q).getD i ⟨#[]⟩=x.o7 from getD_map hx]
  exact he9
 ·obtain rfl:i=(ofS q 2).length:=by omega
  have f1:=I5.freeze
  have f2:=(f1.1.bring 1).freeze
  have l1:Hle Hc _:=f1.2.1.trans f2.2.1
  have hal2:(aN q).length=(ofS q 2).length:=by unfold aN;rw [List.length_map]
  have hm:MapH (addF (addF Hc [(gn,.map en cn)]) [(gm,.map en1 cn1)]) kvS kvI (some gm) (mapU (vN q) (vN q).length):=⟨gm,en1,cn1,rfl,f2.2.2 _ (List.mem_singleton_self _),he1⟩
  have hm2:MapH (addF (addF Hc [(gn,.map en cn)]) [(gm,.map en1 cn1)]) kvS kvI (some gn) (mapU (aN q) (aN q).length):=⟨gn,en,cn,rfl,f2.2.1 _ _ (f1.2.2 _ (List.mem_singleton_self _)),by rw [hal2];exact hen⟩
  refine hx2 _ _ (e5q hR (e5r (by rw [hv.1]) hvl rfl ⟨_,hm,rfl⟩ ⟨_,hm2,rfl⟩) (hp.le l1) (hl.trans l1) hwell hf hq (hv.le l1) (ha.le l1) hvl (λe H' l=>h1 e H' (l1.trans l)) (λe c' H' l=>h2 e c' H' (l1.trans l)) f2.1)
theorem c9Z{q:PP}(h:(wellS q).2=0):formTs q.body=true/\cTs q.body<=4096/\(ofS q 1).length<=4096/\(ofS q 2).length<=4096:=by
 have h1:=((b5Q q).1 h).1
 have h2:=(c1M _).1 h1
 have hn:cTs (q.decls.map dT)+cTs q.body=cTs q.nodes:=by unfold PP.nodes;rw [a8x]
 have h3:formTs (q.decls.map dT++q.body)=true:=h2.2.2.1
 rw [a2u,Bool.and_eq_true] at h3
 have h4:=b4Y (q.decls.map dT)
 rw [List.length_map] at h4
 have:=c6Y q 1;have:=c6Y q 2
 exact ⟨h3.2,by omega,by omega,by omega⟩
theorem c1Z(hT:TabsH H)(hp:PH H p q)(hsm:q.Sm)(h1:loE q≠0->∀H',Hle H H'->K cz (loE q) H')(h2:loE q=0->∀c H',Hle H H'->CfH H H' q c->K c 0 H'):a5Y p H K:=by
 refine Ct.of λw0 w ps0 H0 R E I hR=>e5U (D3 I rfl λgb w1 I1 k1=>?_)
 refine r8 I1 zeroValue31 rfl λgc w2 I2 k2=>d7 (lW isAgg25 sizeOf25 rfl (I2.bring 1)) (f7 (Fi:=[]) call12 (e0K hT hp hsm (K:=λs e H'=>Hle H H'/\SlH H' 1 v7 s (vN q)/\e=(wellS q).2) λs H' l hs=>⟨l,hs,rfl⟩) I2 ?_)
 rintro _ H3 Fo w3 I3 l3 k3 ⟨sv,e,rfl,rfl,l3',hsv,rfl⟩
 refine c7 (m7 _ _ _ rfl) (c7 (m7 _ _ _ rfl) ?_)
 refine c7 (O4 _ _ _ _ _ _) (b0R (λc=>?_) (λc=>?_))
 ·have e:loE q=(wellS q).2:=by unfold loE;rw [if_pos c]
  refine c7 b9n (v8 I3 sizeOf31 (vs:=r9 cz) λw4 I4 _=>?_)
  refine D9 isAgg31 sizeOf31 rfl I4 ?_
  have:=h1 (by rw [e];exact c) H3 l3
  rw [e] at this
  exact hR _ _ _ _ I4.drop.drop ⟨cz,_,rfl,rfl,this⟩
 obtain ⟨hf,hq,hvl,hal⟩:=c9Z c
 have hvl':(vN q).length<=4096:=by unfold vN;rw [List.length_map];exact hvl
 refine d7 (lW isAgg25 sizeOf25 rfl (I3.bring 1)) (f7 (Fi:=[]) call13 (d3U (hT.le l3) (hp.le l3) hsm (K:=λs e H'=>SlH H' 2 q6 s (ofS q 2)) λs H' l hs=>hs) I3 ?_)
 rintro _ H4 Fo w4 I4 l4 k4 ⟨sa,e,rfl,rfl,hsa⟩
 refine c7 (m7 _ _ _ rfl) (c7 (m7 _ _ _ rfl) ?_)
 refine c7 (c2o _ _ _ _ _ _ _) (c0h I4 λgm w5 I5 k5=>?_)
 refine c0h I5 λgn w6 I6 k6=>c7 (v:=Value.agg (A8 (zx sv sa gm gn 0) ⟨none,0,0⟩).toArray) (Pu.ok λw=>by kernel_rfl) (D3 I6 rfl λgk w7 I7 k7=>?_)
 refine u7 λj1 hx1=>?_
 have hv4:=hsv.le l4
 have n1:=hv4.1
 refine c7 (a3T _ _ _) ?_
 refine G6 (J:=λn l w'=>∃(i:Nat)(en:Array MapEntry)(cn:Nat),n=(vN q).length-i/\l=[vi (i:Int)]/\i<=(vN q).length/\Inv w0 ps0 H0 H4 [bx gk 63 (A8 (zx sv sa gm gn 0) ⟨none,0,0⟩),[(gn,.map #[] 0)],[(gm,.map en cn)],bx gc 31 (r9 cz),bx gb 25 (q7 p)] w'/\MapEs kvS kvI en (mapU (vN q) i))
  ⟨_,0,_,_,rfl,rfl,Nat.zero_le _,I7,MapEs.nil _ _⟩ ?_
 rintro n τ w8 next5 ⟨i,en,cn,rfl,hl8,hi,I8,hen⟩ hn5
 simp only [List.map_cons,List.map_nil,List.cons.injEq,and_true] at hl8
 simp only [hl8]
 refine c7 (D1 _ _ _ _ _ _) (X2 (λc9=>?_) (λc9=>?_))
 ·obtain ⟨x,hx,hE⟩:=hv4.get (i:=(i:Int)) (by omega) (by omega)
  rw [Int.toNat_natCast] at hx
  obtain ⟨g,o,hga,hA⟩:=hE
  have hlt:=O1 hx
  refine c7 (b2h hga _ _ _ _ (by omega) (by omega)) (d7 (ld1 isAgg9 (I8.atH hA)) ?_)
  refine c7 (t7 _) (c7 b7M ?_)
  refine d7 (l1 isAgg61 I8 rfl) (b4V (kv:=kvS) (vv:=kvI) (keyS underlying9) underlying61 (I8.bring 2) hen x (i:Int) λes9 c9 w9 he9 I9 k9=>?_)
  refine c7 (A7 _ _ _ _ _ _) ?_
  rw [K7 (by omega) (by omega)]
  refine hn5 _ _ _ (by omega) ⟨i+1,es9,c9,rfl,rfl,by omega,(I9.bring 2).bring 2,?_⟩
  rw [b9U,show (vN q).getD i ⟨#[]⟩=x by rw [List.getD_eq_getElem?_getD,hx];rfl]
  exact he9
 ·obtain rfl:i=(vN q).length:=by omega
  exact hx1 _ _ (e5s hR hen (hp.le (l3.trans l4)) (l3.trans l4) c hf hq hv4 hsa hvl' hal (λe H' l=>h1 e H' ((l3.trans l4).trans l)) (λe c' H' l=>h2 e c' H' ((l3.trans l4).trans l)) (I8.bring 1))
end
end Go.Proofs.YthjlehnccgjpoaaGreatDoor
