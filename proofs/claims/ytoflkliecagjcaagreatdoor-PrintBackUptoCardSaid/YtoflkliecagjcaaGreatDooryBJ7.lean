/- Printing, read back: statements, programs: the plain parser on a tree's tokens. Plain. -/
import Derived.Test.YtoflkliecagjcaaGreatDooryBJ6
namespace Go.Proofs.YtoflkliecagjcaaGreatDoor
open Go.RowKit
set_option maxRecDepth 100000
set_option maxHeartbeats 2000000
inductive XS:PT→Prop
 | asg (s:ByteArray) (e:PT):XE e→XS (sX 1 s [e] [] [] [])
 | sto (s:ByteArray) (i e:PT):XE i→XE e→XS (sX 2 s [i,e] [] [] [])
 | iff (c:PT) (th el:List PT):XC c→(∀t∈th,XS t)→(∀t∈el,XS t)→XS (sX 3 ⟨#[]⟩ [] [c] th el)
 | whl (c:PT) (th:List PT):XC c→(∀t∈th,XS t)→XS (sX 4 ⟨#[]⟩ [] [c] th [])
 | asr (c:PT):XC c→XS (sX 5 ⟨#[]⟩ [] [c] [] [])
 | asm (c:PT):XC c→XS (sX 6 ⟨#[]⟩ [] [c] [] [])
 | skp:XS (sX 7 ⟨#[]⟩ [] [] [] [])
abbrev wIf:ByteArray:=⟨#[105,102]⟩
abbrev wWh:ByteArray:=⟨#[119,104,105,108,101]⟩
abbrev wAr:ByteArray:=⟨#[97,115,115,101,114,116]⟩
abbrev wAm:ByteArray:=⟨#[97,115,115,117,109,101]⟩
abbrev wSk:ByteArray:=⟨#[115,107,105,112]⟩
abbrev wEl:ByteArray:=⟨#[101,108,115,101]⟩
def labQ:Lab→List (List Tok)→List (List Tok)→List Tok
 | .stmt k s e c t _,ts,ss=>
  if k=1 then wdT s 1::sgT [61]::(ts.headD []++[sgT [59]])
  else if k=2 then wdT s 1::sgT [91]::(ts.headD []++sgT [93]::sgT [61]::(ts.tail.headD []++[sgT [59]]))
  else if k=3 then wdT wIf 3::(ts.headD []++sgT [123]::(((ss.drop (c+e)).take t).flatten++sgT [125]::(if ss.length≤c+e+t then [] else wdT wEl 3::sgT [123]::((ss.drop (c+e+t)).flatten++[sgT [125]]))))
  else if k=4 then wdT wWh 3::(ts.headD []++sgT [123]::(((ss.drop (c+e)).take t).flatten++[sgT [125]]))
  else if k=5 then wdT wAr 3::(ts.headD []++[sgT [59]])
  else if k=6 then wdT wAm 3::(ts.headD []++[sgT [59]])
  else [wdT wSk 3,sgT [59]]
 | _,_,_=>[]
mutual
def tkZ:PT→List Tok
 | .mk l cs=>labQ l (tkTs cs) (tkZs cs)
def tkZs:List PT→List (List Tok)
 | []=>[]
 | t::ts=>tkZ t::tkZs ts
end
theorem b4s:∀ts:List PT,tkZs ts=ts.map tkZ
 | []=>rfl
 | t::ts=>by rw [tkZs,b4s ts];rfl
theorem b6m:∀ts:List PT,nds ts=ts.map nd
 | []=>rfl
 | t::ts=>by rw [nds,b6m ts];rfl
abbrev flS(ts:List PT):List Tok:=(ts.map tkZ).flatten
theorem b5t(s:ByteArray)(e:PT):tkZ (sX 1 s [e] [] [] [])=wdT s 1::sgT [61]::(tkT e++[sgT [59]]):=rfl
theorem b5u(s:ByteArray)(i e:PT):tkZ (sX 2 s [i,e] [] [] [])=wdT s 1::sgT [91]::(tkT i++sgT [93]::sgT [61]::(tkT e++[sgT [59]])):=rfl
theorem b5v(c:PT):tkZ (sX 5 ⟨#[]⟩ [] [c] [] [])=wdT wAr 3::(tkT c++[sgT [59]]):=rfl
theorem b5w(c:PT):tkZ (sX 6 ⟨#[]⟩ [] [c] [] [])=wdT wAm 3::(tkT c++[sgT [59]]):=rfl
theorem b5x:tkZ (sX 7 ⟨#[]⟩ [] [] [] [])=[wdT wSk 3,sgT [59]]:=rfl
theorem b5y(c:PT)(th:List PT):tkZ (sX 4 ⟨#[]⟩ [] [c] th [])=wdT wWh 3::(tkT c++sgT [123]::(flS th++[sgT [125]])):=by
 show labQ (.stmt 4 ⟨#[]⟩ 0 1 th.length 0) (tkTs (c::([]++(th++[])))) (tkZs (c::([]++(th++[]))))=_
 rw [b4s,tkTs,List.nil_append,List.append_nil]
 show wdT wWh 3::(tkT c++sgT [123]::(((((tkZ c::th.map tkZ).drop (1+0)).take th.length).flatten)++[sgT [125]]))=_
 rw [show (tkZ c::th.map tkZ).drop (1+0)=th.map tkZ from rfl,List.take_of_length_le (by rw [List.length_map];exact Nat.le_refl _)]
theorem b7F(c:PT)(th el:List PT):tkZ (sX 3 ⟨#[]⟩ [] [c] th el)=wdT wIf 3::(tkT c++sgT [123]::(flS th++sgT [125]::(if el=[] then [] else wdT wEl 3::sgT [123]::(flS el++[sgT [125]])))):=by
 show labQ (.stmt 3 ⟨#[]⟩ 0 1 th.length el.length) (tkTs (c::([]++(th++el)))) (tkZs (c::([]++(th++el))))=_
 rw [b4s,tkTs,List.nil_append]
 show wdT wIf 3::(tkT c++sgT [123]::((((((tkZ c::(th++el).map tkZ)).drop (1+0)).take th.length).flatten)++sgT [125]::(if (tkZ c::(th++el).map tkZ).length≤1+0+th.length then [] else wdT wEl 3::sgT [123]::(((tkZ c::(th++el).map tkZ).drop (1+0+th.length)).flatten++[sgT [125]]))))=_
 have e1:(tkZ c::(th++el).map tkZ).drop (1+0)=(th++el).map tkZ:=rfl
 have e2:(tkZ c::(th++el).map tkZ).drop (1+0+th.length)=el.map tkZ:=by
  rw [←List.drop_drop,e1,List.map_append,List.drop_left' (List.length_map _)]
 have e3:((tkZ c::(th++el).map tkZ).length≤1+0+th.length)↔el=[]:=by
  rw [List.length_cons,List.length_map,List.length_append,← List.length_eq_zero_iff];omega
 rw [e1,e2,List.map_append,List.take_left' (List.length_map _)]
 by_cases h:el=[]
 ·rw [if_pos (by rw [←List.map_append];exact e3.2 h),if_pos h]
 ·rw [if_neg (by rw [←List.map_append];exact fun q=>h (e3.1 q)),if_neg h]
theorem b4t{n:Nat}:∀l:List PT,(l.map nd).foldr max 0≤n↔∀t∈l,nd t≤n
 | []=>⟨fun _ t h=>(by cases h),fun _=>Nat.zero_le _⟩
 | t::l=>by
  rw [List.map_cons,List.foldr_cons,Nat.max_le,b4t l]
  simp
theorem b9l(s:ByteArray)(e:PT):nd (sX 1 s [e] [] [] [])=max (nd e) 1:=rfl
theorem b9m(s:ByteArray)(i e:PT):nd (sX 2 s [i,e] [] [] [])=max (nd i+1) (nd e):=rfl
theorem b9n(c:PT):nd (sX 5 ⟨#[]⟩ [] [c] [] [])=max (nd c) 1:=rfl
theorem b9o(c:PT):nd (sX 6 ⟨#[]⟩ [] [c] [] [])=max (nd c) 1:=rfl
theorem c2z{c:PT}{th el:List PT}{g:Nat}:nd (sX 3 ⟨#[]⟩ [] [c] th el)≤g+1↔nd c≤g+1∧(∀t∈th,nd t≤g)∧(∀t∈el,nd t≤g):=by
 show labD (.stmt 3 ⟨#[]⟩ 0 1 th.length el.length) ((c::([]++(th++el))).map kindT) (nds (c::([]++(th++el))))≤g+1↔_
 rw [b6m,List.nil_append]
 show max (max (nd c) 1) (((th++el).map nd).foldr max 0+1)≤g+1↔_
 rw [Nat.max_le,Nat.max_le,Nat.add_le_add_iff_right,b4t]
 constructor
 ·rintro ⟨⟨h1,_⟩,h2⟩
  exact ⟨h1,fun t ht=>h2 t (List.mem_append_left _ ht),fun t ht=>h2 t (List.mem_append_right _ ht)⟩
 ·rintro ⟨h1,h2,h3⟩
  exact ⟨⟨h1,by omega⟩,fun t ht=>(List.mem_append.1 ht).elim (h2 t) (h3 t)⟩
theorem c4R{c:PT}{th:List PT}{g:Nat}:nd (sX 4 ⟨#[]⟩ [] [c] th [])≤g+1↔nd c≤g+1∧(∀t∈th,nd t≤g):=by
 show labD (.stmt 4 ⟨#[]⟩ 0 1 th.length 0) ((c::([]++(th++[]))).map kindT) (nds (c::([]++(th++[]))))≤g+1↔_
 rw [b6m,List.nil_append,List.append_nil]
 show max (max (nd c) 1) ((th.map nd).foldr max 0+1)≤g+1↔_
 rw [Nat.max_le,Nat.max_le,Nat.add_le_add_iff_right,b4t]
 exact ⟨fun h=>⟨h.1.1,h.2⟩,fun h=>⟨⟨h.1,by omega⟩,h.2⟩⟩
inductive SF:Tok→Prop
 | w1 (s:ByteArray):SF (wdT s 1)
 | iff:SF (wdT wIf 3)
 | whl:SF (wdT wWh 3)
 | asr:SF (wdT wAr 3)
 | asm:SF (wdT wAm 3)
 | skp:SF (wdT wSk 3)
theorem a8p{t:PT}(h:XS t):∃k r,SF k∧tkZ t=k::r:=by
 cases h with
 | asg s e _=>exact ⟨_,_,.w1 s,b5t s e⟩
 | sto s i e _ _=>exact ⟨_,_,.w1 s,b5u s i e⟩
 | iff c th el _ _ _=>exact ⟨_,_,.iff,b7F c th el⟩
 | whl c th _ _=>exact ⟨_,_,.whl,b5y c th⟩
 | asr c _=>exact ⟨_,_,.asr,b5v c⟩
 | asm c _=>exact ⟨_,_,.asm,b5w c⟩
 | skp=>exact ⟨_,_,.skp,b5x⟩
theorem SF.el{k:Tok}(h:SF k)(r:List Tok):isT wEl (k::r)=false:=by cases h<;>rfl
theorem SF.cb{k:Tok}(h:SF k)(r:List Tok):isT ⟨#[125]⟩ (k::r)=false:=by cases h<;>rfl
theorem SF.eb{k:Tok}(h:SF k)(r:List Tok):endB (k::r)=false:=by cases h<;>rfl
theorem SF.vr{k:Tok}(h:SF k)(r:List Tok):(isT tVar (k::r)||isT tArr (k::r))=false:=by cases h<;>rfl
theorem SF.sb{k:Tok}(h:SF k)(r:List Tok):stmtB (k::r)=true:=by cases h<;>rfl
theorem d3A{ts:List PT}(h:∀t∈ts,XS t){rest:List Tok}(hr:isT wEl rest=false):isT wEl (flS ts++rest)=false:=by
 cases ts with
 | nil=>exact hr
 | cons t ts=>
  obtain ⟨k,r,h1,h2⟩:=a8p (h t (by simp))
  unfold flS
  rw [List.map_cons,List.flatten_cons,h2]
  exact h1.el _
theorem b6n:∀{ts:List PT},(∀t∈ts,XS t)→ts.length≤(flS ts).length
 | [],_=>Nat.le_refl _
 | t::ts,h=>by
  obtain ⟨k,r,h1,h2⟩:=a8p (h t (by simp))
  have:=b6n fun u hu=>h u (List.mem_cons_of_mem _ hu)
  unfold flS at this ⊢
  rw [List.map_cons,List.flatten_cons,h2,List.length_append,List.length_cons,List.length_cons]
  omega
section
variable {g:Nat}
def StR(g:Nat)(st:PM PT):Prop:=∀(t:PT),XS t→∀rest,isT wEl rest=false→Rs (nd t≤g) (st (tkZ t++rest)) t rest
theorem b4u{st:PM PT}{stop:List Tok→Bool}(hst:StR g st)(hsp:∀{k:Tok}(r:List Tok),SF k→stop (k::r)=false):∀(ts:List PT),(∀t∈ts,XS t)→∀(n:Nat)(l:List PT)(rest:List Tok),stop rest=true→isT wEl rest=false→ts.length≤n→Rs (∀t∈ts,nd t≤g) (stmtsF stop st n l (flS ts++rest)) (l++ts) rest
 | [],_,n,l,rest,hs,_,_=>by
  rw [List.append_nil]
  refine Rs.iff (b:=True) ?_ ⟨fun _ t h=>(by cases h),fun _=>trivial⟩
  cases n with
  | zero=>exact Rs.ok
  | succ n=>
   show Rs True (stmtsF stop st (n+1) l rest) l rest
   unfold stmtsF
   rw [if_pos hs]
   exact Rs.ok
 | t::ts,hx,n,l,rest,hs,he,hn=>by
  obtain ⟨n,rfl⟩:∃m,n=m+1:=⟨n-1,by rw [List.length_cons] at hn;omega⟩
  have hx2:∀u∈ts,XS u:=fun u hu=>hx u (List.mem_cons_of_mem _ hu)
  have e:flS (t::ts)++rest=tkZ t++(flS ts++rest):=by unfold flS;rw [List.map_cons,List.flatten_cons,List.append_assoc]
  obtain ⟨k,r,h1,h2⟩:=a8p (hx t (by simp))
  have hsf:stop (flS (t::ts)++rest)=false:=by rw [e,h2];exact hsp _ h1
  unfold stmtsF
  rw [hsf,e]
  show Rs _ (bindP st (fun s=>stmtsF stop st n (l++[s])) (tkZ t++(flS ts++rest))) _ _
  have ih:=b4u hst hsp ts hx2 n (l++[t]) rest hs he (by rw [List.length_cons] at hn;omega)
  rw [List.append_assoc,List.singleton_append] at ih
  exact (Rs.bind (f:=fun s=>stmtsF stop st n (l++[s])) (hst t (hx t (by simp)) _ (d3A hx2 he)) fun _=>ih).iff (by simp)
theorem b4v{st:PM PT}(hst:StR g st){ts:List PT}(hx:∀t∈ts,XS t)(rest:List Tok):Rs (∀t∈ts,nd t≤g) (blockOf st (sgT [123]::(flS ts++sgT [125]::rest))) ts rest:=by
 unfold blockOf
 refine Rs.c2y ?_
 refine (Rs.bind (f:=fun l r=>.ok (l,r.tail)) (r1:=sgT [125]::rest) (a:=ts) (c:=True) (p:=fun r=>stmtsF (isT ⟨#[125]⟩) st r.length [] r) (b4u hst (fun r h=>h.cb r) ts hx _ [] (sgT [125]::rest) rfl rfl ?_) fun _=>Rs.ok).iff (a3s _)
 have:=b6n hx
 rw [List.length_append]
 omega
theorem d3B(st sub ex co:PM PT)(s:ByteArray)(r:List Tok):stmtS st sub ex co (wdT s 1::sgT [61]::r)=bindP ex (fun e=>endS (sX 1 s [e] [] [] [])) r:=rfl
theorem d3C(st sub ex co:PM PT)(s:ByteArray)(r:List Tok):stmtS st sub ex co (wdT s 1::sgT [91]::r)=bindP sub (fun e=>bindP (mustP ⟨#[93]⟩) fun _=>setS 2 s [e] ex) r:=rfl
theorem d4A(st sub ex co:PM PT)(r:List Tok):stmtS st sub ex co (wdT wIf 3::r)=bindP co (fun c=>bindP (blockOf st) fun th r'=>if isT wEl r' then bindP (blockOf st) (fun el=>pureP (sX 3 ⟨#[]⟩ [] [c] th el)) r'.tail else .ok (sX 3 ⟨#[]⟩ [] [c] th [],r')) r:=rfl
theorem d3D(st sub ex co:PM PT)(r:List Tok):stmtS st sub ex co (wdT wWh 3::r)=bindP co (fun c=>bindP (blockOf st) fun th=>pureP (sX 4 ⟨#[]⟩ [] [c] th [])) r:=rfl
theorem d3E(st sub ex co:PM PT)(r:List Tok):stmtS st sub ex co (wdT wAr 3::r)=bindP co (fun c=>endS (sX 5 ⟨#[]⟩ [] [c] [] [])) r:=rfl
theorem d3F(st sub ex co:PM PT)(r:List Tok):stmtS st sub ex co (wdT wAm 3::r)=bindP co (fun c=>endS (sX 6 ⟨#[]⟩ [] [c] [] [])) r:=rfl
theorem d3G(st sub ex co:PM PT)(r:List Tok):stmtS st sub ex co (wdT wSk 3::r)=endS (sX 7 ⟨#[]⟩ [] [] [] []) r:=rfl
theorem b2D(t:PT)(rest:List Tok):Rs True (endS t (sgT [59]::rest)) t rest:=Rs.must
end
theorem NE.semi(r:List Tok):NE (sgT [59]::r):=NE.of (by decide) (by decide) (by decide) (by decide) (by decide) (by decide)
theorem NE.cur(r:List Tok):NE (sgT [123]::r):=NE.of (by decide) (by decide) (by decide) (by decide) (by decide) (by decide)
theorem XS.nd1{t:PT}(h:XS t):1≤nd t:=by
 cases h with
 | asg s e _=>rw [b9l];omega
 | sto s i e _ _=>rw [b9m];omega
 | iff c th el _ _ _=>exact Nat.le_trans (Nat.le_max_right _ _) (Nat.le_max_left _ _)
 | whl c th _ _=>exact Nat.le_trans (Nat.le_max_right _ _) (Nat.le_max_left _ _)
 | asr c _=>rw [b9n];omega
 | asm c _=>rw [b9o];omega
 | skp=>exact Nat.le_refl _
theorem b9p:∀g,StR g (stmtP g)
 | 0=>fun t ht rest hr=>by
  refine ⟨fun q=>by have:=ht.nd1;omega,fun _=>?_⟩
  obtain ⟨k,r,h1,h2⟩:=a8p ht
  rw [h2]
  exact a7N (h1.sb _)
 | g+1=>fun t ht rest hr=>by
  have ih:=b9p g
  show Rs _ (stmtS (stmtP g) (exprP g) (exprP (g+1)) (condP (g+1)) (tkZ t++rest)) t rest
  cases ht with
  | asg s e he=>
   rw [b5t,b9l,List.cons_append,List.cons_append,List.append_assoc,d3B]
   exact (Rs.bind (f:=fun e=>endS (sX 1 s [e] [] [] [])) (a9M (g+1) he (sgT [59]::rest) (NE.semi _)) fun _=>b2D _ _).iff (by rw [a3s];omega)
  | sto s i e hi he=>
   rw [b5u,b9m,List.cons_append,List.cons_append,List.append_assoc,d3C]
   refine (Rs.bind (a9M g hi (sgT [93]::(sgT [61]::(tkT e++[sgT [59]])++rest)) (NE.brk _)) fun _=>(?_:Rs (nd e≤g+1) _ _ _)).iff (by omega)
   refine Rs.c2y ?_
   show Rs _ (setS 2 s [i] (exprP (g+1)) (sgT [61]::((tkT e++[sgT [59]])++rest))) _ _
   unfold setS
   refine Rs.c2y ?_
   rw [List.append_assoc]
   exact (Rs.bind (f:=fun e=>endS (sX 2 s ([i]++[e]) [] [] [])) (a9M (g+1) he (sgT [59]::rest) (NE.semi _)) fun _=>b2D _ _).iff (a3s _)
  | iff c th el hc hth hel=>
   rw [b7F,List.cons_append,List.append_assoc,List.cons_append,List.append_assoc,List.cons_append,d4A]
   refine (Rs.bind (b1F (g+1) hc (sgT [123]::(flS th++sgT [125]::((if el=[] then [] else wdT wEl 3::sgT [123]::(flS el++[sgT [125]]))++rest))) (NE.cur _) (by rw [U5];decide) (by rw [U5];decide)) fun _=>(?_:Rs ((∀t∈th,nd t≤g)∧(∀t∈el,nd t≤g)) _ _ _)).iff c2z.symm
   refine Rs.bind (b4v ih hth _) fun _=>?_
   by_cases he:el=[]
   ·subst he
    rw [if_pos rfl,List.nil_append,hr]
    exact Rs.iff Rs.ok ⟨fun _ t h=>(by cases h),fun _=>trivial⟩
   ·rw [if_neg he,List.cons_append,List.cons_append,List.append_assoc]
    show Rs _ (bindP (blockOf (stmtP g)) (fun el=>pureP (sX 3 ⟨#[]⟩ [] [c] th el)) (sgT [123]::(flS el++sgT [125]::rest))) _ _
    exact (Rs.bind (b4v ih hel rest) fun _=>Rs.ok).iff (a3s _)
  | whl c th hc hth=>
   rw [b5y,List.cons_append,List.append_assoc,List.cons_append,List.append_assoc,d3D]
   refine (Rs.bind (b1F (g+1) hc (sgT [123]::(flS th++sgT [125]::rest)) (NE.cur _) (by rw [U5];decide) (by rw [U5];decide)) fun _=>(?_:Rs (∀t∈th,nd t≤g) _ _ _)).iff c4R.symm
   exact (Rs.bind (b4v ih hth rest) fun _=>Rs.ok).iff (a3s _)
  | asr c hc=>
   rw [b5v,b9n,List.cons_append,List.append_assoc,d3E]
   exact (Rs.bind (f:=fun c=>endS (sX 5 ⟨#[]⟩ [] [c] [] [])) (b1F (g+1) hc (sgT [59]::rest) (NE.semi _) (by rw [U5];decide) (by rw [U5];decide)) fun _=>b2D _ _).iff (by rw [a3s];omega)
  | asm c hc=>
   rw [b5w,b9o,List.cons_append,List.append_assoc,d3F]
   exact (Rs.bind (f:=fun c=>endS (sX 6 ⟨#[]⟩ [] [c] [] [])) (b1F (g+1) hc (sgT [59]::rest) (NE.semi _) (by rw [U5];decide) (by rw [U5];decide)) fun _=>b2D _ _).iff (by rw [a3s];omega)
  | skp=>
   rw [b5x,List.cons_append,d3G]
   exact (b2D _ rest).iff ⟨fun _=>by show 1≤g+1;omega,fun _=>trivial⟩
def dTk(d:i6):List Tok:=if d.D4=0 then [wdT tVar 3,wdT d.o8 1,sgT [59]] else [wdT tArr 3,wdT d.o8 1,sgT [91],nbT d.D4,sgT [93],sgT [59]]
abbrev eofT:Tok:=⟨5,⟨#[]⟩,0,p0⟩
def tkP(q:PP):List Tok:=(q.decls.map dTk).flatten++(flS q.body++[eofT])
theorem c6S(nm:ByteArray)(r:List Tok):declP false (wdT nm 1::sgT [59]::r)=.ok (⟨nm,0⟩,r):=rfl
theorem c6T(nm:ByteArray){z:Int}(h0:1≤z)(h1:z≤2147483647)(r:List Tok):declP true (wdT nm 1::sgT [91]::nbT z::sgT [93]::sgT [59]::r)=.ok (⟨nm,z⟩,r):=by
 have e:declP true (wdT nm 1::sgT [91]::nbT z::sgT [93]::sgT [59]::r)=if ((!decide ((2:Int)=2))||decide (z < 1))||decide (2147483647 < z) then wantE (nbT z::sgT [93]::sgT [59]::r) else .ok (⟨nm,z⟩,r):=rfl
 rw [e,decide_eq_true rfl,decide_eq_false (by omega),decide_eq_false (by omega)]
 rfl
theorem b9q:∀(ds:List i6),(∀d∈ds,0≤d.D4∧d.D4≤2147483647)→∀(n:Nat)(l:List i6)(rest:List Tok),(isT tVar rest||isT tArr rest)=false→ds.length≤n→declsF n l ((ds.map dTk).flatten++rest)=.ok (l++ds,rest)
 | [],_,n,l,rest,hr,_=>by
  rw [List.append_nil]
  cases n with
  | zero=>rfl
  | succ n=>
   show declsF (n+1) l rest=_
   unfold declsF
   rw [hr];rfl
 | d::ds,hd,n,l,rest,hr,hn=>by
  obtain ⟨n,rfl⟩:∃m,n=m+1:=⟨n-1,by rw [List.length_cons] at hn;omega⟩
  have ih:=b9q ds (fun x hx=>hd x (List.mem_cons_of_mem _ hx)) n (l++[d]) rest hr (by rw [List.length_cons] at hn;omega)
  rw [List.append_assoc,List.singleton_append] at ih
  obtain ⟨h0,h1⟩:=hd d (by simp)
  rw [List.map_cons,List.flatten_cons,List.append_assoc]
  unfold dTk
  obtain ⟨nm,z⟩:=d
  dsimp only at h0 h1 ih ⊢
  split
  ·rename_i c
   subst c
   show bindP (declP false) (fun d=>declsF n (l++[d])) (wdT nm 1::sgT [59]::((ds.map dTk).flatten++rest))=_
   unfold bindP
   rw [c6S]
   exact ih
  ·rename_i c
   show bindP (declP true) (fun d=>declsF n (l++[d])) (wdT nm 1::sgT [91]::nbT z::sgT [93]::sgT [59]::((ds.map dTk).flatten++rest))=_
   unfold bindP
   rw [c6T nm (by omega) h1]
   exact ih
theorem c9J(ds:List i6):ds.length≤((ds.map dTk).flatten).length:=by
 induction ds with
 | nil=>exact Nat.le_refl _
 | cons d ds ih=>
  rw [List.map_cons,List.flatten_cons,List.length_append,List.length_cons]
  have:1≤(dTk d).length:=by unfold dTk;split<;>simp
  omega
theorem c6U{α β:Type}{p:PM α}{f:α→PM β}{r r':List Tok}{a:α}(h:p r=.ok (a,r')):bindP p f r=f a r':=by unfold bindP;rw [h]
theorem c9K{q:PP}(hd:∀d∈q.decls,0≤d.D4∧d.D4≤2147483647)(hb:∀t∈q.body,XS t):Rs (∀t∈q.body,nd t≤40) (progP (tkP q)) q [eofT]:=by
 unfold progP
 have hf:(isT tVar (flS q.body++[eofT])||isT tArr (flS q.body++[eofT]))=false:=by
  cases hq:q.body with
  | nil=>rfl
  | cons t ts=>
   obtain ⟨k,r,h1,h2⟩:=a8p (hb t (by rw [hq];simp))
   unfold flS
   rw [List.map_cons,List.flatten_cons,h2]
   exact h1.vr _
 have h1:declsF (tkP q).length [] (tkP q)=.ok (q.decls,flS q.body++[eofT]):=b9q q.decls hd (tkP q).length [] _ hf (by unfold tkP;rw [List.length_append];have:=c9J q.decls;omega)
 rw [c6U (p:=fun r=>declsF r.length [] r) h1]
 refine (Rs.bind (f:=fun b=>pureP (⟨q.decls,b⟩:PP)) (p:=fun r=>stmtsF endB (stmtP 40) r.length [] r) (a:=q.body) (b4u (b9p 40) (fun r h=>h.eb r) q.body hb _ [] [eofT] rfl rfl ?_) fun _=>Rs.ok).iff (a3s _)
 have:=b6n hb
 rw [List.length_append]
 omega
end Go.Proofs.YtoflkliecagjcaaGreatDoor
