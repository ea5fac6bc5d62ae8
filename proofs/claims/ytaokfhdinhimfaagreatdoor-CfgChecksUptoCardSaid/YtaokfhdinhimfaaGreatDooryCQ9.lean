/- Which names a program has; the document's check of a program, its size, its names. The law TreeChecks. -/
import Derived.Test.YtaokfhdinhimfaaGreatDooryCQ8
namespace Go.Proofs.YtaokfhdinhimfaaGreatDoor
open Go.RowKit
set_option maxRecDepth 100000
set_option maxHeartbeats 2000000
def namL(l:Lab):List ByteArray:=if (nameL l).2=true then [(nameL l).1] else []
mutual
def nT:PT→List ByteArray
 | .mk l cs=>namL l++nTs cs
def nTs:List PT→List ByteArray
 | []=>[]
 | t::ts=>nT t++nTs ts
end
def putAll(l:List ByteArray)(xs:List ByteArray):List ByteArray:=xs.foldl putS l
theorem b5m(l a b:List ByteArray):putAll l (a++b)=putAll (putAll l a) b:=by unfold putAll;rw [List.foldl_append]
theorem c3Z(v:V)(l:Lab)(d:Int)(h:(vMeet v l d).1=true):(vMeet v l d).2.ns=putAll v.ns (namL l):=by
 unfold vMeet at h ⊢
 unfold namL
 split at h
 ·cases h
 ·rename_i h1
  rw [if_neg h1]
  split at h
  ·cases h
  ·rename_i h2
   rw [if_neg h2]
   dsimp only
   split<;>rfl
mutual
theorem d0t:∀(t:PT)(d:Int)(v:V),(vT t d v).1=true→(vT t d v).2.ns=putAll v.ns (nT t)
 | .mk l cs,d,v=>by
  rw [vT,nT]
  by_cases hq:(vMeet v l d).1=true
  ·rw [if_pos hq]
   intro h
   rw [b9e cs (d+1) _ h,c3Z v l d hq,b5m]
  ·rw [if_neg hq];exact fun h=>(hq h).elim
theorem b9e:∀(ts:List PT)(d:Int)(v:V),(vTs ts d v).1=true→(vTs ts d v).2.ns=putAll v.ns (nTs ts)
 | [],d,v=>by rw [vTs,nTs];exact fun _=>rfl
 | t::ts,d,v=>by
  rw [vTs,nTs]
  by_cases hq:(vT t d v).1=true
  ·rw [if_pos hq]
   intro h
   rw [b9e ts d _ h,d0t t d v hq,b5m]
  ·rw [if_neg hq];exact fun h=>(hq h).elim
end
abbrev Us:=b4N
def useL:Lab→List Us
 | .decl _ _=>[]
 | .cond ..=>[]
 | .expr k _ s _=>if (decide (k=2)||decide (k=4))=true then [⟨s,decide (k=4)⟩] else []
 | .stmt k s _ _ _ _=>if (decide (k=1)||decide (k=2))=true then [⟨s,decide (k=2)⟩] else []
mutual
def uT:PT→List Us
 | .mk l cs=>useL l++uTs cs
def uTs:List PT→List Us
 | []=>[]
 | t::ts=>uT t++uTs ts
end
theorem b3J:∀a b:List PT,uTs (a++b)=uTs a++uTs b
 | [],b=>by rw [List.nil_append,uTs,List.nil_append]
 | t::a,b=>by rw [List.cons_append,uTs,uTs,b3J a b,List.append_assoc]
theorem c2M{ts:List PT}{i:Nat}{t:PT}(h:ts[i]? = some t):uTs (ts.take (i+1))=uTs (ts.take i)++uT t:=by
 rw [J0 h,b3J,uTs,uTs,List.append_nil]
theorem c9n(ts:List PT)(i:Nat):(uTs (ts.take i)).length≤(uTs ts).length:=by
 have:=b3J (ts.take i) (ts.drop i)
 rw [List.take_append_drop] at this
 rw [this,List.length_append];omega
theorem d0u{ts:List PT}{i:Nat}{t:PT}(h:ts[i]? = some t):(uTs (ts.take i)).length+(uT t).length≤(uTs ts).length:=by
 have:=c9n ts (i+1)
 rw [c2M h,List.length_append] at this;exact this
mutual
def cT:PT→Nat
 | .mk _ cs=>1+cTs cs
def cTs:List PT→Nat
 | []=>0
 | t::ts=>cT t+cTs ts
end
theorem b1o:∀a b:List PT,cTs (a++b)=cTs a+cTs b
 | [],b=>by rw [List.nil_append,cTs,Nat.zero_add]
 | t::a,b=>by rw [List.cons_append,cTs,cTs,b1o a b,Nat.add_assoc]
theorem c4a(l:Lab):(useL l).length≤1:=by
 cases l<;>simp only [useL]<;>(try split)<;>simp
mutual
theorem c9o:∀t:PT,(uT t).length≤cT t
 | .mk l cs=>by rw [uT,cT,List.length_append];have:=c4a l;have:=b6m cs;omega
theorem b6m:∀ts:List PT,(uTs ts).length≤cTs ts
 | []=>by rw [uTs,cTs];exact Nat.le_refl _
 | t::ts=>by rw [uTs,cTs,List.length_append];have:=c9o t;have:=b6m ts;omega
end
mutual
theorem c2N:∀(t:PT)(d:Int)(s:W),(wT t d s).fbad=0→(wT t d s).fn=s.fn+cT t
 | .mk l cs,d,s,h=>by
  rw [wT] at h ⊢
  rw [b6n cs _ _ h,cT]
  have hb:(wStep s d).fbad=0:=by
   by_cases hq:(wStep s d).fbad=0
   ·exact hq
   ·rw [a6v _ _ _ hq] at h;exact h
  unfold wStep at hb ⊢
  split at hb
  ·rename_i h1
   rw [if_pos h1]
   split at hb
   ·cases hb
   ·rename_i h2
    rw [if_neg h2]
    split at hb
    ·cases hb
    ·rename_i h3
     rw [if_neg h3];dsimp only;omega
  ·rename_i h1;exact (h1 hb).elim
theorem b6n:∀(ts:List PT)(d:Int)(s:W),(wTs ts d s).fbad=0→(wTs ts d s).fn=s.fn+cTs ts
 | [],d,s,h=>by rw [wTs,cTs];simp
 | t::ts,d,s,h=>by
  rw [wTs] at h ⊢
  rw [b6n ts _ _ h,cTs]
  have hb:(wT t d s).fbad=0:=by
   by_cases hq:(wT t d s).fbad=0
   ·exact hq
   ·rw [a6v _ _ _ hq] at h;exact h
  rw [c2N t d s hb];omega
end
theorem c6x{ts:List PT}(h:(wTs ts 1 w0S).fbad=0):cTs ts≤4096:=by
 have h1:=b6n ts 1 w0S h
 have h2:=(b9a ts 1 w0S d0s).2
 have h3:w0S.fn=0:=rfl
 omega
inductive Nd:PT→Prop
 | mk {l:Lab} {cs:List PT}:(∀z s,l≠.decl z s)→(∀t∈cs,Nd t)→Nd (.mk l cs)
theorem b0l{α:Type}{R:α→PT→Prop}{xs:List α}{ts:List PT}(hl:xs.length=ts.length)(h:∀(i:Nat)(x:α)(t:PT),xs[i]? = some x→ts[i]? = some t→Nd t):∀t∈ts,Nd t:=fun t ht=>by
 obtain ⟨i,hi⟩:=List.mem_iff_getElem?.1 ht
 obtain ⟨x,hx⟩:=A6 (l:=xs) (i:=i) (by rw [hl];exact M3 hi)
 exact h i x t hx hi
theorem b5n{a b:List PT}(ha:∀t∈a,Nd t)(hb:∀t∈b,Nd t):∀t∈a++b,Nd t:=fun t h=>(List.mem_append.1 h).elim (ha t) (hb t)
theorem EH.nd{H:Hp}{e:q8}{t:PT}(h:EH H e t):Nd t:=by
 induction h with
 | mk hs hb hl _ ih=>exact .mk (fun z s e=>by cases e) (b0l (R:=EH H) hl ih)
theorem CH.nd{H:Hp}{e:v2}{t:PT}(h:CH H e t):Nd t:=by
 induction h with
 | mk hs hb hr hc hcb hl _ ih=>exact .mk (fun z s e=>by cases e) (b5n (b0l (R:=EH H) hr.1 fun i x t a b=>(hr.2 i x t a b).nd) (b0l (R:=CH H) hl ih))
theorem SH.nd{H:Hp}{e:u5}{t:PT}(h:SH H e t):Nd t:=by
 induction h with
 | mk hs hb hr hc hcb hcr ha hab hal _ hbs hbb hbl _ ih1 ih2=>
  exact .mk (fun z s e=>by cases e) (b5n (b0l (R:=CH H) hcr.1 fun i x t a b=>(hcr.2 i x t a b).nd) (b5n (b0l (R:=EH H) hr.1 fun i x t a b=>(hr.2 i x t a b).nd) (b5n (b0l (R:=SH H) hal ih1) (b0l (R:=SH H) hbl ih2))))
section
variable {H:Hp}
theorem c4b{s s':Sl}{xs:List ByteArray}(h1:SlH H 1 y9 s xs)(h2:SlH H 1 y9 s' xs)(hb:xs.length≤big){K:Bool→Hp→Prop}(h:K true H):a2B s s' H K:=by
 refine a9t _ _ ?_
 unfold a2W
 have n1:=h1.1;have n2:=h2.1
 refine ⟨fun e=>by omega,fun _=>?_⟩
 refine G9 (fun(i:Int) H'=>0≤i∧i≤xs.length∧H'=H) (fun i=>(xs.length-i).toNat) ⟨Int.le_refl _,by omega,rfl⟩ ?_
 rintro i H1 next ⟨i0,i1,rfl⟩ hn
 unfold a0O
 refine ⟨fun hq=>?_,fun hq=>?_⟩
 ·obtain ⟨x,hx,hE⟩:=h1.get i0 hq
  obtain ⟨y,hy,hF⟩:=h2.get i0 (show i < (s'.n:Int) by omega)
  rw [hx] at hy;cases hy
  refine ⟨i0,hq,x,hE,i0,by omega,x,hF,fun e=>(e rfl).elim,fun _=>?_⟩
  rw [v6 i0 (by simp only [big] at hb;omega)]
  exact hn _ _ ⟨by omega,by omega,rfl⟩ (by omega)
 ·unfold V2;exact h
theorem c4c{q:PP}(h:toldS q.nodes=0):(wTs q.nodes 1 w0S).fbad=0∧(allV q).1=true∧(allV q).2.n=(wTs q.nodes 1 w0S).fn∧(allV q).2.d=(wTs q.nodes 1 w0S).fdepth∧(allV q).2.ns=putAll [] (nTs q.nodes):=by
 have hb:(wTs q.nodes 1 w0S).fbad=0:=by
  unfold toldS at h
  by_cases hq:(wTs q.nodes 1 w0S).fbad=0
  ·exact hq
  ·rw [if_neg hq] at h;exact h
 have hs:=c5m q.nodes
 have hr:(allV q).1=true:=by
  cases hq:(allV q).1
  ·obtain ⟨h1,h2⟩:=hs.2 hq
   omega
  ·rfl
 obtain ⟨h1,_⟩:=hs.1 hr
 exact ⟨hb,hr,by rw [h1];rfl,by rw [h1];rfl,b9e q.nodes 1 v0 hr⟩
end
end Go.Proofs.YtaokfhdinhimfaaGreatDoor
