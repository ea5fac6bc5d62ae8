/- Which names a program has; the document's check of a program, its size, its names. The law TreeChecks. -/
import Derived.Test.YtaokfhdinhimfaaGreatDooryLQ8
namespace Go.Proofs.YtaokfhdinhimfaaGreatDoor
open Go.RowKit
set_option maxRecDepth 100000
set_option maxHeartbeats 2000000
def namL(l:Lab):List ByteArray:=if (nameL l).2=true then [(nameL l).1] else []
mutual
def nT:PT→List ByteArray
 | .mk l cs=>namL l++nTs cs
def nTs:List PT→List ByteArray
 | []=>[]
 | t::ts=>nT t++nTs ts
end
def putAll(l:List ByteArray)(xs:List ByteArray):List ByteArray:=xs.foldl putS l
theorem b6y(l a b:List ByteArray):putAll l (a++b)=putAll (putAll l a) b:=by unfold putAll;rw [List.foldl_append]
theorem c6j(v:V)(l:Lab)(d:Int)(h:(vMeet v l d).1=true):(vMeet v l d).2.ns=putAll v.ns (namL l):=by
 unfold vMeet at h ⊢
 unfold namL
 split at h
 ·cases h
 ·rename_i h1
  rw [if_neg h1]
  split at h
  ·cases h
  ·rename_i h2
   rw [if_neg h2]
   dsimp only
   split<;>rfl
mutual
theorem d2M:∀(t:PT)(d:Int)(v:V),(vT t d v).1=true→(vT t d v).2.ns=putAll v.ns (nT t)
 | .mk l cs,d,v=>by
  rw [vT,nT]
  by_cases hq:(vMeet v l d).1=true
  ·rw [if_pos hq]
   intro h
   rw [c0x cs (d+1) _ h,c6j v l d hq,b6y]
  ·rw [if_neg hq];exact fun h=>(hq h).elim
theorem c0x:∀(ts:List PT)(d:Int)(v:V),(vTs ts d v).1=true→(vTs ts d v).2.ns=putAll v.ns (nTs ts)
 | [],d,v=>by rw [vTs,nTs];exact fun _=>rfl
 | t::ts,d,v=>by
  rw [vTs,nTs]
  by_cases hq:(vT t d v).1=true
  ·rw [if_pos hq]
   intro h
   rw [c0x ts d _ h,d2M t d v hq,b6y]
  ·rw [if_neg hq];exact fun h=>(hq h).elim
end
abbrev Us:=d8
def useL:Lab→List Us
 | .decl _ _=>[]
 | .cond ..=>[]
 | .expr k _ s _=>if (decide (k=2)||decide (k=4))=true then [⟨s,decide (k=4)⟩] else []
 | .stmt k s _ _ _ _=>if (decide (k=1)||decide (k=2))=true then [⟨s,decide (k=2)⟩] else []
mutual
def uT:PT→List Us
 | .mk l cs=>useL l++uTs cs
def uTs:List PT→List Us
 | []=>[]
 | t::ts=>uT t++uTs ts
end
theorem a8G:∀a b:List PT,uTs (a++b)=uTs a++uTs b
 | [],b=>by rw [List.nil_append,uTs,List.nil_append]
 | t::a,b=>by rw [List.cons_append,uTs,uTs,a8G a b,List.append_assoc]
theorem c0y{ts:List PT}{i:Nat}{t:PT}(h:ts[i]? = some t):uTs (ts.take (i+1))=uTs (ts.take i)++uT t:=by
 rw [K9 h,a8G,uTs,uTs,List.append_nil]
theorem d1E(ts:List PT)(i:Nat):(uTs (ts.take i)).length≤(uTs ts).length:=by
 have:=a8G (ts.take i) (ts.drop i)
 rw [List.take_append_drop] at this
 rw [this,List.length_append];omega
theorem b3W{ts:List PT}{i:Nat}{t:PT}(h:ts[i]? = some t):(uTs (ts.take i)).length+(uT t).length≤(uTs ts).length:=by
 have:=d1E ts (i+1)
 rw [c0y h,List.length_append] at this;exact this
mutual
def cT:PT→Nat
 | .mk _ cs=>1+cTs cs
def cTs:List PT→Nat
 | []=>0
 | t::ts=>cT t+cTs ts
end
theorem a6q:∀a b:List PT,cTs (a++b)=cTs a+cTs b
 | [],b=>by rw [List.nil_append,cTs,Nat.zero_add]
 | t::a,b=>by rw [List.cons_append,cTs,cTs,a6q a b,Nat.add_assoc]
theorem c6k(l:Lab):(useL l).length≤1:=by
 cases l<;>simp only [useL]<;>(try split)<;>simp
mutual
theorem d1F:∀t:PT,(uT t).length≤cT t
 | .mk l cs=>by rw [uT,cT,List.length_append];have:=c6k l;have:=b5g cs;omega
theorem b5g:∀ts:List PT,(uTs ts).length≤cTs ts
 | []=>by rw [uTs,cTs];exact Nat.le_refl _
 | t::ts=>by rw [uTs,cTs,List.length_append];have:=d1F t;have:=b5g ts;omega
end
mutual
theorem c5c:∀(t:PT)(d:Int)(s:W),(wT t d s).fbad=0→(wT t d s).fn=s.fn+cT t
 | .mk l cs,d,s,h=>by
  rw [wT] at h ⊢
  rw [b7S cs _ _ h,cT]
  have hb:(wStep s d).fbad=0:=by
   by_cases hq:(wStep s d).fbad=0
   ·exact hq
   ·rw [a5g _ _ _ hq] at h;exact h
  unfold wStep at hb ⊢
  split at hb
  ·rename_i h1
   rw [if_pos h1]
   split at hb
   ·cases hb
   ·rename_i h2
    rw [if_neg h2]
    split at hb
    ·cases hb
    ·rename_i h3
     rw [if_neg h3];dsimp only;omega
  ·rename_i h1;exact (h1 hb).elim
theorem b7S:∀(ts:List PT)(d:Int)(s:W),(wTs ts d s).fbad=0→(wTs ts d s).fn=s.fn+cTs ts
 | [],d,s,h=>by rw [wTs,cTs];simp
 | t::ts,d,s,h=>by
  rw [wTs] at h ⊢
  rw [b7S ts _ _ h,cTs]
  have hb:(wT t d s).fbad=0:=by
   by_cases hq:(wT t d s).fbad=0
   ·exact hq
   ·rw [a5g _ _ _ hq] at h;exact h
  rw [c5c t d s hb];omega
end
theorem c2a{ts:List PT}(h:(wTs ts 1 w0S).fbad=0):cTs ts≤4096:=by
 have h1:=b7S ts 1 w0S h
 have h2:=(b1Y ts 1 w0S d2L).2
 have h3:w0S.fn=0:=rfl
 omega
inductive Nd:PT→Prop
 | mk {l:Lab} {cs:List PT}:(∀z s,l≠.decl z s)→(∀t∈cs,Nd t)→Nd (.mk l cs)
theorem b1Z{α:Type}{R:α→PT→Prop}{xs:List α}{ts:List PT}(hl:xs.length=ts.length)(h:∀(i:Nat)(x:α)(t:PT),xs[i]? = some x→ts[i]? = some t→Nd t):∀t∈ts,Nd t:=fun t ht=>by
 obtain ⟨i,hi⟩:=List.mem_iff_getElem?.1 ht
 obtain ⟨x,hx⟩:=A8 (l:=xs) (i:=i) (by rw [hl];exact v1 hi)
 exact h i x t hx hi
theorem b6z{a b:List PT}(ha:∀t∈a,Nd t)(hb:∀t∈b,Nd t):∀t∈a++b,Nd t:=fun t h=>(List.mem_append.1 h).elim (ha t) (hb t)
theorem EH.nd{H:Hp}{e:f8}{t:PT}(h:EH H e t):Nd t:=by
 induction h with
 | mk hs hb hl _ ih=>exact .mk (fun z s e=>by cases e) (b1Z (R:=EH H) hl ih)
theorem CH.nd{H:Hp}{e:j8}{t:PT}(h:CH H e t):Nd t:=by
 induction h with
 | mk hs hb hr hc hcb hl _ ih=>exact .mk (fun z s e=>by cases e) (b6z (b1Z (R:=EH H) hr.1 fun i x t a b=>(hr.2 i x t a b).nd) (b1Z (R:=CH H) hl ih))
theorem SH.nd{H:Hp}{e:i8}{t:PT}(h:SH H e t):Nd t:=by
 induction h with
 | mk hs hb hr hc hcb hcr ha hab hal _ hbs hbb hbl _ ih1 ih2=>
  exact .mk (fun z s e=>by cases e) (b6z (b1Z (R:=CH H) hcr.1 fun i x t a b=>(hcr.2 i x t a b).nd) (b6z (b1Z (R:=EH H) hr.1 fun i x t a b=>(hr.2 i x t a b).nd) (b6z (b1Z (R:=SH H) hal ih1) (b1Z (R:=SH H) hbl ih2))))
section
variable {H:Hp}
theorem uloop{ts:List PT}{out:List Us}{body:List Us×Int→Hp→(List Us×Int→Hp→Prop)→Prop}
  (hb:∀(i:Int)(cs:List Us)(next:List Us×Int→Hp→Prop),0≤i→i≤ts.length→cs=out++uTs (ts.take i.toNat)→(∀t,ts[i.toNat]? = some t→next (cs++uT t,i+1) H)→(ts.length≤i→cs=out++uTs ts)→body (cs,i) H next):TL ((out,0):List Us×Int) H body:=by
 refine Q6 (fun(q:List Us×Int) H'=>0≤q.2∧q.2≤ts.length∧H'=H∧q.1=out++uTs (ts.take q.2.toNat)) (fun q=>(ts.length-q.2).toNat) ⟨Int.le_refl _,by simp,rfl,by simp [uTs]⟩ ?_
 rintro ⟨cs,i⟩ H1 next ⟨i0,i1,rfl,hs⟩ hn
 dsimp only at i0 i1 hs ⊢
 refine hb i cs next i0 i1 hs (fun t ht=>?_) fun he=>?_
 ·have:=v1 ht
  refine hn _ _ ⟨by dsimp only;omega,by dsimp only;omega,rfl,?_⟩ (by dsimp only;omega)
  dsimp only
  rw [show (i+1).toNat=i.toNat+1 by omega,c0y ht,hs,List.append_assoc]
 ·rw [hs,List.take_of_length_le (by omega)]
theorem b8q{n:Nat}(h:n+1≤big){u:Us}:(n+([u]:List Us).length)*25≤140737488355328:=by
 simp only [big] at h;simp only [List.length_cons,List.length_nil];omega
theorem b5z{e:f8}{t:PT}(he:EH H e t){out:List Us}(hb:out.length+(uT t).length≤big){K:List Us→Hp→Prop}(h:K (out++uT t) H):U9 out e H K:=by
 induction he generalizing out K with
 | @mk e xs ts hs hxb hl _ ih=>
  refine a9A _ _ ?_
  rw [uT] at h hb
  rw [List.length_append] at hb
  have go:∀out':List Us,out'=out++useL (.expr e.c8 e.s7 e.f6 ts.length)→N5 out' e H K:=by
   rintro out' rfl
   unfold N5
   refine uloop (ts:=ts) fun i cs next i0 i1 hcs hn hf=>?_
   unfold Y6
   refine ⟨fun hc=>?_,fun hc=>?_⟩
   ·obtain ⟨x,hx,hE⟩:=hs.get i0 hc
    obtain ⟨t,ht⟩:=A8 (l:=ts) (i:=i.toNat) (by have:=v1 hx;omega)
    have:=b3W ht
    refine ⟨i0,hc,x,hE,ih _ x t hx ht (by rw [hcs,List.length_append,List.length_append];omega) ?_⟩
    rw [q6 i0 (by simp only [big] at hxb;have:=v1 hx;omega)]
    exact hn t ht
   ·rw [hf (by have:=hs.1;dsimp only at hc;omega)]
    unfold Y5
    rw [List.append_assoc];exact h
  unfold a2W
  refine ⟨fun hc=>⟨b8q (by simp only [useL,if_pos hc,List.length_cons,List.length_nil] at hb;omega),go _ ?_⟩,fun hc=>go _ ?_⟩
  ·simp only [useL,if_pos hc]
  ·simp only [useL];rw [if_neg (by rw [hc];decide),List.append_nil]
theorem c1f{e:j8}{t:PT}(he:CH H e t){out:List Us}(hb:out.length+(uT t).length≤big){K:List Us→Hp→Prop}(h:K (out++uT t) H):a0F out e H K:=by
 induction he generalizing out K with
 | @mk e xs ts ys us hs hxb hr hc hcb hcl _ ih=>
  refine a9B _ _ ?_
  rw [uT] at h hb
  change K (out++([]++uTs (ts++us))) H at h
  change out.length+([]++uTs (ts++us)).length≤big at hb
  rw [List.nil_append,a8G] at h hb
  rw [List.length_append] at hb
  have r0:=hr.1
  unfold a2X
  refine uloop (ts:=ts) fun i cs next i0 i1 hcs hn hf=>?_
  unfold Z1
  refine ⟨fun hq=>?_,fun hq=>?_⟩
  ·obtain ⟨x,hx,hE⟩:=hs.get i0 hq
   obtain ⟨t,ht⟩:=A8 (l:=ts) (i:=i.toNat) (by have:=v1 hx;omega)
   have:=b3W ht
   refine ⟨i0,hq,x,hE,b5z (hr.2 _ x t hx ht) (by rw [hcs,List.length_append];omega) ?_⟩
   rw [q6 i0 (by simp only [big] at hxb;have:=v1 hx;omega)]
   exact hn t ht
  ·rw [hf (by have:=hs.1;dsimp only at hq;omega)]
   dsimp only
   clear hn hf next hcs hq cs
   unfold Y9
   refine uloop (ts:=us) fun i cs next i0 i1 hcs hn hf=>?_
   unfold Y8
   refine ⟨fun hq=>?_,fun hq=>?_⟩
   ·obtain ⟨x,hx,hE⟩:=hc.get i0 hq
    obtain ⟨t,ht⟩:=A8 (l:=us) (i:=i.toNat) (by have:=v1 hx;omega)
    have:=b3W ht
    refine ⟨i0,hq,x,hE,ih _ x t hx ht (by rw [hcs,List.length_append,List.length_append];omega) ?_⟩
    rw [q6 i0 (by simp only [big] at hcb;have:=v1 hx;omega)]
    exact hn t ht
   ·rw [hf (by have:=hc.1;dsimp only at hq;omega)]
    unfold Y7
    rw [List.append_assoc];exact h
def StU(H:Hp)(x:i8)(t:PT):Prop:=∀(cs:List Us)(s1:Sl)(i:Int)(n2:List Us×Int→Hp→Prop)(K:List Us→Hp→Prop),cs.length+(uTs t.kids).length≤big→n2 (cs++uTs t.kids,IntKind.wrap .i64 (i+1)) H→N6 cs s1 i x H n2 K
theorem b2K{s:Sl}{xs:List i8}{ts:List PT}(hs:SlH H 6 g7 s xs)(hxb:xs.length≤big)(hl:xs.length=ts.length)(hr:∀(i:Nat)(x:i8)(t:PT),xs[i]? = some x→ts[i]? = some t→SH H x t)(ih:∀(i:Nat)(x:i8)(t:PT),xs[i]? = some x→ts[i]? = some t→StU H x t)
  {out:List Us} (hb:out.length+(uTs ts).length≤big) {K:List Us→Hp→Prop} (h:K (out++uTs ts) H):V0 out s H K:=by
 refine a9L _ _ ?_
 unfold a3l
 refine uloop (ts:=ts) fun i cs next i0 i1 hcs hn hf=>?_
 unfold Z9
 dsimp only
 refine ⟨fun hq=>?_,fun hq=>?_⟩
 ·obtain ⟨x,hx,hE⟩:=hs.get i0 hq
  obtain ⟨t,ht⟩:=A8 (l:=ts) (i:=i.toNat) (by have:=v1 hx;omega)
  have hin:=b3W ht
  have hut:uT t=useL t.lab++uTs t.kids:=by cases t;rw [uT];rfl
  rw [hut,List.length_append] at hin
  have hlab:useL t.lab=if (decide (x.c8=1)||decide (x.c8=2))=true then [⟨x.f6,decide (x.c8=2)⟩] else []:=by
   cases hr _ x t hx ht;rfl
  have hcl:cs.length=out.length+(uTs (ts.take i.toNat)).length:=by rw [hcs,List.length_append]
  have hnt:=hn t ht
  rw [hut,← q6 i0 (by simp only [big] at hxb;have:=v1 hx;omega)] at hnt
  refine ⟨i0,hq,x,hE,fun hc=>⟨b8q (by rw [hlab,if_pos hc] at hin;simp only [List.length_cons,List.length_nil] at hin;omega),ih _ x t hx ht _ _ _ _ _ ?_ ?_⟩,fun hc=>ih _ x t hx ht _ _ _ _ _ ?_ ?_⟩
  ·rw [hlab,if_pos hc] at hin
   rw [List.length_append];simp only [List.length_cons,List.length_nil] at hin ⊢;omega
  ·rw [hlab,if_pos hc,← List.append_assoc] at hnt;exact hnt
  ·rw [hlab,if_neg (by rw [hc];decide)] at hin
   simp only [List.length_nil] at hin;omega
  ·rw [hlab,if_neg (by rw [hc];decide),List.nil_append] at hnt;exact hnt
 ·rw [hf (by have:=hs.1;omega)]
  unfold Z8
  exact h
theorem d1G{x:i8}{t:PT}(hx:SH H x t):StU H x t:=by
 induction hx with
 | @mk e xs ts ys us zs bs vs ws hs hb hr hc hcb hcr ha hab hal har hbs hbb hbl hbr iha ihb=>
  intro cs0 s1 i0' n2 K hlen h
  change n2 (cs0++uTs (us++(ts++(vs++ws))),_) H at h
  change cs0.length+(uTs (us++(ts++(vs++ws)))).length≤big at hlen
  rw [a8G,a8G,a8G] at h hlen
  simp only [List.length_append] at hlen
  have r0:=hr.1
  have r1:=hcr.1
  unfold N6
  refine uloop (ts:=us) fun i cs next i0 i1 hcs hn hf=>?_
  unfold Z7
  refine ⟨fun hq=>?_,fun hq=>?_⟩
  ·obtain ⟨x,hx,hE⟩:=hc.get i0 hq
   obtain ⟨t,ht⟩:=A8 (l:=us) (i:=i.toNat) (by have:=v1 hx;omega)
   have:=b3W ht
   refine ⟨i0,hq,x,hE,c1f (hcr.2 _ x t hx ht) (by rw [hcs,List.length_append];omega) ?_⟩
   rw [q6 i0 (by simp only [big] at hcb;have:=v1 hx;omega)]
   exact hn t ht
  ·rw [hf (by have:=hc.1;dsimp only at hq;omega)]
   dsimp only
   clear hn hf next hcs hq cs
   unfold Z6
   refine uloop (ts:=ts) fun i cs next i0 i1 hcs hn hf=>?_
   unfold Z5
   refine ⟨fun hq=>?_,fun hq=>?_⟩
   ·obtain ⟨x,hx,hE⟩:=hs.get i0 hq
    obtain ⟨t,ht⟩:=A8 (l:=ts) (i:=i.toNat) (by have:=v1 hx;omega)
    have:=b3W ht
    refine ⟨i0,hq,x,hE,b5z (hr.2 _ x t hx ht) (by rw [hcs,List.length_append,List.length_append];omega) ?_⟩
    rw [q6 i0 (by simp only [big] at hb;have:=v1 hx;omega)]
    exact hn t ht
   ·rw [hf (by have:=hs.1;dsimp only at hq;omega)]
    unfold Z4
    refine b2K ha hab hal har iha (by simp only [List.length_append];omega) ?_
    refine b2K hbs hbb hbl hbr ihb (by simp only [List.length_append];omega) ?_
    unfold Z3
    rw [List.append_assoc,List.append_assoc,List.append_assoc]
    exact h
theorem c8K{p:m6}{q:PP}(hp:PH H p q)(hb:(uTs q.body).length≤big){K:Sl→Hp→Prop}(h:∀s H',Hle H H'→SlH H' 2 p9 s (uTs q.body)→K s H'):a5i p H K:=by
 refine b1x _ ?_
 unfold a5r
 obtain ⟨hd,hbd,xs,hsl,hxb,hr⟩:=hp
 refine b2K hsl hxb hr.1 hr.2 (fun i x t a b=>d1G (hr.2 i x t a b)) (by simpa using hb) ?_
 rw [List.nil_append]
 intro s H1 l1 hS _
 exact h s H1 l1 hS
theorem c6l{s s':Sl}{xs:List ByteArray}(h1:SlH H 1 v2 s xs)(h2:SlH H 1 v2 s' xs)(hb:xs.length≤big){K:Bool→Hp→Prop}(h:K true H):a4q s s' H K:=by
 refine b1a _ _ ?_
 unfold a4T
 have n1:=h1.1;have n2:=h2.1
 refine ⟨fun e=>by omega,fun _=>?_⟩
 refine Q6 (fun(i:Int) H'=>0≤i∧i≤xs.length∧H'=H) (fun i=>(xs.length-i).toNat) ⟨Int.le_refl _,by omega,rfl⟩ ?_
 rintro i H1 next ⟨i0,i1,rfl⟩ hn
 unfold a3m
 refine ⟨fun hq=>?_,fun hq=>?_⟩
 ·obtain ⟨x,hx,hE⟩:=h1.get i0 hq
  obtain ⟨y,hy,hF⟩:=h2.get i0 (show i < (s'.n:Int) by omega)
  rw [hx] at hy;cases hy
  refine ⟨i0,hq,x,hE,i0,by omega,x,hF,fun e=>(e rfl).elim,fun _=>?_⟩
  rw [q6 i0 (by simp only [big] at hb;omega)]
  exact hn _ _ ⟨by omega,by omega,rfl⟩ (by omega)
 ·unfold a0R;exact h
theorem c6m{e:i8}{t:PT}(he:SH H e t){f:Fm}{K:Fm→Hp→Prop}(h:∀y,FR f (formT t) (namesT t) y→K y H):T4 f e H K:=by
 induction he generalizing f K with
 | @mk e xs ts ys us zs bs vs ws hs hb hr hc hcb hcr ha hab hal har hbs hbb hbl hbr iha ihb=>
  refine a9u _ _ ?_
  have r0:=hr.1
  have r1:=hcr.1
  have n1:(e.l7.n:Int)=(ts.length:Int):=by have:=hs.1;omega
  have n2:(e.r9.n:Int)=(us.length:Int):=by have:=hc.1;omega
  have n3:(e.K5.n:Int)=(vs.length:Int):=by have:=ha.1;omega
  have n4:(e.L2.n:Int)=(ws.length:Int):=by have:=hbs.1;omega
  have fin:∀(i:Int)(s:Fm)(n:Int)(m:Nat),n=(m:Int)→(decide (i < n)&&s.fok)=false→((m:Int)≤i∨s.fok=false):=by
   intro i s n m hn hc
   by_cases hlt:i < n
   ·right
    cases hq:s.fok
    ·rfl
    ·rw [hq,decide_eq_true hlt] at hc;cases hc
   ·left;omega
  have j1:∀(e' c':Int)(f':Fm),f'.fnames=f.fnames→(((((f'.fok&&((decide (e.c8=1)||decide (e.c8=2))||decide (e.f6=⟨#[]⟩)))&&decide ((ts.length:Int)=e'))&&decide ((us.length:Int)=c'))&&((decide ((vs.length:Int)=0)||decide (e.c8=3))||decide (e.c8=4)))&&(decide ((ws.length:Int)=0)||decide (e.c8=3)))=(f.fok&&formS e.c8 e.f6 (ts.length:Int) (us.length:Int) (vs.length:Int) (ws.length:Int))→C1 e' c' e f' H K:=by
   intro e' c' f' hf heq
   unfold C1
   refine b5M ?_
   refine floop (ts:=us) fun i s next i0 i1 hk hf'=>?_
   unfold a1H
   refine ⟨fun hq=>?_,fun hq=>?_⟩
   ·obtain ⟨hq1,hq2⟩:=a8F.1 hq
    obtain ⟨x,hx,hE⟩:=hc.get i0 hq1
    obtain ⟨t,ht⟩:=A8 (l:=us) (i:=i.toNat) (by have:=v1 hx;omega)
    refine ⟨i0,hq1,x,hE,c6h (hcr.2 _ x t hx ht) fun y hy=>?_⟩
    rw [q6 i0 (by simp only [big] at hcb;have:=v1 hx;omega)]
    exact hk t ht hq2 y hy
   ·have hfin:=hf' (fin i s _ _ n2 hq)
    have F1:FR f (formS e.c8 e.f6 (ts.length:Int) (us.length:Int) (vs.length:Int) (ws.length:Int)&&formTs us) (nameOk (.stmt e.c8 e.f6 ts.length us.length vs.length ws.length)&&namesTs us) s:=by
     refine FR.trans (g:=⟨_,_⟩) ⟨?_,fun _=>?_⟩ hfin
     ·show (((((f'.fok&&_)&&decide ((e.l7.n:Int)=e'))&&decide ((e.r9.n:Int)=c'))&&((decide ((e.K5.n:Int)=0)||_)||_))&&(decide ((e.L2.n:Int)=0)||_))=_
      rw [n1,n2,n3,n4];exact heq
     ·show (f'.fnames&&_)=_
      rw [hf];rfl
    clear hk hf' next hq hfin
    unfold Y0
    refine floop (ts:=ts) fun i s2 next i0 i1 hk hf'=>?_
    unfold a1G
    refine ⟨fun hq=>?_,fun hq=>?_⟩
    ·obtain ⟨hq1,hq2⟩:=a8F.1 hq
     obtain ⟨x,hx,hE⟩:=hs.get i0 hq1
     obtain ⟨t,ht⟩:=A8 (l:=ts) (i:=i.toNat) (by have:=v1 hx;omega)
     refine ⟨i0,hq1,x,hE,c0w (hr.2 _ x t hx ht) fun y hy=>?_⟩
     rw [q6 i0 (by simp only [big] at hb;have:=v1 hx;omega)]
     exact hk t ht hq2 y hy
    ·have F2:=F1.trans (hf' (fin i s2 _ _ n1 hq))
     clear hk hf' next hq
     unfold X9
     refine floop (ts:=vs) fun i s3 next i0 i1 hk hf'=>?_
     unfold a1F
     refine ⟨fun hq=>?_,fun hq=>?_⟩
     ·obtain ⟨hq1,hq2⟩:=a8F.1 hq
      obtain ⟨x,hx,hE⟩:=ha.get i0 hq1
      obtain ⟨t,ht⟩:=A8 (l:=vs) (i:=i.toNat) (by have:=v1 hx;omega)
      refine ⟨i0,hq1,x,hE,iha _ x t hx ht fun y hy=>?_⟩
      rw [q6 i0 (by simp only [big] at hab;have:=v1 hx;omega)]
      exact hk t ht hq2 y hy
     ·have F3:=F2.trans (hf' (fin i s3 _ _ n3 hq))
      clear hk hf' next hq
      unfold X8
      refine floop (ts:=ws) fun i s4 next i0 i1 hk hf'=>?_
      unfold a1E
      refine ⟨fun hq=>?_,fun hq=>?_⟩
      ·obtain ⟨hq1,hq2⟩:=a8F.1 hq
       obtain ⟨x,hx,hE⟩:=hbs.get i0 hq1
       obtain ⟨t,ht⟩:=A8 (l:=ws) (i:=i.toNat) (by have:=v1 hx;omega)
       refine ⟨i0,hq1,x,hE,ihb _ x t hx ht fun y hy=>?_⟩
       rw [q6 i0 (by simp only [big] at hbb;have:=v1 hx;omega)]
       exact hk t ht hq2 y hy
      ·have F4:=F3.trans (hf' (fin i s4 _ _ n4 hq))
       refine h _ ?_
       rw [formT,namesT,U5,U5,U5,a6h,a6h,a6h]
       simp only [Bool.and_assoc] at F4 ⊢
       exact F4
  have eqv:∀(e' c':Int),(e.c8=1∧e'=1∧c'=0∨e.c8=2∧e'=2∧c'=0∨(e.c8=3∨e.c8=4∨e.c8=5∨e.c8=6)∧e'=0∧c'=1∨e.c8=7∧e'=0∧c'=0)→(((((f.fok&&((decide (e.c8=1)||decide (e.c8=2))||decide (e.f6=⟨#[]⟩)))&&decide ((ts.length:Int)=e'))&&decide ((us.length:Int)=c'))&&((decide ((vs.length:Int)=0)||decide (e.c8=3))||decide (e.c8=4)))&&(decide ((ws.length:Int)=0)||decide (e.c8=3)))=(f.fok&&formS e.c8 e.f6 (ts.length:Int) (us.length:Int) (vs.length:Int) (ws.length:Int)):=by
   intro e' c' hk
   simp only [Bool.and_assoc]
   congr 1
   rw [Bool.eq_iff_iff]
   generalize (ts.length:Int)=a
   generalize (us.length:Int)=b
   have hv:(0:Int)≤(vs.length:Int):=by omega
   have hw:(0:Int)≤(ws.length:Int):=by omega
   generalize (vs.length:Int)=c at hv ⊢
   generalize (ws.length:Int)=d at hw ⊢
   generalize e.c8=k at hk ⊢
   by_cases hsn:e.f6=⟨#[]⟩
   all_goals
    unfold formS
    rcases hk with ⟨rfl,rfl,rfl⟩ | ⟨rfl,rfl,rfl⟩ | ⟨rfl | rfl | rfl | rfl,rfl,rfl⟩ | ⟨rfl,rfl,rfl⟩<;>simp [hsn]<;>omega
  have no:¬(e.c8=1∨e.c8=2∨e.c8=3∨e.c8=4∨e.c8=5∨e.c8=6∨e.c8=7)→formS e.c8 e.f6 (ts.length:Int) (us.length:Int) (vs.length:Int) (ws.length:Int)=false:=by
   intro hk
   unfold formS
   rw [if_neg (by omega),if_neg (by omega),if_neg (by omega),if_neg (by omega),if_neg (by omega),if_neg (by omega)]
  have j9:∀b:Bool,(b=true↔(e.c8=3∨e.c8=4∨e.c8=5∨e.c8=6))→¬(e.c8=1∨e.c8=2)→E6 0 0 e.c8 b e f H K:=by
   intro b hq hno
   unfold E6
   refine ⟨fun q=>j1 0 1 f rfl (eqv 0 1 (.inr (.inr (.inl ⟨hq.1 q,rfl,rfl⟩)))),fun q=>⟨fun e7=>j1 0 0 f rfl (eqv 0 0 (.inr (.inr (.inr ⟨e7,rfl,rfl⟩)))),fun e7=>j1 0 0 _ rfl ?_⟩⟩
   have:=mt hq.2 (by rw [q];decide)
   rw [no (by omega),Bool.and_false];rfl
  unfold a2R
  refine ⟨fun e1=>j1 1 0 f rfl (eqv 1 0 (.inl ⟨e1,rfl,rfl⟩)),fun e1=>⟨fun e2=>j1 2 0 f rfl (eqv 2 0 (.inr (.inl ⟨e2,rfl,rfl⟩))),fun e2=>⟨fun e3=>j9 _ ?_ (by omega),fun e3=>⟨fun e4=>j9 _ ?_ (by omega),fun e4=>⟨fun e5=>j9 _ ?_ (by omega),fun e5=>j9 _ ?_ (by omega)⟩⟩⟩⟩⟩<;>(rw [decide_eq_true_eq];omega)
theorem c5d{p:m6}{q:PP}(hp:PH H p q){K:Int→Hp→Prop}(h:K (toldS q.nodes) H):a4t p H K:=by
 refine b0M _ ?_
 unfold a4H
 refine c4L hp ⟨fun hb=>?_,fun hb=>?_⟩
 ·unfold toldS at h
  rw [if_neg hb] at h;exact h
 obtain ⟨hd,hbd,xs,hsl,hxb,hr⟩:=hp
 have n1:=hd.1;have n2:=hsl.1;have r0:=hr.1
 refine Q6 (fun(z:Int×Fm) H'=>0≤z.1∧z.1≤q.decls.length∧H'=H∧FR ⟨true,true⟩ (formTs ((q.decls.map dT).take z.1.toNat)) (namesTs ((q.decls.map dT).take z.1.toNat)) z.2) (fun z=>(q.decls.length-z.1).toNat) ⟨Int.le_refl _,by simp,rfl,by simpa [formTs,namesTs] using FR.refl ⟨true,true⟩⟩ ?_
 rintro ⟨i,s⟩ H1 next ⟨i0,i1,rfl,hs⟩ hn
 dsimp only at i0 i1 hs ⊢
 unfold a3f
 refine ⟨fun hq=>?_,fun hq=>?_⟩
 ·obtain ⟨x,hx,hE⟩:=hd.get i0 hq
  have hlt:=v1 hx
  have hx':(q.decls.map dT)[i.toNat]? = some (dT x):=by rw [List.getElem?_map,hx];rfl
  refine ⟨x,fun _=>⟨i0,hq,hE⟩,x,fun _=>⟨i0,hq,hE⟩,i0,hq,x,hE,b5M ?_⟩
  rw [q6 i0 (by simp only [big] at hbd;omega)]
  refine hn _ _ ⟨by dsimp only;omega,by dsimp only;omega,rfl,?_⟩ (by dsimp only;omega)
  dsimp only
  rw [show (i+1).toNat=i.toNat+1 by omega,b8p hx',b6x hx']
  refine hs.trans ⟨?_,fun _=>?_⟩
  ·unfold dT
   rw [formT,formTs]
   show (((s.fok&&_)&&_)&&(true||_))=(s.fok&&((_&&_)&&true))
   simp only [Bool.true_or,Bool.and_true,Bool.and_assoc]
  ·unfold dT
   rw [namesT,namesTs]
   show (s.fnames&&(if true=true then nameS x.f6 else true))=_
   unfold nameOk nameL
   rw [Bool.and_true]
 ·rw [List.take_of_length_le (by rw [List.length_map];omega)] at hs
  clear hn next
  unfold a0L
  refine floop (ts:=q.body) fun j s2 next j0 j1 hk hf'=>?_
  unfold a3e
  refine ⟨fun hq=>?_,fun hq=>?_⟩
  ·obtain ⟨hq1,hq2⟩:=a8F.1 hq
   obtain ⟨x,hx,hE⟩:=hsl.get j0 hq1
   obtain ⟨t,ht⟩:=A8 (l:=q.body) (i:=j.toNat) (by have:=v1 hx;omega)
   refine ⟨j0,hq1,x,hE,c6m (hr.2 _ x t hx ht) fun y hy=>?_⟩
   rw [q6 j0 (by simp only [big] at hxb;have:=v1 hx;omega)]
   exact hk t ht hq2 y hy
  ·have hfin:=hs.trans (hf' (by
    by_cases hlt:j < (p.a1l.n:Int)
    ·right
     cases hqq:s2.fok
     ·rfl
     ·dsimp only at hq;rw [hqq,decide_eq_true hlt] at hq;cases hq
    ·left;omega))
   rw [←U5,← a6h] at hfin
   unfold a0K
   refine c6i ?_
   have:=c8H (ts:=q.nodes) hfin hb
   rw [this];exact h
theorem c0z{q:PP}(h:toldS q.nodes=0):(wTs q.nodes 1 w0S).fbad=0∧(allV q).1=true∧(allV q).2.n=(wTs q.nodes 1 w0S).fn∧(allV q).2.d=(wTs q.nodes 1 w0S).fdepth∧(allV q).2.ns=putAll [] (nTs q.nodes):=by
 have hb:(wTs q.nodes 1 w0S).fbad=0:=by
  unfold toldS at h
  by_cases hq:(wTs q.nodes 1 w0S).fbad=0
  ·exact hq
  ·rw [if_neg hq] at h;exact h
 have hs:=c6W q.nodes
 have hr:(allV q).1=true:=by
  cases hq:(allV q).1
  ·obtain ⟨h1,h2⟩:=hs.2 hq
   omega
  ·rfl
 obtain ⟨h1,_⟩:=hs.1 hr
 exact ⟨hb,hr,by rw [h1];rfl,by rw [h1];rfl,c0x q.nodes 1 v0 hr⟩
end
end Go.Proofs.YtaokfhdinhimfaaGreatDoor
