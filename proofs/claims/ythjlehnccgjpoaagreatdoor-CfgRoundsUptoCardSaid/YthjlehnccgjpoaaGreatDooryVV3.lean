/- Lemmas. -/
import Derived.Test.YthjlehnccgjpoaaGreatDooryVJ2
namespace Go.Proofs.YthjlehnccgjpoaaGreatDoor
open Go.RowKit
set_option maxRecDepth 100000
set_option maxHeartbeats 2000000
theorem u8d{k:Nat}(h:k < 10):(UInt8.ofNat (48+k)).toNat=48+k:=by
 have:(UInt8.ofNat (48+k)).toNat=(48+k) % 256:=UInt8.toNat_ofNat'
 rw [this];omega
theorem d4I(a:Nat)(l:List UInt8)(c:UInt8):dval a (l++[c])=dval a l*10+(c.toNat-48):=by
 unfold dval
 rw [List.foldl_append]
 rfl
theorem c5e:∀n:Nat,(∀c∈Lib.decDigits n,isDig c)/\dval 0 (Lib.decDigits n)=n/\(∃c l,Lib.decDigits n=c::l/\(c.toNat=48->l=[])):=by
 intro n
 induction n using Nat.strongRecOn with
 | _ n ih=>
  rw [Lib.decDigits]
  by_cases h:n < 10
  ·rw [dif_pos h]
   have u:=u8d h
   refine ⟨λc hc=>?_,?_,_,_,rfl,λ_=>rfl⟩
   ·rw [List.mem_singleton.1 hc];unfold isDig;omega
   ·rw [b0W,c1L,u];omega
  ·rw [dif_neg h]
   obtain ⟨i1,i2,c,l,i3,i4⟩:=ih (n / 10) (by omega)
   have u:=u8d (k:=n % 10) (by omega)
   refine ⟨λc hc=>?_,?_,c,l++[UInt8.ofNat (48+n % 10)],by rw [i3];rfl,λh0=>?_⟩
   ·rcases List.mem_append.1 hc with q | q
    ·exact i1 c q
    ·rw [List.mem_singleton.1 q];unfold isDig;omega
   ·rw [d4I,i2,u];omega
   ·have hl:=i4 h0
    rw [i3,hl,b0W,c1L,h0] at i2
    omega
section
variable {s:BA}
theorem d0h:∀(l:List UInt8){p v:Nat}{r:List UInt8},(∀c∈l,isDig c)->Dr s p (l++r)->¬(p+l.length < s.size/\48<=by8 s (p+l.length)/\by8 s (p+l.length)<=57)->dg s p v=(p+l.length,dval v l)
 | [],p,v,r,_,_,hx=>by
  have hx:¬(p < s.size/\48<=by8 s p/\by8 s p<=57):=hx
  rw [c4a hx];rfl
 | c::l,p,v,r,hd,h,hx=>by
  obtain ⟨p0,_,h1⟩:=h.cons
  have hc:=hd c (List.mem_cons_self ..)
  have hb:=h.by8
  rw [List.length_cons,show p+(l.length+1)=p+1+l.length by omega] at hx
  rw [c0A p0 (by rw [hb];exact hc),d0h l (λd q=>hd d (List.mem_cons_of_mem _ q)) h1 hx,hb,b0W,List.length_cons,show p+1+l.length=p+(l.length+1) by omega]
end
inductive Pd where
 | sg (w:List UInt8)
 | nb (n:Nat)
 | wd (s:BA) (k:Int)
 | bl (c:UInt8)
def Pd.by_:Pd->List UInt8
 | .sg w=>w
 | .nb n=>Lib.decDigits n
 | .wd s _=>s.data.toList
 | .bl c=>[c]
def bytd(l:List Pd):List UInt8:=l.flatMap Pd.by_
def Pd.tk:Pd->List (Int×BA×Int)
 | .sg w=>[(4,⟨w.toArray⟩,0)]
 | .nb n=>[(2,⟨(Lib.decDigits n).toArray⟩,n)]
 | .wd s k=>[(k,s,0)]
 | .bl _=>[]
def tkd(l:List Pd):List (Int×BA×Int):=l.flatMap Pd.tk
def twoB(a b:UInt8):Bool:=(b == 61&&(a == 61||a == 33||a == 60||a == 62))||(a == 38&&b == 38)||(a == 124&&b == 124)
def Pd.ok(d:Option UInt8):Pd->Bool
 | .sg [c]=>(decide (c.toNat < 128)&&decide (classS c.toNat=5))&&((!decide (c.toNat=38) && !decide (c.toNat=124)) && !decide (d=some 61))
 | .sg [a,b]=>twoB a b
 | .sg _=>false
 | .nb n=>decide (n < 9223372036854775808)&&offB d
 | .wd s k=>((decide (k=1)&&nameS s)||(decide (k=3)&&wordS s))&&offB d
 | .bl c=>c == 32||c == 10
def okD(d:Option UInt8):List Pd->Bool
 | []=>true
 | a::l=>a.ok ((bytd l).head?.or d)&&okD d l
theorem d4J(a:Pd)(l:List Pd):bytd (a::l)=a.by_++bytd l:=by unfold bytd;rw [List.flatMap_cons]
theorem I0(a b:List Pd):bytd (a++b)=bytd a++bytd b:=by unfold bytd;rw [List.flatMap_append]
theorem c2e(a:Pd)(l:List Pd):tkd (a::l)=a.tk++tkd l:=by unfold tkd;rw [List.flatMap_cons]
theorem M8(a b:List Pd):tkd (a++b)=tkd a++tkd b:=by unfold tkd;rw [List.flatMap_append]
theorem d0i(d:Option UInt8)(b:List Pd):∀a:List Pd,okD d (a++b)=(okD ((bytd b).head?.or d) a&&okD d b)
 | []=>by show okD d b=(true&&okD d b);rw [Bool.true_and]
 | x::a=>by
  show (x.ok ((bytd (a++b)).head?.or d)&&okD d (a++b))=((x.ok ((bytd a).head?.or ((bytd b).head?.or d))&&okD ((bytd b).head?.or d) a)&&okD d b)
  rw [d0i d b a,I0,List.head?_append,Option.or_assoc,Bool.and_assoc]
theorem d1J{s:BA}(h:wordS s=true):nameAt s s.size 0=true/\(runesOf s).length<=32/\s.size≠0/\classS (rn s 0)=3:=by
 unfold wordS at h
 simp only [Bool.or_eq_true,decide_eq_true_eq] at h
 rcases h with (((((((((rfl | rfl) | rfl) | rfl) | rfl) | rfl) | rfl) | rfl) | rfl) | rfl) | rfl <;>
  exact ⟨by kernel_rfl,Nat.le_of_ble_eq_true (by kernel_rfl),by decide,by kernel_rfl⟩
theorem c3t{s:BA}(h:nameS s=true):nameAt s s.size 0=true/\(runesOf s).length<=32/\s.size≠0/\classS (rn s 0)=3/\wordS s=false:=by
 unfold nameS at h
 split at h
 ·cases h
 rename_i c
 simp only [Bool.not_eq_true,Bool.or_eq_false_iff,decide_eq_false_iff_not,Bool.not_eq_false'] at c
 obtain ⟨⟨⟨c1,c2⟩,c3⟩,c4⟩:=c
 have hz:s.size≠0:=λe=>c1 (by
  apply ByteArray.ext
  apply Array.eq_empty_of_size_eq_zero
  exact e)
 refine ⟨h,by omega,hz,?_,c4⟩
 have hn:nameAt s (s.size-0) 0=true:=h
 rw [b6J (by omega)] at hn
 split at hn
 ·rename_i g
  exact Classical.byContradiction λx=>g.2 ⟨rfl,x⟩
 ·cases hn
section
variable {s:BA}
theorem e5z{a:Pd}{r:List UInt8}{p:Nat}(h:Dr s p (a.by_++r))(hp:p<=s.size)(ho:a.ok r.head? = true):chkAt s p=chkAt s (p+a.by_.length)/\((a.tk=[]/\sk s p=sk s (p+a.by_.length))\/
  ∃k x n,a.tk=[(k,x,n)]/\p < s.size/\1<=a.by_.length/\sk s p=p/\oneO s p=⟨k,x,n,p+a.by_.length,0⟩):=by
 have hend:=Dr.app _ _ h
 have hsz:=h.le hp
 rw [List.length_append] at hsz
 have nosk:(classS (rn s p)=3\/classS (rn s p)=4\/classS (rn s p)=5)->sk s p=p:=by
  intro hcl
  refine a6Z (.inr ⟨λe=>?_,?_⟩)
  ·have r0:=(b0D (s:=s) (p:=p) (by omega)).1
   rw [e] at r0
   rw [r0] at hcl
   revert hcl
   decide
  ·unfold blankS
   rcases hcl with e | e | e<;>rw [e]<;>rfl
 have asc:∀{c:UInt8}{l:List UInt8}{q:Nat},Dr s q (c::l)->c.toNat < 128->chkAt s q=chkAt s (q+1):=by
  intro c l q hd hc
  obtain ⟨r0,w0⟩:=hd.asc hc
  rw [chkN hd.cons.1 (by rw [r0];omega),w0]
 cases a with
 | bl c=>
  have h:Dr s p (c::r):=h
  have hc:c=32\/c=10:=by
   have ho:(c == 32||c == 10)=true:=ho
   rw [Bool.or_eq_true,beq_iff_eq,beq_iff_eq] at ho
   exact ho
  have hl:c.toNat < 128:=by rcases hc with rfl | rfl<;>decide
  obtain ⟨r0,w0⟩:=h.asc hl
  refine ⟨asc h hl,.inl ⟨rfl,?_⟩⟩
  rw [b8A h.cons.1 (by rw [h.by8];rcases hc with rfl | rfl<;>decide) (by rw [r0];rcases hc with rfl | rfl<;>decide),w0]
  rfl
 | sg w=>
  match w,h,ho,hend,hsz with
  | [c],h,ho,hend,hsz=>
   have h:Dr s p (c::r):=h
   have ho:((decide (c.toNat < 128)&&decide (classS c.toNat=5))&&((!decide (c.toNat=38) && !decide (c.toNat=124)) && !decide (r.head? = some 61)))=true:=ho
   simp only [Bool.and_eq_true,decide_eq_true_eq,Bool.not_eq_true',decide_eq_false_iff_not] at ho
   obtain ⟨⟨o1,o2⟩,⟨o3,o4⟩,o5⟩:=ho
   obtain ⟨p0,_,h1⟩:=h.cons
   obtain ⟨r0,w0⟩:=h.asc o1
   refine ⟨asc h o1,.inr ⟨4,⟨#[c]⟩,0,rfl,p0,Nat.le_refl _,nosk (by rw [r0];exact .inr (.inr o2)),?_⟩⟩
   have b0:=h.by8
   have t0:¬two s p:=λx=>by
    unfold two at x
    obtain ⟨x1,x2⟩:=x
    have b1:by8 s (p+1)≠61:=λe=>by
     cases r with
     | nil=>have:=h1.nil;omega
     | cons d r=>
      rw [h1.by8] at e
      exact o5 (by show some d=some 61;rw [show d=61 from UInt8.toNat_inj.1 e])
    omega
   have e1:=Dr.cut [c] h
   unfold oneO
   rw [r0,o2,if_neg (by decide),if_neg (by decide),if_pos rfl]
   unfold signO
   rw [if_neg t0,if_neg (by omega),show p+1=p+[c].length from rfl,e1]
   rfl
  | [a,b],h,ho,hend,hsz=>
   have h:Dr s p (a::b::r):=h
   have ho:twoB a b=true:=ho
   obtain ⟨p0,_,h1⟩:=h.cons
   obtain ⟨p1,_,h2⟩:=h1.cons
   have hab:(b=61/\(a=61\/a=33\/a=60\/a=62))\/(a=38/\b=38)\/(a=124/\b=124):=by
    unfold twoB at ho
    simp only [Bool.or_eq_true,Bool.and_eq_true,beq_iff_eq] at ho
    rcases ho with (⟨q1,q2⟩ | q) | q
    ·refine .inl ⟨q1,?_⟩
     rcases q2 with ((q2 | q2) | q2) | q2<;>simp [q2]
    ·exact .inr (.inl q)
    ·exact .inr (.inr q)
   have la:a.toNat < 128/\b.toNat < 128/\classS a.toNat=5:=by
    rcases hab with ⟨rfl,rfl | rfl | rfl | rfl⟩ | ⟨rfl,rfl⟩ | ⟨rfl,rfl⟩<;>decide
   obtain ⟨r0,w0⟩:=h.asc la.1
   have b0:=h.by8
   have b1:=h1.by8
   refine ⟨by rw [asc h la.1,asc h1 la.2.1];rfl,.inr ⟨4,⟨#[a,b]⟩,0,rfl,p0,by show 1<=2;decide,nosk (by rw [r0];exact .inr (.inr la.2.2)),?_⟩⟩
   have t0:two s p:=by
    unfold two
    rw [b0,b1]
    refine ⟨p1,?_⟩
    rcases hab with ⟨rfl,rfl | rfl | rfl | rfl⟩ | ⟨rfl,rfl⟩ | ⟨rfl,rfl⟩<;>decide
   have e1:=Dr.cut [a,b] h
   unfold oneO
   rw [r0,la.2.2,if_neg (by decide),if_neg (by decide),if_pos rfl]
   unfold signO
   rw [if_pos t0,show p+2=p+[a,b].length from rfl,e1]
   rfl
  | [],h,ho,hend,hsz=>cases ho
  | _::_::_::_,h,ho,hend,hsz=>cases ho
 | nb n=>
  have ho:(decide (n < 9223372036854775808)&&offB r.head?)=true:=ho
  rw [Bool.and_eq_true,decide_eq_true_eq] at ho
  obtain ⟨o1,o2⟩:=ho
  have hend:Dr s (p+(Lib.decDigits n).length) r:=hend
  have hsz:p+((Lib.decDigits n).length+r.length)=s.size:=hsz
  have h:Dr s p (Lib.decDigits n++r):=h
  obtain ⟨f1,f2,c,l,f3,f4⟩:=c5e n
  obtain ⟨_,s2,s3⟩:=c7K hend o2 (by omega)
  have hdg:=d0h (v:=0) _ f1 h s2
  rw [f2] at hdg
  have e1:=Dr.cut _ h
  have hln:lineL (Lib.decDigits n)=true:=by
   unfold lineL
   rw [List.all_eq_true]
   intro d hd
   have:=f1 d hd
   unfold isDig at this
   rw [decide_eq_true (by omega),decide_eq_false (by omega)]
   rfl
  have hchk:=(d0g (a:=(1,1)) _ hln h).2
  have hl1:1<=(Lib.decDigits n).length:=by rw [f3,List.length_cons];omega
  have h':Dr s p (c::(l++r)):=by rw [f3] at h;exact h
  have hc:=f1 c (by rw [f3];exact List.mem_cons_self ..)
  unfold isDig at hc
  obtain ⟨r0,_⟩:=h'.asc (by omega)
  have hall:∀m:Nat,m < 58->48<=m->classS (m:Int)=4:=by decide
  have c4:classS (rn s p)=4:=by rw [r0];exact hall _ (by omega) hc.1
  refine ⟨hchk,.inr ⟨2,⟨(Lib.decDigits n).toArray⟩,n,rfl,h'.cons.1,hl1,nosk (.inr (.inl c4)),?_⟩⟩
  unfold oneO
  rw [c4,if_neg (by decide),if_pos rfl]
  unfold numO
  rw [hdg]
  have hb:=h'.by8
  rw [if_neg (by
   rintro (x | x | x)
   ·omega
   ·have hl0:=f4 (by omega)
    rw [f3,hl0] at x
    have:=x.2
    simp at this
   ·exact s3 x),e1]
  rfl
 | wd u k=>
  have ho:(((decide (k=1)&&nameS u)||(decide (k=3)&&wordS u))&&offB r.head?)=true:=ho
  rw [Bool.and_eq_true,Bool.or_eq_true,Bool.and_eq_true,Bool.and_eq_true,decide_eq_true_eq,decide_eq_true_eq] at ho
  obtain ⟨o1,o2⟩:=ho
  have hul:u.data.toList.length=u.size:=Array.length_toList
  have hend:Dr s (p+u.data.toList.length) r:=hend
  have hsz:p+(u.data.toList.length+r.length)=s.size:=hsz
  have h:Dr s p (u.data.toList++r):=h
  obtain ⟨s1,_,_⟩:=c7K hend o2 (by omega)
  have e1:=Dr.cut _ h
  rw [hul] at hend s1 e1
  have hu:(⟨u.data.toList.toArray⟩:BA)=u:=by apply ByteArray.ext;rw [Array.toArray_toList]
  rw [hu] at e1
  have f:nameAt u u.size 0=true/\(runesOf u).length<=32/\u.size≠0/\classS (rn u 0)=3/\(k=if wordS u=true then 3 else 1):=by
   rcases o1 with ⟨q,w⟩ | ⟨q,w⟩
   ·obtain ⟨g1,g2,g3,g4,g5⟩:=c3t w
    exact ⟨g1,g2,g3,g4,by rw [g5];exact q⟩
   ·obtain ⟨g1,g2,g3,g4⟩:=d1J w
    exact ⟨g1,g2,g3,g4,by rw [w];exact q⟩
  obtain ⟨g1,g2,g3,g4,g5⟩:=f
  have A:Ag u s p:=Ag.of h hp
  obtain ⟨n1,n2,n3⟩:=A.name s1 _ 0 (Nat.le_refl _) (Nat.zero_le _) g1 (0,0) 0
  rw [Nat.add_zero] at n1 n2 n3
  have er:rn s p=rn u 0:=by
   have:=A.dec (i:=0) (by omega) (b5V (by unfold goesS;rw [decide_eq_true g4];rfl))
   rw [Nat.add_zero] at this
   unfold rn;rw [this]
  refine ⟨by show chkAt s p=chkAt s (p+u.data.toList.length);rw [hul];exact n3,.inr ⟨k,u,0,rfl,by omega,by show 1<=u.data.toList.length;omega,nosk (.inl (by rw [er];exact g4)),?_⟩⟩
  show oneO s p=⟨k,u,0,p+u.data.toList.length,0⟩
  rw [hul]
  have hr:(runes u (u.size-0) 0).length=(runesOf u).length:=rfl
  unfold oneO
  rw [er,if_pos g4]
  unfold wordO
  rw [n1,n2,e1,hr,if_neg (by omega:¬32 < 0+(runesOf u).length),g5]
  split<;>rfl
end
section
variable {s:BA}
theorem c4w:∀(l:List Pd)(f p x:Nat)(a:Int×Int)(out:List Tk),okD none l=true->Dr s p (bytd l)->p<=s.size->x<=p->sk s x=sk s p->s.size+1-x<=f->out.length+(tkd l).length<=32768->
  chkAt s p=none/\∃(l':List Tk)(b:Int×Int),tkF s f x a out=(out++l'++[⟨5,⟨#[]⟩,0,b⟩],(0,0),0)/\l'.map ktn=tkd l
 | [],f,p,x,a,out,_,h,hp,hx,hs,hf,_=>by
  have hend:=h.nil
  refine ⟨a7o s _ hend,[],mv s x p a,?_,rfl⟩
  obtain ⟨f,rfl⟩:∃g,f=g+1:=⟨f-1,by clear hs;omega⟩
  rw [tkF,hs,a6Z (.inl (by clear hs;omega)),if_pos (by clear hs;omega),List.append_nil]
 | b::l,f,p,x,a,out,ho,h,hp,hx,hs,hf,hl=>by
  rw [d4J] at h
  have ho:(b.ok ((bytd l).head?.or none)&&okD none l)=true:=ho
  rw [Bool.and_eq_true,Option.or_none] at ho
  obtain ⟨c1,o2⟩:=e5z h hp ho.1
  have hd2:=Dr.app _ _ h
  have hsz:=h.le hp
  rw [List.length_append] at hsz
  rw [c2e,List.length_append] at hl
  have hle:p+b.by_.length<=s.size:=by clear hs;omega
  rcases o2 with ⟨o2,o3⟩ | ⟨k,tx,n,o2,o3,o4,o5,o6⟩
  ·rw [o2,List.length_nil] at hl
   obtain ⟨i1,l',q,i2,i3⟩:=c4w l f (p+b.by_.length) x a out ho.2 hd2 hle (by clear hs o3;omega) (by rw [hs,o3]) hf (by clear hs o3;omega)
   exact ⟨by rw [c1];exact i1,l',q,i2,by rw [c2e,o2];exact i3⟩
  ·rw [o2,List.length_singleton] at hl
   obtain ⟨f,rfl⟩:∃g,f=g+1:=⟨f-1,by clear hs o5;omega⟩
   obtain ⟨i1,l',q,i2,i3⟩:=c4w l f (p+b.by_.length) (p+b.by_.length) (mv s p (p+b.by_.length) (mv s x p a)) (out++[⟨k,tx,n,mv s x p a⟩]) ho.2 hd2 hle (Nat.le_refl _) rfl (by clear hs o5;omega) (by rw [List.length_append,List.length_singleton];clear hs o5;omega)
   refine ⟨by rw [c1];exact i1,⟨k,tx,n,mv s x p a⟩::l',q,?_,?_⟩
   ·rw [tkF,hs,o5,if_neg (by clear hs o5;omega),if_neg (by clear hs o5;omega),o6]
    dsimp only
    rw [if_neg (by decide),i2]
    simp only [List.append_assoc,List.cons_append,List.nil_append]
   ·rw [c2e,o2,List.map_cons,i3]
    rfl
theorem e1n{l:List Pd}(ho:okD none l=true)(hl:(tkd l).length<=32768)(hz:(bytd l).length<=65536):∃(l':List Tk)(b:Int×Int),tkS ⟨(bytd l).toArray⟩=(l'++[⟨5,⟨#[]⟩,0,b⟩],(0,0),0)/\l'.map ktn=tkd l:=by
 have hd:Dr ⟨(bytd l).toArray⟩ 0 (bytd l):=rfl
 have hs:=d6H (bytd l)
 generalize (⟨(bytd l).toArray⟩:BA)=s at hd hs
 obtain ⟨h1,l',b,h2,h3⟩:=c4w l (s.size+1) 0 0 (1,1) [] ho hd (Nat.zero_le _) (Nat.le_refl _) rfl (by omega) (by rw [List.length_nil];omega)
 refine ⟨l',b,?_,h3⟩
 unfold tkS
 rw [if_neg (by omega),h1]
 rw [h2]
 rfl
end
def parP(b:Bool)(o c:UInt8)(l:List Pd):List Pd:=if b=true then [.sg [o]]++l++[.sg [c]] else l
theorem b2I(b:Bool)(o c:UInt8)(l:List Pd):bytd (parP b o c l)=par b o c (bytd l):=by
 unfold parP par
 cases b
 ·rfl
 ·rw [if_pos rfl,if_pos rfl,I0,I0];rfl
theorem a2C(l:List (List Pd)):bytd (l.headD [])=(l.map bytd).headD []:=by cases l<;>rfl
theorem b2R(l:List (List Pd)):bytd (l.tail.headD [])=(l.map bytd).tail.headD []:=by
 match l with
 | []=>rfl
 | [_]=>rfl
 | _::_::_=>rfl
def labP:Lab->List Int->List (List Pd)->List Pd
 | .expr k n s _,ks,ts=>
  if k=1 then [.nb n.toNat] else if k=2 then [.wd s 1] else if k=3 then [.wd ⟨#[105,110,112,117,116]⟩ 3]
  else if k=4 then [.wd s 1,.sg [91]]++ts.headD []++[.sg [93]]
  else if k=5 then [.sg [45]]++parP (decide (lvE (ks.headD 0) < 3)) 40 41 (ts.headD [])
  else parP (decide (lvE (ks.headD 0) < lvE k)) 40 41 (ts.headD [])++[.bl 32,.sg (sgnE k),.bl 32]++parP (decide (lvE (ks.tail.headD 0)<=lvE k)) 40 41 (ts.tail.headD [])
 | .cond k op _ _,ks,ts=>
  if k=1 then [.wd ⟨#[116,114,117,101]⟩ 3] else if k=2 then [.wd ⟨#[102,97,108,115,101]⟩ 3]
  else if k=3 then ts.headD []++[.bl 32,.sg (sgnC op),.bl 32]++ts.tail.headD []
  else if k=4 then [.sg [33]]++parP (decide (lvC (ks.headD 0) < 3)) 91 93 (ts.headD [])
  else parP (decide (lvC (ks.headD 0) < lvC k)) 91 93 (ts.headD [])++[.bl 32,.sg (if k=6 then [124,124] else [38,38]),.bl 32]++parP (decide (lvC (ks.tail.headD 0)<=lvC k)) 91 93 (ts.tail.headD [])
 | _,_,_=>[]
mutual
def pr:PT->List Pd
 | .mk l cs=>labP l (cs.map kindT) (prs cs)
def prs:List PT->List (List Pd)
 | []=>[]
 | t::ts=>pr t::prs ts
end
theorem d1K{l:Lab}(h:formL l=true)(ks:List Int)(ts:List (List Pd)):bytd (labP l ks ts)=labT Lib.itoa l ks (ts.map bytd):=by
 cases l with
 | decl _ _=>rfl
 | stmt _ _ _ _ _ _=>rfl
 | expr k n s m=>
  unfold labP labT
  dsimp only
  by_cases k1:k=1
  ·rw [if_pos k1,if_pos k1]
   have hn:0<=n:=by
    have h:formE k n s m=true:=h
    unfold formE at h
    split at h
    ·cases h
    rw [Bool.and_eq_true,decide_eq_true_eq] at h
    exact h.1
   show Lib.decDigits n.toNat++[]=Lib.itoa n
   rw [List.append_nil,Lib.itoa,if_neg (by omega)]
  rw [if_neg k1,if_neg k1]
  split
  ·show s.data.toList++[]=_;rw [List.append_nil]
  split
  ·rfl
  split
  ·rw [I0,I0,a2C]
   show (s.data.toList++([91]++[]))++_++([93]++[])=_
   rw [List.append_nil,List.append_nil]
  split
  ·rw [I0,b2I,a2C];rfl
  ·rw [I0,I0,b2I,b2I,a2C,b2R]
   congr 2
 | cond k op a b=>
  unfold labP labT
  dsimp only
  split
  ·rfl
  split
  ·rfl
  split
  ·rw [I0,I0,a2C,b2R]
   congr 2
  split
  ·rw [I0,b2I,a2C];rfl
  ·rw [I0,I0,b2I,b2I,a2C,b2R]
   congr 2
   by_cases k6:k=6
   ·rw [if_pos k6,if_pos k6];rfl
   ·rw [if_neg k6,if_neg k6];rfl
mutual
theorem d6I:∀t:PT,formT t=true->bytd (pr t)=tx Lib.itoa t
 | .mk l cs,h=>by
  rw [formT,Bool.and_eq_true] at h
  rw [pr,tx,d1K h.1,b9Z cs h.2]
theorem b9Z:∀ts:List PT,formTs ts=true->(prs ts).map bytd=txs Lib.itoa ts
 | [],_=>by rw [prs,txs];rfl
 | t::ts,h=>by
  rw [formTs,Bool.and_eq_true] at h
  rw [prs,txs,List.map_cons,d6I t h.1,b9Z ts h.2]
end
section
def NdP{α:Type}(G:α->Prop)(p:PM α):Prop:=∀r a r',p r=.ok (a,r')->G a
theorem NdP.bind{α β:Type}{G:α->Prop}{G2:β->Prop}{p:PM α}{f:α->PM β}(hp:NdP G p)(hf:∀a,G a->NdP G2 (f a)):NdP G2 (bindP p f):=λr b r' h=>by
 obtain ⟨a,r1,h1,h2⟩:=bind_ok h
 exact hf a (hp _ _ _ h1) _ _ _ h2
theorem NdP.mono{α:Type}{G G2:α->Prop}{p:PM α}(h:NdP G p)(k:∀a,G a->G2 a):NdP G2 p:=λr a r' e=>k a (h r a r' e)
section
variable {g:Nat}
end
section
variable {g:Nat}
end
section
variable {g:Nat}
end
def er(t:Tok):Tok:=⟨t.d9,t.N9,t.A6,⟨0,0⟩⟩
abbrev erL(r:List Tok):List Tok:=r.map er
def eR{α:Type}:Except Flt (α×List Tok)->Except Flt (α×List Tok)
 | .error (c,_)=>.error (c,⟨0,0⟩)
 | .ok (a,r)=>.ok (a,erL r)
def Bl{α:Type}(p:PM α):Prop:=∀r,p (erL r)=eR (p r)
theorem c5E(r:List Tok):hd (erL r)=er (hd r):=by cases r<;>rfl
theorem a8z(r:List Tok):(erL r).tail=erL r.tail:=by cases r<;>rfl
theorem b0e(r:List Tok):(hd (erL r)).d9=(hd r).d9:=by rw [c5E];rfl
theorem c0O(r:List Tok):(hd (erL r)).N9=(hd r).N9:=by rw [c5E];rfl
theorem d4K(r:List Tok):(hd (erL r)).A6=(hd r).A6:=by rw [c5E];rfl
theorem d1L(r:List Tok):(hd (erL r)).fAt=⟨0,0⟩:=by rw [c5E];rfl
theorem a2v(s:BA)(r:List Tok):isT s (erL r)=isT s r:=by unfold isT;rw [b0e,c0O]
theorem c0a(r:List Tok):(erL r).length=r.length:=List.length_map _
theorem c2f(r:List Tok):factB (erL r)=factB r:=by unfold factB;simp only [b0e,a2v]
theorem d0j(r:List Tok):litB (erL r)=litB r:=by unfold litB;simp only [c2f,a2v]
theorem c7M(r:List Tok):stmtB (erL r)=stmtB r:=by unfold stmtB;simp only [b0e,a2v]
theorem c3u:∀(ss:List BA)(ks:List Int)(r:List Tok),whG ss ks (erL r)=whG ss ks r
 | [],ks,r=>by cases ks<;>rfl
 | s::ss,[],r=>rfl
 | s::ss,k::ks,r=>by rw [c2a,c2a,a2v,c3u ss ks r]
theorem b4Z{α:Type}(r:List Tok):wantE (α:=α) (erL r)=eR (wantE r):=by unfold wantE;rw [d1L];rfl
theorem Bl.pure{α:Type}(a:α):Bl (pureP a):=λr=>rfl
theorem Bl.bind{α β:Type}{p:PM α}{f:α->PM β}(hp:Bl p)(hf:∀a,Bl (f a)):Bl (bindP p f):=λr=>by
 unfold bindP
 rw [hp r]
 cases p r with
 | error x=>rfl
 | ok x=>exact hf x.1 x.2
theorem Bl.must(s:BA):Bl (mustP s):=λr=>by
 unfold mustP
 rw [a2v,a8z,d1L]
 split<;>rfl
theorem Bl.dead{α:Type}{b:List Tok->Bool}(hb:∀r,b (erL r)=b r):Bl (deadE (α:=α) b):=λr=>by
 unfold deadE
 rw [hb,d1L]
 split<;>rfl
theorem Bl.tail{α:Type}{p:PM α}(hp:Bl p)(r:List Tok):p (erL r).tail=eR (p r.tail):=by rw [a8z];exact hp _
theorem Bl.chainF{w:List Tok->Int}(hw:∀r,w (erL r)=w r){part:PM PT}(hp:Bl part):∀(n:Nat)(e:PT),Bl (chainF w part n e)
 | 0,e=>λr=>rfl
 | n+1,e=>λr=>by
  unfold Go.Proofs.YthjlehnccgjpoaaGreatDoor.chainF
  rw [hw]
  split
  ·rfl
  ·exact Bl.tail (Bl.bind hp λa=>Bl.chainF hw hp n _) r
theorem Bl.joinsF{s:BA}{k:Int}{part:PM PT}(hp:Bl part):∀(n:Nat)(e:PT),Bl (joinsF s k part n e)
 | 0,e=>λr=>rfl
 | n+1,e=>λr=>by
  unfold Go.Proofs.YthjlehnccgjpoaaGreatDoor.joinsF
  rw [a2v]
  split
  ·exact Bl.tail (Bl.bind hp λa=>Bl.joinsF hp n _) r
  ·rfl
theorem Bl.chainP{w:List Tok->Int}(hw:∀r,w (erL r)=w r){part:PM PT}(hp:Bl part):Bl (chainP w part):=hp.bind λe r=>by
 rw [c0a];exact Bl.chainF hw hp _ _ _
theorem Bl.joinsP{s:BA}{k:Int}{part:PM PT}(hp:Bl part):Bl (joinsP s k part):=hp.bind λe r=>by
 rw [c0a];exact Bl.joinsF hp _ _ _
theorem Bl.expr{f:PM PT}(hf:Bl f):Bl (exprOf f):=Bl.chainP (c3u _ _) (Bl.chainP (c3u _ _) hf)
theorem Bl.factS{f:PM PT}(hf:Bl f):Bl (factS f):=λr=>by
 have he:=Bl.expr hf
 unfold Go.Proofs.YthjlehnccgjpoaaGreatDoor.factS
 rw [c2f,a2v,a2v,a2v,b0e,d4K,c0O,b4Z]
 split
 ·rfl
 split
 ·exact Bl.tail (hf.bind λe=>.pure _) r
 split
 ·exact Bl.tail (he.bind λe=>(Bl.must _).bind λ_=>.pure _) r
 split
 ·rw [a8z];rfl
 split
 ·rw [a8z];rfl
 rw [a8z,a2v]
 split
 ·exact Bl.tail (he.bind λe=>(Bl.must _).bind λ_=>.pure _) r.tail
 ·rfl
theorem Bl.factP:∀g,Bl (factP g)
 | 0=>Bl.dead c2f
 | g+1=>Bl.factS (Bl.factP g)
theorem Bl.exprP(g:Nat):Bl (exprP g):=Bl.expr (Bl.factP g)
theorem Bl.rel:Bl relP:=λr=>by
 have e:relR (erL r)=relR r:=c3u _ _ r
 unfold relP
 rw [e,b4Z,a8z]
 split<;>rfl
theorem Bl.cond{l:PM PT}(hl:Bl l):Bl (condOf l):=Bl.joinsP (Bl.joinsP hl)
theorem Bl.litS{l ex:PM PT}(hl:Bl l)(hx:Bl ex):Bl (litS l ex):=λr=>by
 unfold Go.Proofs.YthjlehnccgjpoaaGreatDoor.litS
 rw [d0j,a2v,a2v,a2v,a2v,b4Z]
 split
 ·rfl
 split
 ·rw [a8z];rfl
 split
 ·rw [a8z];rfl
 split
 ·exact Bl.tail (hl.bind λe=>.pure _) r
 split
 ·exact Bl.tail ((Bl.cond hl).bind λe=>(Bl.must _).bind λ_=>.pure _) r
 ·exact (hx.bind λa=>Bl.rel.bind λop=>hx.bind λb=>.pure _) r
theorem Bl.litP:∀g,Bl (litP g)
 | 0=>Bl.dead d0j
 | g+1=>Bl.litS (Bl.litP g) (Bl.exprP _)
theorem Bl.condP(g:Nat):Bl (condP g):=Bl.cond (Bl.litP g)
theorem Bl.stmtsF{stop:List Tok->Bool}(hs:∀r,stop (erL r)=stop r){st:PM PT}(hp:Bl st):∀(n:Nat)(l:List PT),Bl (stmtsF stop st n l)
 | 0,l=>λr=>rfl
 | n+1,l=>λr=>by
  unfold Go.Proofs.YthjlehnccgjpoaaGreatDoor.stmtsF
  rw [hs]
  split
  ·rfl
  ·exact Bl.bind hp (λa=>Bl.stmtsF hs hp n _) r
theorem Bl.block{st:PM PT}(hp:Bl st):Bl (blockOf st):=(Bl.must _).bind λ_=>Bl.bind (λr=>by rw [c0a];exact Bl.stmtsF (a2v _) hp _ _ r) λl r=>by
 show Except.ok (l,(erL r).tail)=_
 rw [a8z];rfl
theorem Bl.endS(s:PT):Bl (endS s):=(Bl.must _).bind λ_=>.pure _
theorem Bl.setS{k:Int}{s:BA}{es:List PT}{ex:PM PT}(hx:Bl ex):Bl (setS k s es ex):=(Bl.must _).bind λ_=>hx.bind λe=>Bl.endS _
theorem Bl.stmtS{st sub ex co:PM PT}(hs:Bl st)(hb:Bl sub)(hx:Bl ex)(hc:Bl co):Bl (stmtS st sub ex co):=λr=>by
 have hbl:=Bl.block hs
 unfold Go.Proofs.YthjlehnccgjpoaaGreatDoor.stmtS
 rw [c7M,b0e,c0O,b4Z]
 split
 ·rfl
 split
 ·rw [a8z,a2v]
  split
  ·exact Bl.tail (hb.bind λe=>(Bl.must _).bind λ_=>Bl.setS hx) r.tail
  ·exact Bl.setS hx r.tail
 split
 ·exact Bl.tail (hc.bind λc=>hbl.bind λth r1=>by
   rw [a2v]
   split
   ·exact Bl.tail (hbl.bind λel=>.pure _) r1
   ·rfl) r
 split
 ·exact Bl.tail (hc.bind λc=>hbl.bind λth=>.pure _) r
 split
 ·exact Bl.tail (hc.bind λc=>Bl.endS _) r
 split
 ·exact Bl.tail (hc.bind λc=>Bl.endS _) r
 ·exact Bl.tail (Bl.endS _) r
theorem Bl.stmtP:∀g,Bl (stmtP g)
 | 0=>Bl.dead c7M
 | g+1=>Bl.stmtS (Bl.stmtP g) (Bl.exprP _) (Bl.exprP _) (Bl.condP _)
theorem Bl.declP(arr:Bool):Bl (declP arr):=λr=>by
 unfold Go.Proofs.YthjlehnccgjpoaaGreatDoor.declP
 rw [b0e,c0O,b4Z]
 split
 ·rfl
 split
 ·exact Bl.tail ((Bl.must _).bind λ_ r1=>by
   rw [b0e,d4K,b4Z]
   split
   ·rfl
   ·exact Bl.tail ((Bl.must _).bind λ_=>(Bl.must _).bind λ_=>.pure _) r1) r
 ·exact Bl.tail ((Bl.must _).bind λ_=>.pure _) r
theorem Bl.declsF:∀(n:Nat)(l:List j9),Bl (declsF n l)
 | 0,l=>λr=>rfl
 | n+1,l=>λr=>by
  unfold Go.Proofs.YthjlehnccgjpoaaGreatDoor.declsF
  rw [a2v,a2v]
  split
  ·exact Bl.tail ((Bl.declP _).bind λd=>Bl.declsF n _) r
  ·rfl
theorem Bl.progP:Bl progP:=Bl.bind (λr=>by rw [c0a];exact Bl.declsF _ _ r) λds=>Bl.bind (λr=>by rw [c0a];exact Bl.stmtsF (λr=>by unfold endB;rw [b0e]) (Bl.stmtP 40) _ _ r) λb=>.pure _
def eA{α:Type}:Except Flt α->Except Int α
 | .error (c,_)=>.error c
 | .ok a=>.ok a
theorem c7N{β:Type}{p:PM β}{chk:β->Int}(hp:Bl p)(r:List Tok):eA (readsR p chk (erL r))=eA (readsR p chk r):=by
 unfold readsR
 rw [hp r]
 cases p r with
 | error x=>rfl
 | ok x=>
  obtain ⟨b,r'⟩:=x
  dsimp only [eR]
  rw [b0e]
  split
  ·rfl
  split
  ·rfl
  split<;>rfl
section
variable {H:Hp}(hT:TabsH H)(hE:ErrH H)
include hT hE
end
open Go.Proofs.Tryz Go.RowKit
abbrev BB:Nat:=1114112
abbrev rW(g:Nat):Value:=.pointer (some ⟨g,0,none⟩)
theorem c3v:∀(ps:List BL)(xs:BL),xs.length<=BB->(∀p∈ps,p.length<=1048576)->Wt BB xs ps.flatten (putAllW xs ps)
 | [],xs,h,_=>by rw [putAllW,List.flatten_nil];exact Wt.nil h
 | s::l,xs,h,hp=>by
  rw [putAllW]
  have hs:=hp s (List.mem_cons_self ..)
  split
  ·rename_i c
   exact Wt.full c h
  ·rename_i c
   have h1:Wt BB xs s (xs++s):=by
    have:=Wt.put (B:=BB) (s:=s) h (by simp only [lim,BB];omega)
    unfold putW lim at this
    rwa [if_neg c] at this
   rw [List.flatten_cons]
   exact h1.trans (c3v l _ (h1.bound (by decide)) λp q=>hp p (List.mem_cons_of_mem _ q))
def WOk(H:Hp)(C:g7->List Int->Hp->(g7->List Int->Hp->Prop)->Prop)(t:BL):Prop:=
 ∀(x:g7)(l:BL)(H1:Hp)(K:g7->List Int->Hp->Prop),Hle H H1->l.length<=BB->(∀y l' H',y.fdeep=x.fdeep->Hle H1 H'->Wt BB l t l'->K y (ib l') H')->C x (ib l) H1 K
def CallW(g:Nat)(d:Int)(pv:Value)(Fc:List Frag)(H:Hp)(t:BL):Prop:=
 ∀(x:g7)(l:BL)(H1:Hp),x.fdeep=d->Hle H H1->l.length<=BB->∀(E:Pan)(w0 w:World)(ps:Nat->Prop)(H0:Hp)(a:Sl)(b:Frag)(Kw:Value->World->Prop),RowL 5 1 B7 a (ib l) b->Inv w0 ps H0 H1 (bx g 83 (q8 g x a)::b::Fc) w->
  (∀y l' H' a' b' w',y.fdeep=x.fdeep->Hle H1 H'->Wt BB l t l'->RowL 5 1 B7 a' (ib l') b'->Inv w0 ps H0 H' (bx g 83 (q8 g y a')::b'::Fc) w'->Kw (.tuple #[]) w')->opK Tryz.prog E (xCall pv []) w Kw
def PostW(g:Nat)(x:g7)(l:BL)(Fc:List Frag)(H:Hp)(t:BL)(v:Value)(H':Hp)(Fo:List Frag):Prop:=
 ∃(y:g7)(l':BL)(a':Sl)(b':Frag),v=.tuple #[]/\Fo=bx g 83 (q8 g y a')::b'::Fc/\RowL 5 1 B7 a' (ib l') b'/\y.fdeep=x.fdeep/\Hle H H'/\Wt BB l t l'
theorem a8V{H:Hp}{s:Sl}{ps:List BA}(hs:SlH H 1 v7 s ps)(hp:∀p∈ps,p.size<=1048576)(hn:ps.length<=100):WOk H (λx f H K=>C5 x f s H K) (ps.map (·.data.toList)).flatten:=by
 intro x l H1 K hle hl k
 refine e4F (hs.le hle) hp hl hn λy hy=>k y _ H1 hy (Hle.refl _) (c3v _ l hl λp q=>?_)
 obtain ⟨s,hs,rfl⟩:=List.mem_map.1 q
 have:=hp s hs
 rwa [Array.length_toList]
section
variable {E:Pan}{w0 w:World}{ps:Nat->Prop}{H0 H:Hp}{g:Nat}{x:g7}{a:Sl}{b:Frag}{l:BL}{Fr:List Frag}
theorem s_w{C:g7->List Int->Hp->(g7->List Int->Hp->Prop)->Prop}{H1:Hp}{f:FuncId}{args:List Value}{t:BL}{K:Value->World->Prop}(he:∀args w,(callFunc f args).run Tryz.prog w=.ok (.enter f args) w)(hC:WOk H1 C t)(h1:Hle H1 H)
  (hc:∀(K:g7->List Int->Hp->Prop),C x (ib l) H K->Ct Tryz.prog f (rW g::args) H [bx g 83 (q8 g x a),b] (λv H' Fo=>∃(y0:g7)(c:List Int)(d:Sl)(e:Frag),v=Value.tuple #[]/\Fo=[bx g 83 (q8 g y0 d),e]/\RowL 5 1 B7 d c e/\K y0 c H') noQE)
  (hl:l.length<=BB) (I:Inv w0 ps H0 H (bx g 83 (q8 g x a)::b::Fr) w)
  (k:∀y l' H' a' b' w',y.fdeep=x.fdeep->Hle H H'->Wt BB l t l'->RowL 5 1 B7 a' (ib l') b'->Inv w0 ps H0 H' (bx g 83 (q8 g y a')::b'::Fr) w'->K (.tuple #[]) w'):opK Tryz.prog E (xCall (.func (.func f) #[] #[]) (rW g::args)) w K:=by
 refine f7 (Fi:=[bx g 83 (q8 g x a),b]) (Fr:=Fr) he (hc (λy c H'=>∃l',c=ib l'/\y.fdeep=x.fdeep/\Hle H H'/\Wt BB l t l') (hC x l H _ h1 hl λy l' H' h1 h2 h3=>⟨l',rfl,h1,h2,h3⟩)) I ?_
 rintro _ H' _ w' I' _ _ ⟨y,_,d,e,rfl,rfl,hr',l',rfl,hy,hle,hw⟩
 exact k y l' H' d e w' hy hle hw hr' I'
theorem s_put{n:Nat}{parts:Array (Nat×Value)}{cs:List Value}{pieces:List BA}{K:Value->World->Prop}(hrun:∀w:World,(Instr.buildSlice 28 n parts).run Tryz.prog w=.ok (.slice (some ⟨w.heap.size,0,none⟩) n n) (w.alloc (.cells cs.toArray 9)))(hn:n=pieces.length)(hcs:pieces.flatMap v7=cs)(hm:n<=100)
  (hr:RowL 5 1 B7 a (ib l) b) (hl:l.length<=BB) (hp:∀p∈pieces,p.size<=1048576) (I:Inv w0 ps H0 H (bx g 83 (q8 g x a)::b::Fr) w)
  (k:∀y l' H' a' b' w',y.fdeep=x.fdeep->Hle H H'->Wt BB l (pieces.map (·.data.toList)).flatten l'->RowL 5 1 B7 a' (ib l') b'->Inv w0 ps H0 H' (bx g 83 (q8 g y a')::b'::Fr) w'->K (.tuple #[]) w'):
  opK Tryz.prog E (xV (Instr.buildSlice 28 n parts)) w λv w1=>opK Tryz.prog E (xCall (.func (.func 45) #[] #[]) [rW g,v]) w1 K:=by
 refine O0 (xs:=pieces) (c:=v7) I hrun hn hcs N6 N7 (Nat.le_trans hm (nb rfl)) λs F w1 hr1 I1 _=>?_
 obtain ⟨H2,I2,l2,hs2,_⟩:=Inv.freezeC I1 hr1 (by decide)
 refine s_w (t:=(pieces.map (·.data.toList)).flatten) call45 (a8V hs2 hp (by omega)) (Hle.refl _) (λK h=>h _ _ _ hr) hl I2 λy l' H' a' b' w' e1 e2 e3 e4 e5=>k y l' H' a' b' w' e1 (l2.trans e2) e3 e4 e5
end
theorem c0P{w w':World}{p:Prop}(h:p):keepX [] w w' p:=h
theorem a6h{s:BA}:([s].map (·.data.toList)).flatten=s.data.toList:=by simp
theorem c5f{g:Nat}{needs:Bool}{o c:UInt8}{pv:Value}{x:g7}{l:BL}{H:Hp}{a:Sl}{b:Frag}{Fc:List Frag}{t:BL}(hv:CallW g x.fdeep pv Fc H t)(hl:l.length<=BB)(hr:RowL 5 1 B7 a (ib l) b):
  Ct Tryz.prog 119 [rW g,.bool needs,.string ⟨#[o]⟩,.string ⟨#[c]⟩,pv] H (bx g 83 (q8 g x a)::b::Fc) (PostW g x l Fc H (par needs o c t)) noQE:=by
 refine Ct.of λw0 w ps0 H0 R E I hR=>d8X ?_
 have hsm:∀z:UInt8,∀p∈[(⟨#[z]⟩:BA)],p.size<=1048576:=λz p h=>by
  rw [List.mem_singleton.1 h];show 1<=_;omega
 have hj1:∀(y:g7)(m:BL)(H1:Hp)(a:Sl)(b:Frag)(w:World),y.fdeep=x.fdeep->Hle H H1->Wt BB l (if needs=true then [o] else []) m->RowL 5 1 B7 a (ib m) b->Inv w0 ps0 H0 H1 (bx g 83 (q8 g y a)::b::Fc) w->c3Q (rW g) (.bool needs) (.string ⟨#[c]⟩) pv w R E:=by
  intro y m H1 a b w hy l1 hw hr I
  intro _
  refine hv y m H1 hy l1 (hw.bound (by decide)) E w0 w ps0 H0 a b _ hr I λy2 m2 H2 a2 b2 w2 hy2 l2 hw2 hr2 I2=>Z5 (λe=>?_) (λe=>?_)
  ·subst e
   refine s_put (a0L _) (pieces:=[⟨#[c]⟩]) rfl rfl (by decide) hr2 (hw2.bound (by decide)) (hsm c) I2 λy3 m3 H3 a3 b3 w3 hy3 l3 hw3 hr3 I3=>?_
   rw [a6h] at hw3
   exact hR _ H3 _ _ I3 ⟨y3,m3,a3,b3,rfl,rfl,hr3,hy3.trans (hy2.trans hy),(l1.trans l2).trans l3,(hw.trans hw2).trans hw3⟩
  ·subst e
   refine hR _ H2 _ _ I2 ⟨y2,m2,a2,b2,rfl,rfl,hr2,hy2.trans hy,l1.trans l2,?_⟩
   exact hw.trans hw2
 refine u7 λj1 hx1=>Z5 (λe=>?_) (λe=>?_)
 ·subst e
  refine s_put (a0L _) (pieces:=[⟨#[o]⟩]) rfl rfl (by decide) hr hl (hsm o) I λy3 m3 H3 a3 b3 w3 hy3 l3 hw3 hr3 I3=>?_
  rw [a6h] at hw3
  exact hx1 _ _ (hj1 y3 m3 H3 a3 b3 w3 hy3 l3 hw3 hr3 I3)
 ·subst e
  exact hx1 _ _ (hj1 x l H a b w rfl (Hle.refl _) (Wt.nil hl) hr I)
theorem d6J(d:Nat):Lib.repeatL [32,32] d=(List.replicate d ([32,32]:BL)).flatten:=by
 induction d with
 | zero=>rfl
 | succ d ih=>rw [Lib.repeatL,ih,List.replicate_succ,List.flatten_cons]
theorem c4x{g:Nat}{pv:Value}{x:g7}{l:BL}{H:Hp}{a:Sl}{b:Frag}{Fc:List Frag}{t:BL}{d:Nat}(hd:x.fdeep=(d:Int))(hd2:d<=1000)(hv:CallW g x.fdeep pv Fc H t)(hl:l.length<=BB)(hr:RowL 5 1 B7 a (ib l) b):
  Ct Tryz.prog 43 [rW g,pv] H (bx g 83 (q8 g x a)::b::Fc) (PostW g x l Fc H (lineT d t)) noQE:=by
 refine Ct.of λw0 w ps0 H0 R E I hR=>e2I ?_
 unfold F43
 refine c7 (t7 _) (c7 b1i ?_)
 refine d7 (l1 isAgg3 (v:=vi x.fdeep) I rfl) ?_
 rw [hd]
 refine f7 (Fi:=[]) call79 (e4H (s:=⟨#[32,32]⟩) (c:=d) (K:=λv H'=>v=⟨(Lib.repeatL [32,32] d).toArray⟩/\H'=H) (by show 2*d<=_;omega) (by omega) ⟨rfl,rfl⟩) I ?_
 rintro _ H1 _ w1 I1 _ _ ⟨_,rfl,rfl,rfl,rfl⟩
 have hlen:(Lib.repeatL [32,32] d).length=d*2:=Lib.repeatL_length _ _
 refine s_put (a0L _) (pieces:=[⟨(Lib.repeatL [32,32] d).toArray⟩]) rfl rfl (by decide) hr hl (λp h=>?_) I1 λy m H2 a2 b2 w2 hy l2 hw hr2 I2=>?_
 ·rw [List.mem_singleton.1 h]
  show (Lib.repeatL [32,32] d).toArray.size<=_
  rw [List.size_toArray];omega
 rw [a6h] at hw
 refine hv y m H2 hy l2 (hw.bound (by decide)) E w0 w2 ps0 H0 a2 b2 _ hr2 I2 λy3 m3 H3 a3 b3 w3 hy3 l3 hw3 hr3 I3=>?_
 refine s_put (a0L _) (pieces:=[⟨#[10]⟩]) rfl rfl (by decide) hr3 (hw3.bound (by decide)) (λp h=>by rw [List.mem_singleton.1 h];decide) I3 λy4 m4 H4 a4 b4 w4 hy4 l4 hw4 hr4 I4=>?_
 rw [a6h] at hw4
 refine hR _ H4 _ _ I4 ⟨y4,m4,a4,b4,rfl,rfl,hr4,hy4.trans (hy3.trans hy),(l2.trans l3).trans l4,?_⟩
 have:=(hw.trans hw3).trans hw4
 unfold lineT
 rw [←d6J]
 exact this
section
variable {E:Pan}{w0 w:World}{ps:Nat->Prop}{H0 H:Hp}
theorem e5A{K:Value->World->Prop}{f:FuncId}{cap:List Value}{Fs:List Frag}{Q:Value->Hp->List Frag->Prop}(he:∀args w,(callFunc f args).run Tryz.prog w=.ok (.enter f args) w)(hc:Ct Tryz.prog f cap H Fs Q noQE)(I:Inv w0 ps H0 H Fs w)
  (hq:∀v H' Fo w',Inv w0 ps H0 H' Fo w'->Q v H' Fo->K v w'):opK Tryz.prog E (xCall (.func (.func f) #[] cap.toArray) []) w K:=by
 have I':Inv w0 ps H0 H (Fs++[]) w:=by rw [List.append_nil];exact I
 refine a7R (args:=[]) (cap:=cap) he hc I' λv H' Fo w' I2 _ _ q=>hq v H' Fo w' ?_ q
 rw [List.append_nil] at I2
 exact I2
theorem CallW.of{g:Nat}{d:Int}{f:FuncId}{cap:List Value}{Fc:List Frag}{t:BL}(he:∀args w,(callFunc f args).run Tryz.prog w=.ok (.enter f args) w)
  (h:∀(x:g7)(l:BL)(H1:Hp)(a:Sl)(b:Frag),x.fdeep=d->Hle H H1->l.length<=BB->RowL 5 1 B7 a (ib l) b->Ct Tryz.prog f cap H1 (bx g 83 (q8 g x a)::b::Fc) (PostW g x l Fc H1 t) noQE):CallW g d (.func (.func f) #[] cap.toArray) Fc H t:=by
 intro x l H1 hd l1 hl E w0 w ps H0 a b Kw hr I k
 refine e5A he (h x l H1 a b hd l1 hl hr) I ?_
 rintro v H' Fo w' I' ⟨y,l',a',b',rfl,rfl,hr',hy,hle,hw⟩
 exact k y l' H' a' b' w' hy hle hw hr' I'
end
theorem c3w{f:FuncId}{args:List Value}{g:Nat}{x:g7}{l:BL}{H:Hp}{a:Sl}{b:Frag}{t:BL}{K:g7->List Int->Hp->Prop}(k:∀y l' H',y.fdeep=x.fdeep->Hle H H'->Wt BB l t l'->K y (ib l') H')
  (h:Ct Tryz.prog f args H [bx g 83 (q8 g x a),b] (PostW g x l [] H t) noQE):Ct Tryz.prog f args H [bx g 83 (q8 g x a),b] (λv H' Fo=>∃(y0:g7)(c:List Int)(d:Sl)(e:Frag),v=Value.tuple #[]/\Fo=[bx g 83 (q8 g y0 d),e]/\RowL 5 1 B7 d c e/\K y0 c H') noQE:=
 h.mono (λv H' Fo _ ⟨y,l',a',b',e1,e2,hr,hy,hle,hw⟩=>⟨y,ib l',a',b',e1,e2,hr,k y l' H' hy hle hw⟩) λ_ _ _ _ q=>q
theorem c7O{H:Hp}{e:l9}{t:BL}(ih:WOk H (λx f H K=>N0 x f e H K) t){below:Int}(hlv:∀(H:Hp)(K:KT Int),K (lvE e.d9) H->a2l e.d9 H K):WOk H (λx f H K=>a1Z x f e below H K) (par (decide (lvE e.d9 < below)) 40 41 t):=by
 intro x l H1 K hle hl k g a b hr
 refine c3w k (Ct.of λw0 w ps0 H0 R E I hR=>e3z ?_)
 refine D3 I rfl λga w1 I1 _=>D3 I1 rfl λgd w2 I2 _=>L6 I2 λw3 I3=>g8 W7 (g8 (Q7 _ _ _) ?_)
 refine s7 (l1 isAgg77 (v:=rW g) (I3.bring 1) rfl) (s7 (l1 isAgg3 (v:=vi e.d9) I3 rfl) ?_)
 refine f7 (Fi:=[]) call82 (hlv H1 (λv H'=>v=lvE e.d9/\H'=H1) ⟨rfl,rfl⟩) I3 ?_
 rintro _ H2 _ w4 I4 _ _ ⟨_,rfl,rfl,rfl,rfl⟩
 refine ⟨(Inv.hp1 (I4.bring 1)).trans (Inv.hp1 (I3.bring 1)).symm,?_⟩
 refine g8 (D1 _ _ _ _ _ _) ?_
 have I5:Inv w0 ps0 H0 H2 (bx g 83 (q8 g x a)::b::[bx gd 112 (g9 e),bx ga 77 [rW g]]) w4:=(I4.bring 3).bring 3
 have hv:CallW g x.fdeep (.func (.func 120) #[] [rW ga,rW gd].toArray) [bx gd 112 (g9 e),bx ga 77 [rW g]] H2 t:=by
  intro x l H1 hd h1
  refine CallW.of (d:=x.fdeep) (λargs w=>call120 args w) (λx l H1 a b hd h1 hl hr=>?_) x l H1 rfl h1
  refine Ct.of λw0 w ps0 H0 R E I hR=>d8Y (d7 (l1 isAgg77 (v:=rW g) (I.bring 3) rfl) ?_)
  refine d7 (lW isAgg112 sizeOf112 rfl (I.bring 2)) (s_w call48 ih (hle.trans h1) (λK h=>h _ _ _ hr) hl I λy l' H' a' b' w' hy l2 hw hr' I'=>?_)
  exact hR _ H' _ _ I' ⟨y,l',a',b',rfl,rfl,hr',hy,l2,hw⟩
 refine f7 (Fr:=[]) call119 (c5f hv hl hr) I5 ?_
 rintro _ H3 _ w6 I6 _ _ ⟨y,l',a',b',rfl,rfl,hr',hy,l2,hw⟩
 exact hR _ H3 _ _ ((I6.bring 3).bring 3).drop.drop ⟨y,l',a',b',rfl,rfl,hr',hy,l2,hw⟩
theorem c4y{H:Hp}{e:p5}{t:BL}(ih:WOk H (λx f H K=>V9 x f e H K) t){below:Int}(hlv:∀(H:Hp)(K:KT Int),K (lvC e.d9) H->a2m e.d9 H K):WOk H (λx f H K=>a1H x f e below H K) (par (decide (lvC e.d9 < below)) 91 93 t):=by
 intro x l H1 K hle hl k g a b hr
 refine c3w k (Ct.of λw0 w ps0 H0 R E I hR=>d9a ?_)
 refine D3 I rfl λga w1 I1 _=>D3 I1 rfl λgd w2 I2 _=>L6 I2 λw3 I3=>g8 a8t (g8 (Q7 _ _ _) ?_)
 refine s7 (l1 isAgg77 (v:=rW g) (I3.bring 1) rfl) (s7 (l1 isAgg3 (v:=vi e.d9) I3 rfl) ?_)
 refine f7 (Fi:=[]) call121 (hlv H1 (λv H'=>v=lvC e.d9/\H'=H1) ⟨rfl,rfl⟩) I3 ?_
 rintro _ H2 _ w4 I4 _ _ ⟨_,rfl,rfl,rfl,rfl⟩
 refine ⟨(Inv.hp1 (I4.bring 1)).trans (Inv.hp1 (I3.bring 1)).symm,?_⟩
 refine g8 (D1 _ _ _ _ _ _) ?_
 have I5:Inv w0 ps0 H0 H2 (bx g 83 (q8 g x a)::b::[bx gd 115 (l7 e),bx ga 77 [rW g]]) w4:=(I4.bring 3).bring 3
 have hv:CallW g x.fdeep (.func (.func 158) #[] [rW ga,rW gd].toArray) [bx gd 115 (l7 e),bx ga 77 [rW g]] H2 t:=by
  intro x l H1 hd h1
  refine CallW.of (d:=x.fdeep) (λargs w=>call158 args w) (λx l H1 a b hd h1 hl hr=>?_) x l H1 rfl h1
  refine Ct.of λw0 w ps0 H0 R E I hR=>d9D (d7 (l1 isAgg77 (v:=rW g) (I.bring 3) rfl) ?_)
  refine d7 (lW isAgg115 sizeOf115 rfl (I.bring 2)) (s_w call87 ih (hle.trans h1) (λK h=>h _ _ _ hr) hl I λy l' H' a' b' w' hy l2 hw hr' I'=>?_)
  exact hR _ H' _ _ I' ⟨y,l',a',b',rfl,rfl,hr',hy,l2,hw⟩
 refine f7 (Fr:=[]) call119 (c5f hv hl hr) I5 ?_
 rintro _ H3 _ w6 I6 _ _ ⟨y,l',a',b',rfl,rfl,hr',hy,l2,hw⟩
 exact hR _ H3 _ _ ((I6.bring 3).bring 3).drop.drop ⟨y,l',a',b',rfl,rfl,hr',hy,l2,hw⟩
theorem c2g{H:Hp}{s:Sl}{ps:List BA}{d:Nat}(hd2:d<=1000)(hs:SlH H 1 v7 s ps)(hp:∀p∈ps,p.size<=1048576)(hn:ps.length<=100):WOk H (λx f H K=>x.fdeep=(d:Int)->a3V x f s H K) (lineT d (ps.map (·.data.toList)).flatten):=by
 intro x l H1 K hle hl k hd g a b hr
 refine c3w k (Ct.of λw0 w ps0 H0 R E I hR=>e2j ?_)
 refine D3 I rfl λga w1 I1 _=>D3 I1 rfl λgd w2 I2 _=>d7 (l1 isAgg77 (v:=rW g) (I2.bring 1) rfl) (c7 (Q7 _ _ _) ?_)
 have hv:CallW g x.fdeep (.func (.func 44) #[] [rW ga,rW gd].toArray) [bx gd 28 [vs s],bx ga 77 [rW g]] H1 (ps.map (·.data.toList)).flatten:=by
  intro x l H1 hd h1
  refine CallW.of (d:=x.fdeep) (λargs w=>call44 args w) (λx l H1 a b hd h1 hl hr=>?_) x l H1 rfl h1
  refine Ct.of λw0 w ps0 H0 R E I hR=>e2J (d7 (l1 isAgg77 (v:=rW g) (I.bring 3) rfl) ?_)
  refine d7 (l1 isAgg28 (v:=vs s) (I.bring 2) rfl) (s_w call45 (a8V hs hp hn) (hle.trans h1) (λK h=>h _ _ _ hr) hl I λy l' H' a' b' w' hy l2 hw hr' I'=>?_)
  exact hR _ H' _ _ I' ⟨y,l',a',b',rfl,rfl,hr',hy,l2,hw⟩
 refine f7 (Fr:=[]) call43 (c4x hd hd2 hv hl hr) ((I2.bring 3).bring 3) ?_
 rintro _ H3 _ w6 I6 _ _ ⟨y,l',a',b',rfl,rfl,hr',hy,l2,hw⟩
 exact hR _ H3 _ _ ((I6.bring 3).bring 3).drop.drop ⟨y,l',a',b',rfl,rfl,hr',hy,l2,hw⟩
theorem c0b{H:Hp}{e:p5}{t:BL}{wd en:BA}{d:Nat}(hd2:d<=1000)(hw1:wd.size<=1048576)(he1:en.size<=1048576)(ih:WOk H (λx f H K=>V9 x f e H K) t):WOk H (λx f H K=>x.fdeep=(d:Int)->b2i x f wd e en H K) (lineT d (wd.data.toList++[32]++t++en.data.toList)):=by
 intro x l H1 K hle hl k hd g a b hr
 refine c3w k (Ct.of λw0 w ps0 H0 R E I hR=>e2P ?_)
 refine D3 I rfl λga w1 I1 _=>D3 I1 rfl λgb w2 I2 _=>D3 I2 rfl λgc w3 I3 _=>D3 I3 rfl λgd w4 I4 _=>d7 (l1 isAgg77 (v:=rW g) (I4.bring 3) rfl) (c7 (Q7 _ _ _) ?_)
 have hv:CallW g x.fdeep (.func (.func 86) #[] [rW ga,rW gb,rW gc,rW gd].toArray) [bx gd 9 [.string en],bx gc 115 (l7 e),bx gb 9 [.string wd],bx ga 77 [rW g]] H1 (wd.data.toList++[32]++t++en.data.toList):=by
  intro x l H1 hd h1
  refine CallW.of (d:=x.fdeep) (λargs w=>call86 args w) (λx l H1 a b hd h1 hl hr=>?_) x l H1 rfl h1
  refine Ct.of λw0 w ps0 H0 R E I hR=>e3B (d7 (l1 isAgg77 (v:=rW g) (I.bring 5) rfl) ?_)
  refine d7 (l1 isAgg9 (v:=.string wd) (I.bring 4) rfl) (s_put (b6S _ _) (pieces:=[wd,⟨#[32]⟩]) rfl rfl (by decide) hr hl (λp h=>?_) I λy2 m2 H2 a2 b2 w2 hy2 l2 hw2 hr2 I2=>?_)
  ·rcases List.mem_cons.1 h with rfl | h
   ·exact hw1
   ·rw [List.mem_singleton.1 h];decide
  refine d7 (l1 isAgg77 (v:=rW g) (I2.bring 5) rfl) (d7 (lW isAgg115 sizeOf115 rfl (I2.bring 3)) ?_)
  refine s_w call87 ih ((hle.trans h1).trans l2) (λK h=>h _ _ _ hr2) (hw2.bound (by decide)) I2 λy3 m3 H3 a3 b3 w3 hy3 l3 hw3 hr3 I3=>d7 (l1 isAgg77 (v:=rW g) (I3.bring 5) rfl) (d7 (l1 isAgg9 (v:=.string en) (I3.bring 2) rfl) ?_)
  refine s_put (a0L _) (pieces:=[en]) rfl rfl (by decide) hr3 (hw3.bound (by decide)) (λp h=>by rw [List.mem_singleton.1 h];exact he1) I3 λy4 m4 H4 a4 b4 w4 hy4 l4 hw4 hr4 I4=>?_
  rw [a6h] at hw4
  refine hR _ H4 _ _ I4 ⟨y4,m4,a4,b4,rfl,rfl,hr4,hy4.trans (hy3.trans hy2),(l2.trans l3).trans l4,?_⟩
  have:=(hw2.trans hw3).trans hw4
  simpa using this
 refine f7 (Fr:=[]) call43 (c4x hd hd2 hv hl hr) ((I4.bring 5).bring 5) ?_
 rintro _ H3 _ w6 I6 _ _ ⟨y,l',a',b',rfl,rfl,hr',hy,l2,hw⟩
 exact hR _ H3 _ _ ((((I6.bring 5).drop.bring 4).drop.bring 3).drop.bring 2).drop ⟨y,l',a',b',rfl,rfl,hr',hy,l2,hw⟩
theorem c8A{k n a:Int}{s:BA}(h:formE k n s a=true):(k=1/\0<=n/\a=0)\/(k=2/\a=0)\/(k=3/\a=0)\/(k=4/\a=1)\/(k=5/\a=1)\/((k=6\/k=7\/k=8\/k=9\/k=10)/\a=2):=by
 unfold formE at h
 split at h
 ·cases h
 split at h
 ·rename_i c
  simp only [Bool.and_eq_true,decide_eq_true_eq] at h
  exact .inl ⟨c,h⟩
 split at h
 ·rename_i c
  rw [decide_eq_true_eq] at h
  rcases c with c | c
  ·exact .inr (.inl ⟨c,h⟩)
  ·exact .inr (.inr (.inl ⟨c,h⟩))
 split at h
 ·rename_i c
  rw [decide_eq_true_eq] at h
  rcases c with c | c
  ·exact .inr (.inr (.inr (.inl ⟨c,h⟩)))
  ·exact .inr (.inr (.inr (.inr (.inl ⟨c,h⟩))))
 split at h
 ·rename_i c
  rw [decide_eq_true_eq] at h
  exact .inr (.inr (.inr (.inr (.inr ⟨c,h⟩))))
 ·cases h
theorem c8B{k op e p:Int}(h:formC k op e p=true):((k=1\/k=2)/\e=0/\p=0)\/(k=3/\1<=op/\op<=6/\e=2/\p=0)\/(k=4/\e=0/\p=1)\/((k=5\/k=6)/\e=0/\p=2):=by
 unfold formC at h
 split at h
 ·rename_i c
  simp only [Bool.and_eq_true,decide_eq_true_eq] at h
  exact .inr (.inl ⟨c,h.1.1,h.1.2,h.2⟩)
 split at h
 ·split at h
  ·rename_i c
   rw [decide_eq_true_eq] at h
   exact .inl ⟨c,h⟩
  split at h
  ·rename_i c
   rw [decide_eq_true_eq] at h
   exact .inr (.inr (.inl ⟨c,h⟩))
  split at h
  ·rename_i c
   rw [decide_eq_true_eq] at h
   exact .inr (.inr (.inr ⟨c,h⟩))
  ·cases h
 ·cases h
theorem EH.kind{H:Hp}{e:l9}{t:PT}(h:EH H e t):kindT t=e.d9:=by cases h;rfl
theorem CH.kind{H:Hp}{e:p5}{t:PT}(h:CH H e t):kindT t=e.d9:=by cases h;rfl
theorem c3x{k:Int}{H:Hp}{K:KT Int}(h:K (lvE k) H):a2l k H K:=by
 refine b5l _ ?_
 have j3:∀n:Int,K (IntKind.wrap .i64 (IntKind.wrap .i64 (n-1)-1)) H->a1t n H K:=λn h=>h
 have j4:∀b:Bool,b=decide (k=6\/k=7)->Z4 4 k b H K:=by
  intro b hb
  refine ⟨λq=>j3 _ ?_,λq=>?_⟩
  ·rw [q] at hb
   have hb:=of_decide_eq_true hb.symm
   rw [show lvE k=1 by unfold lvE;rw [if_pos hb]] at h
   exact h
  ·rw [q] at hb
   have n67:=of_decide_eq_false hb.symm
   have j5:∀b:Bool,b=decide (k=8\/k=9\/k=10)->U8 4 k b H K:=by
    intro b hb
    refine ⟨λq=>j3 _ ?_,λq=>?_⟩
    ·rw [q] at hb
     have hb:=of_decide_eq_true hb.symm
     rw [show lvE k=2 by unfold lvE;rw [if_neg n67,if_pos hb]] at h
     exact h
    ·rw [q] at hb
     have n8:=of_decide_eq_false hb.symm
     refine ⟨λe5=>?_,λe5=>?_⟩
     ·rw [show lvE k=3 by unfold lvE;rw [if_neg n67,if_neg n8,if_pos e5]] at h
      exact h
     ·rw [show lvE k=4 by unfold lvE;rw [if_neg n67,if_neg n8,if_neg e5]] at h
      exact h
   exact ⟨λe=>j5 _ (decide_eq_decide.2 (by omega)),λe=>⟨λe=>j5 _ (decide_eq_decide.2 (by omega)),λe=>j5 _ (decide_eq_decide.2 (by omega))⟩⟩
 exact ⟨λe=>j4 _ (decide_eq_decide.2 (by omega)),λe=>j4 _ (decide_eq_decide.2 (by omega))⟩
theorem c3y{k:Int}{H:Hp}{K:KT Int}(h:K (lvC k) H):a2m k H K:=by
 refine b5H _ ⟨λe=>?_,λe=>⟨λe5=>?_,λe5=>?_⟩⟩
 ·rw [show lvC k=1 by unfold lvC;rw [if_pos e]] at h;exact h
 ·rw [show lvC k=2 by unfold lvC;rw [if_neg e,if_pos e5]] at h;exact h
 ·rw [show lvC k=3 by unfold lvC;rw [if_neg e,if_neg e5]] at h;exact h
theorem e1o{k:Int}(hk:k=6\/k=7\/k=8\/k=9\/k=10){H:Hp}{K:KT BA}(h:K ⟨(sgnE k).toArray⟩ H):a5J k H K:=by
 rcases hk with rfl | rfl | rfl | rfl | rfl<;>exact b6d _ ⟨by decide,by decide,h⟩
theorem d6K{op:Int}(h0:1<=op)(h1:op<=6):(0:Int)<=IntKind.wrap .i64 (op-1)/\IntKind.wrap .i64 (op-1) < 6/\(([⟨#[60]⟩,⟨#[60,61]⟩,⟨#[61,61]⟩,⟨#[33,61]⟩,⟨#[62]⟩,⟨#[62,61]⟩]:List BA).getD (IntKind.wrap .i64 (op-1):Int).toNat ⟨#[]⟩)=⟨(sgnC op).toArray⟩:=by
 have:op=1\/op=2\/op=3\/op=4\/op=5\/op=6:=by omega
 rcases this with rfl | rfl | rfl | rfl | rfl | rfl<;>exact ⟨by decide,by decide,rfl⟩
theorem b3G{α:Type}{l:List α}(h:l.length=2):∃a b,l=[a,b]:=by
 match l,h with
 | [a,b],_=>exact ⟨a,b,rfl⟩
theorem a5B{α:Type}{l:List α}(h:l.length=1):∃a,l=[a]:=by
 match l,h with
 | [a],_=>exact ⟨a,rfl⟩
theorem b1R{a:BA}(h:a.size<=1048576):∀p∈[a],p.size<=1048576:=λp hp=>by rw [List.mem_singleton.1 hp];exact h
theorem d1M{a b:BA}(h:a.size<=1048576)(h2:b.size<=1048576):∀p∈[a,b],p.size<=1048576:=λp hp=>by
 rcases List.mem_cons.1 hp with rfl | hp
 ·exact h
 ·exact b1R h2 p hp
theorem e5B{a b c:BA}(h:a.size<=1048576)(h2:b.size<=1048576)(h3:c.size<=1048576):∀p∈[a,b,c],p.size<=1048576:=λp hp=>by
 rcases List.mem_cons.1 hp with rfl | hp
 ·exact h
 ·exact d1M h2 h3 p hp
theorem e1p(k:Int):(⟨(sgnE k).toArray⟩:BA).size<=1048576:=by
 unfold sgnE
 (repeat' split)<;>exact Nat.le_of_ble_eq_true rfl
theorem e1q(k:Int):(⟨(sgnC k).toArray⟩:BA).size<=1048576:=by
 unfold sgnC
 (repeat' split)<;>exact Nat.le_of_ble_eq_true rfl
theorem e6W(k:Int):1<=lvE k/\lvE k<=4:=by
 unfold lvE
 (repeat' split)<;>omega
theorem e6X(k:Int):1<=lvC k/\lvC k<=3:=by
 unfold lvC
 (repeat' split)<;>omega
section
variable {H:Hp}
theorem c7P(hP:PowH H){e:l9}{t:PT}(he:EH H e t):formT t=true->Sm t->WOk H (λx f H K=>N0 x f e H K) (tx Lib.itoa t):=by
 induction he with
 | @mk e xs ts hs hb hl hc ih=>
  intro hf hS x l H1 K hle hl1 k
  cases hS with | mk hsm hss=>
  rw [formT,Bool.and_eq_true] at hf
  obtain ⟨hf,hfs⟩:=hf
  have hfc:=c8A (show formE e.d9 e.A6 e.o7 (ts.length:Int)=true from hf)
  have hname:e.o7.size<=1048576:=hsm.1
  have hnum:e.A6<=9223372036854775807:=hsm.2.2
  have hn:(e.L8.n:Int)=(ts.length:Int):=by have:=hs.1;omega
  have kid:∀(i:Nat)(t:PT),ts[i]? = some t->formT t=true->∃v,EltH H e.L8 i 4 (g9 v)/\kindT t=v.d9/\WOk H (λx f H K=>N0 x f v H K) (tx Lib.itoa t):=λi t ht hft=>by
   obtain ⟨v,hv⟩:=K2 (l:=xs) (i:=i) (by have:=O1 ht;omega)
   exact ⟨v,hs.2 i v hv,(hc i v t hv ht).kind,ih i v t hv ht hft (hss t (List.mem_of_getElem? ht))⟩
  refine b3T _ _ _ ?_
  rw [tx] at k
  refine c3x ⟨λe1=>?_,λn1=>⟨λe2=>?_,λn2=>⟨λe3=>?_,λn3=>⟨λe4=>?_,λn4=>⟨λe5=>?_,λn5=>?_⟩⟩⟩⟩⟩
  ·have h0:0<=e.A6:=by omega
   rw [labT,if_pos e1] at k
   refine e4G (hP.le hle) h0 hnum λs c hc hs _=>a8V hs (b1R (Nat.le_trans (d8e h0 hnum) (by decide))) (by simp) _ l c _ (Hle.refl _) hl1 λy l' H' hy h2 hw=>k _ l' H' hy (hc.trans h2) ?_
   rwa [a6h] at hw
  ·rw [labT,if_neg n1,if_pos e2] at k
   intro s c hc hs _
   refine a8V hs (b1R hname) (by simp) _ l c _ (Hle.refl _) hl1 λy l' H' hy h2 hw=>k _ l' H' hy (hc.trans h2) ?_
   rwa [a6h] at hw
  ·rw [labT,if_neg n1,if_neg n2,if_pos e3] at k
   intro s c hc hs _
   refine a8V hs (b1R (by decide)) (by simp) _ l c _ (Hle.refl _) hl1 λy l' H' hy h2 hw=>k _ l' H' hy (hc.trans h2) ?_
   rwa [a6h] at hw
  ·rw [labT,if_neg n1,if_neg n2,if_neg n3,if_pos e4] at k
   obtain ⟨t1,rfl⟩:=a5B (l:=ts) (by omega)
   rw [formTs,Bool.and_eq_true] at hfs
   obtain ⟨v,hv,hk,hw1⟩:=kid 0 t1 rfl hfs.1
   rw [txs,txs] at k
   intro s c hc hs _
   refine a8V hs (d1M hname (by decide)) (by simp) _ l c _ (Hle.refl _) hl1 λy l' H' hy h2 hw=>?_
   refine ⟨by omega,by rw [hn];simp only [List.length_cons,List.length_nil];omega,v,hv.le (hle.trans (hc.trans h2)),hw1 _ l' H' _ (hle.trans (hc.trans h2)) (hw.bound (by decide)) λy2 l2 H2 hy2 h3 hw2=>?_⟩
   intro s3 c3 hc3 hs3 _
   refine a8V hs3 (b1R (by decide)) (by simp) _ l2 c3 _ (Hle.refl _) (hw2.bound (by decide)) λy4 l4 H4 hy4 h4 hw4=>k _ l4 H4 (hy4.trans (hy2.trans hy)) (((hc.trans h2).trans h3).trans (hc3.trans h4)) ?_
   have:=(hw.trans hw2).trans hw4
   simpa using this
  ·rw [labT,if_neg n1,if_neg n2,if_neg n3,if_neg n4,if_pos e5] at k
   obtain ⟨t1,rfl⟩:=a5B (l:=ts) (by omega)
   rw [formTs,Bool.and_eq_true] at hfs
   obtain ⟨v,hv,hk,hw1⟩:=kid 0 t1 rfl hfs.1
   rw [txs,txs] at k
   intro s c hc hs _
   refine a8V hs (b1R (by decide)) (by simp) _ l c _ (Hle.refl _) hl1 λy l' H' hy h2 hw=>?_
   refine ⟨by omega,by rw [hn];simp only [List.length_cons,List.length_nil];omega,v,hv.le (hle.trans (hc.trans h2)),c7O hw1 (λH K h=>c3x h) _ l' H' _ (hle.trans (hc.trans h2)) (hw.bound (by decide)) λy2 l2 H2 hy2 h3 hw2=>k _ l2 H2 (hy2.trans hy) ((hc.trans h2).trans h3) ?_⟩
   have:=hw.trans hw2
   rw [a6h,e5,← hk] at this
   exact this
  ·have hk6:(e.d9=6\/e.d9=7\/e.d9=8\/e.d9=9\/e.d9=10)/\(ts.length:Int)=2:=by omega
   rw [labT,if_neg n1,if_neg n2,if_neg n3,if_neg n4,if_neg n5] at k
   obtain ⟨t1,t2,rfl⟩:=b3G (l:=ts) (by omega)
   rw [formTs,formTs,Bool.and_eq_true,Bool.and_eq_true] at hfs
   obtain ⟨v,hv,hk,hw1⟩:=kid 0 t1 rfl hfs.1
   obtain ⟨v2,hv2,hk2,hw2⟩:=kid 1 t2 rfl hfs.2.1
   rw [txs,txs,txs] at k
   refine ⟨by omega,by rw [hn];simp only [List.length_cons,List.length_nil];omega,v,hv.le hle,c7O hw1 (λH K h=>c3x h) _ l H1 _ hle hl1 λy3 l3 H3 hy3 h3 hw3=>?_⟩
   refine e1o hk6.1 ?_
   intro s c hc hs _
   refine a8V hs (e5B (by decide) (e1p _) (by decide)) (by simp) _ l3 c _ (Hle.refl _) (hw3.bound (by decide)) λy l' H' hy h2 hw=>?_
   have hH:=(hle.trans h3).trans (hc.trans h2)
   refine ⟨by omega,by rw [hn];simp only [List.length_cons,List.length_nil];omega,v2,hv2.le hH,c7O hw2 (λH K h=>c3x h) _ l' H' _ hH (hw.bound (by decide)) λy5 l5 H5 hy5 h5 hw5=>k _ l5 H5 (hy5.trans (hy.trans hy3)) ((h3.trans (hc.trans h2)).trans h5) ?_⟩
   have hl:=e6W e.d9
   have:=(hw3.trans hw).trans hw5
   rw [←hk,← hk2,show IntKind.wrap .i64 (lvE e.d9+1)=lvE e.d9+1 from S3 ⟨by omega,by omega⟩,show decide (lvE (kindT t2) < lvE e.d9+1)=decide (lvE (kindT t2)<=lvE e.d9) from decide_eq_decide.2 (by omega)] at this
   simpa using this
theorem d6L(hP:PowH H){e:p5}{t:PT}(he:CH H e t):formT t=true->Sm t->WOk H (λx f H K=>V9 x f e H K) (tx Lib.itoa t):=by
 induction he with
 | @mk e xs ts ys us hs hb hr hsy hby hl hc ih=>
  intro hf hS x l H1 K hle hl1 k
  cases hS with | mk hsm hss=>
  rw [formT,Bool.and_eq_true] at hf
  obtain ⟨hf,hfs⟩:=hf
  have hfc:=c8B (show formC e.d9 e.fOp (ts.length:Int) (us.length:Int)=true from hf)
  have hn:(e.z7.n:Int)=(ts.length:Int):=by have:=hs.1;have:=hr.1;omega
  have hm:(e.E9.n:Int)=(us.length:Int):=by have:=hsy.1;omega
  have kid:∀(i:Nat)(t:PT),us[i]? = some t->t∈ts++us->formT t=true->∃v,EltH H e.E9 i 4 (l7 v)/\kindT t=v.d9/\WOk H (λx f H K=>V9 x f v H K) (tx Lib.itoa t):=λi t ht hmem hft=>by
   obtain ⟨v,hv⟩:=K2 (l:=ys) (i:=i) (by have:=O1 ht;omega)
   exact ⟨v,hsy.2 i v hv,(hc i v t hv ht).kind,ih i v t hv ht hft (hss t hmem)⟩
  have kidE:∀(i:Nat)(t:PT),ts[i]? = some t->t∈ts++us->formT t=true->∃v,EltH H e.z7 i 4 (g9 v)/\WOk H (λx f H K=>N0 x f v H K) (tx Lib.itoa t):=λi t ht hmem hft=>by
   obtain ⟨v,hv⟩:=K2 (l:=xs) (i:=i) (by have:=O1 ht;have:=hr.1;omega)
   exact ⟨v,hs.2 i v hv,c7P hP (hr.2 i v t hv ht) hft (hss t hmem)⟩
  refine b4h _ _ _ ?_
  rw [tx] at k
  have j1:∀(ad:Option Addr),(e.d9=5\/e.d9=6)->us.length=2->ts=[]->X7 (lvC e.d9) (if e.d9=6 then ⟨#[32,124,124,32]⟩ else ⟨#[32,38,38,32]⟩) e ad (ib l) x.fdeep H1 K:=by
   intro ad h56 hu ht0
   subst ht0
   obtain ⟨t1,t2,rfl⟩:=b3G hu
   rw [List.nil_append,formTs,formTs,Bool.and_eq_true,Bool.and_eq_true] at hfs
   obtain ⟨v,hv,hk,hw1⟩:=kid 0 t1 rfl (by simp) hfs.1
   obtain ⟨v2,hv2,hk2,hw2⟩:=kid 1 t2 rfl (by simp) hfs.2.1
   rw [List.nil_append,labT,if_neg (by omega),if_neg (by omega),if_neg (by omega),if_neg (by omega),txs,txs,txs] at k
   refine ⟨by omega,by rw [hm];simp only [List.length_cons,List.length_nil];omega,v,hv.le hle,c4y hw1 (λH K h=>c3y h) _ l H1 _ hle hl1 λy3 l3 H3 hy3 h3 hw3=>?_⟩
   intro s c hc hs _
   refine a8V hs (b1R (by split<;>decide)) (by simp) _ l3 c _ (Hle.refl _) (hw3.bound (by decide)) λy l' H' hy h2 hw=>?_
   have hH:=(hle.trans h3).trans (hc.trans h2)
   refine ⟨by omega,by rw [hm];simp only [List.length_cons,List.length_nil];omega,v2,hv2.le hH,c4y hw2 (λH K h=>c3y h) _ l' H' _ hH (hw.bound (by decide)) λy5 l5 H5 hy5 h5 hw5=>k _ l5 H5 (hy5.trans (hy.trans hy3)) ((h3.trans (hc.trans h2)).trans h5) ?_⟩
   have hl:=e6X e.d9
   have:=(hw3.trans hw).trans hw5
   rw [a6h,← hk,← hk2,show IntKind.wrap .i64 (lvC e.d9+1)=lvC e.d9+1 from S3 ⟨by omega,by omega⟩,show decide (lvC (kindT t2) < lvC e.d9+1)=decide (lvC (kindT t2)<=lvC e.d9) from decide_eq_decide.2 (by omega),apply_ite (λs:BA=>s.data.toList)] at this
   exact this
  refine c3y ⟨λe1=>?_,λn1=>⟨λe2=>?_,λn2=>⟨λe3=>?_,λn3=>⟨λe4=>?_,λn4=>⟨λe6=>?_,λn6=>?_⟩⟩⟩⟩⟩
  ·rw [labT,if_pos e1] at k
   intro s c hc hs _
   refine a8V hs (b1R (by decide)) (by simp) _ l c _ (Hle.refl _) hl1 λy l' H' hy h2 hw=>k _ l' H' hy (hc.trans h2) ?_
   rwa [a6h] at hw
  ·rw [labT,if_neg n1,if_pos e2] at k
   intro s c hc hs _
   refine a8V hs (b1R (by decide)) (by simp) _ l c _ (Hle.refl _) hl1 λy l' H' hy h2 hw=>k _ l' H' hy (hc.trans h2) ?_
   rwa [a6h] at hw
  ·rw [labT,if_neg n1,if_neg n2,if_pos e3] at k
   obtain ⟨t1,t2,rfl⟩:=b3G (l:=ts) (by omega)
   obtain rfl:us=[]:=List.length_eq_zero_iff.1 (by omega)
   rw [List.append_nil,formTs,formTs,Bool.and_eq_true,Bool.and_eq_true] at hfs
   obtain ⟨v,hv,hw1⟩:=kidE 0 t1 rfl (by simp) hfs.1
   obtain ⟨v2,hv2,hw2⟩:=kidE 1 t2 rfl (by simp) hfs.2.1
   rw [List.append_nil,txs,txs,txs] at k
   obtain ⟨o1,o2,o3⟩:=d6K (op:=e.fOp) (by omega) (by omega)
   refine ⟨by omega,by rw [hn];simp only [List.length_cons,List.length_nil];omega,v,hv.le hle,hw1 _ l H1 _ hle hl1 λy3 l3 H3 hy3 h3 hw3=>⟨o1,o2,?_⟩⟩
   intro s c hc hs _
   rw [o3] at hs
   refine a8V hs (e5B (by decide) (e1q _) (by decide)) (by simp) _ l3 c _ (Hle.refl _) (hw3.bound (by decide)) λy l' H' hy h2 hw=>?_
   have hH:=(hle.trans h3).trans (hc.trans h2)
   refine ⟨by omega,by rw [hn];simp only [List.length_cons,List.length_nil];omega,v2,hv2.le hH,hw2 _ l' H' _ hH (hw.bound (by decide)) λy5 l5 H5 hy5 h5 hw5=>k _ l5 H5 (hy5.trans (hy.trans hy3)) ((h3.trans (hc.trans h2)).trans h5) ?_⟩
   have:=(hw3.trans hw).trans hw5
   simpa using this
  ·rw [labT,if_neg n1,if_neg n2,if_neg n3,if_pos e4] at k
   obtain rfl:ts=[]:=List.length_eq_zero_iff.1 (by omega)
   obtain ⟨t1,rfl⟩:=a5B (l:=us) (by omega)
   rw [List.nil_append,formTs,Bool.and_eq_true] at hfs
   obtain ⟨v,hv,hk,hw1⟩:=kid 0 t1 rfl (by simp) hfs.1
   rw [List.nil_append,txs,txs] at k
   intro s c hc hs _
   refine a8V hs (b1R (by decide)) (by simp) _ l c _ (Hle.refl _) hl1 λy l' H' hy h2 hw=>?_
   refine ⟨by omega,by rw [hm];simp only [List.length_cons,List.length_nil];omega,v,hv.le (hle.trans (hc.trans h2)),c4y hw1 (λH K h=>c3y h) _ l' H' _ (hle.trans (hc.trans h2)) (hw.bound (by decide)) λy2 l2 H2 hy2 h3 hw2=>k _ l2 H2 (hy2.trans hy) ((hc.trans h2).trans h3) ?_⟩
   have:=hw.trans hw2
   rw [a6h,e4,← hk] at this
   exact this
  ·have:=j1 x.O5.faddr (.inr e6) (by omega) (List.length_eq_zero_iff.1 (by omega))
   rw [if_pos e6] at this
   exact this
  ·have:=j1 x.O5.faddr (by omega) (by omega) (List.length_eq_zero_iff.1 (by omega))
   rw [if_neg n6] at this
   exact this
end
theorem c8C{k e c t f:Int}{s:BA}(h:formS k s e c t f=true):(k=1/\e=1/\c=0)\/(k=2/\e=2/\c=0)\/(k=3/\e=0/\c=1)\/(k=4/\e=0/\c=1)\/((k=5\/k=6)/\e=0/\c=1)\/(k=7/\e=0/\c=0):=by
 unfold formS at h
 (repeat' split at h)<;>first | (cases h;done) | (simp only [Bool.and_eq_true,decide_eq_true_eq] at h;omega)
section
variable (dec:Int->BL)
theorem a9z:∀(d:Nat)(a b:List PT),stxs dec d (a++b)=stxs dec d a++stxs dec d b
 | d,[],b=>by rw [List.nil_append,stxs,List.nil_append]
 | d,t::a,b=>by rw [List.cons_append,stxs,stxs,a9z d a b,List.cons_append]
theorem a9A:∀(d:Nat)(a:List PT),(stxs dec d a).length=a.length
 | d,[]=>by rw [stxs];rfl
 | d,t::a=>by rw [stxs,List.length_cons,List.length_cons,a9A d a]
theorem c5g{d:Nat}{ts:List PT}{i:Nat}{t:PT}(h:ts[i]? = some t):(stxs dec d (ts.take (i+1))).flatten=(stxs dec d (ts.take i)).flatten++stx dec d t:=by
 obtain ⟨hlt,rfl⟩:=List.getElem?_eq_some_iff.1 h
 rw [List.take_succ_eq_append_getElem hlt,a9z,List.flatten_append,stxs,stxs,List.flatten_cons,List.flatten_nil,List.append_nil]
theorem c7Q(d:Nat)(us ts va wa:List PT):((stxs dec d (us++(ts++(va++wa)))).drop (us.length+ts.length)).take va.length=stxs dec d va:=by
 rw [a9z,a9z,a9z,← List.append_assoc,List.drop_left' (by rw [List.length_append,a9A,a9A]),List.take_left' (a9A ..)]
theorem d6M(d:Nat)(us ts va wa:List PT):(stxs dec d (us++(ts++(va++wa)))).drop (us.length+ts.length+va.length)=stxs dec d wa:=by
 rw [a9z,a9z,a9z,← List.append_assoc,← List.append_assoc,List.drop_left' (by rw [List.length_append,List.length_append,a9A,a9A,a9A])]
end
section
variable {H:Hp}
theorem c5h{s:Sl}{zs:List i6}{va:List PT}{d:Nat}(hs:SlH H 6 q9 s zs)(hb:zs.length<=big)(hl:zs.length=va.length)(hd:d<=64)
  (ih:∀(i:Nat)(z:i6)(t:PT),zs[i]? = some z->va[i]? = some t->WOk H (λx f H K=>x.fdeep=((d+1:Nat):Int)->a1E x f z H K) (stx Lib.itoa (d+1) t)):WOk H (λx f H K=>x.fdeep=(d:Int)->a1s x f s H K) (stxs Lib.itoa (d+1) va).flatten:=by
 intro x l H1 K hle hl1 k hdx
 refine b3B _ _ _ ?_
 unfold a7n
 have hsn:=hs.1
 rw [hdx,show IntKind.wrap .i64 ((d:Int)+1)=((d+1:Nat):Int) by rw [K7 (by omega) (by omega)];omega]
 refine P7 (λst H'=>Hle H1 H'/\∃(i:Nat)(ad:Option Addr)(m:BL),i<=zs.length/\st=((i:Int),ad,ib m,((d+1:Nat):Int))/\Wt BB l (stxs Lib.itoa (d+1) (va.take i)).flatten m) (λst=>zs.length-st.1.toNat)
  ⟨Hle.refl _,0,x.O5.faddr,l,Nat.zero_le _,rfl,by rw [List.take_zero,stxs];exact Wt.nil hl1⟩ ?_
 rintro st H2 next ⟨l2,i,ad,m,hi,rfl,hw⟩ hnx
 unfold a2t
 refine ⟨λq=>?_,λq=>?_⟩
 ·obtain ⟨z,hz⟩:=K2 (l:=zs) (i:=i) (by omega)
  obtain ⟨t,ht⟩:=K2 (l:=va) (i:=i) (by omega)
  refine ⟨by omega,by omega,z,(hs.2 i z hz).le (hle.trans l2),ih i z t hz ht _ m H2 _ (hle.trans l2) (hw.bound (by decide)) (λy m3 H3 hy h3 hw3=>?_) rfl⟩
  rw [show IntKind.wrap .i64 ((i:Int)+1)=((i+1:Nat):Int) by simp only [big] at hb;rw [K7 (by omega) (by omega)];omega]
  exact hnx _ _ ⟨l2.trans h3,i+1,y.O5.faddr,m3,by omega,by rw [hy],by rw [c5g _ ht];exact hw.trans hw3⟩ (by dsimp only;omega)
 ·obtain rfl:i=zs.length:=by omega
  rw [hl,List.take_length] at hw
  unfold a2s
  rw [show IntKind.wrap .i64 (((d+1:Nat):Int)-1)=(d:Int) by rw [S3 ⟨by omega,by omega⟩];omega]
  exact k _ m H2 hdx.symm l2 hw
theorem c5F{s:BA}{d:Nat}(hd2:d<=1000)(hs:s.size<=1048576){E:Pan}{w0 w:World}{ps:Nat->Prop}{H0 H:Hp}{g:Nat}{x:g7}{a:Sl}{b:Frag}{l:BL}{Fr:List Frag}{K:Value->World->Prop}(hx:x.fdeep=(d:Int))(hr:RowL 5 1 B7 a (ib l) b)(hl:l.length<=BB)(I:Inv w0 ps H0 H (bx g 83 (q8 g x a)::b::Fr) w)
  (k:∀y l' H' a' b' w',y.fdeep=x.fdeep->Hle H H'->Wt BB l (lineT d s.data.toList) l'->RowL 5 1 B7 a' (ib l') b'->Inv w0 ps H0 H' (bx g 83 (q8 g y a')::b'::Fr) w'->K (.tuple #[]) w'):
  opK Tryz.prog E (xV (Instr.buildSlice 28 1 #[(0,.string s)])) w λv w1=>opK Tryz.prog E (xCall (.func (.func 22) #[] #[]) [rW g,v]) w1 K:=by
 refine O0 (xs:=[s]) (c:=v7) I (a0L _) rfl rfl N6 N7 (nb rfl) λs2 F w1 hr1 I1 _=>?_
 obtain ⟨H2,I2,l2,hs2,_⟩:=Inv.freezeC I1 hr1 (by decide)
 have hW:=c2g (d:=d) hd2 hs2 (b1R hs) (by simp)
 rw [a6h] at hW
 exact s_w call22 hW (Hle.refl _) (λK h=>h hx _ _ _ hr) hl I2 λy l' H' a' b' w' e1 e2 e3 e4 e5=>k y l' H' a' b' w' e1 (l2.trans e2) e3 e4 e5
theorem e1r(hP:PowH H){s:i6}{t:PT}(he:SH H s t):∀d:Nat,formT t=true->Sm t->dpT 64 t ((d+1:Nat):Int)->WOk H (λx f H K=>x.fdeep=(d:Int)->a1E x f s H K) (stx Lib.itoa d t):=by
 induction he with
 | @mk s xs ts ys us zs bs va wa hs hb hr hsy hby hry hz hzb hzl _ hB hBb hBl _ ih1 ih2=>
  intro d hf hS hdp x l H1 K hle hl1 k hdx g a b hr0
  cases hS with | mk hsm hss=>
  rw [formT,Bool.and_eq_true] at hf
  obtain ⟨hf,hfs⟩:=hf
  rw [dpT] at hdp
  obtain ⟨hd64,hdp⟩:=hdp
  have hd2:d<=1000:=by omega
  have hfc:=c8C (show formS s.d9 s.o7 (ts.length:Int) (us.length:Int) (va.length:Int) (wa.length:Int)=true from hf)
  have hname:s.o7.size<=1048576:=hsm.1
  have hn:(s.z7.n:Int)=(ts.length:Int):=by have:=hs.1;have:=hr.1;omega
  have hm:(s.D4.n:Int)=(us.length:Int):=by have:=hsy.1;have:=hry.1;omega
  have hen:(s.T6.n:Int)=(wa.length:Int):=by have:=hB.1;omega
  rw [a2u,a2u,a2u,Bool.and_eq_true,Bool.and_eq_true,Bool.and_eq_true] at hfs
  rw [b8E,b8E,b8E] at hdp
  rw [stx] at k
  have kidE:∀(i:Nat)(t:PT),ts[i]? = some t->formT t=true->∃v,EltH H s.z7 i 4 (g9 v)/\WOk H (λx f H K=>N0 x f v H K) (tx Lib.itoa t):=λi t ht hft=>by
   obtain ⟨v,hv⟩:=K2 (l:=xs) (i:=i) (by have:=O1 ht;have:=hr.1;omega)
   exact ⟨v,hs.2 i v hv,c7P hP (hr.2 i v t hv ht) hft (hss t (List.mem_append_right _ (List.mem_append_left _ (List.mem_of_getElem? ht))))⟩
  have kidC:∀(t:PT),us=[t]->∃v,EltH H s.D4 0 4 (l7 v)/\WOk H (λx f H K=>V9 x f v H K) (tx Lib.itoa t):=λt hu=>by
   subst hu
   obtain ⟨v,hv⟩:=K2 (l:=ys) (i:=0) (by have:=hry.1;simp only [List.length_cons,List.length_nil] at this;omega)
   have hft:=hfs.1
   rw [formTs,Bool.and_eq_true] at hft
   exact ⟨v,hsy.2 0 v hv,d6L hP (hry.2 0 v t hv rfl) hft.1 (hss t (List.mem_append_left _ (List.mem_singleton_self _)))⟩
  have dpl:∀(l:List PT)(i:Nat)(t:PT)(n:Int),dpTs 64 l n->l[i]? = some t->dpT 64 t n:=by
   intro l
   induction l with
   | nil=>intro i t n _ h;simp at h
   | cons u l ih=>
    intro i t n hd h
    rw [dpTs] at hd
    cases i with
    | zero=>simp only [List.getElem?_cons_zero,Option.some.injEq] at h;rw [←h];exact hd.1
    | succ i=>exact ih i t n hd.2 (by simpa using h)
  have fml:∀(l:List PT)(i:Nat)(t:PT),formTs l=true->l[i]? = some t->formT t=true:=by
   intro l
   induction l with
   | nil=>intro i t _ h;simp at h
   | cons u l ih=>
    intro i t hd h
    rw [formTs,Bool.and_eq_true] at hd
    cases i with
    | zero=>simp only [List.getElem?_cons_zero,Option.some.injEq] at h;rw [←h];exact hd.1
    | succ i=>exact ih i t hd.2 (by simpa using h)
  have blk1:WOk H (λx f H K=>x.fdeep=(d:Int)->a1s x f s.T5 H K) (stxs Lib.itoa (d+1) va).flatten:=
   c5h hz hzb hzl (by omega) λi z t h1 h2=>ih1 i z t h1 h2 (d+1) (fml va i t hfs.2.2.1 h2) (hss t (by simp [List.mem_of_getElem? h2])) (dpl va i t _ hdp.2.2.1 h2)
  have blk2:WOk H (λx f H K=>x.fdeep=(d:Int)->a1s x f s.T6 H K) (stxs Lib.itoa (d+1) wa).flatten:=
   c5h hB hBb hBl (by omega) λi z t h1 h2=>ih2 i z t h1 h2 (d+1) (fml wa i t hfs.2.2.2 h2) (hss t (by simp [List.mem_of_getElem? h2])) (dpl wa i t _ hdp.2.2.2 h2)
  refine c3w k (Ct.of λw0 w ps0 H0 R E I hR=>e2k ?_)
  refine D3 I rfl λga w1 I1 _=>D3 I1 rfl λgs w2 I2 _=>?_
  have J:Inv w0 ps0 H0 H1 (bx g 83 (q8 g x a)::b::[bx gs 55 (q9 s),bx ga 77 [rW g]]) w2:=(I2.bring 3).bring 3
  clear I I1 I2
  refine d7 (l1 isAgg77 (v:=rW g) (J.bring 3) rfl) (f7 (Fi:=[bx g 83 (q8 g x a),b]) (Fr:=[bx gs 55 (q9 s),bx ga 77 [rW g]]) call25 (c4h (K:=λv H'=>v=decide (65536 < l.length)/\H'=H1) ⟨rfl,rfl⟩ g a b hr0) J ?_)
  rintro _ H2 _ w3 J3 _ _ ⟨_,rfl,rfl,rfl,rfl⟩
  have fin:∀(y:g7)(m:BL)(H':Hp)(a':Sl)(b':Frag)(w':World)(t:BL),y.fdeep=x.fdeep->Hle H2 H'->Wt BB l t m->t=labS d (.stmt s.d9 s.o7 ts.length us.length va.length wa.length) (txs Lib.itoa (us++(ts++(va++wa)))) (stxs Lib.itoa (d+1) (us++(ts++(va++wa))))->RowL 5 1 B7 a' (ib m) b'->
    Inv w0 ps0 H0 H' (bx g 83 (q8 g y a')::b'::[bx gs 55 (q9 s),bx ga 77 [rW g]]) w'->R (.tuple #[]) w':=λy m H' a' b' w' t hy hh hw ht hr' I'=>
   hR _ H' _ _ ((I'.bring 3).drop.bring 2).drop ⟨y,m,a',b',rfl,rfl,hr',hy,hh,ht ▸ hw⟩
  refine Z5 (λc=>?_) (λc=>?_)
  ·exact fin x l H2 a b _ _ rfl (Hle.refl _) (Wt.full (of_decide_eq_true c) hl1) rfl hr0 J3
  clear c
  have lineS:∀(f:FuncId)(t:BL)(w:World)(he:∀args w,(callFunc f args).run Tryz.prog w=.ok (.enter f args) w),Inv w0 ps0 H0 H2 (bx g 83 (q8 g x a)::b::[bx gs 55 (q9 s),bx ga 77 [rW g]]) w->lineT d t=labS d (.stmt s.d9 s.o7 ts.length us.length va.length wa.length) (txs Lib.itoa (us++(ts++(va++wa)))) (stxs Lib.itoa (d+1) (us++(ts++(va++wa))))->
    (∀(x:g7)(l:BL)(H1:Hp)(a:Sl)(b:Frag),Hle H2 H1->l.length<=BB->RowL 5 1 B7 a (ib l) b->Ct Tryz.prog f [rW ga,rW gs] H1 (bx g 83 (q8 g x a)::b::[bx gs 55 (q9 s),bx ga 77 [rW g]]) (PostW g x l [bx gs 55 (q9 s),bx ga 77 [rW g]] H1 t) noQE)->
    opK Tryz.prog E (xV (Instr.makeFunc (.func f) #[] #[rW ga,rW gs])) w λv w1=>opK Tryz.prog E (xCall (.func (.func 43) #[] #[]) [rW g,v]) w1 λ_ w'=>R (.tuple #[]) w':=by
   intro f t w he J ht h
   refine c7 (Q7 _ _ _) ?_
   have hv:CallW g x.fdeep (.func (.func f) #[] [rW ga,rW gs].toArray) [bx gs 55 (q9 s),bx ga 77 [rW g]] H2 t:=by
    intro x l H1 hd h1
    exact CallW.of (d:=x.fdeep) (λargs w=>he args w) (λx l H1 a b hd h1 hl hr=>h x l H1 a b h1 hl hr) x l H1 rfl h1
   refine f7 (Fr:=[]) call43 (c4x hdx hd2 hv hl1 hr0) J ?_
   rintro _ H3 _ w6 I6 _ _ ⟨y,l',a',b',rfl,rfl,hr',hy,l2,hw⟩
   exact fin y l' H3 a' b' _ _ hy l2 hw ht hr' I6
  refine c7 a1d (d7 (l1 isAgg3 (v:=vi s.d9) (J3.bring 2) rfl) ?_)
  refine c7 (o9 _ _ _ _ _ _) (X2 (λe1=>?_) (λn1=>?_))
  ·refine d7 (l1 isAgg77 (v:=rW g) (J3.bring 3) rfl) ?_
   obtain ⟨t1,rfl⟩:=a5B (l:=ts) (by omega)
   obtain rfl:us=[]:=List.length_eq_zero_iff.1 (by omega)
   have hft:=hfs.2.1
   rw [formTs,Bool.and_eq_true] at hft
   obtain ⟨v,hv,hw1⟩:=kidE 0 t1 rfl hft.1
   refine lineS 47 (s.o7.data.toList++[32,61,32]++tx Lib.itoa t1++[59]) w3 call47 J3 (by rw [labS,if_pos e1,List.nil_append,List.cons_append,txs];rfl) ?_
   intro x l H1 a b h1 hl hr
   refine Ct.of λw0 w ps0 H0 R E I hR=>e2M (d7 (l1 isAgg77 (v:=rW g) (I.bring 3) rfl) ?_)
   refine c7 a2j (d7 (l1 isAgg9 (v:=.string s.o7) (I.bring 2) rfl) ?_)
   refine s_put (b6S _ _) (pieces:=[s.o7,⟨#[32,61,32]⟩]) rfl rfl (by decide) hr hl (d1M hname (by decide)) I λy2 m2 H3 a2 b2 w2 hy2 l2 hw2 hr2 I2=>L6 I2 λw4 I4=>g8 a1A (s7 (l1 isAgg77 (v:=rW g) (I4.bring 3) rfl) ?_)
   refine s7 (l1 isAgg52 (v:=vs s.z7) (I4.bring 2) rfl) ?_
   obtain ⟨g1,o1,ha1,hat1⟩:=hv
   refine g8 (Z7 ha1 _ _ _ _ (by omega) (by rw [hn];simp only [List.length_cons,List.length_nil];omega)) ?_
   refine s7 (ldA (vs:=g9 v) isAgg112 sizeOf112 rfl (I4.atH (hat1.le ((hle.trans h1).trans l2)))) (s_w call48 hw1 ((hle.trans h1).trans l2) (λK h=>h _ _ _ hr2) (hw2.bound (by decide)) I4 λy3 m3 H4 a3 b3 w5 hy3 l3 hw3 hr3 I5=>c0P ?_)
   refine d7 (l1 isAgg77 (v:=rW g) (I5.bring 3) rfl) (s_put (a0L _) (pieces:=[⟨#[59]⟩]) rfl rfl (by decide) hr3 (hw3.bound (by decide)) (b1R (by decide)) I5 λy4 m4 H5 a4 b4 w6 hy4 l4 hw4 hr4 I6=>?_)
   rw [a6h] at hw4
   refine hR _ H5 _ _ I6 ⟨y4,m4,a4,b4,rfl,rfl,hr4,hy4.trans (hy3.trans hy2),(l2.trans l3).trans l4,?_⟩
   have:=(hw2.trans hw3).trans hw4
   simpa using this
  refine c7 (o9 _ _ _ _ _ _) (X2 (λe2=>?_) (λn2=>?_))
  ·refine d7 (l1 isAgg77 (v:=rW g) (J3.bring 3) rfl) ?_
   obtain ⟨t1,t2,rfl⟩:=b3G (l:=ts) (by omega)
   obtain rfl:us=[]:=List.length_eq_zero_iff.1 (by omega)
   have hft:=hfs.2.1
   rw [formTs,formTs,Bool.and_eq_true,Bool.and_eq_true] at hft
   obtain ⟨v,hv,hw1⟩:=kidE 0 t1 rfl hft.1
   obtain ⟨v2,hv2,hwv2⟩:=kidE 1 t2 rfl hft.2.1
   refine lineS 49 (s.o7.data.toList++[91]++tx Lib.itoa t1++[93,32,61,32]++tx Lib.itoa t2++[59]) w3 call49 J3 (by rw [labS,if_neg n1,if_pos e2,List.nil_append,List.cons_append,List.cons_append,txs,txs];rfl) ?_
   intro x l H1 a b h1 hl hr
   refine Ct.of λw0 w ps0 H0 R E I hR=>e2O (d7 (l1 isAgg77 (v:=rW g) (I.bring 3) rfl) ?_)
   refine c7 a2j (d7 (l1 isAgg9 (v:=.string s.o7) (I.bring 2) rfl) ?_)
   refine s_put (b6S _ _) (pieces:=[s.o7,⟨#[91]⟩]) rfl rfl (by decide) hr hl (d1M hname (by decide)) I λy2 m2 H3 a2 b2 w2 hy2 l2 hw2 hr2 I2=>L6 I2 λw4 I4=>g8 a1A (s7 (l1 isAgg77 (v:=rW g) (I4.bring 3) rfl) ?_)
   refine s7 (l1 isAgg52 (v:=vs s.z7) (I4.bring 2) rfl) ?_
   obtain ⟨g1,o1,ha1,hat1⟩:=hv
   obtain ⟨g2,o2,ha2,hat2⟩:=hv2
   refine g8 (Z7 ha1 _ _ _ _ (by omega) (by rw [hn];simp only [List.length_cons,List.length_nil];omega)) ?_
   refine s7 (ldA (vs:=g9 v) isAgg112 sizeOf112 rfl (I4.atH (hat1.le ((hle.trans h1).trans l2)))) (s_w call48 hw1 ((hle.trans h1).trans l2) (λK h=>h _ _ _ hr2) (hw2.bound (by decide)) I4 λy3 m3 H4 a3 b3 w5 hy3 l3 hw3 hr3 I5=>c0P ?_)
   refine d7 (l1 isAgg77 (v:=rW g) (I5.bring 3) rfl) (s_put (a0L _) (pieces:=[⟨#[93,32,61,32]⟩]) rfl rfl (by decide) hr3 (hw3.bound (by decide)) (b1R (by decide)) I5 λy4 m4 H5 a4 b4 w6 hy4 l4 hw4 hr4 I6=>?_)
   rw [a6h] at hw4
   refine L6 I6 λw7 I7=>g8 a1A (s7 (l1 isAgg77 (v:=rW g) (I7.bring 3) rfl) ?_)
   refine s7 (l1 isAgg52 (v:=vs s.z7) (I7.bring 2) rfl) ?_
   refine g8 (Z7 ha2 _ _ _ _ (by omega) (by rw [hn];simp only [List.length_cons,List.length_nil];omega)) ?_
   refine s7 (ldA (vs:=g9 v2) isAgg112 sizeOf112 rfl (I7.atH (hat2.le ((((hle.trans h1).trans l2).trans l3).trans l4)))) (s_w call48 hwv2 ((((hle.trans h1).trans l2).trans l3).trans l4) (λK h=>h _ _ _ hr4) (hw4.bound (by decide)) I7 λy5 m5 H6 a5 b5 w8 hy5 l5 hw5 hr5 I8=>c0P ?_)
   refine d7 (l1 isAgg77 (v:=rW g) (I8.bring 3) rfl) (s_put (a0L _) (pieces:=[⟨#[59]⟩]) rfl rfl (by decide) hr5 (hw5.bound (by decide)) (b1R (by decide)) I8 λy6 m6 H7 a6 b6 w9 hy6 l6 hw6 hr6 I9=>?_)
   rw [a6h] at hw6
   refine hR _ H7 _ _ I9 ⟨y6,m6,a6,b6,rfl,rfl,hr6,hy6.trans (hy5.trans (hy4.trans (hy3.trans hy2))),(((l2.trans l3).trans l4).trans l5).trans l6,?_⟩
   have:=(((hw2.trans hw3).trans hw4).trans hw5).trans hw6
   simpa using this
  have hj1:∀(y:g7)(m:BL)(H':Hp)(a':Sl)(b':Frag)(w':World)(t:BL),y.fdeep=x.fdeep->Hle H2 H'->Wt BB l t m->t++lineT d [125]=labS d (.stmt s.d9 s.o7 ts.length us.length va.length wa.length) (txs Lib.itoa (us++(ts++(va++wa)))) (stxs Lib.itoa (d+1) (us++(ts++(va++wa))))->RowL 5 1 B7 a' (ib m) b'->
    Inv w0 ps0 H0 H' (bx g 83 (q8 g y a')::b'::[bx gs 55 (q9 s),bx ga 77 [rW g]]) w'->c6t (rW ga) w' R E:=by
   intro y m H' a' b' w' t hy hh hw ht hr' I'
   intro _
   exact d7 (l1 isAgg77 (v:=rW g) (I'.bring 3) rfl) (c5F hd2 (by decide) (hy.trans hdx) hr' (hw.bound (by decide)) I' λy2 m2 H3 a2 b2 w2 hy2 l2 hw2 hr2 I2=>fin y2 m2 H3 a2 b2 _ _ (hy2.trans hy) (hh.trans l2) (hw.trans hw2) ht hr2 I2)
  refine c7 (o9 _ _ _ _ _ _) (X2 (λe3=>?_) (λn3=>?_))
  ·obtain ⟨t1,rfl⟩:=a5B (l:=us) (by omega)
   obtain rfl:ts=[]:=List.length_eq_zero_iff.1 (by omega)
   obtain ⟨v,hv,hw1⟩:=kidC t1 rfl
   refine L6 J3 λw4 I4=>g8 Z8 (s7 (l1 isAgg77 (v:=rW g) (I4.bring 3) rfl) ?_)
   refine s7 (l1 isAgg53 (v:=vs s.D4) (I4.bring 2) rfl) ?_
   obtain ⟨g1,o1,ha1,hat1⟩:=hv
   refine g8 (Z9 ha1 _ _ _ _ (by omega) (by rw [hm];simp only [List.length_cons,List.length_nil];omega)) ?_
   refine s7 (ldA (vs:=l7 v) isAgg115 sizeOf115 rfl (I4.atH (hat1.le hle))) (s_w call50 (c0b (d:=d) (wd:=⟨#[105,102]⟩) (en:=⟨#[32,123]⟩) hd2 (by decide) (by decide) hw1) hle (λK h=>h hdx _ _ _ hr0) hl1 I4 λy3 m3 H4 a3 b3 w5 hy3 l3 hw3 hr3 I5=>c0P ?_)
   refine d7 (l1 isAgg77 (v:=rW g) (I5.bring 3) rfl) (c7 a2k ?_)
   refine d7 (l1 isAgg23 (v:=vs s.T5) (I5.bring 2) rfl) (s_w call51 blk1 (hle.trans l3) (λK h=>h (hy3.trans hdx) _ _ _ hr3) (hw3.bound (by decide)) I5 λy4 m4 H5 a4 b4 w6 hy4 l4 hw4 hr4 I6=>?_)
   refine u7 λj1 hx1=>c7 a4J (d7 (l1 isAgg23 (v:=vs s.T6) (I6.bring 2) rfl) ?_)
   refine c7 (a1P _ _ _) (c7 (X3 _ _ _ _ _ _) ?_)
   have hlen:=a9A Lib.itoa (d+1) ([t1]++([]++(va++wa)))
   have hlen2:([t1]++([]++(va++wa))).length=1+va.length+wa.length:=by simp;omega
   have hmid:=c7Q Lib.itoa (d+1) [t1] [] va wa
   have hend:=d6M Lib.itoa (d+1) [t1] [] va wa
   refine X2 (λc=>?_) (λc=>?_)
   ·refine d7 (l1 isAgg77 (v:=rW g) (I6.bring 3) rfl) (c5F hd2 (by decide) (hy4.trans (hy3.trans hdx)) hr4 (hw4.bound (by decide)) I6 λy5 m5 H6 a5 b5 w7 hy5 l5 hw5 hr5 I7=>?_)
    refine d7 (l1 isAgg77 (v:=rW g) (I7.bring 3) rfl) (c7 a4J ?_)
    refine d7 (l1 isAgg23 (v:=vs s.T6) (I7.bring 2) rfl) (s_w call51 blk2 (((hle.trans l3).trans l4).trans l5) (λK h=>h (hy5.trans (hy4.trans (hy3.trans hdx))) _ _ _ hr5) (hw5.bound (by decide)) I7 λy6 m6 H7 a6 b6 w8 hy6 l6 hw6 hr6 I8=>?_)
    refine hx1 _ _ (hj1 y6 m6 H7 a6 b6 _ _ (hy6.trans (hy5.trans (hy4.trans hy3))) (((l3.trans l4).trans l5).trans l6) (((hw3.trans hw4).trans hw5).trans hw6) ?_ hr6 I8)
    rw [labS,if_neg n1,if_neg n2,if_pos e3,hmid,hend,hlen,hlen2,if_neg (by simp only [List.length_cons,List.length_nil];omega),List.singleton_append,txs]
    simp
   ·refine hx1 _ _ (hj1 y4 m4 H5 a4 b4 _ _ (hy4.trans hy3) (l3.trans l4) (hw3.trans hw4) ?_ hr4 I6)
    rw [labS,if_neg n1,if_neg n2,if_pos e3,hmid,hlen,hlen2,if_pos (by simp only [List.length_cons,List.length_nil];omega),List.singleton_append,txs]
    simp
  refine c7 (o9 _ _ _ _ _ _) (X2 (λe4=>?_) (λn4=>?_))
  ·obtain ⟨t1,rfl⟩:=a5B (l:=us) (by omega)
   obtain rfl:ts=[]:=List.length_eq_zero_iff.1 (by omega)
   obtain ⟨v,hv,hw1⟩:=kidC t1 rfl
   refine L6 J3 λw4 I4=>g8 Z8 (s7 (l1 isAgg77 (v:=rW g) (I4.bring 3) rfl) ?_)
   refine s7 (l1 isAgg53 (v:=vs s.D4) (I4.bring 2) rfl) ?_
   obtain ⟨g1,o1,ha1,hat1⟩:=hv
   refine g8 (Z9 ha1 _ _ _ _ (by omega) (by rw [hm];simp only [List.length_cons,List.length_nil];omega)) ?_
   refine s7 (ldA (vs:=l7 v) isAgg115 sizeOf115 rfl (I4.atH (hat1.le hle))) (s_w call50 (c0b (d:=d) (wd:=⟨#[119,104,105,108,101]⟩) (en:=⟨#[32,123]⟩) hd2 (by decide) (by decide) hw1) hle (λK h=>h hdx _ _ _ hr0) hl1 I4 λy3 m3 H4 a3 b3 w5 hy3 l3 hw3 hr3 I5=>c0P ?_)
   refine d7 (l1 isAgg77 (v:=rW g) (I5.bring 3) rfl) (c7 a2k ?_)
   refine d7 (l1 isAgg23 (v:=vs s.T5) (I5.bring 2) rfl) (s_w call51 blk1 (hle.trans l3) (λK h=>h (hy3.trans hdx) _ _ _ hr3) (hw3.bound (by decide)) I5 λy4 m4 H5 a4 b4 w6 hy4 l4 hw4 hr4 I6=>?_)
   have hmid:=c7Q Lib.itoa (d+1) [t1] [] va wa
   refine d7 (l1 isAgg77 (v:=rW g) (I6.bring 3) rfl) (c5F hd2 (by decide) (hy4.trans (hy3.trans hdx)) hr4 (hw4.bound (by decide)) I6 λy2 m2 H3 a2 b2 w2 hy2 l2 hw2 hr2 I2=>fin y2 m2 H3 a2 b2 _ _ (hy2.trans (hy4.trans hy3)) ((l3.trans l4).trans l2) ((hw3.trans hw4).trans hw2) ?_ hr2 I2)
   rw [labS,if_neg n1,if_neg n2,if_neg n3,if_pos e4,hmid,List.singleton_append,txs]
   simp
  have hd5:∀(wd:BA)(w:World),wd.size<=1048576->s.d9=5\/s.d9=6->(∀t1,us=[t1]->lineT d (wd.data.toList++[32]++tx Lib.itoa t1++[59])=labS d (.stmt s.d9 s.o7 ts.length us.length va.length wa.length) (txs Lib.itoa (us++(ts++(va++wa)))) (stxs Lib.itoa (d+1) (us++(ts++(va++wa)))))->
    Inv w0 ps0 H0 H2 (bx g 83 (q8 g x a)::b::[bx gs 55 (q9 s),bx ga 77 [rW g]]) w->∃(c:p5)(g1 o1:Nat),s.D4.a=some ⟨g1,o1,none⟩/\AtH H2 g1 (o1+(0:Int).toNat*4) (l7 c)/\opK Tryz.prog E (xCall (.func (.func 50) #[] #[]) [rW g,.string wd,.agg (l7 c).toArray,.string ⟨#[59]⟩]) w λ_ w'=>keepX [] w w' (R (.tuple #[]) w'):=by
   intro wd w hwd h56 ht I4
   obtain ⟨t1,hu1⟩:=a5B (l:=us) (by omega)
   obtain ⟨v,⟨g1,o1,ha1,hat1⟩,hw1⟩:=kidC t1 hu1
   refine ⟨v,g1,o1,ha1,hat1.le hle,?_⟩
   exact s_w call50 (c0b (d:=d) (wd:=wd) (en:=⟨#[59]⟩) hd2 hwd (by decide) hw1) hle (λK h=>h hdx _ _ _ hr0) hl1 I4 λy3 m3 H4 a3 b3 w5 hy3 l3 hw3 hr3 I5=>c0P (fin y3 m3 H4 a3 b3 _ _ hy3 l3 hw3 (ht t1 hu1) hr3 I5)
  refine c7 (o9 _ _ _ _ _ _) (X2 (λe5=>?_) (λn5=>?_))
  ·refine L6 J3 λw4 I4=>?_
   obtain ⟨c,g1,o1,ha1,hat1,hcall⟩:=hd5 ⟨#[97,115,115,101,114,116]⟩ w4 (by decide) (.inl e5) (λt1 hu=>by rw [labS,if_neg n1,if_neg n2,if_neg n3,if_neg n4,if_pos e5,hu,List.singleton_append,txs];rfl) I4
   refine g8 Z8 (s7 (l1 isAgg77 (v:=rW g) (I4.bring 3) rfl) ?_)
   refine s7 (l1 isAgg53 (v:=vs s.D4) (I4.bring 2) rfl) ?_
   refine g8 (Z9 ha1 _ _ _ _ (by omega) (by rw [hm];omega)) ?_
   exact s7 (ldA (vs:=l7 c) isAgg115 sizeOf115 rfl (I4.atH hat1)) hcall
  refine c7 (o9 _ _ _ _ _ _) (X2 (λe6=>?_) (λn6=>?_))
  ·refine L6 J3 λw4 I4=>?_
   obtain ⟨c,g1,o1,ha1,hat1,hcall⟩:=hd5 ⟨#[97,115,115,117,109,101]⟩ w4 (by decide) (.inr e6) (λt1 hu=>by rw [labS,if_neg n1,if_neg n2,if_neg n3,if_neg n4,if_neg n5,if_pos e6,hu,List.singleton_append,txs];rfl) I4
   refine g8 Z8 (s7 (l1 isAgg77 (v:=rW g) (I4.bring 3) rfl) ?_)
   refine s7 (l1 isAgg53 (v:=vs s.D4) (I4.bring 2) rfl) ?_
   refine g8 (Z9 ha1 _ _ _ _ (by omega) (by rw [hm];omega)) ?_
   exact s7 (ldA (vs:=l7 c) isAgg115 sizeOf115 rfl (I4.atH hat1)) hcall
  refine d7 (l1 isAgg77 (v:=rW g) (J3.bring 3) rfl) (c5F hd2 (by decide) hdx hr0 hl1 J3 λy2 m2 H3 a2 b2 w2 hy2 l2 hw2 hr2 I2=>fin y2 m2 H3 a2 b2 _ _ hy2 l2 hw2 ?_ hr2 I2)
  rw [labS,if_neg n1,if_neg n2,if_neg n3,if_neg n4,if_neg n5,if_neg n6]
end
def bS(l:BL):BA:=⟨l.toArray⟩
section
variable {H:Hp}
end
def prS(q:PP):BA×Int:=if toldS q.nodes=0 then (if lim < (progT Lib.itoa q).length then (⟨#[]⟩,50) else (bS (progT Lib.itoa q),0)) else (⟨#[]⟩,toldS q.nodes)
theorem e5C:∀p∈([]:List BA),p.size<=1048576:=λp h=>by cases h
theorem allc{a:BA}{l:List BA}(h:a.size<=1048576)(t:∀p∈l,p.size<=1048576):∀p∈a::l,p.size<=1048576:=λp hp=>by
 rcases List.mem_cons.1 hp with rfl | hp
 ·exact h
 ·exact t p hp
theorem d4L{α:Type}{f:α->BL}{ds:List α}{i:Nat}{d:α}(h:ds[i]? = some d):((ds.take (i+1)).map f).flatten=((ds.take i).map f).flatten++f d:=by
 obtain ⟨hlt,rfl⟩:=List.getElem?_eq_some_iff.1 h
 rw [List.take_succ_eq_append_getElem hlt,List.map_append,List.flatten_append]
 simp
theorem Sm.name{d:j9}(h:Sm (dT d)):d.o7.size<=1048576:=by
 cases h with | mk a _=>exact a.1
theorem d0k{d:j9}(h:formT (dT d)=true):0<=d.D2/\d.D2<=2147483647:=by
 unfold dT at h
 rw [formT,Bool.and_eq_true] at h
 have h1:(decide (0<=d.D2)&&decide (d.D2<=2147483647))=true:=h.1
 simpa using h1
theorem b0f:∀{ts:List PT}{t:PT},formTs ts=true->t∈ts->formT t=true
 | [],t,_,h=>by cases h
 | u::ts,t,hf,h=>by
  rw [formTs,Bool.and_eq_true] at hf
  rcases List.mem_cons.1 h with rfl | h
  ·exact hf.1
  ·exact b0f hf.2 h
theorem c7R:∀{ts:List PT}{t:PT}{n:Int},dpTs 64 ts n->t∈ts->dpT 64 t n
 | [],t,_,_,h=>by cases h
 | u::ts,t,n,hf,h=>by
  rw [dpTs] at hf
  rcases List.mem_cons.1 h with rfl | h
  ·exact hf.1
  ·exact c7R hf.2 h
section
variable {H:Hp}
theorem d6N(hT:TabsH H)(hP:PowH H){p:o8}{q:PP}(hp:PH H p q)(hsm:q.Sm){K:BA->Int->Hp->Prop}(h:∀H',Hle H H'->K (prS q).1 (prS q).2 H'):a7y p H K:=by
 refine b8l _ ?_
 unfold b1A
 refine c1J hT hp hsm λH1 l1=>?_
 rw [show vEnd (allV q)=toldS q.nodes from c4e _]
 refine ⟨λe=>?_,λe=>?_⟩
 ·have:=h H1 l1
  unfold prS at this
  rwa [if_neg e] at this
 obtain ⟨hcnt,hdp,hfm,_⟩:=(c1M _).1 e
 have hq:prS q=if lim < (progT Lib.itoa q).length then (⟨#[]⟩,50) else (bS (progT Lib.itoa q),0):=by unfold prS;rw [if_pos e]
 obtain ⟨hd,hdb,xs,hb,hbb,hbr⟩:=hp
 have hmd:∀d∈q.decls,Sm (dT d)/\formT (dT d)=true:=λd hd=>by
  have hm:dT d∈q.nodes:=List.mem_append_left _ (List.mem_map.2 ⟨d,hd,rfl⟩)
  exact ⟨hsm _ hm,b0f hfm hm⟩
 have hmb:∀t∈q.body,Sm t/\formT t=true/\dpT 64 t ((0+1:Nat):Int):=λt ht=>by
  have hm:t∈q.nodes:=List.mem_append_right _ ht
  exact ⟨hsm _ hm,b0f hfm hm,c7R hdp hm⟩
 have hdn:=hd.1
 have hbn:=hb.1
 have hbl:=hbr.1
 have j2:∀(ad:Option Addr)(m:BL)(H2:Hp),Hle H1 H2->Wt BB [] (progT Lib.itoa q) m->a3b ad (ib m) 0 p H2 K:=by
  intro ad m H2 l2 hw
  have hk:=h H2 (l1.trans l2)
  rw [hq] at hk
  unfold Wt at hw
  rw [List.length_nil,Nat.zero_add,List.nil_append] at hw
  unfold a3b
  refine c4h ⟨λc=>?_,λc=>d3O λy c'=>?_⟩
  ·have c:=of_decide_eq_true c
   by_cases hc:(progT Lib.itoa q).length<=lim
   ·rw [if_pos hc] at hw;rw [hw] at c;unfold lim at hc;omega
   ·rw [if_pos (by omega)] at hk;exact hk
  ·have c:=of_decide_eq_false c
   by_cases hc:(progT Lib.itoa q).length<=lim
   ·rw [if_pos hc] at hw;rw [if_neg (by omega)] at hk;rw [hw];exact hk
   ·rw [if_neg hc] at hw;unfold lim at hw;omega
 have j1:∀(ad:Option Addr)(m:BL)(H2:Hp),Hle H1 H2->Wt BB [] (q.decls.map (declT Lib.itoa)).flatten m->a3d ad (ib m) 0 p H2 K:=by
  intro ad m H2 l2 hw
  unfold a3d
  refine P7 (λst H'=>Hle H1 H'/\∃(i:Nat)(ad:Option Addr)(m:BL),i<=xs.length/\st=((i:Int),ad,ib m,(0:Int))/\Wt BB [] ((q.decls.map (declT Lib.itoa)).flatten++(stxs Lib.itoa 0 (q.body.take i)).flatten) m) (λst=>xs.length-st.1.toNat)
   ⟨l2,0,ad,m,Nat.zero_le _,rfl,by rw [List.take_zero,stxs,List.flatten_nil,List.append_nil];exact hw⟩ ?_
  rintro st H3 next ⟨l3,i,ad,m,hi,rfl,hw⟩ hnx
  unfold a5N
  refine ⟨λqq=>?_,λqq=>?_⟩
  ·obtain ⟨z,hz⟩:=K2 (l:=xs) (i:=i) (by omega)
   obtain ⟨t,ht,hSH⟩:=hbr.get hz
   obtain ⟨m1,m2,m3⟩:=hmb t (List.mem_of_getElem? ht)
   refine ⟨by omega,by omega,z,(hb.2 i z hz).le (l1.trans l3),e1r hP hSH 0 m2 m1 m3 _ m H3 _ (l1.trans l3) (hw.bound (by decide)) (λy m' H' hy hh hw'=>?_) rfl⟩
   rw [show IntKind.wrap .i64 ((i:Int)+1)=((i+1:Nat):Int) by simp only [big] at hbb;rw [K7 (by omega) (by omega)];omega]
   refine hnx _ _ ⟨l3.trans hh,i+1,y.O5.faddr,m',by omega,by rw [hy],?_⟩ (by dsimp only;omega)
   rw [c5g _ ht,← List.append_assoc]
   exact hw.trans hw'
  ·obtain rfl:i=xs.length:=by omega
   rw [hbl,List.take_length] at hw
   exact j2 ad m H3 l3 hw
 refine P7 (λst H'=>Hle H1 H'/\∃(i:Nat)(ad:Option Addr)(m:BL),i<=q.decls.length/\st=((i:Int),ad,ib m,(0:Int))/\Wt BB [] ((q.decls.take i).map (declT Lib.itoa)).flatten m) (λst=>q.decls.length-st.1.toNat)
  ⟨Hle.refl _,0,none,[],Nat.zero_le _,rfl,Wt.nil (by decide)⟩ ?_
 rintro st H3 next ⟨l3,i,ad,m,hi,rfl,hw⟩ hnx
 unfold a5O
 refine ⟨λqq=>?_,λqq=>?_⟩
 ·obtain ⟨z,hz⟩:=K2 (l:=q.decls) (i:=i) (by omega)
  obtain ⟨m1,m2⟩:=hmd z (List.mem_of_getElem? hz)
  have hname:=m1.name
  have hsz:=d0k m2
  have fin:∀(y:g7)(m':BL)(H':Hp),y.fdeep=0->Hle H3 H'->Wt BB m (declT Lib.itoa z) m'->a1m p.a2h (p.a2h.n:Int) (i:Int) y.O5.faddr (ib m') y.fdeep p H' next K:=by
   intro y m' H' hy hh hw'
   unfold a1m
   rw [show IntKind.wrap .i64 ((i:Int)+1)=((i+1:Nat):Int) by simp only [big] at hdb;rw [K7 (by omega) (by omega)];omega]
   refine hnx _ _ ⟨l3.trans hh,i+1,y.O5.faddr,m',by omega,by rw [hy],?_⟩ (by dsimp only;omega)
   rw [d4L hz]
   exact hw.trans hw'
  refine ⟨by omega,by omega,z,(hd.2 i z hz).le (l1.trans l3),λz0=>?_,λz0=>?_⟩
  ·intro s c hc hs _
   refine c2g (d:=0) (by decide) hs (allc (by decide) (allc hname (allc (by decide) e5C))) (by simp) _ m c _ (Hle.refl _) (hw.bound (by decide)) (λy m' H' hy hh hw'=>fin y m' H' hy (hc.trans hh) ?_) rfl
   unfold declT
   rw [if_pos z0]
   simpa using hw'
  ·refine e0B (hP.le (l1.trans l3)) hsz.1 (by omega) ?_
   intro s c hc hs _
   refine c2g (d:=0) (by decide) hs (allc (by decide) (allc hname (allc (by decide) (allc (Nat.le_trans (d8e hsz.1 (by omega)) (by decide)) (allc (by decide) e5C))))) (by simp) _ m c _ (Hle.refl _) (hw.bound (by decide)) (λy m' H' hy hh hw'=>fin y m' H' hy (hc.trans hh) ?_) rfl
   unfold declT
   rw [if_neg z0]
   simpa [e6N] using hw'
 ·obtain rfl:i=q.decls.length:=by omega
  rw [List.take_length] at hw
  exact j1 ad m H3 l3 hw
end
theorem d6O{k n a:Int}{s:BA}(h:formE k n s a=true):(k≠1->n=0)/\(¬(k=2\/k=4)->s=⟨#[]⟩)/\((k=1/\0<=n/\a=0)\/(k=2/\a=0)\/(k=3/\a=0)\/(k=4/\a=1)\/(k=5/\a=1)\/((k=6\/k=7\/k=8\/k=9\/k=10)/\a=2)):=by
 unfold formE at h
 split at h
 ·cases h
 rename_i c
 simp only [Bool.or_eq_true,Bool.and_eq_true,Bool.not_eq_true',decide_eq_false_iff_not,not_or,not_and,Bool.or_eq_false_iff,Classical.not_not] at c
 refine ⟨λq=>c.1 q,λq=>c.2 ⟨λe=>q (.inl e),λe=>q (.inr e)⟩,?_⟩
 (repeat' split at h)<;>first | (cases h;done) | (simp only [Bool.and_eq_true,decide_eq_true_eq] at h;omega)
theorem d6P{k op e p:Int}(h:formC k op e p=true):((k=1\/k=2)/\op=0/\e=0/\p=0)\/(k=3/\1<=op/\op<=6/\e=2/\p=0)\/(k=4/\op=0/\e=0/\p=1)\/((k=5\/k=6)/\op=0/\e=0/\p=2):=by
 unfold formC at h
 (repeat' split at h)<;>first | (cases h;done) | (simp only [Bool.and_eq_true,decide_eq_true_eq] at h;omega)
theorem d6Q{k:Int}{s:BA}{e c t f:Nat}(h:formS k s e c t f=true):((k=1/\e=1/\c=0\/k=2/\e=2/\c=0)/\t=0/\f=0)\/(s=⟨#[]⟩/\(k=3/\e=0/\c=1\/k=4/\e=0/\c=1/\f=0\/(k=5\/k=6)/\e=0/\c=1/\t=0/\f=0\/k=7/\e=0/\c=0/\t=0/\f=0)):=by
 unfold formS at h
 split at h
 ·simp only [Bool.and_eq_true,Bool.not_eq_true',decide_eq_false_iff_not,decide_eq_true_eq] at h;exact .inl (by omega)
 split at h
 ·simp only [Bool.and_eq_true,Bool.not_eq_true',decide_eq_false_iff_not,decide_eq_true_eq] at h;exact .inl (by omega)
 split at h
 ·simp only [Bool.and_eq_true,decide_eq_true_eq] at h;exact .inr ⟨h.1,by omega⟩
 split at h
 ·simp only [Bool.and_eq_true,decide_eq_true_eq] at h;exact .inr ⟨h.1.1,by omega⟩
 split at h
 ·simp only [Bool.and_eq_true,Bool.not_eq_true',decide_eq_false_iff_not,decide_eq_true_eq] at h;exact .inr ⟨h.1.1,by omega⟩
 split at h
 ·simp only [Bool.and_eq_true,Bool.not_eq_true',decide_eq_false_iff_not,decide_eq_true_eq] at h;exact .inr ⟨h.1.1,by omega⟩
 ·cases h
section
variable {H:Hp}
theorem shE{e:l9}{t:PT}(he:EH H e t):formT t=true->Sm t->XE t:=by
 induction he with
 | @mk e xs ts hs hb hl hc ih=>
  intro hf hS
  cases hS with | mk hsm hss=>
  rw [formT,Bool.and_eq_true] at hf
  obtain ⟨hf,hfs⟩:=hf
  obtain ⟨z1,z2,hfc⟩:=d6O (show formE e.d9 e.A6 e.o7 (ts.length:Int)=true from hf)
  have hnum:e.A6<=9223372036854775807:=hsm.2.2
  have kid:∀(i:Nat)(t:PT),ts[i]? = some t->formT t=true->XE t:=λi t ht hft=>by
   obtain ⟨v,hv⟩:=K2 (l:=xs) (i:=i) (by have:=O1 ht;omega)
   exact ih i v t hv ht hft (hss t (List.mem_of_getElem? ht))
  show XE (eX e.d9 e.A6 e.o7 ts)
  generalize e.d9=k at *
  generalize e.A6=n at *
  generalize e.o7=s at *
  rcases hfc with ⟨rfl,q,a⟩ | ⟨rfl,a⟩ | ⟨rfl,a⟩ | ⟨rfl,a⟩ | ⟨rfl,a⟩ | ⟨hk,a⟩
  ·obtain rfl:ts=[]:=List.length_eq_zero_iff.1 (by omega)
   rw [z2 (by decide)];exact .num n q hnum
  ·obtain rfl:ts=[]:=List.length_eq_zero_iff.1 (by omega)
   rw [z1 (by decide)];exact .var s
  ·obtain rfl:ts=[]:=List.length_eq_zero_iff.1 (by omega)
   rw [z1 (by decide),z2 (by decide)];exact .inp
  ·obtain ⟨t1,rfl⟩:=a5B (l:=ts) (by omega)
   rw [formTs,Bool.and_eq_true] at hfs
   rw [z1 (by decide)];exact .item s t1 (kid 0 t1 rfl hfs.1)
  ·obtain ⟨t1,rfl⟩:=a5B (l:=ts) (by omega)
   rw [formTs,Bool.and_eq_true] at hfs
   rw [z1 (by decide),z2 (by decide)];exact .neg t1 (kid 0 t1 rfl hfs.1)
  ·obtain ⟨t1,t2,rfl⟩:=b3G (l:=ts) (by omega)
   rw [formTs,formTs,Bool.and_eq_true,Bool.and_eq_true] at hfs
   rw [z1 (by omega),z2 (by omega)];exact .bin k t1 t2 hk (kid 0 t1 rfl hfs.1) (kid 1 t2 rfl hfs.2.1)
theorem shC{e:p5}{t:PT}(he:CH H e t):formT t=true->Sm t->XC t:=by
 induction he with
 | @mk e xs ts ys us hs hb hr hsy hby hl hc ih=>
  intro hf hS
  cases hS with | mk hsm hss=>
  rw [formT,Bool.and_eq_true] at hf
  obtain ⟨hf,hfs⟩:=hf
  have hfc:=d6P (show formC e.d9 e.fOp (ts.length:Int) (us.length:Int)=true from hf)
  have kid:∀(i:Nat)(t:PT),us[i]? = some t->t∈ts++us->formT t=true->XC t:=λi t ht hm hft=>by
   obtain ⟨v,hv⟩:=K2 (l:=ys) (i:=i) (by have:=O1 ht;omega)
   exact ih i v t hv ht hft (hss t hm)
  have kidE:∀(i:Nat)(t:PT),ts[i]? = some t->t∈ts++us->formT t=true->XE t:=λi t ht hm hft=>by
   obtain ⟨v,hv⟩:=K2 (l:=xs) (i:=i) (by have:=O1 ht;have:=hr.1;omega)
   exact shE (hr.2 i v t hv ht) hft (hss t hm)
  show XC (cX e.d9 e.fOp ts us)
  generalize e.d9=k at *
  generalize e.fOp=op at *
  rcases hfc with ⟨hk,rfl,a,b⟩ | ⟨rfl,o1,o2,a,b⟩ | ⟨rfl,rfl,a,b⟩ | ⟨hk,rfl,a,b⟩
  ·obtain rfl:ts=[]:=List.length_eq_zero_iff.1 (by omega)
   obtain rfl:us=[]:=List.length_eq_zero_iff.1 (by omega)
   rcases hk with rfl | rfl
   ·exact .tru
   ·exact .fls
  ·obtain ⟨t1,t2,rfl⟩:=b3G (l:=ts) (by omega)
   obtain rfl:us=[]:=List.length_eq_zero_iff.1 (by omega)
   rw [List.append_nil,formTs,formTs,Bool.and_eq_true,Bool.and_eq_true] at hfs
   exact .cmp op t1 t2 o1 o2 (kidE 0 t1 rfl (by simp) hfs.1) (kidE 1 t2 rfl (by simp) hfs.2.1)
  ·obtain rfl:ts=[]:=List.length_eq_zero_iff.1 (by omega)
   obtain ⟨t1,rfl⟩:=a5B (l:=us) (by omega)
   rw [List.nil_append,formTs,Bool.and_eq_true] at hfs
   exact .not t1 (kid 0 t1 rfl (by simp) hfs.1)
  ·obtain rfl:ts=[]:=List.length_eq_zero_iff.1 (by omega)
   obtain ⟨t1,t2,rfl⟩:=b3G (l:=us) (by omega)
   rw [List.nil_append,formTs,formTs,Bool.and_eq_true,Bool.and_eq_true] at hfs
   exact .bin k t1 t2 hk (kid 0 t1 rfl (by simp) hfs.1) (kid 1 t2 rfl (by simp) hfs.2.1)
theorem c3z:∀{ts:List PT}{i:Nat}{t:PT},formTs ts=true->ts[i]? = some t->formT t=true
 | [],i,t,_,h=>by simp at h
 | u::ts,i,t,hf,h=>by
  rw [formTs,Bool.and_eq_true] at hf
  cases i with
  | zero=>simp only [List.getElem?_cons_zero,Option.some.injEq] at h;rw [←h];exact hf.1
  | succ i=>exact c3z hf.2 (by simpa using h)
theorem shS{s:i6}{t:PT}(he:SH H s t):formT t=true->Sm t->XS t:=by
 induction he with
 | @mk s xs ts ys us zs bs va wa hs hb hr hsy hby hry hz hzb hzl _ hB hBb hBl _ ih1 ih2=>
  intro hf hS
  cases hS with | mk hsm hss=>
  rw [formT,Bool.and_eq_true] at hf
  obtain ⟨hf,hfs⟩:=hf
  have hfc:=d6Q (show formS s.d9 s.o7 ts.length us.length va.length wa.length=true from hf)
  rw [a2u,a2u,a2u,Bool.and_eq_true,Bool.and_eq_true,Bool.and_eq_true] at hfs
  have kidE:∀(i:Nat)(t:PT),ts[i]? = some t->XE t:=λi t ht=>by
   obtain ⟨v,hv⟩:=K2 (l:=xs) (i:=i) (by have:=O1 ht;have:=hr.1;omega)
   exact shE (hr.2 i v t hv ht) (c3z hfs.2.1 ht) (hss t (by simp [List.mem_of_getElem? ht]))
  have kidC:∀(i:Nat)(t:PT),us[i]? = some t->XC t:=λi t ht=>by
   obtain ⟨v,hv⟩:=K2 (l:=ys) (i:=i) (by have:=O1 ht;have:=hry.1;omega)
   exact shC (hry.2 i v t hv ht) (c3z hfs.1 ht) (hss t (by simp [List.mem_of_getElem? ht]))
  have kV:∀t∈va,XS t:=λt ht=>by
   obtain ⟨i,hi⟩:=List.mem_iff_getElem?.1 ht
   obtain ⟨v,hv⟩:=K2 (l:=zs) (i:=i) (by have:=O1 hi;omega)
   exact ih1 i v t hv hi (c3z hfs.2.2.1 hi) (hss t (by simp [ht]))
  have kW:∀t∈wa,XS t:=λt ht=>by
   obtain ⟨i,hi⟩:=List.mem_iff_getElem?.1 ht
   obtain ⟨v,hv⟩:=K2 (l:=bs) (i:=i) (by have:=O1 hi;omega)
   exact ih2 i v t hv hi (c3z hfs.2.2.2 hi) (hss t (by simp [ht]))
  show XS (sX s.d9 s.o7 ts us va wa)
  generalize s.d9=k at *
  generalize s.o7=nm at *
  have z:∀{l:List PT},l.length=0->l=[]:=λh=>List.length_eq_zero_iff.1 h
  rcases hfc with ⟨⟨rfl,a,b⟩ | ⟨rfl,a,b⟩,c,d⟩ | ⟨rfl,⟨rfl,a,b⟩ | ⟨rfl,a,b,c⟩ | ⟨rfl | rfl,a,b,c,d⟩ | ⟨rfl,a,b,c,d⟩⟩
  ·obtain ⟨t1,rfl⟩:=a5B a
   obtain rfl:=z b;obtain rfl:=z c;obtain rfl:=z d
   exact .asg nm t1 (kidE 0 t1 rfl)
  ·obtain ⟨t1,t2,rfl⟩:=b3G a
   obtain rfl:=z b;obtain rfl:=z c;obtain rfl:=z d
   exact .sto nm t1 t2 (kidE 0 t1 rfl) (kidE 1 t2 rfl)
  ·obtain ⟨t1,rfl⟩:=a5B b
   obtain rfl:=z a
   exact .iff t1 va wa (kidC 0 t1 rfl) kV kW
  ·obtain ⟨t1,rfl⟩:=a5B b
   obtain rfl:=z a;obtain rfl:=z c
   exact .whl t1 va (kidC 0 t1 rfl) kV
  ·obtain ⟨t1,rfl⟩:=a5B b
   obtain rfl:=z a;obtain rfl:=z c;obtain rfl:=z d
   exact .asr t1 (kidC 0 t1 rfl)
  ·obtain ⟨t1,rfl⟩:=a5B b
   obtain rfl:=z a;obtain rfl:=z c;obtain rfl:=z d
   exact .asm t1 (kidC 0 t1 rfl)
  ·obtain rfl:=z a;obtain rfl:=z b;obtain rfl:=z c;obtain rfl:=z d
   exact .skp
end
def pL(n:Int)(t:PT):List Pd:=parP (decide (lvE (kindT t) < n)) 40 41 (pr t)
def qcL(n:Int)(t:PT):List Pd:=parP (decide (lvC (kindT t) < n)) 91 93 (pr t)
theorem e5D(n:Int):pr (eX 1 n ⟨#[]⟩ [])=[.nb n.toNat]:=rfl
theorem d0l(s:BA)(e:PT):pr (eX 4 0 s [e])=[.wd s 1,.sg [91]]++pr e++[.sg [93]]:=rfl
theorem d4M(e:PT):pr (eX 5 0 ⟨#[]⟩ [e])=[.sg [45]]++pL 3 e:=rfl
theorem c7S{k:Int}(hk:k=6\/k=7\/k=8\/k=9\/k=10)(a b:PT):pr (eX k 0 ⟨#[]⟩ [a,b])=pL (lvE k) a++[.bl 32,.sg (sgnE k),.bl 32]++pL (lvE k+1) b:=by
 unfold pL
 rw [←c0H]
 rcases hk with rfl | rfl | rfl | rfl | rfl<;>rfl
theorem d4N(op:Int)(a b:PT):pr (cX 3 op [a,b] [])=pr a++[.bl 32,.sg (sgnC op),.bl 32]++pr b:=rfl
theorem d4O(c:PT):pr (cX 4 0 [] [c])=[.sg [33]]++qcL 3 c:=rfl
theorem c4z{k:Int}(hk:k=5\/k=6)(a b:PT):pr (cX k 0 [] [a,b])=qcL (lvC k) a++[.bl 32,.sg (if k=6 then [124,124] else [38,38]),.bl 32]++qcL (lvC k+1) b:=by
 unfold qcL
 rw [←c0H]
 rcases hk with rfl | rfl<;>rfl
def tr3(t:Tok):Int×BA×Int:=(t.d9,t.N9,t.A6)
theorem b2J{b:Bool}{o c:UInt8}{l:List Pd}{k:List Tok}(h:tkd l=k.map tr3):tkd (parP b o c l)=(parT b o c k).map tr3:=by
 unfold parP parT
 cases b
 ·exact h
 ·rw [if_pos rfl,if_pos rfl,M8,M8,h,List.map_cons,List.map_append];rfl
theorem c7T{t:PT}(h:XE t):tkd (pr t)=(tkT t).map tr3:=by
 induction h with
 | num n h0 h1=>
  rw [e5D,c7m]
  show [((2:Int),(⟨(Lib.decDigits n.toNat).toArray⟩:BA),((n.toNat:Nat):Int))]=[((2:Int),(⟨(Lib.itoa n).toArray⟩:BA),n)]
  rw [Int.toNat_of_nonneg h0,Lib.itoa,if_neg (by omega)]
 | var s=>rfl
 | inp=>rfl
 | item s e _ ih=>rw [d0l,c4o,M8,M8,ih,List.map_cons,List.map_cons,List.map_append];rfl
 | neg e _ ih=>rw [d4M,c7n,M8,show tkd (pL 3 e)=_ from b2J ih,List.map_cons];rfl
 | bin k a b hk _ _ iha ihb=>rw [c7S hk,b9P hk,M8,M8,show tkd (pL (lvE k) a)=_ from b2J iha,show tkd (pL (lvE k+1) b)=_ from b2J ihb,List.map_append,List.map_cons,List.append_assoc];rfl
theorem d1N{t:PT}(h:XC t):tkd (pr t)=(tkT t).map tr3:=by
 induction h with
 | tru=>rfl
 | fls=>rfl
 | cmp op a b _ _ ha hb=>rw [d4N,c3f,M8,M8,c7T ha,c7T hb,List.map_append,List.map_cons,List.append_assoc];rfl
 | not c _ ih=>rw [d4O,c7p,M8,show tkd (qcL 3 c)=_ from b2J ih,List.map_cons];rfl
 | bin k a b hk _ _ iha ihb=>rw [c4z hk,c0I hk,M8,M8,show tkd (qcL (lvC k) a)=_ from b2J iha,show tkd (qcL (lvC k+1) b)=_ from b2J ihb,List.map_append,List.map_cons,List.append_assoc];rfl
def Fb1(l:List Pd):Prop:=∃c r,bytd l=c::r/\c≠61
theorem Fb1.app{a b:List Pd}(h:Fb1 a):Fb1 (a++b):=by
 obtain ⟨c,r,h1,h2⟩:=h
 exact ⟨c,r++bytd b,by rw [I0,h1];rfl,h2⟩
theorem Fb1.hd{l:List Pd}(h:Fb1 l)(d:Option UInt8):(bytd l).head?.or d≠some 61:=by
 obtain ⟨c,r,h1,h2⟩:=h
 rw [h1]
 show some c≠some 61
 exact λe=>h2 (Option.some.inj e)
theorem a2w{w:UInt8}{d:Option UInt8}(h:((decide (w.toNat < 128)&&decide (classS w.toNat=5))&&(!decide (w.toNat=38) && !decide (w.toNat=124)))=true)(hd:d≠some 61):(Pd.sg [w]).ok d=true:=by
 show ((decide (w.toNat < 128)&&decide (classS w.toNat=5))&&((!decide (w.toNat=38) && !decide (w.toNat=124)) && !decide (d=some 61)))=true
 rw [decide_eq_false hd,Bool.not_false,Bool.and_true]
 exact h
theorem c0Q{s:BA}{d:Option UInt8}(h:nameS s=true)(hd:offB d=true):(Pd.wd s 1).ok d=true:=by
 show (((decide ((1:Int)=1)&&nameS s)||(decide ((1:Int)=3)&&wordS s))&&offB d)=true
 rw [h,hd];rfl
theorem b6v{s:BA}{d:Option UInt8}(h:wordS s=true)(hd:offB d=true):(Pd.wd s 3).ok d=true:=by
 show (((decide ((3:Int)=1)&&nameS s)||(decide ((3:Int)=3)&&wordS s))&&offB d)=true
 rw [h,hd];rfl
theorem b8P(d:Option UInt8)(a:Pd)(l:List Pd):okD d (a::l)=(a.ok ((bytd l).head?.or d)&&okD d l):=rfl
theorem ok_two{d:Option UInt8}{a b:List Pd}(ha:okD ((bytd b).head?.or d) a=true)(hb:okD d b=true):okD d (a++b)=true:=by rw [d0i,ha,hb];rfl
theorem ok_one{a:Pd}{d:Option UInt8}(h:a.ok d=true):okD d [a]=true:=by show (a.ok d&&true)=true;rw [h];rfl
theorem a5C{a:Pd}{l:List Pd}{d:Option UInt8}(h:a.ok ((bytd l).head?.or d)=true)(h2:okD d l=true):okD d (a::l)=true:=by rw [b8P,h,h2];rfl
theorem b2S:offB (some 32)=true:=by decide
theorem d0m{s:BA}(h:nameS s=true):Fb1 [.wd s 1]:=by
 obtain ⟨_,_,hz,h3,_⟩:=c3t h
 have hl:s.data.toList.length=s.size:=Array.length_toList
 cases hq:s.data.toList with
 | nil=>rw [hq] at hl;exact absurd hl.symm hz
 | cons c r=>
  refine ⟨c,r,by show s.data.toList++[]=_;rw [List.append_nil,hq],λe=>?_⟩
  subst e
  have hd:Dr s 0 (61::r):=by show s.data.toList.drop 0=_;rw [List.drop_zero,hq]
  have:=(hd.asc (by decide)).1
  rw [this] at h3
  revert h3
  decide
theorem d4P(n:Nat):Fb1 [.nb n]:=by
 obtain ⟨h1,_,c,l,h3,_⟩:=c5e n
 have hc:=h1 c (by rw [h3];simp)
 refine ⟨c,l,by show Lib.decDigits n++[]=_;rw [List.append_nil,h3],λe=>?_⟩
 subst e
 exact absurd hc.2 (by decide)
theorem b4U{s:BA}{k n:Int}{m:Nat}(hk:k=2\/k=4)(h:nameOk (.expr k n s m)=true):nameS s=true:=by
 unfold nameOk at h
 rw [if_pos (by show (decide (k=2)||decide (k=4))=true;rcases hk with rfl | rfl<;>rfl)] at h
 exact h
theorem a3e{t:PT}{l:Lab}{cs:List PT}(h:namesT (.mk l cs)=true)(ht:t∈cs):namesT t=true:=by
 rw [namesT,Bool.and_eq_true] at h
 have:∀{ts:List PT},namesTs ts=true->t∈ts->namesT t=true:=by
  intro ts
  induction ts with
  | nil=>intro _ h;cases h
  | cons u ts ih=>
   intro hf h
   rw [namesTs,Bool.and_eq_true] at hf
   rcases List.mem_cons.1 h with rfl | h
   ·exact hf.1
   ·exact ih hf.2 h
 exact this h.2 ht
theorem b5W{l:Lab}{cs:List PT}(h:namesT (.mk l cs)=true):nameOk l=true:=by rw [namesT,Bool.and_eq_true] at h;exact h.1
theorem Fb1.par{b:Bool}{o c:UInt8}{l:List Pd}(h:Fb1 l)(ho:o≠61):Fb1 (parP b o c l):=by
 cases b
 ·exact h
 ·exact ⟨o,_,rfl,ho⟩
theorem c2h{t:PT}(h:XE t):namesT t=true->Fb1 (pr t):=by
 induction h with
 | num n h0 h1=>exact λ_=>d4P _
 | var s=>exact λhn=>d0m (b4U (.inl rfl) (b5W hn))
 | inp=>exact λ_=>⟨105,_,rfl,by decide⟩
 | item s e _ _=>exact λhn=>Fb1.app (Fb1.app (Fb1.app (a:=[.wd s 1]) (b:=[.sg [91]]) (d0m (b4U (.inr rfl) (b5W hn)))))
 | neg e _ _=>exact λ_=>⟨45,_,rfl,by decide⟩
 | bin k a b hk _ _ iha _=>exact λhn=>by rw [c7S hk];exact Fb1.app (Fb1.app (Fb1.par (iha (a3e hn (by simp))) (by decide)))
theorem d1O{t:PT}(h:XC t):namesT t=true->Fb1 (pr t):=by
 induction h with
 | tru=>exact λ_=>⟨116,_,rfl,by decide⟩
 | fls=>exact λ_=>⟨102,_,rfl,by decide⟩
 | cmp op a b _ _ ha hb=>exact λhn=>Fb1.app (Fb1.app (c2h ha (a3e hn (by simp))))
 | not c _ _=>exact λ_=>⟨33,_,rfl,by decide⟩
 | bin k a b hk _ _ iha _=>exact λhn=>by rw [c4z hk];exact Fb1.app (Fb1.app (Fb1.par (iha (a3e hn (by simp))) (by decide)))
theorem b7B{b:Bool}{o c:UInt8}{l:List Pd}{d:Option UInt8}(ho:((decide (o.toNat < 128)&&decide (classS o.toNat=5))&&(!decide (o.toNat=38) && !decide (o.toNat=124)))=true)(hc:((decide (c.toNat < 128)&&decide (classS c.toNat=5))&&(!decide (c.toNat=38) && !decide (c.toNat=124)))=true)(hoff:offB (some c)=true)(hc61:some c≠some 61)(hf:Fb1 l)
  (h:∀d,offB d=true->d≠some 61->okD d l=true) (h1:offB d=true) (h2:d≠some 61):okD d (parP b o c l)=true:=by
 unfold parP
 cases b
 ·exact h d h1 h2
 ·rw [if_pos rfl]
  exact ok_two (ok_two (ok_one (a2w ho (hf.hd _))) (h _ hoff hc61)) (ok_one (a2w hc h2))
theorem c7U{w:BL}{a b:List Pd}{d:Option UInt8}(hw:∀d,d≠some 61->(Pd.sg w).ok d=true)(ha:okD (some 32) a=true)(hb:okD d b=true):okD d (a++[.bl 32,.sg w,.bl 32]++b)=true:=by
 refine ok_two (ok_two ha ?_) hb
 rw [b8P,b8P,b8P,hw _ (by show some (32:UInt8)≠some 61;decide)]
 rfl
theorem d6R{k:Int}(hk:k=6\/k=7\/k=8\/k=9\/k=10):∀d,d≠some 61->(Pd.sg (sgnE k)).ok d=true:=by
 intro d hd
 rcases hk with rfl | rfl | rfl | rfl | rfl
 ·exact a2w (w:=43) (by decide) hd
 ·exact a2w (w:=45) (by decide) hd
 ·exact a2w (w:=42) (by decide) hd
 ·exact a2w (w:=47) (by decide) hd
 ·exact a2w (w:=37) (by decide) hd
theorem d6S{op:Int}(h0:1<=op)(h1:op<=6):∀d,d≠some 61->(Pd.sg (sgnC op)).ok d=true:=by
 intro d hd
 have:op=1\/op=2\/op=3\/op=4\/op=5\/op=6:=by omega
 rcases this with rfl | rfl | rfl | rfl | rfl | rfl
 ·exact a2w (w:=60) (by decide) hd
 ·rfl
 ·rfl
 ·rfl
 ·exact a2w (w:=62) (by decide) hd
 ·rfl
theorem c7V{t:PT}(h:XE t):namesT t=true->∀d,offB d=true->d≠some 61->okD d (pr t)=true:=by
 induction h with
 | num n h0 h1=>
  intro _ d hd _
  show ((decide (n.toNat < 9223372036854775808)&&offB d)&&true)=true
  rw [decide_eq_true (by omega),hd];rfl
 | var s=>exact λhn d hd _=>by exact ok_one (c0Q (b4U (.inl rfl) (b5W hn)) hd)
 | inp=>exact λ_ d hd _=>by exact ok_one (b6v (by kernel_rfl) hd)
 | item s e he ih=>
  intro hn d hd h61
  have hne:=a3e hn (List.mem_singleton_self e)
  rw [d0l]
  refine ok_two (ok_two ?_ (ih hne _ (by show offB (some 93)=true;decide) (by show some (93:UInt8)≠some 61;decide))) ?_
  ·exact a5C (c0Q (b4U (.inr rfl) (b5W hn)) (by show offB (some 91)=true;decide)) (ok_one (a2w (w:=91) (by decide) ((c2h he hne).hd _)))
  ·exact ok_one (a2w (w:=93) (by decide) h61)
 | neg e he ih=>
  intro hn d hd h61
  have hne:=a3e hn (List.mem_singleton_self e)
  rw [d4M]
  refine ok_two ?_ (b7B (by decide) (by decide) (by decide) (by decide) (c2h he hne) (ih hne) hd h61)
  exact ok_one (a2w (w:=45) (by decide) ((show Fb1 (pL 3 e) from Fb1.par (c2h he hne) (by decide)).hd _))
 | bin k a b hk ha hb iha ihb=>
  intro hn d hd h61
  have hna:=a3e (t:=a) hn (by simp)
  have hnb:=a3e (t:=b) hn (by simp)
  rw [c7S hk]
  exact c7U (d6R hk) (b7B (by decide) (by decide) (by decide) (by decide) (c2h ha hna) (iha hna) b2S (by decide)) (b7B (by decide) (by decide) (by decide) (by decide) (c2h hb hnb) (ihb hnb) hd h61)
theorem d1P{t:PT}(h:XC t):namesT t=true->∀d,offB d=true->d≠some 61->okD d (pr t)=true:=by
 induction h with
 | tru=>exact λ_ d hd _=>by exact ok_one (b6v (by kernel_rfl) hd)
 | fls=>exact λ_ d hd _=>by exact ok_one (b6v (by kernel_rfl) hd)
 | cmp op a b h0 h1 ha hb=>
  intro hn d hd h61
  rw [d4N]
  exact c7U (d6S h0 h1) (c7V ha (a3e hn (by simp)) _ b2S (by decide)) (c7V hb (a3e hn (by simp)) d hd h61)
 | not c hc ih=>
  intro hn d hd h61
  have hne:=a3e (t:=c) hn (by simp)
  rw [d4O]
  refine ok_two ?_ (b7B (by decide) (by decide) (by decide) (by decide) (d1O hc hne) (ih hne) hd h61)
  exact ok_one (a2w (w:=33) (by decide) ((show Fb1 (qcL 3 c) from Fb1.par (d1O hc hne) (by decide)).hd _))
 | bin k a b hk ha hb iha ihb=>
  intro hn d hd h61
  have hna:=a3e (t:=a) hn (by simp)
  have hnb:=a3e (t:=b) hn (by simp)
  rw [c4z hk]
  exact c7U (λd _=>by rcases hk with rfl | rfl<;>rfl) (b7B (by decide) (by decide) (by decide) (by decide) (d1O ha hna) (iha hna) b2S (by decide)) (b7B (by decide) (by decide) (by decide) (by decide) (d1O hb hnb) (ihb hnb) hd h61)
def lnP(d:Nat)(l:List Pd):List Pd:=(List.replicate d ([.bl 32,.bl 32]:List Pd)).flatten++l++[.bl 10]
theorem a2D(d:Nat)(l:List Pd):bytd (lnP d l)=lineT d (bytd l):=by
 unfold lnP lineT
 rw [I0,I0]
 congr 2
 induction d with
 | zero=>rfl
 | succ d ih=>rw [List.replicate_succ,List.replicate_succ,List.flatten_cons,List.flatten_cons,I0,ih];rfl
theorem a8s(d:Nat)(l:List Pd):tkd (lnP d l)=tkd l:=by
 unfold lnP
 rw [M8,M8]
 have h:tkd (List.replicate d ([.bl 32,.bl 32]:List Pd)).flatten=[]:=by
  induction d with
  | zero=>rfl
  | succ d ih=>rw [List.replicate_succ,List.flatten_cons,M8,ih];rfl
 rw [h]
 show []++tkd l++[]=tkd l
 rw [List.nil_append,List.append_nil]
theorem a9B(d:Nat){l:List Pd}(h:okD (some 10) l=true)(x:Option UInt8):okD x (lnP d l)=true:=by
 refine ok_two (ok_two ?_ h) rfl
 generalize ((bytd l).head?.or _)=y
 induction d with
 | zero=>rfl
 | succ d ih=>rw [List.replicate_succ,List.flatten_cons];exact ok_two rfl ih
def labR(d:Nat):Lab->List (List Pd)->List (List Pd)->List Pd
 | .stmt k s e c t _,ts,ss=>
  if k=1 then lnP d ([.wd s 1,.bl 32,.sg [61],.bl 32]++ts.headD []++[.sg [59]])
  else if k=2 then lnP d ([.wd s 1,.sg [91]]++ts.headD []++[.sg [93],.bl 32,.sg [61],.bl 32]++ts.tail.headD []++[.sg [59]])
  else if k=3 then lnP d ([.wd wIf 3,.bl 32]++ts.headD []++[.bl 32,.sg [123]])++((ss.drop (c+e)).take t).flatten++(if ss.length<=c+e+t then [] else lnP d [.sg [125],.bl 32,.wd wEl 3,.bl 32,.sg [123]]++(ss.drop (c+e+t)).flatten)++lnP d [.sg [125]]
  else if k=4 then lnP d ([.wd wWh 3,.bl 32]++ts.headD []++[.bl 32,.sg [123]])++((ss.drop (c+e)).take t).flatten++lnP d [.sg [125]]
  else if k=5 then lnP d ([.wd wAr 3,.bl 32]++ts.headD []++[.sg [59]])
  else if k=6 then lnP d ([.wd wAm 3,.bl 32]++ts.headD []++[.sg [59]])
  else lnP d [.wd wSk 3,.sg [59]]
 | _,_,_=>[]
mutual
def stP:Nat->PT->List Pd
 | d,.mk l cs=>labR d l (prs cs) (stPs (d+1) cs)
def stPs:Nat->List PT->List (List Pd)
 | _,[]=>[]
 | d,t::ts=>stP d t::stPs d ts
end
theorem b8Q(d:Nat):∀ts:List PT,stPs d ts=ts.map (stP d)
 | []=>rfl
 | t::ts=>by rw [stPs,b8Q d ts];rfl
theorem b3H:∀l:List (List Pd),bytd l.flatten=(l.map bytd).flatten
 | []=>rfl
 | a::l=>by rw [List.flatten_cons,I0,b3H l,List.map_cons,List.flatten_cons]
theorem d1Q(d:Nat)(l:Lab)(ts ss:List (List Pd)):bytd (labR d l ts ss)=labS d l (ts.map bytd) (ss.map bytd):=by
 cases l with
 | decl _ _=>rfl
 | expr _ _ _ _=>rfl
 | cond _ _ _ _=>rfl
 | stmt k s e c t f=>
  have hl:(ss.map bytd).length=ss.length:=List.length_map _
  unfold labR labS
  dsimp only
  split
  ·rw [a2D,I0,I0,a2C]
   show lineT d ((s.data.toList++([32]++([61]++([32]++[]))))++_++([59]++[]))=_
   simp
  split
  ·rw [a2D,I0,I0,I0,I0,a2C,b2R]
   show lineT d ((s.data.toList++([91]++[]))++_++([93]++([32]++([61]++([32]++[]))))++_++([59]++[]))=_
   simp
  split
  ·rw [I0,I0,I0,a2D,a2D,I0,I0,a2C,b3H,List.map_take,List.map_drop,hl]
   congr 2
   split
   ·rfl
   ·rw [I0,a2D,b3H,List.map_drop];rfl
  split
  ·rw [I0,I0,a2D,a2D,I0,I0,a2C,b3H,List.map_take,List.map_drop]
   rfl
  split
  ·rw [a2D,I0,I0,a2C];rfl
  split
  ·rw [a2D,I0,I0,a2C];rfl
  ·rw [a2D];rfl
mutual
theorem d4Q:∀(d:Nat)(t:PT),formT t=true->bytd (stP d t)=stx Lib.itoa d t
 | d,.mk l cs,h=>by
  rw [formT,Bool.and_eq_true] at h
  rw [stP,stx,d1Q,b9Z cs h.2,b8R (d+1) cs h.2]
theorem b8R:∀(d:Nat)(ts:List PT),formTs ts=true->(stPs d ts).map bytd=stxs Lib.itoa d ts
 | d,[],_=>by rw [stPs,stxs];rfl
 | d,t::ts,h=>by
  rw [formTs,Bool.and_eq_true] at h
  rw [stPs,stxs,List.map_cons,d4Q d t h.1,b8R d ts h.2]
end
abbrev fsP(d:Nat)(ts:List PT):List Pd:=(ts.map (stP d)).flatten
theorem d4R(d:Nat)(s:BA)(e:PT):stP d (sX 1 s [e] [] [] [])=lnP d ([.wd s 1,.bl 32,.sg [61],.bl 32]++pr e++[.sg [59]]):=rfl
theorem d4S(d:Nat)(s:BA)(i e:PT):stP d (sX 2 s [i,e] [] [] [])=lnP d ([.wd s 1,.sg [91]]++pr i++[.sg [93],.bl 32,.sg [61],.bl 32]++pr e++[.sg [59]]):=rfl
theorem d4T(d:Nat)(c:PT):stP d (sX 5 ⟨#[]⟩ [] [c] [] [])=lnP d ([.wd wAr 3,.bl 32]++pr c++[.sg [59]]):=rfl
theorem d4U(d:Nat)(c:PT):stP d (sX 6 ⟨#[]⟩ [] [c] [] [])=lnP d ([.wd wAm 3,.bl 32]++pr c++[.sg [59]]):=rfl
theorem d4V(d:Nat):stP d (sX 7 ⟨#[]⟩ [] [] [] [])=lnP d [.wd wSk 3,.sg [59]]:=rfl
theorem d4W(d:Nat)(c:PT)(th:List PT):stP d (sX 4 ⟨#[]⟩ [] [c] th [])=lnP d ([.wd wWh 3,.bl 32]++pr c++[.bl 32,.sg [123]])++fsP (d+1) th++lnP d [.sg [125]]:=by
 show labR d (.stmt 4 ⟨#[]⟩ 0 1 th.length 0) (prs (c::([]++(th++[])))) (stPs (d+1) (c::([]++(th++[]))))=_
 rw [b8Q,prs,List.nil_append,List.append_nil]
 show lnP d ([.wd wWh 3,.bl 32]++pr c++[.bl 32,.sg [123]])++((((stP (d+1) c::th.map (stP (d+1))).drop (1+0)).take th.length).flatten)++lnP d [.sg [125]]=_
 rw [show (stP (d+1) c::th.map (stP (d+1))).drop (1+0)=th.map (stP (d+1)) from rfl,List.take_of_length_le (by rw [List.length_map];exact Nat.le_refl _)]
theorem d8n(d:Nat)(c:PT)(th el:List PT):stP d (sX 3 ⟨#[]⟩ [] [c] th el)=lnP d ([.wd wIf 3,.bl 32]++pr c++[.bl 32,.sg [123]])++fsP (d+1) th++(if el=[] then [] else lnP d [.sg [125],.bl 32,.wd wEl 3,.bl 32,.sg [123]]++fsP (d+1) el)++lnP d [.sg [125]]:=by
 show labR d (.stmt 3 ⟨#[]⟩ 0 1 th.length el.length) (prs (c::([]++(th++el)))) (stPs (d+1) (c::([]++(th++el))))=_
 rw [b8Q,prs,List.nil_append]
 show lnP d ([.wd wIf 3,.bl 32]++pr c++[.bl 32,.sg [123]])++((((stP (d+1) c::(th++el).map (stP (d+1))).drop (1+0)).take th.length).flatten)++(if (stP (d+1) c::(th++el).map (stP (d+1))).length<=1+0+th.length then [] else lnP d [.sg [125],.bl 32,.wd wEl 3,.bl 32,.sg [123]]++((stP (d+1) c::(th++el).map (stP (d+1))).drop (1+0+th.length)).flatten)++lnP d [.sg [125]]=_
 have e1:(stP (d+1) c::(th++el).map (stP (d+1))).drop (1+0)=(th++el).map (stP (d+1)):=rfl
 have e2:(stP (d+1) c::(th++el).map (stP (d+1))).drop (1+0+th.length)=el.map (stP (d+1)):=by
  rw [←List.drop_drop,e1,List.map_append,List.drop_left' (List.length_map _)]
 have e3:((stP (d+1) c::(th++el).map (stP (d+1))).length<=1+0+th.length)↔el=[]:=by
  rw [List.length_cons,List.length_map,List.length_append,← List.length_eq_zero_iff];omega
 rw [e1,e2,List.map_append,List.take_left' (List.length_map _)]
 by_cases h:el=[]
 ·rw [if_pos (by rw [←List.map_append];exact e3.2 h),if_pos h]
 ·rw [if_neg (by rw [←List.map_append];exact λq=>h (e3.1 q)),if_neg h]
theorem c3A{d:Nat}:∀{ts:List PT},(∀t∈ts,tkd (stP d t)=(tkZ t).map tr3)->tkd (fsP d ts)=(flS ts).map tr3
 | [],_=>rfl
 | t::ts,h=>by
  have ih:=c3A (ts:=ts) λu hu=>h u (List.mem_cons_of_mem _ hu)
  unfold fsP flS at ih ⊢
  rw [List.map_cons,List.map_cons,List.flatten_cons,List.flatten_cons,M8,List.map_append,ih,h t (by simp)]
theorem e9G{t:PT}(h:XS t):∀d,tkd (stP d t)=(tkZ t).map tr3:=by
 induction h with
 | asg s e he=>intro d;rw [d4R,c3j,a8s,M8,M8,c7T he,List.map_cons,List.map_cons,List.map_append];rfl
 | sto s i e hi he=>intro d;rw [d4S,c3k,a8s,M8,M8,M8,M8,c7T he,c7T hi,List.map_cons,List.map_cons,List.map_append,List.map_cons,List.map_cons,List.map_append];simp only [List.append_assoc];rfl
 | iff c th el hc hth hel ih1 ih2=>
  intro d
  rw [d8n,c5y,M8,M8,M8,a8s,a8s,M8,M8,d1N hc,c3A λt ht=>ih1 t ht (d+1)]
  by_cases e:el=[]
  ·rw [if_pos e,if_pos e]
   simp only [List.map_cons,List.map_append,List.append_assoc]
   rfl
  ·rw [if_neg e,if_neg e,M8,a8s,c3A λt ht=>ih2 t ht (d+1)]
   simp only [List.map_cons,List.map_append,List.append_assoc]
   rfl
 | whl c th hc hth ih=>
  intro d
  rw [d4W,c3o,M8,M8,a8s,a8s,M8,M8,d1N hc,c3A λt ht=>ih t ht (d+1)]
  simp only [List.map_cons,List.map_append,List.append_assoc]
  rfl
 | asr c hc=>intro d;rw [d4T,c3l,a8s,M8,M8,d1N hc,List.map_cons,List.map_append];rfl
 | asm c hc=>intro d;rw [d4U,c3m,a8s,M8,M8,d1N hc,List.map_cons,List.map_append];rfl
 | skp=>intro d;rw [d4V,c3n,a8s];rfl
theorem c5i{s:BA}{k:Int}{a b c d:Nat}(hk:k=1\/k=2)(h:nameOk (.stmt k s a b c d)=true):nameS s=true:=by
 unfold nameOk at h
 rw [if_pos (by show (decide (k=1)||decide (k=2))=true;rcases hk with rfl | rfl<;>rfl)] at h
 exact h
theorem c3B{d:Nat}:∀{ts:List PT},(∀t∈ts,∀x,okD x (stP d t)=true)->∀x,okD x (fsP d ts)=true
 | [],_,_=>rfl
 | t::ts,h,x=>by
  have ih:=c3B (ts:=ts) (λu hu=>h u (List.mem_cons_of_mem _ hu)) x
  unfold fsP at ih ⊢
  rw [List.map_cons,List.flatten_cons]
  exact ok_two (h t (by simp) _) ih
theorem d4X(x:Option UInt8)(d:Nat):okD x (lnP d [.sg [125]])=true:=a9B d (ok_one (a2w (w:=125) (by decide) (by decide))) x
theorem b2K:okD (some 10) [.sg [59]]=true:=ok_one (a2w (w:=59) (by decide) (by decide))
theorem c0R{s:BA}{l:List Pd}{c:UInt8}(hs:wordS s=true)(h:okD (some c) l=true){r:List Pd}(hr:okD (some 10) r=true)(hc:(bytd r).head? = some c):okD (some 10) ([.wd s 3,.bl 32]++l++r)=true:=by
 refine ok_two (ok_two ?_ ?_) hr
 ·exact a5C (by exact b6v hs b2S) rfl
 ·rw [hc];exact h
theorem e9H{t:PT}(h:XS t):namesT t=true->∀d x,okD x (stP d t)=true:=by
 have o59:offB (some 59)=true:=by decide
 have n59:(some (59:UInt8))≠some 61:=by decide
 have cu:okD (some 10) [.bl 32,.sg [123]]=true:=a5C rfl (ok_one (a2w (w:=123) (by decide) (by decide)))
 induction h with
 | asg s e he=>
  intro hn d x
  rw [d4R]
  refine a9B d (ok_two (ok_two ?_ (by exact c7V he (a3e (t:=e) hn (by simp)) _ o59 n59)) b2K) x
  exact a5C (by exact c0Q (c5i (.inl rfl) (b5W hn)) b2S) (a5C rfl (a5C (a2w (w:=61) (by decide) (by show some (32:UInt8)≠some 61;decide)) rfl))
 | sto s i e hi he=>
  intro hn d x
  have hni:=a3e (t:=i) hn (by simp)
  rw [d4S]
  refine a9B d (ok_two (ok_two (ok_two (ok_two ?_ (by exact c7V hi hni _ (by show offB (some 93)=true;decide) (by show some (93:UInt8)≠some 61;decide))) ?_) (by exact c7V he (a3e (t:=e) hn (by simp)) _ o59 n59)) b2K) x
  ·exact a5C (by exact c0Q (c5i (.inr rfl) (b5W hn)) (by show offB (some 91)=true;decide)) (ok_one (a2w (w:=91) (by decide) ((c2h hi hni).hd _)))
  ·exact a5C (a2w (w:=93) (by decide) (by show some (32:UInt8)≠some 61;decide)) (a5C rfl (a5C (a2w (w:=61) (by decide) (by show some (32:UInt8)≠some 61;decide)) rfl))
 | iff c th el hc hth hel ih1 ih2=>
  intro hn d x
  have hnc:=a3e (t:=c) hn (by simp)
  rw [d8n]
  refine ok_two (ok_two (ok_two (a9B d (c0R (c:=32) (by kernel_rfl) (d1P hc hnc _ b2S (by decide)) cu rfl) _) (c3B (λt ht x=>ih1 t ht (a3e hn (by simp [ht])) (d+1) x) _)) ?_) (d4X x d)
  by_cases e:el=[]
  ·rw [if_pos e];rfl
  ·rw [if_neg e]
   refine ok_two (a9B d ?_ _) (c3B (λt ht x=>ih2 t ht (a3e hn (by simp [ht])) (d+1) x) _)
   exact a5C (a2w (w:=125) (by decide) (by show some (32:UInt8)≠some 61;decide)) (a5C rfl (a5C (by exact b6v (by kernel_rfl) b2S) cu))
 | whl c th hc hth ih=>
  intro hn d x
  have hnc:=a3e (t:=c) hn (by simp)
  rw [d4W]
  exact ok_two (ok_two (a9B d (c0R (c:=32) (by kernel_rfl) (d1P hc hnc _ b2S (by decide)) cu rfl) _) (c3B (λt ht x=>ih t ht (a3e hn (by simp [ht])) (d+1) x) _)) (d4X x d)
 | asr c hc=>
  intro hn d x
  rw [d4T]
  exact a9B d (c0R (c:=59) (by kernel_rfl) (d1P hc (a3e (t:=c) hn (by simp)) _ o59 n59) b2K rfl) x
 | asm c hc=>
  intro hn d x
  rw [d4U]
  exact a9B d (c0R (c:=59) (by kernel_rfl) (d1P hc (a3e (t:=c) hn (by simp)) _ o59 n59) b2K rfl) x
 | skp=>
  intro _ d x
  rw [d4V]
  exact a9B d (a5C (by exact b6v (by kernel_rfl) o59) b2K) x
theorem b2L(b:Bool)(o c:UInt8)(l:List Tok):(parT b o c l).length<=l.length+2:=by
 unfold parT
 split<;>simp
theorem c0S(k n:Int)(s:BA)(ts:List PT):cT (eX k n s ts)=cTs ts+1:=by unfold eX;rw [cT];omega
theorem c3C(k n:Int)(ts us:List PT):cT (cX k n ts us)=cTs ts+cTs us+1:=by unfold cX;rw [cT,a8x];omega
theorem b8S(k:Int)(s:BA)(es cs va wa:List PT):cT (sX k s es cs va wa)=cTs es+cTs cs+cTs va+cTs wa+1:=by unfold sX;rw [cT,a8x,a8x,a8x];omega
theorem b6w(t:PT):cTs [t]=cT t:=by rw [cTs,cTs];omega
theorem c5G(t u:PT):cTs [t,u]=cT t+cT u:=by rw [cTs,cTs,cTs];omega
theorem c5H:cTs []=0:=by rw [cTs]
theorem c3D{t:PT}(h:XE t):(tkT t).length<=8*cT t:=by
 induction h with
 | num n _ _=>rw [c7m,c0S];simp only [List.length_cons,List.length_nil];omega
 | var s=>rw [d4j,c0S];simp only [List.length_cons,List.length_nil];omega
 | inp=>rw [d4k,c0S];simp only [List.length_cons,List.length_nil];omega
 | item s e _ ih=>rw [c4o,c0S,b6w];simp only [List.length_cons,List.length_nil,List.length_append];omega
 | neg e _ ih=>
  have:=b2L (decide (lvE (kindT e) < 3)) 40 41 (tkT e)
  rw [c7n,c0S,b6w];unfold tL;simp only [List.length_cons];omega
 | bin k a b hk _ _ iha ihb=>
  have:=b2L (decide (lvE (kindT a) < lvE k)) 40 41 (tkT a)
  have:=b2L (decide (lvE (kindT b) < lvE k+1)) 40 41 (tkT b)
  rw [b9P hk,c0S,c5G];unfold tL;simp only [List.length_cons,List.length_append];omega
theorem c5I{t:PT}(h:XC t):(tkT t).length<=8*cT t:=by
 induction h with
 | tru=>rw [c3C,c5H];show 1<=_;omega
 | fls=>rw [c3C,c5H];show 1<=_;omega
 | cmp op a b _ _ ha hb=>
  have:=c3D ha
  have:=c3D hb
  rw [c3f,c3C,c5G];simp only [List.length_cons,List.length_append];omega
 | not c _ ih=>
  have:=b2L (decide (lvC (kindT c) < 3)) 91 93 (tkT c)
  rw [c7p,c3C,b6w];unfold cL;simp only [List.length_cons];omega
 | bin k a b hk _ _ iha ihb=>
  have:=b2L (decide (lvC (kindT a) < lvC k)) 91 93 (tkT a)
  have:=b2L (decide (lvC (kindT b) < lvC k+1)) 91 93 (tkT b)
  rw [c0I hk,c3C,c5G];unfold cL;simp only [List.length_cons,List.length_append];omega
theorem c0c:∀{ts:List PT},(∀t∈ts,(tkZ t).length<=8*cT t)->(flS ts).length<=8*cTs ts
 | [],_=>Nat.zero_le _
 | t::ts,h=>by
  have ih:=c0c (ts:=ts) λu hu=>h u (List.mem_cons_of_mem _ hu)
  have:=h t (by simp)
  unfold flS at ih ⊢
  rw [List.map_cons,List.flatten_cons,List.length_append,cTs]
  omega
theorem e6Y{t:PT}(h:XS t):(tkZ t).length<=8*cT t:=by
 induction h with
 | asg s e he=>have:=c3D he;rw [c3j,b8S,b6w];simp only [List.length_cons,List.length_nil,List.length_append];omega
 | sto s i e hi he=>have:=c3D he;have:=c3D hi;rw [c3k,b8S,c5G];simp only [List.length_cons,List.length_nil,List.length_append];omega
 | iff c th el hc hth hel ih1 ih2=>
  have:=c5I hc
  have h1:=c0c ih1
  have h2:=c0c ih2
  rw [c5y,b8S,b6w,c5H]
  by_cases e:el=[]
  ·rw [if_pos e];simp only [List.length_cons,List.length_nil,List.length_append];omega
  ·rw [if_neg e];simp only [List.length_cons,List.length_nil,List.length_append];omega
 | whl c th hc hth ih=>
  have:=c5I hc
  have h1:=c0c ih
  rw [c3o,b8S,b6w,c5H];simp only [List.length_cons,List.length_nil,List.length_append];omega
 | asr c hc=>have:=c5I hc;rw [c3l,b8S,b6w];simp only [List.length_cons,List.length_nil,List.length_append];omega
 | asm c hc=>have:=c5I hc;rw [c3m,b8S,b6w];simp only [List.length_cons,List.length_nil,List.length_append];omega
 | skp=>rw [c3n,b8S];simp only [List.length_cons,List.length_nil];omega
def dPd(d:j9):List Pd:=if d.D2=0 then lnP 0 [.wd tVar 3,.bl 32,.wd d.o7 1,.sg [59]] else lnP 0 [.wd tArr 3,.bl 32,.wd d.o7 1,.sg [91],.nb d.D2.toNat,.sg [93],.sg [59]]
def prP(q:PP):List Pd:=(q.decls.map dPd).flatten++fsP 0 q.body
theorem d4Y{d:j9}(h:0<=d.D2):bytd (dPd d)=declT Lib.itoa d:=by
 unfold dPd declT
 split
 ·rw [a2D];rfl
 ·rw [a2D]
  congr 1
  show [97,114,114,97,121]++([32]++(d.o7.data.toList++([91]++(Lib.decDigits d.D2.toNat++([93]++([59]++[]))))))=_
  rw [show Lib.itoa d.D2=Lib.decDigits d.D2.toNat by rw [Lib.itoa,if_neg (by omega)]]
  simp
theorem e5E{d:j9}(h:0<=d.D2):tkd (dPd d)=(dTk d).map tr3:=by
 unfold dPd dTk
 split
 ·rw [a8s];rfl
 ·rw [a8s]
  show [((3:Int),tArr,(0:Int)),((1:Int),d.o7,(0:Int)),((4:Int),⟨#[91]⟩,(0:Int)),((2:Int),⟨(Lib.decDigits d.D2.toNat).toArray⟩,((d.D2.toNat:Nat):Int)),((4:Int),⟨#[93]⟩,(0:Int)),((4:Int),⟨#[59]⟩,(0:Int))]=[((3:Int),tArr,(0:Int)),((1:Int),d.o7,(0:Int)),((4:Int),⟨#[91]⟩,(0:Int)),((2:Int),⟨(Lib.itoa d.D2).toArray⟩,d.D2),((4:Int),⟨#[93]⟩,(0:Int)),((4:Int),⟨#[59]⟩,(0:Int))]
  rw [Int.toNat_of_nonneg h,Lib.itoa,if_neg (by omega)]
theorem e5F{d:j9}(h:0<=d.D2)(h1:d.D2<=2147483647)(hn:nameS d.o7=true)(x:Option UInt8):okD x (dPd d)=true:=by
 unfold dPd
 split
 ·exact a9B 0 (a5C (by exact b6v (by kernel_rfl) b2S) (a5C rfl (a5C (by exact c0Q hn (by show offB (some 59)=true;decide)) b2K))) x
 ·refine a9B 0 (a5C (by exact b6v (by kernel_rfl) b2S) (a5C rfl (a5C (by exact c0Q hn (by show offB (some 91)=true;decide)) (a5C (a2w (w:=91) (by decide) ((Fb1.app (b:=[.sg [93],.sg [59]]) (d4P d.D2.toNat)).hd _)) (a5C ?_ (a5C (a2w (w:=93) (by decide) (by show some (59:UInt8)≠some 61;decide)) b2K)))))) x
  show (decide (d.D2.toNat < 9223372036854775808)&&offB (some 93))=true
  rw [decide_eq_true (by omega)]
  decide
theorem c1q:∀{ds:List j9},(∀d∈ds,0<=d.D2)->bytd (ds.map dPd).flatten=(ds.map (declT Lib.itoa)).flatten
 | [],_=>rfl
 | d::ds,h=>by rw [List.map_cons,List.flatten_cons,I0,d4Y (h d (by simp)),c1q λx hx=>h x (List.mem_cons_of_mem _ hx)];rfl
theorem c7W:∀{ds:List j9},(∀d∈ds,0<=d.D2)->tkd (ds.map dPd).flatten=((ds.map dTk).flatten).map tr3
 | [],_=>rfl
 | d::ds,h=>by rw [List.map_cons,List.flatten_cons,M8,e5E (h d (by simp)),c7W λx hx=>h x (List.mem_cons_of_mem _ hx),List.map_cons,List.flatten_cons,List.map_append]
theorem c5j:∀{ds:List j9},(∀d∈ds,0<=d.D2/\d.D2<=2147483647/\nameS d.o7=true)->∀x,okD x (ds.map dPd).flatten=true
 | [],_,_=>rfl
 | d::ds,h,x=>by
  obtain ⟨a,b,c⟩:=h d (by simp)
  rw [List.map_cons,List.flatten_cons]
  exact ok_two (e5F a b c _) (c5j (λx hx=>h x (List.mem_cons_of_mem _ hx)) x)
theorem e5G(ds:List j9):((ds.map dTk).flatten).length<=8*cTs (ds.map dT):=by
 induction ds with
 | nil=>exact Nat.zero_le _
 | cons d ds ih=>
  rw [List.map_cons,List.flatten_cons,List.length_append,List.map_cons,cTs]
  have:(dTk d).length<=6:=by unfold dTk;split<;>simp
  have:cT (dT d)=1:=by unfold dT;rw [cT,cTs]
  omega
def un3(x:Int×BA×Int):Tok:=⟨x.1,x.2.1,x.2.2,⟨0,0⟩⟩
theorem d1R(d:Nat){ts:List PT}(h:formTs ts=true):bytd (fsP d ts)=(stxs Lib.itoa d ts).flatten:=by
 unfold fsP
 rw [←b8Q,b3H,b8R d ts h]
theorem e1s{H:Hp}{p:o8}{q:PP}(hp:PH H p q)(hsm:q.Sm)(ht:toldS q.nodes=0)(hl:(progT Lib.itoa q).length<=lim):((∀t∈q.body,nd t<=40)->ansR progP chkP (bS (progT Lib.itoa q))=.ok q)/\(¬(∀t∈q.body,nd t<=40)->∃pl,ansR progP chkP (bS (progT Lib.itoa q))=.error (41,pl)):=by
 obtain ⟨hcnt,_,hfm,hnm⟩:=(c1M _).1 ht
 obtain ⟨_,_,xs,_,_,hbr⟩:=hp
 have nmm:∀{ts:List PT}{t:PT},namesTs ts=true->t∈ts->namesT t=true:=by
  intro ts t
  induction ts with
  | nil=>intro _ h;cases h
  | cons u ts ih=>
   intro hf h
   rw [namesTs,Bool.and_eq_true] at hf
   rcases List.mem_cons.1 h with rfl | h
   ·exact hf.1
   ·exact ih hf.2 h
 have hds:∀d∈q.decls,0<=d.D2/\d.D2<=2147483647/\nameS d.o7=true:=λd hd=>by
  have hm:dT d∈q.nodes:=List.mem_append_left _ (List.mem_map.2 ⟨d,hd,rfl⟩)
  obtain ⟨a,b⟩:=d0k (b0f hfm hm)
  refine ⟨a,b,?_⟩
  have h:nameOk (.decl d.D2 d.o7)=true:=b5W (cs:=[]) (nmm hnm hm)
  exact h
 have hbs:∀t∈q.body,XS t/\namesT t=true:=λt ht=>by
  have hm:t∈q.nodes:=List.mem_append_right _ ht
  obtain ⟨i,hi⟩:=List.mem_iff_getElem?.1 ht
  obtain ⟨v,hv⟩:=K2 (l:=xs) (i:=i) (by have:=O1 hi;have:=hbr.1;omega)
  exact ⟨shS (hbr.2 i v t hv hi) (b0f hfm hm) (hsm t hm),nmm hnm hm⟩
 unfold PP.nodes at hcnt hfm
 rw [a8x] at hcnt
 rw [a2u,Bool.and_eq_true] at hfm
 have hby:bytd (prP q)=progT Lib.itoa q:=by
  unfold prP progT
  rw [I0,c1q λd hd=>(hds d hd).1,d1R 0 hfm.2]
 have htk:tkd (prP q)=((q.decls.map dTk).flatten++flS q.body).map tr3:=by
  unfold prP
  rw [M8,c7W λd hd=>(hds d hd).1,c3A λt ht=>e9G (hbs t ht).1 0,List.map_append]
 have hok:okD none (prP q)=true:=ok_two (c5j hds _) (c3B (λt ht x=>e9H (hbs t ht).1 (hbs t ht).2 0 x) _)
 have hlen:(tkd (prP q)).length<=32768:=by
  rw [htk,List.length_map,List.length_append]
  have h1:=e5G q.decls
  have h2:=c0c (ts:=q.body) λt ht=>e6Y (hbs t ht).1
  omega
 obtain ⟨l',b,h1,h2⟩:=e1n hok hlen (by rw [hby];exact hl)
 rw [hby] at h1
 have h1:tkS (bS (progT Lib.itoa q))=(l'++[⟨5,⟨#[]⟩,0,b⟩],(0,0),0):=h1
 have he:erL (toks (bS (progT Lib.itoa q)))=erL (tkP q):=by
  show (((tkS (bS (progT Lib.itoa q))).1.map tkv).map er)=_
  rw [h1]
  show ((l'++([⟨5,⟨#[]⟩,0,b⟩]:List Tk)).map tkv).map er=_
  have e1:(l'.map tkv).map er=(l'.map ktn).map un3:=by rw [List.map_map,List.map_map];rfl
  rw [List.map_append,List.map_append,e1,h2,htk]
  unfold tkP erL
  simp only [List.map_append,List.map_map,List.append_assoc]
  rfl
 have hread:eA (readsR progP chkP (toks (bS (progT Lib.itoa q))))=eA (readsR progP chkP (tkP q)):=by
  rw [←c7N Bl.progP,he,c7N Bl.progP]
 have hz:(tkS (bS (progT Lib.itoa q))).2.2=0:=by rw [h1]
 have hans:ansR progP chkP (bS (progT Lib.itoa q))=readsR progP chkP (toks (bS (progT Lib.itoa q))):=by unfold ansR;rw [if_pos hz]
 obtain ⟨r1,r2⟩:=e1b (q:=q) (λd hd=>⟨(hds d hd).1,(hds d hd).2.1⟩) λt ht=>(hbs t ht).1
 rw [hans]
 constructor
 ·intro hd
  have e:readsR progP chkP (tkP q)=.ok q:=by
   unfold readsR
   rw [r1 hd]
   show (if (5:Int)≠5 then _ else if chkP q=32 then _ else if chkP q=33 then _ else Except.ok q)=_
   rw [if_neg (by decide),show chkP q=0 from ht]
   rfl
  rw [e] at hread
  cases hq:readsR progP chkP (toks (bS (progT Lib.itoa q))) with
  | error x=>rw [hq] at hread;cases hread
  | ok x=>rw [hq] at hread;cases hread;rfl
 ·intro hd
  obtain ⟨pl,e⟩:=r2 hd
  have e:readsR progP chkP (tkP q)=.error (41,pl):=by unfold readsR;rw [e]
  rw [e] at hread
  cases hq:readsR progP chkP (toks (bS (progT Lib.itoa q))) with
  | error x=>
   rw [hq] at hread
   obtain ⟨c,pl2⟩:=x
   have hread:(Except.error c:Except Int PP)=.error 41:=hread
   cases hread
   exact ⟨pl2,rfl⟩
  | ok x=>rw [hq] at hread;cases hread
end
section
variable {H:Hp}{c:s6}{vs:List BA}{ds:List j9}{es:List d8}{sf:Sl}
theorem d1S{c c':s6}(G:GH H c vs ds es)(G':GH H c' vs ds es)(e1:c.D7=c'.D7)(e2:c.i7=c'.i7)(e3:c.K8=c'.K8){K:KT Bool}(h:K true H):a5I c c' H K:=by
 refine b6b _ _ ?_
 have bv:=G.bv;have ba:=G.ba;have be:=G.be
 have n1:=G.e.1;have n2:=G'.e.1
 refine d5Q G.v G'.v (by simp only [big];omega) ⟨λ_=>d5X G.a G'.a (by simp only [big];omega) ?_,λe=>?_⟩
 ·refine ⟨λq=>?_,λ_=>?_⟩
  ·exfalso
   simp [e1,e2,e3] at q;omega
  refine P7 (λst H'=>H'=H/\∃i:Nat,i<=es.length/\st=(i:Int)) (λst=>es.length-st.toNat) ⟨rfl,0,Nat.zero_le _,rfl⟩ ?_
  rintro st H1 next ⟨rfl,i,hi,rfl⟩ hnx
  refine ⟨λq=>?_,λq=>?_⟩
  ·obtain ⟨x,hx⟩:=K2 (l:=es) (i:=i) (by omega)
   refine ⟨by omega,by omega,x,G.e.2 i x hx,by omega,by omega,x,G'.e.2 i x hx,λe=>(e ⟨rfl,rfl,rfl,rfl,rfl,rfl,rfl,rfl,rfl,rfl⟩).elim,λ_=>?_⟩
   rw [K7 (by omega) (by omega)]
   exact hnx _ _ ⟨rfl,i+1,by omega,rfl⟩ (by omega)
  ·exact h
 ·exfalso
  simp [e1] at e
end
section
variable {H:Hp}
def sk1:PT:=.mk (.stmt 7 ⟨#[]⟩ 0 0 0 0) []
def kn9:PP:=⟨[],[sk1]⟩
theorem e5H:loE kn9=0/\loS kn9=⟨2,0,[bareE 0 1 1]⟩/\exS kn9=1:=⟨by kernel_rfl,by kernel_rfl,by kernel_rfl⟩
theorem e5I:kn9.Sm:=by
 intro t ht
 rcases List.mem_cons.1 ht with e | ht
 ·rw [e];exact .mk (by decide) λt ht=>by cases ht
 ·cases ht
theorem e5J(H:Hp):SH H (i6.mk 7 ⟨#[]⟩ (Sl.mk none 0 0) (Sl.mk none 0 0) (Sl.mk none 0 0) (Sl.mk none 0 0)) sk1:=
 SH.mk (ts:=[]) (us:=[]) (vs:=[]) (ws:=[]) (s:=i6.mk 7 ⟨#[]⟩ (Sl.mk none 0 0) (Sl.mk none 0 0) (Sl.mk none 0 0) (Sl.mk none 0 0)) (SlH.nil _ _ _) (Nat.zero_le _) C4.nil (SlH.nil _ _ _) (Nat.zero_le _) C4.nil (SlH.nil _ _ _) (Nat.zero_le _) rfl (λi x t h=>by simp at h) (SlH.nil _ _ _) (Nat.zero_le _) rfl (λi x t h=>by simp at h)
theorem d4Z(hT:TabsH H){K:KT Bool}(h:∀H',Hle H H'->K true H'):a4M H K:=by
 refine b4M ?_
 intro s H1 l1 hS _
 obtain ⟨k1,k2,k3⟩:=e5H
 refine c1Z (hT.le l1) (q:=kn9) ⟨SlH.nil _ _ _,Nat.zero_le _,_,hS,by simp [big],C4.one (e5J _)⟩ e5I (λe=>(e k1).elim) λ_ c H2 l2 hc=>?_
 obtain ⟨F,hrow,hF,_⟩:=hc.e
 have he:=hrow.frozen (by decide) hF
 rw [k2] at he
 have hn:c.E1.n=1:=he.1
 refine ⟨bareE 0 1 1,λ_=>⟨by omega,by omega,he.2 0 _ rfl⟩,?_⟩
 have e1:c.i7=2:=by rw [hc.p,k2]
 have e2:c.K8=1:=by rw [hc.x,k3]
 have:=h H2 (l1.trans l2)
 simpa [e1,e2,hn] using this
def qcnt(k:Int)(es:List Ed):Nat:=(es.filter λe=>decide (e.d9=k)).length
structure Sc (g g':Gr):Prop where
 e:∀k:Int,k=13\/k=14->qcnt k g'.es=qcnt k g.es
theorem Sc.trans{a b c:Gr}(h:Sc a b)(k:Sc b c):Sc a c:=⟨λn hn=>(k.e n hn).trans (h.e n hn)⟩
theorem Sc.same{a b:Gr}(h:b.es=a.es):Sc a b:=⟨λn _=>by rw [h]⟩
structure Nc (f:Fs):Prop where
 into:∀dst a b d g,Sc g (f.into dst a b d g)
 co:∀a b c g,Sc g (f.co a b c g)
def lbA:Lab->Nat
 | .stmt k _ _ _ _ _=>if k=5 then 1 else 0
 | _=>0
mutual
def aT:PT->Nat
 | .mk l cs=>lbA l+aTs cs
def aTs:List PT->Nat
 | []=>0
 | t::ts=>aT t+aTs ts
end
theorem d0n:∀a b:List PT,aTs (a++b)=aTs a+aTs b
 | [],b=>by rw [List.nil_append,aTs,Nat.zero_add]
 | t::a,b=>by rw [List.cons_append,aTs,aTs,d0n a b,Nat.add_assoc]
theorem c5J:∀{ts:List PT}(_:∀t∈ts,aT t=0),aTs ts=0
 | [],_=>by rw [aTs]
 | t::ts,h=>by rw [aTs,h t (List.mem_cons_self ..),c5J λu hu=>h u (List.mem_cons_of_mem _ hu)]
theorem c4A{α:Type}{R:α->PT->Prop}{xs:List α}{ts:List PT}{P:PT->Prop}(hl:xs.length=ts.length)(h:∀(i:Nat)(x:α)(t:PT),xs[i]? = some x->ts[i]? = some t->P t):∀t∈ts,P t:=λt ht=>by
 obtain ⟨i,hi,rfl⟩:=List.mem_iff_getElem.1 ht
 exact h i xs[i] _ (List.getElem?_eq_getElem (by omega)) (List.getElem?_eq_getElem hi)
theorem EH.a0{e:l9}{t:PT}(h:EH H e t):aT t=0:=by
 induction h with
 | mk _ _ hl _ ih=>rw [aT,c5J (c4A (R:=λ_ _=>True) hl ih)];rfl
theorem CH.a0{e:p5}{t:PT}(h:CH H e t):aT t=0:=by
 induction h with
 | mk _ _ hr _ _ hl _ ih=>
  rw [aT,d0n,c5J (c4A (R:=λ_ _=>True) hl ih),c5J (c4A (R:=λ_ _=>True) hr.1 λi x t hx ht=>(hr.2 i x t hx ht).a0)];rfl
structure Ac (n:Nat) (g g':Gr):Prop where
 e:∀k:Int,k=13\/k=14->qcnt k g'.es=qcnt k g.es+n
theorem Ac.trans{n m:Nat}{a b c:Gr}(h:Ac n a b)(k:Ac m b c):Ac (n+m) a c:=⟨λi hi=>by rw [k.e i hi,h.e i hi,Nat.add_assoc]⟩
theorem Sc.ac{a b:Gr}(h:Sc a b):Ac 0 a b:=⟨λk hk=>by rw [h.e k hk];rfl⟩
theorem Ac.same{n m:Nat}{a b:Gr}(h:Ac n a b)(e:n=m):Ac m a b:=by rw [←e];exact h
end
theorem d0o{p x:Int}:∀{l:List d8}{k:Int},x∈idxS p k l->k<=x/\∃e,l[(x-k).toNat]? = some e/\e.D6=p
 | [],k,h=>by simp [idxS] at h
 | e::l,k,h=>by
  have nx:x∈idxS p (k+1) l->k<=x/\∃y,(e::l)[(x-k).toNat]? = some y/\y.D6=p:=λh=>by
   obtain ⟨h1,y,h2,h3⟩:=d0o h
   refine ⟨by omega,y,?_,h3⟩
   rw [show (x-k).toNat=(x-(k+1)).toNat+1 by omega,List.getElem?_cons_succ]
   exact h2
  rw [idxS] at h
  split at h
  ·rename_i he
   rcases List.mem_cons.1 h with e1 | h
   ·exact ⟨by omega,e,by rw [show (x-k).toNat=0 by omega];rfl,he⟩
   ·exact nx h
  ·exact nx h
theorem e1t(x:Int){n:Int}(h:0 < n):-n < Int.tmod x n/\Int.tmod x n < n:=⟨Int.lt_tmod_of_pos x h,Int.tmod_lt_of_pos x h⟩
section
variable {H:Hp}{a:s6}{b:o8}{vs:List BA}{ds:List j9}{es:List d8}{ws:List Int}{s1:Sl}{K:KT Bool}
theorem d6T{met:List Bool}(h0:checkS a vs ds es=0)(hm:met.length=a.i7.toNat)(hh:∀x∈headsS a.i7 es,met[x.toNat]? = some true)(G:GH H a vs ds es)(hw:SlH H 1 K4 s1 ws)
  (hj:∀H',Hle H H'->N3 a b H' K):a0f s1 met a b H K:=by
 unfold a0f
 obtain ⟨p1,p2,pe,ha,_⟩:=b2E G h0
 refine P7 (λ(st:Int×Int×Bool×Int) H'=>Hle H H'/\0<=st.1/\st.1 < a.i7/\0<=st.2.1/\st.2.1<=st.2.2.2/\st.2.2.2<=2000/\(st.2.2.1=false->st.2.1<=rkP a.i7 es st.1)) (λst=>(2000-st.2.2.2).toNat)
  ⟨Hle.refl _,Int.le_refl _,by dsimp only;omega,Int.le_refl _,Int.le_refl _,by decide,λ_=>(d4e p1 0).1⟩ ?_
 rintro ⟨at_,st,seen,k⟩ H1 next ⟨l1,a0,a1,t0,t1,k1,hr⟩ hn
 dsimp only at a0 a1 t0 t1 k1 hr
 unfold a5x
 refine ⟨λhc=>?_,λ_=>hj H1 l1⟩
 rw [Bool.and_eq_true,decide_eq_true_eq,decide_eq_true_eq] at hc
 obtain ⟨hc1,hc2⟩:=hc
 dsimp only at hc1 hc2 ⊢
 refine e4S (G.le l1) (λc=>(c h0).elim) (λ_ c=>by omega) λ_ _ _ s H2 l2 hs=>⟨λ_=>hj H2 (l1.trans l2),λhne=>?_⟩
 have l12:=l1.trans l2
 obtain ⟨x,_,hx⟩:=(hw.le l12).get (show 0<=k by omega) hc1
 have hn0:(0:Int) < (s.n:Int):=by omega
 obtain ⟨m1,m2⟩:=e1t x hn0
 have hlen:(idxS at_ 0 es).length=s.n:=hs.1.symm
 have hidx:∀i:Int,0<=i->i < (s.n:Int)->U5 s1 met st seen k s i a b H2 next K:=by
  intro i i0 i1
  unfold U5
  obtain ⟨c,hc,hE⟩:=hs.get i0 i1
  obtain ⟨c0,e,he,hf⟩:=d0o (List.mem_of_getElem? hc)
  rw [show (c-0).toNat=c.toNat by omega] at he
  have hcl:c.toNat < es.length:=(List.getElem?_eq_some_iff.1 he).1
  have hn1:=G.e.1
  obtain ⟨_,e0,e1⟩:=c7h ha he
  have hml:e.fTo.toNat < met.length:=by omega
  have hEE:EltH H2 a.E1 c 10 (p7 e):=by
   obtain ⟨y,hy,hz⟩:=(G.le l12).e.get c0 (by omega)
   rw [he] at hy;cases hy;exact hz
  have j5:∀sn:Bool,(sn=false->st+1<=rkP a.i7 es e.fTo)->U4 s1 met e.fTo (IntKind.wrap .i64 (st+1)) sn k a b H2 next K:=by
   intro sn hsn
   unfold U4
   rw [show IntKind.wrap .i64 (st+1)=st+1 by rw [IntKind.wrap_i64];omega,show IntKind.wrap .i64 (k+1)=k+1 by rw [IntKind.wrap_i64];omega]
   refine ⟨λq=>?_,λ_=>hn (e.fTo,st+1,sn,k+1) H2 ⟨l12,e0,e1,by dsimp only;omega,by dsimp only;omega,by dsimp only;omega,hsn⟩ (by dsimp only;omega)⟩
   exfalso
   rw [Bool.and_eq_true,decide_eq_true_eq] at q
   have:=hsn (by cases sn;rfl;exact absurd q.2 (by decide))
   have:=(d4e (es:=es) p1 e.fTo).2
   omega
  refine ⟨i0,i1,c,hE,c0,by omega,e,hEE,e0,met[e.fTo.toNat],List.getElem?_eq_getElem hml,λ_=>j5 true (λq=>by cases q),λq=>j5 seen λq2=>?_⟩
  have hr:=hr q2
  have:¬e.fTo∈headsS a.i7 es:=λz=>by
   have:=hh _ z
   rw [List.getElem?_eq_getElem hml,q] at this
   cases this
  have:=e4U he e0 e1 this
  rw [hf] at this
  omega
 refine ⟨by omega,hc1,x,hx,by omega,λq=>?_,λq=>hidx _ (by omega) m2⟩
 rw [show IntKind.wrap .i64 (Int.tmod x (s.n:Int)+(s.n:Int))=Int.tmod x (s.n:Int)+(s.n:Int) by
  have:(s.n:Int)<=es.length:=by rw [←hlen];have:=b8G at_ 0 es;have z:(fromS es at_).length<=es.length:=List.length_filter_le _ _;omega
  rw [IntKind.wrap_i64];omega]
 exact hidx _ (by omega) (by omega)
theorem e5K(h0:checkS a vs ds es=0)(G:GH H a vs ds es){j:Sl}(hj:SlH H 1 K4 j (headsS a.i7 es))(hw:SlH H 1 K4 s1 ws)(h2:∀H',Hle H H'->N3 a b H' K):
  TL ((List.replicate (a.i7:Int).toNat false,0):(List Bool)×Int) H λ(s:(List Bool)×Int) H n6=>a0g s1 j a b s.1 s.2 H n6 K:=by
 obtain ⟨p1,p2,_⟩:=b2E G h0
 have hl:=c7k (headS a.i7 es) a.i7.toNat
 have hl2:(headsS a.i7 es).length=j.n:=hj.1.symm
 have hl:(headsS a.i7 es).length<=a.i7.toNat:=hl
 refine P7 (λ(st:List Bool×Int) H'=>H'=H/\st.1.length=a.i7.toNat/\∃i:Nat,st.2=(i:Int)/\i<=(headsS a.i7 es).length/\∀k,k < i->∀x,(headsS a.i7 es)[k]? = some x->st.1[x.toNat]? = some true) (λst=>(headsS a.i7 es).length-st.2.toNat)
  ⟨rfl,List.length_replicate,0,rfl,Nat.zero_le _,λk hk=>absurd hk (Nat.not_lt_zero _)⟩ ?_
 rintro ⟨met,i'⟩ H1 next ⟨rfl,hm,i,rfl,hi,hx⟩ hn
 dsimp only at hm hx
 refine ⟨λhc=>?_,λhc=>?_⟩
 ·dsimp only at hc ⊢
  obtain ⟨x,hy,hE⟩:=hj.get (show (0:Int)<=(i:Int) by omega) hc
  rw [Int.toNat_natCast] at hy
  obtain ⟨x0,x1⟩:=d6e (List.mem_of_getElem? hy)
  refine ⟨by omega,hc,x,hE,λq=>?_,λ_=>⟨x0,met[x.toNat]'(by omega),List.getElem?_eq_getElem _,?_⟩⟩
  ·rw [Bool.or_eq_true,decide_eq_true_eq,decide_eq_true_eq] at q;omega
  rw [show IntKind.wrap .i64 ((i:Int)+1)=((i+1:Nat):Int) by rw [IntKind.wrap_i64];omega]
  refine hn (met.set x.toNat true,((i+1:Nat):Int)) _ ⟨rfl,by dsimp only;rw [List.length_set];exact hm,i+1,rfl,by omega,λk hk y e=>?_⟩ (by dsimp only;omega)
  dsimp only
  rw [List.getElem?_set]
  by_cases c:x.toNat=y.toNat
  ·rw [if_pos c,if_pos (by omega)]
  ·rw [if_neg c]
   by_cases q:k=i
   ·subst q;rw [hy] at e;cases e;exact absurd rfl c
   ·exact hx k (by omega) y e
 ·dsimp only at hc ⊢
  refine d6T h0 hm (λx hm=>?_) G hw h2
  obtain ⟨k,hk⟩:=List.mem_iff_getElem?.1 hm
  exact hx k (by have:=(List.getElem?_eq_some_iff.1 hk).1;omega) x hk
end
section
variable {H:Hp}{K:KT Bool}{q:PP}
theorem d8o{p:o8}(hp:PH H p q)(hsm:q.Sm)(h:(wellS q).2=0):∀t∈q.body,XS t:=by
 obtain ⟨_,_,xs,_,_,hbr⟩:=hp
 intro t ht
 obtain ⟨i,hi⟩:=List.mem_iff_getElem?.1 ht
 have:=(List.getElem?_eq_some_iff.1 hi).1
 have:=hbr.1
 exact shS (hbr.2 i _ t (List.getElem?_eq_getElem (by omega)) hi) (b0f (c9Z h).1 ht) (hsm t (List.mem_append_right _ ht))
theorem e5L{l:List UInt8}(h:¬lim < l.length):(bS l).size<=4194304:=by
 have h:¬65536 < l.length:=h
 show l.toArray.size<=_
 rw [List.size_toArray]
 omega
theorem e1u(hT:TabsH H)(hP:PowH H)(hE:ErrH H){p:o8}(hp:PH H p q)(hsm:q.Sm)(h0:loE q=0){a:s6}(G:GH H a (vN q) (ofS q 2) (loS q).es)(e1:a.D7=(loS q).t)(e2:a.i7=(loS q).p)(e3:a.K8=exS q)
  (h:∀H',Hle H H'->K true H'):N3 a p H K:=by
 have hw:=(c5B h0).1
 have ht:=((b5Q q).1 hw).1
 refine d6N hT hP hp hsm λH1 l1=>?_
 have pe:prS q=if lim < (progT Lib.itoa q).length then (⟨#[]⟩,50) else (bS (progT Lib.itoa q),0):=by unfold prS;rw [if_pos ht]
 rw [pe]
 by_cases c:lim < (progT Lib.itoa q).length
 ·rw [if_pos c]
  refine c7J (hT.le l1) (hE.le l1) (by decide) ?_
  cases ansR progP chkP ⟨#[]⟩ with
  | error x=>
   obtain ⟨c,pl⟩:=x
   intro H2 l2
   exact ⟨λ_=>h H2 (l1.trans l2),λz=>by simp at z⟩
  | ok b=>
   intro H2 v l2 hv
   exact ⟨λ_=>h H2 (l1.trans l2),λz=>by simp at z⟩
 rw [if_neg c]
 obtain ⟨b1,b2⟩:=e1s hp hsm ht (Nat.not_lt.1 c)
 refine c7J (hT.le l1) (hE.le l1) (e5L c) ?_
 by_cases hn:∀t∈q.body,nd t<=40
 ·rw [b1 hn]
  intro H2 v l2 hv
  have l12:=l1.trans l2
  refine ⟨λz=>by simp at z,λ_=>c1Z (hT.le l12) hv hsm (λz=>(z h0).elim) λ_ c' H3 l3 hc=>⟨λ_=>?_,λz=>(z rfl).elim⟩⟩
  have l13:=l12.trans l3
  exact d1S (G.le l13) (d1C h0 (d8o hp hsm hw) hc) (e1.trans hc.t.symm) (e2.trans hc.p.symm) (e3.trans hc.x.symm) (h H3 l13)
 ·obtain ⟨pl,e⟩:=b2 hn
  rw [e]
  intro H2 l2
  exact ⟨λ_=>h H2 (l1.trans l2),λz=>by simp at z⟩
theorem c7X(hT:TabsH H)(hP:PowH H)(hE:ErrH H){p:o8}(hp:PH H p q)(hsm:q.Sm){s1:Sl}{ws:List Int}(hs1:SlH H 1 K4 s1 ws)(h:∀H',Hle H H'->K true H'):a2F p s1 H K:=by
 refine b1S _ _ (d4Z hT λH1 l1=>⟨(λc=>by cases c),λ_=>?_⟩)
 refine c1Z (hT.le l1) (hp.le l1) hsm (λc H2 l2=>⟨λ_=>h H2 (l1.trans l2),λz=>?_⟩) λh0 a H2 l2 hc=>⟨λ_=>h H2 (l1.trans l2),λ_=>?_⟩
 ·rw [Bool.or_eq_false_iff] at z
  simp at z
  exact (c z).elim
 have l12:=l1.trans l2
 have hx:=d8o hp hsm (c5B h0).1
 have G:=d1C h0 hx hc
 have k0:=d6q h0 hx hc
 obtain ⟨p1,p2,_⟩:=b2E G k0
 refine d6d G (λc=>(c k0).elim) λ_ j H3 l3 hj=>?_
 have l13:=l12.trans l3
 refine b1N (G.le l3) λH4 l4=>?_
 have l14:=l13.trans l4
 have l34:=l3.trans l4
 rw [k0]
 refine ⟨λz=>by simp at z,λ_=>⟨by omega,by omega,?_⟩⟩
 exact e5K k0 (G.le l34) (hj.le l4) (hs1.le l14) λH5 l5=>e1u (hT.le (l14.trans l5)) (hP.le (l14.trans l5)) (hE.le (l14.trans l5)) (hp.le (l14.trans l5)) hsm h0 (G.le (l34.trans l5)) hc.t hc.p hc.x λH6 l6=>h H6 ((l14.trans l5).trans l6)
end
open Go.RowKit Go.ChangeShapes Go.WideShapes
section
variable {Hd:Type}{enc:TypeId×Value->Hd}{W:World}
theorem d6U{b:Nat}{v:Value}{d:DataW Hd}{ps:List MemPlace}(hv:Value.okWide Tryz.prog W .any b 26 v)(h:DataW.Trod enc Tryz.prog W 0 (λ_=>true) true 26 v d ps):
  ∃(s:Sl)(xs:List Int),v=.slice s.a s.n s.c/\SlH (hpW W) 1 K4 s xs:=by
 obtain ⟨n,h⟩:=c2n h
 rw [c8d Tryz.underlying26 hv] at h
 obtain ⟨s,xs,q,hs,_⟩:=a7N Tryz.underlying26 (show Tryz.prog.cellsOf 3=1 by kernel_rfl) (by decide) K4 (λ_=>True) h (λn cs y _ h=>by
  obtain ⟨z,rfl,_,_⟩:=c8O Tryz.underlying3 h
  exact ⟨z,rfl,trivial⟩)
 simp only [List.cons.injEq,and_true] at q
 exact ⟨s,xs,q,hs⟩
end
end Go.Proofs.YthjlehnccgjpoaaGreatDoor
