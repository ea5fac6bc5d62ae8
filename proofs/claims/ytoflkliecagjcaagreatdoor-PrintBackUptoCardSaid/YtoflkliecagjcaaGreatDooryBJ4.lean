/- Pieces of a text (signs, numbers, words, blanks and line feeds) and its tokens but their places. Plain. -/
import Derived.Lib.ItoaNum
import Derived.Test.YtoflkliecagjcaaGreatDooryBJ2
namespace Go.Proofs.YtoflkliecagjcaaGreatDoor
open Go.RowKit
set_option maxRecDepth 100000
set_option maxHeartbeats 1000000
theorem u8d{k:Nat}(h:k < 10):(UInt8.ofNat (48+k)).toNat=48+k:=by
 have:(UInt8.ofNat (48+k)).toNat=(48+k) % 256:=UInt8.toNat_ofNat'
 rw [this];omega
theorem c4J(a:Nat)(l:List UInt8)(c:UInt8):dval a (l++[c])=dval a l*10+(c.toNat-48):=by
 unfold dval
 rw [List.foldl_append]
 rfl
theorem b7f:∀n:Nat,(∀c∈Lib.decDigits n,isDig c)∧dval 0 (Lib.decDigits n)=n∧(∃c l,Lib.decDigits n=c::l∧(c.toNat=48→l=[])):=by
 intro n
 induction n using Nat.strongRecOn with
 | _ n ih=>
  rw [Lib.decDigits]
  by_cases h:n < 10
  ·rw [dif_pos h]
   have u:=u8d h
   refine ⟨fun c hc=>?_,?_,_,_,rfl,fun _=>rfl⟩
   ·rw [List.mem_singleton.1 hc];unfold isDig;omega
   ·rw [a6r,b4g,u];omega
  ·rw [dif_neg h]
   obtain ⟨i1,i2,c,l,i3,i4⟩:=ih (n / 10) (by omega)
   have u:=u8d (k:=n % 10) (by omega)
   refine ⟨fun c hc=>?_,?_,c,l++[UInt8.ofNat (48+n % 10)],by rw [i3];rfl,fun h0=>?_⟩
   ·rcases List.mem_append.1 hc with q | q
    ·exact i1 c q
    ·rw [List.mem_singleton.1 q];unfold isDig;omega
   ·rw [c4J,i2,u];omega
   ·have hl:=i4 h0
    rw [i3,hl,a6r,b4g,h0] at i2
    omega
section
variable {s:ByteArray}
theorem c1m:∀(l:List UInt8){p v:Nat}{r:List UInt8},(∀c∈l,isDig c)→Dr s p (l++r)→¬(p+l.length < s.size∧48≤by8 s (p+l.length)∧by8 s (p+l.length)≤57)→dg s p v=(p+l.length,dval v l)
 | [],p,v,r,_,_,hx=>by
  have hx:¬(p < s.size∧48≤by8 s p∧by8 s p≤57):=hx
  rw [b6a hx];rfl
 | c::l,p,v,r,hd,h,hx=>by
  obtain ⟨p0,_,h1⟩:=h.cons
  have hc:=hd c (List.mem_cons_self ..)
  unfold isDig at hc
  have hb:=h.by8
  rw [List.length_cons,show p+(l.length+1)=p+1+l.length by omega] at hx
  rw [b3c p0 (by rw [hb];exact hc),c1m l (fun d q=>hd d (List.mem_cons_of_mem _ q)) h1 hx,hb,a6r,List.length_cons,show p+1+l.length=p+(l.length+1) by omega]
end
inductive Pd where
 | sg (w:List UInt8)
 | nb (n:Nat)
 | wd (s:ByteArray) (k:Int)
 | bl (c:UInt8)
def Pd.by_:Pd→List UInt8
 | .sg w=>w
 | .nb n=>Lib.decDigits n
 | .wd s _=>s.data.toList
 | .bl c=>[c]
def bytd(l:List Pd):List UInt8:=l.flatMap Pd.by_
def Pd.tk:Pd→List (Int×ByteArray×Int)
 | .sg w=>[(4,⟨w.toArray⟩,0)]
 | .nb n=>[(2,⟨(Lib.decDigits n).toArray⟩,n)]
 | .wd s k=>[(k,s,0)]
 | .bl _=>[]
def tkd(l:List Pd):List (Int×ByteArray×Int):=l.flatMap Pd.tk
def twoB(a b:UInt8):Bool:=(b == 61&&(a == 61||a == 33||a == 60||a == 62))||(a == 38&&b == 38)||(a == 124&&b == 124)
def Pd.ok(d:Option UInt8):Pd→Bool
 | .sg [c]=>(decide (c.toNat < 128)&&decide (classS c.toNat=5))&&((!decide (c.toNat=38) && !decide (c.toNat=124)) && !decide (d=some 61))
 | .sg [a,b]=>twoB a b
 | .sg _=>false
 | .nb n=>decide (n < 9223372036854775808)&&offB d
 | .wd s k=>((decide (k=1)&&nameS s)||(decide (k=3)&&wordS s))&&offB d
 | .bl c=>c == 32||c == 10
def okD(d:Option UInt8):List Pd→Bool
 | []=>true
 | a::l=>a.ok ((bytd l).head?.or d)&&okD d l
theorem c4K(a:Pd)(l:List Pd):bytd (a::l)=a.by_++bytd l:=by unfold bytd;rw [List.flatMap_cons]
theorem B3(a b:List Pd):bytd (a++b)=bytd a++bytd b:=by unfold bytd;rw [List.flatMap_append]
theorem b4p(a:Pd)(l:List Pd):tkd (a::l)=a.tk++tkd l:=by unfold tkd;rw [List.flatMap_cons]
theorem E3(a b:List Pd):tkd (a++b)=tkd a++tkd b:=by unfold tkd;rw [List.flatMap_append]
theorem c1n(d:Option UInt8)(b:List Pd):∀a:List Pd,okD d (a++b)=(okD ((bytd b).head?.or d) a&&okD d b)
 | []=>by show okD d b=(true&&okD d b);rw [Bool.true_and]
 | x::a=>by
  show (x.ok ((bytd (a++b)).head?.or d)&&okD d (a++b))=((x.ok ((bytd a).head?.or ((bytd b).head?.or d))&&okD ((bytd b).head?.or d) a)&&okD d b)
  rw [c1n d b a,B3,List.head?_append,Option.or_assoc,Bool.and_assoc]
theorem c2v{s:ByteArray}(h:wordS s=true):nameAt s s.size 0=true∧(runesOf s).length≤32∧s.size≠0∧classS (rn s 0)=3:=by
 unfold wordS at h
 simp only [Bool.or_eq_true,decide_eq_true_eq] at h
 rcases h with (((((((((rfl | rfl) | rfl) | rfl) | rfl) | rfl) | rfl) | rfl) | rfl) | rfl) | rfl <;>
  exact ⟨by kernel_rfl,Nat.le_of_ble_eq_true (by kernel_rfl),by decide,by kernel_rfl⟩
theorem b5p{s:ByteArray}(h:nameS s=true):nameAt s s.size 0=true∧(runesOf s).length≤32∧s.size≠0∧classS (rn s 0)=3∧wordS s=false:=by
 unfold nameS at h
 split at h
 ·cases h
 rename_i c
 simp only [Bool.not_eq_true,Bool.or_eq_false_iff,decide_eq_false_iff_not,Bool.not_eq_false'] at c
 obtain ⟨⟨⟨c1,c2⟩,c3⟩,c4⟩:=c
 have hz:s.size≠0:=fun e=>c1 (by
  apply ByteArray.ext
  apply Array.eq_empty_of_size_eq_zero
  exact e)
 refine ⟨h,by omega,hz,?_,c4⟩
 have hn:nameAt s (s.size-0) 0=true:=h
 rw [a7T (by omega)] at hn
 split at hn
 ·rename_i g
  exact Classical.byContradiction fun x=>g.2 ⟨rfl,x⟩
 ·cases hn
section
variable {s:ByteArray}
theorem d3q{a:Pd}{r:List UInt8}{p:Nat}(h:Dr s p (a.by_++r))(hp:p≤s.size)(ho:a.ok r.head? = true):chkAt s p=chkAt s (p+a.by_.length)∧((a.tk=[]∧sk s p=sk s (p+a.by_.length))∨
  ∃k x n,a.tk=[(k,x,n)]∧p < s.size∧1≤a.by_.length∧sk s p=p∧oneO s p=⟨k,x,n,p+a.by_.length,0⟩):=by
 have hend:=Dr.app _ _ h
 have hsz:=h.le hp
 rw [List.length_append] at hsz
 have nosk:(classS (rn s p)=3∨classS (rn s p)=4∨classS (rn s p)=5)→sk s p=p:=by
  intro hcl
  refine a3Q (.inr ⟨fun e=>?_,?_⟩)
  ·have r0:=(a6e (s:=s) (p:=p) (by omega)).1
   rw [e] at r0
   rw [r0] at hcl
   revert hcl
   decide
  ·unfold blankS
   rcases hcl with e | e | e<;>rw [e]<;>rfl
 have asc:∀{c:UInt8}{l:List UInt8}{q:Nat},Dr s q (c::l)→c.toNat < 128→chkAt s q=chkAt s (q+1):=by
  intro c l q hd hc
  obtain ⟨r0,w0⟩:=hd.asc hc
  rw [chkN hd.cons.1 (by rw [r0];omega),w0]
 cases a with
 | bl c=>
  have h:Dr s p (c::r):=h
  have hc:c=32∨c=10:=by
   have ho:(c == 32||c == 10)=true:=ho
   rw [Bool.or_eq_true,beq_iff_eq,beq_iff_eq] at ho
   exact ho
  have hl:c.toNat < 128:=by rcases hc with rfl | rfl<;>decide
  obtain ⟨r0,w0⟩:=h.asc hl
  refine ⟨asc h hl,.inl ⟨rfl,?_⟩⟩
  rw [b1w h.cons.1 (by rw [h.by8];rcases hc with rfl | rfl<;>decide) (by rw [r0];rcases hc with rfl | rfl<;>decide),w0]
  rfl
 | sg w=>
  match w,h,ho,hend,hsz with
  | [c],h,ho,hend,hsz=>
   have h:Dr s p (c::r):=h
   have ho:((decide (c.toNat < 128)&&decide (classS c.toNat=5))&&((!decide (c.toNat=38) && !decide (c.toNat=124)) && !decide (r.head? = some 61)))=true:=ho
   simp only [Bool.and_eq_true,decide_eq_true_eq,Bool.not_eq_true',decide_eq_false_iff_not] at ho
   obtain ⟨⟨o1,o2⟩,⟨o3,o4⟩,o5⟩:=ho
   obtain ⟨p0,_,h1⟩:=h.cons
   obtain ⟨r0,w0⟩:=h.asc o1
   refine ⟨asc h o1,.inr ⟨4,⟨#[c]⟩,0,rfl,p0,Nat.le_refl _,nosk (by rw [r0];exact .inr (.inr o2)),?_⟩⟩
   have b0:=h.by8
   have t0:¬two s p:=fun x=>by
    unfold two at x
    obtain ⟨x1,x2⟩:=x
    have b1:by8 s (p+1)≠61:=fun e=>by
     cases r with
     | nil=>have:=h1.nil;omega
     | cons d r=>
      rw [h1.by8] at e
      exact o5 (by show some d=some 61;rw [show d=61 from UInt8.toNat_inj.1 e])
    omega
   have e1:=Dr.cut [c] h
   unfold oneO
   rw [r0,o2,if_neg (by decide),if_neg (by decide),if_pos rfl]
   unfold signO
   rw [if_neg t0,if_neg (by omega),show p+1=p+[c].length from rfl,e1]
   rfl
  | [a,b],h,ho,hend,hsz=>
   have h:Dr s p (a::b::r):=h
   have ho:twoB a b=true:=ho
   obtain ⟨p0,_,h1⟩:=h.cons
   obtain ⟨p1,_,h2⟩:=h1.cons
   have hab:(b=61∧(a=61∨a=33∨a=60∨a=62))∨(a=38∧b=38)∨(a=124∧b=124):=by
    unfold twoB at ho
    simp only [Bool.or_eq_true,Bool.and_eq_true,beq_iff_eq] at ho
    rcases ho with (⟨q1,q2⟩ | q) | q
    ·refine .inl ⟨q1,?_⟩
     rcases q2 with ((q2 | q2) | q2) | q2<;>simp [q2]
    ·exact .inr (.inl q)
    ·exact .inr (.inr q)
   have la:a.toNat < 128∧b.toNat < 128∧classS a.toNat=5:=by
    rcases hab with ⟨rfl,rfl | rfl | rfl | rfl⟩ | ⟨rfl,rfl⟩ | ⟨rfl,rfl⟩<;>decide
   obtain ⟨r0,w0⟩:=h.asc la.1
   have b0:=h.by8
   have b1:=h1.by8
   refine ⟨by rw [asc h la.1,asc h1 la.2.1];rfl,.inr ⟨4,⟨#[a,b]⟩,0,rfl,p0,by show 1≤2;decide,nosk (by rw [r0];exact .inr (.inr la.2.2)),?_⟩⟩
   have t0:two s p:=by
    unfold two
    rw [b0,b1]
    refine ⟨p1,?_⟩
    rcases hab with ⟨rfl,rfl | rfl | rfl | rfl⟩ | ⟨rfl,rfl⟩ | ⟨rfl,rfl⟩<;>decide
   have e1:=Dr.cut [a,b] h
   unfold oneO
   rw [r0,la.2.2,if_neg (by decide),if_neg (by decide),if_pos rfl]
   unfold signO
   rw [if_pos t0,show p+2=p+[a,b].length from rfl,e1]
   rfl
  | [],h,ho,hend,hsz=>cases ho
  | _::_::_::_,h,ho,hend,hsz=>cases ho
 | nb n=>
  have ho:(decide (n < 9223372036854775808)&&offB r.head?)=true:=ho
  rw [Bool.and_eq_true,decide_eq_true_eq] at ho
  obtain ⟨o1,o2⟩:=ho
  have hend:Dr s (p+(Lib.decDigits n).length) r:=hend
  have hsz:p+((Lib.decDigits n).length+r.length)=s.size:=hsz
  have h:Dr s p (Lib.decDigits n++r):=h
  obtain ⟨f1,f2,c,l,f3,f4⟩:=b7f n
  obtain ⟨_,s2,s3⟩:=b8U hend o2 (by omega)
  have hdg:=c1m (v:=0) _ f1 h s2
  rw [f2] at hdg
  have e1:=Dr.cut _ h
  have hln:lineL (Lib.decDigits n)=true:=by
   unfold lineL
   rw [List.all_eq_true]
   intro d hd
   have:=f1 d hd
   unfold isDig at this
   rw [decide_eq_true (by omega),decide_eq_false (by omega)]
   rfl
  have hchk:=(c1j (a:=(1,1)) _ hln h).2
  have hl1:1≤(Lib.decDigits n).length:=by rw [f3,List.length_cons];omega
  have h':Dr s p (c::(l++r)):=by rw [f3] at h;exact h
  have hc:=f1 c (by rw [f3];exact List.mem_cons_self ..)
  unfold isDig at hc
  obtain ⟨r0,_⟩:=h'.asc (by omega)
  have hall:∀m:Nat,m < 58→48≤m→classS (m:Int)=4:=by decide
  have c4:classS (rn s p)=4:=by rw [r0];exact hall _ (by omega) hc.1
  refine ⟨hchk,.inr ⟨2,⟨(Lib.decDigits n).toArray⟩,n,rfl,h'.cons.1,hl1,nosk (.inr (.inl c4)),?_⟩⟩
  unfold oneO
  rw [c4,if_neg (by decide),if_pos rfl]
  unfold numO
  rw [hdg]
  dsimp only
  have hb:=h'.by8
  rw [if_neg (by
   rintro (x | x | x)
   ·omega
   ·have hl0:=f4 (by omega)
    rw [f3,hl0] at x
    have:=x.2
    simp at this
   ·exact s3 x),e1]
  rfl
 | wd u k=>
  have ho:(((decide (k=1)&&nameS u)||(decide (k=3)&&wordS u))&&offB r.head?)=true:=ho
  rw [Bool.and_eq_true,Bool.or_eq_true,Bool.and_eq_true,Bool.and_eq_true,decide_eq_true_eq,decide_eq_true_eq] at ho
  obtain ⟨o1,o2⟩:=ho
  have hul:u.data.toList.length=u.size:=Array.length_toList
  have hend:Dr s (p+u.data.toList.length) r:=hend
  have hsz:p+(u.data.toList.length+r.length)=s.size:=hsz
  have h:Dr s p (u.data.toList++r):=h
  obtain ⟨s1,_,_⟩:=b8U hend o2 (by omega)
  have e1:=Dr.cut _ h
  rw [hul] at hend s1 e1
  have hu:(⟨u.data.toList.toArray⟩:ByteArray)=u:=by apply ByteArray.ext;rw [Array.toArray_toList]
  rw [hu] at e1
  have f:nameAt u u.size 0=true∧(runesOf u).length≤32∧u.size≠0∧classS (rn u 0)=3∧(k=if wordS u=true then 3 else 1):=by
   rcases o1 with ⟨q,w⟩ | ⟨q,w⟩
   ·obtain ⟨g1,g2,g3,g4,g5⟩:=b5p w
    exact ⟨g1,g2,g3,g4,by rw [g5];exact q⟩
   ·obtain ⟨g1,g2,g3,g4⟩:=c2v w
    exact ⟨g1,g2,g3,g4,by rw [w];exact q⟩
  obtain ⟨g1,g2,g3,g4,g5⟩:=f
  have A:Ag u s p:=Ag.of h hp
  obtain ⟨n1,n2,n3⟩:=A.name s1 _ 0 (Nat.le_refl _) (Nat.zero_le _) g1 (0,0) 0
  rw [Nat.add_zero] at n1 n2 n3
  have er:rn s p=rn u 0:=by
   have:=A.dec (i:=0) (by omega) (a9L (by unfold goesS;rw [decide_eq_true g4];rfl))
   rw [Nat.add_zero] at this
   unfold rn;rw [this]
  refine ⟨by show chkAt s p=chkAt s (p+u.data.toList.length);rw [hul];exact n3,.inr ⟨k,u,0,rfl,by omega,by show 1≤u.data.toList.length;omega,nosk (.inl (by rw [er];exact g4)),?_⟩⟩
  show oneO s p=⟨k,u,0,p+u.data.toList.length,0⟩
  rw [hul]
  have hr:(runes u (u.size-0) 0).length=(runesOf u).length:=rfl
  unfold oneO
  rw [er,if_pos g4]
  unfold wordO
  rw [n1,n2,e1,hr,if_neg (by omega:¬32 < 0+(runesOf u).length),g5]
  split<;>rfl
end
section
variable {s:ByteArray}
theorem b6j:∀(l:List Pd)(f p x:Nat)(a:Int×Int)(out:List Tk),okD none l=true→Dr s p (bytd l)→p≤s.size→x≤p→sk s x=sk s p→s.size+1-x≤f→out.length+(tkd l).length≤32768→
  chkAt s p=none∧∃(l':List Tk)(b:Int×Int),tkF s f x a out=(out++l'++[⟨5,⟨#[]⟩,0,b⟩],(0,0),0)∧l'.map ktn=tkd l
 | [],f,p,x,a,out,_,h,hp,hx,hs,hf,_=>by
  have hend:=h.nil
  refine ⟨a0x s _ hend,[],mv s x p a,?_,rfl⟩
  obtain ⟨f,rfl⟩:∃g,f=g+1:=⟨f-1,by clear hs;omega⟩
  rw [tkF,hs,a3Q (.inl (by clear hs;omega)),if_pos (by clear hs;omega),List.append_nil]
 | b::l,f,p,x,a,out,ho,h,hp,hx,hs,hf,hl=>by
  rw [c4K] at h
  have ho:(b.ok ((bytd l).head?.or none)&&okD none l)=true:=ho
  rw [Bool.and_eq_true,Option.or_none] at ho
  obtain ⟨c1,o2⟩:=d3q h hp ho.1
  have hd2:=Dr.app _ _ h
  have hsz:=h.le hp
  rw [List.length_append] at hsz
  rw [b4p,List.length_append] at hl
  have hle:p+b.by_.length≤s.size:=by clear hs;omega
  rcases o2 with ⟨o2,o3⟩ | ⟨k,tx,n,o2,o3,o4,o5,o6⟩
  ·rw [o2,List.length_nil] at hl
   obtain ⟨i1,l',q,i2,i3⟩:=b6j l f (p+b.by_.length) x a out ho.2 hd2 hle (by clear hs o3;omega) (by rw [hs,o3]) hf (by clear hs o3;omega)
   exact ⟨by rw [c1];exact i1,l',q,i2,by rw [b4p,o2];exact i3⟩
  ·rw [o2,List.length_singleton] at hl
   obtain ⟨f,rfl⟩:∃g,f=g+1:=⟨f-1,by clear hs o5;omega⟩
   obtain ⟨i1,l',q,i2,i3⟩:=b6j l f (p+b.by_.length) (p+b.by_.length) (mv s p (p+b.by_.length) (mv s x p a)) (out++[⟨k,tx,n,mv s x p a⟩]) ho.2 hd2 hle (Nat.le_refl _) rfl (by clear hs o5;omega) (by rw [List.length_append,List.length_singleton];clear hs o5;omega)
   refine ⟨by rw [c1];exact i1,⟨k,tx,n,mv s x p a⟩::l',q,?_,?_⟩
   ·rw [tkF,hs,o5,if_neg (by clear hs o5;omega),if_neg (by clear hs o5;omega),o6]
    dsimp only
    rw [if_neg (by decide),i2]
    simp only [List.append_assoc,List.cons_append,List.nil_append]
   ·rw [b4p,o2,List.map_cons,i3]
    rfl
theorem c9D{l:List Pd}(ho:okD none l=true)(hl:(tkd l).length≤32768)(hz:(bytd l).length≤65536):∃(l':List Tk)(b:Int×Int),tkS ⟨(bytd l).toArray⟩=(l'++[⟨5,⟨#[]⟩,0,b⟩],(0,0),0)∧l'.map ktn=tkd l:=by
 have hd:Dr ⟨(bytd l).toArray⟩ 0 (bytd l):=rfl
 have hs:=c6H (bytd l)
 generalize (⟨(bytd l).toArray⟩:ByteArray)=s at hd hs
 obtain ⟨h1,l',b,h2,h3⟩:=b6j l (s.size+1) 0 0 (1,1) [] ho hd (Nat.zero_le _) (Nat.le_refl _) rfl (by omega) (by rw [List.length_nil];omega)
 refine ⟨l',b,?_,h3⟩
 unfold tkS
 rw [if_neg (by omega),h1]
 dsimp only
 rw [h2]
 rfl
end
def parP(b:Bool)(o c:UInt8)(l:List Pd):List Pd:=if b=true then [.sg [o]]++l++[.sg [c]] else l
theorem a7M(b:Bool)(o c:UInt8)(l:List Pd):bytd (parP b o c l)=par b o c (bytd l):=by
 unfold parP par
 cases b
 ·rfl
 ·rw [if_pos rfl,if_pos rfl,B3,B3];rfl
theorem a0y(l:List (List Pd)):bytd (l.headD [])=(l.map bytd).headD []:=by cases l<;>rfl
theorem a7W(l:List (List Pd)):bytd (l.tail.headD [])=(l.map bytd).tail.headD []:=by
 match l with
 | []=>rfl
 | [_]=>rfl
 | _::_::_=>rfl
def labP:Lab→List Int→List (List Pd)→List Pd
 | .expr k n s _,ks,ts=>
  if k=1 then [.nb n.toNat] else if k=2 then [.wd s 1] else if k=3 then [.wd ⟨#[105,110,112,117,116]⟩ 3]
  else if k=4 then [.wd s 1,.sg [91]]++ts.headD []++[.sg [93]]
  else if k=5 then [.sg [45]]++parP (decide (lvE (ks.headD 0) < 3)) 40 41 (ts.headD [])
  else parP (decide (lvE (ks.headD 0) < lvE k)) 40 41 (ts.headD [])++[.bl 32,.sg (sgnE k),.bl 32]++parP (decide (lvE (ks.tail.headD 0)≤lvE k)) 40 41 (ts.tail.headD [])
 | .cond k op _ _,ks,ts=>
  if k=1 then [.wd ⟨#[116,114,117,101]⟩ 3] else if k=2 then [.wd ⟨#[102,97,108,115,101]⟩ 3]
  else if k=3 then ts.headD []++[.bl 32,.sg (sgnC op),.bl 32]++ts.tail.headD []
  else if k=4 then [.sg [33]]++parP (decide (lvC (ks.headD 0) < 3)) 91 93 (ts.headD [])
  else parP (decide (lvC (ks.headD 0) < lvC k)) 91 93 (ts.headD [])++[.bl 32,.sg (if k=6 then [124,124] else [38,38]),.bl 32]++parP (decide (lvC (ks.tail.headD 0)≤lvC k)) 91 93 (ts.tail.headD [])
 | _,_,_=>[]
mutual
def pr:PT→List Pd
 | .mk l cs=>labP l (cs.map kindT) (prs cs)
def prs:List PT→List (List Pd)
 | []=>[]
 | t::ts=>pr t::prs ts
end
theorem c2w{l:Lab}(h:formL l=true)(ks:List Int)(ts:List (List Pd)):bytd (labP l ks ts)=labT Lib.itoa l ks (ts.map bytd):=by
 cases l with
 | decl _ _=>rfl
 | stmt _ _ _ _ _ _=>rfl
 | expr k n s m=>
  unfold labP labT
  dsimp only
  by_cases k1:k=1
  ·rw [if_pos k1,if_pos k1]
   have hn:0≤n:=by
    have h:formE k n s m=true:=h
    unfold formE at h
    split at h
    ·cases h
    rw [Bool.and_eq_true,decide_eq_true_eq] at h
    exact h.1
   show Lib.decDigits n.toNat++[]=Lib.itoa n
   rw [List.append_nil,Lib.itoa,if_neg (by omega)]
  rw [if_neg k1,if_neg k1]
  split
  ·show s.data.toList++[]=_;rw [List.append_nil]
  split
  ·rfl
  split
  ·rw [B3,B3,a0y]
   show (s.data.toList++([91]++[]))++_++([93]++[])=_
   rw [List.append_nil,List.append_nil]
  split
  ·rw [B3,a7M,a0y];rfl
  ·rw [B3,B3,a7M,a7M,a0y,a7W]
   congr 2
 | cond k op a b=>
  unfold labP labT
  dsimp only
  split
  ·rfl
  split
  ·rfl
  split
  ·rw [B3,B3,a0y,a7W]
   congr 2
  split
  ·rw [B3,a7M,a0y];rfl
  ·rw [B3,B3,a7M,a7M,a0y,a7W]
   congr 2
   by_cases k6:k=6
   ·rw [if_pos k6,if_pos k6];rfl
   ·rw [if_neg k6,if_neg k6];rfl
mutual
theorem c6Q:∀t:PT,formT t=true→bytd (pr t)=tx Lib.itoa t
 | .mk l cs,h=>by
  rw [formT,Bool.and_eq_true] at h
  rw [pr,tx,c2w h.1,b2A cs h.2]
theorem b2A:∀ts:List PT,formTs ts=true→(prs ts).map bytd=txs Lib.itoa ts
 | [],_=>by rw [prs,txs];rfl
 | t::ts,h=>by
  rw [formTs,Bool.and_eq_true] at h
  rw [prs,txs,List.map_cons,c6Q t h.1,b2A ts h.2]
end
end Go.Proofs.YtoflkliecagjcaaGreatDoor
