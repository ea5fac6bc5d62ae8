/- The walk over a graph's points, plain; the program's order. Contracts off the printed formulas. -/
import Derived.Test.YtaokfhdinhimfaaGreatDooryCH7
namespace Go.Proofs.YtaokfhdinhimfaaGreatDoor
open Go.RowKit
set_option maxRecDepth 100000
set_option maxHeartbeats 2000000
structure Dv where
 b:List Bool
 d:List Int
def toS(es:List c8)(i:Int):Int:=(es[i.toNat]?.map (·.fTo)).getD 0
def visL(v:Int→Dv→Dv)(es:List c8):List Int→Dv→Dv
 | [],s=>s
 | i::l,s=>visL v es l (if s.b.getD (toS es i).toNat true=true then s else v (toS es i) s)
def vis(es:List c8):Nat→Int→Dv→Dv
 | 0,_,s=>s
 | f+1,p,s=>⟨(visL (vis es f) es (idxS p 0 es) ⟨s.b.set p.toNat true,s.d⟩).b,(visL (vis es f) es (idxS p 0 es) ⟨s.b.set p.toNat true,s.d⟩).d++[p]⟩
def cF(b:List Bool):Nat:=b.count false
theorem a8L:∀{b:List Bool}{i:Nat},b[i]? = some false→cF (b.set i true)+1=cF b
 | [],_,h=>by simp at h
 | x::l,0,h=>by
  simp only [List.getElem?_cons_zero,Option.some.injEq] at h
  subst h;simp [cF]
 | x::l,i+1,h=>by
  have:=a8L (b:=l) (i:=i) (by simpa using h)
  unfold cF at this ⊢
  rw [List.set_cons_succ,List.count_cons,List.count_cons]
  omega
structure Kp (s s':Dv):Prop where
 n:s'.b.length=s.b.length
 c:cF s'.b≤cF s.b
 d:s'.d.length+cF s'.b≤s.d.length+cF s.b
theorem Kp.refl(s:Dv):Kp s s:=⟨rfl,Nat.le_refl _,Nat.le_refl _⟩
theorem Kp.trans{a b c:Dv}(h:Kp a b)(k:Kp b c):Kp a c:=⟨k.n.trans h.n,Nat.le_trans k.c h.c,Nat.le_trans k.d h.d⟩
theorem b5r{l:List Bool}{i:Nat}(h:¬l.getD i true=true):l[i]? = some false:=by
 rw [List.getD_eq_getElem?_getD] at h
 cases hq:l[i]? with
 | none=>rw [hq] at h;exact (h rfl).elim
 | some x=>rw [hq] at h;cases x<;>simp_all
theorem c4n{v:Int→Dv→Dv}{es:List c8}(hv:∀q s,s.b[q.toNat]? = some false→Kp s (v q s)):∀(l:List Int)(s:Dv),Kp s (visL v es l s)
 | [],s=>by rw [visL];exact Kp.refl s
 | i::l,s=>by
  rw [visL]
  split
  ·exact c4n hv l s
  ·rename_i h;exact (hv _ _ (b5r h)).trans (c4n hv l _)
theorem b3b(es:List c8):∀(f:Nat)(p:Int)(s:Dv),s.b[p.toNat]? = some false→Kp s (vis es f p s)
 | 0,p,s,_=>by rw [vis];exact Kp.refl s
 | f+1,p,s,h=>by
  rw [vis]
  have hk:=c4n (es:=es) (b3b es f) (idxS p 0 es) ⟨s.b.set p.toNat true,s.d⟩
  have hc:=a8L h
  obtain ⟨a,b,c⟩:=hk
  dsimp only at a b c
  refine ⟨?_,?_,?_⟩
  ·dsimp only;rw [a,List.length_set]
  ·dsimp only;omega
  ·dsimp only;rw [List.length_append,List.length_singleton];omega
section
variable {H:Hp}{c:d4}{vs:List ByteArray}{ds:List j8}{es:List c8}{sf:Sl}
abbrev nSl:Sl:=Sl.mk none 0 0
theorem b5s(ha:es.all (edgeS c)=true){i:Int}{e:c8}(h:es[i.toNat]? = some e):toS es i=e.fTo∧0≤e.fTo∧e.fTo < c.c6:=by
 have:=List.all_eq_true.1 ha e (List.mem_of_getElem? h)
 unfold edgeS within at this
 simp only [Bool.and_eq_true,decide_eq_true_eq] at this
 exact ⟨by unfold toS;rw [h];rfl,this.1.1.1.2.1,this.1.1.1.2.2⟩
theorem c3a(G:GH H c vs ds es)(F:FromH H c.c6 es sf)(hp:c.c6≤4096)(hes:es.length≤8192)(ha:es.all (edgeS c)=true):∀(f:Nat)(p:Int)(s:Dv)(K:Sl→List Bool→Sl→List Int→Hp→Prop),(s.b.length:Int)=c.c6→0≤p→s.b[p.toNat]? = some false→cF s.b≤f→s.d.length+cF s.b≤8192→
  K nSl (vis es f p s).b nSl (vis es f p s).d H→a2A p nSl s.b sf c nSl s.d H K:=by
 intro f
 induction f with
 | zero=>intro p s K hn h0 hb hc hd h;have:=a8L hb;omega
 | succ f ih=>
  intro p s K hn h0 hb hc hd h
  refine b1S _ _ _ _ _ _ _ ?_
  unfold a5k
  have hlt:=M3 hb
  obtain ⟨si,hE,hS⟩:=F.row p h0 (by omega)
  have hsn:=hS.1
  have hne:=G.e.1
  have hcs:=a8L hb
  have hil:(idxS p 0 es).length≤8192:=by rw [a4q];exact Nat.le_trans (a5s es p) hes
  refine ⟨h0,false,hb,h0,by have:=F.n;omega,si,hE,?_⟩
  rw [vis] at h
  generalize hs1:(⟨s.b.set p.toNat true,s.d⟩:Dv)=s1 at h
  have e1:s.b.set p.toNat true=s1.b:=by rw [←hs1]
  have e2:s.d=s1.d:=by rw [←hs1]
  have hn1:s1.b.length=s.b.length:=by rw [←e1,List.length_set]
  have hc1:cF s1.b+1=cF s.b:=by rw [←e1];exact hcs
  rw [e1,e2]
  rw [e2] at hd
  refine G9 (fun st H'=>H'=H∧∃(j:Nat)(s':Dv),j≤(idxS p 0 es).length∧st=((j:Int),s'.b,s'.d)∧Kp s1 s'∧visL (vis es f) es ((idxS p 0 es).drop j) s'=visL (vis es f) es (idxS p 0 es) s1) (fun st=>(idxS p 0 es).length-st.1.toNat)
   ⟨rfl,0,s1,Nat.zero_le _,rfl,Kp.refl _,by rw [List.drop_zero]⟩ ?_
  rintro st H1 next ⟨rfl,j,s',hj,rfl,hk,hv⟩ hnx
  dsimp only
  unfold a0z
  obtain ⟨kn,kc,kd⟩:=hk
  refine ⟨fun q=>?_,fun q=>?_⟩
  ·obtain ⟨i,hi⟩:=A6 (l:=idxS p 0 es) (i:=j) (by omega)
   obtain ⟨i0,i1,e,he,_⟩:=a8e p 0 es j i hi
   rw [Int.sub_zero] at he
   obtain ⟨t1,t2,t3⟩:=b5s ha he
   have hEe:=G.e.2 i.toNat e he
   rw [Int.toNat_of_nonneg i0] at hEe
   have hdrop:(idxS p 0 es).drop j=i::(idxS p 0 es).drop (j+1):=by
    obtain ⟨hlt,heq⟩:=List.getElem?_eq_some_iff.1 hi
    rw [List.drop_eq_getElem_cons hlt,heq]
   rw [hdrop,visL,t1] at hv
   have ej:IntKind.wrap .i64 ((j:Int)+1)=((j+1:Nat):Int):=by rw [v6 (by omega) (by omega)];omega
   obtain ⟨x,hx⟩:=A6 (l:=s'.b) (i:=e.fTo.toNat) (by omega)
   have hxd:s'.b.getD e.fTo.toNat true=x:=by rw [List.getD_eq_getElem?_getD,hx];rfl
   refine ⟨by omega,by omega,i,hS.2 j i hi,i0,by omega,e,hEe,t2,x,hx,fun hq=>?_,fun hq=>?_⟩
   ·obtain rfl:x=false:=by simpa using hq
    rw [if_neg (by rw [hxd];decide)] at hv
    have kv:=b3b es f e.fTo s' hx
    refine ih e.fTo s' _ (by omega) t2 hx (by omega) (by omega) ?_
    unfold O5
    rw [ej]
    exact hnx _ _ ⟨rfl,j+1,vis es f e.fTo s',by omega,rfl,Kp.trans ⟨kn,kc,kd⟩ kv,hv⟩ (by dsimp only;omega)
   ·obtain rfl:x=true:=by simpa using hq
    rw [if_pos hxd] at hv
    unfold O5
    rw [ej]
    exact hnx _ _ ⟨rfl,j+1,s',by omega,rfl,⟨kn,kc,kd⟩,hv⟩ (by dsimp only;omega)
  ·obtain rfl:j=(idxS p 0 es).length:=by omega
   rw [List.drop_length,visL] at hv
   rw [←hv] at h
   unfold a0y
   exact ⟨by simp only [List.length_cons,List.length_nil];omega,h⟩
theorem c1r{xs:List Int}(hb:xs.length≤1099511627776){K:List Int→Hp→Prop}(h:K xs.reverse H):a3q xs H K:=by
 refine b0b _ ?_
 unfold a3H
 rw [show IntKind.wrap .i64 ((xs.length:Int)-1)=(xs.length:Int)-1 from V6 ⟨by omega,by omega⟩]
 refine G9 (fun st H'=>H'=H∧∃(i:Nat)(cs:List Int),2*i≤xs.length+1∧st=(cs,(i:Int),(xs.length:Int)-1-i)∧cs.length=xs.length∧∀k:Nat,k < xs.length→cs[k]? = if k < i∨xs.length≤k+i then xs[xs.length-1-k]? else xs[k]?) (fun st=>xs.length-st.2.1.toNat)
  ⟨rfl,0,xs,by omega,by simp,rfl,fun k hk=>by rw [if_neg (by omega)]⟩ ?_
 rintro st H1 next ⟨rfl,i,cs,hi,rfl,hl,hk⟩ hnx
 dsimp only
 unfold W3
 refine ⟨fun q=>?_,fun q=>?_⟩
 ·have hi1:i < xs.length-1-i:=by omega
  obtain ⟨a,ha⟩:=A6 (l:=xs) (i:=i) (by omega)
  obtain ⟨b,hb'⟩:=A6 (l:=xs) (i:=xs.length-1-i) (by omega)
  have ca:cs[i]? = some a:=by rw [hk i (by omega),if_neg (by omega)];exact ha
  have cb:cs[xs.length-1-i]? = some b:=by rw [hk _ (by omega),if_neg (by omega)];exact hb'
  have ej:((xs.length:Int)-1-(i:Int)).toNat=xs.length-1-i:=by omega
  rw [ej,Int.toNat_natCast]
  refine ⟨by omega,b,cb,by omega,a,ca,by omega,a,ca,by omega,b,by rw [List.getElem?_set_ne (by omega)];exact cb,?_⟩
  rw [show IntKind.wrap .i64 ((i:Int)+1)=((i+1:Nat):Int) by rw [v6 (by omega) (by omega)];omega,show IntKind.wrap .i64 ((xs.length:Int)-1-i-1)=(xs.length:Int)-1-((i+1:Nat):Int) by rw [V6 ⟨by omega,by omega⟩];omega]
  refine hnx _ _ ⟨rfl,i+1,_,by omega,rfl,by rw [List.length_set,List.length_set];exact hl,fun k hkl=>?_⟩ (by dsimp only;omega)
  rw [List.getElem?_set,List.getElem?_set]
  by_cases e1:xs.length-1-i=k
  ·rw [if_pos e1,if_pos (by rw [List.length_set];omega),if_pos (by omega),show xs.length-1-k=i by omega,ha]
  ·rw [if_neg e1]
   by_cases e2:i=k
   ·subst e2
    rw [if_pos rfl,if_pos (by omega),if_pos (by omega),hb']
   ·rw [if_neg e2,hk k hkl]
    by_cases e3:k < i∨xs.length≤k+i
    ·rw [if_pos e3,if_pos (by omega)]
    ·rw [if_neg e3,if_neg (by omega)]
 ·have:cs=xs.reverse:=by
   refine List.ext_getElem? fun k=>?_
   by_cases hkl:k < xs.length
   ·rw [hk k hkl,List.getElem?_reverse hkl]
    by_cases e3:k < i∨xs.length≤k+i
    ·rw [if_pos e3]
    ·rw [if_neg e3];congr 1;omega
   ·rw [List.getElem?_eq_none (by omega),List.getElem?_eq_none (by rw [List.length_reverse];omega)]
  rw [this];exact h
def wkS(P:Int)(es:List c8):Dv:=vis es P.toNat 0 ⟨List.replicate P.toNat false,[]⟩
def newS(b:List Bool)(n:Nat):List Int:=((List.range n).filter fun p=>!(b.getD p true)).map Int.ofNat
def ordS(P:Int)(es:List c8):List Int:=(wkS P es).d.reverse++newS (wkS P es).b P.toNat
theorem b6M(b:List Bool)(n:Nat):newS b (n+1)=newS b n++(if b.getD n true=true then [] else [(n:Int)]):=by
 unfold newS
 rw [List.range_succ,List.filter_append,List.map_append]
 congr 1
 by_cases h:b.getD n true=true<;>simp [List.filter_cons]
 ·simp only [List.getD_eq_getElem?_getD] at h;simp [h]
 ·simp only [List.getD_eq_getElem?_getD] at h;simp [h]
theorem b4z(b:List Bool)(n:Nat):(newS b n).length≤n:=by
 unfold newS
 rw [List.length_map]
 exact Nat.le_trans (List.length_filter_le _ _) (by rw [List.length_range];exact Nat.le_refl _)
theorem a7E(n:Nat):cF (List.replicate n false)=n:=by unfold cF;rw [List.count_replicate_self]
theorem b5t{P:Int}{es:List c8}(h1:1≤P):Kp ⟨List.replicate P.toNat false,[]⟩ (wkS P es):=by
 refine b3b es _ _ _ ?_
 rw [show (0:Int).toNat=0 from rfl,List.getElem?_replicate,if_pos (by omega)]
theorem a8f(G:GH H c vs ds es)(h:checkS c vs ds es=0):1≤c.c6∧c.c6≤4096∧es.length≤8192∧es.all (edgeS c)=true∧0≤c.p9∧c.p9 < c.c6∧0≤c.m3∧(vs.length:Int)+c.m3≤64:=by
 unfold checkS at h
 cases hv:varsS c vs
 ·rw [hv] at h;cases h
 cases hq:pointsS c es
 ·rw [hv,hq] at h;cases h
 cases hf:gformS c ds es
 ·rw [hv,hq,hf] at h;cases h
 unfold varsS at hv
 unfold pointsS at hq
 unfold gformS within at hf
 simp only [Bool.and_eq_true,decide_eq_true_eq] at hv hq hf
 exact ⟨hq.1.1,hq.1.2,by omega,hf.1.2,hf.1.1.2.1,hf.1.1.2.2,hv.1.1,hv.2⟩
theorem b4A(G:GH H c vs ds es){K:Sl→Int→Hp→Prop}(h1:checkS c vs ds es≠0→∀H',Hle H H'→K nSl (checkS c vs ds es) H')(h2:checkS c vs ds es=0→∀s H',Hle H H'→SlH H' 1 o3 s (ordS c.c6 es)→K s 0 H'):a1h c H K:=by
 refine b2R _ ?_
 unfold a6e
 refine a4P G fun H1 l1=>⟨fun e=>h1 e H1 l1,fun e=>?_⟩
 obtain ⟨p1,p2,pe,ha,_⟩:=a8f G e
 have G1:=G.le l1
 refine b6r G1 ⟨by omega,p2⟩ (by omega) ha fun sf H2 l2 F=>?_
 have l12:=l1.trans l2
 have G2:=G.le l12
 have hk:=b5t (es:=es) p1
 obtain ⟨kn,kc,kd⟩:=hk
 simp only [List.length_replicate,List.length_nil,a7E] at kn kc kd
 refine ⟨by omega,by omega,c3a G2 F p2 pe ha c.c6.toNat 0 ⟨List.replicate c.c6.toNat false,[]⟩ _ (by simp only [List.length_replicate];omega) (by omega) ?_ (by simp only [a7E];omega) (by simp only [a7E,List.length_nil];omega) ?_⟩
 ·simp only [show (0:Int).toNat=0 from rfl]
  rw [List.getElem?_replicate,if_pos (by omega)]
 have hwk:vis es c.c6.toNat 0 ⟨List.replicate c.c6.toNat false,[]⟩=wkS c.c6 es:=rfl
 rw [hwk]
 refine c1r (by omega) ?_
 refine G9 (fun st H'=>H'=H2∧∃i:Nat,i≤c.c6.toNat∧st=((i:Int),(wkS c.c6 es).d.reverse++newS (wkS c.c6 es).b i)) (fun st=>c.c6.toNat-st.1.toNat) ⟨rfl,0,by omega,by simp [newS]⟩ ?_
 rintro st H3 next ⟨rfl,i,hi,rfl⟩ hnx
 dsimp only
 unfold a1R
 refine ⟨fun q=>?_,fun q=>?_⟩
 ·obtain ⟨x,hx⟩:=A6 (l:=(wkS c.c6 es).b) (i:=i) (by omega)
  have hxd:(wkS c.c6 es).b.getD i true=x:=by rw [List.getD_eq_getElem?_getD,hx];rfl
  have hnl:=b4z (wkS c.c6 es).b i
  have hs:=b6M (wkS c.c6 es).b i
  have ei:IntKind.wrap .i64 ((i:Int)+1)=((i+1:Nat):Int):=by rw [v6 (by omega) (by omega)];omega
  refine ⟨by omega,x,hx,fun hq=>⟨?_,?_⟩,fun hq=>?_⟩
  ·simp only [List.length_append,List.length_reverse,List.length_cons,List.length_nil];omega
  ·obtain rfl:x=false:=by simpa using hq
   rw [if_neg (by rw [hxd];decide)] at hs
   unfold Q9
   rw [ei,List.append_assoc,← hs]
   exact hnx _ _ ⟨rfl,i+1,by omega,rfl⟩ (by dsimp only;omega)
  ·obtain rfl:x=true:=by simpa using hq
   rw [if_pos hxd,List.append_nil] at hs
   unfold Q9
   rw [ei,← hs]
   exact hnx _ _ ⟨rfl,i+1,by omega,rfl⟩ (by dsimp only;omega)
 ·obtain rfl:i=c.c6.toNat:=by omega
  unfold a1Q
  intro s H4 l4 hs _
  exact h2 e s H4 (l12.trans l4) hs
end
end Go.Proofs.YtaokfhdinhimfaaGreatDoor
