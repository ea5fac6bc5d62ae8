/- What is known of graphs; asserts: as many edges pass and fail. Contracts off the printed formulas. -/
import Derived.Test.YtaokfhdinhimfaaGreatDooryLH5
import Derived.Test.YtaokfhdinhimfaaGreatDooryLH7
namespace Go.Proofs.YtaokfhdinhimfaaGreatDoor
open Go.RowKit
set_option maxRecDepth 100000
set_option maxHeartbeats 2000000
section
variable {H:Hp}
def sk1:PT:=.mk (.stmt 7 ⟨#[]⟩ 0 0 0 0) []
def kn9:PP:=⟨[],[sk1]⟩
theorem d1T:loE kn9=0∧loS kn9=⟨2,0,[bareE 0 1 1]⟩∧exS kn9=1:=⟨by kernel_rfl,by kernel_rfl,by kernel_rfl⟩
theorem d1U:kn9.Sm:=by
 intro t ht
 rcases List.mem_cons.1 ht with e | ht
 ·rw [e];exact .mk (by decide) fun t ht=>by cases ht
 ·cases ht
theorem d1V(H:Hp):SH H (i8.mk 7 ⟨#[]⟩ (Sl.mk none 0 0) (Sl.mk none 0 0) (Sl.mk none 0 0) (Sl.mk none 0 0)) sk1:=
 SH.mk (ts:=[]) (us:=[]) (vs:=[]) (ws:=[]) (s:=i8.mk 7 ⟨#[]⟩ (Sl.mk none 0 0) (Sl.mk none 0 0) (Sl.mk none 0 0) (Sl.mk none 0 0)) (SlH.nil _ _ _) (Nat.zero_le _) N1.nil (SlH.nil _ _ _) (Nat.zero_le _) N1.nil (SlH.nil _ _ _) (Nat.zero_le _) rfl (fun i x t h=>by simp at h) (SlH.nil _ _ _) (Nat.zero_le _) rfl (fun i x t h=>by simp at h)
theorem c5w(hT:TabsH H){K:Bool→Hp→Prop}(h:∀H',Hle H H'→K true H'):a7h H K:=by
 refine b0S ?_
 unfold a4M
 intro s H1 l1 hS _
 obtain ⟨k1,k2,k3⟩:=d1T
 refine c0M (hT.le l1) (q:=kn9) ⟨SlH.nil _ _ _,Nat.zero_le _,_,hS,by simp [big],N1.one (d1V _)⟩ d1U (fun e=>(e k1).elim) fun _ c H2 l2 hc=>?_
 obtain ⟨F,hrow,hF,_⟩:=hc.e
 have he:=hrow.frozen (by decide) hF
 rw [k2] at he
 have hn:c.R3.n=1:=he.1
 refine ⟨bareE 0 1 1,fun _=>⟨by omega,by omega,he.2 0 _ rfl⟩,?_⟩
 have e1:c.p5=2:=by rw [hc.p,k2]
 have e2:c.u5=1:=by rw [hc.x,k3]
 have:=h H2 (l1.trans l2)
 simpa [e1,e2,hn] using this
def cnt(k:Int)(es:List Ed):Nat:=(es.filter fun e=>decide (e.c8=k)).length
structure Sc (g g':Gr):Prop where
 e:∀k:Int,k=13∨k=14→cnt k g'.es=cnt k g.es
theorem Sc.trans{a b c:Gr}(h:Sc a b)(k:Sc b c):Sc a c:=⟨fun n hn=>(k.e n hn).trans (h.e n hn)⟩
theorem Sc.same{a b:Gr}(h:b.es=a.es):Sc a b:=⟨fun n _=>by rw [h]⟩
structure Nc (f:Fs):Prop where
 into:∀dst a b d g,Sc g (f.into dst a b d g)
 co:∀a b c g,Sc g (f.co a b c g)
def lbA:Lab→Nat
 | .stmt k _ _ _ _ _=>if k=5 then 1 else 0
 | _=>0
mutual
def aT:PT→Nat
 | .mk l cs=>lbA l+aTs cs
def aTs:List PT→Nat
 | []=>0
 | t::ts=>aT t+aTs ts
end
theorem c2k:∀a b:List PT,aTs (a++b)=aTs a+aTs b
 | [],b=>by rw [List.nil_append,aTs,Nat.zero_add]
 | t::a,b=>by rw [List.cons_append,aTs,aTs,c2k a b,Nat.add_assoc]
theorem b8N:∀{ts:List PT}(_:∀t∈ts,aT t=0),aTs ts=0
 | [],_=>by rw [aTs]
 | t::ts,h=>by rw [aTs,h t (List.mem_cons_self ..),b8N fun u hu=>h u (List.mem_cons_of_mem _ hu)]
theorem b7Y{α:Type}{R:α→PT→Prop}{xs:List α}{ts:List PT}{P:PT→Prop}(hl:xs.length=ts.length)(h:∀(i:Nat)(x:α)(t:PT),xs[i]? = some x→ts[i]? = some t→P t):∀t∈ts,P t:=fun t ht=>by
 obtain ⟨i,hi,rfl⟩:=List.mem_iff_getElem.1 ht
 exact h i xs[i] _ (List.getElem?_eq_getElem (by omega)) (List.getElem?_eq_getElem hi)
theorem EH.a0{e:f8}{t:PT}(h:EH H e t):aT t=0:=by
 induction h with
 | mk _ _ hl _ ih=>rw [aT,b8N (b7Y (R:=fun _ _=>True) hl ih)];rfl
theorem CH.a0{e:j8}{t:PT}(h:CH H e t):aT t=0:=by
 induction h with
 | mk _ _ hr _ _ hl _ ih=>
  rw [aT,c2k,b8N (b7Y (R:=fun _ _=>True) hl ih),b8N (b7Y (R:=fun _ _=>True) hr.1 fun i x t hx ht=>(hr.2 i x t hx ht).a0)];rfl
structure Ac (n:Nat) (g g':Gr):Prop where
 e:∀k:Int,k=13∨k=14→cnt k g'.es=cnt k g.es+n
theorem Ac.trans{n m:Nat}{a b c:Gr}(h:Ac n a b)(k:Ac m b c):Ac (n+m) a c:=⟨fun i hi=>by rw [k.e i hi,h.e i hi,Nat.add_assoc]⟩
theorem Sc.ac{a b:Gr}(h:Sc a b):Ac 0 a b:=⟨fun k hk=>by rw [h.e k hk];rfl⟩
theorem Ac.same{n m:Nat}{a b:Gr}(h:Ac n a b)(e:n=m):Ac m a b:=by rw [←e];exact h
end
end Go.Proofs.YtaokfhdinhimfaaGreatDoor
namespace Go.Proofs.YtaokfhdinhimfaaGreatDoor
open Go.RowKit
set_option maxRecDepth 100000
set_option maxHeartbeats 2000000
structure Dv where
 b:List Bool
 d:List Int
def cF(b:List Bool):Nat:=b.count false
structure Kp (s s':Dv):Prop where
 n:s'.b.length=s.b.length
 c:cF s'.b≤cF s.b
 d:s'.d.length+cF s'.b≤s.d.length+cF s.b
theorem Kp.refl(s:Dv):Kp s s:=⟨rfl,Nat.le_refl _,Nat.le_refl _⟩
theorem Kp.trans{a b c:Dv}(h:Kp a b)(k:Kp b c):Kp a c:=⟨k.n.trans h.n,Nat.le_trans k.c h.c,Nat.le_trans k.d h.d⟩
section
variable {H:Hp}{c:m3}{vs:List ByteArray}{ds:List i7}{es:List c7}{sf:Sl}
end
section
variable {H:Hp}{c:m3}{vs:List ByteArray}{ds:List i7}{es:List c7}{sf:Sl}
theorem b6B{c c':m3}(G:GH H c vs ds es)(G':GH H c' vs ds es)(e1:c.q9=c'.q9)(e2:c.p5=c'.p5)(e3:c.u5=c'.u5){K:Bool→Hp→Prop}(h:K true H):a7T c c' H K:=by
 refine b2e _ _ ?_
 unfold a5K
 have bv:=G.bv;have ba:=G.ba;have be:=G.be
 have n1:=G.e.1;have n2:=G'.e.1
 refine c6l G.v G'.v (by simp only [big];omega) ⟨fun _=>c6s G.a G'.a (by simp only [big];omega) ?_,fun e=>?_⟩
 ·refine ⟨fun q=>?_,fun _=>?_⟩
  ·exfalso
   simp [e1,e2,e3] at q;omega
  refine Q6 (fun st H'=>H'=H∧∃i:Nat,i≤es.length∧st=(i:Int)) (fun st=>es.length-st.toNat) ⟨rfl,0,Nat.zero_le _,rfl⟩ ?_
  rintro st H1 next ⟨rfl,i,hi,rfl⟩ hnx
  unfold a3V
  refine ⟨fun q=>?_,fun q=>?_⟩
  ·obtain ⟨x,hx⟩:=A8 (l:=es) (i:=i) (by omega)
   refine ⟨by omega,by omega,x,G.e.2 i x hx,by omega,by omega,x,G'.e.2 i x hx,fun e=>(e ⟨rfl,rfl,rfl,rfl,rfl,rfl,rfl,rfl,rfl,rfl⟩).elim,fun _=>?_⟩
   rw [q6 (by omega) (by omega)]
   exact hnx _ _ ⟨rfl,i+1,by omega,rfl⟩ (by omega)
  ·exact h
 ·exfalso
  simp [e1] at e
end
def subF(H:Hp)(F:Frag):Hp:=fun i=>if F.any (fun p=>p.1 == i)=true then none else H i
section
variable {w0 w w':World}{ps:Nat→Prop}{H0 H H':Hp}{Fs:List Frag}{F:Frag}
theorem c8Z{p:Nat×Obj}(hp:p∈F):subF H F p.1=none:=by
 unfold subF
 rw [if_pos (List.any_eq_true.2 ⟨p,hp,by simp⟩)]
theorem b4c{i:Nat}(h:∀p∈F,p.1≠i):subF H F i=H i:=by
 unfold subF
 rw [if_neg]
 intro q
 obtain ⟨p,hp,e⟩:=List.any_eq_true.1 q
 exact h p hp (by simpa using e)
theorem c2l:Hle (subF H F) H:=fun i o h=>by
 unfold subF at h
 split at h
 ·cases h
 ·exact h
theorem Inv.thaw(I:Inv w0 ps H0 H Fs w)(hF:∀p∈F,H p.1=some p.2)(hn:(F.map (·.1)).Nodup)(hf:∀p∈F,ps p.1∨w0.heap.size≤p.1)(h0:∀p∈F,H0 p.1=none):Inv w0 ps H0 (subF H F) (F::Fs) w:=by
 have out:∀i,H i=none∨(∀p∈F,p.1≠i)→∀p∈F,H i=none→p.1≠i:=fun i _ p hp hi e=>by
  subst e
  rw [hF p hp] at hi
  cases hi
 refine ⟨fun i o h=>I.sub i o (c2l i o h),?_,?_,?_,?_,I.frame,I.mono,I.os,I.tape,I.output,?_,?_⟩
 ·intro p hp
  rw [List.flatten_cons] at hp
  rcases List.mem_append.1 hp with hp | hp
  ·exact I.sub _ _ (hF p hp)
  ·exact I.own p hp
 ·intro p hp
  rw [List.flatten_cons] at hp
  rcases List.mem_append.1 hp with hp | hp
  ·exact c8Z hp
  ·cases h:subF H F p.1 with
   | none=>rfl
   | some o=>have:=c2l _ _ h;rw [I.priv p hp] at this;cases this
 ·rw [List.flatten_cons,List.map_append]
  refine List.nodup_append.2 ⟨hn,I.nodup,?_⟩
  intro a ha b hb e
  subst e
  obtain ⟨p,hp,rfl⟩:=List.mem_map.1 ha
  obtain ⟨q,hq,e⟩:=List.mem_map.1 hb
  have:=I.priv q hq
  rw [e,hF p hp] at this
  cases this
 ·intro p hp
  rw [List.flatten_cons] at hp
  rcases List.mem_append.1 hp with hp | hp
  ·exact hf p hp
  ·exact I.fresh p hp
 ·intro i o h
  rw [b4c fun p hp e=>by subst e;rw [h0 p hp] at h;cases h]
  exact I.le i o h
 ·intro i hi hp
  rw [b4c fun q hq e=>by
   subst e
   rcases hf q hq with h | h
   ·exact hp h
   ·omega]
  exact I.back i hi hp
theorem Inv.again(I:Inv w0 ps H0 H (F::Fs) w)(J:Inv w0 ps H0 H' Fs w')(l:Hle (addF H F) H'):Inv w0 ps H0 (subF H' F) (F::Fs) w'∧Hle H (subF H' F):=by
 have nd:=I.nodup
 rw [List.flatten_cons,List.map_append] at nd
 obtain ⟨n1,_,_⟩:=List.nodup_append.1 nd
 have hin:∀p∈F,p∈(F::Fs).flatten:=fun p hp=>List.mem_append_left _ hp
 refine ⟨J.thaw (fun p hp=>l _ _ (c1k n1 hp)) n1 (fun p hp=>I.fresh p (hin p hp)) (fun p hp=>?_),fun i o h=>?_⟩
 ·cases h:H0 p.1 with
  | none=>rfl
  | some o=>have:=I.le _ _ h;rw [I.priv p (hin p hp)] at this;cases this
 ·rw [b4c fun p hp e=>by subst e;rw [I.priv p (hin p hp)] at h;cases h]
  exact l _ _ (I.freeze.2.1 _ _ h)
end
end Go.Proofs.YtaokfhdinhimfaaGreatDoor
