/- Parsing: a source's expression, condition, by the program and by the document. -/
import Derived.Test.YthklmeihgmcljaaGreatDoorzQXa
namespace Go.Proofs.YthklmeihgmcljaaGreatDoor
open Go.RowKit
set_option maxRecDepth 100000
set_option maxHeartbeats 1000000
abbrev toks (s:ByteArray):List Tok:=(tkS s).1.map tkv
def ansR {β:Type} (p:PM β) (chk:β→Int) (s:ByteArray):Except Flt β:=if (tkS s).2.2=0 then readsR p chk (toks s) else .error ((tkS s).2.2,plv (tkS s).2.1)
def Ans {α β:Type} (H:Hp) (z:α) (RR:Hp→α→β→Prop) (o:Except Flt β) (K:α→b7→Int→Hp→Prop):Prop:=match o with
 | .error (c,q)=>∀H',Hle H H'→K z q c H'
 | .ok b=>∀H' v,Hle H H'→RR H' v b→K v ⟨0,0⟩ 0 H'
abbrev zE:d6:=d6.mk 0 0 ⟨#[]⟩ (Sl.mk none 0 0)
abbrev zC:c8:=c8.mk 0 0 (Sl.mk none 0 0) (Sl.mk none 0 0)
section
variable {H:Hp} {s:ByteArray}
theorem Ans.rd {α β:Type} {z:α} {RR:Hp→α→β→Prop} {p:PM β} {chk:β→Int} {K:α→b7→Int→Hp→Prop} (h:Ans H z RR (ansR p chk s) K) (he:(tkS s).2.2=0):Ans H z RR (readsR p chk (toks s)) K:=by
 unfold ansR at h
 rw [if_pos he] at h
 exact h
theorem c6E (hT:TabsH H) (hE:ErrH H) (hs4:s.size≤4194304) {K:d6→b7→Int→Hp→Prop} (h:Ans H zE EH (ansR (exprP 40) (fun t=>toldS [t]) s) K):a6L s H K:=by
 refine b3y _ ?_
 unfold a6O
 refine c3h (p:=exprP 40) (chk:=fun t=>toldS [t]) (RR:=EH) (toks:=toks s) (pl:=plv (tkS s).2.1) (er:=(tkS s).2.2) (b4h hT hE hs4 fun e H' l hs=>⟨l,hs,rfl,rfl⟩) (fun he=>⟨(a7y he).1,(a7y he).2.1⟩) (fun rd k=>b2v _ ((factOK 39 (by omega) (by omega)).expr rd k)) (fun {H' v b r'} he l eo ra=>?_) (fun l ra=>ra.le l) (fun he H' l=>?_) (fun he c q eo H' l=>?_) fun he b eo H' v l ra=>?_
 ·exact c9j (hT.le l) ra (b3p 40 _ _ _ (a7y he).2.2 eo).1 fun H'' l2=>⟨l2,b7B _⟩
 ·unfold ansR at h;rw [if_neg he] at h;exact h H' l
 ·have h:=h.rd he;rw [eo] at h;exact h H' l
 ·have h:=h.rd he;rw [eo] at h;exact h H' v l ra
theorem c6F (hT:TabsH H) (hE:ErrH H) (hs4:s.size≤4194304) {K:c8→b7→Int→Hp→Prop} (h:Ans H zC CH (ansR (condP 40) (fun t=>toldS [t]) s) K):a2v s H K:=by
 refine b3z _ ?_
 unfold a6P
 refine c3i (p:=condP 40) (chk:=fun t=>toldS [t]) (RR:=CH) (toks:=toks s) (pl:=plv (tkS s).2.1) (er:=(tkS s).2.2) (b4h hT hE hs4 fun e H' l hs=>⟨l,hs,rfl,rfl⟩) (fun he=>⟨(a7y he).1,(a7y he).2.1⟩) (fun rd k=>b2w _ ((litOK 39 (by omega) (by omega)).cond rd k)) (fun {H' v b r'} he l eo ra=>?_) (fun l ra=>ra.le l) (fun he H' l=>?_) (fun he c q eo H' l=>?_) fun he b eo H' v l ra=>?_
 ·exact c9u (hT.le l) ra (c0H 40 _ _ _ (a7y he).2.2 eo).1 fun H'' l2=>⟨l2,b7B _⟩
 ·unfold ansR at h;rw [if_neg he] at h;exact h H' l
 ·have h:=h.rd he;rw [eo] at h;exact h H' l
 ·have h:=h.rd he;rw [eo] at h;exact h H' v l ra
theorem c6G {r:List Tok} (h:WfT r) (hk:(hd r).d8=5):r=[hd r]:=by
 cases r with
 | nil=>exact h.elim
 | cons t r=>
  cases r with
  | nil=>rfl
  | cons u r=>exact absurd hk h.1
theorem c5e {x:RD4} {r:List Tok} (h:Rg H x r) {K:b7→Int→RD4→Hp→Prop} (h5:(hd r).d8=5→∀q,K q 0 x H) (h1:(hd r).d8≠5→∀x',Rb H x' 40 (hd r).fAt→K (hd r).fAt 40 x' H):T1 x H K:=by
 refine a5t _ ?_
 unfold a0g
 refine ⟨fun _=>a9M h.1 ?_,fun q=>absurd (decide_eq_true h.2) q⟩
 rw [h.2]
 refine ⟨fun c=>a7x h (by decide) fun x' rb _=>?_,fun c=>?_⟩
 ·unfold C2
  rw [rb.2.2.1,rb.2.1]
  exact h1 (by simpa using c) x' rb
 ·unfold C2
  rw [h.2]
  exact h5 (by simpa using c) _
theorem c2n {x:RD4} {c:Int} {p:b7} (h:Rb H x c p) {K:b7→Int→RD4→Hp→Prop} (k:K p c x H):T1 x H K:=by
 refine a5t _ ?_
 unfold a0g
 refine ⟨fun q=>absurd (of_decide_eq_true q) h.bad,fun _=>?_⟩
 rw [decide_eq_false h.bad]
 refine ⟨fun q=>(by cases q),fun _=>?_⟩
 unfold C2
 rw [h.2.2.1,h.2.1]
 exact k
theorem c2o {x:RD4} {r:List Tok} (h:Rg H x r) (hk:(hd r).d8=5) {e:Int} {K:b7→Int→Hp→Prop} (k2:e=32→K (hd r).fAt 41 H) (k3:e≠32→e=33→K (hd r).fAt 42 H) (k0:e≠32→e≠33→∀q,K q 0 H):Y6 x e H K:=by
 refine a8F _ _ ?_
 unfold a1L
 have h1:=c6G h.wf hk
 obtain ⟨⟨ts,n,a,b,c,d,w⟩,_⟩:=h
 have hat:=drop_at d w.ne
 have hn:=V1 hat
 have hlen:ts.length-n=1:=by
  have:=congrArg List.length d
  rw [List.length_drop,h1] at this
  exact this
 have hl:=a.1
 simp only [big] at b
 have ew:IntKind.wrap .i64 ((x.fl.n:Int)-1)=(n:Int):=by rw [y4 ⟨by omega,by omega⟩];omega
 rw [ew]
 obtain ⟨y,hy,hE⟩:=a.get (i:=(n:Int)) (by omega) (by omega)
 rw [Int.toNat_natCast,hat] at hy
 cases hy
 exact ⟨fun c=>⟨by omega,by omega,_,hE,k2 c⟩,fun c=>⟨fun c3=>⟨by omega,by omega,_,hE,k3 c c3⟩,fun c3=>k0 c c3 _⟩⟩
theorem b8m (hs:s.size≤big) {K:d6→b7→Int→Hp→Prop} (h:Ans H zE EH (ansR (exprP 40) (fun t=>toldS [t]) s) K):a4m s H K:=by
 refine b1x _ (b4d hs fun e H1 l1' hs=>⟨fun he=>?_,fun he=>?_⟩)
 ·unfold ansR at h;rw [if_neg he] at h;exact h H1 l1'
 have h:=h.rd he
 obtain ⟨w1,w2,w3⟩:=a7y he
 have rg:Rg H1 (b8.mk e 0 0 (b7.mk 0 0)) (toks s):=⟨⟨_,0,hs,w2,rfl,rfl,w1⟩,rfl⟩
 unfold readsR at h
 have hx:ExprG 40 1:=FactG.expr (factG 40 (by omega) (by omega))
 refine hx rg ?_
 cases ep:exprP 40 (toks s) with
 | error y=>
  obtain ⟨c,q⟩:=y
  rw [ep] at h
  refine fun H2 v x' l2 rb e2=>c2n rb ⟨fun q0=>absurd q0 rb.2.2.2,fun _=>⟨fun _=>h H2 (l1'.trans l2),fun q0=>absurd q0 rb.2.2.2⟩⟩
 | ok y=>
  obtain ⟨b,r'⟩:=y
  rw [ep] at h
  dsimp only at h
  intro H2 v x' l2 ra rd e2
  refine c5e rd (fun c5 q0=>⟨fun _=>?_,fun n=>absurd rfl n⟩) fun c5 x2 rb=>⟨fun q0=>(by cases q0),fun _=>⟨fun _=>?_,fun q0=>(by cases q0)⟩⟩
  ·rw [if_neg (fun n=>n c5)] at h
   refine c6A ra (c2o rd c5 (fun c=>?_) (fun c c3=>?_) fun c c3 q=>?_)
   ·rw [if_pos c] at h;exact ⟨fun _=>h H2 (l1'.trans l2),fun q=>(by cases q)⟩
   ·rw [if_neg c,if_pos c3] at h;exact ⟨fun _=>h H2 (l1'.trans l2),fun q=>(by cases q)⟩
   ·rw [if_neg c,if_neg c3] at h;exact ⟨fun n=>absurd rfl n,fun _=>h H2 v (l1'.trans l2) ra⟩
  ·rw [if_pos c5] at h;exact h H2 (l1'.trans l2)
theorem b8n (hs:s.size≤big) {K:c8→b7→Int→Hp→Prop} (h:Ans H zC CH (ansR (condP 40) (fun t=>toldS [t]) s) K):a0G s H K:=by
 refine b1n _ (b4d hs fun e H1 l1' hs=>⟨fun he=>?_,fun he=>?_⟩)
 ·unfold ansR at h;rw [if_neg he] at h;exact h H1 l1'
 have h:=h.rd he
 obtain ⟨w1,w2,w3⟩:=a7y he
 have rg:Rg H1 (b8.mk e 0 0 (b7.mk 0 0)) (toks s):=⟨⟨_,0,hs,w2,rfl,rfl,w1⟩,rfl⟩
 unfold readsR at h
 have hx:CondG 40 1:=LitG.whole (litG 40 (by omega) (by omega))
 refine hx rg ?_
 cases ep:condP 40 (toks s) with
 | error y=>
  obtain ⟨c,q⟩:=y
  rw [ep] at h
  refine fun H2 v x' l2 rb e2=>c2n rb ⟨fun q0=>absurd q0 rb.2.2.2,fun _=>⟨fun _=>h H2 (l1'.trans l2),fun q0=>absurd q0 rb.2.2.2⟩⟩
 | ok y=>
  obtain ⟨b,r'⟩:=y
  rw [ep] at h
  dsimp only at h
  intro H2 v x' l2 ra rd e2
  refine c5e rd (fun c5 q0=>⟨fun _=>?_,fun n=>absurd rfl n⟩) fun c5 x2 rb=>⟨fun q0=>(by cases q0),fun _=>⟨fun _=>?_,fun q0=>(by cases q0)⟩⟩
  ·rw [if_neg (fun n=>n c5)] at h
   refine c6B ra (c2o rd c5 (fun c=>?_) (fun c c3=>?_) fun c c3 q=>?_)
   ·rw [if_pos c] at h;exact ⟨fun _=>h H2 (l1'.trans l2),fun q=>(by cases q)⟩
   ·rw [if_neg c,if_pos c3] at h;exact ⟨fun _=>h H2 (l1'.trans l2),fun q=>(by cases q)⟩
   ·rw [if_neg c,if_neg c3] at h;exact ⟨fun n=>absurd rfl n,fun _=>h H2 v (l1'.trans l2) ra⟩
  ·rw [if_pos c5] at h;exact h H2 (l1'.trans l2)
end
set_option maxHeartbeats 2000000
abbrev zP:p6:=p6.mk (Sl.mk none 0 0) (Sl.mk none 0 0)
abbrev chkP (q:PP):Int:=toldS q.nodes
abbrev gD (d:p5):Prop:=d.A8.size≤65536
theorem c6H (arr:Bool):SmP gD (declP arr):=fun r a r' ht h=>by
 have t1:=ht.hd
 unfold declP at h
 split at h
 ·cases h
 split at h
 ·refine (SmP.bind (G2:=gD) (a5Y _) fun _ _ r1 a1 r2 ht1 h1=>?_) _ _ _ ht.tail h
  split at h1
  ·cases h1
  ·exact ((a5Y _).bind fun _ _=>(a5Y _).bind fun _ _=>a5m (G:=gD) t1.1) _ _ _ ht1.tail h1
 ·exact ((a5Y _).bind fun _ _=>a5m (G:=gD) t1.1) _ _ _ ht.tail h
theorem b8o:∀(n:Nat) (l:List p5),(∀d∈l,d.A8.size≤65536)→SmP (fun l:List p5=>∀d∈l,d.A8.size≤65536) (declsF n l)
 | 0,l,hl=>fun r b r' ht h=>by cases h;exact ⟨hl,ht⟩
 | n+1,l,hl=>fun r b r' ht h=>by
  unfold declsF at h
  split at h
  ·exact SmP.bind (c6H _) (fun a ha=>b8o n _ fun t ht=>by
    rcases List.mem_append.1 ht with q | q
    ·exact hl t q
    ·rw [List.mem_singleton.1 q];exact ha) _ _ _ ht.tail h
  ·cases h;exact ⟨hl,ht⟩
theorem c6I:SmP PP.Sm progP:=SmP.bind (G:=fun l:List p5=>∀d∈l,d.A8.size≤65536) (fun r _ _ ht h=>b8o r.length [] (fun _ q=>(by cases q)) _ _ _ ht h) fun ds hd=>SmP.bind (G:=SmL) (fun r _ _ ht h=>b4o (c0I 40) r.length [] P7 _ _ _ ht h) fun b hb=>a5m fun t ht=>by
 unfold PP.nodes at ht
 rcases List.mem_append.1 ht with q | q
 ·obtain ⟨u,hu,rfl⟩:=List.mem_map.1 q
  exact .mk ⟨by show u.A8.size≤sml;have:=hd u hu;simp only [sml];omega,by show a4Y 0;decide⟩ P7
 ·exact hb t q
section
variable {H:Hp} {s:ByteArray}
theorem c0J (hT:TabsH H) (hE:ErrH H) (hs4:s.size≤4194304) {K:p6→b7→Int→Hp→Prop} (h:Ans H zP PH (ansR progP chkP s) K):a3T s H K:=by
 refine b2V _ ?_
 unfold a6r
 refine c3g (p:=progP) (chk:=chkP) (RR:=PH) (toks:=toks s) (pl:=plv (tkS s).2.1) (er:=(tkS s).2.2) (b4h hT hE hs4 fun e H' l hs=>⟨l,hs,rfl,rfl⟩) (fun he=>⟨(a7y he).1,(a7y he).2.1⟩) (fun rd k=>c9e rd k) (fun {H' v b r'} he l eo ra=>?_) (fun l ra=>ra.le l) (fun he H' l=>?_) (fun he c q eo H' l=>?_) fun he b eo H' v l ra=>?_
 ·exact c6s (hT.le l) ra (c6I _ _ _ (a7y he).2.2 eo).1 fun H'' l2=>⟨l2,b7B _⟩
 ·unfold ansR at h;rw [if_neg he] at h;exact h H' l
 ·have h:=h.rd he;rw [eo] at h;exact h H' l
 ·have h:=h.rd he;rw [eo] at h;exact h H' v l ra
end
theorem k1:ansR progP chkP ⟨#[118,97,114,32,120,59,32,120,32,61,32,49,32,43,32,50,32,42,32,120,59]⟩=.ok ⟨[⟨⟨#[120]⟩,0⟩],[sX 1 ⟨#[120]⟩ [eX 6 0 ⟨#[]⟩ [eX 1 1 ⟨#[]⟩ [],eX 8 0 ⟨#[]⟩ [eX 1 2 ⟨#[]⟩ [],eX 2 0 ⟨#[120]⟩ []]]] [] [] []]⟩:=by kernel_rfl
theorem k2:ansR progP chkP ⟨#[120,32,61,32,59]⟩=.error (40,⟨1,5⟩):=by kernel_rfl
theorem c9y {H:Hp} {e:d6} {k n:Int} {nm:ByteArray} {ts:List PT} (h:EH H e (eX k n nm ts)):e.d8=k:=by
 generalize ht:eX k n nm ts=t at h
 cases h with
 | mk a b c d=>unfold eX at ht;injection ht with h1 h2;injection h1 with q1;exact q1.symm
theorem d3u {H:Hp} {x:j9} {k:Int} {nm:ByteArray} {t:PT} (h:SH H x (sX k nm [t] [] [] [])):∃e,SlH H 4 d7 x.o0 [e]∧EH H e t:=by
 generalize ht:sX k nm [t] [] [] []=u at h
 cases h with
 | @mk _ xs ts ys us zs bs vs ws a1 a2 a3 b1 b2 b3 c1 c2 c3 c4 d1 d2 d3 d4=>
  unfold sX at ht
  injection ht with h1 h2
  injection h1 with q1 q2 q3 q4 q5 q6
  have e1:us=[]:=List.length_eq_zero_iff.1 q4.symm
  have e2:vs=[]:=List.length_eq_zero_iff.1 q5.symm
  have e3:ws=[]:=List.length_eq_zero_iff.1 q6.symm
  subst e1;subst e2;subst e3
  simp only [List.nil_append,List.append_nil] at h2
  subst h2
  have hl:xs.length=1:=a3.1
  obtain ⟨e,rfl⟩:∃e,xs=[e]:=List.length_eq_one_iff.1 hl
  exact ⟨e,a1,a3.2 0 e t rfl rfl⟩
section
variable {H:Hp} (hT:TabsH H) (hE:ErrH H)
include hT hE
theorem c5f {K:Bool→Hp→Prop} (h:∀H',Hle H H'→K true H'):a3U H K:=by
 refine b0L (c0J hT hE (by decide) ?_)
 rw [k1]
 intro H1 v l1' hv
 refine c0J (hT.le l1') (hE.le l1') (by decide) ?_
 rw [k2]
 intro H2 l2
 obtain ⟨hd,_,xs,hb,_,rel⟩:=hv.le l2
 obtain ⟨x,rfl⟩:∃x,xs=[x]:=List.length_eq_one_iff.1 rel.1
 have hx:=rel.2 0 x _ rfl rfl
 obtain ⟨e,he,hk⟩:=d3u hx
 have n1:(v.a7c.n:Int)=1:=by have:=hd.1;simp at this;omega
 have n2:(v.a6h.n:Int)=1:=by have:=hb.1;simp at this;omega
 have n3:(x.o0.n:Int)=1:=by have:=he.1;simp at this;omega
 obtain ⟨y,hy,hY⟩:=hb.get (i:=0) (by omega) (by omega)
 obtain rfl:x=y:=by simpa using hy
 obtain ⟨z,hz,hZ⟩:=he.get (i:=0) (by omega) (by omega)
 obtain rfl:e=z:=by simpa using hz
 refine ⟨x,fun _=>⟨by omega,by omega,hY⟩,x,fun _=>⟨by omega,by omega,hY⟩,e,fun _=>⟨by omega,by omega,hZ⟩,?_⟩
 rw [n1,n2,n3,c9y hk]
 exact h H2 (l1'.trans l2)
variable {s:ByteArray}
end
theorem d3v {H:Hp}:EH H zE (eX 0 0 ⟨#[]⟩ []):=.mk (e:=zE) (ts:=[]) (SlH.nil _ _ _) (by simp [big]) rfl (fun i x t h=>by simp at h)
theorem d3w {H:Hp}:CH H zC (cX 0 0 [] []):=.mk (c:=zC) (ts:=[]) (us:=[]) (SlH.nil _ _ _) (by simp [big]) A5.nil (SlH.nil _ _ _) (by simp [big]) rfl (fun i x t h=>by simp at h)
theorem b3q (t:PT):eqT t t=true:=b4K.2 rfl
section
variable {H:Hp} (hT:TabsH H) (hE:ErrH H)
include hT hE
variable {s:ByteArray}
theorem b8w (hs4:s.size≤1048576) {K:Bool→Hp→Prop} (h:∀H',Hle H H'→K true H'):a1Z s H K:=by
 refine a8Y _ (c5f hT hE fun H0 l0=>⟨fun q=>(by cases q),fun _=>?_⟩)
 have hs:s.size≤big:=by simp only [big];omega
 have hs2:s.size≤4194304:=by omega
 have part2:∀H2,Hle H H2→a2v s H2 (fun c g q u=>a0G s u (fun v i f r=>
   TG ((((decide (q=f))&&(decide (g.o8=i.o8∧g.s6=i.s6))) && !((((!decide (f=0))&&(decide (c.d8=0)))&&(decide ((c.t7.n:Int)=0)))&&(decide ((c.o0.n:Int)=0)))&&(decide (f=0)))=true) (P9 c v r) false r (fun (y:Bool) (z:Hp)=>
   K (((decide (q=f))&&(decide (g.o8=i.o8∧g.s6=i.s6)))&&(((((!decide (f=0))&&(decide (c.d8=0)))&&(decide ((c.t7.n:Int)=0)))&&(decide ((c.o0.n:Int)=0)))||((decide (f=0))&&y))) z))):=by
  intro H2 l
  refine c6F (hT.le l) (hE.le l) hs2 ?_
  cases ho:ansR (condP 40) (fun t=>toldS [t]) s with
  | error y=>
   obtain ⟨c,q⟩:=y
   intro H3 l3
   refine b8n hs ?_
   rw [ho]
   intro H4 l4
   have hk:=h _ ((l.trans l3).trans l4)
   by_cases e:c=0
   ·subst e
    refine ⟨fun _=>b3Y d3w d3w ?_,fun n=>absurd (by simp) n⟩
    rw [b3q]
    simpa using hk
   ·refine ⟨fun n=>absurd n (by simp [e]),fun _=>?_⟩
    simpa [e] using hk
  | ok b=>
   intro H3 v l3 hv
   refine b8n hs ?_
   rw [ho]
   intro H4 v2 l4 hv2
   have hk:=h _ ((l.trans l3).trans l4)
   refine ⟨fun _=>b3Y (hv.le l4) hv2 ?_,fun n=>absurd (by simp) n⟩
   rw [b3q]
   simpa using hk
 refine c6E (hT.le l0) (hE.le l0) hs2 ?_
 cases ho:ansR (exprP 40) (fun t=>toldS [t]) s with
 | error y=>
  obtain ⟨c,q⟩:=y
  intro H1 l1
  refine b8m hs ?_
  rw [ho]
  intro H2 l2
  have hk:=part2 _ ((l0.trans l1).trans l2)
  by_cases e:c=0
  ·subst e
   refine ⟨fun _=>b1A d3v d3v ?_,fun n=>absurd (by simp) n⟩
   rw [b3q]
   exact ⟨fun n=>absurd n (by simp),fun _=>hk⟩
  ·exact ⟨fun n=>absurd n (by simp [e]),fun _=>⟨fun n=>absurd n (by simp [e]),fun _=>hk⟩⟩
 | ok b=>
  intro H1 v l1 hv
  refine b8m hs ?_
  rw [ho]
  intro H2 v2 l2 hv2
  have hk:=part2 _ ((l0.trans l1).trans l2)
  refine ⟨fun _=>b1A (hv.le l2) hv2 ?_,fun n=>absurd (by simp) n⟩
  rw [b3q]
  exact ⟨fun n=>absurd n (by simp),fun _=>hk⟩
end
end Go.Proofs.YthklmeihgmcljaaGreatDoor
