/- Parsing: a source's expression, condition, by the program and by the document. -/
import Derived.Test.YthklmeihgmcljaaGreatDoorzEXa
namespace Go.Proofs.YthklmeihgmcljaaGreatDoor
open Go.RowKit
set_option maxRecDepth 100000
set_option maxHeartbeats 1000000
abbrev toks(s:ByteArray):List Tok:=(tkS s).1.map tkv
def ansR{β:Type}(p:PM β)(chk:β→Int)(s:ByteArray):Except Flt β:=if (tkS s).2.2=0 then readsR p chk (toks s) else .error ((tkS s).2.2,plv (tkS s).2.1)
def Ans{α β:Type}(H:Hp)(z:α)(RR:Hp→α→β→Prop)(o:Except Flt β)(K:α→b8→Int→Hp→Prop):Prop:=match o with
 | .error (c,q)=>∀H',Hle H H'→K z q c H'
 | .ok b=>∀H' v,Hle H H'→RR H' v b→K v ⟨0,0⟩ 0 H'
section
variable {H:Hp}{s:ByteArray}
theorem Ans.rd{α β:Type}{z:α}{RR:Hp→α→β→Prop}{p:PM β}{chk:β→Int}{K:α→b8→Int→Hp→Prop}(h:Ans H z RR (ansR p chk s) K)(he:(tkS s).2.2=0):Ans H z RR (readsR p chk (toks s)) K:=by
 unfold ansR at h
 rw [if_pos he] at h
 exact h
theorem c8n{r:List Tok}(h:WfT r)(hk:(hd r).d8=5):r=[hd r]:=by
 cases r with
 | nil=>exact h.elim
 | cons t r=>
  cases r with
  | nil=>rfl
  | cons u r=>exact absurd hk h.1
theorem d5k{x:RD4}{r:List Tok}(h:Rg H x r){K:b8→Int→RD4→Hp→Prop}(h5:(hd r).d8=5→∀q,K q 0 x H)(h1:(hd r).d8≠5→∀x',Rb H x' 40 (hd r).fAt→K (hd r).fAt 40 x' H):a0e x H K:=by
 refine a5D _ ?_
 unfold a1U
 refine ⟨fun _=>a4j h.1 ?_,fun q=>absurd (decide_eq_true h.2) q⟩
 rw [h.2]
 refine ⟨fun c=>a4T h (by decide) fun x' rb _=>?_,fun c=>?_⟩
 ·unfold M6
  rw [rb.2.2.1,rb.2.1]
  exact h1 (by simpa using c) x' rb
 ·unfold M6
  rw [h.2]
  exact h5 (by simpa using c) _
theorem d1y{x:RD4}{c:Int}{p:b8}(h:Rb H x c p){K:b8→Int→RD4→Hp→Prop}(k:K p c x H):a0e x H K:=by
 refine a5D _ ?_
 unfold a1U
 refine ⟨fun q=>absurd (of_decide_eq_true q) h.bad,fun _=>?_⟩
 rw [decide_eq_false h.bad]
 refine ⟨fun q=>(by cases q),fun _=>?_⟩
 unfold M6
 rw [h.2.2.1,h.2.1]
 exact k
theorem d1z{x:RD4}{r:List Tok}(h:Rg H x r)(hk:(hd r).d8=5){e:Int}{K:b8→Int→Hp→Prop}(k2:e=32→K (hd r).fAt 41 H)(k3:e≠32→e=33→K (hd r).fAt 42 H)(k0:e≠32→e≠33→∀q,K q 0 H):a1x x e H K:=by
 refine a9A _ _ ?_
 unfold a5c
 have h1:=c8n h.wf hk
 obtain ⟨⟨ts,n,a,b,c,d,w⟩,_⟩:=h
 have hat:=drop_at d w.ne
 have hn:=E0 hat
 have hlen:ts.length-n=1:=by
  have:=congrArg List.length d
  rw [List.length_drop,h1] at this
  exact this
 have hl:=a.1
 simp only [big] at b
 have ew:IntKind.wrap .i64 ((x.fl.n:Int)-1)=(n:Int):=by rw [z1 ⟨by omega,by omega⟩];omega
 rw [ew]
 obtain ⟨y,hy,hE⟩:=a.get (i:=(n:Int)) (by omega) (by omega)
 rw [Int.toNat_natCast,hat] at hy
 cases hy
 exact ⟨fun c=>⟨by omega,by omega,_,hE,k2 c⟩,fun c=>⟨fun c3=>⟨by omega,by omega,_,hE,k3 c c3⟩,fun c3=>k0 c c3 _⟩⟩
end
set_option maxHeartbeats 2000000
abbrev zP:l8:=l8.mk (Sl.mk none 0 0) (Sl.mk none 0 0)
abbrev chkP(q:PP):Int:=toldS q.nodes
theorem d5l{q:PP}(h2:toldS q.nodes≠32)(h3:toldS q.nodes≠33):fewP q=true:=by
 rw [←d1i,show vEnd (allV q)=toldS q.nodes from c3d _,decide_eq_false h2,decide_eq_false h3]
 rfl
abbrev gD(d:m7):Prop:=d.t7.size≤65536
theorem c8o(arr:Bool):SmP gD (declP arr):=fun r a r' ht h=>by
 have t1:=ht.hd
 unfold declP at h
 split at h
 ·cases h
 split at h
 ·refine (SmP.bind (G2:=gD) (a6F _) fun _ _ r1 a1 r2 ht1 h1=>?_) _ _ _ ht.tail h
  split at h1
  ·cases h1
  ·exact ((a6F _).bind fun _ _=>(a6F _).bind fun _ _=>a5x (G:=gD) t1.1) _ _ _ ht1.tail h1
 ·exact ((a6F _).bind fun _ _=>a5x (G:=gD) t1.1) _ _ _ ht.tail h
theorem b9t:∀(n:Nat)(l:List m7),(∀d∈l,d.t7.size≤65536)→SmP (fun l:List m7=>∀d∈l,d.t7.size≤65536) (declsF n l)
 | 0,l,hl=>fun r b r' ht h=>by cases h;exact ⟨hl,ht⟩
 | n+1,l,hl=>fun r b r' ht h=>by
  unfold declsF at h
  split at h
  ·exact SmP.bind (c8o _) (fun a ha=>b9t n _ fun t ht=>by
    rcases List.mem_append.1 ht with q | q
    ·exact hl t q
    ·rw [List.mem_singleton.1 q];exact ha) _ _ _ ht.tail h
  ·cases h;exact ⟨hl,ht⟩
theorem c8p:SmP PP.Sm progP:=SmP.bind (G:=fun l:List m7=>∀d∈l,d.t7.size≤65536) (fun r _ _ ht h=>b9t r.length [] (fun _ q=>(by cases q)) _ _ _ ht h) fun ds hd=>SmP.bind (G:=SmL) (fun r _ _ ht h=>b5Z (c1e 40) r.length [] Q8 _ _ _ ht h) fun b hb=>a5x fun t ht=>by
 unfold PP.nodes at ht
 rcases List.mem_append.1 ht with q | q
 ·obtain ⟨u,hu,rfl⟩:=List.mem_map.1 q
  exact .mk ⟨by show u.t7.size≤sml;have:=hd u hu;simp only [sml];omega,by show a5o 0;decide⟩ Q8
 ·exact hb t q
section
variable {H:Hp}{s:ByteArray}
theorem b7r(hT:TabsH H)(hE:ErrH H)(hs4:s.size≤4194304){K:l8→b8→Int→Hp→Prop}(h:Ans H zP PH (ansR progP chkP s) K):a1O s H K:=by
 refine b4Y _ ?_
 unfold b0k
 refine c4b (p:=progP) (chk:=chkP) (RR:=PH) (toks:=toks s) (pl:=plv (tkS s).2.1) (er:=(tkS s).2.2) (c6r hT hE hs4 fun e H' l hs=>⟨l,hs,rfl,rfl⟩) (fun he=>⟨(b8d he).1,(b8d he).2.1⟩) (fun rd k=>d1c rd k) (fun{H' v b r'} he l eo ra=>?_) (fun l ra=>ra.le l) (fun he H' l=>?_) (fun he c q eo H' l=>?_) fun he b eo H' v l ra=>?_
 ·exact c8b (hT.le l) ra (c8p _ _ _ (b8d he).2.2 eo).1 fun H'' l2=>⟨l2,c3d _⟩
 ·unfold ansR at h;rw [if_neg he] at h;exact h H' l
 ·have h:=h.rd he;rw [eo] at h;exact h H' l
 ·have h:=h.rd he;rw [eo] at h;exact h H' v l ra
theorem b9u(hs:s.size≤big){K:l8→b8→Int→Hp→Prop}(h:Ans H zP PH (ansR progP chkP s) K):a3O s H K:=by
 refine b2v _ (c0C hs fun e H1 l1' hs=>⟨fun he=>?_,fun he=>?_⟩)
 ·unfold ansR at h;rw [if_neg he] at h;exact h H1 l1'
 have h:=h.rd he
 obtain ⟨w1,w2,w3⟩:=b8d he
 have rg:Rg H1 (a8.mk e 0 0 (b8.mk 0 0)) (toks s):=⟨⟨_,0,hs,w2,rfl,rfl,w1⟩,rfl⟩
 have hb:=rg.big
 unfold readsR at h
 generalize ho:progP (toks s)=o at h
 have ho:bindP (declsF (toks s).length []) (fun ds=>bindP (fun r=>stmtsF endB (stmtP 40) r.length [] r) fun b=>pureP (PP.mk ds b)) (toks s)=o:=ho
 have bad:∀{H':Hp}{a:RD4}{c:Int}{p:b8}{k:List m7}{l:List b9}{z m:b8}{g:l8},Hle H1 H'→Rb H' a c p→o=.error (c,p)→W1 a k l z m g H' K:=by
  intro H' a c p k l z m g l2 rb eo
  subst eo
  unfold W1
  refine d1y rb ⟨fun q=>absurd q rb.2.2.2,fun _=>?_⟩
  intro s1 H2 l3 _ _ s2 H3 l4 _ _
  exact ⟨fun _=>h H3 (l1'.trans ((l2.trans l3).trans l4)),fun q=>absurd q rb.2.2.2⟩
 refine D1 (fun(z:List m7×List b9×RD4×b8×b8×l8) H'=>z.2.1=[]∧Hle H1 H'∧((∃(r':List Tok)(n:Nat),Rg H' z.2.2.1 r'∧z.1.length+r'.length≤(toks s).length∧r'.length≤n∧bindP (declsF n z.1) (fun ds=>bindP (fun r=>stmtsF endB (stmtP 40) r.length [] r) fun b=>pureP (PP.mk ds b)) r'=o)∨∃c p,Rb H' z.2.2.1 c p∧o=.error (c,p))) (fun z=>if z.2.2.1.fbad=0 then ((z.2.2.1.fl.n:Int)-z.2.2.1.fat).toNat+1 else 0) ⟨rfl,Hle.refl _,.inl ⟨_,_,rg,by simp,Nat.le_refl _,ho⟩⟩ ?_
 rintro ⟨ds,_,x2,pe,pf,pg⟩ H2 next ⟨rfl,l2,hz⟩ hk
 dsimp only at hz
 unfold a2I
 dsimp only
 rcases hz with ⟨r2,n,rd2,hlen,hn,ho2⟩ | ⟨c,p,rb,eo⟩
 rotate_left
 ·have eb:=decide_eq_false rb.bad
  rw [eb]
  refine ⟨fun q=>(by cases q),fun _=>⟨fun q=>(by cases q),fun _=>⟨fun q=>(by cases q),fun _=>?_⟩⟩⟩
  unfold a0B
  refine D1 (fun(z:RD4×List b9×b8×b8×l8) H'=>H'=H2∧z.1=x2) (fun _=>0) ⟨rfl,rfl⟩ ?_
  rintro ⟨_,_,_,_,_⟩ H3 next3 ⟨rfl,rfl⟩ _
  unfold a0A
  refine b0t rb ⟨fun q=>(by rw [Bool.and_false] at q;cases q),fun _=>bad l2 rb eo⟩
 have b2:=rd2.2
 have m2:=rd2.len
 have hr2:r2.length≠0:=fun e=>rd2.wf.ne (List.length_eq_zero_iff.1 e)
 obtain ⟨n,rfl⟩:∃m,n=m+1:=⟨n-1,by omega⟩
 rw [b2]
 refine ⟨fun _=>a8T rd2 ?_,fun q=>absurd (decide_eq_true rfl) q⟩
 refine a5M rd2 ?_
 have eor:(decide ((0:Int)=0)&&(isT tVar r2||(decide ((decide ((0:Int)=0) && !isT tVar r2)=true)&&isT tArr r2)))=(isT tVar r2||isT tArr r2):=by
  cases isT tVar r2<;>simp
 rw [eor]
 refine ⟨fun c=>?_,fun c=>?_⟩
 ·have hne:(hd r2).d8≠5:=by
   rcases Bool.or_eq_true_iff.1 c with q | q<;>exact a6E q
  have ht:=a1Y hne
  have e4:declsF (n+1) ds r2=bindP (declP (isT tArr r2)) (fun d=>declsF n (ds++[d])) r2.tail:=by
   conv=>lhs;unfold declsF
   rw [if_pos c]
  rw [a9u e4,a2W] at ho2
  have rdu:=rd2.up hne
  rw [b2] at rdu
  refine a8T rd2 (c7R rdu ?_)
  cases hd4:declP (isT tArr r2) r2.tail with
  | error y=>
   rw [D4 hd4] at ho2
   intro H3 v x3 l3 rb e3
   refine ⟨by simp;omega,hk _ _ ⟨rfl,l2.trans l3,.inr ⟨_,_,rb,ho2.symm⟩⟩ ?_⟩
   dsimp only
   rw [if_neg rb.bad,if_pos b2]
   omega
  | ok y=>
   obtain ⟨d,r3⟩:=y
   rw [Q0 hd4] at ho2
   intro H3 v x3 l3 hv rd3 e3
   subst hv
   have hlt:=b8Z _ _ _ _ hd4
   have m3:=rd3.len
   have b3:=rd3.2
   refine ⟨by simp;omega,hk _ _ ⟨rfl,l2.trans l3,.inl ⟨r3,n,rd3,by show (ds++[v]).length+r3.length≤_;rw [List.length_append,List.length_singleton];omega,by omega,ho2⟩⟩ ?_⟩
   have e3':x3.fl=x2.fl:=e3
   dsimp only
   rw [if_pos b3,if_pos b2]
   omega
 ·have:declsF (n+1) ds r2=.ok (ds,r2):=by
   conv=>lhs;unfold declsF
   rw [if_neg (by rw [c];decide)]
  rw [Q0 this] at ho2
  have ho2:bindP (stmtsF endB (stmtP 40) r2.length []) (fun b=>pureP (PP.mk ds b)) r2=o:=ho2
  unfold a0B
  refine D1 (fun(z:RD4×List b9×b8×b8×l8) H'=>Hle H2 H'∧((∃(l:List PT)(r':List Tok)(n:Nat),u2 (SH H') z.2.1 l∧Rg H' z.1 r'∧l.length+r'.length≤r2.length∧r'.length≤n∧bindP (stmtsF endB (stmtP 40) n l) (fun b=>pureP (PP.mk ds b)) r'=o)∨z.2.1.length≤r2.length∧∃c p,Rb H' z.1 c p∧o=.error (c,p))) (fun z=>if z.1.fbad=0 then ((z.1.fl.n:Int)-z.1.fat).toNat+1 else 0) ⟨Hle.refl _,.inl ⟨[],r2,_,u2.nil,rd2,by simp,Nat.le_refl _,ho2⟩⟩ ?_
  rintro ⟨x3,zs,q1,q2,q3⟩ H3 next3 ⟨l3,hz⟩ hk3
  dsimp only at hz
  unfold a0A
  dsimp only
  rcases hz with ⟨l,r3,n3,rel,rd3,hlen3,hn3,ho3⟩ | ⟨_,c,p,rb,eo⟩
  rotate_left
  ·exact b0t rb ⟨fun q=>(by rw [Bool.and_false] at q;cases q),fun _=>bad (l2.trans l3) rb eo⟩
  have hzl:=rel.1
  have b3:=rd3.2
  have m3:=rd3.len
  have hr3:r3.length≠0:=fun e=>rd3.wf.ne (List.length_eq_zero_iff.1 e)
  obtain ⟨n3,rfl⟩:∃m,n3=m+1:=⟨n3-1,by omega⟩
  have go:endB r3=false→bindP (stmtsF endB (stmtP 40) (n3+1) l) (fun b=>pureP (PP.mk ds b)) r3=bindP (stmtP 40) (fun s=>bindP (stmtsF endB (stmtP 40) n3 (l++[s])) (fun b=>pureP (PP.mk ds b))) r3:=fun c=>(a9u (b2E c)).trans a2W
  refine b9h rd3 ?_
  rw [b3]
  show (_→_)∧(_→_)
  simp only [decide_true,Bool.true_and]
  refine ⟨fun c9=>?_,fun c9=>?_⟩
  ·have c':endB r3=false:=decide_eq_false (c0R c9)
   rw [go c'] at ho3
   refine stmtG 39 (by omega) (by omega) rd3 c9 ?_
   cases hs4:stmtP 40 r3 with
   | error y=>
    rw [D4 hs4] at ho3
    intro H4 v x4 l4 rb e4
    refine ⟨by simp;omega,hk3 _ _ ⟨l3.trans l4,.inr ⟨by simp;omega,_,_,rb,ho3.symm⟩⟩ ?_⟩
    dsimp only
    rw [if_neg rb.bad,if_pos b3]
    omega
   | ok y=>
    obtain ⟨b,r4⟩:=y
    rw [Q0 hs4] at ho3
    intro H4 v x4 l4 rb rd4 e4
    have hlt:=b1L 40 _ _ _ hs4
    have m4:=rd4.len
    have b4:=rd4.2
    refine ⟨by simp;omega,hk3 _ _ ⟨l3.trans l4,.inl ⟨l++[b],r4,n3,(rel.mono fun _ _ q=>q.le l4).snoc rb,rd4,by simp;omega,by omega,ho3⟩⟩ ?_⟩
    dsimp only
    rw [if_pos b4,if_pos b3]
    omega
  ·have l123:=l1'.trans (l2.trans l3)
   unfold W1
   refine d5k rd3 (fun c5 q0=>⟨fun _=>?_,fun n=>absurd rfl n⟩) fun c5 x4 rb=>⟨fun q0=>(by cases q0),fun _=>?_⟩
   ·have:stmtsF endB (stmtP 40) (n3+1) l r3=.ok (l,r3):=by unfold stmtsF;rw [if_pos (show endB r3=true from decide_eq_true c5)]
    rw [Q0 this] at ho3
    subst ho3
    intro s1 H4 l4 hs1 _ s2 H5 l5 hs2 _
    have hp:PH H5 ⟨s1,s2⟩ ⟨ds,l⟩:=⟨hs1.le l5,by simp only [big];omega,zs,hs2,by simp only [big];omega,rel.mono fun _ _ q=>q.le (l4.trans l5)⟩
    have lz:=l123.trans (l4.trans l5)
    have h:Ans H zP PH (if (hd r3).d8≠5 then .error (40,(hd r3).fAt) else if chkP ⟨ds,l⟩=32 then .error (41,(hd r3).fAt) else if chkP ⟨ds,l⟩=33 then .error (42,(hd r3).fAt) else .ok ⟨ds,l⟩) K:=h
    rw [if_neg (fun n=>n c5)] at h
    refine c6I hp (d1z (rd3.le (l4.trans l5)) c5 (fun c=>?_) (fun c c3=>?_) fun c c3 q=>?_)
    ·rw [if_pos c] at h;exact ⟨fun _=>h H5 lz,fun q=>(by cases q)⟩
    ·rw [if_neg c,if_pos c3] at h;exact ⟨fun _=>h H5 lz,fun q=>(by cases q)⟩
    ·rw [if_neg c,if_neg c3] at h;exact ⟨fun n=>absurd rfl n,fun _=>h H5 _ lz hp⟩
   ·rw [go (decide_eq_false c5),D4 (b7l c9)] at ho3
    subst ho3
    intro s1 H4 l4 _ _ s2 H5 l5 _ _
    exact ⟨fun _=>h H5 (l123.trans (l4.trans l5)),fun q=>(by cases q)⟩
end
theorem k1:ansR progP chkP ⟨#[118,97,114,32,120,59,32,120,32,61,32,49,32,43,32,50,32,42,32,120,59]⟩=.ok ⟨[⟨⟨#[120]⟩,0⟩],[sX 1 ⟨#[120]⟩ [eX 6 0 ⟨#[]⟩ [eX 1 1 ⟨#[]⟩ [],eX 8 0 ⟨#[]⟩ [eX 1 2 ⟨#[]⟩ [],eX 2 0 ⟨#[120]⟩ []]]] [] [] []]⟩:=by kernel_rfl
theorem k2:ansR progP chkP ⟨#[120,32,61,32,59]⟩=.error (40,⟨1,5⟩):=by kernel_rfl
theorem d1A{H:Hp}{e:d9}{k n:Int}{nm:ByteArray}{ts:List PT}(h:EH H e (eX k n nm ts)):e.d8=k:=by
 generalize ht:eX k n nm ts=t at h
 cases h with
 | mk a b c d=>unfold eX at ht;injection ht with h1 h2;injection h1 with q1;exact q1.symm
theorem d5m{H:Hp}{x:b9}{k:Int}{nm:ByteArray}{t:PT}(h:SH H x (sX k nm [t] [] [] [])):∃e,SlH H 4 g7 x.o4 [e]∧EH H e t:=by
 generalize ht:sX k nm [t] [] [] []=u at h
 cases h with
 | @mk _ xs ts ys us zs bs vs ws a1 a2 a3 b1 b2 b3 c1 c2 c3 c4 d1 d2 d3 d4=>
  unfold sX at ht
  injection ht with h1 h2
  injection h1 with q1 q2 q3 q4 q5 q6
  have e1:us=[]:=List.length_eq_zero_iff.1 q4.symm
  have e2:vs=[]:=List.length_eq_zero_iff.1 q5.symm
  have e3:ws=[]:=List.length_eq_zero_iff.1 q6.symm
  subst e1;subst e2;subst e3
  simp only [List.nil_append,List.append_nil] at h2
  subst h2
  have hl:xs.length=1:=a3.1
  obtain ⟨e,rfl⟩:∃e,xs=[e]:=List.length_eq_one_iff.1 hl
  exact ⟨e,a1,a3.2 0 e t rfl rfl⟩
section
variable {H:Hp}(hT:TabsH H)(hE:ErrH H)
include hT hE
theorem c6K{K:Bool→Hp→Prop}(h:∀H',Hle H H'→K true H'):a3L H K:=by
 refine b2y (b7r hT hE (by decide) ?_)
 rw [k1]
 intro H1 v l1' hv
 refine b7r (hT.le l1') (hE.le l1') (by decide) ?_
 rw [k2]
 intro H2 l2
 obtain ⟨hd,_,xs,hb,_,rel⟩:=hv.le l2
 obtain ⟨x,rfl⟩:∃x,xs=[x]:=List.length_eq_one_iff.1 rel.1
 have hx:=rel.2 0 x _ rfl rfl
 obtain ⟨e,he,hk⟩:=d5m hx
 have n1:(v.N3.n:Int)=1:=by have:=hd.1;simp at this;omega
 have n2:(v.a0L.n:Int)=1:=by have:=hb.1;simp at this;omega
 have n3:(x.o4.n:Int)=1:=by have:=he.1;simp at this;omega
 obtain ⟨y,hy,hY⟩:=hb.get (i:=0) (by omega) (by omega)
 obtain rfl:x=y:=by simpa using hy
 obtain ⟨z,hz,hZ⟩:=he.get (i:=0) (by omega) (by omega)
 obtain rfl:e=z:=by simpa using hz
 refine ⟨x,fun _=>⟨by omega,by omega,hY⟩,x,fun _=>⟨by omega,by omega,hY⟩,e,fun _=>⟨by omega,by omega,hZ⟩,?_⟩
 rw [n1,n2,n3,d1A hk]
 exact h H2 (l1'.trans l2)
variable {s:ByteArray}
theorem b9E(hs4:s.size≤4194304){K:Bool→Hp→Prop}(h:∀H',Hle H H'→K true H'):a1Q s H K:=by
 refine b0i _ (c6K hT hE fun H0 l0=>⟨fun q=>(by cases q),fun _=>?_⟩)
 have hs:s.size≤big:=by simp only [big];omega
 have pz:∀{H:Hp},PH H zP ⟨[],[]⟩:=fun{H}=>⟨SlH.nil _ _ _,by simp [big],[],SlH.nil _ _ _,by simp [big],u2.nil⟩
 have eqr:∀{q:PP},fewP q=true→eqS q q=true:=fun{q} hf=>by
  unfold eqS eqD
  rw [hf,b3t.2 rfl]
  simp
 refine b7r (hT.le l0) (hE.le l0) hs4 ?_
 cases ho:ansR progP chkP s with
 | error y=>
  obtain ⟨c,q⟩:=y
  intro H1 l1'
  refine b9u hs ?_
  rw [ho]
  intro H2 l2
  have l:=(l0.trans l1').trans l2
  have e1:((!decide (c=c))||(!decide (q.B9=q.B9∧q.K8=q.K8)))=false:=by simp
  refine ⟨fun c1=>(by rw [e1] at c1;cases c1),fun _=>⟨fun _=>h H2 l,fun c0=>b9n pz pz ?_⟩⟩
  rw [eqr (by kernel_rfl)]
  exact h H2 l
 | ok b=>
  intro H1 v l1' hv
  refine b9u hs ?_
  rw [ho]
  intro H2 v2 l2 hv2
  have l:=(l0.trans l1').trans l2
  have hf:fewP b=true:=by
   unfold ansR readsR at ho
   split at ho
   ·split at ho
    ·cases ho
    ·split at ho
     ·cases ho
     split at ho
     ·cases ho
     rename_i c2
     split at ho
     ·cases ho
     rename_i c3
     cases ho
     exact d5l c2 c3
   ·cases ho
  refine ⟨fun c1=>(by simp at c1),fun _=>⟨fun n=>absurd rfl n,fun _=>b9n (hv.le l2) hv2 ?_⟩⟩
  rw [eqr hf]
  exact h H2 l
end
end Go.Proofs.YthklmeihgmcljaaGreatDoor
