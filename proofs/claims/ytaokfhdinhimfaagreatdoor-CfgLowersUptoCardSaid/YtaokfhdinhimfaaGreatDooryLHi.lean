/- The law of graphs of programs. By hand where the answer's edges are written over. -/
import Derived.Test.YtaokfhdinhimfaaGreatDooryLHh
import Derived.Test.YtaokfhdinhimfaaGreatDooryLS6
namespace Go.Proofs.YtaokfhdinhimfaaGreatDoor
open Go.RowKit
set_option maxRecDepth 100000
set_option maxHeartbeats 2000000
def qeV(q:PP):List ByteArray:=if loE q=0 then vN q else []
def qeA(q:PP):List i7:=if loE q=0 then ofS q 2 else []
def qeE(q:PP):List Ed:=if loE q=0 then (loS q).es else []
def qeT(q:PP):Int:=if loE q=0 then (loS q).t else 0
def qeP(q:PP):Int:=if loE q=0 then (loS q).p else 0
def qeX(q:PP):Int:=if loE q=0 then exS q else 0
structure G1 (H H':Hp) (q:PP) (c:m3):Prop where
 v:SlH H' 1 v2 c.p7 (qeV q)
 a:SlH H' 2 i5 c.o9 (qeA q)
 e:NewE H H' c.R3 (qeE q)
 t:c.q9=qeT q
 p:c.p5=qeP q
 x:c.u5=qeX q
structure G2 (H':Hp) (q:PP) (c:m3):Prop where
 v:SlH H' 1 v2 c.p7 (qeV q)
 a:SlH H' 2 i5 c.o9 (qeA q)
 e:SlH H' 10 i6 c.R3 (qeE q)
 t:c.q9=qeT q
 p:c.p5=qeP q
 x:c.u5=qeX q
theorem G2.le{H H':Hp}{q:PP}{c:m3}(h:G2 H q c)(l:Hle H H'):G2 H' q c:=⟨h.v.le l,h.a.le l,h.e.le l,h.t,h.p,h.x⟩
theorem G1.at_{H H' H2:Hp}{q:PP}{c:m3}(h:G1 H H' q c)(l:Hle H' H2):G2 H2 q c:=by
 obtain ⟨F,hr,hi,_⟩:=h.e
 exact ⟨h.v.le l,h.a.le l,(hr.frozen (by decide) hi).le l,h.t,h.p,h.x⟩
theorem gB(q:PP):(qeV q).length≤4096∧(qeA q).length≤4096∧(qeE q).length≤8192∧b0p (qeT q):=by
 unfold qeV qeA qeE qeT
 by_cases e:loE q=0
 ·rw [if_pos e,if_pos e,if_pos e,if_pos e]
  have hw:(wellS q).2=0:=by
   by_cases c:(wellS q).2=0
   ·exact c
   ·unfold loE at e;rw [if_pos c] at e;exact e
  obtain ⟨hf,hq,hvl,hal⟩:=b5m hw
  have hgl:Gl (4*cTs q.body) ⟨1+exS q,0,[]⟩ (loS q):=b2b (b4C (enS q) q.body) 0 (exS q) _
  have h0:0≤(loS q).t:=hgl.t
  have hvl':(vN q).length≤4096:=by unfold vN;rw [List.length_map];exact hvl
  have hn0:0≤(enS q).nv:=by show (0:Int)≤((vN q).length:Int);omega
  unfold loE at e
  rw [if_neg (by omega)] at e
  split at e
  ·cases e
  split at e
  ·cases e
  refine ⟨hvl',hal,by omega,?_⟩
  unfold b0p;constructor<;>omega
 ·rw [if_neg e,if_neg e,if_neg e,if_neg e]
  refine ⟨by simp,by simp,by simp,?_⟩
  unfold b0p;constructor<;>omega
theorem G2.gh{H:Hp}{q:PP}{c:m3}(h:G2 H q c):GH H c (qeV q) (qeA q) (qeE q):=by
 obtain ⟨b1,b2,b3,b4⟩:=gB q
 exact ⟨h.v,h.a,h.e,by omega,by omega,by omega,by rw [h.t];exact b4⟩
section
variable {H:Hp}{q:PP}{p:m6}
theorem b8u(hT:TabsH H)(hp:PH H p q)(hsm:q.Sm){K:m3→Int→Hp→Prop}(h:∀c H',Hle H H'→G1 H H' q c→K c (loE q) H'):a7p p H K:=by
 refine c0M hT hp hsm (fun e H' l=>h cz H' l ?_) fun e c H' l g=>?_
 ·refine ⟨?_,?_,⟨[],?_,(fun p hp=>by cases hp),fun p hp=>by cases hp⟩,?_,?_,?_⟩
  ·unfold qeV;rw [if_neg e];exact SlH.nil ..
  ·unfold qeA;rw [if_neg e];exact SlH.nil ..
  ·unfold qeE;rw [if_neg e];exact RowL.nil (fun x=>rfl) fun x=>rfl
  ·unfold qeT;rw [if_neg e]
  ·unfold qeP;rw [if_neg e]
  ·unfold qeX;rw [if_neg e]
 ·rw [←e]
  refine h c H' l ⟨?_,?_,?_,?_,?_,?_⟩
  ·unfold qeV;rw [if_pos e];exact g.v
  ·unfold qeA;rw [if_pos e];exact g.a
  ·unfold qeE;rw [if_pos e];exact g.e
  ·unfold qeT;rw [if_pos e];exact g.t
  ·unfold qeP;rw [if_pos e];exact g.p
  ·unfold qeX;rw [if_pos e];exact g.x
theorem c3u(hp:PH H p q)(hcp:p.E4.n≤p.E4.c){K:m3→Int→Hp→Prop}(h:∀c H',Hle H H'→G2 H' q c→K c (loE q) H'):a4v p H K:=by
 refine c5v hp hcp (fun e H' l=>h cz H' l ?_) fun e c H' l g=>?_
 ·refine ⟨?_,?_,?_,?_,?_,?_⟩
  ·unfold qeV;rw [if_neg e];exact SlH.nil ..
  ·unfold qeA;rw [if_neg e];exact SlH.nil ..
  ·unfold qeE;rw [if_neg e];exact SlH.nil ..
  ·unfold qeT;rw [if_neg e]
  ·unfold qeP;rw [if_neg e]
  ·unfold qeX;rw [if_neg e]
 ·rw [←e]
  refine h c H' l ⟨?_,?_,?_,?_,?_,?_⟩
  ·unfold qeV;rw [if_pos e];exact g.v
  ·unfold qeA;rw [if_pos e];exact g.a
  ·unfold qeE;rw [if_pos e];exact g.e
  ·unfold qeT;rw [if_pos e];exact g.t
  ·unfold qeP;rw [if_pos e];exact g.p
  ·unfold qeX;rw [if_pos e];exact g.x
theorem c6v{w0 w w':World}{ps:Nat→Prop}{H0 H H':Hp}{Fs Fs':List Frag}{F:Frag}(I:Inv w0 ps H0 H Fs w)(J:Inv w0 ps H0 H' Fs' w')(l:Hle H H')(hF:∀p∈F,H' p.1=some p.2)(hn:∀p∈F,H p.1=none)(nd:(F.map (·.1)).Nodup):Inv w0 ps H0 (subF H' F) (F::Fs') w'∧Hle H (subF H' F):=by
 refine ⟨J.thaw hF nd (fun p hp=>?_) (fun p hp=>?_),fun i o h=>?_⟩
 ·by_cases a:ps p.1
  ·exact .inl a
  ·refine .inr (Nat.le_of_not_lt fun b=>?_)
   have h1:=J.back p.1 b a
   rw [hF p hp] at h1
   have:=I.le _ _ h1.symm
   rw [hn p hp] at this;cases this
 ·cases h:H0 p.1 with
  | none=>rfl
  | some o=>have:=I.le _ _ h;rw [hn p hp] at this;cases this
 ·rw [b4c fun p hp e=>by subst e;rw [hn p hp] at h;cases h]
  exact l _ _ h
def Pr(s:Sl)(F:Frag):Prop:=s.n=0∨∃gr cs,s.a=some ⟨gr,0,none⟩∧F=[(gr,.cells (List.toArray cs) 40 (0,0))]∧s.n*10≤cs.length
theorem d1W{s:Sl}{es:List Ed}{F:Frag}(h:RowL 40 10 i6 s es F):Pr s F∧(F.map (·.1)).Nodup:=by
 obtain ⟨⟨h1,h2⟩,h3,h4,h5⟩:=h
 rcases h2 with ⟨rfl,rfl⟩ | ⟨g,arr,ha,rfl,q1,q2,q3,q4⟩
 ·exact ⟨.inl rfl,by simp⟩
 ·refine ⟨.inr ⟨g,arr.toList,ha,by rw [Array.toArray_toList],?_⟩,by simp⟩
  rw [Array.length_toList,q3]
  exact Nat.mul_le_mul_right 10 q1
theorem c9a{w0 w:World}{ps0:Nat→Prop}{H0 Hc:Hp}{R:Value→World→Prop}{E:Pan}{K:Bool→Hp→Prop}(hR:∀v H' Fo w',Inv w0 ps0 H0 H' Fo w'→(∃r0:Bool,v=Value.bool r0∧Fo=[]∧K r0 H')→R v w')(hT:TabsH Hc)(hp:PH Hc p q)(hsm:q.Sm){u:m3}(hu:G2 Hc q u)(h:∀H',Hle Hc H'→K true H')
  {gb gc:Nat} {Fa Fb:Frag} (I:Inv w0 ps0 H0 Hc [bx gb 25 (m5 p),bx gc 30 (z6 u),Fa,Fb] w):c2G (rp gb) (rp gc) w R E:=by
 unfold c2G
 intro _
 refine c6 (lW Tryz.isAgg25 Tryz.sizeOf25 rfl I) ?_
 refine f0 (Fi:=[]) Tryz.call6 (b8u hT hp hsm (K:=fun c e H'=>G1 Hc H' q c) fun c H' l g=>g) I ?_
 rintro _ H3 Fo w3 I3 l3 k3 ⟨g,e,rfl,rfl,hg⟩
 refine c5 (m0 _ _ _ rfl) ?_
 refine c5 (m0 _ _ _ rfl) ?_
 refine u4 I3 Tryz.zeroValue30 (cs:=z6 cz) rfl fun gd w4 I4 k4=>?_
 refine y6 I4 Tryz.sizeOf30 (vs:=z6 g) fun w5 I5 _=>?_
 refine c6 (lW Tryz.isAgg30 Tryz.sizeOf30 rfl I5) ?_
 refine c6 (lW Tryz.isAgg30 Tryz.sizeOf30 rfl (I5.bring 2)) ?_
 have Gg:=hg.at_ (Hle.refl _)
 have Gu:=hu.le l3
 refine f0 (Fi:=[]) Tryz.call8 (b6B Gg.gh Gu.gh (Gg.t.trans Gu.t.symm) (Gg.p.trans Gu.p.symm) (Gg.x.trans Gu.x.symm) (K:=fun r H'=>r=true∧H'=H3) ⟨rfl,rfl⟩) I5 ?_
 rintro _ H6 Fo w6 I6 l6 k6 ⟨_,rfl,rfl,rfl,rfl⟩
 exact hR _ _ _ _ I6.drop.drop.drop.drop.drop ⟨true,rfl,rfl,h _ l3⟩
theorem c0Q(hT:TabsH H)(hp:PH H p q)(hsm:q.Sm)(hcp:p.E4.n≤p.E4.c){K:Bool→Hp→Prop}(h:∀H',Hle H H'→K true H'):a6i p H K:=by
 refine Ct.of fun w0 w ps0 H0 R E I hR=>d2c ?_
 unfold F3
 refine A9 I (cs:=m5 p) rfl fun gb w1 I1 k1=>?_
 refine f0 (Fi:=[]) Tryz.call5 (c5w hT (K:=fun r H'=>r=true) fun H' l=>rfl) I1 ?_
 rintro _ H1 Fo w2 I2 l2 k2 ⟨_,rfl,rfl,rfl⟩
 refine c5 (T1 _) ?_
 refine a5b (fun c=>by cases c) fun _=>?_
 refine c6 (lW Tryz.isAgg25 Tryz.sizeOf25 rfl I2) ?_
 refine f0 (Fi:=[]) Tryz.call6 (b8u (hT.le l2) (hp.le l2) hsm (K:=fun c e H'=>e=loE q∧G1 H1 H' q c) fun c H' l g=>⟨rfl,g⟩) I2 ?_
 rintro _ H3 Fo w3 I3 l3 k3 ⟨g,e,rfl,rfl,rfl,hg⟩
 refine c5 (m0 _ _ _ rfl) ?_
 refine c5 (m0 _ _ _ rfl) ?_
 obtain ⟨F,hrow,hin,hnew⟩:=hg.e
 obtain ⟨hpr,hnd⟩:=d1W hrow
 obtain ⟨J3,lb⟩:=c6v I2 I3 l3 hin hnew hnd
 have lc:=l2.trans lb
 refine u4 J3 Tryz.zeroValue30 (cs:=z6 cz) rfl fun gd w4 I4 k4=>?_
 refine y6 I4 Tryz.sizeOf30 (vs:=z6 g) fun w5 I5 _=>?_
 refine c6 (lW Tryz.isAgg25 Tryz.sizeOf25 rfl (I5.bring 2)) ?_
 refine f0 (Fi:=[]) Tryz.call7 (c3u (hp.le lc) hcp (K:=fun c e H'=>e=loE q∧G2 H' q c) fun c H' l g=>⟨rfl,g⟩) I5 ?_
 rintro _ H6 Fo w6 I6 l6 k6 ⟨u,e,rfl,rfl,rfl,hu⟩
 refine c5 (m0 _ _ _ rfl) ?_
 refine c5 (m0 _ _ _ rfl) ?_
 refine u4 I6 Tryz.zeroValue30 (cs:=z6 cz) rfl fun gc w7 I7 k7=>?_
 refine y6 I7 Tryz.sizeOf30 (vs:=z6 u) fun w8 I8 _=>?_
 refine c5 (W2 _ _ _ _ _ _) ?_
 have ee:(!decide (loE q=loE q))=false:=by simp
 rw [ee]
 have IF:=(I8.bring 2).freeze
 have lf:Hle H3 (addF H6 F):=fun i o hi=>by
  by_cases c:F.any (fun p=>p.1 == i)=true
  ·obtain ⟨p',hp',e'⟩:=List.any_eq_true.1 c
   obtain rfl:p'.1=i:=by simpa using e'
   rw [hin p' hp'] at hi
   rw [IF.2.2 p' hp',← hi]
  ·refine IF.2.1 _ _ (l6 _ _ ?_)
   unfold subF
   rw [if_neg c];exact hi
 have Gg:=hg.at_ lf
 have Gu:=hu.le IF.2.1
 refine a5S (fun _=>c6 (lW Tryz.isAgg30 Tryz.sizeOf30 rfl (I8.bring 1)) ?_) (fun h=>absurd rfl h)
 refine a5S (fun _=>c6 (lW Tryz.isAgg30 Tryz.sizeOf30 rfl I8) ?_) (fun h=>absurd rfl h)
 refine a5S (fun _=>f0 (Fi:=[]) Tryz.call8 (b6B Gg.gh Gu.gh (Gg.t.trans Gu.t.symm) (Gg.p.trans Gu.p.symm) (Gg.x.trans Gu.x.symm) (K:=fun r H'=>r=true∧H'=addF H6 F) ⟨rfl,rfl⟩) IF.1 ?_) (fun h=>absurd rfl h)
 rintro _ H7 Fo w9 I9 l9 k9 ⟨_,rfl,rfl,rfl,rfl⟩
 obtain ⟨A,la⟩:=(I8.bring 2).again I9 (Hle.refl _)
 refine a5S (fun _=>c5 (T1 _) ?_) (fun h=>absurd rfl h)
 refine c5 (b2L _ _ _) ?_
 refine a5b (fun c=>by cases c) fun _=>?_
 refine o6 fun j1 hx1=>?_
 have ld:=lc.trans (l6.trans la)
 have bE:=(gB q).2.2.1
 have hn:=hrow.2.1
 refine L5 (J:=fun n l w'=>∃(i:Nat)(F':Frag),n=g.R3.n-i∧l=[vi (i:Int)]∧i≤g.R3.n∧Pr g.R3 F'∧Inv w0 ps0 H0 (subF (addF H6 F) F) [F',bx gc 30 (z6 u),bx gd 30 (z6 g),bx gb 25 (m5 p)] w')
  ⟨_,0,F,rfl,rfl,Nat.zero_le _,hpr,A⟩ ?_
 rintro n τ w10 next2 ⟨i,F',rfl,hl,hi,hP,I10⟩ hn2
 simp only [List.map_cons,List.map_nil,List.cons.injEq,and_true] at hl
 simp only [hl]
 unfold c6y
 refine c5 W8 ?_
 refine c6 (l1 Tryz.isAgg28 (I10.bring 2) rfl) ?_
 refine c5 (a9Z _ _ _) ?_
 refine c5 (u0 _ _ _ _ _ _) ?_
 refine a5a (fun c=>?_) (fun c=>?_)
 ·obtain hz | ⟨gr,cs,ha,rfl,hcs⟩:=hP
  ·omega
  refine c5 W8 ?_
  refine c6 (l1 Tryz.isAgg28 (I10.bring 2) rfl) ?_
  refine c5 (b3o ha _ _ _ _ (by omega) c) ?_
  refine c5 a8N ?_
  refine C4 I10 Tryz.sizeOf3 (fun w11 I11 _=>?_) (hb:=by rw [Int.toNat_natCast];omega)
  refine c5 (o8 _ _ _ _ _ _) ?_
  rw [q6 (by omega) (by omega)]
  exact hn2 _ _ _ (by omega) ⟨i+1,_,rfl,rfl,by omega,.inr ⟨gr,_,ha,rfl,by rw [List.length_set];exact hcs⟩,I11⟩
 ·exact hx1 _ _ (c9a (K:=K) hR (hT.le (l2.trans (lb.trans (l6.trans la)))) (hp.le ld) hsm (hu.le la) (fun H' l=>h H' (ld.trans l)) ((I10.bring 1).bring 3))
end
end Go.Proofs.YtaokfhdinhimfaaGreatDoor
