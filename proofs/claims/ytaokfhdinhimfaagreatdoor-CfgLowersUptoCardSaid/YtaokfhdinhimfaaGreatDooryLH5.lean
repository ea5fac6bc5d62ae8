/- The program's graph of a program: it is the plain one. By hand where maps are written. -/
import Derived.Test.YtaokfhdinhimfaaGreatDooryLH4
namespace Go.Proofs.YtaokfhdinhimfaaGreatDoor
open Go.RowKit
set_option maxRecDepth 100000
set_option maxHeartbeats 2000000
def mapU(xs:List ByteArray)(i:Nat):List (ByteArray×Int):=(List.range i).foldl (fun m j=>b0q (xs.getD j ⟨#[]⟩) (j:Int) m) []
theorem b4F(xs:List ByteArray)(i:Nat):mapU xs (i+1)=b0q (xs.getD i ⟨#[]⟩) (i:Int) (mapU xs i):=by
 unfold mapU;rw [List.range_succ,List.foldl_append];rfl
def idx(xs:List ByteArray)(s:ByteArray):Int:=(lk s (mapU xs xs.length)).getD 0
def vN(q:PP):List ByteArray:=(ofS q 1).map (·.f6)
def aN(q:PP):List ByteArray:=(ofS q 2).map (·.f6)
def exS(q:PP):Int:=if q.body=[] then 0 else 1
def enS(q:PP):En:=⟨(vN q).length,idx (vN q),idx (aN q),exS q⟩
def loS(q:PP):Gr:=blkG (q.body.map (loT (enS q))) 0 (exS q) ⟨1+exS q,0,[]⟩
def loE(q:PP):Int:=if (wellS q).2≠0 then (wellS q).2 else if (64:Int) < (enS q).nv+(loS q).t then 90 else if 4096 < (loS q).p∨(8192:Int) < (loS q).es.length then 91 else 0
theorem c5p{P:Program}{E:Pan}{w:World}{K:Value→World→Prop}{f:FuncId}{b args:List Value}(he:∀args w,(callFunc f args).run P w=.ok (.enter f args) w)(h:Cv P f (b++args).toArray w K E):opK P E (xCall (.func (.func f) b.toArray #[]) args) w K:=by
 refine a6c (f:=f) (args:=(b++args).toArray) ?_ h
 simp only [xCall,Deferred.ofValue,invoke,Sem.run_bind,Sem.run_pure,Result.andThen_ok,he,Array.append_empty,List.append_toArray]
abbrev rp(g:Nat):Value:=.pointer (some ⟨g,0,none⟩)
abbrev cz:m3:=⟨⟨none,0,0⟩,0,⟨none,0,0⟩,0,0,⟨none,0,0⟩⟩
def NewE(H H':Hp)(s:Sl)(es:List Ed):Prop:=∃F,RowL 40 10 i6 s es F∧(∀p∈F,H' p.1=some p.2)∧∀p∈F,H p.1=none
structure CfH (H H':Hp) (q:PP) (c:m3):Prop where
 v:SlH H' 1 v2 c.p7 (vN q)
 a:SlH H' 2 i5 c.o9 (ofS q 2)
 e:NewE H H' c.R3 (loS q).es
 t:c.q9=(loS q).t
 p:c.p5=(loS q).p
 x:c.u5=exS q
section
variable {H:Hp}{w0 w:World}{ps0:Nat→Prop}{H0 Hc:Hp}{R:Value→World→Prop}{E:Pan}{q:PP}{p:m6}{K:m3→Int→Hp→Prop}
theorem d2N(hq:cTs q.body≤4096):Bd (4*cTs q.body) ⟨1+exS q,0,[]⟩:=by
 have:0≤exS q∧exS q≤1:=by unfold exS;split<;>omega
 exact ⟨by dsimp only;omega,by dsimp only;omega,by simp;omega⟩
theorem c5q(hR:∀v H' Fo w',Inv w0 ps0 H0 H' Fo w'→(∃(r0:m3)(r1:Int),v=(Value.tuple #[(Value.agg (z6 r0).toArray),(vi r1)])∧Fo=[]∧K r0 r1 H')→R v w'){z:Lw}(hz:LwH Hc (enS q) z)(hp:PH Hc p q)(hl:Hle H Hc)
  (hwell:(wellS q).2=0) (hf:formTs q.body=true) (hq:cTs q.body≤4096) (hv:SlH Hc 1 v2 z.fc.p7 (vN q)) (ha:SlH Hc 2 i5 z.fc.o9 (ofS q 2)) (hvl:(vN q).length≤4096)
  (h1:loE q≠0→∀H',Hle Hc H'→K cz (loE q) H') (h2:loE q=0→∀c H',Hle Hc H'→CfH H H' q c→K c 0 H')
  {gk gc gb:Nat} {s0:Sl} {F0:Frag} (hr0:RowL 40 10 i6 s0 [] F0) (I:Inv w0 ps0 H0 Hc [bx gk 68 (r5 (lw z ⟨1+exS q,0,[]⟩) s0),F0,bx gc 30 (z6 cz),bx gb 25 (m5 p)] w):
  c2H (rp gb) (rp gc) (vs z.fc.p7) (rp gk) w R E:=by
 unfold c2H
 intro _
 refine c5 (a9T _ _ _) ?_
 refine Q9 I fun w1 I1=>?_
 refine g8 a1m ?_
 refine g8 (m2 _) ?_
 refine g8 T9 ?_
 refine g8 a5V ?_
 refine p6 (l1 Tryz.isAgg23 (I1.bring 3) rfl) ?_
 refine p6 (l1 Tryz.isAgg3 I1 rfl) ?_
 obtain ⟨xs,hs,hxb,hr⟩:=hp.b
 have hex:z.fc.u5=exS q:=hz.ex.symm
 have hlow:R6 (lw z ⟨1+exS q,0,[]⟩) [] p.a1l 0 z.fc.u5 Hc (fun y es H'=>y=lw z (loS q)∧es=(loS q).es∧H'=Hc):=by
  rw [hex]
  exact b4a hs hr.1 (fun i x t hx ht=>c8V hz (hr.2 i x t hx ht) (a5Z hf ht)) ⟨1+exS q,0,[]⟩ 0 (exS q) (d2N hq) (by omega) ⟨rfl,rfl,rfl⟩
 have hct:=hlow gk s0 F0 hr0
 clear hlow
 refine c5p (b:=[rp gk]) (args:=[vs p.a1l,vi 0,vi z.fc.u5]) (fun args w=>Tryz.call24 args w) ?_
 refine a5D (QE:=noQE) (args:=[rp gk,vs p.a1l,vi 0,vi z.fc.u5]) (Fr:=[bx gc 30 (z6 cz),bx gb 25 (m5 p)]) I1 hct ?_ (fun _ _ _ _ _ q=>q.elim)
 rintro _ H2 Fo w2 I2 l2 k2 ⟨y,es,se,Fe,rfl,rfl,hrow,rfl,rfl,rfl⟩
 have hn:=hv.1
 have hnv:(enS q).nv=(z.fc.p7.n:Int):=hz.nv
 have hgl:Gl (4*cTs q.body) ⟨1+exS q,0,[]⟩ (loS q):=b2b (b4C (enS q) q.body) 0 (exS q) _
 refine c5 (a4Z _ _ _) ?_
 refine c5 (m2 _) ?_
 refine c5 T9 ?_
 refine c5 a6u ?_
 refine c6 (l1 Tryz.isAgg3 I2 rfl) ?_
 refine c5 (o8 _ _ _ _ _ _) ?_
 refine c5 (Y1 _ _ _ _ _ _) ?_
 have htl:=b4D (c5k (enS q) q.body) 0 (exS q) ⟨1+exS q,0,[]⟩
 have ht0:0≤(loS q).t:=hgl.t
 have htb:(loS q).t≤4096:=by
  have:(loS q).t≤0∨(loS q).t≤(cTs q.body:Int):=htl
  omega
 have et:IntKind.wrap .i64 ((z.fc.p7.n:Int)+(lw z (loS q)).fc.q9)=(enS q).nv+(loS q).t:=by
  rw [hnv]
  exact N7 (a:=(z.fc.p7.n:Int)+(loS q).t) ⟨by omega,by omega⟩
 rw [et]
 refine a5a (fun c=>?_) (fun c=>?_)
 ·have e:loE q=90:=by unfold loE;rw [if_neg (by omega),if_pos c]
  refine c5 a8A ?_
  refine y6 (I2.bring 2) Tryz.sizeOf30 (vs:=z6 cz) fun w3 I3 _=>?_
  refine Q0 Tryz.isAgg30 Tryz.sizeOf30 rfl I3 ?_
  have:=h1 (by rw [e];decide) _ (Hle.refl _)
  rw [e] at this
  exact hR _ _ _ _ I3.drop.drop.drop.drop ⟨cz,90,rfl,rfl,this⟩
 refine c5 (m2 _) ?_
 refine c5 T9 ?_
 refine c5 a2b ?_
 refine c6 (l1 Tryz.isAgg3 I2 rfl) ?_
 refine c5 (Y1 _ _ _ _ _ _) ?_
 have bad:4096 < (loS q).p∨(8192:Int) < (loS q).es.length→∀w3,Inv w0 ps0 H0 H2 [bx gk 68 (r5 (lw z (loS q)) se),Fe,bx gc 30 (z6 cz),bx gb 25 (m5 p)] w3→
   opK Tryz.prog E (xV (Instr.build 30 #[])) w3 fun bh bi=>opK Tryz.prog E (xU (Instr.storeAt 30 (rp gc) bh)) bi fun _ j=>xcell Tryz.prog 30 (rp gc) j fun bj=>R (Value.tuple #[bj,Value.int IntKind.i64 91]) j:=fun hb w3 I3=>by
  have e:loE q=91:=by unfold loE;rw [if_neg (by omega),if_neg c,if_pos hb]
  refine c5 a8A ?_
  refine y6 (I3.bring 2) Tryz.sizeOf30 (vs:=z6 cz) fun w4 I4 _=>?_
  refine Q0 Tryz.isAgg30 Tryz.sizeOf30 rfl I4 ?_
  have:=h1 (by rw [e];decide) _ (Hle.refl _)
  rw [e] at this
  exact hR _ _ _ _ I4.drop.drop.drop.drop ⟨cz,91,rfl,rfl,this⟩
 by_cases c2:4096 < (loS q).p
 ·rw [show decide (4096 < (lw z (loS q)).fc.p5)=true from decide_eq_true c2]
  refine a5S (fun h=>nomatch h) fun _=>?_
  refine a5S (fun h=>nomatch h) fun _=>?_
  refine a5S (fun h=>nomatch h) fun _=>?_
  refine a5S (fun h=>nomatch h) fun _=>?_
  refine a5S (fun h=>nomatch h) fun _=>?_
  refine a5S (fun h=>nomatch h) fun _=>?_
  refine c5 (b2L true _ _) ?_
  exact a5b (fun _=>bad (.inl c2) _ I2) (fun h=>nomatch h)
 ·rw [show decide (4096 < (lw z (loS q)).fc.p5)=false from decide_eq_false c2]
  refine a5S (fun _=>c5 (m2 _) ?_) (fun h=>absurd rfl h)
  refine a5S (fun _=>c5 T9 ?_) (fun h=>absurd rfl h)
  refine a5S (fun _=>c5 W8 ?_) (fun h=>absurd rfl h)
  refine a5S (fun _=>c6 (l1 Tryz.isAgg28 I2 rfl) ?_) (fun h=>absurd rfl h)
  refine a5S (fun _=>c5 (a7B Tryz.underlying28 hrow) ?_) (fun h=>absurd rfl h)
  refine a5S (fun _=>c5 (Y1 _ _ _ _ _ _) ?_) (fun h=>absurd rfl h)
  refine c5 (b2L false _ _) ?_
  refine a5a (fun c3=>bad (.inr c3) _ I2) (fun c3=>?_)
  have e:loE q=0:=by unfold loE;rw [if_neg (by omega),if_neg c,if_neg (by omega)]
  refine c5 (m2 _) ?_
  refine c5 T9 ?_
  refine c6 (ldA (vs:=z6 ⟨z.fc.p7,(loS q).t,z.fc.o9,(loS q).p,z.fc.u5,se⟩) Tryz.isAgg30 Tryz.sizeOf30 rfl (I2.at1 (o:=0) (nb rfl) rfl)) ?_
  refine y6 (I2.bring 2) Tryz.sizeOf30 (vs:=z6 ⟨z.fc.p7,(loS q).t,z.fc.o9,(loS q).p,z.fc.u5,se⟩) fun w3 I3 _=>?_
  refine Q0 Tryz.isAgg30 Tryz.sizeOf30 rfl I3 ?_
  have I4:=((I3.drop.drop).bring 1).drop
  have hfz:=I4.freeze
  have hpr:∀x∈Fe,H x.1=none:=fun x hx=>by
   cases hH:H x.1 with
   | none=>rfl
   | some o=>
    have:=I4.priv x (by simpa using hx)
    rw [hl _ _ hH] at this;cases this
  exact hR _ _ _ _ hfz.1 ⟨⟨z.fc.p7,(loS q).t,z.fc.o9,(loS q).p,z.fc.u5,se⟩,0,rfl,rfl,h2 e _ _ hfz.2.1 ⟨hv.le hfz.2.1,ha.le hfz.2.1,⟨Fe,hrow,hfz.2.2,hpr⟩,rfl,rfl,hex⟩⟩
abbrev zx(sv sa:Sl)(gm gn:Nat)(x:Int):Lw:=⟨⟨sv,0,sa,1,x,⟨none,0,0⟩⟩,some gm,some gn⟩
theorem d1O(hR:∀v H' Fo w',Inv w0 ps0 H0 H' Fo w'→(∃(r0:m3)(r1:Int),v=(Value.tuple #[(Value.agg (z6 r0).toArray),(vi r1)])∧Fo=[]∧K r0 r1 H')→R v w'){sv sa:Sl}{gm gn:Nat}(hz:LwH Hc (enS q) (zx sv sa gm gn (exS q)))(hp:PH Hc p q)(hl:Hle H Hc)
  (hwell:(wellS q).2=0) (hf:formTs q.body=true) (hq:cTs q.body≤4096) (hv:SlH Hc 1 v2 sv (vN q)) (ha:SlH Hc 2 i5 sa (ofS q 2)) (hvl:(vN q).length≤4096)
  (h1:loE q≠0→∀H',Hle Hc H'→K cz (loE q) H') (h2:loE q=0→∀c H',Hle Hc H'→CfH H H' q c→K c 0 H')
  {gk gc gb:Nat} (I:Inv w0 ps0 H0 Hc [bx gk 68 (r5 (zx sv sa gm gn 0) ⟨none,0,0⟩),bx gc 30 (z6 cz),bx gb 25 (m5 p)] w):
  c2I (rp gb) (rp gc) (vs sv) (rp gk) w R E:=by
 unfold c2I
 intro _
 refine o6 fun j3 hx3=>?_
 obtain ⟨xs,hs,hxb,hr⟩:=hp.b
 have hn:=hs.1
 have hrl:=hr.1
 refine c5 a1m ?_
 refine c6 (l1 Tryz.isAgg23 (I.bring 2) rfl) ?_
 refine c5 (L3 _ _ _) ?_
 refine c5 (Y1 _ _ _ _ _ _) ?_
 refine a5a (fun c=>?_) (fun c=>?_)
 ·have hne:q.body≠[]:=fun e=>by rw [e] at hrl;simp at hrl;rw [hrl] at hn;simp at hn;omega
  have ex1:exS q=1:=by unfold exS;rw [if_neg hne]
  have hlow:E7 (lw (zx sv sa gm gn 0) ⟨1,0,[]⟩) [] Hc (fun r y es H'=>r=1∧y=lw (zx sv sa gm gn 0) ⟨2,0,[]⟩∧es=[]∧H'=Hc):=
   a7A (zx sv sa gm gn 0) ⟨1,0,[]⟩ (by decide) (by decide) ⟨rfl,rfl,rfl,rfl⟩
  refine f0 (Fr:=[bx gc 30 (z6 cz),bx gb 25 (m5 p)]) Tryz.call23 (hlow gk ⟨none,0,0⟩ [] (RowL.nil a6O a6P)) (I.nil.bring 1) ?_
  rintro _ H2 Fo w2 I2 l2 k2 ⟨r,y,es,se,Fe,rfl,rfl,hrow,rfl,rfl,rfl,rfl⟩
  refine c5 (m2 _) ?_
  refine c5 T9 ?_
  refine c5 a5V ?_
  refine C4 I2 Tryz.sizeOf3 fun w3 I3 _=>?_
  refine hx3 _ _ (c5q hR (z:=zx sv sa gm gn (exS q)) hz hp hl hwell hf hq hv ha hvl h1 h2 hrow ?_)
  rw [ex1]
  exact I3
 ·have hne:q.body=[]:=List.length_eq_zero_iff.1 (by omega)
  have ex1:exS q=0:=by unfold exS;rw [if_pos hne]
  refine hx3 _ _ (c5q hR (z:=zx sv sa gm gn (exS q)) hz hp hl hwell hf hq hv ha hvl h1 h2 (RowL.nil a6O a6P) ?_)
  rw [ex1]
  exact I.nil.bring 1
theorem d1P{sv sa:Sl}{gm gn:Nat}{x:Int}{H':Hp}(hn:sv.n=(vN q).length)(hb:(vN q).length≤4096)(hx:x=exS q)(hm:∃l,MapH H' kvS kvI (some gm) l∧l=mapU (vN q) (vN q).length)(hm2:∃l,MapH H' kvS kvI (some gn) l∧l=mapU (aN q) (aN q).length):LwH H' (enS q) (zx sv sa gm gn x):=by
 obtain ⟨l,h1,rfl⟩:=hm
 obtain ⟨l2,h2,rfl⟩:=hm2
 exact ⟨by show ((vN q).length:Int)=sv.n;rw [hn],by show sv.n≤1099511627776;omega,⟨_,h1,fun s=>rfl⟩,⟨_,h2,fun s=>rfl⟩,hx.symm⟩
theorem getD_map{α:Type}{f:α→ByteArray}{l:List α}{i:Nat}{x:α}(h:l[i]? = some x):(l.map f).getD i ⟨#[]⟩=f x:=by
 rw [List.getD_eq_getElem?_getD,List.getElem?_map,h];rfl
theorem d1Q(hR:∀v H' Fo w',Inv w0 ps0 H0 H' Fo w'→(∃(r0:m3)(r1:Int),v=(Value.tuple #[(Value.agg (z6 r0).toArray),(vi r1)])∧Fo=[]∧K r0 r1 H')→R v w'){sv sa:Sl}{gm gn:Nat}{en1:Array MapEntry}{cn1:Nat}(he1:MapEs kvS kvI en1 (mapU (vN q) (vN q).length))(hp:PH Hc p q)(hl:Hle H Hc)
  (hwell:(wellS q).2=0) (hf:formTs q.body=true) (hq:cTs q.body≤4096) (hv:SlH Hc 1 v2 sv (vN q)) (ha:SlH Hc 2 i5 sa (ofS q 2)) (hvl:(vN q).length≤4096) (hal:(ofS q 2).length≤4096)
  (h1:loE q≠0→∀H',Hle Hc H'→K cz (loE q) H') (h2:loE q=0→∀c H',Hle Hc H'→CfH H H' q c→K c 0 H')
  {gk gc gb:Nat} (I:Inv w0 ps0 H0 Hc [[(gn,.map #[] 0)],bx gk 68 (r5 (zx sv sa gm gn 0) ⟨none,0,0⟩),[(gm,.map en1 cn1)],bx gc 30 (z6 cz),bx gb 25 (m5 p)] w):
  c2J (rp gb) (rp gc) (vs sv) (vs sa) (rp gk) w R E:=by
 unfold c2J
 intro _
 refine o6 fun j2 hx2=>?_
 have n1:=ha.1
 refine c5 (a0V _ _ _) ?_
 refine L5 (J:=fun n l w'=>∃(i:Nat)(en:Array MapEntry)(cn:Nat),n=(ofS q 2).length-i∧l=[vi (i:Int)]∧i≤(ofS q 2).length∧Inv w0 ps0 H0 Hc [[(gn,.map en cn)],bx gk 68 (r5 (zx sv sa gm gn 0) ⟨none,0,0⟩),[(gm,.map en1 cn1)],bx gc 30 (z6 cz),bx gb 25 (m5 p)] w'∧MapEs kvS kvI en (mapU (aN q) i))
  ⟨_,0,_,_,rfl,rfl,Nat.zero_le _,I,MapEs.nil _ _⟩ ?_
 rintro n τ w5 next4 ⟨i,en,cn,rfl,hl5,hi,I5,hen⟩ hn4
 simp only [List.map_cons,List.map_nil,List.cons.injEq,and_true] at hl5
 simp only [hl5]
 unfold c6z
 refine c5 (u0 _ _ _ _ _ _) ?_
 refine a5a (fun c=>?_) (fun c=>?_)
 ·obtain ⟨x,hx,hE⟩:=ha.get (i:=(i:Int)) (by omega) (by omega)
  rw [Int.toNat_natCast] at hx
  obtain ⟨g,o,hga,hA⟩:=hE
  have hlt:=v1 hx
  refine c5 (U7 hga _ _ _ _ (by omega) (by omega)) ?_
  refine c6 (ldA (vs:=i5 x) Tryz.isAgg70 Tryz.sizeOf70 rfl (I5.atH hA)) ?_
  refine u4 I5 Tryz.zeroValue70 (cs:=[(Value.string ⟨#[]⟩),(vi 0)]) rfl fun g6 w6 I6 k6=>?_
  refine y6 I6 Tryz.sizeOf70 (vs:=i5 x) fun w7 I7 k7=>?_
  refine Q9 I7 fun w8 I8=>?_
  refine g8 (m2 _) ?_
  refine g8 b3r ?_
  refine g8 T8 ?_
  refine p6 (l1 Tryz.isAgg66 (I8.bring 2) rfl) ?_
  refine p6 (l1 Tryz.isAgg9 I8 rfl) ?_
  refine b1f (kv:=kvS) (vv:=kvI) (keyS Tryz.underlying9) Tryz.underlying66 (I8.bring 1) hen x.f6 (i:Int) fun es9 c9 w9 he9 I9 k9=>?_
  refine c5 (o8 _ _ _ _ _ _) ?_
  rw [q6 (by omega) (by omega)]
  have I10:=(I9.bring 1).drop
  refine hn4 _ _ _ (by omega) ⟨i+1,es9,c9,rfl,rfl,by omega,I10,?_⟩
  rw [b4F,show (aN q).getD i ⟨#[]⟩=x.f6 from getD_map hx]
  exact he9
 ·obtain rfl:i=(ofS q 2).length:=by omega
  have f1:=I5.freeze
  have f2:=(f1.1.bring 1).freeze
  have l1:Hle Hc _:=f1.2.1.trans f2.2.1
  have hal2:(aN q).length=(ofS q 2).length:=by unfold aN;rw [List.length_map]
  have hm:MapH (addF (addF Hc [(gn,.map en cn)]) [(gm,.map en1 cn1)]) kvS kvI (some gm) (mapU (vN q) (vN q).length):=⟨gm,en1,cn1,rfl,f2.2.2 _ (List.mem_singleton_self _),he1⟩
  have hm2:MapH (addF (addF Hc [(gn,.map en cn)]) [(gm,.map en1 cn1)]) kvS kvI (some gn) (mapU (aN q) (aN q).length):=⟨gn,en,cn,rfl,f2.2.1 _ _ (f1.2.2 _ (List.mem_singleton_self _)),by rw [hal2];exact hen⟩
  refine hx2 _ _ (d1O hR (d1P (by rw [hv.1]) hvl rfl ⟨_,hm,rfl⟩ ⟨_,hm2,rfl⟩) (hp.le l1) (hl.trans l1) hwell hf hq (hv.le l1) (ha.le l1) hvl (fun e H' l=>h1 e H' (l1.trans l)) (fun e c' H' l=>h2 e c' H' (l1.trans l)) f2.1)
theorem b5m{q:PP}(h:(wellS q).2=0):formTs q.body=true∧cTs q.body≤4096∧(ofS q 1).length≤4096∧(ofS q 2).length≤4096:=by
 have h1:=((b5N q).1 h).1
 have h2:=(c0C _).1 h1
 have hn:cTs (q.decls.map dT)+cTs q.body=cTs q.nodes:=by unfold PP.nodes;rw [a6q]
 have h3:formTs (q.decls.map dT++q.body)=true:=h2.2.2.1
 rw [U5,Bool.and_eq_true] at h3
 have h4:=a7P (q.decls.map dT)
 rw [List.length_map] at h4
 have:=c0G q 1;have:=c0G q 2
 exact ⟨h3.2,by omega,by omega,by omega⟩
theorem c0M(hT:TabsH H)(hp:PH H p q)(hsm:q.Sm)(h1:loE q≠0→∀H',Hle H H'→K cz (loE q) H')(h2:loE q=0→∀c H',Hle H H'→CfH H H' q c→K c 0 H'):a7p p H K:=by
 refine Ct.of fun w0 w ps0 H0 R E I hR=>d2h ?_
 unfold F6
 refine A9 I (cs:=m5 p) rfl fun gb w1 I1 k1=>?_
 refine u4 I1 Tryz.zeroValue30 (cs:=z6 cz) rfl fun gc w2 I2 k2=>?_
 refine c6 (lW Tryz.isAgg25 Tryz.sizeOf25 rfl (I2.bring 1)) ?_
 refine f0 (Fi:=[]) Tryz.call21 (c8Q hT hp hsm (K:=fun s e H'=>Hle H H'∧SlH H' 1 v2 s (vN q)∧e=(wellS q).2) fun s H' l hs=>⟨l,hs,rfl⟩) I2 ?_
 rintro _ H3 Fo w3 I3 l3 k3 ⟨sv,e,rfl,rfl,l3',hsv,rfl⟩
 refine c5 (m0 _ _ _ rfl) ?_
 refine c5 (m0 _ _ _ rfl) ?_
 refine c5 (W2 _ _ _ _ _ _) ?_
 refine b4J (fun c=>?_) (fun c=>?_)
 ·have e:loE q=(wellS q).2:=by unfold loE;rw [if_pos c]
  refine c5 a8A ?_
  refine y6 I3 Tryz.sizeOf30 (vs:=z6 cz) fun w4 I4 _=>?_
  refine Q0 Tryz.isAgg30 Tryz.sizeOf30 rfl I4 ?_
  have:=h1 (by rw [e];exact c) H3 l3
  rw [e] at this
  exact hR _ _ _ _ I4.drop.drop ⟨cz,_,rfl,rfl,this⟩
 obtain ⟨hf,hq,hvl,hal⟩:=b5m c
 have hvl':(vN q).length≤4096:=by unfold vN;rw [List.length_map];exact hvl
 refine c6 (lW Tryz.isAgg25 Tryz.sizeOf25 rfl (I3.bring 1)) ?_
 refine f0 (Fi:=[]) Tryz.call22 (c5j (hT.le l3) (hp.le l3) hsm (K:=fun s e H'=>SlH H' 2 i5 s (ofS q 2)) fun s H' l hs=>hs) I3 ?_
 rintro _ H4 Fo w4 I4 l4 k4 ⟨sa,e,rfl,rfl,hsa⟩
 refine c5 (m0 _ _ _ rfl) ?_
 refine c5 (m0 _ _ _ rfl) ?_
 refine c5 (b5Z _ _ _ _ _ _ _) ?_
 refine b4L I4 fun gm w5 I5 k5=>?_
 refine b4L I5 fun gn w6 I6 k6=>?_
 refine c5 (v:=Value.agg (r5 (zx sv sa gm gn 0) ⟨none,0,0⟩).toArray) (Pu.ok fun w=>by kernel_rfl) ?_
 refine A9 I6 (cs:=r5 (zx sv sa gm gn 0) ⟨none,0,0⟩) rfl fun gk w7 I7 k7=>?_
 refine o6 fun j1 hx1=>?_
 have hv4:=hsv.le l4
 have n1:=hv4.1
 refine c5 (a4Z _ _ _) ?_
 refine L5 (J:=fun n l w'=>∃(i:Nat)(en:Array MapEntry)(cn:Nat),n=(vN q).length-i∧l=[vi (i:Int)]∧i≤(vN q).length∧Inv w0 ps0 H0 H4 [bx gk 68 (r5 (zx sv sa gm gn 0) ⟨none,0,0⟩),[(gn,.map #[] 0)],[(gm,.map en cn)],bx gc 30 (z6 cz),bx gb 25 (m5 p)] w'∧MapEs kvS kvI en (mapU (vN q) i))
  ⟨_,0,_,_,rfl,rfl,Nat.zero_le _,I7,MapEs.nil _ _⟩ ?_
 rintro n τ w8 next5 ⟨i,en,cn,rfl,hl8,hi,I8,hen⟩ hn5
 simp only [List.map_cons,List.map_nil,List.cons.injEq,and_true] at hl8
 simp only [hl8]
 unfold c6A
 refine c5 (u0 _ _ _ _ _ _) ?_
 refine a5a (fun c9=>?_) (fun c9=>?_)
 ·obtain ⟨x,hx,hE⟩:=hv4.get (i:=(i:Int)) (by omega) (by omega)
  rw [Int.toNat_natCast] at hx
  obtain ⟨g,o,hga,hA⟩:=hE
  have hlt:=v1 hx
  refine c5 (b1n hga _ _ _ _ (by omega) (by omega)) ?_
  refine c6 (ld1 Tryz.isAgg9 (I8.atH hA)) ?_
  refine c5 (m2 _) ?_
  refine c5 b3q ?_
  refine c6 (l1 Tryz.isAgg66 I8 rfl) ?_
  refine b1f (kv:=kvS) (vv:=kvI) (keyS Tryz.underlying9) Tryz.underlying66 (I8.bring 2) hen x (i:Int) fun es9 c9 w9 he9 I9 k9=>?_
  refine c5 (o8 _ _ _ _ _ _) ?_
  rw [q6 (by omega) (by omega)]
  refine hn5 _ _ _ (by omega) ⟨i+1,es9,c9,rfl,rfl,by omega,(I9.bring 2).bring 2,?_⟩
  rw [b4F,show (vN q).getD i ⟨#[]⟩=x by rw [List.getD_eq_getElem?_getD,hx];rfl]
  exact he9
 ·obtain rfl:i=(vN q).length:=by omega
  exact hx1 _ _ (d1Q hR hen (hp.le (l3.trans l4)) (l3.trans l4) c hf hq hv4 hsa hvl' hal (fun e H' l=>h1 e H' ((l3.trans l4).trans l)) (fun e c' H' l=>h2 e c' H' ((l3.trans l4).trans l)) (I8.bring 1))
end
end Go.Proofs.YtaokfhdinhimfaaGreatDoor
