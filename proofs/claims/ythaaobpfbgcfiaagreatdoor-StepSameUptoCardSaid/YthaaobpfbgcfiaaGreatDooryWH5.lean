/- The program's graph of a program: it is the plain one. By hand where maps are written. -/
import Derived.Test.YthaaobpfbgcfiaaGreatDooryWH4
namespace Go.Proofs.YthaaobpfbgcfiaaGreatDoor
open Go.RowKit
set_option maxRecDepth 100000
set_option maxHeartbeats 2000000
def mapU(xs:List ByteArray)(i:Nat):List (ByteArray×Int):=(List.range i).foldl (fun m j=>T7 (xs.getD j ⟨#[]⟩) (j:Int) m) []
theorem b3Z(xs:List ByteArray)(i:Nat):mapU xs (i+1)=T7 (xs.getD i ⟨#[]⟩) (i:Int) (mapU xs i):=by
 unfold mapU;rw [List.range_succ,List.foldl_append];rfl
def idx(xs:List ByteArray)(s:ByteArray):Int:=(lk s (mapU xs xs.length)).getD 0
def vN(q:PP):List ByteArray:=(ofS q 1).map (·.f8)
def aN(q:PP):List ByteArray:=(ofS q 2).map (·.f8)
def exS(q:PP):Int:=if q.body=[] then 0 else 1
def enS(q:PP):En:=⟨(vN q).length,idx (vN q),idx (aN q),exS q⟩
def loS(q:PP):Gr:=blkG (q.body.map (loT (enS q))) 0 (exS q) ⟨1+exS q,0,[]⟩
def loE(q:PP):Int:=if (wellS q).2≠0 then (wellS q).2 else if (64:Int) < (enS q).nv+(loS q).t then 90 else if 4096 < (loS q).p∨(8192:Int) < (loS q).es.length then 91 else 0
theorem c4e{P:Program}{E:Pan}{w:World}{K:Value→World→Prop}{f:FuncId}{b args:List Value}(he:∀args w,(callFunc f args).run P w=.ok (.enter f args) w)(h:Cv P f (b++args).toArray w K E):opK P E (xCall (.func (.func f) b.toArray #[]) args) w K:=by
 refine a2O (f:=f) (args:=(b++args).toArray) ?_ h
 simp only [xCall,Deferred.ofValue,invoke,Sem.run_bind,Sem.run_pure,Result.andThen_ok,he,Array.append_empty,List.append_toArray]
abbrev rp(g:Nat):Value:=.pointer (some ⟨g,0,none⟩)
abbrev cz:l9:=⟨⟨none,0,0⟩,0,⟨none,0,0⟩,0,0,⟨none,0,0⟩⟩
def NewE(H H':Hp)(s:Sl)(es:List Ed):Prop:=∃F,RowL 49 10 d7 s es F∧(∀p∈F,H' p.1=some p.2)∧∀p∈F,H p.1=none
structure CfH (H H':Hp) (q:PP) (c:l9):Prop where
 v:SlH H' 1 C8 c.o9 (vN q)
 a:SlH H' 2 m3 c.m8 (ofS q 2)
 e:NewE H H' c.B5 (loS q).es
 t:c.t8=(loS q).t
 p:c.o7=(loS q).p
 x:c.B6=exS q
section
variable {H:Hp}{w0 w:World}{ps0:Nat→Prop}{H0 Hc:Hp}{R:Value→World→Prop}{E:Pan}{q:PP}{p:z8}{K:l9→Int→Hp→Prop}
theorem d3p(hq:cTs q.body≤4096):Bd (4*cTs q.body) ⟨1+exS q,0,[]⟩:=by
 have:0≤exS q∧exS q≤1:=by unfold exS;split<;>omega
 exact ⟨by dsimp only;omega,by dsimp only;omega,by simp;omega⟩
theorem c4f(hR:∀v H' Fo w',Inv w0 ps0 H0 H' Fo w'→(∃(r0:l9)(r1:Int),v=(Value.tuple #[(Value.agg (s7 r0).toArray),(vi r1)])∧Fo=[]∧K r0 r1 H')→R v w'){z:Lw}(hz:LwH Hc (enS q) z)(hp:PH Hc p q)(hl:Hle H Hc)
  (hwell:(wellS q).2=0) (hf:formTs q.body=true) (hq:cTs q.body≤4096) (hv:SlH Hc 1 C8 z.fc.o9 (vN q)) (ha:SlH Hc 2 m3 z.fc.m8 (ofS q 2)) (hvl:(vN q).length≤4096)
  (h1:loE q≠0→∀H',Hle Hc H'→K cz (loE q) H') (h2:loE q=0→∀c H',Hle Hc H'→CfH H H' q c→K c 0 H')
  {gk gc gb:Nat} {s0:Sl} {F0:Frag} (hr0:RowL 49 10 d7 s0 [] F0) (I:Inv w0 ps0 H0 Hc [bx gk 70 (t6 (lw z ⟨1+exS q,0,[]⟩) s0),F0,bx gc 39 (s7 cz),bx gb 25 (v7 p)] w):
  c1z (rp gb) (rp gc) (vs z.fc.o9) (rp gk) w R E:=by
 unfold c1z
 intro _
 refine b6 (a6z _ _ _) ?_
 refine C6 I fun w1 I1=>?_
 refine d6 a7n ?_
 refine d6 (m7 _) ?_
 refine d6 O7 ?_
 refine d6 a5P ?_
 refine i8 (l1 Tryz.isAgg23 (I1.bring 3) rfl) ?_
 refine i8 (l1 Tryz.isAgg3 I1 rfl) ?_
 obtain ⟨xs,hs,hxb,hr⟩:=hp.b
 have hex:z.fc.B6=exS q:=hz.ex.symm
 have hlow:O0 (lw z ⟨1+exS q,0,[]⟩) [] p.a5J 0 z.fc.B6 Hc (fun y es H'=>y=lw z (loS q)∧es=(loS q).es∧H'=Hc):=by
  rw [hex]
  exact b3e hs hr.1 (fun i x t hx ht=>c8H hz (hr.2 i x t hx ht) (b3Y hf ht)) ⟨1+exS q,0,[]⟩ 0 (exS q) (d3p hq) (by omega) ⟨rfl,rfl,rfl⟩
 have hct:=hlow gk s0 F0 hr0
 clear hlow
 refine c4e (b:=[rp gk]) (args:=[vs p.a5J,vi 0,vi z.fc.B6]) (fun args w=>Tryz.call15 args w) ?_
 refine O2 (QE:=noQE) (args:=[rp gk,vs p.a5J,vi 0,vi z.fc.B6]) (Fr:=[bx gc 39 (s7 cz),bx gb 25 (v7 p)]) I1 hct ?_ (fun _ _ _ _ _ q=>q.elim)
 rintro _ H2 Fo w2 I2 l2 k2 ⟨y,es,se,Fe,rfl,rfl,hrow,rfl,rfl,rfl⟩
 have hn:=hv.1
 have hnv:(enS q).nv=(z.fc.o9.n:Int):=hz.nv
 have hgl:Gl (4*cTs q.body) ⟨1+exS q,0,[]⟩ (loS q):=a8S (b1V (enS q) q.body) 0 (exS q) _
 refine b6 (a2G _ _ _) ?_
 refine b6 (m7 _) ?_
 refine b6 O7 ?_
 refine b6 a2F ?_
 refine d4 (l1 Tryz.isAgg3 I2 rfl) ?_
 refine b6 (B0 _ _ _ _ _ _) ?_
 refine b6 (O1 _ _ _ _ _ _) ?_
 have htl:=b6r (d1W (enS q) q.body) 0 (exS q) ⟨1+exS q,0,[]⟩
 have ht0:0≤(loS q).t:=hgl.t
 have htb:(loS q).t≤4096:=by
  have:(loS q).t≤0∨(loS q).t≤(cTs q.body:Int):=htl
  omega
 have et:IntKind.wrap .i64 ((z.fc.o9.n:Int)+(lw z (loS q)).fc.t8)=(enS q).nv+(loS q).t:=by
  rw [hnv]
  exact Y2 (a:=(z.fc.o9.n:Int)+(loS q).t) ⟨by omega,by omega⟩
 rw [et]
 refine D7 (fun c=>?_) (fun c=>?_)
 ·have e:loE q=90:=by unfold loE;rw [if_neg (by omega),if_pos c]
  refine b6 b3B ?_
  refine A5 (I2.bring 2) Tryz.sizeOf39 (vs:=s7 cz) fun w3 I3 _=>?_
  refine Q4 Tryz.isAgg39 Tryz.sizeOf39 rfl I3 ?_
  have:=h1 (by rw [e];decide) _ (Hle.refl _)
  rw [e] at this
  exact hR _ _ _ _ I3.drop.drop.drop.drop ⟨cz,90,rfl,rfl,this⟩
 refine b6 (m7 _) ?_
 refine b6 O7 ?_
 refine b6 a0Z ?_
 refine d4 (l1 Tryz.isAgg3 I2 rfl) ?_
 refine b6 (O1 _ _ _ _ _ _) ?_
 have bad:4096 < (loS q).p∨(8192:Int) < (loS q).es.length→∀w3,Inv w0 ps0 H0 H2 [bx gk 70 (t6 (lw z (loS q)) se),Fe,bx gc 39 (s7 cz),bx gb 25 (v7 p)] w3→
   opK Tryz.prog E (xV (Instr.build 39 #[])) w3 fun bh bi=>opK Tryz.prog E (xU (Instr.storeAt 39 (rp gc) bh)) bi fun _ j=>xcell Tryz.prog 39 (rp gc) j fun bj=>R (Value.tuple #[bj,Value.int IntKind.i64 91]) j:=fun hb w3 I3=>by
  have e:loE q=91:=by unfold loE;rw [if_neg (by omega),if_neg c,if_pos hb]
  refine b6 b3B ?_
  refine A5 (I3.bring 2) Tryz.sizeOf39 (vs:=s7 cz) fun w4 I4 _=>?_
  refine Q4 Tryz.isAgg39 Tryz.sizeOf39 rfl I4 ?_
  have:=h1 (by rw [e];decide) _ (Hle.refl _)
  rw [e] at this
  exact hR _ _ _ _ I4.drop.drop.drop.drop ⟨cz,91,rfl,rfl,this⟩
 by_cases c2:4096 < (loS q).p
 ·rw [show decide (4096 < (lw z (loS q)).fc.o7)=true from decide_eq_true c2]
  refine a5I (fun h=>nomatch h) fun _=>?_
  refine a5I (fun h=>nomatch h) fun _=>?_
  refine a5I (fun h=>nomatch h) fun _=>?_
  refine a5I (fun h=>nomatch h) fun _=>?_
  refine a5I (fun h=>nomatch h) fun _=>?_
  refine a5I (fun h=>nomatch h) fun _=>?_
  refine b6 (a6X true _ _) ?_
  exact N9 (fun _=>bad (.inl c2) _ I2) (fun h=>nomatch h)
 ·rw [show decide (4096 < (lw z (loS q)).fc.o7)=false from decide_eq_false c2]
  refine a5I (fun _=>b6 (m7 _) ?_) (fun h=>absurd rfl h)
  refine a5I (fun _=>b6 O7 ?_) (fun h=>absurd rfl h)
  refine a5I (fun _=>b6 a1I ?_) (fun h=>absurd rfl h)
  refine a5I (fun _=>d4 (l1 Tryz.isAgg37 I2 rfl) ?_) (fun h=>absurd rfl h)
  refine a5I (fun _=>b6 (a3S Tryz.underlying37 hrow) ?_) (fun h=>absurd rfl h)
  refine a5I (fun _=>b6 (O1 _ _ _ _ _ _) ?_) (fun h=>absurd rfl h)
  refine b6 (a6X false _ _) ?_
  refine D7 (fun c3=>bad (.inr c3) _ I2) (fun c3=>?_)
  have e:loE q=0:=by unfold loE;rw [if_neg (by omega),if_neg c,if_neg (by omega)]
  refine b6 (m7 _) ?_
  refine b6 O7 ?_
  refine d4 (ldA (vs:=s7 ⟨z.fc.o9,(loS q).t,z.fc.m8,(loS q).p,z.fc.B6,se⟩) Tryz.isAgg39 Tryz.sizeOf39 rfl (I2.at1 (o:=0) (nb rfl) rfl)) ?_
  refine A5 (I2.bring 2) Tryz.sizeOf39 (vs:=s7 ⟨z.fc.o9,(loS q).t,z.fc.m8,(loS q).p,z.fc.B6,se⟩) fun w3 I3 _=>?_
  refine Q4 Tryz.isAgg39 Tryz.sizeOf39 rfl I3 ?_
  have I4:=((I3.drop.drop).bring 1).drop
  have hfz:=I4.freeze
  have hpr:∀x∈Fe,H x.1=none:=fun x hx=>by
   cases hH:H x.1 with
   | none=>rfl
   | some o=>
    have:=I4.priv x (by simpa using hx)
    rw [hl _ _ hH] at this;cases this
  exact hR _ _ _ _ hfz.1 ⟨⟨z.fc.o9,(loS q).t,z.fc.m8,(loS q).p,z.fc.B6,se⟩,0,rfl,rfl,h2 e _ _ hfz.2.1 ⟨hv.le hfz.2.1,ha.le hfz.2.1,⟨Fe,hrow,hfz.2.2,hpr⟩,rfl,rfl,hex⟩⟩
abbrev zx(sv sa:Sl)(gm gn:Nat)(x:Int):Lw:=⟨⟨sv,0,sa,1,x,⟨none,0,0⟩⟩,some gm,some gn⟩
theorem d1Z(hR:∀v H' Fo w',Inv w0 ps0 H0 H' Fo w'→(∃(r0:l9)(r1:Int),v=(Value.tuple #[(Value.agg (s7 r0).toArray),(vi r1)])∧Fo=[]∧K r0 r1 H')→R v w'){sv sa:Sl}{gm gn:Nat}(hz:LwH Hc (enS q) (zx sv sa gm gn (exS q)))(hp:PH Hc p q)(hl:Hle H Hc)
  (hwell:(wellS q).2=0) (hf:formTs q.body=true) (hq:cTs q.body≤4096) (hv:SlH Hc 1 C8 sv (vN q)) (ha:SlH Hc 2 m3 sa (ofS q 2)) (hvl:(vN q).length≤4096)
  (h1:loE q≠0→∀H',Hle Hc H'→K cz (loE q) H') (h2:loE q=0→∀c H',Hle Hc H'→CfH H H' q c→K c 0 H')
  {gk gc gb:Nat} (I:Inv w0 ps0 H0 Hc [bx gk 70 (t6 (zx sv sa gm gn 0) ⟨none,0,0⟩),bx gc 39 (s7 cz),bx gb 25 (v7 p)] w):
  c1A (rp gb) (rp gc) (vs sv) (rp gk) w R E:=by
 unfold c1A
 intro _
 refine v6 fun j3 hx3=>?_
 obtain ⟨xs,hs,hxb,hr⟩:=hp.b
 have hn:=hs.1
 have hrl:=hr.1
 refine b6 a7n ?_
 refine d4 (l1 Tryz.isAgg23 (I.bring 2) rfl) ?_
 refine b6 (a1i _ _ _) ?_
 refine b6 (O1 _ _ _ _ _ _) ?_
 refine D7 (fun c=>?_) (fun c=>?_)
 ·have hne:q.body≠[]:=fun e=>by rw [e] at hrl;simp at hrl;rw [hrl] at hn;simp at hn;omega
  have ex1:exS q=1:=by unfold exS;rw [if_neg hne]
  have hlow:D4 (lw (zx sv sa gm gn 0) ⟨1,0,[]⟩) [] Hc (fun r y es H'=>r=1∧y=lw (zx sv sa gm gn 0) ⟨2,0,[]⟩∧es=[]∧H'=Hc):=
   a5F (zx sv sa gm gn 0) ⟨1,0,[]⟩ (by decide) (by decide) ⟨rfl,rfl,rfl,rfl⟩
  refine f9 (Fr:=[bx gc 39 (s7 cz),bx gb 25 (v7 p)]) Tryz.call14 (hlow gk ⟨none,0,0⟩ [] (RowL.nil a2A a2B)) (I.nil.bring 1) ?_
  rintro _ H2 Fo w2 I2 l2 k2 ⟨r,y,es,se,Fe,rfl,rfl,hrow,rfl,rfl,rfl,rfl⟩
  refine b6 (m7 _) ?_
  refine b6 O7 ?_
  refine b6 a5P ?_
  refine K2 I2 Tryz.sizeOf3 fun w3 I3 _=>?_
  refine hx3 _ _ (c4f hR (z:=zx sv sa gm gn (exS q)) hz hp hl hwell hf hq hv ha hvl h1 h2 hrow ?_)
  rw [ex1]
  exact I3
 ·have hne:q.body=[]:=List.length_eq_zero_iff.1 (by omega)
  have ex1:exS q=0:=by unfold exS;rw [if_pos hne]
  refine hx3 _ _ (c4f hR (z:=zx sv sa gm gn (exS q)) hz hp hl hwell hf hq hv ha hvl h1 h2 (RowL.nil a2A a2B) ?_)
  rw [ex1]
  exact I.nil.bring 1
theorem d2a{sv sa:Sl}{gm gn:Nat}{x:Int}{H':Hp}(hn:sv.n=(vN q).length)(hb:(vN q).length≤4096)(hx:x=exS q)(hm:∃l,MapH H' kvS kvI (some gm) l∧l=mapU (vN q) (vN q).length)(hm2:∃l,MapH H' kvS kvI (some gn) l∧l=mapU (aN q) (aN q).length):LwH H' (enS q) (zx sv sa gm gn x):=by
 obtain ⟨l,h1,rfl⟩:=hm
 obtain ⟨l2,h2,rfl⟩:=hm2
 exact ⟨by show ((vN q).length:Int)=sv.n;rw [hn],by show sv.n≤1099511627776;omega,⟨_,h1,fun s=>rfl⟩,⟨_,h2,fun s=>rfl⟩,hx.symm⟩
theorem getD_map{α:Type}{f:α→ByteArray}{l:List α}{i:Nat}{x:α}(h:l[i]? = some x):(l.map f).getD i ⟨#[]⟩=f x:=by
 rw [List.getD_eq_getElem?_getD,List.getElem?_map,h];rfl
theorem d2b(hR:∀v H' Fo w',Inv w0 ps0 H0 H' Fo w'→(∃(r0:l9)(r1:Int),v=(Value.tuple #[(Value.agg (s7 r0).toArray),(vi r1)])∧Fo=[]∧K r0 r1 H')→R v w'){sv sa:Sl}{gm gn:Nat}{en1:Array MapEntry}{cn1:Nat}(he1:MapEs kvS kvI en1 (mapU (vN q) (vN q).length))(hp:PH Hc p q)(hl:Hle H Hc)
  (hwell:(wellS q).2=0) (hf:formTs q.body=true) (hq:cTs q.body≤4096) (hv:SlH Hc 1 C8 sv (vN q)) (ha:SlH Hc 2 m3 sa (ofS q 2)) (hvl:(vN q).length≤4096) (hal:(ofS q 2).length≤4096)
  (h1:loE q≠0→∀H',Hle Hc H'→K cz (loE q) H') (h2:loE q=0→∀c H',Hle Hc H'→CfH H H' q c→K c 0 H')
  {gk gc gb:Nat} (I:Inv w0 ps0 H0 Hc [[(gn,.map #[] 0)],bx gk 70 (t6 (zx sv sa gm gn 0) ⟨none,0,0⟩),[(gm,.map en1 cn1)],bx gc 39 (s7 cz),bx gb 25 (v7 p)] w):
  c1B (rp gb) (rp gc) (vs sv) (vs sa) (rp gk) w R E:=by
 unfold c1B
 intro _
 refine v6 fun j2 hx2=>?_
 have n1:=ha.1
 refine b6 (a1U _ _ _) ?_
 refine K7 (J:=fun n l w'=>∃(i:Nat)(en:Array MapEntry)(cn:Nat),n=(ofS q 2).length-i∧l=[vi (i:Int)]∧i≤(ofS q 2).length∧Inv w0 ps0 H0 Hc [[(gn,.map en cn)],bx gk 70 (t6 (zx sv sa gm gn 0) ⟨none,0,0⟩),[(gm,.map en1 cn1)],bx gc 39 (s7 cz),bx gb 25 (v7 p)] w'∧MapEs kvS kvI en (mapU (aN q) i))
  ⟨_,0,_,_,rfl,rfl,Nat.zero_le _,I,MapEs.nil _ _⟩ ?_
 rintro n τ w5 next4 ⟨i,en,cn,rfl,hl5,hi,I5,hen⟩ hn4
 simp only [List.map_cons,List.map_nil,List.cons.injEq,and_true] at hl5
 simp only [hl5]
 unfold c6i
 refine b6 (A4 _ _ _ _ _ _) ?_
 refine D7 (fun c=>?_) (fun c=>?_)
 ·obtain ⟨x,hx,hE⟩:=ha.get (i:=(i:Int)) (by omega) (by omega)
  rw [Int.toNat_natCast] at hx
  obtain ⟨g,o,hga,hA⟩:=hE
  have hlt:=C3 hx
  refine b6 (a2g hga _ _ _ _ (by omega) (by omega)) ?_
  refine d4 (ldA (vs:=m3 x) Tryz.isAgg58 Tryz.sizeOf58 rfl (I5.atH hA)) ?_
  refine s6 I5 Tryz.zeroValue58 (cs:=[(Value.string ⟨#[]⟩),(vi 0)]) rfl fun g6 w6 I6 k6=>?_
  refine A5 I6 Tryz.sizeOf58 (vs:=m3 x) fun w7 I7 k7=>?_
  refine C6 I7 fun w8 I8=>?_
  refine d6 (m7 _) ?_
  refine d6 b2t ?_
  refine d6 W4 ?_
  refine i8 (l1 Tryz.isAgg68 (I8.bring 2) rfl) ?_
  refine i8 (l1 Tryz.isAgg9 I8 rfl) ?_
  refine a6Z (kv:=kvS) (vv:=kvI) (keyS Tryz.underlying9) Tryz.underlying68 (I8.bring 1) hen x.f8 (i:Int) fun es9 c9 w9 he9 I9 k9=>?_
  refine b6 (B0 _ _ _ _ _ _) ?_
  rw [D6 (by omega) (by omega)]
  have I10:=(I9.bring 1).drop
  refine hn4 _ _ _ (by omega) ⟨i+1,es9,c9,rfl,rfl,by omega,I10,?_⟩
  rw [b3Z,show (aN q).getD i ⟨#[]⟩=x.f8 from getD_map hx]
  exact he9
 ·obtain rfl:i=(ofS q 2).length:=by omega
  have f1:=I5.freeze
  have f2:=(f1.1.bring 1).freeze
  have l1:Hle Hc _:=f1.2.1.trans f2.2.1
  have hal2:(aN q).length=(ofS q 2).length:=by unfold aN;rw [List.length_map]
  have hm:MapH (addF (addF Hc [(gn,.map en cn)]) [(gm,.map en1 cn1)]) kvS kvI (some gm) (mapU (vN q) (vN q).length):=⟨gm,en1,cn1,rfl,f2.2.2 _ (List.mem_singleton_self _),he1⟩
  have hm2:MapH (addF (addF Hc [(gn,.map en cn)]) [(gm,.map en1 cn1)]) kvS kvI (some gn) (mapU (aN q) (aN q).length):=⟨gn,en,cn,rfl,f2.2.1 _ _ (f1.2.2 _ (List.mem_singleton_self _)),by rw [hal2];exact hen⟩
  refine hx2 _ _ (d1Z hR (d2a (by rw [hv.1]) hvl rfl ⟨_,hm,rfl⟩ ⟨_,hm2,rfl⟩) (hp.le l1) (hl.trans l1) hwell hf hq (hv.le l1) (ha.le l1) hvl (fun e H' l=>h1 e H' (l1.trans l)) (fun e c' H' l=>h2 e c' H' (l1.trans l)) f2.1)
theorem c0U{q:PP}(h:(wellS q).2=0):formTs q.body=true∧cTs q.body≤4096∧(ofS q 1).length≤4096∧(ofS q 2).length≤4096:=by
 have h1:=((a5E q).1 h).1
 have h2:=(b8S _).1 h1
 have hn:cTs (q.decls.map dT)+cTs q.body=cTs q.nodes:=by unfold PP.nodes;rw [a9W]
 have h3:formTs (q.decls.map dT++q.body)=true:=h2.2.2.1
 rw [a4l,Bool.and_eq_true] at h3
 have h4:=a9X (q.decls.map dT)
 rw [List.length_map] at h4
 have:=b9e q 1;have:=b9e q 2
 exact ⟨h3.2,by omega,by omega,by omega⟩
theorem c5s(hT:TabsH H)(hp:PH H p q)(hsm:q.Sm)(h1:loE q≠0→∀H',Hle H H'→K cz (loE q) H')(h2:loE q=0→∀c H',Hle H H'→CfH H H' q c→K c 0 H'):a5l p H K:=by
 refine Ct.of fun w0 w ps0 H0 R E I hR=>d2M ?_
 unfold F7
 refine z7 I (cs:=v7 p) rfl fun gb w1 I1 k1=>?_
 refine s6 I1 Tryz.zeroValue39 (cs:=s7 cz) rfl fun gc w2 I2 k2=>?_
 refine d4 (lW Tryz.isAgg25 Tryz.sizeOf25 rfl (I2.bring 1)) ?_
 refine f9 (Fi:=[]) Tryz.call12 (c8C hT hp hsm (K:=fun s e H'=>Hle H H'∧SlH H' 1 C8 s (vN q)∧e=(wellS q).2) fun s H' l hs=>⟨l,hs,rfl⟩) I2 ?_
 rintro _ H3 Fo w3 I3 l3 k3 ⟨sv,e,rfl,rfl,l3',hsv,rfl⟩
 refine b6 (i5 _ _ _ rfl) ?_
 refine b6 (i5 _ _ _ rfl) ?_
 refine b6 (O8 _ _ _ _ _ _) ?_
 refine a9S (fun c=>?_) (fun c=>?_)
 ·have e:loE q=(wellS q).2:=by unfold loE;rw [if_pos c]
  refine b6 b3B ?_
  refine A5 I3 Tryz.sizeOf39 (vs:=s7 cz) fun w4 I4 _=>?_
  refine Q4 Tryz.isAgg39 Tryz.sizeOf39 rfl I4 ?_
  have:=h1 (by rw [e];exact c) H3 l3
  rw [e] at this
  exact hR _ _ _ _ I4.drop.drop ⟨cz,_,rfl,rfl,this⟩
 obtain ⟨hf,hq,hvl,hal⟩:=c0U c
 have hvl':(vN q).length≤4096:=by unfold vN;rw [List.length_map];exact hvl
 refine d4 (lW Tryz.isAgg25 Tryz.sizeOf25 rfl (I3.bring 1)) ?_
 refine f9 (Fi:=[]) Tryz.call13 (c3Z (hT.le l3) (hp.le l3) hsm (K:=fun s e H'=>SlH H' 2 m3 s (ofS q 2)) fun s H' l hs=>hs) I3 ?_
 rintro _ H4 Fo w4 I4 l4 k4 ⟨sa,e,rfl,rfl,hsa⟩
 refine b6 (i5 _ _ _ rfl) ?_
 refine b6 (i5 _ _ _ rfl) ?_
 refine b6 (b5M _ _ _ _ _ _ _) ?_
 refine a9T I4 fun gm w5 I5 k5=>?_
 refine a9T I5 fun gn w6 I6 k6=>?_
 refine b6 (v:=Value.agg (t6 (zx sv sa gm gn 0) ⟨none,0,0⟩).toArray) (Pu.ok fun w=>by kernel_rfl) ?_
 refine z7 I6 (cs:=t6 (zx sv sa gm gn 0) ⟨none,0,0⟩) rfl fun gk w7 I7 k7=>?_
 refine v6 fun j1 hx1=>?_
 have hv4:=hsv.le l4
 have n1:=hv4.1
 refine b6 (a2G _ _ _) ?_
 refine K7 (J:=fun n l w'=>∃(i:Nat)(en:Array MapEntry)(cn:Nat),n=(vN q).length-i∧l=[vi (i:Int)]∧i≤(vN q).length∧Inv w0 ps0 H0 H4 [bx gk 70 (t6 (zx sv sa gm gn 0) ⟨none,0,0⟩),[(gn,.map #[] 0)],[(gm,.map en cn)],bx gc 39 (s7 cz),bx gb 25 (v7 p)] w'∧MapEs kvS kvI en (mapU (vN q) i))
  ⟨_,0,_,_,rfl,rfl,Nat.zero_le _,I7,MapEs.nil _ _⟩ ?_
 rintro n τ w8 next5 ⟨i,en,cn,rfl,hl8,hi,I8,hen⟩ hn5
 simp only [List.map_cons,List.map_nil,List.cons.injEq,and_true] at hl8
 simp only [hl8]
 unfold c6j
 refine b6 (A4 _ _ _ _ _ _) ?_
 refine D7 (fun c9=>?_) (fun c9=>?_)
 ·obtain ⟨x,hx,hE⟩:=hv4.get (i:=(i:Int)) (by omega) (by omega)
  rw [Int.toNat_natCast] at hx
  obtain ⟨g,o,hga,hA⟩:=hE
  have hlt:=C3 hx
  refine b6 (b8G hga _ _ _ _ (by omega) (by omega)) ?_
  refine d4 (ld1 Tryz.isAgg9 (I8.atH hA)) ?_
  refine b6 (m7 _) ?_
  refine b6 b2s ?_
  refine d4 (l1 Tryz.isAgg68 I8 rfl) ?_
  refine a6Z (kv:=kvS) (vv:=kvI) (keyS Tryz.underlying9) Tryz.underlying68 (I8.bring 2) hen x (i:Int) fun es9 c9 w9 he9 I9 k9=>?_
  refine b6 (B0 _ _ _ _ _ _) ?_
  rw [D6 (by omega) (by omega)]
  refine hn5 _ _ _ (by omega) ⟨i+1,es9,c9,rfl,rfl,by omega,(I9.bring 2).bring 2,?_⟩
  rw [b3Z,show (vN q).getD i ⟨#[]⟩=x by rw [List.getD_eq_getElem?_getD,hx];rfl]
  exact he9
 ·obtain rfl:i=(vN q).length:=by omega
  exact hx1 _ _ (d2b hR hen (hp.le (l3.trans l4)) (l3.trans l4) c hf hq hv4 hsa hvl' hal (fun e H' l=>h1 e H' ((l3.trans l4).trans l)) (fun e c' H' l=>h2 e c' H' ((l3.trans l4).trans l)) (I8.bring 1))
end
end Go.Proofs.YthaaobpfbgcfiaaGreatDoor
