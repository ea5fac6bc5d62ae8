/- Parsing: terms, expressions, conjunctions, conditions: the functions that hand parts in as values. Off the code. -/
import Derived.Test.YtoflkliecagjcaaGreatDooryBX3
namespace Go.Proofs.YtoflkliecagjcaaGreatDoor
open Go.RowKit
theorem c9p(Y2:Int)(Y3:Int)(a0_2a:Option Addr)(a0_2n a0_2c:Nat)(a0_3a:Option Addr)(a0_3n a0_3c:Nat)(b7Z:Int)(b8a:Int)(a1_2a:Option Addr)(a1_2n a1_2c:Nat)(a1_3a:Option Addr)(a1_3n a1_3c:Nat)(w:World):(Instr.buildSlice 52 2 #[(0,(Value.agg #[(Value.int .i64 Y2),(Value.int .i64 Y3),(Value.slice a0_2a a0_2n a0_2c),(Value.slice a0_3a a0_3n a0_3c)])),(1,(Value.agg #[(Value.int .i64 b7Z),(Value.int .i64 b8a),(Value.slice a1_2a a1_2n a1_2c),(Value.slice a1_3a a1_3n a1_3c)]))]).run Tryz.prog w=.ok (.slice (some ⟨w.heap.size,0,none⟩) 2 2) (w.alloc (.cells [(Value.int .i64 Y2),(Value.int .i64 Y3),(Value.slice a0_2a a0_2n a0_2c),(Value.slice a0_3a a0_3n a0_3c),(Value.int .i64 b7Z),(Value.int .i64 b8a),(Value.slice a1_2a a1_2n a1_2c),(Value.slice a1_3a a1_3n a1_3c)].toArray 75)):=by kernel_rfl
set_option maxRecDepth 100000
set_option maxHeartbeats 2000000
variable  [PanQ]
theorem c4E{g:Nat}{d:Int}{x:a8}{H:Hp}{K:f8→a8→Hp→Prop}(h:Q5 x d H K):CallV f7 g (.func (.func 132) #[rQ g] #[]) d x H K:=by
 intro E w0 w ps H0 Fr Kw I hE hq
 refine b1B (args:=[vi d]) (fun args w=>Tryz.call132 args w) (a3B (Fi:=[bx g 86 (b9 x)]) (Fr:=Fr) I (h g) (fun v H' Fo w' I' l k q=>?_) (panE hE))
 obtain ⟨e,y,rfl,rfl,hK⟩:=q
 exact hq _ _ _ _ I' l hK
theorem c9q{d:Int}{f:PM PT}(hf:∀{H:Hp}{x:a8}{r:List Tok}{K:f8→a8→Hp→Prop},Rd H x r→Res H x EH (f r) K→Q5 x d H K)(hsh:SShr f){H:Hp}{x:a8}{r:List Tok}{K:f8→a8→Hp→Prop}(h:Rd H x r)(k:Res H x EH (chainP (whG sMul kMul) f r) K):a1S x d H K:=by
 intro g
 refine Ct.ofE fun w0 w ps0 H0 R E I hR hE=>c8a ?_
 unfold d1V
 refine r7 I Tryz.zeroValue39 (cs:=[vi 0,vi 0,.string ⟨#[]⟩,.slice none 0 0]) rfl fun gr w1 I1 _=>?_
 refine O4 (e:=9) (c:=q6) (xs:=sMul) I1 (b2N _ _ _) rfl rfl K8 K9 (nb rfl) fun s1 F1 w2 hr1 I2 _=>?_
 obtain ⟨H1,I3,lA,hs1,_⟩:=Inv.freezeC I2 hr1 (by decide)
 refine O4 (e:=3) (c:=b0x) (xs:=kMul) I3 (c5A _ _ _) rfl rfl b8b b8c (nb rfl) fun s2 F2 w4 hr2 I4 _=>?_
 obtain ⟨H2,I5,lB,hs2,_⟩:=Inv.freezeC I4 hr2 (by decide)
 refine a7 (Q7 _ _ _) ?_
 refine a7 (v:=.agg (U8 ⟨s1,s2,.func (.func 132) #[rQ g] #[]⟩).toArray) (Pu.ok fun w=>by kernel_rfl) ?_
 have l:=lA.trans lB
 refine z7 hE Tryz.call102 (b8L (sg:=⟨s1,s2,.func (.func 132) #[rQ g] #[]⟩) (part:=f) (r:=r) (K:=K) (fun rd q=>c4E (hf rd q)) hsh (hs1.le lB) hs2 rfl (by decide) (by decide) (h.le l) (Res.next (γ:=Unit) l rfl k)) (I5.bring 1) ?_
 rintro _ H3 _ w6 I6 _ _ ⟨e,x',rfl,rfl,hK⟩
 refine G4 (I6.bring 1) Tryz.sizeOf39 (vs:=f7 e) (cs':=f7 e) rfl rfl (nb rfl) rfl rfl fun w7 I7 _=>?_
 refine a0Q Tryz.isAgg39 Tryz.sizeOf39 rfl (I7.at1 (o:=0) (vs:=f7 e) (nb rfl) rfl) ?_
 exact hR _ H3 _ _ I7.drop ⟨e,x',rfl,rfl,hK⟩
theorem c4F{g:Nat}{d:Int}{x:a8}{H:Hp}{K:f8→a8→Hp→Prop}(h:a1S x d H K):CallV f7 g (.func (.func 103) #[rQ g] #[]) d x H K:=by
 intro E w0 w ps H0 Fr Kw I hE hq
 refine b1B (args:=[vi d]) (fun args w=>Tryz.call103 args w) (a3B (Fi:=[bx g 86 (b9 x)]) (Fr:=Fr) I (h g) (fun v H' Fo w' I' l k q=>?_) (panE hE))
 obtain ⟨e,y,rfl,rfl,hK⟩:=q
 exact hq _ _ _ _ I' l hK
theorem c9r{d:Int}{f:PM PT}(hf:∀{H:Hp}{x:a8}{r:List Tok}{K:f8→a8→Hp→Prop},Rd H x r→Res H x EH (f r) K→a1S x d H K)(hsh:SShr f){H:Hp}{x:a8}{r:List Tok}{K:f8→a8→Hp→Prop}(h:Rd H x r)(k:Res H x EH (chainP (whG sAdd kAdd) f r) K):Q2 x d H K:=by
 intro g
 refine Ct.ofE fun w0 w ps0 H0 R E I hR hE=>d1y ?_
 unfold F71
 refine r7 I Tryz.zeroValue39 (cs:=[vi 0,vi 0,.string ⟨#[]⟩,.slice none 0 0]) rfl fun gr w1 I1 _=>?_
 refine O4 (e:=9) (c:=q6) (xs:=sAdd) I1 (b0w _ _) rfl rfl K8 K9 (nb rfl) fun s1 F1 w2 hr1 I2 _=>?_
 obtain ⟨H1,I3,lA,hs1,_⟩:=Inv.freezeC I2 hr1 (by decide)
 refine O4 (e:=3) (c:=b0x) (xs:=kAdd) I3 (c5y _ _) rfl rfl b8b b8c (nb rfl) fun s2 F2 w4 hr2 I4 _=>?_
 obtain ⟨H2,I5,lB,hs2,_⟩:=Inv.freezeC I4 hr2 (by decide)
 refine a7 (Q7 _ _ _) ?_
 refine a7 (v:=.agg (U8 ⟨s1,s2,.func (.func 103) #[rQ g] #[]⟩).toArray) (Pu.ok fun w=>by kernel_rfl) ?_
 have l:=lA.trans lB
 refine z7 hE Tryz.call102 (b8L (sg:=⟨s1,s2,.func (.func 103) #[rQ g] #[]⟩) (part:=f) (r:=r) (K:=K) (fun rd q=>c4F (hf rd q)) hsh (hs1.le lB) hs2 rfl (by decide) (by decide) (h.le l) (Res.next (γ:=Unit) l rfl k)) (I5.bring 1) ?_
 rintro _ H3 _ w6 I6 _ _ ⟨e,x',rfl,rfl,hK⟩
 refine G4 (I6.bring 1) Tryz.sizeOf39 (vs:=f7 e) (cs':=f7 e) rfl rfl (nb rfl) rfl rfl fun w7 I7 _=>?_
 refine a0Q Tryz.isAgg39 Tryz.sizeOf39 rfl (I7.at1 (o:=0) (vs:=f7 e) (nb rfl) rfl) ?_
 exact hR _ H3 _ _ I7.drop ⟨e,x',rfl,rfl,hK⟩
theorem c6u{g:Nat}{d:Int}{x:a8}{H:Hp}{K:i7→a8→Hp→Prop}(h:V4 x d H K):CallV g7 g (.func (.func 106) #[rQ g] #[]) d x H K:=by
 intro E w0 w ps H0 Fr Kw I hE hq
 refine b1B (args:=[vi d]) (fun args w=>Tryz.call106 args w) (a3B (Fi:=[bx g 86 (b9 x)]) (Fr:=Fr) I (h g) (fun v H' Fo w' I' l k q=>?_) (panE hE))
 obtain ⟨e,y,rfl,rfl,hK⟩:=q
 exact hq _ _ _ _ I' l hK
theorem b8M{g:Nat}{d k:Int}{sg:ByteArray}{pv:Value}{part:PM PT}{H:Hp}{x:a8}{r:List Tok}{K:i7→a8→Hp→Prop}
  (hp:∀{H':Hp}{x:a8}{r:List Tok}{K:i7→a8→Hp→Prop},Hle H H'→Rd H' x r→Res H' x CH (part r) K→CallV g7 g pv d x H' K) (hsh:SShr part) (h:Rd H x r) (kk:Res H x CH (joinsP sg k part r) K):
  Ct Tryz.prog 105 [rQ g,vi d,.string sg,vi k,pv] H [bx g 86 (b9 x)] (fun v H' Fo=>∃(e:i7)(x':a8),v=.agg (g7 e).toArray∧Fo=[bx g 86 (b9 x')]∧K e x' H') panQE:=by
 refine Ct.ofE fun w0 w ps0 H0 R E I hR hE=>c8c ?_
 unfold d1X
 refine r7 I Tryz.zeroValue75 (cs:=[vi 0,vi 0,.slice none 0 0,.slice none 0 0]) rfl fun gr w2 I2 _=>?_
 generalize ho:joinsP sg k part r=o at kk
 unfold joinsP at ho
 have hq:∀c pl,part r=.error (c,pl)→PanQ.q (fltV c pl):=fun c pl e=>by
  rw [R0 e] at ho;subst ho;exact kk
 refine hp (Hle.refl _) h (Res.use rfl hq) E w0 w2 ps0 H0 _ _ (I2.bring 1) hE fun e x1 H1 w3 I3 lA q=>?_
 obtain ⟨a,r1,ea,ra,rd,el,_⟩:=q
 rw [a2v ea] at ho
 refine r7 I3 Tryz.zeroValue75 (cs:=[vi 0,vi 0,.slice none 0 0,.slice none 0 0]) rfl fun gb w4 I4 _=>?_
 refine G4 I4 Tryz.sizeOf75 (vs:=g7 e) (cs':=g7 e) rfl rfl (nb rfl) rfl rfl fun w5 I5 _=>?_
 have hj1:∀(H:Hp)(w:World)(e z:i7)(x':a8),Inv w0 ps0 H0 H [bx gb 75 (g7 e),bx g 86 (b9 x'),bx gr 75 (g7 z)] w→K e x' H→b5T (rQ gr) (rQ gb) w R E:=by
  intro H w e z x' I h
  unfold b5T
  intro _
  refine b8 (lW Tryz.isAgg75 Tryz.sizeOf75 rfl I) ?_
  refine G4 (I.bring 2) Tryz.sizeOf75 (vs:=g7 e) (cs':=g7 e) rfl rfl (nb rfl) rfl rfl fun _ v _=>?_
  refine a0Q Tryz.isAgg75 Tryz.sizeOf75 rfl (v.at1 (o:=0) (vs:=g7 e) (nb rfl) rfl) ?_
  exact hR _ H _ _ v.drop.drop ⟨e,x',rfl,rfl,h⟩
 refine u2 fun j1 hx1=>?_
 refine R1 (J:=fun m l w=>∃(e z:i7)(x':a8)(H':Hp)(a:PT)(r':List Tok),m=r'.length∧l=[]∧Inv w0 ps0 H0 H' [bx gb 75 (g7 e),bx g 86 (b9 x'),bx gr 75 (g7 z)] w∧Hle H H'∧CH H' e a∧Rd H' x' r'∧x'.fl=x.fl∧
  ∃n,r'.length≤n∧joinsF sg k part n a r'=o) ⟨_,e,⟨0,0,Sl.mk none 0 0,Sl.mk none 0 0⟩,x1,H1,a,r1,rfl,rfl,I5,lA,ra,rd,el,_,Nat.le_refl _,ho⟩ ?_
 rintro m τ w next ⟨e,z,x',H',a,r',rfl,_,I,l,ra,rd,el',n,hn1,st⟩ hn
 unfold c0q
 have hm:t7 x' sg H' (fun v x2 H2=>H2=H'∧v=isT sg r'∧∃r2,Rd H' x2 r2∧x2.fl=x'.fl∧r2=(if v then r'.tail else r')):=
  a2F rd (fun c x2 r2 e2=>⟨rfl,c.symm,_,r2,e2,rfl⟩) fun c=>⟨rfl,c.symm,_,rd,rfl,rfl⟩
 refine g6 Tryz.call69 (hm g) (I.bring 1) ?_
 rintro _ H2 _ w6 I6 _ _ ⟨b,x2,rfl,rfl,rfl,rfl,r2,rd2,el2,er2⟩
 refine W8 (fun c=>?_) (fun c=>?_)
 ·rw [if_pos c] at er2
  have hlt:=a3S (a6Z c)
  rw [←er2] at hlt
  obtain ⟨n,rfl⟩:∃m,n=m+1:=⟨n-1,by omega⟩
  unfold joinsF at st
  rw [if_pos c,← er2] at st
  refine T1 I6 fun w7 I7=>?_
  refine u7 (lW Tryz.isAgg75 Tryz.sizeOf75 rfl (I7.bring 1)) ?_
  have hq:∀c pl,part r2=.error (c,pl)→PanQ.q (fltV c pl):=fun c pl e=>by
   rw [R0 e] at st;subst st;exact kk
  refine hp l rd2 (Res.use rfl hq) E w0 w7 ps0 H0 _ _ I7 hE fun e2 x3 H3 w8 I8 l3 q=>?_
  obtain ⟨b,r3,eb,rb,rd3,el3,_⟩:=q
  rw [a2v eb] at st
  have hlt2:=hsh _ _ _ eb
  refine ⟨(I8.bring 1).hp1.trans (I7.bring 1).hp1.symm,?_⟩
  refine O4 (e:=75) (c:=g7) (xs:=[e,e2]) I8 (c9p _ _ _ _ _ _ _ _ _ _ _ _ _ _ _ _) rfl rfl Y8 Y9 (nb rfl) fun s F w9 hr I9 _=>?_
  obtain ⟨H4,I10,l4,hs4,hc4⟩:=Inv.freezeC I9 hr (by decide)
  refine o0 (b1P _ _ _ _) ?_
  refine G4 (I10.bring 1) Tryz.sizeOf75 (vs:=[vi k,vi 0,.slice none 0 0,vs s]) (cs':=[vi k,vi 0,.slice none 0 0,vs s]) rfl rfl (nb rfl) rfl rfl fun w11 I11 _=>?_
  exact hn _ _ _ (show r3.length < r'.length by omega) ⟨⟨k,0,Sl.mk none 0 0,s⟩,z,x3,H4,cX k 0 [] [a,b],r3,rfl,rfl,I11,(l.trans l3).trans l4,CH2 hs4 (ra.le (l3.trans l4)) (rb.le l4) _ _,rd3.le l4,(el3.trans el2).trans el',n,by omega,st⟩
 ·rw [if_neg (by rw [c];decide)] at er2
  have st':o=.ok (a,r'):=by
   cases n with
   | zero=>exact st.symm
   | succ n=>unfold joinsF at st;rw [if_neg (by rw [c];decide)] at st;exact st.symm
  subst st'
  rw [er2] at rd2
  exact hx1 _ _ (hj1 _ _ e z x2 (I6.bring 1) (kk _ e x2 l ra rd2 (el2.trans el')))
theorem c9s{d:Int}{f:PM PT}(hf:∀{H:Hp}{x:a8}{r:List Tok}{K:i7→a8→Hp→Prop},Rd H x r→Res H x CH (f r) K→V4 x d H K)(hsh:SShr f){H:Hp}{x:a8}{r:List Tok}{K:i7→a8→Hp→Prop}(h:Rd H x r)(k:Res H x CH (condOf f r) K):N1 x d H K:=by
 intro g
 refine Ct.ofE fun w0 w ps0 H0 R E I hR hE=>d1z ?_
 unfold F72
 refine E9 I (cs:=[rQ g]) rfl fun ga w1 I1 _=>?_
 refine r7 I1 Tryz.zeroValue75 (cs:=[vi 0,vi 0,.slice none 0 0,.slice none 0 0]) rfl fun gr w2 I2 _=>?_
 refine a7 (Q7 _ _ _) ?_
 refine b8 (ld1 (v:=rQ g) Tryz.isAgg60 ((I2.bring 1).at1 (o:=0) (vs:=[rQ g]) (nb rfl) rfl)) ?_
 obtain ⟨J1,J2,J3⟩:=(I2.bring 1).freeze
 have lA:Hle H (addF H (bx ga 60 [rQ g])):=J2
 have hga:=J3 _ (List.mem_singleton.2 rfl)
 generalize addF H (bx ga 60 [rQ g])=H1 at J1 J2 J3 lA hga
 have hconj:∀{H':Hp}{x:a8}{r:List Tok}{K:i7→a8→Hp→Prop},Hle H1 H'→Rd H' x r→Res H' x CH (conjOf f r) K→CallV g7 g (.func (.func 104) #[] #[rQ ga]) d x H' K:=by
  intro H' x r K l rd q E w0 w ps H0 Fr Kw I hE hq
  have hcell:∀{w:World}{Fs:List Frag},Inv w0 ps H0 H' Fs w→AtW w ga 0 [rQ g]:=fun I=>⟨_,_,_,I.sub _ _ (l _ _ hga),by simp,rfl⟩
  refine a3e (cap:=[rQ ga]) (fun args w=>Tryz.call104 args w) (c8b ?_)
  unfold d1W
  refine r7 I Tryz.zeroValue75 (cs:=[vi 0,vi 0,.slice none 0 0,.slice none 0 0]) rfl fun gc w3 I3 _=>?_
  refine b8 (ld1 (v:=rQ g) Tryz.isAgg60 (hcell I3)) ?_
  refine b8 (ld1 (v:=rQ g) Tryz.isAgg60 (hcell I3)) ?_
  refine a7 (Q7 _ _ _) ?_
  refine z7 hE Tryz.call105 (b8M (part:=f) (r:=r) (K:=K) (fun _ rd q=>c6u (hf rd q)) hsh rd q) (I3.bring 1) ?_
  rintro _ H3 _ w6 I6 l6 _ ⟨e,x',rfl,rfl,hK⟩
  refine G4 (I6.bring 1) Tryz.sizeOf75 (vs:=g7 e) (cs':=g7 e) rfl rfl (nb rfl) rfl rfl fun w7 I7 _=>?_
  refine a0Q Tryz.isAgg75 Tryz.sizeOf75 rfl (I7.at1 (o:=0) (vs:=g7 e) (nb rfl) rfl) ?_
  exact hq _ _ _ _ I7.drop l6 hK
 refine z7 hE Tryz.call105 (b8M (part:=conjOf f) (r:=r) (K:=K) hconj (a5A hsh) (h.le lA) (Res.next (γ:=Unit) lA rfl k)) (J1.bring 1) ?_
 rintro _ H3 _ w6 I6 _ _ ⟨e,x',rfl,rfl,hK⟩
 refine G4 (I6.bring 1) Tryz.sizeOf75 (vs:=g7 e) (cs':=g7 e) rfl rfl (nb rfl) rfl rfl fun w7 I7 _=>?_
 refine a0Q Tryz.isAgg75 Tryz.sizeOf75 rfl (I7.at1 (o:=0) (vs:=g7 e) (nb rfl) rfl) ?_
 exact hR _ H3 _ _ I7.drop ⟨e,x',rfl,rfl,hK⟩
end Go.Proofs.YtoflkliecagjcaaGreatDoor
namespace Go.Proofs.YtoflkliecagjcaaGreatDoor
open Go.RowKit
set_option maxRecDepth 100000
set_option maxHeartbeats 2000000
theorem CH1{H:Hp}{s:Sl}{e:i7}{a:PT}(hs:SlH H 4 g7 s [e])(ha:CH H e a)(k n:Int):CH H (i7.mk k n (Sl.mk none 0 0) s) (cX k n [] [a]):=
 CH.mk (c:=⟨k,n,Sl.mk none 0 0,s⟩) (ts:=[]) (SlH.nil H _ _) (by simp [big]) u5.nil hs (by simp [big]) rfl (u5.one ha).2
theorem CH0{H:Hp}(k n:Int):CH H (i7.mk k n (Sl.mk none 0 0) (Sl.mk none 0 0)) (cX k n [] []):=
 CH.mk (c:=⟨k,n,Sl.mk none 0 0,Sl.mk none 0 0⟩) (ts:=[]) (us:=[]) (SlH.nil H _ _) (by simp [big]) u5.nil (SlH.nil H _ _) (by simp [big]) rfl (fun i x t h=>by simp at h)
theorem CHE{H:Hp}{s:Sl}{e e':f8}{a b:PT}(hs:SlH H 4 f7 s [e,e'])(ha:EH H e a)(hb:EH H e' b)(k n:Int):CH H (i7.mk k n s (Sl.mk none 0 0)) (cX k n [a,b] []):=
 CH.mk (c:=⟨k,n,s,Sl.mk none 0 0⟩) (us:=[]) hs (by simp [big]) ((u5.one ha).app (u5.one hb)) (SlH.nil H _ _) (by simp [big]) rfl (fun i x t h=>by simp at h)
theorem SHX{H:Hp}{s1 s2 s3 s4:Sl}{es:List f8}{cs:List i7}{ts fs:List d9}{a b c d:List PT}(h1:SlH H 4 f7 s1 es)(b1:es.length≤big)(r1:u5 (EH H) es a)(h2:SlH H 4 g7 s2 cs)(b2:cs.length≤big)(r2:u5 (CH H) cs b)
  (h3:SlH H 6 k7 s3 ts) (b3:ts.length≤big) (r3:u5 (SH H) ts c) (h4:SlH H 6 k7 s4 fs) (b4:fs.length≤big) (r4:u5 (SH H) fs d) (k:Int) (nm:ByteArray):SH H (d9.mk k nm s1 s2 s3 s4) (sX k nm a b c d):=
 SH.mk (s:=⟨k,nm,s1,s2,s3,s4⟩) h1 b1 r1 h2 b2 r2 h3 b3 r3.1 r3.2 h4 b4 r4.1 r4.2
theorem b8N{g:Nat}{r:List Tok}(h:factB r=false):factP g r=.error (40,(hd r).fAt):=by
 cases g with
 | zero=>unfold factP deadE;rw [h];rfl
 | succ g=>unfold factP factS;rw [if_pos h];rfl
theorem c6v{g:Nat}{r:List Tok}(h:factB r=false):exprP g r=.error (40,(hd r).fAt):=R0 (R0 (b8N h))
theorem c2m{r:List Tok}(h:factB r=true):exprP 0 r=.error (41,(hd r).fAt):=R0 (R0 (show deadE factB r=_ by unfold deadE;rw [h];rfl))
theorem c1d{g:Nat}{r:List Tok}(h:litB r=false):litP g r=.error (40,(hd r).fAt):=by
 cases g with
 | zero=>unfold litP deadE;rw [h];rfl
 | succ g=>unfold litP litS;rw [if_pos h];rfl
theorem b6S{r:List Tok}(h:litB r=true):litP 0 r=.error (41,(hd r).fAt):=by unfold litP deadE;rw [h];rfl
theorem c6w{g:Nat}{r:List Tok}(h:litB r=false):condP g r=.error (40,(hd r).fAt):=R0 (R0 (c1d h))
theorem c2n{r:List Tok}(h:litB r=true):condP 0 r=.error (41,(hd r).fAt):=R0 (R0 (b6S h))
theorem c6x{g:Nat}{r:List Tok}(h:stmtB r=false):stmtP g r=.error (40,(hd r).fAt):=by
 cases g with
 | zero=>unfold stmtP deadE;rw [h];rfl
 | succ g=>unfold stmtP stmtS;rw [if_pos h];rfl
theorem c2o{r:List Tok}(h:stmtB r=true):stmtP 0 r=.error (41,(hd r).fAt):=by unfold stmtP deadE;rw [h];rfl
theorem c6y{r:List Tok}(h:factB r=true):(hd r).d6≠5:=fun e=>by
 unfold factB isT at h;rw [e] at h;cases h
theorem c6z{r:List Tok}(h:stmtB r=true):(hd r).d6≠5:=fun e=>by
 unfold stmtB isT at h;rw [e] at h;cases h
theorem Rd.big{H:Hp}{x:a8}{r:List Tok}(h:Rd H x r):r.length≤1099511627776:=by
 obtain ⟨ts,n,_,b,_,d,_⟩:=h
 rw [←d,List.length_drop]
 simp only [Go.Proofs.YtoflkliecagjcaaGreatDoor.big] at b
 omega
theorem b3k{d:Int}(h0:0≤d)(h1:d≤40):IntKind.wrap .i64 (d+1)=d+1:=X9 ⟨by omega,by omega⟩
variable  [PanQ]
theorem Res.bind{α β γ δ:Type}{H:Hp}{x:a8}{R:Hp→α→β→Prop}{R2:Hp→γ→δ→Prop}{p:PM β}{f:β→PM δ}{r:List Tok}{K:γ→a8→Hp→Prop}{K1:α→a8→Hp→Prop}(k:Res H x R2 (bindP p f r) K)
  (h:∀b r' H' v x',p r=.ok (b,r')→Hle H H'→R H' v b→Rd H' x' r'→x'.fl=x.fl→Res H' x' R2 (f b r') K→K1 v x' H'):Res H x R (p r) K1:=by
 cases hp:p r with
 | error y=>rw [R0 hp] at k;exact k
 | ok y=>
  obtain ⟨b,r'⟩:=y
  rw [a2v hp] at k
  exact fun H' v x' l ra rd e=>h b r' H' v x' hp l ra rd e (Res.next (γ:=Unit) l e k)
theorem a3r{γ δ:Type}{H:Hp}{x:a8}{R2:Hp→γ→δ→Prop}{s:ByteArray}{f:Unit→PM δ}{r:List Tok}{K:γ→a8→Hp→Prop}{K1:a8→Hp→Prop}(h:Rd H x r)(k:Res H x R2 (bindP (mustP s) f r) K)
  (h1:∀r' H' x',Hle H H'→Rd H' x' r'→x'.fl=x.fl→Res H' x' R2 (f () r') K→K1 x' H'):C4 x s H K1:=
 c9n h (Res.bind k fun _ r' H' _ x' _ l _ rd e kk=>h1 r' H' x' l rd e kk)
def FactOK(g:Nat)(d:Int):Prop:=∀⦃H:Hp⦄ ⦃x:a8⦄ ⦃r:List Tok⦄ ⦃K:f8→a8→Hp→Prop⦄,Rd H x r→Res H x EH (factP g r) K→Q5 x d H K
def ExprOK(g:Nat)(d:Int):Prop:=∀⦃H:Hp⦄ ⦃x:a8⦄ ⦃r:List Tok⦄ ⦃K:f8→a8→Hp→Prop⦄,Rd H x r→Res H x EH (exprP g r) K→Q2 x d H K
def LitOK(g:Nat)(d:Int):Prop:=∀⦃H:Hp⦄ ⦃x:a8⦄ ⦃r:List Tok⦄ ⦃K:i7→a8→Hp→Prop⦄,Rd H x r→Res H x CH (litP g r) K→V4 x d H K
def CondOK(g:Nat)(d:Int):Prop:=∀⦃H:Hp⦄ ⦃x:a8⦄ ⦃r:List Tok⦄ ⦃K:i7→a8→Hp→Prop⦄,Rd H x r→Res H x CH (condP g r) K→N1 x d H K
def StmtOK(g:Nat)(d:Int):Prop:=∀⦃H:Hp⦄ ⦃x:a8⦄ ⦃r:List Tok⦄ ⦃K:d9→a8→Hp→Prop⦄,Rd H x r→stmtB r=true→Res H x SH (stmtP g r) K→T7 x d H K
theorem FactOK.expr{g:Nat}{d:Int}(h:FactOK g d):ExprOK g d:=fun _ _ _ _ rd k=>c9r (fun rd k=>c9q (fun rd k=>h rd k) (a6u g) rd k) (a5z (a6u g)) rd k
theorem LitOK.cond{g:Nat}{d:Int}(h:LitOK g d):CondOK g d:=fun _ _ _ _ rd k=>c9s (fun rd k=>h rd k) (a9J g) rd k
section
variable {g:Nat}{d:Int}{H:Hp}{x:a8}{r:List Tok}
theorem c6A(hg:d+g=40)(ih:∀g',g=g'+1→FactOK (g'+1) (d+1))(h:Rd H x r){K:f8→a8→Hp→Prop}(k:Res H x EH (factP g r) K):E7 x H (fun a b=>C8 x (d+1) a b (fun c=>Q5 x (d+1) c K)):=by
 refine b1A h (a9K h (fun c=>?_) (fun c c2=>?_) fun c c2=>?_)
 ·rw [b8N c] at k;exact k
 ·obtain rfl:g=0:=by omega
  unfold factP deadE at k
  rw [if_pos c] at k;exact k
 ·obtain ⟨g',rfl⟩:∃g',g=g'+1:=⟨g-1,by omega⟩
  exact ih g' rfl h k
theorem b4k(hg:d+g=40)(h0:0≤d)(ih:∀g',g=g'+1→FactOK (g'+1) (d+1))(h:Rd H x r){s:ByteArray}{γ δ:Type}{R2:Hp→γ→δ→Prop}{f:PT→PM δ}{K:γ→a8→Hp→Prop}{K1:f8→a8→Hp→Prop}
  (k:Res H x R2 (bindP (exprP g) (fun e=>bindP (mustP s) fun _=>f e) r) K) (h1:∀b r' H' v x',Hle H H'→EH H' v b→Rd H' x' r'→x'.fl=x.fl→Res H' x' R2 (f b r') K→K1 v x' H'):S8 x d s H K1:=by
 refine a8l _ _ _ ?_
 unfold a3X
 rw [b3k h0 (by omega)]
 refine b1A h (a9K h (fun c=>?_) (fun c c2=>?_) fun c c2=>?_)
 ·rw [R0 (c6v c)] at k;exact k
 ·obtain rfl:g=0:=by omega
  rw [R0 (c2m c)] at k;exact k
 ·obtain ⟨g',rfl⟩:∃g',g=g'+1:=⟨g-1,by omega⟩
  refine (ih g' rfl).expr h (Res.bind k fun b r' H' v x' _ l ra rd e kk=>?_)
  exact a3r rd kk fun r2 H2 x2 l2 rd2 e2 k2=>h1 b r2 H2 v x2 (l.trans l2) (ra.le l2) rd2 (e2.trans e) k2
theorem b6T(hg:d+g=40)(h0:0≤d)(ih:∀g',g=g'+1→FactOK (g'+1) (d+1)):FactOK (g+1) d:=by
 intro H x r K h k
 refine a8v _ _ ?_
 unfold a4r
 rw [b3k h0 (by omega)]
 replace k:Res H x EH (factS (factP g) r) K:=k
 unfold factS at k
 refine b1A h ⟨fun c=>?_,fun c=>?_⟩
 ·rw [if_pos (by simpa using c)] at k;exact a5B h k
 have c':factB r=true:=by simpa using c
 rw [if_neg (by rw [c'];decide)] at k
 refine a2F h (fun c1 x1 h1 e1=>⟨fun _=>?_,fun q=>(by cases q)⟩) fun c1=>⟨fun q=>(by cases q),fun _=>?_⟩
 ·rw [if_pos c1] at k
  refine c6A hg ih h1 (Res.bind (Res.next (γ:=Unit) (Hle.refl _) e1 k) fun b r' H' v x' _ l ra rd e kk=>?_)
  intro s H2 l2 hs _
  exact kk H2 _ x' l2 (EH1 hs (ra.le l2) _ _ _) (rd.le l2) rfl
 rw [if_neg (by rw [c1];decide)] at k
 refine a2F h (fun c1 x1 h1 e1=>⟨fun _=>?_,fun q=>(by cases q)⟩) fun c1=>⟨fun q=>(by cases q),fun _=>?_⟩
 ·rw [if_pos c1] at k
  exact b4k hg h0 ih h1 (Res.next (γ:=Unit) (Hle.refl _) e1 k) fun b r' H' v x' l ra rd e kk=>kk H' v x' (Hle.refl _) ra rd rfl
 rw [if_neg (by rw [c1];decide)] at k
 refine a2F h (fun c1 x1 h1 e1=>⟨fun _=>?_,fun q=>(by cases q)⟩) fun c1=>⟨fun q=>(by cases q),fun _=>?_⟩
 ·rw [if_pos c1] at k
  exact k H _ x1 (Hle.refl _) (EH0 _ _ _) h1 e1
 rw [if_neg (by rw [c1];decide)] at k
 unfold W4
 refine b3j h (fun q=>absurd q (c6y c')) fun _ x1 h1 e1=>⟨fun c2=>?_,fun c2=>?_⟩
 ·rw [if_pos c2] at k
  exact k H _ x1 (Hle.refl _) (EH0 _ _ _) h1 e1
 rw [if_neg c2] at k
 refine a2F h1 (fun c3 x2 h2 e2=>⟨fun q=>(by cases q),fun _=>?_⟩) fun c3=>⟨fun _=>?_,fun q=>(by cases q)⟩
 ·rw [if_pos c3] at k
  refine b4k hg h0 ih h2 (Res.next (γ:=Unit) (Hle.refl _) (e2.trans e1) k) fun b r' H' v x' l ra rd e kk=>?_
  intro s H3 l3 hs _
  exact kk H3 _ x' l3 (EH1 hs (ra.le l3) _ _ _) (rd.le l3) rfl
 ·rw [if_neg (by rw [c3];decide)] at k
  exact k H _ x1 (Hle.refl _) (EH0 _ _ _) h1 e1
end
theorem factOK:∀(g:Nat){d:Int},d+g=40→0≤d→FactOK (g+1) d
 | 0,d,hg,h0=>b6T hg h0 fun g' e=>by omega
 | g+1,d,hg,h0=>b6T hg h0 fun g' e=>by
  obtain rfl:g=g':=by omega
  exact factOK g (by omega) (by omega)
section
variable {g:Nat}{d:Int}{H:Hp}{x:a8}{r:List Tok}
theorem d3n(h:Rd H x r){K:Int→a8→Hp→Prop}(k:Res H x (fun _ v b=>v=b) (relP r) K):a0k x H K:=by
 refine a6P _ ?_
 unfold a3j
 unfold relP at k
 have hit:∀i:Int,i≠0→relR r=i→∀x',Rd H x' r.tail→x'.fl=x.fl→K i x' H:=fun i hi e x' h' e'=>by
  rw [e,if_neg hi] at k;exact k H i x' (Hle.refl _) rfl h' e'
 refine U6 (fun(z:Int×a8) H'=>H'=H∧∃i:Nat,z=((i:Int),x)∧i≤7∧whG ([⟨#[60]⟩,⟨#[60,61]⟩,⟨#[61,61]⟩,⟨#[33,61]⟩,⟨#[62]⟩,⟨#[62,61]⟩].drop (i-1)) ([1,2,3,4,5,6].drop (i-1)) r=relR r) (fun z=>(7-z.1).toNat) ⟨rfl,0,rfl,by omega,rfl⟩ ?_
 rintro z H1 next ⟨rfl,i,rfl,hi,he⟩ hn
 unfold a2p
 dsimp only
 refine ⟨fun c=>⟨by omega,c,?_⟩,fun c=>?_⟩
 ·rw [X9 (a:=(i:Int)+1) ⟨by omega,by omega⟩]
  have go:whG ([⟨#[60]⟩,⟨#[60,61]⟩,⟨#[61,61]⟩,⟨#[33,61]⟩,⟨#[62]⟩,⟨#[62,61]⟩].drop i) ([1,2,3,4,5,6].drop i) r=relR r→next ((i:Int)+1,x) H1:=fun e=>hn _ _ ⟨rfl,i+1,by rw [Int.natCast_add];rfl,by omega,e⟩ (by dsimp only;omega)
  by_cases h0:i=0
  ·subst h0
   exact ⟨fun q=>(by simp at q),fun _=>⟨fun q=>(by simp at q),fun _=>go he⟩⟩
  ·have hp:decide ((0:Int) < (i:Int))=true:=decide_eq_true (by omega)
   refine ⟨fun _=>?_,fun q=>absurd hp q⟩
   rw [Int.toNat_natCast,hp]
   obtain ⟨s,n,e1,e2,e3⟩:∃(s:ByteArray)(n:Int),n=(i:Int)∧([⟨#[]⟩,⟨#[60]⟩,⟨#[60,61]⟩,⟨#[61,61]⟩,⟨#[33,61]⟩,⟨#[62]⟩,⟨#[62,61]⟩]:List ByteArray).getD i ⟨#[]⟩=s∧relR r=if isT s r then n else whG ([⟨#[60]⟩,⟨#[60,61]⟩,⟨#[61,61]⟩,⟨#[33,61]⟩,⟨#[62]⟩,⟨#[62,61]⟩].drop i) ([1,2,3,4,5,6].drop i) r:=by
    rw [←he]
    rcases (by omega:i=1∨i=2∨i=3∨i=4∨i=5∨i=6) with rfl | rfl | rfl | rfl | rfl | rfl<;>exact ⟨_,_,rfl,rfl,rfl⟩
   rw [e2]
   refine a2F h (fun c1 x' h' e'=>⟨fun _=>?_,fun q=>(by simp at q)⟩) fun c1=>⟨fun q=>(by simp at q),fun _=>?_⟩
   ·rw [if_pos c1,e1] at e3
    exact hit _ (by omega) e3 x' h' e'
   ·rw [if_neg (by rw [c1];decide)] at e3
    exact go e3.symm
 ·obtain rfl:i=7:=by omega
  have:relR r=0:=he.symm
  rw [if_pos this] at k
  exact a5B h k
theorem b8O(hg:d+g=40)(h0:0≤d)(hx:ExprOK (g+1) d)(ih:∀g',g=g'+1→LitOK (g'+1) (d+1)):LitOK (g+1) d:=by
 intro H x r K h k
 refine a8Y _ _ ?_
 unfold a4F
 rw [b3k h0 (by omega)]
 replace k:Res H x CH (litS (litP g) (exprP (g+1)) r) K:=k
 unfold litS at k
 refine b6e h ⟨fun c=>?_,fun c=>?_⟩
 ·rw [if_pos (by simpa using c)] at k;exact a5B h k
 have c':litB r=true:=by simpa using c
 rw [if_neg (by rw [c'];decide)] at k
 refine a2F h (fun c1 x1 h1 e1=>⟨fun _=>?_,fun q=>(by cases q)⟩) fun c1=>⟨fun q=>(by cases q),fun _=>?_⟩
 ·rw [if_pos c1] at k
  exact k H _ x1 (Hle.refl _) (CH0 _ _) h1 e1
 rw [if_neg (by rw [c1];decide)] at k
 refine a2F h (fun c1 x1 h1 e1=>⟨fun _=>?_,fun q=>(by cases q)⟩) fun c1=>⟨fun q=>(by cases q),fun _=>?_⟩
 ·rw [if_pos c1] at k
  exact k H _ x1 (Hle.refl _) (CH0 _ _) h1 e1
 rw [if_neg (by rw [c1];decide)] at k
 refine a2F h (fun c1 x1 h1 e1=>⟨fun _=>?_,fun q=>(by cases q)⟩) fun c1=>⟨fun q=>(by cases q),fun _=>?_⟩
 ·rw [if_pos c1] at k
  replace k:=Res.next (γ:=Unit) (Hle.refl _) e1 k
  refine b6e h1 (a9K h1 (fun c2=>?_) (fun c2 c3=>?_) fun c2 c3=>?_)
  ·rw [R0 (c1d c2)] at k;exact k
  ·obtain rfl:g=0:=by omega
   rw [R0 (b6S c2)] at k;exact k
  ·obtain ⟨g',rfl⟩:∃g',g=g'+1:=⟨g-1,by omega⟩
   refine ih g' rfl h1 (Res.bind k fun b r' H' v x' _ l ra rd e kk=>?_)
   intro s H2 l2 hs _
   exact kk H2 _ x' l2 (CH1 hs (ra.le l2) _ _) (rd.le l2) rfl
 rw [if_neg (by rw [c1];decide)] at k
 refine a2F h (fun c1 x1 h1 e1=>⟨fun _=>?_,fun q=>(by cases q)⟩) fun c1=>⟨fun q=>(by cases q),fun _=>?_⟩
 ·rw [if_pos c1] at k
  replace k:Res H x1 CH (bindP (condP g) (fun c=>bindP (mustP ⟨#[93]⟩) fun _=>pureP c) r.tail) K:=Res.next (γ:=Unit) (Hle.refl _) e1 k
  refine b6e h1 (a9K h1 (fun c2=>?_) (fun c2 c3=>?_) fun c2 c3=>?_)
  ·rw [R0 (c6w c2)] at k;exact k
  ·obtain rfl:g=0:=by omega
   rw [R0 (c2n c2)] at k;exact k
  ·obtain ⟨g',rfl⟩:∃g',g=g'+1:=⟨g-1,by omega⟩
   refine (ih g' rfl).cond h1 (Res.bind k fun b r' H' v x' _ l ra rd e kk=>?_)
   exact a3r rd kk fun r2 H2 x2 l2 rd2 e2 k2=>k2 H2 v x2 (Hle.refl _) (ra.le l2) rd2 rfl
 rw [if_neg (by rw [c1];decide)] at k
 unfold X3
 refine hx h (Res.bind k fun a r1 H1 v1 x1 _ l1' ra rd1 e1 k1=>?_)
 refine d3n rd1 (Res.bind k1 fun op r2 H2 v2 x2 _ l2 q2 rd2 e2 k2=>?_)
 subst q2
 refine hx rd2 (Res.bind k2 fun b r3 H3 v3 x3 _ l3 rb rd3 e3 k3=>?_)
 intro s H4 l4 hs _
 exact k3 H4 _ x3 l4 (CHE hs (ra.le ((l2.trans l3).trans l4)) (rb.le l4) _ _) (rd3.le l4) rfl
end
theorem litOK:∀(g:Nat){d:Int},d+g=40→0≤d→LitOK (g+1) d
 | 0,d,hg,h0=>b8O hg h0 (factOK 0 hg h0).expr fun g' e=>by omega
 | g+1,d,hg,h0=>b8O hg h0 (factOK (g+1) hg h0).expr fun g' e=>by
  obtain rfl:g=g':=by omega
  exact litOK g (by omega) (by omega)
end Go.Proofs.YtoflkliecagjcaaGreatDoor
