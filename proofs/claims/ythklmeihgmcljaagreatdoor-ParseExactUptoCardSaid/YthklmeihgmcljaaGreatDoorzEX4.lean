/- Parsing: terms, expressions, conjunctions, conditions: the functions that hand parts in as values. Off the code. -/
import Derived.Test.YthklmeihgmcljaaGreatDoorzEX3
namespace Go.Proofs.YthklmeihgmcljaaGreatDoor
open Go.RowKit
set_option maxRecDepth 100000
set_option maxHeartbeats 2000000
variable  [PanQ]
theorem c6v{g:Nat}{d:Int}{x:b7}{H:Hp}{K:d9→b7→Hp→Prop}(h:T4 x d H K):CallV g7 g (.func (.func 122) #[rQ g] #[]) d x H K:=by
 intro E w0 w ps H0 Fr Kw I hE hq
 refine b5m (args:=[vi d]) (fun args w=>Tryz.call122 args w) (a6k (Fi:=[bx g 101 (g8 x)]) (Fr:=Fr) I (h g) (fun v H' Fo w' I' l k q=>?_) (panE hE))
 obtain ⟨e,y,rfl,rfl,hK⟩:=q
 exact hq _ _ _ _ I' l hK
theorem d0Y{d:Int}{f:PM PT}(hf:∀{H:Hp}{x:b7}{r:List Tok}{K:d9→b7→Hp→Prop},Rd H x r→Res H x EH (f r) K→T4 x d H K)(hsh:SShr f){H:Hp}{x:b7}{r:List Tok}{K:d9→b7→Hp→Prop}(h:Rd H x r)(k:Res H x EH (chainP (whG sMul kMul) f r) K):a3t x d H K:=by
 intro g
 refine Ct.ofE fun w0 w ps0 H0 R E I hR hE=>d3z ?_
 unfold F82
 refine o7 I Tryz.zeroValue40 (cs:=[vi 0,vi 0,.string ⟨#[]⟩,.slice none 0 0]) rfl fun gr w1 I1 _=>?_
 refine Q9 (e:=9) (c:=M9) (xs:=sMul) I1 (c8S _ _ _) rfl rfl b1q b1r (nb rfl) fun s1 F1 w2 hr1 I2 _=>?_
 obtain ⟨H1,I3,lA,hs1,_⟩:=Inv.freezeC I2 hr1 (by decide)
 refine Q9 (e:=3) (c:=b4l) (xs:=kMul) I3 (c6U _ _ _) rfl rfl c0a c0b (nb rfl) fun s2 F2 w4 hr2 I4 _=>?_
 obtain ⟨H2,I5,lB,hs2,_⟩:=Inv.freezeC I4 hr2 (by decide)
 refine a7 (a1H _ _ _) ?_
 refine a7 (v:=.agg (Z6 ⟨s1,s2,.func (.func 122) #[rQ g] #[]⟩).toArray) (Pu.ok fun w=>by kernel_rfl) ?_
 have l:=lA.trans lB
 refine A7 hE Tryz.call81 (c0N (sg:=⟨s1,s2,.func (.func 122) #[rQ g] #[]⟩) (part:=f) (r:=r) (K:=K) (fun rd q=>c6v (hf rd q)) hsh (hs1.le lB) hs2 rfl (by decide) (by decide) (h.le l) (Res.next (γ:=Unit) l rfl k)) (I5.bring 1) ?_
 rintro _ H3 _ w6 I6 _ _ ⟨e,x',rfl,rfl,hK⟩
 refine G7 (I6.bring 1) Tryz.sizeOf40 (vs:=g7 e) (cs':=g7 e) rfl rfl (nb rfl) rfl rfl fun w7 I7 _=>?_
 refine a2u Tryz.isAgg40 Tryz.sizeOf40 rfl (I7.at1 (o:=0) (vs:=g7 e) (nb rfl) rfl) ?_
 exact hR _ H3 _ _ I7.drop ⟨e,x',rfl,rfl,hK⟩
theorem c6w{g:Nat}{d:Int}{x:b7}{H:Hp}{K:d9→b7→Hp→Prop}(h:a3t x d H K):CallV g7 g (.func (.func 82) #[rQ g] #[]) d x H K:=by
 intro E w0 w ps H0 Fr Kw I hE hq
 refine b5m (args:=[vi d]) (fun args w=>Tryz.call82 args w) (a6k (Fi:=[bx g 101 (g8 x)]) (Fr:=Fr) I (h g) (fun v H' Fo w' I' l k q=>?_) (panE hE))
 obtain ⟨e,y,rfl,rfl,hK⟩:=q
 exact hq _ _ _ _ I' l hK
theorem d0Z{d:Int}{f:PM PT}(hf:∀{H:Hp}{x:b7}{r:List Tok}{K:d9→b7→Hp→Prop},Rd H x r→Res H x EH (f r) K→a3t x d H K)(hsh:SShr f){H:Hp}{x:b7}{r:List Tok}{K:d9→b7→Hp→Prop}(h:Rd H x r)(k:Res H x EH (chainP (whG sAdd kAdd) f r) K):T2 x d H K:=by
 intro g
 refine Ct.ofE fun w0 w ps0 H0 R E I hR hE=>d2y ?_
 unfold F35
 refine o7 I Tryz.zeroValue40 (cs:=[vi 0,vi 0,.string ⟨#[]⟩,.slice none 0 0]) rfl fun gr w1 I1 _=>?_
 refine Q9 (e:=9) (c:=M9) (xs:=sAdd) I1 (c8P _ _) rfl rfl b1q b1r (nb rfl) fun s1 F1 w2 hr1 I2 _=>?_
 obtain ⟨H1,I3,lA,hs1,_⟩:=Inv.freezeC I2 hr1 (by decide)
 refine Q9 (e:=3) (c:=b4l) (xs:=kAdd) I3 (c6T _ _) rfl rfl c0a c0b (nb rfl) fun s2 F2 w4 hr2 I4 _=>?_
 obtain ⟨H2,I5,lB,hs2,_⟩:=Inv.freezeC I4 hr2 (by decide)
 refine a7 (a1H _ _ _) ?_
 refine a7 (v:=.agg (Z6 ⟨s1,s2,.func (.func 82) #[rQ g] #[]⟩).toArray) (Pu.ok fun w=>by kernel_rfl) ?_
 have l:=lA.trans lB
 refine A7 hE Tryz.call81 (c0N (sg:=⟨s1,s2,.func (.func 82) #[rQ g] #[]⟩) (part:=f) (r:=r) (K:=K) (fun rd q=>c6w (hf rd q)) hsh (hs1.le lB) hs2 rfl (by decide) (by decide) (h.le l) (Res.next (γ:=Unit) l rfl k)) (I5.bring 1) ?_
 rintro _ H3 _ w6 I6 _ _ ⟨e,x',rfl,rfl,hK⟩
 refine G7 (I6.bring 1) Tryz.sizeOf40 (vs:=g7 e) (cs':=g7 e) rfl rfl (nb rfl) rfl rfl fun w7 I7 _=>?_
 refine a2u Tryz.isAgg40 Tryz.sizeOf40 rfl (I7.at1 (o:=0) (vs:=g7 e) (nb rfl) rfl) ?_
 exact hR _ H3 _ _ I7.drop ⟨e,x',rfl,rfl,hK⟩
theorem c7K{g:Nat}{d:Int}{x:b7}{H:Hp}{K:f8→b7→Hp→Prop}(h:a0h x d H K):CallV i7 g (.func (.func 89) #[rQ g] #[]) d x H K:=by
 intro E w0 w ps H0 Fr Kw I hE hq
 refine b5m (args:=[vi d]) (fun args w=>Tryz.call89 args w) (a6k (Fi:=[bx g 101 (g8 x)]) (Fr:=Fr) I (h g) (fun v H' Fo w' I' l k q=>?_) (panE hE))
 obtain ⟨e,y,rfl,rfl,hK⟩:=q
 exact hq _ _ _ _ I' l hK
theorem c0O{g:Nat}{d k:Int}{sg:ByteArray}{pv:Value}{part:PM PT}{H:Hp}{x:b7}{r:List Tok}{K:f8→b7→Hp→Prop}
  (hp:∀{H':Hp}{x:b7}{r:List Tok}{K:f8→b7→Hp→Prop},Hle H H'→Rd H' x r→Res H' x CH (part r) K→CallV i7 g pv d x H' K) (hsh:SShr part) (h:Rd H x r) (kk:Res H x CH (joinsP sg k part r) K):
  Ct Tryz.prog 88 [rQ g,vi d,.string sg,vi k,pv] H [bx g 101 (g8 x)] (fun v H' Fo=>∃(e:f8)(x':b7),v=.agg (i7 e).toArray∧Fo=[bx g 101 (g8 x')]∧K e x' H') panQE:=by
 refine Ct.ofE fun w0 w ps0 H0 R E I hR hE=>d3H ?_
 unfold F88
 refine o7 I Tryz.zeroValue49 (cs:=[vi 0,vi 0,.slice none 0 0,.slice none 0 0]) rfl fun gr w2 I2 _=>?_
 generalize ho:joinsP sg k part r=o at kk
 unfold joinsP at ho
 have hq:∀c pl,part r=.error (c,pl)→PanQ.q (fltV c pl):=fun c pl e=>by
  rw [D4 e] at ho;subst ho;exact kk
 refine hp (Hle.refl _) h (Res.use rfl hq) E w0 w2 ps0 H0 _ _ (I2.bring 1) hE fun e x1 H1 w3 I3 lA q=>?_
 obtain ⟨a,r1,ea,ra,rd,el,_⟩:=q
 rw [Q0 ea] at ho
 refine o7 I3 Tryz.zeroValue49 (cs:=[vi 0,vi 0,.slice none 0 0,.slice none 0 0]) rfl fun gb w4 I4 _=>?_
 refine G7 I4 Tryz.sizeOf49 (vs:=i7 e) (cs':=i7 e) rfl rfl (nb rfl) rfl rfl fun w5 I5 _=>?_
 have hj1:∀(H:Hp)(w:World)(e z:f8)(x':b7),Inv w0 ps0 H0 H [bx gb 49 (i7 e),bx g 101 (g8 x'),bx gr 49 (i7 z)] w→K e x' H→c0k (rQ gr) (rQ gb) w R E:=by
  intro H w e z x' I h
  unfold c0k
  intro _
  refine c8 (lW Tryz.isAgg49 Tryz.sizeOf49 rfl I) ?_
  refine G7 (I.bring 2) Tryz.sizeOf49 (vs:=i7 e) (cs':=i7 e) rfl rfl (nb rfl) rfl rfl fun _ v _=>?_
  refine a2u Tryz.isAgg49 Tryz.sizeOf49 rfl (v.at1 (o:=0) (vs:=i7 e) (nb rfl) rfl) ?_
  exact hR _ H _ _ v.drop.drop ⟨e,x',rfl,rfl,h⟩
 refine p7 fun j1 hx1=>?_
 refine U0 (J:=fun m l w=>∃(e z:f8)(x':b7)(H':Hp)(a:PT)(r':List Tok),m=r'.length∧l=[]∧Inv w0 ps0 H0 H' [bx gb 49 (i7 e),bx g 101 (g8 x'),bx gr 49 (i7 z)] w∧Hle H H'∧CH H' e a∧Rd H' x' r'∧x'.fl=x.fl∧
  ∃n,r'.length≤n∧joinsF sg k part n a r'=o) ⟨_,e,⟨0,0,Sl.mk none 0 0,Sl.mk none 0 0⟩,x1,H1,a,r1,rfl,rfl,I5,lA,ra,rd,el,_,Nat.le_refl _,ho⟩ ?_
 rintro m τ w next ⟨e,z,x',H',a,r',rfl,_,I,l,ra,rd,el',n,hn1,st⟩ hn
 unfold c5C
 have hm:y4 x' sg H' (fun v x2 H2=>H2=H'∧v=isT sg r'∧∃r2,Rd H' x2 r2∧x2.fl=x'.fl∧r2=(if v then r'.tail else r')):=
  a4S rd (fun c x2 r2 e2=>⟨rfl,c.symm,_,r2,e2,rfl⟩) fun c=>⟨rfl,c.symm,_,rd,rfl,rfl⟩
 refine f9 Tryz.call105 (hm g) (I.bring 1) ?_
 rintro _ H2 _ w6 I6 _ _ ⟨b,x2,rfl,rfl,rfl,rfl,r2,rd2,el2,er2⟩
 refine a4d (fun c=>?_) (fun c=>?_)
 ·rw [if_pos c] at er2
  have hlt:=a1Y (a6E c)
  rw [←er2] at hlt
  obtain ⟨n,rfl⟩:∃m,n=m+1:=⟨n-1,by omega⟩
  unfold joinsF at st
  rw [if_pos c,← er2] at st
  refine O6 I6 fun w7 I7=>?_
  refine u1 (lW Tryz.isAgg49 Tryz.sizeOf49 rfl (I7.bring 1)) ?_
  have hq:∀c pl,part r2=.error (c,pl)→PanQ.q (fltV c pl):=fun c pl e=>by
   rw [D4 e] at st;subst st;exact kk
  refine hp l rd2 (Res.use rfl hq) E w0 w7 ps0 H0 _ _ I7 hE fun e2 x3 H3 w8 I8 l3 q=>?_
  obtain ⟨b,r3,eb,rb,rd3,el3,_⟩:=q
  rw [Q0 eb] at st
  have hlt2:=hsh _ _ _ eb
  refine ⟨(I8.bring 1).hp1.trans (I7.bring 1).hp1.symm,?_⟩
  refine Q9 (e:=49) (c:=i7) (xs:=[e,e2]) I8 (b8l _ _ _ _ _ _ _ _ _ _ _ _ _ _ _ _) rfl rfl N4 N5 (nb rfl) fun s F w9 hr I9 _=>?_
  obtain ⟨H4,I10,l4,hs4,hc4⟩:=Inv.freezeC I9 hr (by decide)
  refine o5 (a7b _ _ _ _) ?_
  refine G7 (I10.bring 1) Tryz.sizeOf49 (vs:=[vi k,vi 0,.slice none 0 0,vs s]) (cs':=[vi k,vi 0,.slice none 0 0,vs s]) rfl rfl (nb rfl) rfl rfl fun w11 I11 _=>?_
  exact hn _ _ _ (show r3.length < r'.length by omega) ⟨⟨k,0,Sl.mk none 0 0,s⟩,z,x3,H4,cX k 0 [] [a,b],r3,rfl,rfl,I11,(l.trans l3).trans l4,CH2 hs4 (ra.le (l3.trans l4)) (rb.le l4) _ _,rd3.le l4,(el3.trans el2).trans el',n,by omega,st⟩
 ·rw [if_neg (by rw [c];decide)] at er2
  have st':o=.ok (a,r'):=by
   cases n with
   | zero=>exact st.symm
   | succ n=>unfold joinsF at st;rw [if_neg (by rw [c];decide)] at st;exact st.symm
  subst st'
  rw [er2] at rd2
  exact hx1 _ _ (hj1 _ _ e z x2 (I6.bring 1) (kk _ e x2 l ra rd2 (el2.trans el')))
theorem d1a{d:Int}{f:PM PT}(hf:∀{H:Hp}{x:b7}{r:List Tok}{K:f8→b7→Hp→Prop},Rd H x r→Res H x CH (f r) K→a0h x d H K)(hsh:SShr f){H:Hp}{x:b7}{r:List Tok}{K:f8→b7→Hp→Prop}(h:Rd H x r)(k:Res H x CH (condOf f r) K):P0 x d H K:=by
 intro g
 refine Ct.ofE fun w0 w ps0 H0 R E I hR hE=>d2B ?_
 unfold F41
 refine Q1 I (cs:=[rQ g]) rfl fun ga w1 I1 _=>?_
 refine o7 I1 Tryz.zeroValue49 (cs:=[vi 0,vi 0,.slice none 0 0,.slice none 0 0]) rfl fun gr w2 I2 _=>?_
 refine a7 (a1H _ _ _) ?_
 refine c8 (ld1 (v:=rQ g) Tryz.isAgg60 ((I2.bring 1).at1 (o:=0) (vs:=[rQ g]) (nb rfl) rfl)) ?_
 obtain ⟨J1,J2,J3⟩:=(I2.bring 1).freeze
 have lA:Hle H (addF H (bx ga 60 [rQ g])):=J2
 have hga:=J3 _ (List.mem_singleton.2 rfl)
 generalize addF H (bx ga 60 [rQ g])=H1 at J1 J2 J3 lA hga
 have hconj:∀{H':Hp}{x:b7}{r:List Tok}{K:f8→b7→Hp→Prop},Hle H1 H'→Rd H' x r→Res H' x CH (conjOf f r) K→CallV i7 g (.func (.func 87) #[] #[rQ ga]) d x H' K:=by
  intro H' x r K l rd q E w0 w ps H0 Fr Kw I hE hq
  have hcell:∀{w:World}{Fs:List Frag},Inv w0 ps H0 H' Fs w→AtW w ga 0 [rQ g]:=fun I=>⟨_,_,_,I.sub _ _ (l _ _ hga),by simp,rfl⟩
  refine a5y (cap:=[rQ ga]) (fun args w=>Tryz.call87 args w) (d3G ?_)
  unfold F87
  refine o7 I Tryz.zeroValue49 (cs:=[vi 0,vi 0,.slice none 0 0,.slice none 0 0]) rfl fun gc w3 I3 _=>?_
  refine c8 (ld1 (v:=rQ g) Tryz.isAgg60 (hcell I3)) ?_
  refine c8 (ld1 (v:=rQ g) Tryz.isAgg60 (hcell I3)) ?_
  refine a7 (a1H _ _ _) ?_
  refine A7 hE Tryz.call88 (c0O (part:=f) (r:=r) (K:=K) (fun _ rd q=>c7K (hf rd q)) hsh rd q) (I3.bring 1) ?_
  rintro _ H3 _ w6 I6 l6 _ ⟨e,x',rfl,rfl,hK⟩
  refine G7 (I6.bring 1) Tryz.sizeOf49 (vs:=i7 e) (cs':=i7 e) rfl rfl (nb rfl) rfl rfl fun w7 I7 _=>?_
  refine a2u Tryz.isAgg49 Tryz.sizeOf49 rfl (I7.at1 (o:=0) (vs:=i7 e) (nb rfl) rfl) ?_
  exact hq _ _ _ _ I7.drop l6 hK
 refine A7 hE Tryz.call88 (c0O (part:=conjOf f) (r:=r) (K:=K) hconj (a8r hsh) (h.le lA) (Res.next (γ:=Unit) lA rfl k)) (J1.bring 1) ?_
 rintro _ H3 _ w6 I6 _ _ ⟨e,x',rfl,rfl,hK⟩
 refine G7 (I6.bring 1) Tryz.sizeOf49 (vs:=i7 e) (cs':=i7 e) rfl rfl (nb rfl) rfl rfl fun w7 I7 _=>?_
 refine a2u Tryz.isAgg49 Tryz.sizeOf49 rfl (I7.at1 (o:=0) (vs:=i7 e) (nb rfl) rfl) ?_
 exact hR _ H3 _ _ I7.drop ⟨e,x',rfl,rfl,hK⟩
end Go.Proofs.YthklmeihgmcljaaGreatDoor
