/- Tokens: the program's reader answers what the plain one does; what it answers is its caller's own. By hand off the reading. -/
import Derived.Test.YthklmeihgmcljaaGreatDoorzEL5
import Derived.Test.YthklmeihgmcljaaGreatDoorzEOT
namespace Go.Proofs.YthklmeihgmcljaaGreatDoor
open Go.RowKit
set_option maxRecDepth 100000
set_option maxHeartbeats 1000000
section
variable {s:ByteArray}
theorem d5g{p q:Nat}{a b:Int×Int}(h:Go2 s p a q b):Od.plcAt s q p a=b:=by
 induction h with
 | refl=>exact Od.b5U _ _ _ _ (fun x=>by omega)
 | @step p q a b hp h ih=>
  have h1:=h.le
  have h2:=O9 s p
  rw [Od.b7S s q p a hp (by omega)]
  have e:Od.nextP a (Utf8.decode s p).1=stepP a (rn s p):=by
   unfold Od.nextP stepP
   by_cases c:(Utf8.decode s p).1=10
   ·rw [if_pos c,if_pos (show rn s p=10 by show ((Utf8.decode s p).1:Int)=10;omega)]
   ·rw [if_neg c,if_neg (show ¬rn s p=10 by show ¬((Utf8.decode s p).1:Int)=10;omega)]
  rw [e]
  exact ih
theorem b8A{p:Nat}:sk s (sk s p)=sk s p:=by
 by_cases c:sk s p < s.size
 ·exact a6C (.inr (d4n (Nat.le_refl _) c))
 ·exact a6C (.inl c)
theorem b8Y{f p:Nat}{a b:Int×Int}{out:List Tk}(h:Go2 s p a (sk s p) b):tkF s (f+1) p a out=tkF s (f+1) (sk s p) b out:=by
 rw [tkF,tkF,b8A,b6C h,b8z (Nat.lt_irrefl _)]
end
theorem Inv.d9w{w0 w:World}{ps:Nat→Prop}{H0 H:Hp}{Fs:List Frag}(k:Nat)(I:Inv w0 ps H0 H Fs w):Inv w0 ps H0 H (Fs.take k++[]::Fs.drop k) w:=I.perm (by
 rw [List.flatten_append,List.flatten_cons,List.nil_append,← List.flatten_append,List.take_append_drop])
theorem Inv.only{w0 w:World}{ps:Nat→Prop}{H0 H:Hp}{Fs:List Frag}(I:Inv w0 ps H0 H Fs w):Inv w0 ps H0 H [[]] w:=by
 have h:∀Gs:List Frag,Inv w0 ps H0 H Gs w→Inv w0 ps H0 H [] w:=by
  intro Gs
  induction Gs with
  | nil=>exact id
  | cons G Gs ih=>exact fun J=>ih J.drop
 exact (h _ I).perm (by simp)
section
variable {H:Hp}{s:ByteArray}
theorem c8F(hs:s.size≤4194304){n:Nat}{b:Int×Int}(hg:Go2 s 0 (1,1) n b){K:b8→Hp→Prop}(h:K (plv b) H):b2T s n H K:=by
 intro w I
 refine Calls.mono (Od.d5Q s n w (fun v w'=>v=Od.placeOf (Od.atP s n)∧Od.Ext w w') hs fun w' hw=>⟨rfl,hw⟩) fun e w' hb=>?_
 obtain ⟨v,rfl,rfl,hb⟩:=hb
 refine ⟨H,[],I.of_below hb,plv b,?_,rfl,h⟩
 rw [show Od.atP s n=b from d5g hg]
 rfl
def readsV(g:Nat)(r:Int):Value:=
 if classS r=3 then .func (.func 137) #[.pointer (some ⟨g,0,none⟩)] #[]
 else if classS r=4 then .func (.func 138) #[.pointer (some ⟨g,0,none⟩)] #[]
 else if classS r=5 then .func (.func 139) #[.pointer (some ⟨g,0,none⟩)] #[]
 else .func (.func 140) #[] #[]
theorem c7D(g:Nat)(r:Int):Ct Tryz.prog 101 [.pointer (some ⟨g,0,none⟩),.int .i32 r] H [] (fun v H' Fo=>v=readsV g r∧Fo=[]∧H=H') noQE:=by
 refine Ct.of fun w0 w ps0 H0 R E I hR=>c8W ?_
 unfold d3W
 refine f9 Tryz.call132 (b1h (r:=r) (H:=H) (K:=fun c H'=>c=classS r∧H=H') ⟨rfl,rfl⟩) I ?_
 rintro _ _ _ w1 I1 _ _ ⟨c,rfl,rfl,rfl,rfl⟩
 unfold readsV at hR
 refine a7 (m9 _ _ _ _ _ _) ?_
 refine b2F (fun c=>?_) (fun c=>?_)
 ·refine a7 (a1H _ _ _) ?_
  exact hR _ H _ _ I1 ⟨by rw [if_pos c],rfl,rfl⟩
 refine a7 (m9 _ _ _ _ _ _) ?_
 refine b2F (fun c2=>?_) (fun c2=>?_)
 ·refine a7 (a1H _ _ _) ?_
  exact hR _ H _ _ I1 ⟨by rw [if_neg c,if_pos c2],rfl,rfl⟩
 refine a7 (m9 _ _ _ _ _ _) ?_
 refine b2F (fun c3=>?_) (fun c3=>?_)
 ·refine a7 (a1H _ _ _) ?_
  exact hR _ H _ _ I1 ⟨by rw [if_neg c,if_neg c2,if_pos c3],rfl,rfl⟩
 exact hR _ H _ _ I1 ⟨by rw [if_neg c,if_neg c2,if_neg c3],rfl,rfl⟩
theorem c6p{P:Program}{E:Pan}{w:World}{K:Value→World→Prop}{f:FuncId}{a:Value}(he:∀args w,(callFunc f args).run P w=.ok (.enter f args) w)(h:Cv P f [a].toArray w K E):opK P E (xCall (.func (.func f) #[a] #[]) []) w K:=by
 refine a2v (f:=f) (args:=[a].toArray) ?_ h
 simp only [xCall,Deferred.ofValue,invoke,Sem.run_bind,Sem.run_pure,Result.andThen_ok,he]
 rfl
theorem d5h(hT:TabsH H)(hE:ErrH H)(hs:s.size≤big){p:Nat}{a:Int×Int}{l:List b6}{e:Sl}{F:Frag}(hp:p < s.size)(ha:Pl a p)(hr:RowL 103 5 i8 e l F){g:Nat}{w0 w:World}{ps:Nat→Prop}{H0:Hp}{Fr:List Frag}{E:Pan}{K:Value→World→Prop}
  (I:Inv w0 ps H0 H ([bx g 155 (y6 (rd s p a) e),F]++Fr) w)
  (h1:(oneO s p).err=0→∀(b:Int×Int)(e':Sl)(F':Frag)(w':World),Go2 s p a (oneO s p).stop b→RowL 103 5 i8 e' l F'→Inv w0 ps H0 H ([bx g 155 (y6 (rd s (oneO s p).stop b) e'),F']++Fr) w'→K (.tuple #[.agg (i8 (tokO (oneO s p))).toArray,vi 0]) w')
  (h2:(oneO s p).err≠0→∀(t:b6)(Fo:List Frag)(w':World),Inv w0 ps H0 H (Fo++Fr) w'→K (.tuple #[.agg (i8 t).toArray,vi (oneO s p).err]) w'):
  opK Tryz.prog E (xCall (readsV g (rn s p)) []) w K:=by
 have fin:∀(f:FuncId)(o:On),o=oneO s p→(∀args w,(callFunc f args).run Tryz.prog w=.ok (.enter f args) w)→
   (∀K:b6→Int→j8→List b6→Hp→Prop,RdK s p a l o K H→Ct Tryz.prog f [.pointer (some ⟨g,0,none⟩)] H [bx g 155 (y6 (rd s p a) e),F] (fun v H' Fo=>∃(r0:b6)(r1:Int)(y0:j8)(c:(List b6))(d:Sl)(e:Frag),v=(Value.tuple #[(Value.agg (i8 r0).toArray),(vi r1)])∧Fo=[bx g 155 (y6 y0 d),e]∧RowL 103 5 i8 d c e∧K r0 r1 y0 c H') noQE)→
   opK Tryz.prog E (xCall (.func (.func f) #[.pointer (some ⟨g,0,none⟩)] #[]) []) w K:=by
  rintro f o rfl he hc
  refine c6p he (a6k I (hc (fun t x r c H'=>H=H'∧(((oneO s p).err=0∧x=0∧t=tokO (oneO s p)∧c=l∧∃b,Go2 s p a (oneO s p).stop b∧r=rd s (oneO s p).stop b)∨((oneO s p).err≠0∧x=(oneO s p).err))) ⟨fun h0 b hb=>⟨rfl,.inl ⟨h0,rfl,rfl,rfl,b,hb,rfl⟩⟩,fun t r hx=>⟨rfl,.inr ⟨hx,rfl⟩⟩⟩) ?_ fun _ _ _ _ _ q=>q.elim)
  rintro _ _ _ w' J _ _ ⟨t,x,y,c,d,F',rfl,rfl,hrow,rfl,q⟩
  rcases q with ⟨h0,rfl,rfl,rfl,b,hb,rfl⟩ | ⟨hx,rfl⟩
  ·exact h1 h0 b d F' w' hb hrow J
  ·exact h2 hx t _ w' J
 unfold readsV
 by_cases c3:classS (rn s p)=3
 ·rw [if_pos c3]
  exact fin _ (wordO s p) (by unfold oneO;rw [if_pos c3]) (fun args w=>Tryz.call137 args w) fun K hK=>d5K hT hs (Nat.le_of_lt hp) ha hK g e F hr
 rw [if_neg c3]
 by_cases c4:classS (rn s p)=4
 ·rw [if_pos c4]
  exact fin _ (numO s p) (by unfold oneO;rw [if_neg c3,if_pos c4]) (fun args w=>Tryz.call138 args w) fun K hK=>d0L hT hs hE hp c4 ha hK g e F hr
 rw [if_neg c4]
 by_cases c5:classS (rn s p)=5
 ·rw [if_pos c5]
  exact fin _ (signO s p) (by unfold oneO;rw [if_neg c3,if_neg c4,if_pos c5]) (fun args w=>Tryz.call139 args w) fun K hK=>d5L hT hs hp c5 ha hK g e F hr
 rw [if_neg c5]
 have eo:oneO s p=On.bad 20:=by unfold oneO;rw [if_neg c3,if_neg c4,if_neg c5]
 rw [eo] at h2
 refine f9 (Fi:=[]) Tryz.call140 (b1C (H:=H) (K:=fun t x H'=>x=20∧H=H') ⟨rfl,rfl⟩) I ?_
 rintro _ _ _ w' J _ _ ⟨t,x,rfl,rfl,rfl,rfl⟩
 exact h2 (by decide) t [bx g 155 (y6 (rd s p a) e),F] w' J
theorem c6q(hT:TabsH H)(hE:ErrH H)(hs4:s.size≤4194304):Ct Tryz.prog 49 [.string s] H [] (fun v H' Fo=>∃(e:Sl)(F:Frag),v=.tuple #[vs e,.agg (l7 (plv (tkS s).2.1)).toArray,vi (tkS s).2.2]∧Fo=[F]∧H=H'∧RowL 103 5 i8 e ((tkS s).1.map tkv) F) noQE:=by
 have hs:s.size≤big:=by simp only [big];omega
 refine Ct.of fun w0 w ps0 H0 R E I hR=>d2E ?_
 unfold F49
 refine o7 I Tryz.zeroValue28 (cs:=[(vi 0),(vi 0)]) rfl fun g1 w1 I1 _=>?_
 have bad:∀{Fs:List Frag}{w':World}(b:Int×Int)(x:Int),tkS s=([],b,x)→Inv w0 ps0 H0 H (bx g1 28 [vi b.1,vi b.2]::Fs) w'→R (.tuple #[.slice none 0 0,.agg #[vi b.1,vi b.2],vi x]) w':=by
  intro Fs w' b x hx J
  refine hR _ H [[]] _ (J.only) ⟨⟨none,0,0⟩,[],?_,rfl,rfl,?_⟩
  ·rw [hx]
  ·rw [hx];exact RowL.nil a2x a2y
 refine f9 Tryz.call97 (d4s hT (H:=H) (s:=s) (K:=fun r x H'=>H=H'∧((65536 < s.size∧r=0∧x=10)∨(¬65536 < s.size∧((∃n:Nat,chkAt s 0=some n∧r=n∧x=11)∨(chkAt s 0=none∧r=0∧x=0))))) ?_) I1 ?_
 ·by_cases c:65536 < s.size
  ·rw [if_pos c];exact ⟨rfl,.inl ⟨c,rfl,rfl⟩⟩
  ·rw [if_neg c]
   cases hc:chkAt s 0 with
   | some n=>exact ⟨rfl,.inr ⟨c,.inl ⟨n,rfl,rfl,rfl⟩⟩⟩
   | none=>exact ⟨rfl,.inr ⟨c,.inr ⟨rfl,rfl,rfl⟩⟩⟩
 rintro _ _ _ w2 I2 _ _ ⟨r,x,rfl,rfl,rfl,hq⟩
 refine a7 (m5 _ _ (vi r) rfl) ?_
 refine a7 (m5 _ _ (vi x) rfl) ?_
 refine a7 (B7 _ _ _ _ _ _) ?_
 refine b4j (fun hx=>?_) (fun hx=>?_)
 ·obtain ⟨n,b,hn,hg,ht⟩:∃(n:Nat)(b:Int×Int),r=n∧Go2 s 0 (1,1) n b∧tkS s=([],b,x):=by
   unfold tkS
   rcases hq with ⟨c,rfl,rfl⟩ | ⟨c,⟨n,hn,rfl,rfl⟩ | ⟨_,rfl,rfl⟩⟩
   ·exact ⟨0,(1,1),rfl,.refl,by rw [if_pos c]⟩
   ·obtain ⟨_,b,hg⟩:=c5V (s:=s) (1,1) (Nat.le_refl _) hn
    exact ⟨n,b,rfl,hg,by rw [if_neg c,hn];dsimp only;rw [b6C hg]⟩
   ·exact absurd rfl hx
  subst hn
  refine f9 Tryz.call98 (c8F hs4 hg (H:=H) (K:=fun q H'=>q=plv b∧H=H') ⟨rfl,rfl⟩) I2 ?_
  rintro _ _ _ w3 I3 _ _ ⟨q,rfl,rfl,rfl,rfl⟩
  refine G7 I3 Tryz.sizeOf28 (vs:=[vi b.1,vi b.2]) (cs':=[vi b.1,vi b.2]) rfl rfl (nb rfl) rfl rfl fun w4 I4 _=>?_
  refine a2u Tryz.isAgg28 Tryz.sizeOf28 rfl (I4.at1 (o:=0) (vs:=[vi b.1,vi b.2]) (nb rfl) rfl) ?_
  exact bad b x ht I4
 have hx:x=0:=hx
 subst hx
 obtain ⟨c0,hc0⟩:¬65536 < s.size∧chkAt s 0=none:=by
  rcases hq with ⟨_,_,q⟩ | ⟨c,⟨_,_,_,q⟩ | ⟨c2,_,_⟩⟩
  ·cases q
  ·cases q
  ·exact ⟨c,c2⟩
 have hT0:tkS s=tkF s (s.size+1) 0 (1,1) []:=by unfold tkS;rw [if_neg c0,hc0]
 have hA:b2T s 0 H (fun q H'=>q=plv (1,1)∧H=H'):=c8F (n:=0) hs4 .refl ⟨rfl,rfl⟩
 refine f9 Tryz.call98 hA I2 ?_
 rintro _ _ _ w3 I3 _ _ ⟨q,rfl,rfl,rfl,rfl⟩
 refine a7 (b8o _ _ _) ?_
 refine Q1 I3 (cs:=y6 (rd s 0 (1,1)) ⟨none,0,0⟩) rfl fun g2 w4 I4 _=>?_
 refine p7 fun j1 hx1=>?_
 have hB:a1d (rd s 0 (1,1)) [] H (fun r l H'=>l=[]∧H=H'∧∃b,Go2 s 0 (1,1) (sk s 0) b∧r=rd s (sk s 0) b):=b8V hT hs (Nat.zero_le _) Pl0 fun b hb=>⟨rfl,rfl,b,hb,rfl⟩
 refine f9 Tryz.call99 (hB g2 ⟨none,0,0⟩ [] (RowL.nil a2x a2y)) (I4.d9w 1) ?_
 rintro _ _ _ w5 I5 _ _ ⟨y,l,e,F,rfl,rfl,hrow,rfl,rfl,b,hb,rfl⟩
 refine U0 (J:=fun n l w'=>l=[]∧∃(out:List Tk)(p:Nat)(a:Int×Int)(e:Sl)(F:Frag),n=s.size-p∧p≤s.size∧sk s p=p∧Pl a p∧out.length≤32768∧tkF s (s.size+1) p a out=tkF s (s.size+1) 0 (1,1) []∧RowL 103 5 i8 e (out.map tkv) F∧Inv w0 ps0 H0 H ([bx g2 155 (y6 (rd s p a) e),F]++[bx g1 28 [vi 0,vi 0]]) w') ⟨_,rfl,[],sk s 0,b,e,F,rfl,(b7O (Nat.zero_le _)).2,b8A,hb.pl Pl0,by decide,(b8Y hb).symm,hrow,I5⟩ ?_
 clear hrow I5
 rintro n τ w6 next2 ⟨_,out,p,a,e,F,rfl,hp,hsk,ha,ho,hev,hrow,I6⟩ hn2
 unfold c4U
 refine a7 (o3 _) ?_
 refine a7 a0v ?_
 refine c8 (l1 (v:=vi (p:Int)) Tryz.isAgg3 I6 rfl) ?_
 refine a7 (X9 _) ?_
 refine a7 (A8 _ _ _ _ _ _) ?_
 have hlen:(out.map tkv).length=out.length:=List.length_map _
 rw [tkF,hsk,b8z (Nat.lt_irrefl _)] at hev
 refine b2F (fun c1=>?_) (fun c1=>?_)
 ·have hp2:p < s.size:=by omega
  rw [if_neg (by omega)] at hev
  refine a7 (o3 _) ?_
  refine a7 a7r ?_
  refine c8 (ldA Tryz.isAgg28 Tryz.sizeOf28 rfl (I6.at1 (o:=2) (vs:=[vi a.1,vi a.2]) (nb rfl) rfl)) ?_
  refine o7 I6 Tryz.zeroValue28 (cs:=[(vi 0),(vi 0)]) rfl fun g3 w7 I7 _=>?_
  refine G7 I7 Tryz.sizeOf28 (vs:=[vi a.1,vi a.2]) (cs':=[vi a.1,vi a.2]) rfl rfl (nb rfl) rfl rfl fun w8 I8 _=>?_
  refine a7 (o3 _) ?_
  refine a7 b1s ?_
  refine c8 (l1 Tryz.isAgg61 (I8.bring 1) rfl) ?_
  refine a7 (b4H Tryz.underlying61 hrow) ?_
  refine a7 (m9 _ _ _ _ _ _) ?_
  rw [hlen]
  refine b2F (fun c2=>?_) (fun c2=>?_)
  ·rw [if_pos (by omega)] at hev
   refine O6 I8 fun w9 I9=>?_
   refine u1 (lW Tryz.isAgg28 Tryz.sizeOf28 rfl I9) ?_
   refine G7 (I9.bring 3) Tryz.sizeOf28 (vs:=[vi a.1,vi a.2]) (cs':=[vi a.1,vi a.2]) rfl rfl (nb rfl) rfl rfl fun w10 I10 _=>?_
   refine a2u Tryz.isAgg28 Tryz.sizeOf28 rfl (I10.at1 (o:=0) (vs:=[vi a.1,vi a.2]) (nb rfl) rfl) ?_
   exact bad a 23 (by rw [hT0,← hev]) I10
  rw [if_neg (by omega)] at hev
  have I8':Inv w0 ps0 H0 H ([bx g2 155 (y6 (rd s p a) e),F]++[bx g3 28 [vi a.1,vi a.2],bx g1 28 [vi 0,vi 0]]) w8:=(I8.bring 2).bring 2
  have hP:E2 (rd s p a) (out.map tkv) H (fun r k H'=>r=rn s p∧H=H'):=a6D hp (by rw [if_pos hp2];exact ⟨rfl,rfl⟩)
  refine f9 Tryz.call100 (hP g2 e F hrow) I8' ?_
  rintro _ _ _ w9 I9 _ _ ⟨r,k,rfl,rfl,rfl,rfl⟩
  refine a7 (m5 _ _ (Value.int .i32 (rn s p)) rfl) ?_
  refine a7 (m5 _ _ (Value.bool k) rfl) ?_
  refine f9 (Fi:=[]) Tryz.call101 (c7D g2 (rn s p)) I9 ?_
  rintro _ _ _ w10 I10 _ _ ⟨rfl,rfl,rfl⟩
  refine d5h hT hE hs hp2 ha hrow I10 (fun h0 b e2 F2 w11 hg hrow2 I11=>?_) (fun h0 t Fo w11 I11=>?_)
  ·rw [if_neg (fun x=>x h0)] at hev
   obtain ⟨q1,q2⟩:=b5i hp2 h0
   rw [b6C hg] at hev
   have hb:=hg.pl ha
   refine a7 (m5 _ _ (.agg (i8 (tokO (oneO s p))).toArray) rfl) ?_
   refine a7 (m5 _ _ (vi 0) rfl) ?_
   refine o7 I11 Tryz.zeroValue103 (cs:=[(vi 0),(Value.string ⟨#[]⟩),(vi 0),(vi 0),(vi 0)]) rfl fun g4 w12 I12 _=>?_
   refine G7 I12 Tryz.sizeOf103 (vs:=i8 (tokO (oneO s p))) (cs':=i8 (tokO (oneO s p))) rfl rfl (nb rfl) rfl rfl fun w13 I13 _=>?_
   refine a7 (B7 _ _ _ _ _ _) ?_
   refine b4j (fun x=>absurd rfl x) (fun _=>?_)
   refine c8 (lW Tryz.isAgg28 Tryz.sizeOf28 rfl (I13.bring 3)) ?_
   refine a7 b1p ?_
   refine G7 I13 Tryz.sizeOf28 (vs:=[vi a.1,vi a.2]) (cs':=i8 (b6.mk (oneO s p).kind (oneO s p).text (oneO s p).num (plv a))) rfl rfl (nb rfl) rfl rfl fun w14 I14 _=>?_
   refine O6 I14 fun w15 I15=>?_
   refine o5 (o3 _) ?_
   refine o5 b1s ?_
   refine u1 (l1 Tryz.isAgg61 (I15.bring 1) rfl) ?_
   refine u1 (lW Tryz.isAgg103 Tryz.sizeOf103 rfl I15) ?_
   refine Q9 (e:=103) (c:=i8) (xs:=[b6.mk (oneO s p).kind (oneO s p).text (oneO s p).num (plv a)]) I15 (b6e _ _ _ _ _) rfl rfl a2x a2y (nb rfl) fun t2 F3 w16 hrow3 I16 fr=>?_
   refine ⟨fr _ (I15.bring 1).lt1,?_⟩
   refine b7B (s:=e2) (xs:=out.map tkv) (I16.bring 3) hrow2 (hrow3.srcO ((I16.bring 3).bring 1)) (by rw [hlen];simp only [List.length_singleton];omega) fun e4 F4 w17 hrow4 I17 _=>?_
   refine o5 (o3 _) ?_
   refine o5 b1s ?_
   refine G7 (((I17.bring 1).drop).bring 2) Tryz.sizeOf61 (vs:=[vs e4]) (cs':=y6 (rd s (oneO s p).stop b) e4) rfl rfl (nb rfl) rfl rfl fun w18 I18 _=>?_
   have hB2:a1d (rd s (oneO s p).stop b) (out.map tkv++[b6.mk (oneO s p).kind (oneO s p).text (oneO s p).num (plv a)]) H (fun r l H'=>l=out.map tkv++[b6.mk (oneO s p).kind (oneO s p).text (oneO s p).num (plv a)]∧H=H'∧∃b',Go2 s (oneO s p).stop b (sk s (oneO s p).stop) b'∧r=rd s (sk s (oneO s p).stop) b'):=b8V hT hs q2 hb fun b' hb'=>⟨rfl,rfl,b',hb',rfl⟩
   have I18':Inv w0 ps0 H0 H ([bx g2 155 (y6 (rd s (oneO s p).stop b) e4),F4]++[bx g1 28 [vi 0,vi 0]]) w18:=((I18.bring 2).drop.bring 2).drop
   refine f9 Tryz.call99 (hB2 g2 e4 F4 hrow4) I18' ?_
   rintro _ _ _ w19 I19 _ _ ⟨y,l,e5,F5,rfl,rfl,hrow5,rfl,rfl,b',hb',rfl⟩
   have k:=b7O (s:=s) q2
   rw [c2O s.size (s.size+1) _ _ _ (by omega) (by omega) q2,b8Y hb'] at hev
   refine hn2 _ _ _ (show s.size-sk s (oneO s p).stop < s.size-p by omega) ⟨rfl,out++[⟨(oneO s p).kind,(oneO s p).text,(oneO s p).num,a⟩],_,b',e5,F5,rfl,k.2,b8A,hb'.pl hb,by simp only [List.length_append,List.length_singleton];omega,hev,?_,I19⟩
   rw [List.map_append]
   exact hrow5
  ·rw [if_pos h0] at hev
   refine a7 (m5 _ _ (.agg (i8 t).toArray) rfl) ?_
   refine a7 (m5 _ _ (vi (oneO s p).err) rfl) ?_
   refine o7 I11 Tryz.zeroValue103 (cs:=[(vi 0),(Value.string ⟨#[]⟩),(vi 0),(vi 0),(vi 0)]) rfl fun g4 w12 I12 _=>?_
   refine G7 I12 Tryz.sizeOf103 (vs:=i8 t) (cs':=i8 t) rfl rfl (nb rfl) rfl rfl fun w13 I13 _=>?_
   refine a7 (B7 _ _ _ _ _ _) ?_
   refine b4j (fun _=>?_) (fun x=>absurd x h0)
   have I13':Inv w0 ps0 H0 H (bx g3 28 [vi a.1,vi a.2]::bx g1 28 [vi 0,vi 0]::(bx g4 103 (i8 t)::Fo)) w13:=I13.perm (by
    simp only [List.flatten_cons,List.flatten_append,List.flatten_nil,List.append_nil]
    have:((bx g3 28 [vi a.1,vi a.2]++bx g1 28 [vi 0,vi 0])++(bx g4 103 (i8 t)++Fo.flatten)).Perm ((bx g4 103 (i8 t)++Fo.flatten)++(bx g3 28 [vi a.1,vi a.2]++bx g1 28 [vi 0,vi 0])):=List.perm_append_comm
    rw [List.append_assoc,List.append_assoc] at this
    exact this)
   refine O6 I13' fun w14 I14=>?_
   refine u1 (lW Tryz.isAgg28 Tryz.sizeOf28 rfl I14) ?_
   refine G7 (I14.bring 1) Tryz.sizeOf28 (vs:=[vi a.1,vi a.2]) (cs':=[vi a.1,vi a.2]) rfl rfl (nb rfl) rfl rfl fun w15 I15 _=>?_
   refine a2u Tryz.isAgg28 Tryz.sizeOf28 rfl (I15.at1 (o:=0) (vs:=[vi a.1,vi a.2]) (nb rfl) rfl) ?_
   exact bad a _ (by rw [hT0,← hev]) I15
 ·refine hx1 _ _ ?_
  rw [if_pos (by omega)] at hev
  unfold c4T
  intro _
  refine O6 I6 fun w7 I7=>?_
  refine o5 (o3 _) ?_
  refine o5 b1s ?_
  refine o5 (o3 _) ?_
  refine o5 a7r ?_
  refine o5 (b3G) ?_
  refine u1 (l1 Tryz.isAgg61 I7 rfl) ?_
  refine u1 (ldA Tryz.isAgg28 Tryz.sizeOf28 rfl (I7.at1 (o:=2) (vs:=[vi a.1,vi a.2]) (nb rfl) rfl)) ?_
  refine o5 (b4m _ _ _) ?_
  refine Q9 (e:=103) (c:=i8) (xs:=[b6.mk 5 ⟨#[]⟩ 0 (plv a)]) I7 (b6e _ _ _ _ _) rfl rfl a2x a2y (nb rfl) fun t2 F3 w8 hrow3 I8 fr=>?_
  refine ⟨fr _ I7.lt1,?_⟩
  refine b7B (s:=e) (xs:=out.map tkv) (I8.bring 2) hrow (hrow3.srcO ((I8.bring 2).bring 1)) (by rw [hlen];simp only [List.length_singleton];omega) fun e4 F4 w9 hrow4 I9 _=>?_
  refine G7 (I9.bring 3) Tryz.sizeOf28 (vs:=[vi 0,vi 0]) (cs':=[vi 0,vi 0]) rfl rfl (nb rfl) rfl rfl fun w10 I10 _=>?_
  refine a2u Tryz.isAgg28 Tryz.sizeOf28 rfl (I10.at1 (o:=0) (vs:=[vi 0,vi 0]) (nb rfl) rfl) ?_
  refine hR _ H [F4] _ ?_ ⟨e4,F4,?_,rfl,rfl,?_⟩
  ·exact (((I10.drop.bring 1).drop).bring 1).drop
  ·rw [hT0,← hev]
  ·rw [hT0,← hev,List.map_append];exact hrow4
end
section
variable {H:Hp}(hT:TabsH H)(hE:ErrH H)
include hT hE
theorem c6r{s:ByteArray}(hs4:s.size≤4194304){K:Sl→b8→Int→Hp→Prop}(h:∀(e:Sl)(H':Hp),Hle H H'→SlH H' 5 i8 e ((tkS s).1.map tkv)→K e (plv (tkS s).2.1) (tkS s).2.2 H'):b0G s H K:=fun w I=>
 Cv.mono (c6q hT hE hs4 w I) (fun _ _ ⟨_,_,J,e,F,hv,hf,hh,hr⟩=>by
  subst hf;subst hh
  obtain ⟨H2,J2,hl,hsl⟩:=J.freezeL hr (by decide)
  exact ⟨H2,[],J2,e,_,_,hv,rfl,h e H2 hl hsl⟩) fun _ _ ⟨_,_,_,q⟩=>q.elim
end
section
variable {H:Hp}
end
end Go.Proofs.YthklmeihgmcljaaGreatDoor
