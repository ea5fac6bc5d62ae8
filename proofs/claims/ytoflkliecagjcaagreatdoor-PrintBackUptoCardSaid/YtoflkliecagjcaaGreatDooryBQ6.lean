/- Tokens: the program's reader answers what the plain one does; what it answers is its caller's own. By hand off the reading. -/
import Derived.Test.YtoflkliecagjcaaGreatDooryBL5
import Derived.Test.YtoflkliecagjcaaGreatDooryBOT
import Derived.Test.YtoflkliecagjcaaGreatDooryBQo
namespace Go.Proofs.YtoflkliecagjcaaGreatDoor
open Go.RowKit
set_option maxRecDepth 100000
set_option maxHeartbeats 1000000
theorem c1a(a0:Int)(a1:ByteArray)(a2 a3 a4:Int)(w:World):(Instr.buildSlice 79 1 #[(0,(Value.agg #[(Value.int .i64 a0),(Value.string a1),(Value.int .i64 a2),(Value.int .i64 a3),(Value.int .i64 a4)]))]).run Tryz.prog w=.ok (.slice (some ⟨w.heap.size,0,none⟩) 1 1) (w.alloc (.cells [(Value.int .i64 a0),(Value.string a1),(Value.int .i64 a2),(Value.int .i64 a3),(Value.int .i64 a4)].toArray 88)):=by kernel_rfl
theorem d3b:Tryz.prog.info? 88=some ((Tryz.prog.info? 88).getD default):=by kernel_rfl
theorem c4t{E:Pan}{w0 w:World}{ps:Nat→Prop}{H0 H:Hp}{Fs:List Frag}{K:Value→World→Prop}{s:Sl}{xs:List b7}{F:Frag}{t2:Sl}{ys:List b7}{ks:List Bool}{ty:TypeId}(I:Inv w0 ps H0 H (F::Fs) w)(hr:RowL 88 5 g8 s xs F)(hs:SrcO w g8 t2 ys)(hb:(xs.length+ys.length)*49≤140737488355328)(h:∀(s':Sl)(F':Frag)(w':World),RowL 88 5 g8 s' (xs++ys) F'→Inv w0 ps H0 H (F'::Fs) w'→(∀k,k < w.heap.size→(∀p∈F,p.1≠k)→w'.heap[k]? = w.heap[k]?)→K (.slice s'.a s'.n s'.c) w'):opK Tryz.prog E (xBuiltin .append #[79,79] ty ks [.slice s.a s.n s.c,.slice t2.a t2.n t2.c]) w K:=
 b2K (bytes:=48) Tryz.underlying79 d3b (z:=(Value.agg #[(Value.int .i64 0),(Value.string ⟨#[]⟩),(Value.int .i64 0),(Value.int .i64 0),(Value.int .i64 0)])) (by kernel_rfl) (by kernel_rfl) (by kernel_rfl) (by kernel_rfl) I hr hs hb h
theorem b7x(a0 a1 a2:Int):Pu Tryz.prog (xV (Instr.build 88 #[(0,(vi a0)),(3,(.agg #[vi a1,vi a2]))])) (.agg #[(vi a0),.string ⟨#[]⟩,(vi 0),vi a1,vi a2]):=Pu.ok fun w=>by kernel_rfl
theorem c4u:Pu Tryz.prog (xV (Instr.build 31 #[])) (.agg #[(vi 0),(vi 0)]):=Pu.ok fun w=>by kernel_rfl
theorem c2k{g o:Nat}:Pu Tryz.prog (xV (Instr.fieldAt 88 (.pointer (some ⟨g,o,none⟩)) 3)) (.pointer (some ⟨g,o+3,none⟩)):=Pu.ok fun w=>by kernel_rfl
section
variable {s:ByteArray}
theorem d3c{p q:Nat}{a b:Int×Int}(h:Go2 s p a q b):Od.plcAt s q p a=b:=by
 induction h with
 | refl=>exact Od.b2u _ _ _ _ (fun x=>by omega)
 | @step p q a b hp h ih=>
  have h1:=h.le
  have h2:=O2 s p
  rw [Od.b5g s q p a hp (by omega)]
  have e:Od.nextP a (Utf8.decode s p).1=stepP a (rn s p):=by
   unfold Od.nextP stepP
   by_cases c:(Utf8.decode s p).1=10
   ·rw [if_pos c,if_pos (show rn s p=10 by show ((Utf8.decode s p).1:Int)=10;omega)]
   ·rw [if_neg c,if_neg (show ¬rn s p=10 by show ¬((Utf8.decode s p).1:Int)=10;omega)]
  rw [e]
  exact ih
theorem b6c{p:Nat}:sk s (sk s p)=sk s p:=by
 by_cases c:sk s p < s.size
 ·exact a3Q (.inr (d2h (Nat.le_refl _) c))
 ·exact a3Q (.inl c)
theorem b6Q{f p:Nat}{a b:Int×Int}{out:List Tk}(h:Go2 s p a (sk s p) b):tkF s (f+1) p a out=tkF s (f+1) (sk s p) b out:=by
 rw [tkF,tkF,b6c,c1Y h,b6b (Nat.lt_irrefl _)]
end
theorem Inv.d6D{w0 w:World}{ps:Nat→Prop}{H0 H:Hp}{Fs:List Frag}(k:Nat)(I:Inv w0 ps H0 H Fs w):Inv w0 ps H0 H (Fs.take k++[]::Fs.drop k) w:=I.perm (by
 rw [List.flatten_append,List.flatten_cons,List.nil_append,← List.flatten_append,List.take_append_drop])
theorem Inv.only{w0 w:World}{ps:Nat→Prop}{H0 H:Hp}{Fs:List Frag}(I:Inv w0 ps H0 H Fs w):Inv w0 ps H0 H [[]] w:=by
 have h:∀Gs:List Frag,Inv w0 ps H0 H Gs w→Inv w0 ps H0 H [] w:=by
  intro Gs
  induction Gs with
  | nil=>exact id
  | cons G Gs ih=>exact fun J=>ih J.drop
 exact (h _ I).perm (by simp)
section
variable {H:Hp}{s:ByteArray}
theorem c7F(hs:s.size≤4194304){n:Nat}{b:Int×Int}(hg:Go2 s 0 (1,1) n b){K:c8→Hp→Prop}(h:K (plv b) H):a9r s n H K:=by
 intro w I
 refine Calls.mono (Od.d4t s n w (fun v w'=>v=Od.placeOf (Od.atP s n)∧Od.Ext w w') hs fun w' hw=>⟨rfl,hw⟩) fun e w' hb=>?_
 obtain ⟨v,rfl,rfl,hb⟩:=hb
 refine ⟨H,[],I.of_below hb,plv b,?_,rfl,h⟩
 rw [show Od.atP s n=b from d3c hg]
 rfl
def readsV(g:Nat)(r:Int):Value:=
 if classS r=3 then .func (.func 97) #[.pointer (some ⟨g,0,none⟩)] #[]
 else if classS r=4 then .func (.func 98) #[.pointer (some ⟨g,0,none⟩)] #[]
 else if classS r=5 then .func (.func 99) #[.pointer (some ⟨g,0,none⟩)] #[]
 else .func (.func 100) #[] #[]
theorem c6k(g:Nat)(r:Int):Ct Tryz.prog 65 [.pointer (some ⟨g,0,none⟩),.int .i32 r] H [] (fun v H' Fo=>v=readsV g r∧Fo=[]∧H=H') noQE:=by
 refine Ct.of fun w0 w ps0 H0 R E I hR=>d1s ?_
 unfold F65
 refine g6 Tryz.call93 (a7H (r:=r) (H:=H) (K:=fun c H'=>c=classS r∧H=H') ⟨rfl,rfl⟩) I ?_
 rintro _ _ _ w1 I1 _ _ ⟨c,rfl,rfl,rfl,rfl⟩
 unfold readsV at hR
 refine a7 (l9 _ _ _ _ _ _) ?_
 refine a2q (fun c=>?_) (fun c=>?_)
 ·refine a7 (Q7 _ _ _) ?_
  exact hR _ H _ _ I1 ⟨by rw [if_pos c],rfl,rfl⟩
 refine a7 (l9 _ _ _ _ _ _) ?_
 refine a2q (fun c2=>?_) (fun c2=>?_)
 ·refine a7 (Q7 _ _ _) ?_
  exact hR _ H _ _ I1 ⟨by rw [if_neg c,if_pos c2],rfl,rfl⟩
 refine a7 (l9 _ _ _ _ _ _) ?_
 refine a2q (fun c3=>?_) (fun c3=>?_)
 ·refine a7 (Q7 _ _ _) ?_
  exact hR _ H _ _ I1 ⟨by rw [if_neg c,if_neg c2,if_pos c3],rfl,rfl⟩
 exact hR _ H _ _ I1 ⟨by rw [if_neg c,if_neg c2,if_neg c3],rfl,rfl⟩
theorem c4v{P:Program}{E:Pan}{w:World}{K:Value→World→Prop}{f:FuncId}{a:Value}(he:∀args w,(callFunc f args).run P w=.ok (.enter f args) w)(h:Cv P f [a].toArray w K E):opK P E (xCall (.func (.func f) #[a] #[]) []) w K:=by
 refine a0R (f:=f) (args:=[a].toArray) ?_ h
 simp only [xCall,Deferred.ofValue,invoke,Sem.run_bind,Sem.run_pure,Result.andThen_ok,he]
 rfl
theorem d3d(hT:TabsH H)(hE:ErrH H)(hs:s.size≤big){p:Nat}{a:Int×Int}{l:List b7}{e:Sl}{F:Frag}(hp:p < s.size)(ha:Pl a p)(hr:RowL 88 5 g8 e l F){g:Nat}{w0 w:World}{ps:Nat→Prop}{H0:Hp}{Fr:List Frag}{E:Pan}{K:Value→World→Prop}
  (I:Inv w0 ps H0 H ([bx g 123 (u0 (rd s p a) e),F]++Fr) w)
  (h1:(oneO s p).err=0→∀(b:Int×Int)(e':Sl)(F':Frag)(w':World),Go2 s p a (oneO s p).stop b→RowL 88 5 g8 e' l F'→Inv w0 ps H0 H ([bx g 123 (u0 (rd s (oneO s p).stop b) e'),F']++Fr) w'→K (.tuple #[.agg (g8 (tokO (oneO s p))).toArray,vi 0]) w')
  (h2:(oneO s p).err≠0→∀(t:b7)(Fo:List Frag)(w':World),Inv w0 ps H0 H (Fo++Fr) w'→K (.tuple #[.agg (g8 t).toArray,vi (oneO s p).err]) w'):
  opK Tryz.prog E (xCall (readsV g (rn s p)) []) w K:=by
 have fin:∀(f:FuncId)(o:On),o=oneO s p→(∀args w,(callFunc f args).run Tryz.prog w=.ok (.enter f args) w)→
   (∀K:b7→Int→d7→List b7→Hp→Prop,RdK s p a l o K H→Ct Tryz.prog f [.pointer (some ⟨g,0,none⟩)] H [bx g 123 (u0 (rd s p a) e),F] (fun v H' Fo=>∃(r0:b7)(r1:Int)(y0:d7)(c:(List b7))(d:Sl)(e:Frag),v=(Value.tuple #[(Value.agg (g8 r0).toArray),(vi r1)])∧Fo=[bx g 123 (u0 y0 d),e]∧RowL 88 5 g8 d c e∧K r0 r1 y0 c H') noQE)→
   opK Tryz.prog E (xCall (.func (.func f) #[.pointer (some ⟨g,0,none⟩)] #[]) []) w K:=by
  rintro f o rfl he hc
  refine c4v he (a3B I (hc (fun t x r c H'=>H=H'∧(((oneO s p).err=0∧x=0∧t=tokO (oneO s p)∧c=l∧∃b,Go2 s p a (oneO s p).stop b∧r=rd s (oneO s p).stop b)∨((oneO s p).err≠0∧x=(oneO s p).err))) ⟨fun h0 b hb=>⟨rfl,.inl ⟨h0,rfl,rfl,rfl,b,hb,rfl⟩⟩,fun t r hx=>⟨rfl,.inr ⟨hx,rfl⟩⟩⟩) ?_ fun _ _ _ _ _ q=>q.elim)
  rintro _ _ _ w' J _ _ ⟨t,x,y,c,d,F',rfl,rfl,hrow,rfl,q⟩
  rcases q with ⟨h0,rfl,rfl,rfl,b,hb,rfl⟩ | ⟨hx,rfl⟩
  ·exact h1 h0 b d F' w' hb hrow J
  ·exact h2 hx t _ w' J
 unfold readsV
 by_cases c3:classS (rn s p)=3
 ·rw [if_pos c3]
  exact fin _ (wordO s p) (by unfold oneO;rw [if_pos c3]) (fun args w=>Tryz.call97 args w) fun K hK=>d4n hT hs (Nat.le_of_lt hp) ha hK g e F hr
 rw [if_neg c3]
 by_cases c4:classS (rn s p)=4
 ·rw [if_pos c4]
  exact fin _ (numO s p) (by unfold oneO;rw [if_neg c3,if_pos c4]) (fun args w=>Tryz.call98 args w) fun K hK=>c9b hT hs hE hp c4 ha hK g e F hr
 rw [if_neg c4]
 by_cases c5:classS (rn s p)=5
 ·rw [if_pos c5]
  exact fin _ (signO s p) (by unfold oneO;rw [if_neg c3,if_neg c4,if_pos c5]) (fun args w=>Tryz.call99 args w) fun K hK=>d4o hT hs hp c5 ha hK g e F hr
 rw [if_neg c5]
 have eo:oneO s p=On.bad 20:=by unfold oneO;rw [if_neg c3,if_neg c4,if_neg c5]
 rw [eo] at h2
 refine g6 (Fi:=[]) Tryz.call100 (a8i (H:=H) (K:=fun t x H'=>x=20∧H=H') ⟨rfl,rfl⟩) I ?_
 rintro _ _ _ w' J _ _ ⟨t,x,rfl,rfl,rfl,rfl⟩
 exact h2 (by decide) t [bx g 123 (u0 (rd s p a) e),F] w' J
theorem c4w(hT:TabsH H)(hE:ErrH H)(hs4:s.size≤4194304):Ct Tryz.prog 33 [.string s] H [] (fun v H' Fo=>∃(e:Sl)(F:Frag),v=.tuple #[vs e,.agg (m8 (plv (tkS s).2.1)).toArray,vi (tkS s).2.2]∧Fo=[F]∧H=H'∧RowL 88 5 g8 e ((tkS s).1.map tkv) F) noQE:=by
 have hs:s.size≤big:=by simp only [big];omega
 refine Ct.of fun w0 w ps0 H0 R E I hR=>d0J ?_
 unfold F33
 refine r7 I Tryz.zeroValue31 (cs:=[(vi 0),(vi 0)]) rfl fun g1 w1 I1 _=>?_
 have bad:∀{Fs:List Frag}{w':World}(b:Int×Int)(x:Int),tkS s=([],b,x)→Inv w0 ps0 H0 H (bx g1 31 [vi b.1,vi b.2]::Fs) w'→R (.tuple #[.slice none 0 0,.agg #[vi b.1,vi b.2],vi x]) w':=by
  intro Fs w' b x hx J
  refine hR _ H [[]] _ (J.only) ⟨⟨none,0,0⟩,[],?_,rfl,rfl,?_⟩
  ·rw [hx]
  ·rw [hx];exact RowL.nil a5p a5q
 refine g6 Tryz.call61 (d2n hT (H:=H) (s:=s) (K:=fun r x H'=>H=H'∧((65536 < s.size∧r=0∧x=10)∨(¬65536 < s.size∧((∃n:Nat,chkAt s 0=some n∧r=n∧x=11)∨(chkAt s 0=none∧r=0∧x=0))))) ?_) I1 ?_
 ·by_cases c:65536 < s.size
  ·rw [if_pos c];exact ⟨rfl,.inl ⟨c,rfl,rfl⟩⟩
  ·rw [if_neg c]
   cases hc:chkAt s 0 with
   | some n=>exact ⟨rfl,.inr ⟨c,.inl ⟨n,rfl,rfl,rfl⟩⟩⟩
   | none=>exact ⟨rfl,.inr ⟨c,.inr ⟨rfl,rfl,rfl⟩⟩⟩
 rintro _ _ _ w2 I2 _ _ ⟨r,x,rfl,rfl,rfl,hq⟩
 refine a7 (j9 _ _ (vi r) rfl) ?_
 refine a7 (j9 _ _ (vi x) rfl) ?_
 refine a7 (Q6 _ _ _ _ _ _) ?_
 refine b0v (fun hx=>?_) (fun hx=>?_)
 ·obtain ⟨n,b,hn,hg,ht⟩:∃(n:Nat)(b:Int×Int),r=n∧Go2 s 0 (1,1) n b∧tkS s=([],b,x):=by
   unfold tkS
   rcases hq with ⟨c,rfl,rfl⟩ | ⟨c,⟨n,hn,rfl,rfl⟩ | ⟨_,rfl,rfl⟩⟩
   ·exact ⟨0,(1,1),rfl,.refl,by rw [if_pos c]⟩
   ·obtain ⟨_,b,hg⟩:=d2j (s:=s) (1,1) (Nat.le_refl _) hn
    exact ⟨n,b,rfl,hg,by rw [if_neg c,hn];dsimp only;rw [c1Y hg]⟩
   ·exact absurd rfl hx
  subst hn
  refine g6 Tryz.call62 (c7F hs4 hg (H:=H) (K:=fun q H'=>q=plv b∧H=H') ⟨rfl,rfl⟩) I2 ?_
  rintro _ _ _ w3 I3 _ _ ⟨q,rfl,rfl,rfl,rfl⟩
  refine G4 I3 Tryz.sizeOf31 (vs:=[vi b.1,vi b.2]) (cs':=[vi b.1,vi b.2]) rfl rfl (nb rfl) rfl rfl fun w4 I4 _=>?_
  refine a0Q Tryz.isAgg31 Tryz.sizeOf31 rfl (I4.at1 (o:=0) (vs:=[vi b.1,vi b.2]) (nb rfl) rfl) ?_
  exact bad b x ht I4
 have hx:x=0:=hx
 subst hx
 obtain ⟨c0,hc0⟩:¬65536 < s.size∧chkAt s 0=none:=by
  rcases hq with ⟨_,_,q⟩ | ⟨c,⟨_,_,_,q⟩ | ⟨c2,_,_⟩⟩
  ·cases q
  ·cases q
  ·exact ⟨c,c2⟩
 have hT0:tkS s=tkF s (s.size+1) 0 (1,1) []:=by unfold tkS;rw [if_neg c0,hc0]
 have hA:a9r s 0 H (fun q H'=>q=plv (1,1)∧H=H'):=c7F (n:=0) hs4 .refl ⟨rfl,rfl⟩
 refine g6 Tryz.call62 hA I2 ?_
 rintro _ _ _ w3 I3 _ _ ⟨q,rfl,rfl,rfl,rfl⟩
 refine a7 (b5O _ _ _) ?_
 refine E9 I3 (cs:=u0 (rd s 0 (1,1)) ⟨none,0,0⟩) rfl fun g2 w4 I4 _=>?_
 refine u2 fun j1 hx1=>?_
 have hB:Z4 (rd s 0 (1,1)) [] H (fun r l H'=>l=[]∧H=H'∧∃b,Go2 s 0 (1,1) (sk s 0) b∧r=rd s (sk s 0) b):=b6M hT hs (Nat.zero_le _) Pl0 fun b hb=>⟨rfl,rfl,b,hb,rfl⟩
 refine g6 Tryz.call63 (hB g2 ⟨none,0,0⟩ [] (RowL.nil a5p a5q)) (I4.d6D 1) ?_
 rintro _ _ _ w5 I5 _ _ ⟨y,l,e,F,rfl,rfl,hrow,rfl,rfl,b,hb,rfl⟩
 refine R1 (J:=fun n l w'=>l=[]∧∃(out:List Tk)(p:Nat)(a:Int×Int)(e:Sl)(F:Frag),n=s.size-p∧p≤s.size∧sk s p=p∧Pl a p∧out.length≤32768∧tkF s (s.size+1) p a out=tkF s (s.size+1) 0 (1,1) []∧RowL 88 5 g8 e (out.map tkv) F∧Inv w0 ps0 H0 H ([bx g2 123 (u0 (rd s p a) e),F]++[bx g1 31 [vi 0,vi 0]]) w') ⟨_,rfl,[],sk s 0,b,e,F,rfl,(b3e (Nat.zero_le _)).2,b6c,hb.pl Pl0,by decide,(b6Q hb).symm,hrow,I5⟩ ?_
 clear hrow I5
 rintro n τ w6 next2 ⟨_,out,p,a,e,F,rfl,hp,hsk,ha,ho,hev,hrow,I6⟩ hn2
 unfold c3c
 refine a7 (q9 _) ?_
 refine a7 W7 ?_
 refine b8 (l1 (v:=vi (p:Int)) Tryz.isAgg3 I6 rfl) ?_
 refine a7 (a6g _) ?_
 refine a7 (T5 _ _ _ _ _ _) ?_
 have hlen:(out.map tkv).length=out.length:=List.length_map _
 rw [tkF,hsk,b6b (Nat.lt_irrefl _)] at hev
 refine a2q (fun c1=>?_) (fun c1=>?_)
 ·have hp2:p < s.size:=by omega
  rw [if_neg (by omega)] at hev
  refine a7 (q9 _) ?_
  refine a7 a4B ?_
  refine b8 (ldA Tryz.isAgg31 Tryz.sizeOf31 rfl (I6.at1 (o:=2) (vs:=[vi a.1,vi a.2]) (nb rfl) rfl)) ?_
  refine r7 I6 Tryz.zeroValue31 (cs:=[(vi 0),(vi 0)]) rfl fun g3 w7 I7 _=>?_
  refine G4 I7 Tryz.sizeOf31 (vs:=[vi a.1,vi a.2]) (cs':=[vi a.1,vi a.2]) rfl rfl (nb rfl) rfl rfl fun w8 I8 _=>?_
  refine a7 (q9 _) ?_
  refine a7 a7S ?_
  refine b8 (l1 Tryz.isAgg79 (I8.bring 1) rfl) ?_
  refine a7 (a8R Tryz.underlying79 hrow) ?_
  refine a7 (l9 _ _ _ _ _ _) ?_
  rw [hlen]
  refine a2q (fun c2=>?_) (fun c2=>?_)
  ·rw [if_pos (by omega)] at hev
   refine T1 I8 fun w9 I9=>?_
   refine u7 (lW Tryz.isAgg31 Tryz.sizeOf31 rfl I9) ?_
   refine G4 (I9.bring 3) Tryz.sizeOf31 (vs:=[vi a.1,vi a.2]) (cs':=[vi a.1,vi a.2]) rfl rfl (nb rfl) rfl rfl fun w10 I10 _=>?_
   refine a0Q Tryz.isAgg31 Tryz.sizeOf31 rfl (I10.at1 (o:=0) (vs:=[vi a.1,vi a.2]) (nb rfl) rfl) ?_
   exact bad a 23 (by rw [hT0,← hev]) I10
  rw [if_neg (by omega)] at hev
  have I8':Inv w0 ps0 H0 H ([bx g2 123 (u0 (rd s p a) e),F]++[bx g3 31 [vi a.1,vi a.2],bx g1 31 [vi 0,vi 0]]) w8:=(I8.bring 2).bring 2
  have hP:D5 (rd s p a) (out.map tkv) H (fun r k H'=>r=rn s p∧H=H'):=a3R hp (by rw [if_pos hp2];exact ⟨rfl,rfl⟩)
  refine g6 Tryz.call64 (hP g2 e F hrow) I8' ?_
  rintro _ _ _ w9 I9 _ _ ⟨r,k,rfl,rfl,rfl,rfl⟩
  refine a7 (j9 _ _ (Value.int .i32 (rn s p)) rfl) ?_
  refine a7 (j9 _ _ (Value.bool k) rfl) ?_
  refine g6 (Fi:=[]) Tryz.call65 (c6k g2 (rn s p)) I9 ?_
  rintro _ _ _ w10 I10 _ _ ⟨rfl,rfl,rfl⟩
  refine d3d hT hE hs hp2 ha hrow I10 (fun h0 b e2 F2 w11 hg hrow2 I11=>?_) (fun h0 t Fo w11 I11=>?_)
  ·rw [if_neg (fun x=>x h0)] at hev
   obtain ⟨q1,q2⟩:=a9H hp2 h0
   rw [c1Y hg] at hev
   have hb:=hg.pl ha
   refine a7 (j9 _ _ (.agg (g8 (tokO (oneO s p))).toArray) rfl) ?_
   refine a7 (j9 _ _ (vi 0) rfl) ?_
   refine r7 I11 Tryz.zeroValue88 (cs:=[(vi 0),(Value.string ⟨#[]⟩),(vi 0),(vi 0),(vi 0)]) rfl fun g4 w12 I12 _=>?_
   refine G4 I12 Tryz.sizeOf88 (vs:=g8 (tokO (oneO s p))) (cs':=g8 (tokO (oneO s p))) rfl rfl (nb rfl) rfl rfl fun w13 I13 _=>?_
   refine a7 (Q6 _ _ _ _ _ _) ?_
   refine b0v (fun x=>absurd rfl x) (fun _=>?_)
   refine b8 (lW Tryz.isAgg31 Tryz.sizeOf31 rfl (I13.bring 3)) ?_
   refine a7 c2k ?_
   refine G4 I13 Tryz.sizeOf31 (vs:=[vi a.1,vi a.2]) (cs':=g8 (b7.mk (oneO s p).kind (oneO s p).text (oneO s p).num (plv a))) rfl rfl (nb rfl) rfl rfl fun w14 I14 _=>?_
   refine T1 I14 fun w15 I15=>?_
   refine o0 (q9 _) ?_
   refine o0 a7S ?_
   refine u7 (l1 Tryz.isAgg79 (I15.bring 1) rfl) ?_
   refine u7 (lW Tryz.isAgg88 Tryz.sizeOf88 rfl I15) ?_
   refine O4 (e:=88) (c:=g8) (xs:=[b7.mk (oneO s p).kind (oneO s p).text (oneO s p).num (plv a)]) I15 (c1a _ _ _ _ _) rfl rfl a5p a5q (nb rfl) fun t2 F3 w16 hrow3 I16 fr=>?_
   refine ⟨fr _ (I15.bring 1).lt1,?_⟩
   refine c4t (s:=e2) (xs:=out.map tkv) (I16.bring 3) hrow2 (hrow3.srcO ((I16.bring 3).bring 1)) (by rw [hlen];simp only [List.length_singleton];omega) fun e4 F4 w17 hrow4 I17 _=>?_
   refine o0 (q9 _) ?_
   refine o0 a7S ?_
   refine G4 (((I17.bring 1).drop).bring 2) Tryz.sizeOf79 (vs:=[vs e4]) (cs':=u0 (rd s (oneO s p).stop b) e4) rfl rfl (nb rfl) rfl rfl fun w18 I18 _=>?_
   have hB2:Z4 (rd s (oneO s p).stop b) (out.map tkv++[b7.mk (oneO s p).kind (oneO s p).text (oneO s p).num (plv a)]) H (fun r l H'=>l=out.map tkv++[b7.mk (oneO s p).kind (oneO s p).text (oneO s p).num (plv a)]∧H=H'∧∃b',Go2 s (oneO s p).stop b (sk s (oneO s p).stop) b'∧r=rd s (sk s (oneO s p).stop) b'):=b6M hT hs q2 hb fun b' hb'=>⟨rfl,rfl,b',hb',rfl⟩
   have I18':Inv w0 ps0 H0 H ([bx g2 123 (u0 (rd s (oneO s p).stop b) e4),F4]++[bx g1 31 [vi 0,vi 0]]) w18:=((I18.bring 2).drop.bring 2).drop
   refine g6 Tryz.call63 (hB2 g2 e4 F4 hrow4) I18' ?_
   rintro _ _ _ w19 I19 _ _ ⟨y,l,e5,F5,rfl,rfl,hrow5,rfl,rfl,b',hb',rfl⟩
   have k:=b3e (s:=s) q2
   rw [c8Z s.size (s.size+1) _ _ _ (by omega) (by omega) q2,b6Q hb'] at hev
   refine hn2 _ _ _ (show s.size-sk s (oneO s p).stop < s.size-p by omega) ⟨rfl,out++[⟨(oneO s p).kind,(oneO s p).text,(oneO s p).num,a⟩],_,b',e5,F5,rfl,k.2,b6c,hb'.pl hb,by simp only [List.length_append,List.length_singleton];omega,hev,?_,I19⟩
   rw [List.map_append]
   exact hrow5
  ·rw [if_pos h0] at hev
   refine a7 (j9 _ _ (.agg (g8 t).toArray) rfl) ?_
   refine a7 (j9 _ _ (vi (oneO s p).err) rfl) ?_
   refine r7 I11 Tryz.zeroValue88 (cs:=[(vi 0),(Value.string ⟨#[]⟩),(vi 0),(vi 0),(vi 0)]) rfl fun g4 w12 I12 _=>?_
   refine G4 I12 Tryz.sizeOf88 (vs:=g8 t) (cs':=g8 t) rfl rfl (nb rfl) rfl rfl fun w13 I13 _=>?_
   refine a7 (Q6 _ _ _ _ _ _) ?_
   refine b0v (fun _=>?_) (fun x=>absurd x h0)
   have I13':Inv w0 ps0 H0 H (bx g3 31 [vi a.1,vi a.2]::bx g1 31 [vi 0,vi 0]::(bx g4 88 (g8 t)::Fo)) w13:=I13.perm (by
    simp only [List.flatten_cons,List.flatten_append,List.flatten_nil,List.append_nil]
    have:((bx g3 31 [vi a.1,vi a.2]++bx g1 31 [vi 0,vi 0])++(bx g4 88 (g8 t)++Fo.flatten)).Perm ((bx g4 88 (g8 t)++Fo.flatten)++(bx g3 31 [vi a.1,vi a.2]++bx g1 31 [vi 0,vi 0])):=List.perm_append_comm
    rw [List.append_assoc,List.append_assoc] at this
    exact this)
   refine T1 I13' fun w14 I14=>?_
   refine u7 (lW Tryz.isAgg31 Tryz.sizeOf31 rfl I14) ?_
   refine G4 (I14.bring 1) Tryz.sizeOf31 (vs:=[vi a.1,vi a.2]) (cs':=[vi a.1,vi a.2]) rfl rfl (nb rfl) rfl rfl fun w15 I15 _=>?_
   refine a0Q Tryz.isAgg31 Tryz.sizeOf31 rfl (I15.at1 (o:=0) (vs:=[vi a.1,vi a.2]) (nb rfl) rfl) ?_
   exact bad a _ (by rw [hT0,← hev]) I15
 ·refine hx1 _ _ ?_
  rw [if_pos (by omega)] at hev
  unfold c3b
  intro _
  refine T1 I6 fun w7 I7=>?_
  refine o0 (q9 _) ?_
  refine o0 a7S ?_
  refine o0 (q9 _) ?_
  refine o0 a4B ?_
  refine o0 (c4u) ?_
  refine u7 (l1 Tryz.isAgg79 I7 rfl) ?_
  refine u7 (ldA Tryz.isAgg31 Tryz.sizeOf31 rfl (I7.at1 (o:=2) (vs:=[vi a.1,vi a.2]) (nb rfl) rfl)) ?_
  refine o0 (b7x _ _ _) ?_
  refine O4 (e:=88) (c:=g8) (xs:=[b7.mk 5 ⟨#[]⟩ 0 (plv a)]) I7 (c1a _ _ _ _ _) rfl rfl a5p a5q (nb rfl) fun t2 F3 w8 hrow3 I8 fr=>?_
  refine ⟨fr _ I7.lt1,?_⟩
  refine c4t (s:=e) (xs:=out.map tkv) (I8.bring 2) hrow (hrow3.srcO ((I8.bring 2).bring 1)) (by rw [hlen];simp only [List.length_singleton];omega) fun e4 F4 w9 hrow4 I9 _=>?_
  refine G4 (I9.bring 3) Tryz.sizeOf31 (vs:=[vi 0,vi 0]) (cs':=[vi 0,vi 0]) rfl rfl (nb rfl) rfl rfl fun w10 I10 _=>?_
  refine a0Q Tryz.isAgg31 Tryz.sizeOf31 rfl (I10.at1 (o:=0) (vs:=[vi 0,vi 0]) (nb rfl) rfl) ?_
  refine hR _ H [F4] _ ?_ ⟨e4,F4,?_,rfl,rfl,?_⟩
  ·exact (((I10.drop.bring 1).drop).bring 1).drop
  ·rw [hT0,← hev]
  ·rw [hT0,← hev,List.map_append];exact hrow4
end
section
variable {H:Hp}(hT:TabsH H)(hE:ErrH H)
include hT hE
theorem c4x{s:ByteArray}(hs4:s.size≤4194304){K:Sl→c8→Int→Hp→Prop}(h:∀(e:Sl)(H':Hp),Hle H H'→SlH H' 5 g8 e ((tkS s).1.map tkv)→K e (plv (tkS s).2.1) (tkS s).2.2 H'):a7i s H K:=fun w I=>
 Cv.mono (c4w hT hE hs4 w I) (fun _ _ ⟨_,_,J,e,F,hv,hf,hh,hr⟩=>by
  subst hf;subst hh
  obtain ⟨H2,J2,hl,hsl⟩:=J.freezeL hr (by decide)
  exact ⟨H2,[],J2,e,_,_,hv,rfl,h e H2 hl hsl⟩) fun _ _ ⟨_,_,_,q⟩=>q.elim
end
section
variable {H:Hp}
end
set_option maxHeartbeats 2000000
theorem d4u{α:Type}{q:Prop} [Decidable q] {call:(α→Hp→Prop)→Prop} {d:α} {H:Hp} {K:α→Hp→Prop} (v:α) (hc:q→∀K':α→Hp→Prop,(∀H',Hle H H'→K' v H')→call K') (h:∀H',Hle H H'→K (if q then v else d) H'):TG q call d H K:=
 ⟨fun hq=>hc hq _ fun H' l=>(by have:=h H' l;rwa [if_pos hq] at this),fun hq=>(by have:=h H (Hle.refl _);rwa [if_neg hq] at this)⟩
open Classical in
noncomputable def eqD(a b:List i6):Bool:=decide (a=b)
theorem c1b{a b:List i6}:eqD a b=true↔a=b:=by unfold eqD;simp
theorem d3e{a b:List i6}:eqD a b=false↔a≠b:=by unfold eqD;simp
noncomputable def eqS(q q':PP):Bool:=((fewP q&&fewP q')&&eqD q.decls q'.decls)&&eqTs q.body q'.body
section
variable {H:Hp}
theorem d3f{sx sy:Sl}{xs ys:List d9}{ts us:List PT}(hx:SlH H 6 k7 sx xs)(hy:SlH H 6 k7 sy ys)(hb:xs.length≤big)(hr:u5 (SH H) xs ts)(hr':u5 (SH H) ys us){K:Bool→Hp→Prop}(h:K (eqTs ts us) H):l8 sx sy H K:=
 b1t hx hy hb hr.1 hr'.1 (fun i x y t u hx hy ht hu K hK=>b9R (hr.2 i x t hx ht) (hr'.2 i y u hy hu) hK) h
theorem c6l{sx sy:Sl}{xs ys:List i6}(hx:SlH H 2 u1 sx xs)(hy:SlH H 2 u1 sy ys)(hb:xs.length≤big){K:Bool→Hp→Prop}(h:K (eqD xs ys) H):L0 sx sy H K:=
 b8m hx hy hb ⟨fun e=>by rw [c1b.2 e] at h;exact h,fun e=>by rw [d3e.2 e] at h;exact h⟩
theorem b8H(hT:TabsH H){p p':g9}{q q':PP}(hp:PH H p q)(hsm:q.Sm)(hp':PH H p' q')(hsm':q'.Sm){K:Bool→Hp→Prop}(h:∀H',Hle H H'→K (eqS q q') H'):a0N p p' H K:=by
 refine b1T _ _ ?_
 unfold a7n
 refine b5a hT hp hsm fun H1 l1=>d4u (fewP q') (fun _ K' hk=>b5a (hT.le l1) (hp'.le l1) hsm' hk) fun H2 l2=>?_
 obtain ⟨hd,hbd,xs,hsl,hb,hr⟩:=hp.le (l1.trans l2)
 obtain ⟨hd',hbd',xs',hsl',hb',hr'⟩:=hp'.le (l1.trans l2)
 refine a1F (eqD q.decls q'.decls) (fun _ K' hk=>c6l hd hd' hbd hk) ?_
 refine a1F (eqTs q.body q'.body) (fun _ K' hk=>d3f hsl hsl' hb hr hr' hk) ?_
 have h':=h H2 (l1.trans l2)
 unfold eqS at h'
 generalize fewP q=a at h' ⊢
 generalize fewP q'=b at h' ⊢
 generalize eqD q.decls q'.decls=c at h' ⊢
 generalize eqTs q.body q'.body=d at h' ⊢
 cases a<;>cases b<;>cases c<;>cases d<;>exact h'
end
end Go.Proofs.YtoflkliecagjcaaGreatDoor
