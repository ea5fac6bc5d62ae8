/- Printing: the program's statements write their lines. -/
import Derived.Test.YtoflkliecagjcaaGreatDooryBQu
namespace Go.Proofs.YtoflkliecagjcaaGreatDoor
open Go.RowKit
set_option maxRecDepth 100000
set_option maxHeartbeats 2000000
theorem c0d{k e c t f:Int}{s:ByteArray}(h:formS k s e c t f=true):(k=1∧e=1∧c=0)∨(k=2∧e=2∧c=0)∨(k=3∧e=0∧c=1)∨(k=4∧e=0∧c=1)∨((k=5∨k=6)∧e=0∧c=1)∨(k=7∧e=0∧c=0):=by
 unfold formS at h
 (repeat' split at h)<;>first | (cases h;done) | (simp only [Bool.and_eq_true,decide_eq_true_eq] at h;omega)
section
variable (dec:Int→BL)
theorem a5d:∀(d:Nat)(a b:List PT),stxs dec d (a++b)=stxs dec d a++stxs dec d b
 | d,[],b=>by rw [List.nil_append,stxs,List.nil_append]
 | d,t::a,b=>by rw [List.cons_append,stxs,stxs,a5d d a b,List.cons_append]
theorem a5e:∀(d:Nat)(a:List PT),(stxs dec d a).length=a.length
 | d,[]=>by rw [stxs];rfl
 | d,t::a=>by rw [stxs,List.length_cons,List.length_cons,a5e d a]
theorem b7j{d:Nat}{ts:List PT}{i:Nat}{t:PT}(h:ts[i]? = some t):(stxs dec d (ts.take (i+1))).flatten=(stxs dec d (ts.take i)).flatten++stx dec d t:=by
 obtain ⟨hlt,rfl⟩:=List.getElem?_eq_some_iff.1 h
 rw [List.take_succ_eq_append_getElem hlt,a5d,List.flatten_append,stxs,stxs,List.flatten_cons,List.flatten_nil,List.append_nil]
theorem b9w(d:Nat)(us ts va wa:List PT):((stxs dec d (us++(ts++(va++wa)))).drop (us.length+ts.length)).take va.length=stxs dec d va:=by
 rw [a5d,a5d,a5d,← List.append_assoc,List.drop_left' (by rw [List.length_append,a5e,a5e]),List.take_left' (a5e ..)]
theorem c7c(d:Nat)(us ts va wa:List PT):(stxs dec d (us++(ts++(va++wa)))).drop (us.length+ts.length+va.length)=stxs dec d wa:=by
 rw [a5d,a5d,a5d,← List.append_assoc,← List.append_assoc,List.drop_left' (by rw [List.length_append,List.length_append,a5e,a5e,a5e])]
end
section
variable {H:Hp}
theorem b7k{s:Sl}{zs:List d9}{va:List PT}{d:Nat}(hs:SlH H 6 k7 s zs)(hb:zs.length≤big)(hl:zs.length=va.length)(hd:d≤64)
  (ih:∀(i:Nat)(z:d9)(t:PT),zs[i]? = some z→va[i]? = some t→WOk H (fun x f H K=>x.fdeep=((d+1:Nat):Int)→Z2 x f z H K) (stx Lib.itoa (d+1) t)):WOk H (fun x f H K=>x.fdeep=(d:Int)→Y0 x f s H K) (stxs Lib.itoa (d+1) va).flatten:=by
 intro x l H1 K hle hl1 k hdx
 refine a8m _ _ _ ?_
 unfold a3Y
 have hsn:=hs.1
 rw [hdx,show IntKind.wrap .i64 ((d:Int)+1)=((d+1:Nat):Int) by rw [a0e (by omega) (by omega)];omega]
 refine U6 (fun st H'=>Hle H1 H'∧∃(i:Nat)(ad:Option Addr)(m:BL),i≤zs.length∧st=((i:Int),ad,ib m,((d+1:Nat):Int))∧Wt BB l (stxs Lib.itoa (d+1) (va.take i)).flatten m) (fun st=>zs.length-st.1.toNat)
  ⟨Hle.refl _,0,x.G8.faddr,l,Nat.zero_le _,rfl,by rw [List.take_zero,stxs];exact Wt.nil hl1⟩ ?_
 rintro st H2 next ⟨l2,i,ad,m,hi,rfl,hw⟩ hnx
 dsimp only
 unfold a0q
 refine ⟨fun q=>?_,fun q=>?_⟩
 ·obtain ⟨z,hz⟩:=O9 (l:=zs) (i:=i) (by omega)
  obtain ⟨t,ht⟩:=O9 (l:=va) (i:=i) (by omega)
  refine ⟨by omega,by omega,z,(hs.2 i z hz).le (hle.trans l2),ih i z t hz ht _ m H2 _ (hle.trans l2) (hw.bound (by decide)) (fun y m3 H3 hy h3 hw3=>?_) rfl⟩
  rw [show IntKind.wrap .i64 ((i:Int)+1)=((i+1:Nat):Int) by simp only [big] at hb;rw [a0e (by omega) (by omega)];omega]
  exact hnx _ _ ⟨l2.trans h3,i+1,y.G8.faddr,m3,by omega,by rw [hy],by rw [b7j _ ht];exact hw.trans hw3⟩ (by dsimp only;omega)
 ·obtain rfl:i=zs.length:=by omega
  rw [hl,List.take_length] at hw
  unfold a0p
  rw [show IntKind.wrap .i64 (((d+1:Nat):Int)-1)=(d:Int) by rw [X9 ⟨by omega,by omega⟩];omega]
  exact k _ m H2 hdx.symm l2 hw
theorem b7H{s:ByteArray}{d:Nat}(hd2:d≤1000)(hs:s.size≤1048576){E:Pan}{w0 w:World}{ps:Nat→Prop}{H0 H:Hp}{g:Nat}{x:c7}{a:Sl}{b:Frag}{l:BL}{Fr:List Frag}{K:Value→World→Prop}(hx:x.fdeep=(d:Int))(hr:RowL 5 1 t8 a (ib l) b)(hl:l.length≤BB)(I:Inv w0 ps H0 H (bx g 47 (i8 g x a)::b::Fr) w)
  (k:∀y l' H' a' b' w',y.fdeep=x.fdeep→Hle H H'→Wt BB l (lineT d s.data.toList) l'→RowL 5 1 t8 a' (ib l') b'→Inv w0 ps H0 H' (bx g 47 (i8 g y a')::b'::Fr) w'→K (.tuple #[]) w'):
  opK Tryz.prog E (xV (Instr.buildSlice 67 1 #[(0,.string s)])) w fun v w1=>opK Tryz.prog E (xCall (.func (.func 10) #[] #[]) [rW g,v]) w1 K:=by
 refine O4 (xs:=[s]) (c:=q6) I (X0 _) rfl rfl K8 K9 (nb rfl) fun s2 F w1 hr1 I1 _=>?_
 obtain ⟨H2,I2,l2,hs2,_⟩:=Inv.freezeC I1 hr1 (by decide)
 have hW:=b4y (d:=d) hd2 hs2 (a7c hs) (by simp)
 rw [a3t] at hW
 exact s_w Tryz.call10 hW (Hle.refl _) (fun K h=>h hx _ _ _ hr) hl I2 fun y l' H' a' b' w' e1 e2 e3 e4 e5=>k y l' H' a' b' w' e1 (l2.trans e2) e3 e4 e5
theorem c9R(hP:PowH H){s:d9}{t:PT}(he:SH H s t):∀d:Nat,formT t=true→Sm t→dpT 64 t ((d+1:Nat):Int)→WOk H (fun x f H K=>x.fdeep=(d:Int)→Z2 x f s H K) (stx Lib.itoa d t):=by
 induction he with
 | @mk s xs ts ys us zs bs va wa hs hb hr hsy hby hry hz hzb hzl _ hB hBb hBl _ ih1 ih2=>
  intro d hf hS hdp x l H1 K hle hl1 k hdx g a b hr0
  cases hS with | mk hsm hss=>
  rw [formT,Bool.and_eq_true] at hf
  obtain ⟨hf,hfs⟩:=hf
  rw [dpT] at hdp
  obtain ⟨hd64,hdp⟩:=hdp
  have hd2:d≤1000:=by omega
  have hfc:=c0d (show formS s.d6 s.o8 (ts.length:Int) (us.length:Int) (va.length:Int) (wa.length:Int)=true from hf)
  have hname:s.o8.size≤1048576:=hsm.1
  have hn:(s.p7.n:Int)=(ts.length:Int):=by have:=hs.1;have:=hr.1;omega
  have hm:(s.C0.n:Int)=(us.length:Int):=by have:=hsy.1;have:=hry.1;omega
  have hen:(s.O6.n:Int)=(wa.length:Int):=by have:=hB.1;omega
  rw [a2k,a2k,a2k,Bool.and_eq_true,Bool.and_eq_true,Bool.and_eq_true] at hfs
  rw [b1G,b1G,b1G] at hdp
  rw [stx] at k
  have kidE:∀(i:Nat)(t:PT),ts[i]? = some t→formT t=true→∃v,EltH H s.p7 i 4 (f7 v)∧WOk H (fun x f H K=>D6 x f v H K) (tx Lib.itoa t):=fun i t ht hft=>by
   obtain ⟨v,hv⟩:=O9 (l:=xs) (i:=i) (by have:=P4 ht;have:=hr.1;omega)
   exact ⟨v,hs.2 i v hv,b4z hP (hr.2 i v t hv ht) hft (hss t (List.mem_append_right _ (List.mem_append_left _ (List.mem_of_getElem? ht))))⟩
  have kidC:∀(t:PT),us=[t]→∃v,EltH H s.C0 0 4 (g7 v)∧WOk H (fun x f H K=>Q4 x f v H K) (tx Lib.itoa t):=fun t hu=>by
   subst hu
   obtain ⟨v,hv⟩:=O9 (l:=ys) (i:=0) (by have:=hry.1;simp only [List.length_cons,List.length_nil] at this;omega)
   have hft:=hfs.1
   rw [formTs,Bool.and_eq_true] at hft
   exact ⟨v,hsy.2 0 v hv,c7b hP (hry.2 0 v t hv rfl) hft.1 (hss t (List.mem_append_left _ (List.mem_singleton_self _)))⟩
  have dpl:∀(l:List PT)(i:Nat)(t:PT)(n:Int),dpTs 64 l n→l[i]? = some t→dpT 64 t n:=by
   intro l
   induction l with
   | nil=>intro i t n _ h;simp at h
   | cons u l ih=>
    intro i t n hd h
    rw [dpTs] at hd
    cases i with
    | zero=>simp only [List.getElem?_cons_zero,Option.some.injEq] at h;rw [←h];exact hd.1
    | succ i=>exact ih i t n hd.2 (by simpa using h)
  have fml:∀(l:List PT)(i:Nat)(t:PT),formTs l=true→l[i]? = some t→formT t=true:=by
   intro l
   induction l with
   | nil=>intro i t _ h;simp at h
   | cons u l ih=>
    intro i t hd h
    rw [formTs,Bool.and_eq_true] at hd
    cases i with
    | zero=>simp only [List.getElem?_cons_zero,Option.some.injEq] at h;rw [←h];exact hd.1
    | succ i=>exact ih i t hd.2 (by simpa using h)
  have blk1:WOk H (fun x f H K=>x.fdeep=(d:Int)→Y0 x f s.P5 H K) (stxs Lib.itoa (d+1) va).flatten:=
   b7k hz hzb hzl (by omega) fun i z t h1 h2=>ih1 i z t h1 h2 (d+1) (fml va i t hfs.2.2.1 h2) (hss t (by simp [List.mem_of_getElem? h2])) (dpl va i t _ hdp.2.2.1 h2)
  have blk2:WOk H (fun x f H K=>x.fdeep=(d:Int)→Y0 x f s.O6 H K) (stxs Lib.itoa (d+1) wa).flatten:=
   b7k hB hBb hBl (by omega) fun i z t h1 h2=>ih2 i z t h1 h2 (d+1) (fml wa i t hfs.2.2.2 h2) (hss t (by simp [List.mem_of_getElem? h2])) (dpl wa i t _ hdp.2.2.2 h2)
  refine b5B k ?_
  refine Ct.of fun w0 w ps0 H0 R E I hR=>d0k ?_
  unfold F12
  refine E9 I (cs:=[rW g]) rfl fun ga w1 I1 _=>?_
  refine E9 I1 (cs:=k7 s) rfl fun gs w2 I2 _=>?_
  have J:Inv w0 ps0 H0 H1 (bx g 47 (i8 g x a)::b::[bx gs 54 (k7 s),bx ga 41 [rW g]]) w2:=(I2.bring 3).bring 3
  clear I I1 I2
  refine b8 (l1 Tryz.isAgg41 (v:=rW g) (J.bring 3) rfl) ?_
  refine g6 (Fi:=[bx g 47 (i8 g x a),b]) (Fr:=[bx gs 54 (k7 s),bx ga 41 [rW g]]) Tryz.call13 (b6d (K:=fun v H'=>v=decide (65536 < l.length)∧H'=H1) ⟨rfl,rfl⟩ g a b hr0) J ?_
  rintro _ H2 _ w3 J3 _ _ ⟨_,rfl,rfl,rfl,rfl⟩
  have fin:∀(y:c7)(m:BL)(H':Hp)(a':Sl)(b':Frag)(w':World)(t:BL),y.fdeep=x.fdeep→Hle H2 H'→Wt BB l t m→t=labS d (.stmt s.d6 s.o8 ts.length us.length va.length wa.length) (txs Lib.itoa (us++(ts++(va++wa)))) (stxs Lib.itoa (d+1) (us++(ts++(va++wa))))→RowL 5 1 t8 a' (ib m) b'→
    Inv w0 ps0 H0 H' (bx g 47 (i8 g y a')::b'::[bx gs 54 (k7 s),bx ga 41 [rW g]]) w'→R (.tuple #[]) w':=fun y m H' a' b' w' t hy hh hw ht hr' I'=>
   hR _ H' _ _ ((I'.bring 3).drop.bring 2).drop ⟨y,m,a',b',rfl,rfl,hr',hy,hh,ht ▸ hw⟩
  refine W8 (fun c=>?_) (fun c=>?_)
  ·exact fin x l H2 a b _ _ rfl (Hle.refl _) (Wt.full (of_decide_eq_true c) hl1) rfl hr0 J3
  clear c
  have lineS:∀(f:FuncId)(t:BL)(w:World)(he:∀args w,(callFunc f args).run Tryz.prog w=.ok (.enter f args) w),Inv w0 ps0 H0 H2 (bx g 47 (i8 g x a)::b::[bx gs 54 (k7 s),bx ga 41 [rW g]]) w→lineT d t=labS d (.stmt s.d6 s.o8 ts.length us.length va.length wa.length) (txs Lib.itoa (us++(ts++(va++wa)))) (stxs Lib.itoa (d+1) (us++(ts++(va++wa))))→
    (∀(x:c7)(l:BL)(H1:Hp)(a:Sl)(b:Frag),Hle H2 H1→l.length≤BB→RowL 5 1 t8 a (ib l) b→Ct Tryz.prog f [rW ga,rW gs] H1 (bx g 47 (i8 g x a)::b::[bx gs 54 (k7 s),bx ga 41 [rW g]]) (PostW g x l [bx gs 54 (k7 s),bx ga 41 [rW g]] H1 t) noQE)→
    opK Tryz.prog E (xV (Instr.makeFunc (.func f) #[] #[rW ga,rW gs])) w fun v w1=>opK Tryz.prog E (xCall (.func (.func 24) #[] #[]) [rW g,v]) w1 fun _ w'=>R (.tuple #[]) w':=by
   intro f t w he J ht h
   refine a7 (Q7 _ _ _) ?_
   have hv:CallW g x.fdeep (.func (.func f) #[] [rW ga,rW gs].toArray) [bx gs 54 (k7 s),bx ga 41 [rW g]] H2 t:=by
    intro x l H1 hd h1
    exact CallW.of (d:=x.fdeep) (fun args w=>he args w) (fun x l H1 a b hd h1 hl hr=>h x l H1 a b h1 hl hr) x l H1 rfl h1
   refine g6 (Fr:=[]) Tryz.call24 (b6q hdx hd2 hv hl1 hr0) J ?_
   rintro _ H3 _ w6 I6 _ _ ⟨y,l',a',b',rfl,rfl,hr',hy,l2,hw⟩
   exact fin y l' H3 a' b' _ _ hy l2 hw ht hr' I6
  refine a7 W9 ?_
  refine b8 (l1 Tryz.isAgg3 (v:=vi s.d6) (J3.bring 2) rfl) ?_
  refine a7 (l9 _ _ _ _ _ _) ?_
  refine a2q (fun e1=>?_) (fun n1=>?_)
  ·refine b8 (l1 Tryz.isAgg41 (v:=rW g) (J3.bring 3) rfl) ?_
   obtain ⟨t1,rfl⟩:=a2G (l:=ts) (by omega)
   obtain rfl:us=[]:=List.length_eq_zero_iff.1 (by omega)
   have hft:=hfs.2.1
   rw [formTs,Bool.and_eq_true] at hft
   obtain ⟨v,hv,hw1⟩:=kidE 0 t1 rfl hft.1
   refine lineS 28 (s.o8.data.toList++[32,61,32]++tx Lib.itoa t1++[59]) w3 Tryz.call28 J3 (by rw [labS,if_pos e1,List.nil_append,List.cons_append,txs];rfl) ?_
   intro x l H1 a b h1 hl hr
   refine Ct.of fun w0 w ps0 H0 R E I hR=>d0D ?_
   unfold F28
   refine b8 (l1 Tryz.isAgg41 (v:=rW g) (I.bring 3) rfl) ?_
   refine a7 a2d ?_
   refine b8 (l1 Tryz.isAgg9 (v:=.string s.o8) (I.bring 2) rfl) ?_
   refine s_put (b0w _ _) (pieces:=[s.o8,⟨#[32,61,32]⟩]) rfl rfl (by decide) hr hl (c2C hname (by decide)) I fun y2 m2 H3 a2 b2 w2 hy2 l2 hw2 hr2 I2=>?_
   refine T1 I2 fun w4 I4=>?_
   refine o0 a0h ?_
   refine u7 (l1 Tryz.isAgg41 (v:=rW g) (I4.bring 3) rfl) ?_
   refine u7 (l1 Tryz.isAgg37 (v:=vs s.p7) (I4.bring 2) rfl) ?_
   obtain ⟨g1,o1,ha1,hat1⟩:=hv
   refine o0 (a1N ha1 _ _ _ _ (by omega) (by rw [hn];simp only [List.length_cons,List.length_nil];omega)) ?_
   refine u7 (ldA (vs:=f7 v) Tryz.isAgg39 Tryz.sizeOf39 rfl (I4.atH (hat1.le ((hle.trans h1).trans l2)))) ?_
   refine s_w Tryz.call22 hw1 ((hle.trans h1).trans l2) (fun K h=>h _ _ _ hr2) (hw2.bound (by decide)) I4 fun y3 m3 H4 a3 b3 w5 hy3 l3 hw3 hr3 I5=>b3s ?_
   refine b8 (l1 Tryz.isAgg41 (v:=rW g) (I5.bring 3) rfl) ?_
   refine s_put (X0 _) (pieces:=[⟨#[59]⟩]) rfl rfl (by decide) hr3 (hw3.bound (by decide)) (a7c (by decide)) I5 fun y4 m4 H5 a4 b4 w6 hy4 l4 hw4 hr4 I6=>?_
   rw [a3t] at hw4
   refine hR _ H5 _ _ I6 ⟨y4,m4,a4,b4,rfl,rfl,hr4,hy4.trans (hy3.trans hy2),(l2.trans l3).trans l4,?_⟩
   have:=(hw2.trans hw3).trans hw4
   simpa using this
  refine a7 (l9 _ _ _ _ _ _) ?_
  refine a2q (fun e2=>?_) (fun n2=>?_)
  ·refine b8 (l1 Tryz.isAgg41 (v:=rW g) (J3.bring 3) rfl) ?_
   obtain ⟨t1,t2,rfl⟩:=a8q (l:=ts) (by omega)
   obtain rfl:us=[]:=List.length_eq_zero_iff.1 (by omega)
   have hft:=hfs.2.1
   rw [formTs,formTs,Bool.and_eq_true,Bool.and_eq_true] at hft
   obtain ⟨v,hv,hw1⟩:=kidE 0 t1 rfl hft.1
   obtain ⟨v2,hv2,hwv2⟩:=kidE 1 t2 rfl hft.2.1
   refine lineS 29 (s.o8.data.toList++[91]++tx Lib.itoa t1++[93,32,61,32]++tx Lib.itoa t2++[59]) w3 Tryz.call29 J3 (by rw [labS,if_neg n1,if_pos e2,List.nil_append,List.cons_append,List.cons_append,txs,txs];rfl) ?_
   intro x l H1 a b h1 hl hr
   refine Ct.of fun w0 w ps0 H0 R E I hR=>d0E ?_
   unfold F29
   refine b8 (l1 Tryz.isAgg41 (v:=rW g) (I.bring 3) rfl) ?_
   refine a7 a2d ?_
   refine b8 (l1 Tryz.isAgg9 (v:=.string s.o8) (I.bring 2) rfl) ?_
   refine s_put (b0w _ _) (pieces:=[s.o8,⟨#[91]⟩]) rfl rfl (by decide) hr hl (c2C hname (by decide)) I fun y2 m2 H3 a2 b2 w2 hy2 l2 hw2 hr2 I2=>?_
   refine T1 I2 fun w4 I4=>?_
   refine o0 a0h ?_
   refine u7 (l1 Tryz.isAgg41 (v:=rW g) (I4.bring 3) rfl) ?_
   refine u7 (l1 Tryz.isAgg37 (v:=vs s.p7) (I4.bring 2) rfl) ?_
   obtain ⟨g1,o1,ha1,hat1⟩:=hv
   obtain ⟨g2,o2,ha2,hat2⟩:=hv2
   refine o0 (a1N ha1 _ _ _ _ (by omega) (by rw [hn];simp only [List.length_cons,List.length_nil];omega)) ?_
   refine u7 (ldA (vs:=f7 v) Tryz.isAgg39 Tryz.sizeOf39 rfl (I4.atH (hat1.le ((hle.trans h1).trans l2)))) ?_
   refine s_w Tryz.call22 hw1 ((hle.trans h1).trans l2) (fun K h=>h _ _ _ hr2) (hw2.bound (by decide)) I4 fun y3 m3 H4 a3 b3 w5 hy3 l3 hw3 hr3 I5=>b3s ?_
   refine b8 (l1 Tryz.isAgg41 (v:=rW g) (I5.bring 3) rfl) ?_
   refine s_put (X0 _) (pieces:=[⟨#[93,32,61,32]⟩]) rfl rfl (by decide) hr3 (hw3.bound (by decide)) (a7c (by decide)) I5 fun y4 m4 H5 a4 b4 w6 hy4 l4 hw4 hr4 I6=>?_
   rw [a3t] at hw4
   refine T1 I6 fun w7 I7=>?_
   refine o0 a0h ?_
   refine u7 (l1 Tryz.isAgg41 (v:=rW g) (I7.bring 3) rfl) ?_
   refine u7 (l1 Tryz.isAgg37 (v:=vs s.p7) (I7.bring 2) rfl) ?_
   refine o0 (a1N ha2 _ _ _ _ (by omega) (by rw [hn];simp only [List.length_cons,List.length_nil];omega)) ?_
   refine u7 (ldA (vs:=f7 v2) Tryz.isAgg39 Tryz.sizeOf39 rfl (I7.atH (hat2.le ((((hle.trans h1).trans l2).trans l3).trans l4)))) ?_
   refine s_w Tryz.call22 hwv2 ((((hle.trans h1).trans l2).trans l3).trans l4) (fun K h=>h _ _ _ hr4) (hw4.bound (by decide)) I7 fun y5 m5 H6 a5 b5 w8 hy5 l5 hw5 hr5 I8=>b3s ?_
   refine b8 (l1 Tryz.isAgg41 (v:=rW g) (I8.bring 3) rfl) ?_
   refine s_put (X0 _) (pieces:=[⟨#[59]⟩]) rfl rfl (by decide) hr5 (hw5.bound (by decide)) (a7c (by decide)) I8 fun y6 m6 H7 a6 b6 w9 hy6 l6 hw6 hr6 I9=>?_
   rw [a3t] at hw6
   refine hR _ H7 _ _ I9 ⟨y6,m6,a6,b6,rfl,rfl,hr6,hy6.trans (hy5.trans (hy4.trans (hy3.trans hy2))),(((l2.trans l3).trans l4).trans l5).trans l6,?_⟩
   have:=(((hw2.trans hw3).trans hw4).trans hw5).trans hw6
   simpa using this
  have hj1:∀(y:c7)(m:BL)(H':Hp)(a':Sl)(b':Frag)(w':World)(t:BL),y.fdeep=x.fdeep→Hle H2 H'→Wt BB l t m→t++lineT d [125]=labS d (.stmt s.d6 s.o8 ts.length us.length va.length wa.length) (txs Lib.itoa (us++(ts++(va++wa)))) (stxs Lib.itoa (d+1) (us++(ts++(va++wa))))→RowL 5 1 t8 a' (ib m) b'→
    Inv w0 ps0 H0 H' (bx g 47 (i8 g y a')::b'::[bx gs 54 (k7 s),bx ga 41 [rW g]]) w'→b8h (rW ga) w' R E:=by
   intro y m H' a' b' w' t hy hh hw ht hr' I'
   unfold b8h
   intro _
   refine b8 (l1 Tryz.isAgg41 (v:=rW g) (I'.bring 3) rfl) ?_
   exact b7H hd2 (by decide) (hy.trans hdx) hr' (hw.bound (by decide)) I' fun y2 m2 H3 a2 b2 w2 hy2 l2 hw2 hr2 I2=>fin y2 m2 H3 a2 b2 _ _ (hy2.trans hy) (hh.trans l2) (hw.trans hw2) ht hr2 I2
  refine a7 (l9 _ _ _ _ _ _) ?_
  refine a2q (fun e3=>?_) (fun n3=>?_)
  ·obtain ⟨t1,rfl⟩:=a2G (l:=us) (by omega)
   obtain rfl:ts=[]:=List.length_eq_zero_iff.1 (by omega)
   obtain ⟨v,hv,hw1⟩:=kidC t1 rfl
   refine T1 J3 fun w4 I4=>?_
   refine o0 Z0 ?_
   refine u7 (l1 Tryz.isAgg41 (v:=rW g) (I4.bring 3) rfl) ?_
   refine u7 (l1 Tryz.isAgg52 (v:=vs s.C0) (I4.bring 2) rfl) ?_
   obtain ⟨g1,o1,ha1,hat1⟩:=hv
   refine o0 (a3u ha1 _ _ _ _ (by omega) (by rw [hm];simp only [List.length_cons,List.length_nil];omega)) ?_
   refine u7 (ldA (vs:=g7 v) Tryz.isAgg75 Tryz.sizeOf75 rfl (I4.atH (hat1.le hle))) ?_
   refine s_w Tryz.call30 (b2G (d:=d) (wd:=⟨#[105,102]⟩) (en:=⟨#[32,123]⟩) hd2 (by decide) (by decide) hw1) hle (fun K h=>h hdx _ _ _ hr0) hl1 I4 fun y3 m3 H4 a3 b3 w5 hy3 l3 hw3 hr3 I5=>b3s ?_
   refine b8 (l1 Tryz.isAgg41 (v:=rW g) (I5.bring 3) rfl) ?_
   refine a7 a3g ?_
   refine b8 (l1 Tryz.isAgg23 (v:=vs s.P5) (I5.bring 2) rfl) ?_
   refine s_w Tryz.call31 blk1 (hle.trans l3) (fun K h=>h (hy3.trans hdx) _ _ _ hr3) (hw3.bound (by decide)) I5 fun y4 m4 H5 a4 b4 w6 hy4 l4 hw4 hr4 I6=>?_
   refine u2 fun j1 hx1=>?_
   refine a7 a3h ?_
   refine b8 (l1 Tryz.isAgg23 (v:=vs s.O6) (I6.bring 2) rfl) ?_
   refine a7 (a2m _ _ _) ?_
   refine a7 (a4n _ _ _ _ _ _) ?_
   have hlen:=a5e Lib.itoa (d+1) ([t1]++([]++(va++wa)))
   have hlen2:([t1]++([]++(va++wa))).length=1+va.length+wa.length:=by simp;omega
   have hmid:=b9w Lib.itoa (d+1) [t1] [] va wa
   have hend:=c7c Lib.itoa (d+1) [t1] [] va wa
   refine a2q (fun c=>?_) (fun c=>?_)
   ·refine b8 (l1 Tryz.isAgg41 (v:=rW g) (I6.bring 3) rfl) ?_
    refine b7H hd2 (by decide) (hy4.trans (hy3.trans hdx)) hr4 (hw4.bound (by decide)) I6 fun y5 m5 H6 a5 b5 w7 hy5 l5 hw5 hr5 I7=>?_
    refine b8 (l1 Tryz.isAgg41 (v:=rW g) (I7.bring 3) rfl) ?_
    refine a7 a3h ?_
    refine b8 (l1 Tryz.isAgg23 (v:=vs s.O6) (I7.bring 2) rfl) ?_
    refine s_w Tryz.call31 blk2 (((hle.trans l3).trans l4).trans l5) (fun K h=>h (hy5.trans (hy4.trans (hy3.trans hdx))) _ _ _ hr5) (hw5.bound (by decide)) I7 fun y6 m6 H7 a6 b6 w8 hy6 l6 hw6 hr6 I8=>?_
    refine hx1 _ _ (hj1 y6 m6 H7 a6 b6 _ _ (hy6.trans (hy5.trans (hy4.trans hy3))) (((l3.trans l4).trans l5).trans l6) (((hw3.trans hw4).trans hw5).trans hw6) ?_ hr6 I8)
    rw [labS,if_neg n1,if_neg n2,if_pos e3,hmid,hend,hlen,hlen2,if_neg (by simp only [List.length_cons,List.length_nil];omega),List.singleton_append,txs]
    simp
   ·refine hx1 _ _ (hj1 y4 m4 H5 a4 b4 _ _ (hy4.trans hy3) (l3.trans l4) (hw3.trans hw4) ?_ hr4 I6)
    rw [labS,if_neg n1,if_neg n2,if_pos e3,hmid,hlen,hlen2,if_pos (by simp only [List.length_cons,List.length_nil];omega),List.singleton_append,txs]
    simp
  refine a7 (l9 _ _ _ _ _ _) ?_
  refine a2q (fun e4=>?_) (fun n4=>?_)
  ·obtain ⟨t1,rfl⟩:=a2G (l:=us) (by omega)
   obtain rfl:ts=[]:=List.length_eq_zero_iff.1 (by omega)
   obtain ⟨v,hv,hw1⟩:=kidC t1 rfl
   refine T1 J3 fun w4 I4=>?_
   refine o0 Z0 ?_
   refine u7 (l1 Tryz.isAgg41 (v:=rW g) (I4.bring 3) rfl) ?_
   refine u7 (l1 Tryz.isAgg52 (v:=vs s.C0) (I4.bring 2) rfl) ?_
   obtain ⟨g1,o1,ha1,hat1⟩:=hv
   refine o0 (a3u ha1 _ _ _ _ (by omega) (by rw [hm];simp only [List.length_cons,List.length_nil];omega)) ?_
   refine u7 (ldA (vs:=g7 v) Tryz.isAgg75 Tryz.sizeOf75 rfl (I4.atH (hat1.le hle))) ?_
   refine s_w Tryz.call30 (b2G (d:=d) (wd:=⟨#[119,104,105,108,101]⟩) (en:=⟨#[32,123]⟩) hd2 (by decide) (by decide) hw1) hle (fun K h=>h hdx _ _ _ hr0) hl1 I4 fun y3 m3 H4 a3 b3 w5 hy3 l3 hw3 hr3 I5=>b3s ?_
   refine b8 (l1 Tryz.isAgg41 (v:=rW g) (I5.bring 3) rfl) ?_
   refine a7 a3g ?_
   refine b8 (l1 Tryz.isAgg23 (v:=vs s.P5) (I5.bring 2) rfl) ?_
   refine s_w Tryz.call31 blk1 (hle.trans l3) (fun K h=>h (hy3.trans hdx) _ _ _ hr3) (hw3.bound (by decide)) I5 fun y4 m4 H5 a4 b4 w6 hy4 l4 hw4 hr4 I6=>?_
   have hmid:=b9w Lib.itoa (d+1) [t1] [] va wa
   refine b8 (l1 Tryz.isAgg41 (v:=rW g) (I6.bring 3) rfl) ?_
   refine b7H hd2 (by decide) (hy4.trans (hy3.trans hdx)) hr4 (hw4.bound (by decide)) I6 fun y2 m2 H3 a2 b2 w2 hy2 l2 hw2 hr2 I2=>fin y2 m2 H3 a2 b2 _ _ (hy2.trans (hy4.trans hy3)) ((l3.trans l4).trans l2) ((hw3.trans hw4).trans hw2) ?_ hr2 I2
   rw [labS,if_neg n1,if_neg n2,if_neg n3,if_pos e4,hmid,List.singleton_append,txs]
   simp
  have hd5:∀(wd:ByteArray)(w:World),wd.size≤1048576→s.d6=5∨s.d6=6→(∀t1,us=[t1]→lineT d (wd.data.toList++[32]++tx Lib.itoa t1++[59])=labS d (.stmt s.d6 s.o8 ts.length us.length va.length wa.length) (txs Lib.itoa (us++(ts++(va++wa)))) (stxs Lib.itoa (d+1) (us++(ts++(va++wa)))))→
    Inv w0 ps0 H0 H2 (bx g 47 (i8 g x a)::b::[bx gs 54 (k7 s),bx ga 41 [rW g]]) w→∃(c:i7)(g1 o1:Nat),s.C0.a=some ⟨g1,o1,none⟩∧AtH H2 g1 (o1+(0:Int).toNat*4) (g7 c)∧opK Tryz.prog E (xCall (.func (.func 30) #[] #[]) [rW g,.string wd,.agg (g7 c).toArray,.string ⟨#[59]⟩]) w fun _ w'=>keepX [] w w' (R (.tuple #[]) w'):=by
   intro wd w hwd h56 ht I4
   obtain ⟨t1,hu1⟩:=a2G (l:=us) (by omega)
   obtain ⟨v,⟨g1,o1,ha1,hat1⟩,hw1⟩:=kidC t1 hu1
   refine ⟨v,g1,o1,ha1,hat1.le hle,?_⟩
   refine s_w Tryz.call30 (b2G (d:=d) (wd:=wd) (en:=⟨#[59]⟩) hd2 hwd (by decide) hw1) hle (fun K h=>h hdx _ _ _ hr0) hl1 I4 fun y3 m3 H4 a3 b3 w5 hy3 l3 hw3 hr3 I5=>b3s ?_
   exact fin y3 m3 H4 a3 b3 _ _ hy3 l3 hw3 (ht t1 hu1) hr3 I5
  refine a7 (l9 _ _ _ _ _ _) ?_
  refine a2q (fun e5=>?_) (fun n5=>?_)
  ·refine T1 J3 fun w4 I4=>?_
   obtain ⟨c,g1,o1,ha1,hat1,hcall⟩:=hd5 ⟨#[97,115,115,101,114,116]⟩ w4 (by decide) (.inl e5) (fun t1 hu=>by rw [labS,if_neg n1,if_neg n2,if_neg n3,if_neg n4,if_pos e5,hu,List.singleton_append,txs];rfl) I4
   refine o0 Z0 ?_
   refine u7 (l1 Tryz.isAgg41 (v:=rW g) (I4.bring 3) rfl) ?_
   refine u7 (l1 Tryz.isAgg52 (v:=vs s.C0) (I4.bring 2) rfl) ?_
   refine o0 (a3u ha1 _ _ _ _ (by omega) (by rw [hm];omega)) ?_
   exact u7 (ldA (vs:=g7 c) Tryz.isAgg75 Tryz.sizeOf75 rfl (I4.atH hat1)) hcall
  refine a7 (l9 _ _ _ _ _ _) ?_
  refine a2q (fun e6=>?_) (fun n6=>?_)
  ·refine T1 J3 fun w4 I4=>?_
   obtain ⟨c,g1,o1,ha1,hat1,hcall⟩:=hd5 ⟨#[97,115,115,117,109,101]⟩ w4 (by decide) (.inr e6) (fun t1 hu=>by rw [labS,if_neg n1,if_neg n2,if_neg n3,if_neg n4,if_neg n5,if_pos e6,hu,List.singleton_append,txs];rfl) I4
   refine o0 Z0 ?_
   refine u7 (l1 Tryz.isAgg41 (v:=rW g) (I4.bring 3) rfl) ?_
   refine u7 (l1 Tryz.isAgg52 (v:=vs s.C0) (I4.bring 2) rfl) ?_
   refine o0 (a3u ha1 _ _ _ _ (by omega) (by rw [hm];omega)) ?_
   exact u7 (ldA (vs:=g7 c) Tryz.isAgg75 Tryz.sizeOf75 rfl (I4.atH hat1)) hcall
  refine b8 (l1 Tryz.isAgg41 (v:=rW g) (J3.bring 3) rfl) ?_
  refine b7H hd2 (by decide) hdx hr0 hl1 J3 fun y2 m2 H3 a2 b2 w2 hy2 l2 hw2 hr2 I2=>fin y2 m2 H3 a2 b2 _ _ hy2 l2 hw2 ?_ hr2 I2
  rw [labS,if_neg n1,if_neg n2,if_neg n3,if_neg n4,if_neg n5,if_neg n6]
end
end Go.Proofs.YtoflkliecagjcaaGreatDoor
