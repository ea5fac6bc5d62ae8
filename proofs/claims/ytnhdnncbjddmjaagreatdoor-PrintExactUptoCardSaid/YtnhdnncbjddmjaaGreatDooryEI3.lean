/- Printing: what writes a text (WOk), functions that are handed in as values (CallW); within, line, and what calls them. By hand. -/
import Derived.Test.YtnhdnncbjddmjaaGreatDooryEI2
import Derived.Test.YtnhdnncbjddmjaaGreatDooryEJ1
namespace Go.Proofs.YtnhdnncbjddmjaaGreatDoor
open Go.RowKit
set_option maxRecDepth 100000
set_option maxHeartbeats 1000000
abbrev BB:Nat:=1114112
abbrev rW(g:Nat):Value:=.pointer (some ⟨g,0,none⟩)
theorem a9k:∀(ps:List BL)(xs:BL),xs.length≤BB→(∀p∈ps,p.length≤1048576)→Wt BB xs ps.flatten (putAllW xs ps)
 | [],xs,h,_=>by rw [putAllW,List.flatten_nil];exact Wt.nil h
 | s::l,xs,h,hp=>by
  rw [putAllW]
  have hs:=hp s (List.mem_cons_self ..)
  split
  ·rename_i c
   exact Wt.full c h
  ·rename_i c
   have h1:Wt BB xs s (xs++s):=by
    have:=Wt.put (B:=BB) (s:=s) h (by simp only [lim,BB];omega)
    unfold putW lim at this
    rwa [if_neg c] at this
   rw [List.flatten_cons]
   exact h1.trans (a9k l _ (h1.bound (by decide)) fun p q=>hp p (List.mem_cons_of_mem _ q))
def WOk(H:Hp)(C:c5→List Int→Hp→(c5→List Int→Hp→Prop)→Prop)(t:BL):Prop:=
 ∀(x:c5)(l:BL)(H1:Hp)(K:c5→List Int→Hp→Prop),Hle H H1→l.length≤BB→(∀y l' H',y.fdeep=x.fdeep→Hle H1 H'→Wt BB l t l'→K y (ib l') H')→C x (ib l) H1 K
def CallW(g:Nat)(d:Int)(pv:Value)(Fc:List Frag)(H:Hp)(t:BL):Prop:=
 ∀(x:c5)(l:BL)(H1:Hp),x.fdeep=d→Hle H H1→l.length≤BB→∀(E:Pan)(w0 w:World)(ps:Nat→Prop)(H0:Hp)(a:Sl)(b:Frag)(Kw:Value→World→Prop),RowL 5 1 k9 a (ib l) b→Inv w0 ps H0 H1 (bx g 44 (d5 g x a)::b::Fc) w→
  (∀y l' H' a' b' w',y.fdeep=x.fdeep→Hle H1 H'→Wt BB l t l'→RowL 5 1 k9 a' (ib l') b'→Inv w0 ps H0 H' (bx g 44 (d5 g y a')::b'::Fc) w'→Kw (.tuple #[]) w')→opK Tryz.prog E (xCall pv []) w Kw
def PostW(g:Nat)(x:c5)(l:BL)(Fc:List Frag)(H:Hp)(t:BL)(v:Value)(H':Hp)(Fo:List Frag):Prop:=
 ∃(y:c5)(l':BL)(a':Sl)(b':Frag),v=.tuple #[]∧Fo=bx g 44 (d5 g y a')::b'::Fc∧RowL 5 1 k9 a' (ib l') b'∧y.fdeep=x.fdeep∧Hle H H'∧Wt BB l t l'
theorem a2L{H:Hp}{s:Sl}{ps:List ByteArray}(hs:SlH H 1 j8 s ps)(hp:∀p∈ps,p.size≤1048576)(hn:ps.length≤100):WOk H (fun x f H K=>m9 x f s H K) (ps.map (·.data.toList)).flatten:=by
 intro x l H1 K hle hl k
 refine c0d (hs.le hle) hp hl hn fun y hy=>k y _ H1 hy (Hle.refl _) (a9k _ l hl fun p q=>?_)
 obtain ⟨s,hs,rfl⟩:=List.mem_map.1 q
 have:=hp s hs
 rwa [Array.length_toList]
section
variable {E:Pan}{w0 w:World}{ps:Nat→Prop}{H0 H:Hp}{g:Nat}{x:c5}{a:Sl}{b:Frag}{l:BL}{Fr:List Frag}
theorem s_w{C:c5→List Int→Hp→(c5→List Int→Hp→Prop)→Prop}{H1:Hp}{f:FuncId}{args:List Value}{t:BL}{K:Value→World→Prop}(he:∀args w,(callFunc f args).run Tryz.prog w=.ok (.enter f args) w)(hC:WOk H1 C t)(h1:Hle H1 H)
  (hc:∀(K:c5→List Int→Hp→Prop),C x (ib l) H K→Ct Tryz.prog f (rW g::args) H [bx g 44 (d5 g x a),b] (fun v H' Fo=>∃(y0:c5)(c:List Int)(d:Sl)(e:Frag),v=Value.tuple #[]∧Fo=[bx g 44 (d5 g y0 d),e]∧RowL 5 1 k9 d c e∧K y0 c H') noQE)
  (hl:l.length≤BB) (I:Inv w0 ps H0 H (bx g 44 (d5 g x a)::b::Fr) w)
  (k:∀y l' H' a' b' w',y.fdeep=x.fdeep→Hle H H'→Wt BB l t l'→RowL 5 1 k9 a' (ib l') b'→Inv w0 ps H0 H' (bx g 44 (d5 g y a')::b'::Fr) w'→K (.tuple #[]) w'):opK Tryz.prog E (xCall (.func (.func f) #[] #[]) (rW g::args)) w K:=by
 refine d3 (Fi:=[bx g 44 (d5 g x a),b]) (Fr:=Fr) he (hc (fun y c H'=>∃l',c=ib l'∧y.fdeep=x.fdeep∧Hle H H'∧Wt BB l t l') (hC x l H _ h1 hl fun y l' H' h1 h2 h3=>⟨l',rfl,h1,h2,h3⟩)) I ?_
 rintro _ H' _ w' I' _ _ ⟨y,_,d,e,rfl,rfl,hr',l',rfl,hy,hle,hw⟩
 exact k y l' H' d e w' hy hle hw hr' I'
theorem s_put{n:Nat}{parts:Array (Nat×Value)}{cs:List Value}{pieces:List ByteArray}{K:Value→World→Prop}(hrun:∀w:World,(Instr.buildSlice 63 n parts).run Tryz.prog w=.ok (.slice (some ⟨w.heap.size,0,none⟩) n n) (w.alloc (.cells cs.toArray 9)))(hn:n=pieces.length)(hcs:pieces.flatMap j8=cs)(hm:n≤100)
  (hr:RowL 5 1 k9 a (ib l) b) (hl:l.length≤BB) (hp:∀p∈pieces,p.size≤1048576) (I:Inv w0 ps H0 H (bx g 44 (d5 g x a)::b::Fr) w)
  (k:∀y l' H' a' b' w',y.fdeep=x.fdeep→Hle H H'→Wt BB l (pieces.map (·.data.toList)).flatten l'→RowL 5 1 k9 a' (ib l') b'→Inv w0 ps H0 H' (bx g 44 (d5 g y a')::b'::Fr) w'→K (.tuple #[]) w'):
  opK Tryz.prog E (xV (Instr.buildSlice 63 n parts)) w fun v w1=>opK Tryz.prog E (xCall (.func (.func 23) #[] #[]) [rW g,v]) w1 K:=by
 refine W0 (xs:=pieces) (c:=j8) I hrun hn hcs D6 D7 (Nat.le_trans hm (nb rfl)) fun s F w1 hr1 I1 _=>?_
 obtain ⟨H2,I2,l2,hs2,_⟩:=Inv.freezeC I1 hr1 (by decide)
 refine s_w (t:=(pieces.map (·.data.toList)).flatten) Tryz.call23 (a2L hs2 hp (by omega)) (Hle.refl _) (fun K h=>h _ _ _ hr) hl I2 fun y l' H' a' b' w' e1 e2 e3 e4 e5=>k y l' H' a' b' w' e1 (l2.trans e2) e3 e4 e5
end
theorem a8q{w w':World}{p:Prop}(h:p):keepX [] w w' p:=h
theorem a1N{s:ByteArray}:([s].map (·.data.toList)).flatten=s.data.toList:=by simp
theorem b0k{g:Nat}{needs:Bool}{o c:UInt8}{pv:Value}{x:c5}{l:BL}{H:Hp}{a:Sl}{b:Frag}{Fc:List Frag}{t:BL}(hv:CallW g x.fdeep pv Fc H t)(hl:l.length≤BB)(hr:RowL 5 1 k9 a (ib l) b):
  Ct Tryz.prog 62 [rW g,.bool needs,.string ⟨#[o]⟩,.string ⟨#[c]⟩,pv] H (bx g 44 (d5 g x a)::b::Fc) (PostW g x l Fc H (par needs o c t)) noQE:=by
 refine Ct.of fun w0 w ps0 H0 R E I hR=>b9f ?_
 unfold F62
 have hsm:∀z:UInt8,∀p∈[(⟨#[z]⟩:ByteArray)],p.size≤1048576:=fun z p h=>by
  rw [List.mem_singleton.1 h];show 1≤_;omega
 have hj1:∀(y:c5)(m:BL)(H1:Hp)(a:Sl)(b:Frag)(w:World),y.fdeep=x.fdeep→Hle H H1→Wt BB l (if needs=true then [o] else []) m→RowL 5 1 k9 a (ib m) b→Inv w0 ps0 H0 H1 (bx g 44 (d5 g y a)::b::Fc) w→b1M (rW g) (.bool needs) (.string ⟨#[c]⟩) pv w R E:=by
  intro y m H1 a b w hy l1 hw hr I
  unfold b1M
  intro _
  refine hv y m H1 hy l1 (hw.bound (by decide)) E w0 w ps0 H0 a b _ hr I fun y2 m2 H2 a2 b2 w2 hy2 l2 hw2 hr2 I2=>?_
  refine a0P (fun e=>?_) (fun e=>?_)
  ·subst e
   refine s_put (O9 _) (pieces:=[⟨#[c]⟩]) rfl rfl (by decide) hr2 (hw2.bound (by decide)) (hsm c) I2 fun y3 m3 H3 a3 b3 w3 hy3 l3 hw3 hr3 I3=>?_
   rw [a1N] at hw3
   exact hR _ H3 _ _ I3 ⟨y3,m3,a3,b3,rfl,rfl,hr3,hy3.trans (hy2.trans hy),(l1.trans l2).trans l3,(hw.trans hw2).trans hw3⟩
  ·subst e
   refine hR _ H2 _ _ I2 ⟨y2,m2,a2,b2,rfl,rfl,hr2,hy2.trans hy,l1.trans l2,?_⟩
   exact hw.trans hw2
 refine k8 fun j1 hx1=>?_
 refine a0P (fun e=>?_) (fun e=>?_)
 ·subst e
  refine s_put (O9 _) (pieces:=[⟨#[o]⟩]) rfl rfl (by decide) hr hl (hsm o) I fun y3 m3 H3 a3 b3 w3 hy3 l3 hw3 hr3 I3=>?_
  rw [a1N] at hw3
  exact hx1 _ _ (hj1 y3 m3 H3 a3 b3 w3 hy3 l3 hw3 hr3 I3)
 ·subst e
  exact hx1 _ _ (hj1 x l H a b w rfl (Hle.refl _) (Wt.nil hl) hr I)
theorem b6k(d:Nat):Lib.repeatL [32,32] d=(List.replicate d ([32,32]:BL)).flatten:=by
 induction d with
 | zero=>rfl
 | succ d ih=>rw [Lib.repeatL,ih,List.replicate_succ,List.flatten_cons]
theorem a9L{g:Nat}{pv:Value}{x:c5}{l:BL}{H:Hp}{a:Sl}{b:Frag}{Fc:List Frag}{t:BL}{d:Nat}(hd:x.fdeep=(d:Int))(hd2:d≤1000)(hv:CallW g x.fdeep pv Fc H t)(hl:l.length≤BB)(hr:RowL 5 1 k9 a (ib l) b):
  Ct Tryz.prog 21 [rW g,pv] H (bx g 44 (d5 g x a)::b::Fc) (PostW g x l Fc H (lineT d t)) noQE:=by
 refine Ct.of fun w0 w ps0 H0 R E I hR=>b8u ?_
 unfold F21
 refine a7 (g7 _) ?_
 refine a7 a4d ?_
 refine b9 (l1 Tryz.isAgg3 (v:=vi x.fdeep) I rfl) ?_
 rw [hd]
 refine d3 (Fi:=[]) Tryz.call46 (c0f (s:=⟨#[32,32]⟩) (c:=d) (K:=fun v H'=>v=⟨(Lib.repeatL [32,32] d).toArray⟩∧H'=H) (by show 2*d≤_;omega) (by omega) ⟨rfl,rfl⟩) I ?_
 rintro _ H1 _ w1 I1 _ _ ⟨_,rfl,rfl,rfl,rfl⟩
 have hlen:(Lib.repeatL [32,32] d).length=d*2:=Lib.repeatL_length _ _
 refine s_put (O9 _) (pieces:=[⟨(Lib.repeatL [32,32] d).toArray⟩]) rfl rfl (by decide) hr hl (fun p h=>?_) I1 fun y m H2 a2 b2 w2 hy l2 hw hr2 I2=>?_
 ·rw [List.mem_singleton.1 h]
  show (Lib.repeatL [32,32] d).toArray.size≤_
  rw [List.size_toArray];omega
 rw [a1N] at hw
 refine hv y m H2 hy l2 (hw.bound (by decide)) E w0 w2 ps0 H0 a2 b2 _ hr2 I2 fun y3 m3 H3 a3 b3 w3 hy3 l3 hw3 hr3 I3=>?_
 refine s_put (O9 _) (pieces:=[⟨#[10]⟩]) rfl rfl (by decide) hr3 (hw3.bound (by decide)) (fun p h=>by rw [List.mem_singleton.1 h];decide) I3 fun y4 m4 H4 a4 b4 w4 hy4 l4 hw4 hr4 I4=>?_
 rw [a1N] at hw4
 refine hR _ H4 _ _ I4 ⟨y4,m4,a4,b4,rfl,rfl,hr4,hy4.trans (hy3.trans hy),(l2.trans l3).trans l4,?_⟩
 have:=(hw.trans hw3).trans hw4
 unfold lineT
 rw [←b6k]
 exact this
section
variable {E:Pan}{w0 w:World}{ps:Nat→Prop}{H0 H:Hp}
theorem c0g{K:Value→World→Prop}{f:FuncId}{cap:List Value}{Fs:List Frag}{Q:Value→Hp→List Frag→Prop}(he:∀args w,(callFunc f args).run Tryz.prog w=.ok (.enter f args) w)(hc:Ct Tryz.prog f cap H Fs Q noQE)(I:Inv w0 ps H0 H Fs w)
  (hq:∀v H' Fo w',Inv w0 ps H0 H' Fo w'→Q v H' Fo→K v w'):opK Tryz.prog E (xCall (.func (.func f) #[] cap.toArray) []) w K:=by
 have I':Inv w0 ps H0 H (Fs++[]) w:=by rw [List.append_nil];exact I
 refine a3K (args:=[]) (cap:=cap) he hc I' fun v H' Fo w' I2 _ _ q=>hq v H' Fo w' ?_ q
 rw [List.append_nil] at I2
 exact I2
theorem CallW.of{g:Nat}{d:Int}{f:FuncId}{cap:List Value}{Fc:List Frag}{t:BL}(he:∀args w,(callFunc f args).run Tryz.prog w=.ok (.enter f args) w)
  (h:∀(x:c5)(l:BL)(H1:Hp)(a:Sl)(b:Frag),x.fdeep=d→Hle H H1→l.length≤BB→RowL 5 1 k9 a (ib l) b→Ct Tryz.prog f cap H1 (bx g 44 (d5 g x a)::b::Fc) (PostW g x l Fc H1 t) noQE):CallW g d (.func (.func f) #[] cap.toArray) Fc H t:=by
 intro x l H1 hd l1 hl E w0 w ps H0 a b Kw hr I k
 refine c0g he (h x l H1 a b hd l1 hl hr) I ?_
 rintro v H' Fo w' I' ⟨y,l',a',b',rfl,rfl,hr',hy,hle,hw⟩
 exact k y l' H' a' b' w' hy hle hw hr' I'
end
theorem a9l{f:FuncId}{args:List Value}{g:Nat}{x:c5}{l:BL}{H:Hp}{a:Sl}{b:Frag}{t:BL}{K:c5→List Int→Hp→Prop}(k:∀y l' H',y.fdeep=x.fdeep→Hle H H'→Wt BB l t l'→K y (ib l') H')
  (h:Ct Tryz.prog f args H [bx g 44 (d5 g x a),b] (PostW g x l [] H t) noQE):Ct Tryz.prog f args H [bx g 44 (d5 g x a),b] (fun v H' Fo=>∃(y0:c5)(c:List Int)(d:Sl)(e:Frag),v=Value.tuple #[]∧Fo=[bx g 44 (d5 g y0 d),e]∧RowL 5 1 k9 d c e∧K y0 c H') noQE:=
 h.mono (fun v H' Fo _ ⟨y,l',a',b',e1,e2,hr,hy,hle,hw⟩=>⟨y,ib l',a',b',e1,e2,hr,k y l' H' hy hle hw⟩) fun _ _ _ _ q=>q
theorem b2r{H:Hp}{e:d8}{t:BL}(ih:WOk H (fun x f H K=>u4 x f e H K) t){below:Int}(hlv:∀(H:Hp)(K:Int→Hp→Prop),K (lvE e.b8) H→U8 e.b8 H K):WOk H (fun x f H K=>T8 x f e below H K) (par (decide (lvE e.b8 < below)) 40 41 t):=by
 intro x l H1 K hle hl k g a b hr
 refine a9l k ?_
 refine Ct.of fun w0 w ps0 H0 R E I hR=>b8K ?_
 unfold F39
 refine y7 I (cs:=[rW g]) rfl fun ga w1 I1 _=>?_
 refine y7 I1 (cs:=c7 e) rfl fun gd w2 I2 _=>?_
 refine V9 I2 fun w3 I3=>?_
 refine f6 L8 ?_
 refine f6 (a1O _ _ _) ?_
 refine l8 (l1 Tryz.isAgg38 (v:=rW g) (I3.bring 1) rfl) ?_
 refine l8 (l1 Tryz.isAgg3 (v:=vi e.b8) I3 rfl) ?_
 refine d3 (Fi:=[]) Tryz.call37 (hlv H1 (fun v H'=>v=lvE e.b8∧H'=H1) ⟨rfl,rfl⟩) I3 ?_
 rintro _ H2 _ w4 I4 _ _ ⟨_,rfl,rfl,rfl,rfl⟩
 refine ⟨(Inv.hp1 (I4.bring 1)).trans (Inv.hp1 (I3.bring 1)).symm,?_⟩
 refine f6 (q9 _ _ _ _ _ _) ?_
 have I5:Inv w0 ps0 H0 H2 (bx g 44 (d5 g x a)::b::[bx gd 36 (c7 e),bx ga 38 [rW g]]) w4:=(I4.bring 3).bring 3
 have hv:CallW g x.fdeep (.func (.func 63) #[] [rW ga,rW gd].toArray) [bx gd 36 (c7 e),bx ga 38 [rW g]] H2 t:=by
  intro x l H1 hd h1
  refine CallW.of (d:=x.fdeep) (fun args w=>Tryz.call63 args w) (fun x l H1 a b hd h1 hl hr=>?_) x l H1 rfl h1
  refine Ct.of fun w0 w ps0 H0 R E I hR=>b9g ?_
  unfold F63
  refine b9 (l1 Tryz.isAgg38 (v:=rW g) (I.bring 3) rfl) ?_
  refine b9 (lW Tryz.isAgg36 Tryz.sizeOf36 rfl (I.bring 2)) ?_
  refine s_w Tryz.call19 ih (hle.trans h1) (fun K h=>h _ _ _ hr) hl I fun y l' H' a' b' w' hy l2 hw hr' I'=>?_
  exact hR _ H' _ _ I' ⟨y,l',a',b',rfl,rfl,hr',hy,l2,hw⟩
 refine d3 (Fr:=[]) Tryz.call62 (b0k hv hl hr) I5 ?_
 rintro _ H3 _ w6 I6 _ _ ⟨y,l',a',b',rfl,rfl,hr',hy,l2,hw⟩
 exact hR _ H3 _ _ ((I6.bring 3).bring 3).drop.drop ⟨y,l',a',b',rfl,rfl,hr',hy,l2,hw⟩
theorem a9M{H:Hp}{e:f9}{t:BL}(ih:WOk H (fun x f H K=>H8 x f e H K) t){below:Int}(hlv:∀(H:Hp)(K:Int→Hp→Prop),K (lvC e.b8) H→V1 e.b8 H K):WOk H (fun x f H K=>R3 x f e below H K) (par (decide (lvC e.b8 < below)) 91 93 t):=by
 intro x l H1 K hle hl k g a b hr
 refine a9l k ?_
 refine Ct.of fun w0 w ps0 H0 R E I hR=>b9k ?_
 unfold F74
 refine y7 I (cs:=[rW g]) rfl fun ga w1 I1 _=>?_
 refine y7 I1 (cs:=c9 e) rfl fun gd w2 I2 _=>?_
 refine V9 I2 fun w3 I3=>?_
 refine f6 Z2 ?_
 refine f6 (a1O _ _ _) ?_
 refine l8 (l1 Tryz.isAgg38 (v:=rW g) (I3.bring 1) rfl) ?_
 refine l8 (l1 Tryz.isAgg3 (v:=vi e.b8) I3 rfl) ?_
 refine d3 (Fi:=[]) Tryz.call73 (hlv H1 (fun v H'=>v=lvC e.b8∧H'=H1) ⟨rfl,rfl⟩) I3 ?_
 rintro _ H2 _ w4 I4 _ _ ⟨_,rfl,rfl,rfl,rfl⟩
 refine ⟨(Inv.hp1 (I4.bring 1)).trans (Inv.hp1 (I3.bring 1)).symm,?_⟩
 refine f6 (q9 _ _ _ _ _ _) ?_
 have I5:Inv w0 ps0 H0 H2 (bx g 44 (d5 g x a)::b::[bx gd 71 (c9 e),bx ga 38 [rW g]]) w4:=(I4.bring 3).bring 3
 have hv:CallW g x.fdeep (.func (.func 93) #[] [rW ga,rW gd].toArray) [bx gd 71 (c9 e),bx ga 38 [rW g]] H2 t:=by
  intro x l H1 hd h1
  refine CallW.of (d:=x.fdeep) (fun args w=>Tryz.call93 args w) (fun x l H1 a b hd h1 hl hr=>?_) x l H1 rfl h1
  refine Ct.of fun w0 w ps0 H0 R E I hR=>b9t ?_
  unfold F93
  refine b9 (l1 Tryz.isAgg38 (v:=rW g) (I.bring 3) rfl) ?_
  refine b9 (lW Tryz.isAgg71 Tryz.sizeOf71 rfl (I.bring 2)) ?_
  refine s_w Tryz.call50 ih (hle.trans h1) (fun K h=>h _ _ _ hr) hl I fun y l' H' a' b' w' hy l2 hw hr' I'=>?_
  exact hR _ H' _ _ I' ⟨y,l',a',b',rfl,rfl,hr',hy,l2,hw⟩
 refine d3 (Fr:=[]) Tryz.call62 (b0k hv hl hr) I5 ?_
 rintro _ H3 _ w6 I6 _ _ ⟨y,l',a',b',rfl,rfl,hr',hy,l2,hw⟩
 exact hR _ H3 _ _ ((I6.bring 3).bring 3).drop.drop ⟨y,l',a',b',rfl,rfl,hr',hy,l2,hw⟩
theorem a8P{H:Hp}{s:Sl}{ps:List ByteArray}{d:Nat}(hd2:d≤1000)(hs:SlH H 1 j8 s ps)(hp:∀p∈ps,p.size≤1048576)(hn:ps.length≤100):WOk H (fun x f H K=>x.fdeep=(d:Int)→Z8 x f s H K) (lineT d (ps.map (·.data.toList)).flatten):=by
 intro x l H1 K hle hl k hd g a b hr
 refine a9l k ?_
 refine Ct.of fun w0 w ps0 H0 R E I hR=>c0v ?_
 unfold F9
 refine y7 I (cs:=[rW g]) rfl fun ga w1 I1 _=>?_
 refine y7 I1 (cs:=[vs s]) rfl fun gd w2 I2 _=>?_
 refine b9 (l1 Tryz.isAgg38 (v:=rW g) (I2.bring 1) rfl) ?_
 refine a7 (a1O _ _ _) ?_
 have hv:CallW g x.fdeep (.func (.func 22) #[] [rW ga,rW gd].toArray) [bx gd 63 [vs s],bx ga 38 [rW g]] H1 (ps.map (·.data.toList)).flatten:=by
  intro x l H1 hd h1
  refine CallW.of (d:=x.fdeep) (fun args w=>Tryz.call22 args w) (fun x l H1 a b hd h1 hl hr=>?_) x l H1 rfl h1
  refine Ct.of fun w0 w ps0 H0 R E I hR=>b8v ?_
  unfold F22
  refine b9 (l1 Tryz.isAgg38 (v:=rW g) (I.bring 3) rfl) ?_
  refine b9 (l1 Tryz.isAgg63 (v:=vs s) (I.bring 2) rfl) ?_
  refine s_w Tryz.call23 (a2L hs hp hn) (hle.trans h1) (fun K h=>h _ _ _ hr) hl I fun y l' H' a' b' w' hy l2 hw hr' I'=>?_
  exact hR _ H' _ _ I' ⟨y,l',a',b',rfl,rfl,hr',hy,l2,hw⟩
 refine d3 (Fr:=[]) Tryz.call21 (a9L hd hd2 hv hl hr) ((I2.bring 3).bring 3) ?_
 rintro _ H3 _ w6 I6 _ _ ⟨y,l',a',b',rfl,rfl,hr',hy,l2,hw⟩
 exact hR _ H3 _ _ ((I6.bring 3).bring 3).drop.drop ⟨y,l',a',b',rfl,rfl,hr',hy,l2,hw⟩
theorem a7X{H:Hp}{e:f9}{t:BL}{wd en:ByteArray}{d:Nat}(hd2:d≤1000)(hw1:wd.size≤1048576)(he1:en.size≤1048576)(ih:WOk H (fun x f H K=>H8 x f e H K) t):WOk H (fun x f H K=>x.fdeep=(d:Int)→a4J x f wd e en H K) (lineT d (wd.data.toList++[32]++t++en.data.toList)):=by
 intro x l H1 K hle hl k hd g a b hr
 refine a9l k ?_
 refine Ct.of fun w0 w ps0 H0 R E I hR=>b8z ?_
 unfold F27
 refine y7 I (cs:=[rW g]) rfl fun ga w1 I1 _=>?_
 refine y7 I1 (cs:=[.string wd]) rfl fun gb w2 I2 _=>?_
 refine y7 I2 (cs:=c9 e) rfl fun gc w3 I3 _=>?_
 refine y7 I3 (cs:=[.string en]) rfl fun gd w4 I4 _=>?_
 refine b9 (l1 Tryz.isAgg38 (v:=rW g) (I4.bring 3) rfl) ?_
 refine a7 (a1O _ _ _) ?_
 have hv:CallW g x.fdeep (.func (.func 49) #[] [rW ga,rW gb,rW gc,rW gd].toArray) [bx gd 9 [.string en],bx gc 71 (c9 e),bx gb 9 [.string wd],bx ga 38 [rW g]] H1 (wd.data.toList++[32]++t++en.data.toList):=by
  intro x l H1 hd h1
  refine CallW.of (d:=x.fdeep) (fun args w=>Tryz.call49 args w) (fun x l H1 a b hd h1 hl hr=>?_) x l H1 rfl h1
  refine Ct.of fun w0 w ps0 H0 R E I hR=>b8S ?_
  unfold F49
  refine b9 (l1 Tryz.isAgg38 (v:=rW g) (I.bring 5) rfl) ?_
  refine b9 (l1 Tryz.isAgg9 (v:=.string wd) (I.bring 4) rfl) ?_
  refine s_put (a7Z _ _) (pieces:=[wd,⟨#[32]⟩]) rfl rfl (by decide) hr hl (fun p h=>?_) I fun y2 m2 H2 a2 b2 w2 hy2 l2 hw2 hr2 I2=>?_
  ·rcases List.mem_cons.1 h with rfl | h
   ·exact hw1
   ·rw [List.mem_singleton.1 h];decide
  refine b9 (l1 Tryz.isAgg38 (v:=rW g) (I2.bring 5) rfl) ?_
  refine b9 (lW Tryz.isAgg71 Tryz.sizeOf71 rfl (I2.bring 3)) ?_
  refine s_w Tryz.call50 ih ((hle.trans h1).trans l2) (fun K h=>h _ _ _ hr2) (hw2.bound (by decide)) I2 fun y3 m3 H3 a3 b3 w3 hy3 l3 hw3 hr3 I3=>?_
  refine b9 (l1 Tryz.isAgg38 (v:=rW g) (I3.bring 5) rfl) ?_
  refine b9 (l1 Tryz.isAgg9 (v:=.string en) (I3.bring 2) rfl) ?_
  refine s_put (O9 _) (pieces:=[en]) rfl rfl (by decide) hr3 (hw3.bound (by decide)) (fun p h=>by rw [List.mem_singleton.1 h];exact he1) I3 fun y4 m4 H4 a4 b4 w4 hy4 l4 hw4 hr4 I4=>?_
  rw [a1N] at hw4
  refine hR _ H4 _ _ I4 ⟨y4,m4,a4,b4,rfl,rfl,hr4,hy4.trans (hy3.trans hy2),(l2.trans l3).trans l4,?_⟩
  have:=(hw2.trans hw3).trans hw4
  simpa using this
 refine d3 (Fr:=[]) Tryz.call21 (a9L hd hd2 hv hl hr) ((I4.bring 5).bring 5) ?_
 rintro _ H3 _ w6 I6 _ _ ⟨y,l',a',b',rfl,rfl,hr',hy,l2,hw⟩
 exact hR _ H3 _ _ ((((I6.bring 5).drop.bring 4).drop.bring 3).drop.bring 2).drop ⟨y,l',a',b',rfl,rfl,hr',hy,l2,hw⟩
end Go.Proofs.YtnhdnncbjddmjaaGreatDoor
