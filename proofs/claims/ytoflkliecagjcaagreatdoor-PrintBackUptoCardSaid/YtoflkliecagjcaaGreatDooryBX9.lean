/- Parsing: the frame that takes a fault: what was read, or the fault and where it stands. Off the code, by the kit's wp. -/
import Derived.Tactics2
import Derived.Defers
import Derived.Recover
import Derived.Test.YtoflkliecagjcaaGreatDooryBX6
namespace Go.Proofs.YtoflkliecagjcaaGreatDoor
open Go.RowKit
set_option maxRecDepth 100000
set_option maxHeartbeats 4000000
section
variable {P:Program}{ops:Array Oper}{i:Nat}{rest:List Nat}{a:Act}{w:World}{o:Oper}{s:Sem Next}
theorem wk{Q:Exit→Act→World→Prop}(ho:ops[i]? = some o)(hg:o.guard=none)(hs:execOp a.eval o=s)
  (h:opK P (fun c w'=>Q (.panic c) a w') s w fun v w'=>wpOps P ops Q rest (a.put o.dst v) w'):wpOps P ops Q (i::rest) a w:=by
 unfold wpOps
 rw [ho]
 have:Region.wanted o (yielded ops a.tmps)=true:=by unfold Region.wanted;rw [hg]
 simp only [this,if_true]
 exact .inl (b0u hs h (fun _ _ h=>h) fun _ _ h=>h)
theorem c6B{Q:Exit→Act→World→Prop}{d:Deferred}(ho:ops[i]? = some o)(hg:o.guard=none)(hr:(execOp a.eval o).run P w=.ok (.defer d) w)
  (h:wpOps P ops Q rest (({ a with defers:=d::a.defers }:Act).put o.dst undef) w):wpOps P ops Q (i::rest) a w:=by
 unfold wpOps
 rw [ho]
 have:Region.wanted o (yielded ops a.tmps)=true:=by unfold Region.wanted;rw [hg]
 simp only [this,if_true]
 refine .inl ?_
 unfold Oper.wp
 rw [hr]
 exact h
theorem X8(v:Value):Pu P (pure (.value v)) v:=fun w=>rfl
theorem c1f{c:Code}{h:Hint}{l:List Value}{rs:List ResultVar}{R:Value→World→Prop}{Q':Exit→Act→World→Prop}{X:Prop}(hd:a.defers=[])(ht:a.tmps=l.toArray)(hok:dokL l.length (dsts c)=true)(hl:lexOk c h=true)(hm:P.follows .mixedOrders=true)
  (e:X=WPx P noPan c h (a2I l) w (bodyX P rs R)) (hx:X) (hq:∀e' a' σ' w',Rep l.length a' σ'→bodyX P rs R e' σ' w'→Q' e' a' w'):c.wp P Q' a w:=
 a9U hm c h _ a w _ _ (e ▸ hx) hok hl ⟨hd,by rw [ht];simp,fun i=>by rw [a7Y,ht];simp [List.getD_eq_getElem?_getD]⟩ (fun _ _ _ _ q=>q.elim) (fun e' σ' a' w' hr _ hh=>hq e' a' σ' w' hr hh)
theorem c6C{fn:Func}{tmps:Array Value}{t:TypeId}{a b c v:Value}(hres:fn.results.toList=[.cell 6 t,.cell 7 31,.cell 8 27])(h6:tmps.getD 6 undef=a)(h7:tmps.getD 7 undef=b)(h8:tmps.getD 8 undef=c)
  (hx:xcell P t a w fun x=>xcell P 31 b w fun y=>xcell P 27 c w fun z=>v=.tuple #[x,y,z]):(results fn tmps).run P w=.ok v w:=by
 subst h6;subst h7;subst h8
 obtain ⟨_,v',h1,h2⟩:=a5g (P:=P) (N:=tmps.size) (fn:=fn) (R:=fun u _=>v=u) (E:=noPan) (e:=.ret) (σ:=fun i=>tmps.getD i undef) (a:={ tmps:=tmps,defers:=[] }) (w:=w) ⟨rfl,rfl,fun _=>rfl⟩ (by rw [hres];exact hx)
 rw [h1]
 show _=Result.ok v w
 rw [show v=v' from h2]
theorem Inv.dropF{w0:World}{ps:Nat→Prop}{H0 H:Hp}{Fr:List Frag}:∀{Fo:List Frag},Inv w0 ps H0 H (Fo++Fr) w→Inv w0 ps H0 H Fr w
 | [],I=>I
 | _::_,I=>Inv.dropF (Inv.drop I)
end
theorem c2p{g o:Nat}:Pu Tryz.prog (xV (Instr.fieldAt 83 (.pointer (some ⟨g,o,none⟩)) 0)) (.pointer (some ⟨g,o+0,none⟩)):=Pu.ok fun w=>by kernel_rfl
theorem c2q{g o:Nat}:Pu Tryz.prog (xV (Instr.fieldAt 83 (.pointer (some ⟨g,o,none⟩)) 1)) (.pointer (some ⟨g,o+2,none⟩)):=Pu.ok fun w=>by kernel_rfl
def readsR{β:Type}(p:PM β)(chk:β→Int)(r:List Tok):Except Flt β:=match p r with
 | .error y=>.error y
 | .ok (b,r')=>if (hd r').d6≠5 then .error (40,(hd r').fAt) else if chk b=32 then .error (41,(hd r').fAt) else if chk b=33 then .error (42,(hd r').fAt) else .ok b
abbrev panR{β:Type}(o:Except Flt β):PanQ:=⟨fun v=>∃c pl,v=fltV c pl∧o=.error (c,pl)⟩
def c7H(_x0 _x1 _x2 _x3 _x4 _x5 x6 x7 x8:Value)(w:World)(R:Value→World→Prop)(E:Pan):Prop:=
 dX w fun a=>
 qL Tryz.prog a (blk x6) (xV (Instr.loadAt 25 x6)) fun e=>
 qL Tryz.prog a (blk x7) (xV (Instr.loadAt 31 x7)) fun f=>
 qL Tryz.prog a (blk x8) (xV (Instr.loadAt 27 x8)) fun g=>
 opK Tryz.prog E (xU (Instr.storeAt 25 x6 e)) a fun _ c=>
 keepX [(blk x8),(blk x7)] a c (opK Tryz.prog E (xU (Instr.storeAt 31 x7 f)) c fun _ d=>
 keepX [(blk x8)] c d (opK Tryz.prog E (xU (Instr.storeAt 27 x8 g)) d fun _ b=>
 keepX [] d b (xcell Tryz.prog 25 x6 b fun i=>
 xcell Tryz.prog 31 x7 b fun j=>
 xcell Tryz.prog 27 x8 b fun k=>
 R (Value.tuple #[i,j,k]) b)))
def d4x:Hint:=(.reg [(0,524288,64),(0,1048576,128),(0,2097152,256),(1,0,524352),(11,0,1048704),(31,0,2097408)] [6,5,3,6,4,0] (.load 0 (.load 1 (.load 2 (.step 3 (.step 4 (.step 5 .done)))))))
def c7I(x0 x1 x2 _x3 x4 _x5 x6:Value)(w:World)(R:Value→World→Prop)(E:Pan):Prop:=
 dX w fun a=>
 qP Tryz.prog (xV (Instr.fieldAt 83 x4 0)) fun c=>
 qP Tryz.prog (xV (Instr.fieldAt 83 x4 1)) fun b=>
 qL Tryz.prog a (blk x6) (xV (Instr.loadAt 25 x6)) fun g=>
 qL Tryz.prog a (blk c) (xV (Instr.loadAt 31 c)) fun i=>
 qL Tryz.prog a (blk b) (xV (Instr.loadAt 27 b)) fun j=>
 opK Tryz.prog E (xU (Instr.storeAt 25 x0 g)) a fun _ d=>
 keepX [(blk b),(blk c)] a d (opK Tryz.prog E (xU (Instr.storeAt 31 x1 i)) d fun _ e=>
 keepX [(blk b)] d e (opK Tryz.prog E (xU (Instr.storeAt 27 x2 j)) e fun _ f=>
 keepX [] e f (R (Value.tuple #[]) f)))
def d4y:Hint:=(.reg [(0,262144,64),(0,524288,16),(2,1048576,524288),(0,2097152,16),(8,4194304,2097152),(1,0,262145),(39,0,1048578),(127,0,4194308)] [20,21,17,21,5,20,16,0] (.early 1 (.early 3 (.load 0 (.load 2 (.load 4 (.step 5 (.step 6 (.step 7 .done)))))))))
section
variable {H:Hp}
theorem b6f(gO gA gE:Nat)(w:World):CallsD Tryz.prog 34 #[rQ gO,rQ gA,rQ gE] .returning w fun e u' w'=>e=.returned (.tuple #[])∧u'=.returning∧w'=w:=by
 refine callsD_of_wpS Tryz.func34 rfl fun c₀ cs hu=>?_
 apply wpS_seq
 apply wpS_region
 simp [wpOpsS,go_sem,recoverD,hu,Exit.thenS]
 refine wpS_of_wp ?_
 apply wp_seq
 apply wp_region
 refine wk (s:=pure (.value .nilIface)) rfl rfl (by kernel_rfl) (a7 (X8 _) ?_)
 refine wk (s:=xBin .neq 20 (.tmp 8) (.const .nilIface) .nilIface .nilIface) rfl rfl (by kernel_rfl) (a7 (v:=.bool false) (fun w=>by kernel_rfl) ?_)
 refine wp_cond (t:=false) (by kernel_rfl) ?_
 refine wp_skip ?_
 refine ⟨rfl,.returning,?_,_,results_none rfl _ _ _,rfl,rfl,rfl⟩
 rw [←hu]
theorem b6g(gO gA gE:Nat){c:Int}{pl:c8}{cO cA cE:List Value}(hO:cO.length=([.slice none 0 0,.slice none 0 0]:List Value).length)(hA:cA.length=2)(hE:cE.length=1)(w w0:World)(ps:Nat→Prop)(H0:Hp)(Fs:List Frag)(I:Inv w0 ps H0 H (bx gO 25 cO::bx gA 31 cA::bx gE 27 cE::Fs) w):
  CallsD Tryz.prog 34 #[rQ gO,rQ gA,rQ gE] (.panicking [{ v:=fltV c pl,recovered:=false }]) w fun e u' w'=>e=.returned (.tuple #[])∧u'=.panicking [{ v:=fltV c pl,recovered:=true }]∧Inv w0 ps H0 H (bx gO 25 [.slice none 0 0,.slice none 0 0]::bx gA 31 (m8 pl)::bx gE 27 [vi c]::Fs) w':=by
 refine callsD_of_wpS Tryz.func34 rfl fun c₀ cs hu=>?_
 apply wpS_seq
 apply wpS_region
 simp [wpOpsS,go_sem,recoverD,hu,Exit.thenS]
 refine wpS_of_wp ?_
 apply wp_seq
 apply wp_region
 refine wk (s:=pure (.value (fltV c pl))) rfl rfl (by kernel_rfl) (a7 (X8 _) ?_)
 refine wk (s:=xBin .neq 20 (.tmp 8) (.const .nilIface) (fltV c pl) .nilIface) rfl rfl (by kernel_rfl) (a7 (v:=.bool true) (fun w=>by kernel_rfl) ?_)
 refine wp_cond (t:=true) (by kernel_rfl) ?_
 apply wp_seq
 apply wp_region
 refine wk (s:=pure (.value (fltV c pl))) rfl rfl (by kernel_rfl) (a7 (X8 _) ?_)
 refine wk (s:=xV (Instr.typeAssert (fltV c pl) 20 83 true)) rfl rfl (by kernel_rfl) (a7 (v:=.tuple #[.agg #[vi pl.M8,vi pl.V1,vi c],.bool true]) (Pu.ok fun w=>by kernel_rfl) ?_)
 refine wk (s:=pure (.value (.tuple #[.agg #[vi pl.M8,vi pl.V1,vi c],.bool true]))) rfl rfl (by kernel_rfl) (a7 (X8 _) ?_)
 refine wk (s:=xV (Instr.extract (.tuple #[.agg #[vi pl.M8,vi pl.V1,vi c],.bool true]) 0)) rfl rfl (by kernel_rfl) (a7 (j9 _ 0 _ rfl) ?_)
 refine wk (s:=xV (Instr.extract (.tuple #[.agg #[vi pl.M8,vi pl.V1,vi c],.bool true]) 1)) rfl rfl (by kernel_rfl) (a7 (j9 _ 1 _ rfl) ?_)
 refine wk (s:=xV (Instr.alloc 83 true (.tuple #[]))) rfl rfl (by kernel_rfl) ?_
 refine r7 I Tryz.zeroValue83 (cs:=[vi 0,vi 0,vi 0]) rfl fun g1 w1 I1 _=>?_
 refine wk (s:=xU (Instr.storeAt 83 (rQ g1) (.agg #[vi pl.M8,vi pl.V1,vi c]))) rfl rfl (by kernel_rfl) ?_
 refine G4 I1 Tryz.sizeOf83 (vs:=[vi pl.M8,vi pl.V1,vi c]) (cs':=[vi pl.M8,vi pl.V1,vi c]) rfl rfl (nb rfl) rfl rfl fun w2 I2 _=>?_
 refine wk (s:=pure (.value (.bool true))) rfl rfl (by kernel_rfl) (a7 (X8 _) ?_)
 apply wp_seq
 apply wp_seq
 apply wp_region
 refine wk (s:=pure (.value (.bool true))) rfl rfl (by kernel_rfl) (a7 (X8 _) ?_)
 refine wk (s:=xV (Op.unary .not (.bool true))) rfl rfl (by kernel_rfl) (a7 (T6 _) ?_)
 refine wp_cond (t:=false) (by kernel_rfl) ?_
 refine wp_skip ?_
 apply wp_seq
 apply wp_region
 refine wk (s:=xV (Instr.alloc 25 true (.tuple #[]))) rfl rfl (by kernel_rfl) ?_
 refine r7 I2 Tryz.zeroValue25 (cs:=[.slice none 0 0,.slice none 0 0]) rfl fun g2 w3 I3 _=>?_
 refine c1f (l:=[rQ gO,rQ gA,rQ gE,fltV c pl,rQ g1,.bool true,rQ g2,fltV c pl,fltV c pl,.bool true,.tuple #[.agg #[vi pl.M8,vi pl.V1,vi c],.bool true],fltV c pl,.tuple #[.agg #[vi pl.M8,vi pl.V1,vi c],.bool true],.agg #[vi pl.M8,vi pl.V1,vi c],.bool true,.bool true,.bool false,undef,undef,undef,undef,undef,undef]) (h:=d4y) (rs:=[]) (R:=fun _ w'=>Inv w0 ps H0 H (bx gO 25 [.slice none 0 0,.slice none 0 0]::bx gA 31 (m8 pl)::bx gE 27 [vi c]::Fs) w') (X:=c7I (rQ gO) (rQ gA) (rQ gE) (fltV c pl) (rQ g1) (.bool true) (rQ g2) w3 (fun _ w'=>Inv w0 ps H0 H (bx gO 25 [.slice none 0 0,.slice none 0 0]::bx gA 31 (m8 pl)::bx gE 27 [vi c]::Fs) w') noPan) (by kernel_rfl) (by kernel_rfl) (by kernel_rfl) (by kernel_rfl) (by kernel_rfl) (by kernel_rfl) ?_ ?_
 ·unfold c7I
  refine T1 I3 fun w4 I4=>?_
  refine o0 c2p ?_
  refine o0 c2q ?_
  refine u7 (ldA (vs:=[.slice none 0 0,.slice none 0 0]) Tryz.isAgg25 Tryz.sizeOf25 rfl (I4.at1 (o:=0) (vs:=[.slice none 0 0,.slice none 0 0]) (nb rfl) rfl)) ?_
  refine u7 (ldA (vs:=m8 pl) Tryz.isAgg31 Tryz.sizeOf31 rfl ((I4.bring 1).at1 (o:=0) (vs:=m8 pl) (nb rfl) rfl)) ?_
  refine u7 (ld1 (v:=vi c) Tryz.isAgg27 ((I4.bring 1).at1 (o:=2) (vs:=[vi c]) (nb rfl) rfl)) ?_
  refine G4 (I4.bring 2) Tryz.sizeOf25 (vs:=[.slice none 0 0,.slice none 0 0]) (cs':=[.slice none 0 0,.slice none 0 0]) rfl rfl (by rw [hO];exact nb rfl) rfl (by rw [List.drop_eq_nil_of_le (by rw [hO];exact nb rfl)];rfl) fun w5 I5 _=>?_
  refine ⟨(I5.bring 2).hp1.trans (I4.bring 1).hp1.symm,(I5.bring 2).hp1.trans (I4.bring 1).hp1.symm,?_⟩
  refine G4 (I5.bring 3) Tryz.sizeOf31 (vs:=m8 pl) (cs':=m8 pl) rfl rfl (by rw [hA];exact nb rfl) rfl (by rw [List.drop_eq_nil_of_le (by rw [hA];exact nb rfl)];rfl) fun w6 I6 _=>?_
  refine ⟨(I6.bring 3).hp1.trans (I5.bring 2).hp1.symm,?_⟩
  refine G4 (I6.bring 4) Tryz.sizeOf27 (vs:=[vi c]) (cs':=[vi c]) rfl rfl (by rw [hE];exact nb rfl) rfl (by rw [List.drop_eq_nil_of_le (by rw [hE];exact nb rfl)];rfl) fun w7 I7 _=>?_
  exact ((((I7.bring 3).drop.bring 3).drop).bring 1).bring 2
 ·intro e' a' σ' w' hr hb
  have hI:(e'=.normal∨e'=.ret)∧Inv w0 ps H0 H (bx gO 25 [.slice none 0 0,.slice none 0 0]::bx gA 31 (m8 pl)::bx gE 27 [vi c]::Fs) w':=by
   cases e'<;>first | exact ⟨.inl rfl,hb⟩ | exact ⟨.inr rfl,hb⟩ | exact hb.elim
  obtain ⟨rfl | rfl,hI⟩:=hI<;>exact ⟨hr.1,_,rfl,_,results_none rfl _ _ _,rfl,rfl,hI⟩
variable {s:ByteArray}{toks:List Tok}{pl:c8}{er:Int}{β:Type}{RR:Hp→g9→β→Prop}{p:PM β}{chk:β→Int}{K:g9→c8→Int→Hp→Prop}
theorem c2r(htok:a7i s H (fun l pl' e H1=>Hle H H1∧SlH H1 5 g8 l toks∧pl'=pl∧e=er))(hw:er=0→WfT toks∧toks.length≤big)
  (hread:∀[PanQ] {H:Hp} {x:a8} {r:List Tok} {K:g9→a8→Hp→Prop},Rd H x r→Res H x RR (p r) K→a1R x H K)
  (hchk:∀{H':Hp}{v:g9}{b:β}{r':List Tok},er=0→Hle H H'→p toks=.ok (b,r')→RR H' v b→a0M v H' (fun e H''=>Hle H' H''∧e=chk b)) (hle:∀{H H':Hp}{v:g9}{b:β},Hle H H'→RR H v b→RR H' v b)
  (k1:er≠0→∀H',Hle H H'→K (g9.mk (Sl.mk none 0 0) (Sl.mk none 0 0)) pl er H') (k2:er=0→∀c q,readsR p chk toks=.error (c,q)→∀H',Hle H H'→K (g9.mk (Sl.mk none 0 0) (Sl.mk none 0 0)) q c H')
  (k3:er=0→∀b,readsR p chk toks=.ok b→∀H' v,Hle H H'→RR H' v b→K v ⟨0,0⟩ 0 H'):F0 s H K:=by
 intro w I
 unfold Cv
 refine calls_of_wp_defers Tryz.func15 rfl ?_
 apply wp_seq
 apply wp_region
 refine wk (s:=xV (Instr.alloc 25 true (.tuple #[]))) rfl rfl (by kernel_rfl) ?_
 refine r7 I Tryz.zeroValue25 (cs:=[.slice none 0 0,.slice none 0 0]) rfl fun gO w1 I1 _=>?_
 refine wk (s:=xV (Instr.alloc 31 true (.tuple #[]))) rfl rfl (by kernel_rfl) ?_
 refine r7 I1 Tryz.zeroValue31 (cs:=[vi 0,vi 0]) rfl fun gA w2 I2 _=>?_
 refine wk (s:=xV (Instr.alloc 27 true (.tuple #[]))) rfl rfl (by kernel_rfl) ?_
 refine r7 I2 Tryz.zeroValue27 (cs:=[vi 0]) rfl fun gE w3 I3 _=>?_
 apply wp_seq
 apply wp_region
 refine wk (s:=pure (.value (.string s))) rfl rfl (by kernel_rfl) (a7 (X8 _) ?_)
 refine wk (s:=xCall (.func (.func 33) #[] #[]) [.string s]) rfl rfl (by kernel_rfl) ?_
 refine g6 Tryz.call33 htok I3 ?_
 rintro _ H1 _ w4 I4 _ _ ⟨l,pl',e,rfl,rfl,hl1,hsl,rfl,rfl⟩
 refine wk (s:=pure (.value (.tuple #[vs l,.agg (m8 pl').toArray,vi e]))) rfl rfl (by kernel_rfl) (a7 (X8 _) ?_)
 refine wk (s:=xV (Instr.extract (.tuple #[vs l,.agg (m8 pl').toArray,vi e]) 0)) rfl rfl (by kernel_rfl) (a7 (j9 _ 0 _ rfl) ?_)
 refine wk (s:=xV (Instr.extract (.tuple #[vs l,.agg (m8 pl').toArray,vi e]) 1)) rfl rfl (by kernel_rfl) (a7 (j9 _ 1 _ rfl) ?_)
 refine wk (s:=xV (Instr.extract (.tuple #[vs l,.agg (m8 pl').toArray,vi e]) 2)) rfl rfl (by kernel_rfl) (a7 (j9 _ 2 _ rfl) ?_)
 refine wk (s:=pure (.value (vs l))) rfl rfl (by kernel_rfl) (a7 (X8 _) ?_)
 refine wk (s:=xU (Instr.storeAt 31 (rQ gA) (.agg (m8 pl').toArray))) rfl rfl (by kernel_rfl) ?_
 refine G4 (I4.bring 1) Tryz.sizeOf31 (vs:=m8 pl') (cs':=m8 pl') rfl rfl (nb rfl) rfl rfl fun w5 I5 _=>?_
 refine wk (s:=xU (Instr.storeAt 27 (rQ gE) (vi e))) rfl rfl (by kernel_rfl) ?_
 refine G4 (I5.bring 1) Tryz.sizeOf27 (vs:=[vi e]) (cs':=[vi e]) rfl rfl (nb rfl) rfl rfl fun w6 I6 _=>?_
 have fin:∀{tmps:Array Value}{w':World}{H':Hp}{r0:g9}{r1:c8}{r2:Int},tmps.getD 6 undef=rQ gO→tmps.getD 7 undef=rQ gA→tmps.getD 8 undef=rQ gE→Inv w (inF []) H H' [bx gO 25 (o7 r0),bx gA 31 (m8 r1),bx gE 27 [vi r2]] w'→K r0 r1 r2 H'→
   ∃v,(results Tryz.f15 tmps).run Tryz.prog w'=.ok v w'∧∃H' Fo,Inv w (inF []) H H' Fo w'∧∃(r0:g9)(r1:c8)(r2:Int),v=(Value.tuple #[(Value.agg (o7 r0).toArray),(Value.agg (m8 r1).toArray),(vi r2)])∧Fo=[]∧K r0 r1 r2 H':=fun{tmps w' H' r0 r1 r2} h6 h7 h8 J hK=>
  ⟨_,c6C rfl h6 h7 h8 (a0Q (vs:=o7 r0) Tryz.isAgg25 Tryz.sizeOf25 rfl (J.at1 (o:=0) (vs:=o7 r0) (nb rfl) rfl) (a0Q (vs:=m8 r1) Tryz.isAgg31 Tryz.sizeOf31 rfl ((J.bring 1).at1 (o:=0) (vs:=m8 r1) (nb rfl) rfl) (c0h Tryz.isAgg27 ((J.bring 2).at1 (o:=0) (vs:=[vi r2]) (nb rfl) rfl) rfl))),_,_,J.drop.drop.drop,r0,r1,r2,rfl,rfl,hK⟩
 apply wp_seq
 apply wp_seq
 apply wp_region
 refine wk (s:=xV (Instr.loadAt 27 (rQ gE))) rfl rfl (by kernel_rfl) (b8 (ld1 (v:=vi e) Tryz.isAgg27 (I6.at1 (o:=0) (vs:=[vi e]) (nb rfl) rfl)) ?_)
 by_cases he:e=0
 rotate_left
 ·refine wk (s:=xBin .neq 27 (.tmp 17) (.const (vi 0)) (vi e) (vi 0)) rfl rfl (by kernel_rfl) (a7 (v:=.bool true) (by have:=Q6 (P:=Tryz.prog) 27 (.tmp 17) (.const (vi 0)) .i64 e 0;rw [decide_eq_false he] at this;exact this) ?_)
  refine wp_cond (t:=true) (by kernel_rfl) ?_
  apply wp_seq
  have J6:=(I6.bring 1).bring 2
  refine c1f (l:=[.string s,.func (.func 16) #[] #[],.func (.func 9) #[] #[],undef,undef,undef,rQ gO,rQ gA,rQ gE,vs l,undef,.tuple #[vs l,.agg (m8 pl').toArray,vi e],.string s,.tuple #[vs l,.agg (m8 pl').toArray,vi e],vs l,.agg (m8 pl').toArray,vi e,vi e,.bool true]++List.replicate 35 undef) (h:=d4x) (rs:=Tryz.f15.results.toList) (R:=fun v w'=>v=.tuple #[.agg (o7 (g9.mk (Sl.mk none 0 0) (Sl.mk none 0 0))).toArray,.agg (m8 pl').toArray,vi e]∧Inv w (inF []) H H1 [bx gO 25 (o7 (g9.mk (Sl.mk none 0 0) (Sl.mk none 0 0))),bx gA 31 (m8 pl'),bx gE 27 [vi e]] w') (X:=c7H undef undef undef undef undef undef (rQ gO) (rQ gA) (rQ gE) w6 (fun v w'=>v=.tuple #[.agg (o7 (g9.mk (Sl.mk none 0 0) (Sl.mk none 0 0))).toArray,.agg (m8 pl').toArray,vi e]∧Inv w (inF []) H H1 [bx gO 25 (o7 (g9.mk (Sl.mk none 0 0) (Sl.mk none 0 0))),bx gA 31 (m8 pl'),bx gE 27 [vi e]] w') noPan) (by kernel_rfl) (by kernel_rfl) (by kernel_rfl) (by kernel_rfl) (by kernel_rfl) (by kernel_rfl) ?_ ?_
  ·unfold c7H
   refine T1 J6 fun w7 J7=>?_
   refine u7 (lW Tryz.isAgg25 Tryz.sizeOf25 rfl J7) ?_
   refine u7 (lW Tryz.isAgg31 Tryz.sizeOf31 rfl (J7.bring 1)) ?_
   refine u7 (ld1 (v:=vi e) Tryz.isAgg27 ((J7.bring 2).at1 (o:=0) (vs:=[vi e]) (nb rfl) rfl)) ?_
   refine G4 J7 Tryz.sizeOf25 (vs:=o7 (g9.mk (Sl.mk none 0 0) (Sl.mk none 0 0))) (cs':=o7 (g9.mk (Sl.mk none 0 0) (Sl.mk none 0 0))) rfl rfl (nb rfl) rfl rfl fun w8 J8 _=>?_
   refine ⟨(J8.bring 2).hp1.trans (J7.bring 2).hp1.symm,(J8.bring 1).hp1.trans (J7.bring 1).hp1.symm,?_⟩
   refine G4 (J8.bring 1) Tryz.sizeOf31 (vs:=m8 pl') (cs':=m8 pl') rfl rfl (nb rfl) rfl rfl fun w9 J9 _=>?_
   refine ⟨(J9.bring 2).hp1.trans (J8.bring 2).hp1.symm,?_⟩
   refine G4 (J9.bring 2) Tryz.sizeOf27 (vs:=[vi e]) (cs':=[vi e]) rfl rfl (nb rfl) rfl rfl fun w10 J10 _=>?_
   have J11:=(J10.bring 1).bring 2
   refine a0Q Tryz.isAgg25 Tryz.sizeOf25 rfl (J11.at1 (o:=0) (vs:=o7 (g9.mk (Sl.mk none 0 0) (Sl.mk none 0 0))) (nb rfl) rfl) ?_
   refine a0Q Tryz.isAgg31 Tryz.sizeOf31 rfl ((J11.bring 1).at1 (o:=0) (vs:=m8 pl') (nb rfl) rfl) ?_
   refine c0h Tryz.isAgg27 ((J11.bring 2).at1 (o:=0) (vs:=[vi e]) (nb rfl) rfl) ?_
   exact ⟨rfl,J11⟩
  ·intro e' a' σ' w' hr hb
   have hp:=a5g (fn:=Tryz.f15) (E:=noPan) hr hb
   cases e' with
   | normal=>
    obtain ⟨hd,v,hres,rfl,J⟩:=hp
    refine wp_ret ?_
    show Leaves _ _ _ _ a'.defers _ _
    rw [hd]
    exact ⟨_,hres,_,_,J.drop.drop.drop,_,_,_,rfl,rfl,k1 he H1 hl1⟩
   | ret=>
    obtain ⟨hd,v,hres,rfl,J⟩:=hp
    show Leaves _ _ _ _ a'.defers _ _
    rw [hd]
    exact ⟨_,hres,_,_,J.drop.drop.drop,_,_,_,rfl,rfl,k1 he H1 hl1⟩
   | exit i=>exact hb.elim
   | goto l=>exact hb.elim
   | panic ch=>exact hb.elim
   | outgrown=>exact hb.elim
 subst he
 obtain ⟨hwf,hbg⟩:=hw rfl
 refine wk (s:=xBin .neq 27 (.tmp 17) (.const (vi 0)) (vi 0) (vi 0)) rfl rfl (by kernel_rfl) (a7 (v:=.bool false) (by have:=Q6 (P:=Tryz.prog) 27 (.tmp 17) (.const (vi 0)) .i64 0 0;exact this) ?_)
 refine wp_cond (t:=false) (by kernel_rfl) ?_
 refine wp_skip ?_
 apply wp_seq
 apply wp_region
 refine wk (s:=xV (Instr.makeFunc (.func 34) #[] #[rQ gO,rQ gA,rQ gE])) rfl rfl (by kernel_rfl) (a7 (Q7 _ _ _) ?_)
 refine c6B (d:={ target:=.fn (.func 34) #[rQ gO,rQ gA,rQ gE],args:=#[] }) rfl rfl (by kernel_rfl) ?_
 have hpan:∀{tmps:Array Value}{c:Int}{q:c8}{H':Hp}{w':World}{cO cA cE:List Value},tmps.getD 6 undef=rQ gO→tmps.getD 7 undef=rQ gA→tmps.getD 8 undef=rQ gE→cO.length=([.slice none 0 0,.slice none 0 0]:List Value).length→cA.length=2→cE.length=1→readsR p chk toks=.error (c,q)→Inv w (inF []) H H' [bx gE 27 cE,bx gA 31 cA,bx gO 25 cO] w'→
   Leaves Tryz.prog Tryz.f15 tmps (endK (fun v w'=>∃H' Fo,Inv w (inF []) H H' Fo w'∧∃(r0:g9)(r1:c8)(r2:Int),v=(Value.tuple #[(Value.agg (o7 r0).toArray),(Value.agg (m8 r1).toArray),(vi r2)])∧Fo=[]∧K r0 r1 r2 H') (fun c w'=>∃H' Fo,Inv w (inF []) H H' Fo w'∧noQE c H' Fo)) [{ target:=.fn (.func 34) #[rQ gO,rQ gA,rQ gE],args:=#[] }] (.panicking [{ v:=fltV c q,recovered:=false }]) w':=by
  intro tmps c q H' w' cO cA cE h6 h7 h8 lO lA lE her J
  refine leaves_cons (f:=34) (args:=#[rQ gO,rQ gA,rQ gE]) (fun h=>by cases h) (Tryz.call34 _ w') ?_
  refine (b6g gO gA gE (c:=c) (pl:=q) lO lA lE w' _ _ _ _ ((J.bring 1).bring 2)).mono fun e1 u' w4 q4=>?_
  obtain ⟨rfl,rfl,J4⟩:=q4
  exact fin (r0:=(g9.mk (Sl.mk none 0 0) (Sl.mk none 0 0))) h6 h7 h8 J4 (k2 rfl c q her H' J.le)
 apply wp_seq
 apply wp_region
 refine wk (s:=pure (.value (vs l))) rfl rfl (by kernel_rfl) (a7 (X8 _) ?_)
 refine wk (s:=xV (Instr.build 86 #[(0,vs l)])) rfl rfl (by kernel_rfl) (a7 (v:=.agg (b9 ⟨l,0⟩).toArray) (Pu.ok fun w=>by kernel_rfl) ?_)
 refine wk (s:=xV (Instr.box 86 (.agg (b9 ⟨l,0⟩).toArray))) rfl rfl (by kernel_rfl) ?_
 refine E9 I6 (cs:=b9 ⟨l,0⟩) rfl fun gr w7 I7 _=>?_
 refine wk (s:=pure (.value (rQ gr))) rfl rfl (by kernel_rfl) (a7 (X8 _) ?_)
 have rd0:Rd H1 ⟨l,0⟩ toks:=⟨toks,0,hsl,hbg,rfl,rfl,hwf⟩
 let pq:PanQ:=panR (readsR p chk toks)
 apply wp_seq
 apply wp_region
 refine wk (s:=pure (.value (.func (.func 16) #[] #[]))) rfl rfl (by kernel_rfl) (a7 (X8 _) ?_)
 refine wk (s:=pure (.value (rQ gr))) rfl rfl (by kernel_rfl) (a7 (X8 _) ?_)
 refine wk (s:=xCall (.func (.func 16) #[] #[]) [rQ gr]) rfl rfl (by kernel_rfl) ?_
 refine a3e (cap:=[]) (fun args w=>Tryz.call16 args w) (a3B (Fi:=[bx gr 86 (b9 ⟨l,0⟩)]) (Fr:=[bx gE 27 [vi 0],bx gA 31 (m8 pl'),bx gO 25 [.slice none 0 0,.slice none 0 0]]) I7 (hread rd0 (Res.use rfl fun c q eo=>⟨c,q,rfl,by unfold readsR;rw [eo]⟩) gr) (fun v H2 Fo w8 I8 l2 _ q=>?_) (fun c H2 Fo w8 I8 q=>?_))
 rotate_left
 ·obtain ⟨_,rfl,c,q,rfl,her⟩:=q
  exact hpan (by kernel_rfl) (by kernel_rfl) (by kernel_rfl) rfl rfl rfl her I8.dropF
 obtain ⟨v,y,rfl,rfl,b,r',eo,ra,rd,_,_⟩:=q
 have hR:readsR p chk toks=if (hd r').d6≠5 then .error (40,(hd r').fAt) else if chk b=32 then .error (41,(hd r').fAt) else if chk b=33 then .error (42,(hd r').fAt) else .ok b:=by unfold readsR;rw [eo]
 refine wk (s:=xU (Instr.storeAt 25 (rQ gO) (.agg (o7 v).toArray))) rfl rfl (by kernel_rfl) ?_
 refine G4 (I8.bring 3) Tryz.sizeOf25 (vs:=o7 v) (cs':=o7 v) rfl rfl (nb rfl) rfl rfl fun w9 I9 _=>?_
 apply wp_seq
 apply wp_seq
 apply wp_region
 refine wk (s:=pure (.value (rQ gr))) rfl rfl (by kernel_rfl) (a7 (X8 _) ?_)
 have nx:∀{H':Hp},Hle H2 H'→B0 y H' (fun t H''=>H''=H'∧t=hd r'):=fun l=>a2Y (rd.le l) ⟨rfl,rfl⟩
 refine wk (s:=xCall (.func (.func 35) #[] #[]) [rQ gr]) rfl rfl (by kernel_rfl) ?_
 refine g6 Tryz.call35 (nx (Hle.refl _) gr) (I9.bring 1) ?_
 rintro _ H3 _ w10 I10 _ _ ⟨t,rfl,rfl,rfl,rfl⟩
 refine wk (s:=xV (Instr.field 88 (.agg (g8 (hd r')).toArray) 0)) rfl rfl (by kernel_rfl) (a7 (v:=vi (hd r').d6) (Pu.ok fun w=>by kernel_rfl) ?_)
 by_cases c1:(hd r').d6=5
 rotate_left
 ·refine wk (s:=xBin .neq 3 (.tmp 31) (.const (vi 5)) (vi (hd r').d6) (vi 5)) rfl rfl (by kernel_rfl) (a7 (v:=.bool true) (by have:=Q6 (P:=Tryz.prog) 3 (.tmp 31) (.const (vi 5)) .i64 (hd r').d6 5;rw [decide_eq_false c1] at this;exact this) ?_)
  refine wp_cond (t:=true) (by kernel_rfl) ?_
  apply wp_region
  refine wk (s:=pure (.value (rQ gr))) rfl rfl (by kernel_rfl) (a7 (X8 _) ?_)
  refine wk (s:=xCall (.func (.func 36) #[] #[]) [rQ gr]) rfl rfl (by kernel_rfl) ?_
  have kw:PanQ.q (fltV 40 (hd r').fAt):=⟨_,_,rfl,by rw [hR,if_pos c1]⟩
  refine a3e (cap:=[]) (fun args w=>Tryz.call36 args w) (a3B (Fi:=[bx gr 86 (b9 y)]) (Fr:=[bx gO 25 (o7 v),bx gE 27 [vi 0],bx gA 31 (m8 pl')]) I10 (a5B rd (K:=fun _=>False) kw gr) (fun v H2 Fo w8 I8 l2 _ q=>?_) (fun c H2 Fo w8 I8 q=>?_))
  ·obtain ⟨_,_,q⟩:=q
   exact q.elim
  ·obtain ⟨_,rfl,c,q,rfl,her⟩:=q
   exact hpan (cO:=o7 v) (cA:=m8 pl') (cE:=[vi 0]) (by kernel_rfl) (by kernel_rfl) (by kernel_rfl) rfl rfl rfl her (((I8.dropF.bring 1).bring 2).bring 1)
 rw [if_neg (fun n=>n c1)] at hR
 refine wk (s:=xBin .neq 3 (.tmp 31) (.const (vi 5)) (vi (hd r').d6) (vi 5)) rfl rfl (by kernel_rfl) (a7 (v:=.bool false) (by have:=Q6 (P:=Tryz.prog) 3 (.tmp 31) (.const (vi 5)) .i64 (hd r').d6 5;rw [decide_eq_true c1] at this;exact this) ?_)
 refine wp_cond (t:=false) (by kernel_rfl) ?_
 refine wp_skip ?_
 apply wp_seq
 apply wp_seq
 apply wp_region
 refine wk (s:=pure (.value (.func (.func 9) #[] #[]))) rfl rfl (by kernel_rfl) (a7 (X8 _) ?_)
 refine wk (s:=xV (Instr.loadAt 25 (rQ gO))) rfl rfl (by kernel_rfl) (b8 (lW Tryz.isAgg25 Tryz.sizeOf25 rfl (I10.bring 1)) ?_)
 refine wk (s:=xCall (.func (.func 9) #[] #[]) [.agg (o7 v).toArray]) rfl rfl (by kernel_rfl) ?_
 refine g6 Tryz.call9 (hchk rfl I10.le eo ra) I10 ?_
 rintro _ H4 _ w11 I11 _ _ ⟨ec,rfl,rfl,l4,rfl⟩
 apply wp_block
 apply wp_seq
 apply wp_region
 by_cases c2:chk b=32
 ·refine wk (s:=xBin .eql 27 (.tmp 37) (.const (vi 32)) (vi (chk b)) (vi 32)) rfl rfl (by kernel_rfl) (a7 (v:=.bool true) (by have:=l9 (P:=Tryz.prog) 27 (.tmp 37) (.const (vi 32)) .i64 (chk b) 32;rw [decide_eq_true c2] at this;exact this) ?_)
  refine wk (s:=pure (.value (.bool true))) rfl rfl (by kernel_rfl) (a7 (X8 _) ?_)
  refine wp_cond (t:=true) (by kernel_rfl) ?_
  apply wp_region
  refine wk (s:=pure (.value (rQ gr))) rfl rfl (by kernel_rfl) (a7 (X8 _) ?_)
  refine wk (s:=xCall (.func (.func 35) #[] #[]) [rQ gr]) rfl rfl (by kernel_rfl) ?_
  refine g6 Tryz.call35 (nx l4 gr) I11 ?_
  rintro _ H5 _ w12 I12 _ _ ⟨t,rfl,rfl,rfl,rfl⟩
  refine wk (s:=xV (Instr.field 88 (.agg (g8 (hd r')).toArray) 3)) rfl rfl (by kernel_rfl) (a7 (v:=.agg (m8 (hd r').fAt).toArray) (Pu.ok fun w=>by kernel_rfl) ?_)
  refine wk (s:=xV (Instr.build 83 #[(0,.agg (m8 (hd r').fAt).toArray),(1,vi 41)])) rfl rfl (by kernel_rfl) (a7 (v:=.agg #[vi (hd r').fAt.M8,vi (hd r').fAt.V1,vi 41]) (Pu.ok fun w=>by kernel_rfl) ?_)
  refine wk (s:=xV (Instr.makeInterface 83 (.agg #[vi (hd r').fAt.M8,vi (hd r').fAt.V1,vi 41]))) rfl rfl (by kernel_rfl) (a7 (v:=fltV 41 (hd r').fAt) (Pu.ok fun w=>by kernel_rfl) ?_)
  refine wk (s:=xV (Instr.panic (fltV 41 (hd r').fAt))) rfl rfl (by kernel_rfl) (a9W ?_)
  exact hpan (cO:=o7 v) (cA:=m8 pl') (cE:=[vi 0]) (by kernel_rfl) (by kernel_rfl) (by kernel_rfl) rfl rfl rfl (by rw [hR,if_pos c2]) (((I12.drop.bring 1).bring 2).bring 1)
 rw [if_neg c2] at hR
 refine wk (s:=xBin .eql 27 (.tmp 37) (.const (vi 32)) (vi (chk b)) (vi 32)) rfl rfl (by kernel_rfl) (a7 (v:=.bool false) (by have:=l9 (P:=Tryz.prog) 27 (.tmp 37) (.const (vi 32)) .i64 (chk b) 32;rw [decide_eq_false c2] at this;exact this) ?_)
 refine wk (s:=pure (.value (.bool false))) rfl rfl (by kernel_rfl) (a7 (X8 _) ?_)
 refine wp_cond (t:=false) (by kernel_rfl) ?_
 apply wp_seq
 apply wp_region
 by_cases c3:chk b=33
 ·refine wk (s:=xBin .eql 27 (.tmp 37) (.const (vi 33)) (vi (chk b)) (vi 33)) rfl rfl (by kernel_rfl) (a7 (v:=.bool true) (by have:=l9 (P:=Tryz.prog) 27 (.tmp 37) (.const (vi 33)) .i64 (chk b) 33;rw [decide_eq_true c3] at this;exact this) ?_)
  refine wk (s:=pure (.value (.bool true))) rfl rfl (by kernel_rfl) (a7 (X8 _) ?_)
  refine wp_cond (t:=true) (by kernel_rfl) ?_
  apply wp_region
  refine wk (s:=pure (.value (rQ gr))) rfl rfl (by kernel_rfl) (a7 (X8 _) ?_)
  refine wk (s:=xCall (.func (.func 35) #[] #[]) [rQ gr]) rfl rfl (by kernel_rfl) ?_
  refine g6 Tryz.call35 (nx l4 gr) I11 ?_
  rintro _ H5 _ w12 I12 _ _ ⟨t,rfl,rfl,rfl,rfl⟩
  refine wk (s:=xV (Instr.field 88 (.agg (g8 (hd r')).toArray) 3)) rfl rfl (by kernel_rfl) (a7 (v:=.agg (m8 (hd r').fAt).toArray) (Pu.ok fun w=>by kernel_rfl) ?_)
  refine wk (s:=xV (Instr.build 83 #[(0,.agg (m8 (hd r').fAt).toArray),(1,vi 42)])) rfl rfl (by kernel_rfl) (a7 (v:=.agg #[vi (hd r').fAt.M8,vi (hd r').fAt.V1,vi 42]) (Pu.ok fun w=>by kernel_rfl) ?_)
  refine wk (s:=xV (Instr.makeInterface 83 (.agg #[vi (hd r').fAt.M8,vi (hd r').fAt.V1,vi 42]))) rfl rfl (by kernel_rfl) (a7 (v:=fltV 42 (hd r').fAt) (Pu.ok fun w=>by kernel_rfl) ?_)
  refine wk (s:=xV (Instr.panic (fltV 42 (hd r').fAt))) rfl rfl (by kernel_rfl) (a9W ?_)
  exact hpan (cO:=o7 v) (cA:=m8 pl') (cE:=[vi 0]) (by kernel_rfl) (by kernel_rfl) (by kernel_rfl) rfl rfl rfl (by rw [hR,if_pos c3]) (((I12.drop.bring 1).bring 2).bring 1)
 rw [if_neg c3] at hR
 refine wk (s:=xBin .eql 27 (.tmp 37) (.const (vi 33)) (vi (chk b)) (vi 33)) rfl rfl (by kernel_rfl) (a7 (v:=.bool false) (by have:=l9 (P:=Tryz.prog) 27 (.tmp 37) (.const (vi 33)) .i64 (chk b) 33;rw [decide_eq_false c3] at this;exact this) ?_)
 refine wk (s:=pure (.value (.bool false))) rfl rfl (by kernel_rfl) (a7 (X8 _) ?_)
 refine wp_cond (t:=false) (by kernel_rfl) ?_
 refine wp_skip ?_
 apply wp_seq
 apply wp_region
 refine wk (s:=xV (Instr.loadAt 25 (rQ gO))) rfl rfl (by kernel_rfl) (b8 (lW Tryz.isAgg25 Tryz.sizeOf25 rfl (I11.bring 1)) ?_)
 refine wk (s:=xV (Instr.build 31 #[])) rfl rfl (by kernel_rfl) (a7 (v:=.agg (m8 ⟨0,0⟩).toArray) (Pu.ok fun w=>by kernel_rfl) ?_)
 refine wk (s:=xU (Instr.storeAt 25 (rQ gO) (.agg (o7 v).toArray))) rfl rfl (by kernel_rfl) ?_
 refine G4 (I11.bring 1) Tryz.sizeOf25 (vs:=o7 v) (cs':=o7 v) rfl rfl (nb rfl) rfl rfl fun w12 I12 _=>?_
 refine wk (s:=xU (Instr.storeAt 31 (rQ gA) (.agg (m8 ⟨0,0⟩).toArray))) rfl rfl (by kernel_rfl) ?_
 refine G4 (I12.bring 3) Tryz.sizeOf31 (vs:=m8 ⟨0,0⟩) (cs':=m8 ⟨0,0⟩) rfl rfl (nb rfl) rfl rfl fun w13 I13 _=>?_
 refine wk (s:=xU (Instr.storeAt 27 (rQ gE) (vi 0))) rfl rfl (by kernel_rfl) ?_
 refine G4 (I13.bring 3) Tryz.sizeOf27 (vs:=[vi 0]) (cs':=[vi 0]) rfl rfl (nb rfl) rfl rfl fun w14 I14 _=>?_
 refine wp_ret ?_
 refine leaves_cons (f:=34) (args:=#[rQ gO,rQ gA,rQ gE]) (fun h=>by cases h) (Tryz.call34 _ w14) ?_
 refine (b6f gO gA gE w14).mono fun e1 u' w15 q5=>?_
 obtain ⟨rfl,rfl,rfl⟩:=q5
 exact fin (r0:=v) (r1:=⟨0,0⟩) (r2:=0) (by kernel_rfl) (by kernel_rfl) (by kernel_rfl) (((I14.bring 3).drop.bring 1).bring 2) (k3 rfl b hR _ v (I14.le) (hle l4 ra))
end
end Go.Proofs.YtoflkliecagjcaaGreatDoor
