/- What the rows of texts share: the tables, the powers and the error that the rows list hold what the walks ask; a world for the witness. -/
import Derived.Test.YtoflkliecagjcaaGreatDoorCards
import Derived.Test.YtoflkliecagjcaaGreatDoorTie
import Derived.ShutString
import Derived.Deep.DeepHandedRow
import Derived.Lib.LaidU8T
import Derived.Lib.LaidTab
import Derived.Lay
import Derived.ChangeMaps5
import Derived.Stop.LaidErr
import Derived.Test.YtoflkliecagjcaaGreatDooryBI2
namespace Go.Proofs.YtoflkliecagjcaaGreatDoor
open Go.ChangeShapes Go.WideShapes Go.ChangeAt Go.RowKit Go.Shelf
theorem own:ownKnob Tryz.prog.godebug=none:=by kernel_rfl
theorem laidOut:laidOutB Tryz.prog=true:=by kernel_rfl
abbrev listed : List (String × DataW Unit) := [("math/bits.deBruijn32tab", Rows.laid_math_bits_deBruijn32tab), ("math/bits.deBruijn64tab", Rows.laid_math_bits_deBruijn64tab), ("internal/strconv.uint64pow10", Rows.laid_internal_strconv_uint64pow10), ("unicode/utf8.acceptRanges", Rows.laid_unicode_utf8_acceptRanges), ("strconv.ErrRange", Rows.laid_strconv_ErrRange), ("strconv.ErrSyntax", Rows.laid_strconv_ErrSyntax), ("unicode/utf8.first", Rows.laid_unicode_utf8_first)]
theorem u8x:U8Extra Tryz.prog Tryz.b3G:=⟨by kernel_rfl,by kernel_rfl,by kernel_rfl,by kernel_rfl,by kernel_rfl,by kernel_rfl,by kernel_rfl⟩
theorem firstEq:Rows.laid_unicode_utf8_first=Lib.firstData:=by kernel_rfl
theorem acceptEq:(Rows.laid_unicode_utf8_acceptRanges:DataW Unit)=Lib.acceptData:=by kernel_rfl
theorem powEq:(Rows.laid_internal_strconv_uint64pow10:DataW Unit)=Lib.tabData .u64 Lib.pow10Tab:=by kernel_rfl
theorem starE : "*" ++ "errors.errorString" = "*errors.errorString" := by decide
theorem rowE (u : TypeId) (h : Tryz.prog.typeName? 3 u = some "*errors.errorString") : u = 218 :=
 typeName_ptr_named (nm := "errors.errorString") (by rw [starE]; kernel_rfl) (by kernel_rfl) (by decide) u (by rw [starE]; exact h)
def ErrW(W:World):Prop:=∃(tp:TypeId)(x:Value),W.cell? ⟨7,0,none⟩=some (.iface tp x)
theorem b8J {W : World} (h : laidMetH Tryz.prog listed W) : Lib.Utf8Tabs 1 2 W ∧ ErrW W ∧ Lib.TabIs Tryz.prog W "internal/strconv.uint64pow10" .u64 Lib.pow10Tab := by
 rw [MakeChecks.laidMetH_plain _ _ _ (by kernel_rfl)] at h
 refine ⟨utf8Tabs_of_readsT (U8Types.of196 Tryz.c0J) u8x (firstEq ▸ Lib.laidMet.reads h (.tail _ (.tail _ (.tail _ (.tail _ (.tail _ (.tail _ (.head _)))))))) (acceptEq ▸ Lib.laidMet.reads h (.tail _ (.tail _ (.tail _ (.head _))))),?_,?_⟩
 ·have hg : Tryz.prog.globalNamed "strconv.ErrRange" = some 7 := by kernel_rfl
  obtain ⟨a0,s0,hv0,-,-,-⟩:=laid_sentinel h.tail.tail.tail.tail hg (show (Tryz.prog.globals[7]?).map (·.type)=some 114 by kernel_rfl) Tryz.underlying114 rowE Tryz.underlying218 Tryz.underlying220 rfl rfl Tryz.underlying9 (by kernel_rfl) (by kernel_rfl)
  exact ⟨_,_,by have h0:=World.var?_cell hg hv0 0;simpa using h0⟩
 ·have h2:=h.tail.tail
  rw [powEq] at h2
  exact Lib.tabIs_of_head (g:=0) (by kernel_rfl) (show (Tryz.prog.globals[0]?).map (·.type)=some 184 by kernel_rfl) Tryz.underlying184 Tryz.underlying152 (by kernel_rfl) (by kernel_rfl) h2
theorem a7V{W w:World}(s:Sub (hpW W) w){a:Addr}{v:Value}(h:W.cell? a=some v):w.cell? a=some v:=by
 have hb:∀o,W.heap[a.block]? = some o→w.heap[a.block]? = some o:=fun o h=>s _ o h
 unfold World.cell? at h ⊢
 cases hq:W.heap[a.block]? with
 | none=>rw [hq] at h;cases h
 | some o=>rw [hq] at h;rw [hb o hq];exact h
theorem c6o{W:World}(h:Lib.Utf8Tabs 1 2 W):TabsH (hpW W):=fun w s=>
 ⟨fun c hc=>a7V s (h.1 c hc),fun i hi=>⟨a7V s (h.2 i hi).1,a7V s (h.2 i hi).2⟩⟩
theorem c9j{W:World}(h:ErrW W):ErrH (hpW W):=by
 obtain ⟨tp,x,h⟩:=h
 exact ⟨tp,x,fun w s=>a7V s h⟩
theorem c9k {W : World} (h : Lib.TabIs Tryz.prog W "internal/strconv.uint64pow10" .u64 Lib.pow10Tab) : PowH (hpW W) := fun w s => by
 unfold Lib.TabIs World.var? at h ⊢
 rw [show Tryz.prog.globalNamed "internal/strconv.uint64pow10" = some 0 by kernel_rfl] at h ⊢
 simp only [Option.bind_some] at h ⊢
 cases hq:W.heap[0]? with
 | none=>rw [hq] at h;cases h
 | some o=>rw [hq] at h;rw [s 0 o hq];exact h
noncomputable def wit(os:Os):World:=World.laidAll Tryz.prog os listed
theorem c9l(os:Os)(args:Array Value):laidMetH Tryz.prog listed ((wit os).forCall (fun _ _=>0) ⟨#[],args,[]⟩).memory:=by
 rw [MakeChecks.laidMetH_plain _ _ _ (by kernel_rfl)]
 exact laidMet_laidAll _ (by kernel_rfl) (by kernel_rfl)
theorem c9m{H:Type}{enc:TypeId×Value→H}{f:FuncId}{fn:Func}{s:OpenSpec}{conds:List PathCond}(os:Os)(args:Array Value)
  (hsh:((wit os).forCall (fun _ _=>0) ⟨#[],args,[]⟩).Shaped Tryz.prog)
  (hok:Input.okWideB Tryz.checked.prog ((wit os).forCall (fun _ _=>0) ⟨#[],args,[]⟩) f ⟨#[],args,[]⟩=true)
  (hrow:s.preRow enc Tryz.checked.prog fn conds false listed ((wit os).forCall (fun _ _=>0) ⟨#[],args,[]⟩).memory args):
  ∃(w:World)(tape:Tape)(i:Input),w.os=os∧(w.forCall tape i).Shaped Tryz.checked.prog∧i.vars=[]∧Input.okWide Tryz.checked.prog (w.forCall tape i) .any w.heap.size f i∧
   s.preRow enc Tryz.checked.prog fn conds false listed (w.forCall tape i).memory i.args∧({}:Assume).holds Tryz.checked.prog (lone (Frame.enter Tryz.checked.prog f i.args .normal) [] (w.forCall tape i)):=
 ⟨wit os,fun _ _=>0,⟨#[],args,[]⟩,World.laidAll_os _ _ _,hsh,(Input.okWide_of_okWideB (base:=0) hok).1,(Input.okWide_of_okWideB hok).2,hrow,by
  simp only [Assume.holds]
  exact ⟨by simp,by simp,fun _=>Modest.zero,by simp,by simp⟩⟩
open Go.RowKit
set_option maxRecDepth 100000
set_option maxHeartbeats 1000000
abbrev BL:=List UInt8
def lim:Nat:=65536
def Wt(B:Nat)(xs t ys:BL):Prop:=if xs.length+t.length≤lim then ys=xs++t else lim < ys.length∧ys.length≤B
theorem Wt.bound{B:Nat}{xs t ys:BL}(hB:lim≤B)(h:Wt B xs t ys):ys.length≤B:=by
 unfold Wt at h
 split at h
 ·rw [h,List.length_append];omega
 ·exact h.2
theorem Wt.nil{B:Nat}{xs:BL}(h:xs.length≤B):Wt B xs [] xs:=by
 unfold Wt
 split
 ·rw [List.append_nil]
 ·rename_i c
  rw [List.length_nil,Nat.add_zero] at c
  exact ⟨by omega,h⟩
theorem Wt.trans{B:Nat}{xs t ys u zs:BL}(h:Wt B xs t ys)(k:Wt B ys u zs):Wt B xs (t++u) zs:=by
 unfold Wt at h k ⊢
 rw [List.length_append]
 by_cases c:xs.length+t.length≤lim
 ·rw [if_pos c] at h
  subst h
  rw [List.length_append] at k
  by_cases c2:xs.length+t.length+u.length≤lim
  ·rw [if_pos c2] at k
   rw [if_pos (by omega),k,List.append_assoc]
  ·rw [if_neg c2] at k
   rw [if_neg (by omega)]
   exact k
 ·rw [if_neg c] at h
  rw [if_neg (by omega)] at k
  rw [if_neg (by omega)]
  exact k
def putW(xs s:BL):BL:=if lim < xs.length then xs else xs++s
theorem Wt.put{B:Nat}{xs s:BL}(h:xs.length≤B)(hs:lim+s.length≤B):Wt B xs s (putW xs s):=by
 unfold Wt putW
 by_cases c:lim < xs.length
 ·rw [if_pos c,if_neg (by omega)]
  exact ⟨c,h⟩
 ·rw [if_neg c]
  split
  ·rfl
  ·rw [List.length_append]
   exact ⟨by omega,by omega⟩
theorem Wt.full{B:Nat}{xs t:BL}(h:lim < xs.length)(hB:xs.length≤B):Wt B xs t xs:=by
 unfold Wt
 rw [if_neg (by omega)]
 exact ⟨h,hB⟩
def kindL:Lab→Int
 | .decl ..=>0
 | .stmt k ..=>k
 | .cond k ..=>k
 | .expr k ..=>k
def kindT:PT→Int
 | .mk l _=>kindL l
def lvE(k:Int):Int:=if k=6∨k=7 then 1 else if k=8∨k=9∨k=10 then 2 else if k=5 then 3 else 4
def lvC(k:Int):Int:=if k=6 then 1 else if k=5 then 2 else 3
def par(b:Bool)(o c:UInt8)(t:BL):BL:=if b=true then [o]++t++[c] else t
def sgnE(k:Int):BL:=if k=6 then [43] else if k=7 then [45] else if k=8 then [42] else if k=9 then [47] else [37]
def sgnC(op:Int):BL:=if op=1 then [60] else if op=2 then [60,61] else if op=3 then [61,61] else if op=4 then [33,61] else if op=5 then [62] else [62,61]
section
variable (dec:Int→BL)
def labT:Lab→List Int→List BL→BL
 | .expr k n s _,ks,ts=>
  if k=1 then dec n else if k=2 then s.data.toList else if k=3 then [105,110,112,117,116]
  else if k=4 then s.data.toList++[91]++ts.headD []++[93]
  else if k=5 then [45]++par (decide (lvE (ks.headD 0) < 3)) 40 41 (ts.headD [])
  else par (decide (lvE (ks.headD 0) < lvE k)) 40 41 (ts.headD [])++([32]++sgnE k++[32])++par (decide (lvE (ks.tail.headD 0)≤lvE k)) 40 41 (ts.tail.headD [])
 | .cond k op _ _,ks,ts=>
  if k=1 then [116,114,117,101] else if k=2 then [102,97,108,115,101]
  else if k=3 then ts.headD []++([32]++sgnC op++[32])++ts.tail.headD []
  else if k=4 then [33]++par (decide (lvC (ks.headD 0) < 3)) 91 93 (ts.headD [])
  else par (decide (lvC (ks.headD 0) < lvC k)) 91 93 (ts.headD [])++(if k=6 then [32,124,124,32] else [32,38,38,32])++par (decide (lvC (ks.tail.headD 0)≤lvC k)) 91 93 (ts.tail.headD [])
 | _,_,_=>[]
mutual
def tx:PT→BL
 | .mk l cs=>labT dec l (cs.map kindT) (txs cs)
def txs:List PT→List BL
 | []=>[]
 | t::ts=>tx t::txs ts
end
def lineT(d:Nat)(t:BL):BL:=(List.replicate d ([32,32]:BL)).flatten++t++[10]
def labS(d:Nat):Lab→List BL→List BL→BL
 | .stmt k s e c t _,ts,ss=>
  if k=1 then lineT d (s.data.toList++[32,61,32]++ts.headD []++[59])
  else if k=2 then lineT d (s.data.toList++[91]++ts.headD []++[93,32,61,32]++ts.tail.headD []++[59])
  else if k=3 then lineT d ([105,102,32]++ts.headD []++[32,123])++((ss.drop (c+e)).take t).flatten++(if ss.length≤c+e+t then [] else lineT d [125,32,101,108,115,101,32,123]++(ss.drop (c+e+t)).flatten)++lineT d [125]
  else if k=4 then lineT d ([119,104,105,108,101,32]++ts.headD []++[32,123])++((ss.drop (c+e)).take t).flatten++lineT d [125]
  else if k=5 then lineT d ([97,115,115,101,114,116,32]++ts.headD []++[59])
  else if k=6 then lineT d ([97,115,115,117,109,101,32]++ts.headD []++[59])
  else lineT d [115,107,105,112,59]
 | _,_,_=>[]
mutual
def stx:Nat→PT→BL
 | d,.mk l cs=>labS d l (txs dec cs) (stxs (d+1) cs)
def stxs:Nat→List PT→List BL
 | _,[]=>[]
 | d,t::ts=>stx d t::stxs d ts
end
def declT(d:i6):BL:=if d.D4=0 then lineT 0 ([118,97,114,32]++d.o8.data.toList++[59]) else lineT 0 ([97,114,114,97,121,32]++d.o8.data.toList++[91]++dec d.D4++[93,59])
def progT(q:PP):BL:=(q.decls.map (declT dec)).flatten++(stxs dec 0 q.body).flatten
end
end Go.Proofs.YtoflkliecagjcaaGreatDoor
namespace Go.Proofs.YtoflkliecagjcaaGreatDoor
open Go.RowKit
set_option maxRecDepth 100000
set_option maxHeartbeats 1000000
abbrev Tok:=b7
abbrev Flt:=Int×c8
abbrev PM(α:Type):=List Tok→Except Flt (α×List Tok)
def hd(r:List Tok):Tok:=r.headD ⟨5,⟨#[]⟩,0,⟨0,0⟩⟩
def isT(s:ByteArray)(r:List Tok):Bool:=(decide ((hd r).d6=3)||decide ((hd r).d6=4))&&decide ((hd r).E1=s)
def wantE{α:Type}:PM α:=fun r=>.error (40,(hd r).fAt)
def deadE{α:Type}(b:List Tok→Bool):PM α:=fun r=>if b r then .error (41,(hd r).fAt) else .error (40,(hd r).fAt)
def pureP{α:Type}(a:α):PM α:=fun r=>.ok (a,r)
def bindP{α β:Type}(p:PM α)(f:α→PM β):PM β:=fun r=>match p r with
 | .error x=>.error x
 | .ok (a,r')=>f a r'
def mustP(s:ByteArray):PM Unit:=fun r=>if isT s r then .ok ((),r.tail) else .error (40,(hd r).fAt)
def WfT:List Tok→Prop
 | []=>False
 | [t]=>t.d6=5
 | t::u::r=>t.d6≠5∧WfT (u::r)
def factB(r:List Tok):Bool:=(((decide ((hd r).d6=1)||decide ((hd r).d6=2))||isT ⟨#[45]⟩ r)||isT ⟨#[105,110,112,117,116]⟩ r)||isT ⟨#[40]⟩ r
def litB(r:List Tok):Bool:=(((factB r||isT ⟨#[116,114,117,101]⟩ r)||isT ⟨#[102,97,108,115,101]⟩ r)||isT ⟨#[33]⟩ r)||isT ⟨#[91]⟩ r
def stmtB(r:List Tok):Bool:=((((decide ((hd r).d6=1)||isT ⟨#[105,102]⟩ r)||isT ⟨#[119,104,105,108,101]⟩ r)||isT ⟨#[97,115,115,101,114,116]⟩ r)||isT ⟨#[97,115,115,117,109,101]⟩ r)||isT ⟨#[115,107,105,112]⟩ r
def eX(k num:Int)(s:ByteArray)(ts:List PT):PT:=.mk (.expr k num s ts.length) ts
def cX(k op:Int)(es cs:List PT):PT:=.mk (.cond k op es.length cs.length) (es++cs)
def sX(k:Int)(s:ByteArray)(es cs vs ws:List PT):PT:=.mk (.stmt k s es.length cs.length vs.length ws.length) (cs++(es++(vs++ws)))
def chainF(w:List Tok→Int)(part:PM PT):Nat→PT→PM PT
 | 0,e=>fun r=>.ok (e,r)
 | n+1,e=>fun r=>if w r=0 then .ok (e,r) else bindP part (fun a=>chainF w part n (eX (w r) 0 ⟨#[]⟩ [e,a])) r.tail
def chainP(w:List Tok→Int)(part:PM PT):PM PT:=bindP part fun e r=>chainF w part r.length e r
def joinsF(s:ByteArray)(k:Int)(part:PM PT):Nat→PT→PM PT
 | 0,c=>fun r=>.ok (c,r)
 | n+1,c=>fun r=>if isT s r then bindP part (fun d=>joinsF s k part n (cX k 0 [] [c,d])) r.tail else .ok (c,r)
def joinsP(s:ByteArray)(k:Int)(part:PM PT):PM PT:=bindP part fun c r=>joinsF s k part r.length c r
def whG:List ByteArray→List Int→List Tok→Int
 | s::ss,k::ks,r=>if isT s r then k else whG ss ks r
 | _,_,_=>0
abbrev sMul:List ByteArray:=[⟨#[42]⟩,⟨#[47]⟩,⟨#[37]⟩]
abbrev kMul:List Int:=[8,9,10]
abbrev sAdd:List ByteArray:=[⟨#[43]⟩,⟨#[45]⟩]
abbrev kAdd:List Int:=[6,7]
def termOf(f:PM PT):PM PT:=chainP (whG sMul kMul) f
def exprOf(f:PM PT):PM PT:=chainP (whG sAdd kAdd) (termOf f)
def factS(f:PM PT):PM PT:=fun r=>
 if factB r=false then wantE r else
 if isT ⟨#[45]⟩ r then bindP f (fun e=>pureP (eX 5 0 ⟨#[]⟩ [e])) r.tail else
 if isT ⟨#[40]⟩ r then bindP (exprOf f) (fun e=>bindP (mustP ⟨#[41]⟩) fun _=>pureP e) r.tail else
 if isT ⟨#[105,110,112,117,116]⟩ r then .ok (eX 3 0 ⟨#[]⟩ [],r.tail) else
 if (hd r).d6=2 then .ok (eX 1 (hd r).M4 ⟨#[]⟩ [],r.tail) else
 if isT ⟨#[91]⟩ r.tail then bindP (exprOf f) (fun e=>bindP (mustP ⟨#[93]⟩) fun _=>pureP (eX 4 0 (hd r).E1 [e])) r.tail.tail else
 .ok (eX 2 0 (hd r).E1 [],r.tail)
def factP:Nat→PM PT
 | 0=>deadE factB
 | g+1=>factS (factP g)
def exprP(g:Nat):PM PT:=exprOf (factP g)
def relR(r:List Tok):Int:=whG [⟨#[60]⟩,⟨#[60,61]⟩,⟨#[61,61]⟩,⟨#[33,61]⟩,⟨#[62]⟩,⟨#[62,61]⟩] [1,2,3,4,5,6] r
def relP:PM Int:=fun r=>if relR r=0 then wantE r else .ok (relR r,r.tail)
def conjOf(l:PM PT):PM PT:=joinsP ⟨#[38,38]⟩ 5 l
def condOf(l:PM PT):PM PT:=joinsP ⟨#[124,124]⟩ 6 (conjOf l)
def litS(l ex:PM PT):PM PT:=fun r=>
 if litB r=false then wantE r else
 if isT ⟨#[116,114,117,101]⟩ r then .ok (cX 1 0 [] [],r.tail) else
 if isT ⟨#[102,97,108,115,101]⟩ r then .ok (cX 2 0 [] [],r.tail) else
 if isT ⟨#[33]⟩ r then bindP l (fun c=>pureP (cX 4 0 [] [c])) r.tail else
 if isT ⟨#[91]⟩ r then bindP (condOf l) (fun c=>bindP (mustP ⟨#[93]⟩) fun _=>pureP c) r.tail else
 bindP ex (fun a=>bindP relP fun op=>bindP ex fun b=>pureP (cX 3 op [a,b] [])) r
def litP:Nat→PM PT
 | 0=>deadE litB
 | g+1=>litS (litP g) (exprP (g+1))
def condP(g:Nat):PM PT:=condOf (litP g)
def stmtsF(stop:List Tok→Bool)(st:PM PT):Nat→List PT→PM (List PT)
 | 0,l=>fun r=>.ok (l,r)
 | n+1,l=>fun r=>if stop r then .ok (l,r) else bindP st (fun s=>stmtsF stop st n (l++[s])) r
def blockOf(st:PM PT):PM (List PT):=bindP (mustP ⟨#[123]⟩) fun _=>bindP (fun r=>stmtsF (isT ⟨#[125]⟩) st r.length [] r) fun l r=>.ok (l,r.tail)
def endS(s:PT):PM PT:=bindP (mustP ⟨#[59]⟩) fun _=>pureP s
def setS(k:Int)(s:ByteArray)(es:List PT)(ex:PM PT):PM PT:=bindP (mustP ⟨#[61]⟩) fun _=>bindP ex fun e=>endS (sX k s (es++[e]) [] [] [])
def stmtS(st sub ex co:PM PT):PM PT:=fun r=>
 if stmtB r=false then wantE r else
 if (hd r).d6=1 then
  if isT ⟨#[91]⟩ r.tail then bindP sub (fun e=>bindP (mustP ⟨#[93]⟩) fun _=>setS 2 (hd r).E1 [e] ex) r.tail.tail else setS 1 (hd r).E1 [] ex r.tail else
 if (hd r).E1=⟨#[105,102]⟩ then bindP co (fun c=>bindP (blockOf st) fun th r'=>if isT ⟨#[101,108,115,101]⟩ r' then bindP (blockOf st) (fun el=>pureP (sX 3 ⟨#[]⟩ [] [c] th el)) r'.tail else .ok (sX 3 ⟨#[]⟩ [] [c] th [],r')) r.tail else
 if (hd r).E1=⟨#[119,104,105,108,101]⟩ then bindP co (fun c=>bindP (blockOf st) fun th=>pureP (sX 4 ⟨#[]⟩ [] [c] th [])) r.tail else
 if (hd r).E1=⟨#[97,115,115,101,114,116]⟩ then bindP co (fun c=>endS (sX 5 ⟨#[]⟩ [] [c] [] [])) r.tail else
 if (hd r).E1=⟨#[97,115,115,117,109,101]⟩ then bindP co (fun c=>endS (sX 6 ⟨#[]⟩ [] [c] [] [])) r.tail else
 endS (sX 7 ⟨#[]⟩ [] [] [] []) r.tail
def stmtP:Nat→PM PT
 | 0=>deadE stmtB
 | g+1=>stmtS (stmtP g) (exprP g) (exprP (g+1)) (condP (g+1))
def declP(arr:Bool):PM i6:=fun r=>
 if (hd r).d6≠1 then wantE r else
 if arr then bindP (mustP ⟨#[91]⟩) (fun _ r'=>
  if ((!decide ((hd r').d6=2))||decide ((hd r').M4 < 1))||decide (2147483647 < (hd r').M4) then wantE r'
  else bindP (mustP ⟨#[93]⟩) (fun _=>bindP (mustP ⟨#[59]⟩) fun _=>pureP (⟨(hd r).E1,(hd r').M4⟩:i6)) r'.tail) r.tail
 else bindP (mustP ⟨#[59]⟩) (fun _=>pureP (⟨(hd r).E1,0⟩:i6)) r.tail
abbrev tVar:ByteArray:=⟨#[118,97,114]⟩
abbrev tArr:ByteArray:=⟨#[97,114,114,97,121]⟩
def declsF:Nat→List i6→PM (List i6)
 | 0,l=>fun r=>.ok (l,r)
 | n+1,l=>fun r=>if isT tVar r||isT tArr r then bindP (declP (isT tArr r)) (fun d=>declsF n (l++[d])) r.tail else .ok (l,r)
def endB(r:List Tok):Bool:=decide ((hd r).d6=5)
def progP:PM PP:=bindP (fun r=>declsF r.length [] r) fun ds=>bindP (fun r=>stmtsF endB (stmtP 40) r.length [] r) fun b=>pureP ⟨ds,b⟩
def Shr{α:Type}(p:PM α):Prop:=∀r a r',p r=.ok (a,r')→r'.length≤r.length
def SShr{α:Type}(p:PM α):Prop:=∀r a r',p r=.ok (a,r')→r'.length < r.length
theorem SShr.shr{α:Type}{p:PM α}(h:SShr p):Shr p:=fun r a r' e=>Nat.le_of_lt (h r a r' e)
theorem c6p{s:ByteArray}{r:List Tok}(h:isT s r=true):(hd r).d6=3∨(hd r).d6=4:=by
 unfold isT at h
 simp only [Bool.and_eq_true,Bool.or_eq_true,decide_eq_true_eq] at h
 exact h.1
theorem a6Z{s:ByteArray}{r:List Tok}(h:isT s r=true):(hd r).d6≠5:=by rcases c6p h with e | e<;>omega
theorem a3S{r:List Tok}(h:(hd r).d6≠5):r.tail.length < r.length:=by
 cases r with
 | nil=>exact absurd rfl h
 | cons t r=>simp
theorem a7K(r:List Tok):r.tail.length≤r.length:=by simp
theorem bind_ok{α β:Type}{p:PM α}{f:α→PM β}{r:List Tok}{b:β}{r':List Tok}(h:bindP p f r=.ok (b,r')):∃a r1,p r=.ok (a,r1)∧f a r1=.ok (b,r'):=by
 unfold bindP at h
 split at h
 ·cases h
 ·exact ⟨_,_,by assumption,h⟩
theorem Shr.bind{α β:Type}{p:PM α}{f:α→PM β}(hp:Shr p)(hf:∀a,Shr (f a)):Shr (bindP p f):=fun r b r' h=>by
 obtain ⟨a,r1,h1,h2⟩:=bind_ok h
 exact Nat.le_trans (hf a _ _ _ h2) (hp _ _ _ h1)
theorem SShr.bind{α β:Type}{p:PM α}{f:α→PM β}(hp:SShr p)(hf:∀a,Shr (f a)):SShr (bindP p f):=fun r b r' h=>by
 obtain ⟨a,r1,h1,h2⟩:=bind_ok h
 exact Nat.lt_of_le_of_lt (hf a _ _ _ h2) (hp _ _ _ h1)
theorem a2D{α:Type}(a:α):Shr (pureP a):=fun r b r' h=>by cases h;exact Nat.le_refl _
theorem a2E(s:ByteArray):SShr (mustP s):=fun r b r' h=>by
 unfold mustP at h
 split at h
 ·rename_i c
  cases h
  exact a3S (a6Z c)
 ·cases h
theorem b4j{α:Type}(b:List Tok→Bool):SShr (deadE (α:=α) b):=fun r a r' h=>by
 unfold deadE at h
 split at h<;>cases h
theorem d3m{ss:List ByteArray}:∀{ks:List Int}{r:List Tok},whG ss ks r≠0→(hd r).d6≠5:=by
 induction ss with
 | nil=>intro ks r h;exact absurd rfl h
 | cons s ss ih=>
  intro ks r h
  cases ks with
  | nil=>exact absurd rfl h
  | cons k ks=>
   unfold whG at h
   split at h
   ·rename_i c;exact a6Z c
   ·exact ih h
theorem b5j{w:List Tok→Int}{part:PM PT}(hp:Shr part):∀(n:Nat)(e:PT),Shr (chainF w part n e)
 | 0,e=>fun r b r' h=>by cases h;exact Nat.le_refl _
 | n+1,e=>fun r b r' h=>by
  unfold chainF at h
  split at h
  ·cases h;exact Nat.le_refl _
  ·exact Nat.le_trans (Shr.bind hp (fun a=>b5j hp n _) _ _ _ h) (a7K r)
theorem b5k{s:ByteArray}{k:Int}{part:PM PT}(hp:Shr part):∀(n:Nat)(e:PT),Shr (joinsF s k part n e)
 | 0,e=>fun r b r' h=>by cases h;exact Nat.le_refl _
 | n+1,e=>fun r b r' h=>by
  unfold joinsF at h
  split at h
  ·exact Nat.le_trans (Shr.bind hp (fun a=>b5k hp n _) _ _ _ h) (a7K r)
  ·cases h;exact Nat.le_refl _
theorem a5z{w:List Tok→Int}{part:PM PT}(hp:SShr part):SShr (chainP w part):=hp.bind fun e r _ _ h=>b5j hp.shr r.length e _ _ _ h
theorem a5A{s:ByteArray}{k:Int}{part:PM PT}(hp:SShr part):SShr (joinsP s k part):=hp.bind fun e r _ _ h=>b5k hp.shr r.length e _ _ _ h
theorem c4z{f:PM PT}(hf:SShr f):SShr (factS f):=fun r a r' h=>by
 have he:SShr (exprOf f):=a5z (a5z hf)
 unfold factS at h
 split at h
 ·cases h
 rename_i c
 have hne:(hd r).d6≠5:=fun e=>c (by unfold factB isT;rw [e];rfl)
 have ht:=a3S hne
 have h2:=a7K r.tail
 split at h
 ·exact Nat.lt_of_le_of_lt ((hf.bind fun _=>a2D _).shr _ _ _ h) ht
 split at h
 ·exact Nat.lt_of_le_of_lt ((he.bind fun _=>(a2E _).shr.bind fun _=>a2D _).shr _ _ _ h) ht
 split at h
 ·cases h;exact ht
 split at h
 ·cases h;exact ht
 split at h
 ·exact Nat.lt_of_le_of_lt (Nat.le_trans ((he.bind fun _=>(a2E _).shr.bind fun _=>a2D _).shr _ _ _ h) h2) ht
 ·cases h;exact ht
theorem a6u:∀g,SShr (factP g)
 | 0=>b4j _
 | g+1=>c4z (a6u g)
theorem b2v(g:Nat):SShr (exprP g):=a5z (a5z (a6u g))
theorem c6q:SShr relP:=fun r a r' h=>by
 unfold relP at h
 split at h
 ·cases h
 ·rename_i c
  cases h
  exact a3S (d3m c)
theorem c6r{l ex:PM PT}(hl:SShr l)(hx:SShr ex):SShr (litS l ex):=fun r a r' h=>by
 have hc:SShr (condOf l):=a5A (a5A hl)
 unfold litS at h
 split at h
 ·cases h
 split at h
 ·rename_i c;cases h;exact a3S (a6Z c)
 split at h
 ·rename_i c;cases h;exact a3S (a6Z c)
 split at h
 ·rename_i c
  exact Nat.lt_of_le_of_lt ((hl.bind fun _=>a2D _).shr _ _ _ h) (a3S (a6Z c))
 split at h
 ·rename_i c
  exact Nat.lt_of_le_of_lt ((hc.bind fun _=>(a2E _).shr.bind fun _=>a2D _).shr _ _ _ h) (a3S (a6Z c))
 ·exact (hx.bind fun _=>c6q.shr.bind fun _=>hx.shr.bind fun _=>a2D _) _ _ _ h
theorem a9J:∀g,SShr (litP g)
 | 0=>b4j _
 | g+1=>c6r (a9J g) (b2v _)
theorem c4A(g:Nat):SShr (condP g):=a5A (a5A (a9J g))
theorem b5l{stop:List Tok→Bool}{st:PM PT}(hs:Shr st):∀(n:Nat)(l:List PT),Shr (stmtsF stop st n l)
 | 0,l=>fun r b r' h=>by cases h;exact Nat.le_refl _
 | n+1,l=>fun r b r' h=>by
  unfold stmtsF at h
  split at h
  ·cases h;exact Nat.le_refl _
  ·exact Shr.bind hs (fun a=>b5l hs n _) _ _ _ h
theorem b9Z{st:PM PT}(hs:Shr st):SShr (blockOf st):=(a2E _).bind fun _=>Shr.bind (fun r _ _ h=>b5l hs r.length [] _ _ _ h) fun _ r _ r' h=>by
 cases h;exact a7K r
theorem b1z(s:PT):SShr (endS s):=(a2E _).bind fun _=>a2D _
theorem b8K{k:Int}{s:ByteArray}{es:List PT}{ex:PM PT}(hx:Shr ex):SShr (setS k s es ex):=(a2E _).bind fun _=>hx.bind fun _=>(b1z _).shr
theorem c4B{st sub ex co:PM PT}(hs:Shr st)(hb:Shr sub)(hx:Shr ex)(hc:Shr co):SShr (stmtS st sub ex co):=fun r a r' h=>by
 unfold stmtS at h
 split at h
 ·cases h
 rename_i c
 have hne:(hd r).d6≠5:=fun e=>c (by unfold stmtB isT;rw [e];rfl)
 have ht:=a3S hne
 have h2:=a7K r.tail
 have hbl:=(b9Z hs).shr
 split at h
 ·split at h
  ·exact Nat.lt_of_le_of_lt (Nat.le_trans ((hb.bind fun _=>(a2E _).shr.bind fun _=>(b8K hx).shr) _ _ _ h) h2) ht
  ·exact Nat.lt_of_le_of_lt ((b8K hx).shr _ _ _ h) ht
 split at h
 ·refine Nat.lt_of_le_of_lt ((hc.bind fun _=>hbl.bind fun th r1 a1 r2 h1=>?_) _ _ _ h) ht
  split at h1
  ·exact Nat.le_trans ((hbl.bind fun _=>a2D _) _ _ _ h1) (a7K r1)
  ·cases h1;exact Nat.le_refl _
 split at h
 ·exact Nat.lt_of_le_of_lt ((hc.bind fun _=>hbl.bind fun _=>a2D _) _ _ _ h) ht
 split at h
 ·exact Nat.lt_of_le_of_lt ((hc.bind fun _=>(b1z _).shr) _ _ _ h) ht
 split at h
 ·exact Nat.lt_of_le_of_lt ((hc.bind fun _=>(b1z _).shr) _ _ _ h) ht
 ·exact Nat.lt_of_le_of_lt ((b1z _).shr _ _ _ h) ht
theorem b2w:∀g,SShr (stmtP g)
 | 0=>b4j _
 | g+1=>c4B (b2w g).shr (b2v _).shr (b2v _).shr (c4A _).shr
theorem c4C(arr:Bool):SShr (declP arr):=fun r a r' h=>by
 unfold declP at h
 split at h
 ·cases h
 rename_i c
 have ht:=a3S (r:=r) (by intro e;exact c (by rw [e];decide))
 split at h
 ·refine Nat.lt_of_le_of_lt ((Shr.bind (a2E _).shr fun _ r1 a1 r2 h1=>?_) _ _ _ h) ht
  split at h1
  ·cases h1
  ·exact Nat.le_trans (((a2E _).bind fun _=>(a2E _).shr.bind fun _=>a2D _).shr _ _ _ h1) (a7K r1)
 ·exact Nat.lt_of_le_of_lt (((a2E _).bind fun _=>a2D _).shr _ _ _ h) ht
end Go.Proofs.YtoflkliecagjcaaGreatDoor
