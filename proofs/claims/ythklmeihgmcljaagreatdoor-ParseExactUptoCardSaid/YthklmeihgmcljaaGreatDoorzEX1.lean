/- What the rows of texts share: the tables and the error that the rows list hold what the walks ask; a world for the witness. -/
import Derived.Test.YthklmeihgmcljaaGreatDoorCards
import Derived.Test.YthklmeihgmcljaaGreatDoorTie
import Derived.ShutString
import Derived.Deep.DeepHandedRow
import Derived.Lib.LaidU8T
import Derived.Lay
import Derived.ChangeMaps5
import Derived.Stop.LaidErr
import Derived.Test.YthklmeihgmcljaaGreatDoorzEL7
import Derived.Test.YthklmeihgmcljaaGreatDoorzEO
namespace Go.Proofs.YthklmeihgmcljaaGreatDoor
open Go.ChangeShapes Go.WideShapes Go.ChangeAt Go.RowKit Go.Shelf
theorem own:ownKnob Tryz.prog.godebug=none:=by kernel_rfl
theorem laidOut:laidOutB Tryz.prog=true:=by kernel_rfl
abbrev listed : List (String × DataW Unit) := [("math/bits.deBruijn32tab", Rows.laid_math_bits_deBruijn32tab), ("math/bits.deBruijn64tab", Rows.laid_math_bits_deBruijn64tab), ("internal/strconv.uint64pow10", Rows.laid_internal_strconv_uint64pow10), ("unicode/utf8.acceptRanges", Rows.laid_unicode_utf8_acceptRanges), ("strconv.ErrRange", Rows.laid_strconv_ErrRange), ("strconv.ErrSyntax", Rows.laid_strconv_ErrSyntax), ("unicode/utf8.first", Rows.laid_unicode_utf8_first)]
theorem u8x:U8Extra Tryz.prog Tryz.b6W:=⟨by kernel_rfl,by kernel_rfl,by kernel_rfl,by kernel_rfl,by kernel_rfl,by kernel_rfl,by kernel_rfl⟩
theorem firstEq:Rows.laid_unicode_utf8_first=Lib.firstData:=by kernel_rfl
theorem acceptEq:(Rows.laid_unicode_utf8_acceptRanges:DataW Unit)=Lib.acceptData:=by kernel_rfl
theorem starE : "*" ++ "errors.errorString" = "*errors.errorString" := by decide
theorem rowE (u : TypeId) (h : Tryz.prog.typeName? 3 u = some "*errors.errorString") : u = 228 :=
 typeName_ptr_named (nm := "errors.errorString") (by rw [starE]; kernel_rfl) (by kernel_rfl) (by decide) u (by rw [starE]; exact h)
def ErrW(W:World):Prop:=∃(tp:TypeId)(x:Value),W.cell? ⟨3,0,none⟩=some (.iface tp x)
theorem c0L{W:World}(h:laidMetH Tryz.prog listed W):Lib.Utf8Tabs 0 1 W∧ErrW W:=by
 rw [MakeChecks.laidMetH_plain _ _ _ (by kernel_rfl)] at h
 refine ⟨utf8Tabs_of_readsT (U8Types.of196 Tryz.c2C) u8x (firstEq ▸ Lib.laidMet.reads h (.tail _ (.tail _ (.tail _ (.tail _ (.tail _ (.tail _ (.head _)))))))) (acceptEq ▸ Lib.laidMet.reads h (.tail _ (.tail _ (.tail _ (.head _))))),?_⟩
 have hg : Tryz.prog.globalNamed "strconv.ErrRange" = some 3 := by kernel_rfl
 obtain ⟨a0,s0,hv0,-,-,-⟩:=laid_sentinel h.tail.tail.tail.tail hg (show (Tryz.prog.globals[3]?).map (·.type)=some 200 by kernel_rfl) Tryz.underlying200 rowE Tryz.underlying228 Tryz.underlying230 rfl rfl Tryz.underlying9 (by kernel_rfl) (by kernel_rfl)
 exact ⟨_,_,by have h0:=World.var?_cell hg hv0 0;simpa using h0⟩
theorem b1v{W w:World}(s:Sub (hpW W) w){a:Addr}{v:Value}(h:W.cell? a=some v):w.cell? a=some v:=by
 have hb:∀o,W.heap[a.block]? = some o→w.heap[a.block]? = some o:=fun o h=>s _ o h
 unfold World.cell? at h ⊢
 cases hq:W.heap[a.block]? with
 | none=>rw [hq] at h;cases h
 | some o=>rw [hq] at h;rw [hb o hq];exact h
theorem c7F{W:World}(h:Lib.Utf8Tabs 0 1 W):TabsH (hpW W):=fun w s=>
 ⟨fun c hc=>b1v s (h.1 c hc),fun i hi=>⟨b1v s (h.2 i hi).1,b1v s (h.2 i hi).2⟩⟩
theorem d0T{W:World}(h:ErrW W):ErrH (hpW W):=by
 obtain ⟨tp,x,h⟩:=h
 exact ⟨tp,x,fun w s=>b1v s h⟩
noncomputable def wit(os:Os):World:=World.laidAll Tryz.prog os listed
theorem d0U(os:Os)(args:Array Value):laidMetH Tryz.prog listed ((wit os).forCall (fun _ _=>0) ⟨#[],args,[]⟩).memory:=by
 rw [MakeChecks.laidMetH_plain _ _ _ (by kernel_rfl)]
 exact laidMet_laidAll _ (by kernel_rfl) (by kernel_rfl)
theorem d0V{H:Type}{enc:TypeId×Value→H}{f:FuncId}{fn:Func}{s:OpenSpec}{conds:List PathCond}(os:Os)(args:Array Value)
  (hsh:((wit os).forCall (fun _ _=>0) ⟨#[],args,[]⟩).Shaped Tryz.prog)
  (hok:Input.okWideB Tryz.checked.prog ((wit os).forCall (fun _ _=>0) ⟨#[],args,[]⟩) f ⟨#[],args,[]⟩=true)
  (hrow:s.preRow enc Tryz.checked.prog fn conds false listed ((wit os).forCall (fun _ _=>0) ⟨#[],args,[]⟩).memory args):
  ∃(w:World)(tape:Tape)(i:Input),w.os=os∧(w.forCall tape i).Shaped Tryz.checked.prog∧i.vars=[]∧Input.okWide Tryz.checked.prog (w.forCall tape i) .any w.heap.size f i∧
   s.preRow enc Tryz.checked.prog fn conds false listed (w.forCall tape i).memory i.args∧({}:Assume).holds Tryz.checked.prog (lone (Frame.enter Tryz.checked.prog f i.args .normal) [] (w.forCall tape i)):=
 ⟨wit os,fun _ _=>0,⟨#[],args,[]⟩,World.laidAll_os _ _ _,hsh,(Input.okWide_of_okWideB (base:=0) hok).1,(Input.okWide_of_okWideB hok).2,hrow,by
  simp only [Assume.holds]
  exact ⟨by simp,by simp,fun _=>Modest.zero,by simp,by simp⟩⟩
open Go.RowKit
set_option maxRecDepth 100000
set_option maxHeartbeats 1000000
abbrev Tok:=b6
abbrev Flt:=Int×b8
abbrev PM(α:Type):=List Tok→Except Flt (α×List Tok)
def hd(r:List Tok):Tok:=r.headD ⟨5,⟨#[]⟩,0,⟨0,0⟩⟩
def isT(s:ByteArray)(r:List Tok):Bool:=(decide ((hd r).d8=3)||decide ((hd r).d8=4))&&decide ((hd r).C3=s)
def wantE{α:Type}:PM α:=fun r=>.error (40,(hd r).fAt)
def deadE{α:Type}(b:List Tok→Bool):PM α:=fun r=>if b r then .error (41,(hd r).fAt) else .error (40,(hd r).fAt)
def pureP{α:Type}(a:α):PM α:=fun r=>.ok (a,r)
def bindP{α β:Type}(p:PM α)(f:α→PM β):PM β:=fun r=>match p r with
 | .error x=>.error x
 | .ok (a,r')=>f a r'
def mustP(s:ByteArray):PM Unit:=fun r=>if isT s r then .ok ((),r.tail) else .error (40,(hd r).fAt)
def WfT:List Tok→Prop
 | []=>False
 | [t]=>t.d8=5
 | t::u::r=>t.d8≠5∧WfT (u::r)
def factB(r:List Tok):Bool:=(((decide ((hd r).d8=1)||decide ((hd r).d8=2))||isT ⟨#[45]⟩ r)||isT ⟨#[105,110,112,117,116]⟩ r)||isT ⟨#[40]⟩ r
def litB(r:List Tok):Bool:=(((factB r||isT ⟨#[116,114,117,101]⟩ r)||isT ⟨#[102,97,108,115,101]⟩ r)||isT ⟨#[33]⟩ r)||isT ⟨#[91]⟩ r
def stmtB(r:List Tok):Bool:=((((decide ((hd r).d8=1)||isT ⟨#[105,102]⟩ r)||isT ⟨#[119,104,105,108,101]⟩ r)||isT ⟨#[97,115,115,101,114,116]⟩ r)||isT ⟨#[97,115,115,117,109,101]⟩ r)||isT ⟨#[115,107,105,112]⟩ r
def eX(k num:Int)(s:ByteArray)(ts:List PT):PT:=.mk (.expr k num s ts.length) ts
def cX(k op:Int)(es cs:List PT):PT:=.mk (.cond k op es.length cs.length) (es++cs)
def sX(k:Int)(s:ByteArray)(es cs vs ws:List PT):PT:=.mk (.stmt k s es.length cs.length vs.length ws.length) (cs++(es++(vs++ws)))
def chainF(w:List Tok→Int)(part:PM PT):Nat→PT→PM PT
 | 0,e=>fun r=>.ok (e,r)
 | n+1,e=>fun r=>if w r=0 then .ok (e,r) else bindP part (fun a=>chainF w part n (eX (w r) 0 ⟨#[]⟩ [e,a])) r.tail
def chainP(w:List Tok→Int)(part:PM PT):PM PT:=bindP part fun e r=>chainF w part r.length e r
def joinsF(s:ByteArray)(k:Int)(part:PM PT):Nat→PT→PM PT
 | 0,c=>fun r=>.ok (c,r)
 | n+1,c=>fun r=>if isT s r then bindP part (fun d=>joinsF s k part n (cX k 0 [] [c,d])) r.tail else .ok (c,r)
def joinsP(s:ByteArray)(k:Int)(part:PM PT):PM PT:=bindP part fun c r=>joinsF s k part r.length c r
def whG:List ByteArray→List Int→List Tok→Int
 | s::ss,k::ks,r=>if isT s r then k else whG ss ks r
 | _,_,_=>0
abbrev sMul:List ByteArray:=[⟨#[42]⟩,⟨#[47]⟩,⟨#[37]⟩]
abbrev kMul:List Int:=[8,9,10]
abbrev sAdd:List ByteArray:=[⟨#[43]⟩,⟨#[45]⟩]
abbrev kAdd:List Int:=[6,7]
def termOf(f:PM PT):PM PT:=chainP (whG sMul kMul) f
def exprOf(f:PM PT):PM PT:=chainP (whG sAdd kAdd) (termOf f)
def factS(f:PM PT):PM PT:=fun r=>
 if factB r=false then wantE r else
 if isT ⟨#[45]⟩ r then bindP f (fun e=>pureP (eX 5 0 ⟨#[]⟩ [e])) r.tail else
 if isT ⟨#[40]⟩ r then bindP (exprOf f) (fun e=>bindP (mustP ⟨#[41]⟩) fun _=>pureP e) r.tail else
 if isT ⟨#[105,110,112,117,116]⟩ r then .ok (eX 3 0 ⟨#[]⟩ [],r.tail) else
 if (hd r).d8=2 then .ok (eX 1 (hd r).G9 ⟨#[]⟩ [],r.tail) else
 if isT ⟨#[91]⟩ r.tail then bindP (exprOf f) (fun e=>bindP (mustP ⟨#[93]⟩) fun _=>pureP (eX 4 0 (hd r).C3 [e])) r.tail.tail else
 .ok (eX 2 0 (hd r).C3 [],r.tail)
def factP:Nat→PM PT
 | 0=>deadE factB
 | g+1=>factS (factP g)
def exprP(g:Nat):PM PT:=exprOf (factP g)
def relR(r:List Tok):Int:=whG [⟨#[60]⟩,⟨#[60,61]⟩,⟨#[61,61]⟩,⟨#[33,61]⟩,⟨#[62]⟩,⟨#[62,61]⟩] [1,2,3,4,5,6] r
def relP:PM Int:=fun r=>if relR r=0 then wantE r else .ok (relR r,r.tail)
def conjOf(l:PM PT):PM PT:=joinsP ⟨#[38,38]⟩ 5 l
def condOf(l:PM PT):PM PT:=joinsP ⟨#[124,124]⟩ 6 (conjOf l)
def litS(l ex:PM PT):PM PT:=fun r=>
 if litB r=false then wantE r else
 if isT ⟨#[116,114,117,101]⟩ r then .ok (cX 1 0 [] [],r.tail) else
 if isT ⟨#[102,97,108,115,101]⟩ r then .ok (cX 2 0 [] [],r.tail) else
 if isT ⟨#[33]⟩ r then bindP l (fun c=>pureP (cX 4 0 [] [c])) r.tail else
 if isT ⟨#[91]⟩ r then bindP (condOf l) (fun c=>bindP (mustP ⟨#[93]⟩) fun _=>pureP c) r.tail else
 bindP ex (fun a=>bindP relP fun op=>bindP ex fun b=>pureP (cX 3 op [a,b] [])) r
def litP:Nat→PM PT
 | 0=>deadE litB
 | g+1=>litS (litP g) (exprP (g+1))
def condP(g:Nat):PM PT:=condOf (litP g)
def stmtsF(stop:List Tok→Bool)(st:PM PT):Nat→List PT→PM (List PT)
 | 0,l=>fun r=>.ok (l,r)
 | n+1,l=>fun r=>if stop r then .ok (l,r) else bindP st (fun s=>stmtsF stop st n (l++[s])) r
def blockOf(st:PM PT):PM (List PT):=bindP (mustP ⟨#[123]⟩) fun _=>bindP (fun r=>stmtsF (isT ⟨#[125]⟩) st r.length [] r) fun l r=>.ok (l,r.tail)
def endS(s:PT):PM PT:=bindP (mustP ⟨#[59]⟩) fun _=>pureP s
def setS(k:Int)(s:ByteArray)(es:List PT)(ex:PM PT):PM PT:=bindP (mustP ⟨#[61]⟩) fun _=>bindP ex fun e=>endS (sX k s (es++[e]) [] [] [])
def stmtS(st sub ex co:PM PT):PM PT:=fun r=>
 if stmtB r=false then wantE r else
 if (hd r).d8=1 then
  if isT ⟨#[91]⟩ r.tail then bindP sub (fun e=>bindP (mustP ⟨#[93]⟩) fun _=>setS 2 (hd r).C3 [e] ex) r.tail.tail else setS 1 (hd r).C3 [] ex r.tail else
 if (hd r).C3=⟨#[105,102]⟩ then bindP co (fun c=>bindP (blockOf st) fun th r'=>if isT ⟨#[101,108,115,101]⟩ r' then bindP (blockOf st) (fun el=>pureP (sX 3 ⟨#[]⟩ [] [c] th el)) r'.tail else .ok (sX 3 ⟨#[]⟩ [] [c] th [],r')) r.tail else
 if (hd r).C3=⟨#[119,104,105,108,101]⟩ then bindP co (fun c=>bindP (blockOf st) fun th=>pureP (sX 4 ⟨#[]⟩ [] [c] th [])) r.tail else
 if (hd r).C3=⟨#[97,115,115,101,114,116]⟩ then bindP co (fun c=>endS (sX 5 ⟨#[]⟩ [] [c] [] [])) r.tail else
 if (hd r).C3=⟨#[97,115,115,117,109,101]⟩ then bindP co (fun c=>endS (sX 6 ⟨#[]⟩ [] [c] [] [])) r.tail else
 endS (sX 7 ⟨#[]⟩ [] [] [] []) r.tail
def stmtP:Nat→PM PT
 | 0=>deadE stmtB
 | g+1=>stmtS (stmtP g) (exprP g) (exprP (g+1)) (condP (g+1))
def declP(arr:Bool):PM m7:=fun r=>
 if (hd r).d8≠1 then wantE r else
 if arr then bindP (mustP ⟨#[91]⟩) (fun _ r'=>
  if ((!decide ((hd r').d8=2))||decide ((hd r').G9 < 1))||decide (2147483647 < (hd r').G9) then wantE r'
  else bindP (mustP ⟨#[93]⟩) (fun _=>bindP (mustP ⟨#[59]⟩) fun _=>pureP (⟨(hd r).C3,(hd r').G9⟩:m7)) r'.tail) r.tail
 else bindP (mustP ⟨#[59]⟩) (fun _=>pureP (⟨(hd r).C3,0⟩:m7)) r.tail
abbrev tVar:ByteArray:=⟨#[118,97,114]⟩
abbrev tArr:ByteArray:=⟨#[97,114,114,97,121]⟩
def declsF:Nat→List m7→PM (List m7)
 | 0,l=>fun r=>.ok (l,r)
 | n+1,l=>fun r=>if isT tVar r||isT tArr r then bindP (declP (isT tArr r)) (fun d=>declsF n (l++[d])) r.tail else .ok (l,r)
def endB(r:List Tok):Bool:=decide ((hd r).d8=5)
def progP:PM PP:=bindP (fun r=>declsF r.length [] r) fun ds=>bindP (fun r=>stmtsF endB (stmtP 40) r.length [] r) fun b=>pureP ⟨ds,b⟩
def Shr{α:Type}(p:PM α):Prop:=∀r a r',p r=.ok (a,r')→r'.length≤r.length
def SShr{α:Type}(p:PM α):Prop:=∀r a r',p r=.ok (a,r')→r'.length < r.length
theorem SShr.shr{α:Type}{p:PM α}(h:SShr p):Shr p:=fun r a r' e=>Nat.le_of_lt (h r a r' e)
theorem b7j{s:ByteArray}{r:List Tok}(h:isT s r=true):(hd r).d8=3∨(hd r).d8=4:=by
 unfold isT at h
 simp only [Bool.and_eq_true,Bool.or_eq_true,decide_eq_true_eq] at h
 exact h.1
theorem b1l{s:ByteArray}{r:List Tok}(h:isT s r=true):(hd r).C3=s:=by
 unfold isT at h
 simp only [Bool.and_eq_true,decide_eq_true_eq] at h
 exact h.2
theorem a6E{s:ByteArray}{r:List Tok}(h:isT s r=true):(hd r).d8≠5:=by rcases b7j h with e | e<;>omega
theorem a1Y{r:List Tok}(h:(hd r).d8≠5):r.tail.length < r.length:=by
 cases r with
 | nil=>exact absurd rfl h
 | cons t r=>simp
theorem b1m(r:List Tok):r.tail.length≤r.length:=by simp
theorem bind_ok{α β:Type}{p:PM α}{f:α→PM β}{r:List Tok}{b:β}{r':List Tok}(h:bindP p f r=.ok (b,r')):∃a r1,p r=.ok (a,r1)∧f a r1=.ok (b,r'):=by
 unfold bindP at h
 split at h
 ·cases h
 ·exact ⟨_,_,by assumption,h⟩
theorem Shr.bind{α β:Type}{p:PM α}{f:α→PM β}(hp:Shr p)(hf:∀a,Shr (f a)):Shr (bindP p f):=fun r b r' h=>by
 obtain ⟨a,r1,h1,h2⟩:=bind_ok h
 exact Nat.le_trans (hf a _ _ _ h2) (hp _ _ _ h1)
theorem SShr.bind{α β:Type}{p:PM α}{f:α→PM β}(hp:SShr p)(hf:∀a,Shr (f a)):SShr (bindP p f):=fun r b r' h=>by
 obtain ⟨a,r1,h1,h2⟩:=bind_ok h
 exact Nat.lt_of_le_of_lt (hf a _ _ _ h2) (hp _ _ _ h1)
theorem a4Q{α:Type}(a:α):Shr (pureP a):=fun r b r' h=>by cases h;exact Nat.le_refl _
theorem a4R(s:ByteArray):SShr (mustP s):=fun r b r' h=>by
 unfold mustP at h
 split at h
 ·rename_i c
  cases h
  exact a1Y (a6E c)
 ·cases h
theorem b7k{α:Type}(b:List Tok→Bool):SShr (deadE (α:=α) b):=fun r a r' h=>by
 unfold deadE at h
 split at h<;>cases h
theorem b7T{ss:List ByteArray}:∀{ks:List Int}{r:List Tok},whG ss ks r≠0→(hd r).d8≠5:=by
 induction ss with
 | nil=>intro ks r h;exact absurd rfl h
 | cons s ss ih=>
  intro ks r h
  cases ks with
  | nil=>exact absurd rfl h
  | cons k ks=>
   unfold whG at h
   split at h
   ·rename_i c;exact a6E c
   ·exact ih h
theorem b7U{w:List Tok→Int}{part:PM PT}(hp:Shr part):∀(n:Nat)(e:PT),Shr (chainF w part n e)
 | 0,e=>fun r b r' h=>by cases h;exact Nat.le_refl _
 | n+1,e=>fun r b r' h=>by
  unfold chainF at h
  split at h
  ·cases h;exact Nat.le_refl _
  ·exact Nat.le_trans (Shr.bind hp (fun a=>b7U hp n _) _ _ _ h) (b1m r)
theorem b7V{s:ByteArray}{k:Int}{part:PM PT}(hp:Shr part):∀(n:Nat)(e:PT),Shr (joinsF s k part n e)
 | 0,e=>fun r b r' h=>by cases h;exact Nat.le_refl _
 | n+1,e=>fun r b r' h=>by
  unfold joinsF at h
  split at h
  ·exact Nat.le_trans (Shr.bind hp (fun a=>b7V hp n _) _ _ _ h) (b1m r)
  ·cases h;exact Nat.le_refl _
theorem a8q{w:List Tok→Int}{part:PM PT}(hp:SShr part):SShr (chainP w part):=hp.bind fun e r _ _ h=>b7U hp.shr r.length e _ _ _ h
theorem a8r{s:ByteArray}{k:Int}{part:PM PT}(hp:SShr part):SShr (joinsP s k part):=hp.bind fun e r _ _ h=>b7V hp.shr r.length e _ _ _ h
theorem c6s{f:PM PT}(hf:SShr f):SShr (factS f):=fun r a r' h=>by
 have he:SShr (exprOf f):=a8q (a8q hf)
 unfold factS at h
 split at h
 ·cases h
 rename_i c
 have hne:(hd r).d8≠5:=fun e=>c (by unfold factB isT;rw [e];rfl)
 have ht:=a1Y hne
 have h2:=b1m r.tail
 split at h
 ·exact Nat.lt_of_le_of_lt ((hf.bind fun _=>a4Q _).shr _ _ _ h) ht
 split at h
 ·exact Nat.lt_of_le_of_lt ((he.bind fun _=>(a4R _).shr.bind fun _=>a4Q _).shr _ _ _ h) ht
 split at h
 ·cases h;exact ht
 split at h
 ·cases h;exact ht
 split at h
 ·exact Nat.lt_of_le_of_lt (Nat.le_trans ((he.bind fun _=>(a4R _).shr.bind fun _=>a4Q _).shr _ _ _ h) h2) ht
 ·cases h;exact ht
theorem a9t:∀g,SShr (factP g)
 | 0=>b7k _
 | g+1=>c6s (a9t g)
theorem b5V(g:Nat):SShr (exprP g):=a8q (a8q (a9t g))
theorem c7G:SShr relP:=fun r a r' h=>by
 unfold relP at h
 split at h
 ·cases h
 ·rename_i c
  cases h
  exact a1Y (b7T c)
theorem c7H{l ex:PM PT}(hl:SShr l)(hx:SShr ex):SShr (litS l ex):=fun r a r' h=>by
 have hc:SShr (condOf l):=a8r (a8r hl)
 unfold litS at h
 split at h
 ·cases h
 split at h
 ·rename_i c;cases h;exact a1Y (a6E c)
 split at h
 ·rename_i c;cases h;exact a1Y (a6E c)
 split at h
 ·rename_i c
  exact Nat.lt_of_le_of_lt ((hl.bind fun _=>a4Q _).shr _ _ _ h) (a1Y (a6E c))
 split at h
 ·rename_i c
  exact Nat.lt_of_le_of_lt ((hc.bind fun _=>(a4R _).shr.bind fun _=>a4Q _).shr _ _ _ h) (a1Y (a6E c))
 ·exact (hx.bind fun _=>c7G.shr.bind fun _=>hx.shr.bind fun _=>a4Q _) _ _ _ h
theorem b3u:∀g,SShr (litP g)
 | 0=>b7k _
 | g+1=>c7H (b3u g) (b5V _)
theorem c6t(g:Nat):SShr (condP g):=a8r (a8r (b3u g))
theorem b7W{stop:List Tok→Bool}{st:PM PT}(hs:Shr st):∀(n:Nat)(l:List PT),Shr (stmtsF stop st n l)
 | 0,l=>fun r b r' h=>by cases h;exact Nat.le_refl _
 | n+1,l=>fun r b r' h=>by
  unfold stmtsF at h
  split at h
  ·cases h;exact Nat.le_refl _
  ·exact Shr.bind hs (fun a=>b7W hs n _) _ _ _ h
theorem c1y{st:PM PT}(hs:Shr st):SShr (blockOf st):=(a4R _).bind fun _=>Shr.bind (fun r _ _ h=>b7W hs r.length [] _ _ _ h) fun _ r _ r' h=>by
 cases h;exact b1m r
theorem b5j(s:PT):SShr (endS s):=(a4R _).bind fun _=>a4Q _
theorem c0M{k:Int}{s:ByteArray}{es:List PT}{ex:PM PT}(hx:Shr ex):SShr (setS k s es ex):=(a4R _).bind fun _=>hx.bind fun _=>(b5j _).shr
theorem c6u{st sub ex co:PM PT}(hs:Shr st)(hb:Shr sub)(hx:Shr ex)(hc:Shr co):SShr (stmtS st sub ex co):=fun r a r' h=>by
 unfold stmtS at h
 split at h
 ·cases h
 rename_i c
 have hne:(hd r).d8≠5:=fun e=>c (by unfold stmtB isT;rw [e];rfl)
 have ht:=a1Y hne
 have h2:=b1m r.tail
 have hbl:=(c1y hs).shr
 split at h
 ·split at h
  ·exact Nat.lt_of_le_of_lt (Nat.le_trans ((hb.bind fun _=>(a4R _).shr.bind fun _=>(c0M hx).shr) _ _ _ h) h2) ht
  ·exact Nat.lt_of_le_of_lt ((c0M hx).shr _ _ _ h) ht
 split at h
 ·refine Nat.lt_of_le_of_lt ((hc.bind fun _=>hbl.bind fun th r1 a1 r2 h1=>?_) _ _ _ h) ht
  split at h1
  ·exact Nat.le_trans ((hbl.bind fun _=>a4Q _) _ _ _ h1) (b1m r1)
  ·cases h1;exact Nat.le_refl _
 split at h
 ·exact Nat.lt_of_le_of_lt ((hc.bind fun _=>hbl.bind fun _=>a4Q _) _ _ _ h) ht
 split at h
 ·exact Nat.lt_of_le_of_lt ((hc.bind fun _=>(b5j _).shr) _ _ _ h) ht
 split at h
 ·exact Nat.lt_of_le_of_lt ((hc.bind fun _=>(b5j _).shr) _ _ _ h) ht
 ·exact Nat.lt_of_le_of_lt ((b5j _).shr _ _ _ h) ht
theorem b1L:∀g,SShr (stmtP g)
 | 0=>b7k _
 | g+1=>c6u (b1L g).shr (b5V _).shr (b5V _).shr (c6t _).shr
theorem b8Z(arr:Bool):SShr (declP arr):=fun r a r' h=>by
 unfold declP at h
 split at h
 ·cases h
 rename_i c
 have ht:=a1Y (r:=r) (by intro e;exact c (by rw [e];decide))
 split at h
 ·refine Nat.lt_of_le_of_lt ((Shr.bind (a4R _).shr fun _ r1 a1 r2 h1=>?_) _ _ _ h) ht
  split at h1
  ·cases h1
  ·exact Nat.le_trans (((a4R _).bind fun _=>(a4R _).shr.bind fun _=>a4Q _).shr _ _ _ h1) (b1m r1)
 ·exact Nat.lt_of_le_of_lt (((a4R _).bind fun _=>a4Q _).shr _ _ _ h) ht
end Go.Proofs.YthklmeihgmcljaaGreatDoor
