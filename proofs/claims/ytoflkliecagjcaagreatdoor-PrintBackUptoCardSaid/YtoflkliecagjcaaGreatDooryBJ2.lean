/- Parsing: what is read off good tokens has its form and names. Plain. -/
import Derived.Test.YtoflkliecagjcaaGreatDooryBXl
namespace Go.Proofs.YtoflkliecagjcaaGreatDoor
open Go.RowKit
set_option maxRecDepth 100000
set_option maxHeartbeats 1000000
def Gd(t:PT):Prop:=formT t=true∧namesT t=true
def GdL(ts:List PT):Prop:=formTs ts=true∧namesTs ts=true
def FmP{α:Type}(G:α→Prop)(p:PM α):Prop:=∀r a r',GdK r→p r=.ok (a,r')→G a∧GdK r'
theorem FmP.bind{α β:Type}{G:α→Prop}{G2:β→Prop}{p:PM α}{f:α→PM β}(hp:FmP G p)(hf:∀a,G a→FmP G2 (f a)):FmP G2 (bindP p f):=fun r b r' ht h=>by
 obtain ⟨a,r1,h1,h2⟩:=bind_ok h
 obtain ⟨ga,t1⟩:=hp _ _ _ ht h1
 exact hf a ga _ _ _ t1 h2
theorem a3b{α:Type}{G:α→Prop}{a:α}(h:G a):FmP G (pureP a):=fun r b r' ht e=>by cases e;exact ⟨h,ht⟩
theorem a3U(s:ByteArray):FmP (fun _=>True) (mustP s):=fun r b r' ht h=>by
 unfold mustP at h
 split at h
 ·cases h;exact ⟨trivial,ht.tail⟩
 ·cases h
theorem b6i{α:Type}{G:α→Prop}(b:List Tok→Bool):FmP G (deadE (α:=α) b):=fun r a r' _ h=>by
 unfold deadE at h
 split at h<;>cases h
theorem GdL.nil:GdL []:=⟨rfl,rfl⟩
theorem GdL.one{t:PT}(h:Gd t):GdL [t]:=⟨by rw [formTs,formTs,h.1];rfl,by rw [namesTs,namesTs,h.2];rfl⟩
theorem GdL.app{a b:List PT}(h:GdL a)(k:GdL b):GdL (a++b):=⟨by rw [a2k,h.1,k.1];rfl,by rw [b3L,h.2,k.2];rfl⟩
theorem GdL.two{t u:PT}(h:Gd t)(k:Gd u):GdL [t,u]:=GdL.app (GdL.one h) (GdL.one k)
theorem Gd.mk{l:Lab}{cs:List PT}(h:formL l=true)(hn:nameOk l=true)(hc:GdL cs):Gd (.mk l cs):=⟨by rw [formT,h,hc.1];rfl,by rw [namesT,hn,hc.2];rfl⟩
def okW(w:List Tok→Int):Prop:=∀r,w r≠0→formE (w r) 0 ⟨#[]⟩ 2=true∧nameOk (.expr (w r) 0 ⟨#[]⟩ 2)=true
theorem c9z:okW (whG sMul kMul):=fun r=>by
 simp only [a7L]
 split
 ·exact fun _=>⟨by kernel_rfl,by kernel_rfl⟩
 split
 ·exact fun _=>⟨by kernel_rfl,by kernel_rfl⟩
 split
 ·exact fun _=>⟨by kernel_rfl,by kernel_rfl⟩
 ·exact fun h=>absurd rfl h
theorem c9A:okW (whG sAdd kAdd):=fun r=>by
 simp only [a7L]
 split
 ·exact fun _=>⟨by kernel_rfl,by kernel_rfl⟩
 split
 ·exact fun _=>⟨by kernel_rfl,by kernel_rfl⟩
 ·exact fun h=>absurd rfl h
theorem b6Y{w:List Tok→Int}(hw:okW w){part:PM PT}(hp:FmP Gd part):∀(n:Nat)(e:PT),Gd e→FmP Gd (chainF w part n e)
 | 0,e,he=>fun r b r' ht h=>by cases h;exact ⟨he,ht⟩
 | n+1,e,he=>fun r b r' ht h=>by
  unfold chainF at h
  split at h
  ·cases h;exact ⟨he,ht⟩
  ·rename_i c
   exact FmP.bind hp (fun a ha=>b6Y hw hp n _ (Gd.mk (l:=.expr (w r) 0 ⟨#[]⟩ 2) (hw r c).1 (hw r c).2 (.two he ha))) _ _ _ ht.tail h
theorem b6Z{s:ByteArray}{k:Int}(hk:k=5∨k=6){part:PM PT}(hp:FmP Gd part):∀(n:Nat)(e:PT),Gd e→FmP Gd (joinsF s k part n e)
 | 0,e,he=>fun r b r' ht h=>by cases h;exact ⟨he,ht⟩
 | n+1,e,he=>fun r b r' ht h=>by
  unfold joinsF at h
  split at h
  ·exact FmP.bind hp (fun a ha=>b6Z hk hp n _ (Gd.mk (by rcases hk with rfl | rfl<;>kernel_rfl) rfl (.two he ha))) _ _ _ ht.tail h
  ·cases h;exact ⟨he,ht⟩
theorem b7a{w:List Tok→Int}(hw:okW w){part:PM PT}(hp:FmP Gd part):FmP Gd (chainP w part):=hp.bind fun e he r _ _ ht h=>b6Y hw hp r.length e he _ _ _ ht h
theorem b7b{s:ByteArray}{k:Int}(hk:k=5∨k=6){part:PM PT}(hp:FmP Gd part):FmP Gd (joinsP s k part):=hp.bind fun e he r _ _ ht h=>b6Z hk hp r.length e he _ _ _ ht h
theorem b7c{f:PM PT}(hf:FmP Gd f):FmP Gd (exprOf f):=b7a c9A (b7a c9z hf)
theorem b3M{s:ByteArray}{n:Nat}{k:Int}(h:nameS s=true):nameOk (.expr k 0 s n)=true:=by
 unfold nameOk
 split
 ·exact h
 ·rfl
theorem c6K{f:PM PT}(hf:FmP Gd f):FmP Gd (factS f):=fun r a r' ht h=>by
 have he:=b7c hf
 have t1:=ht.hd
 unfold factS at h
 split at h
 ·cases h
 rename_i b0
 split at h
 ·exact (hf.bind fun e h=>a3b (.mk (by kernel_rfl) rfl (.one h))) _ _ _ ht.tail h
 rename_i b1
 split at h
 ·exact (he.bind fun e h=>(a3U _).bind fun _ _=>a3b h) _ _ _ ht.tail h
 rename_i b2
 split at h
 ·cases h;exact ⟨.mk (by kernel_rfl) rfl .nil,ht.tail⟩
 rename_i b3
 split at h
 ·cases h
  refine ⟨.mk ?_ rfl .nil,ht.tail⟩
  have:decide (0≤(hd r).M4)=true:=decide_eq_true t1.2
  show formE 1 (hd r).M4 ⟨#[]⟩ 0=true
  unfold formE
  rw [if_neg (by simp),if_pos rfl,this]
  rfl
 rename_i b4
 have hk:(hd r).d6=1:=by
  unfold factB at b0
  simp only [Bool.not_eq_false,Bool.or_eq_true,decide_eq_true_eq] at b0
  rcases b0 with (((q | q) | q) | q) | q
  ·exact q
  ·exact absurd q b4
  ·exact absurd q b1
  ·exact absurd q b3
  ·exact absurd q b2
 have hn:=t1.1 hk
 have hf4:formE 4 0 (hd r).E1 1=true:=by
  unfold formE
  rw [if_neg (by simp),if_neg (by decide),if_neg (by decide),if_pos (by decide)]
  rfl
 have hf2:formE 2 0 (hd r).E1 0=true:=by
  unfold formE
  rw [if_neg (by simp),if_neg (by decide),if_pos (by decide)]
  rfl
 split at h
 ·exact (he.bind fun e h=>(a3U _).bind fun _ _=>a3b (.mk hf4 (b3M hn) (.one h))) _ _ _ ht.tail.tail h
 ·cases h;exact ⟨.mk hf2 (b3M hn) .nil,ht.tail⟩
theorem b8V:∀g,FmP Gd (factP g)
 | 0=>b6i _
 | g+1=>c6K (b8V g)
theorem b4o(g:Nat):FmP Gd (exprP g):=b7c (b8V g)
theorem c9B:FmP (fun op=>formC 3 op 2 0=true) relP:=fun r a r' ht h=>by
 unfold relP at h
 split at h
 ·cases h
 ·rename_i c
  cases h
  refine ⟨?_,ht.tail⟩
  revert c
  unfold relR
  simp only [a7L]
  split
  ·exact fun _=>by kernel_rfl
  split
  ·exact fun _=>by kernel_rfl
  split
  ·exact fun _=>by kernel_rfl
  split
  ·exact fun _=>by kernel_rfl
  split
  ·exact fun _=>by kernel_rfl
  split
  ·exact fun _=>by kernel_rfl
  ·exact fun h=>absurd rfl h
theorem b7d{l:PM PT}(hl:FmP Gd l):FmP Gd (condOf l):=b7b (.inr rfl) (b7b (.inl rfl) hl)
theorem c9C{l ex:PM PT}(hl:FmP Gd l)(hx:FmP Gd ex):FmP Gd (litS l ex):=fun r a r' ht h=>by
 have hc:=b7d hl
 unfold litS at h
 split at h
 ·cases h
 split at h
 ·cases h;exact ⟨.mk (by kernel_rfl) rfl .nil,ht.tail⟩
 split at h
 ·cases h;exact ⟨.mk (by kernel_rfl) rfl .nil,ht.tail⟩
 split at h
 ·exact (hl.bind fun e h=>a3b (.mk (by kernel_rfl) rfl (.one h))) _ _ _ ht.tail h
 split at h
 ·exact (hc.bind fun e h=>(a3U _).bind fun _ _=>a3b h) _ _ _ ht.tail h
 ·exact (hx.bind fun a ha=>c9B.bind fun op ho=>hx.bind fun b hb=>a3b (.mk ho rfl (.two ha hb))) _ _ _ ht h
theorem c1k:∀g,FmP Gd (litP g)
 | 0=>b6i _
 | g+1=>c9C (c1k g) (b4o _)
theorem c6L(g:Nat):FmP Gd (condP g):=b7d (c1k g)
theorem b2z{stop:List Tok→Bool}{st:PM PT}(hs:FmP Gd st):∀(n:Nat)(l:List PT),GdL l→FmP GdL (stmtsF stop st n l)
 | 0,l,hl=>fun r b r' ht h=>by cases h;exact ⟨hl,ht⟩
 | n+1,l,hl=>fun r b r' ht h=>by
  unfold stmtsF at h
  split at h
  ·cases h;exact ⟨hl,ht⟩
  ·exact FmP.bind hs (fun a ha=>b2z hs n _ (hl.app (.one ha))) _ _ _ ht h
theorem c2u{st:PM PT}(hs:FmP Gd st):FmP GdL (blockOf st):=(a3U _).bind fun _ _=>FmP.bind (G:=GdL) (fun r _ _ ht h=>b2z hs r.length [] .nil _ _ _ ht h) fun l hl r _ r' ht h=>by
 cases h;exact ⟨hl,ht.tail⟩
theorem b3o{s:PT}(h:Gd s):FmP Gd (endS s):=(a3U _).bind fun _ _=>a3b h
theorem b1D{k:Int}{s:ByteArray}{es cs vs ws:List PT}(h:formS k s es.length cs.length vs.length ws.length=true)(hn:nameOk (.stmt k s es.length cs.length vs.length ws.length)=true)(he:GdL es)(hc:GdL cs)(hv:GdL vs)(hw:GdL ws):Gd (sX k s es cs vs ws):=.mk h hn (hc.app (he.app (hv.app hw)))
theorem c0a{s:ByteArray}{k:Int}{a b c d:Nat}(h:nameS s=true):nameOk (.stmt k s a b c d)=true:=by
 unfold nameOk
 split
 ·exact h
 ·rfl
theorem c1l{k:Int}{s:ByteArray}{es:List PT}{ex:PM PT}(hk:(k=1∧es.length=0)∨(k=2∧es.length=1))(hs:nameS s=true)(he:GdL es)(hx:FmP Gd ex):FmP Gd (setS k s es ex):=(a3U _).bind fun _ _=>hx.bind fun e h=>b3o (b1D (by
  rw [List.length_append]
  rcases hk with ⟨rfl,q⟩ | ⟨rfl,q⟩<;>rw [q]<;>rfl) (c0a hs) (he.app (.one h)) .nil .nil .nil)
theorem c6M{st sub ex co:PM PT}(hs:FmP Gd st)(hb:FmP Gd sub)(hx:FmP Gd ex)(hc:FmP Gd co):FmP Gd (stmtS st sub ex co):=fun r a r' ht h=>by
 have t1:=ht.hd
 have hbl:=c2u hs
 have f3:∀a b:Nat,formS 3 ⟨#[]⟩ 0 1 a b=true:=fun a b=>rfl
 have f4:∀a:Nat,formS 4 ⟨#[]⟩ 0 1 a 0=true:=fun a=>rfl
 unfold stmtS at h
 split at h
 ·cases h
 split at h
 ·rename_i hk
  have hn:=t1.1 hk
  split at h
  ·exact (hb.bind fun e h=>(a3U _).bind fun _ _=>c1l (.inr ⟨rfl,rfl⟩) hn (.one h) hx) _ _ _ ht.tail.tail h
  ·exact c1l (.inl ⟨rfl,rfl⟩) hn .nil hx _ _ _ ht.tail h
 split at h
 ·refine (hc.bind fun c hc'=>hbl.bind fun th hth r1 a1 r2 ht1 h1=>?_) _ _ _ ht.tail h
  split at h1
  ·exact (hbl.bind fun el hel=>a3b (b1D (f3 _ _) rfl .nil (.one hc') hth hel)) _ _ _ ht1.tail h1
  ·cases h1;exact ⟨b1D (f3 _ _) rfl .nil (.one hc') hth .nil,ht1⟩
 split at h
 ·exact (hc.bind fun c hc'=>hbl.bind fun th hth=>a3b (b1D (f4 _) rfl .nil (.one hc') hth .nil)) _ _ _ ht.tail h
 split at h
 ·exact (hc.bind fun c hc'=>b3o (b1D (by kernel_rfl) rfl .nil (.one hc') .nil .nil)) _ _ _ ht.tail h
 split at h
 ·exact (hc.bind fun c hc'=>b3o (b1D (by kernel_rfl) rfl .nil (.one hc') .nil .nil)) _ _ _ ht.tail h
 ·exact b3o (b1D (by kernel_rfl) rfl .nil .nil .nil .nil) _ _ _ ht.tail h
theorem b8W:∀g,FmP Gd (stmtP g)
 | 0=>b6i _
 | g+1=>c6M (b8W g) (b4o _) (b4o _) (c6L _)
def GdD(d:i6):Prop:=(0≤d.D4∧d.D4≤2147483647)∧nameS d.o8=true
theorem c6N(arr:Bool):FmP GdD (declP arr):=fun r a r' ht h=>by
 have t1:=ht.hd
 unfold declP at h
 split at h
 ·cases h
 rename_i hk
 have hn:=t1.1 (Classical.byContradiction hk)
 split at h
 ·refine ((a3U _).bind fun _ _ r1 a1 r2 ht1 h1=>?_) _ _ _ ht.tail h
  split at h1
  ·cases h1
  rename_i c
  simp only [Bool.not_eq_true,Bool.or_eq_false_iff,decide_eq_false_iff_not] at c
  exact ((a3U _).bind fun _ _=>(a3U _).bind fun _ _=>a3b ⟨⟨by show 0≤(hd r1).M4;omega,by show (hd r1).M4≤_;omega⟩,hn⟩) _ _ _ ht1.tail h1
 ·exact ((a3U _).bind fun _ _=>a3b ⟨⟨by show (0:Int)≤0;decide,by show (0:Int)≤_;decide⟩,hn⟩) _ _ _ ht.tail h
theorem b7e:∀(n:Nat)(l:List i6),(∀d∈l,GdD d)→FmP (fun l=>∀d∈l,GdD d) (declsF n l)
 | 0,l,hl=>fun r b r' ht h=>by cases h;exact ⟨hl,ht⟩
 | n+1,l,hl=>fun r b r' ht h=>by
  unfold declsF at h
  split at h
  ·exact FmP.bind (c6N _) (fun d hd=>b7e n _ fun x hx=>by
    rcases List.mem_append.1 hx with q | q
    ·exact hl x q
    ·rw [List.mem_singleton.1 q];exact hd) _ _ _ ht.tail h
  ·cases h;exact ⟨hl,ht⟩
theorem b8X:∀l:List i6,(∀d∈l,GdD d)→GdL (l.map dT)
 | [],_=>.nil
 | d::l,h=>by
  have hd:=h d (by simp)
  have hg:Gd (dT d):=.mk (by show (decide (0≤d.D4)&&decide (d.D4≤2147483647))=true;rw [decide_eq_true hd.1.1,decide_eq_true hd.1.2];rfl) (by show (if true=true then nameS d.o8 else true)=true;rw [if_pos rfl];exact hd.2) .nil
  exact GdL.app (a:=[dT d]) (.one hg) (b8X l fun x hx=>h x (List.mem_cons_of_mem _ hx))
theorem c6O:FmP (fun b=>GdL b.nodes) progP:=FmP.bind (G:=fun l=>∀d∈l,GdD d) (fun r _ _ ht h=>b7e r.length [] (fun _ q=>(by cases q)) _ _ _ ht h) fun ds hd=>FmP.bind (G:=GdL) (fun r _ _ ht h=>b2z (b8W 40) r.length [] .nil _ _ _ ht h) fun b hb=>a3b ((b8X ds hd).app hb)
def Fb(s:W):Prop:=s.fbad=0∨s.fbad=32∨s.fbad=33
theorem c6P{s:W}{d:Int}(h:Fb s):Fb (wStep s d):=by
 unfold wStep
 unfold Fb at h ⊢
 repeat' split
 all_goals first | exact h | (dsimp only;omega)
mutual
theorem d4z:∀(t:PT)(d:Int)(s:W),Fb s→Fb (wT t d s)
 | .mk _ cs,d,s,h=>by rw [wT];exact b8Y cs _ _ (c6P h)
theorem b8Y:∀(ts:List PT)(d:Int)(s:W),Fb s→Fb (wTs ts d s)
 | [],_,s,h=>by rw [wTs];exact h
 | t::ts,d,s,h=>by rw [wTs];exact b8Y ts d _ (d4z t d s h)
end
theorem d3p{s:ByteArray}{b:PP}(h:ansR progP chkP s=.ok b):chkP b=0:=by
 unfold ansR at h
 split at h
 ·unfold readsR at h
  split at h
  ·cases h
  ·rename_i b' r' eo
   have hg:=(c6O _ _ _ c9y eo).1
   split at h
   ·cases h
   split at h
   ·cases h
   split at h
   ·cases h
   rename_i c2 c3
   cases h
   show toldS b.nodes=0
   have c2:¬toldS b.nodes=32:=c2
   have c3:¬toldS b.nodes=33:=c3
   have hw:Fb (wTs b.nodes 1 w0S):=b8Y _ _ _ (.inl rfl)
   unfold Fb at hw
   unfold toldS at c2 c3 ⊢
   rw [hg.1,hg.2] at c2 c3 ⊢
   by_cases q:(wTs b.nodes 1 w0S).fbad=0
   ·rw [if_pos q];rfl
   ·rw [if_neg q] at c2 c3
    rcases hw with e | e | e
    ·exact absurd e q
    ·exact absurd e c2
    ·exact absurd e c3
 ·cases h
end Go.Proofs.YtoflkliecagjcaaGreatDoor
namespace Go.Proofs.YtoflkliecagjcaaGreatDoor
open Go.RowKit
set_option maxRecDepth 100000
set_option maxHeartbeats 1000000
structure Sh3 (s t:ByteArray):Prop where
 sz:t.size=s.size+3
 get:∀p,t.get! (p+3)=s.get! p
 cut:∀p q,t.extract (p+3) (q+3)=s.extract p q
section
variable {s t:ByteArray}(S:Sh3 s t)
include S
theorem Sh3.dec(p:Nat):Utf8.decode t (p+3)=Utf8.decode s p:=by
 rw [Lib.decode_at,Lib.decode_at,S.get p,show p+3+1=p+1+3 by omega,S.get (p+1),show p+3+2=p+2+3 by omega,S.get (p+2),show p+3+3=p+3+3 by omega,S.get (p+3),S.sz,show s.size+3-(p+3)=s.size-p by omega]
theorem Sh3.rn(p:Nat):rn t (p+3)=rn s p:=by show ((Utf8.decode t (p+3)).1:Int)=_;rw [S.dec]
theorem Sh3.wd(p:Nat):wd t (p+3)=wd s p:=by show (Utf8.decode t (p+3)).2=_;rw [S.dec]
theorem Sh3.by8(p:Nat):by8 t (p+3)=by8 s p:=by show (t.get! (p+3)).toNat=_;rw [S.get]
theorem Sh3.whl(is:Int→Bool):∀(f p:Nat)(a:Int×Int),(whl t is f (p+3) a).1=(whl s is f p a).1+3
 | 0,p,a=>rfl
 | f+1,p,a=>by
  rw [Go.Proofs.YtoflkliecagjcaaGreatDoor.whl,Go.Proofs.YtoflkliecagjcaaGreatDoor.whl,S.rn,S.wd,S.sz]
  by_cases c:p < s.size∧is (Go.Proofs.YtoflkliecagjcaaGreatDoor.rn s p)=true
  ·rw [if_pos c,if_pos ⟨by omega,c.2⟩,show p+3+Go.Proofs.YtoflkliecagjcaaGreatDoor.wd s p=p+Go.Proofs.YtoflkliecagjcaaGreatDoor.wd s p+3 by omega]
   exact Sh3.whl is f _ _
  ·rw [if_neg c,if_neg (fun x=>c ⟨by omega,x.2⟩)]
theorem Sh3.wr(is:Int→Bool)(p:Nat)(a:Int×Int):(Wr t is (p+3) a).1=(Wr s is p a).1+3:=by
 unfold Wr
 rw [S.sz,show s.size+3-(p+3)=s.size-p by omega]
 exact S.whl is _ _ _
theorem Sh3.cntF(is:Int→Bool):∀(f p n:Nat),cntF t is f (p+3) n=cntF s is f p n
 | 0,p,n=>rfl
 | f+1,p,n=>by
  rw [Go.Proofs.YtoflkliecagjcaaGreatDoor.cntF,Go.Proofs.YtoflkliecagjcaaGreatDoor.cntF,S.rn,S.wd,S.sz]
  by_cases c:p < s.size∧is (Go.Proofs.YtoflkliecagjcaaGreatDoor.rn s p)=true
  ·rw [if_pos c,if_pos ⟨by omega,c.2⟩,show p+3+Go.Proofs.YtoflkliecagjcaaGreatDoor.wd s p=p+Go.Proofs.YtoflkliecagjcaaGreatDoor.wd s p+3 by omega]
   exact Sh3.cntF is f _ _
  ·rw [if_neg c,if_neg (fun x=>c ⟨by omega,x.2⟩)]
theorem Sh3.cnt(is:Int→Bool)(p n:Nat):cnt t is (p+3) n=cnt s is p n:=by
 unfold Go.Proofs.YtoflkliecagjcaaGreatDoor.cnt
 rw [S.sz,show s.size+3-(p+3)=s.size-p by omega]
 exact S.cntF is _ _ _
theorem Sh3.dgF:∀(f p v:Nat),dgF t f (p+3) v=((dgF s f p v).1+3,(dgF s f p v).2)
 | 0,p,v=>rfl
 | f+1,p,v=>by
  rw [Go.Proofs.YtoflkliecagjcaaGreatDoor.dgF,Go.Proofs.YtoflkliecagjcaaGreatDoor.dgF,S.by8,S.sz]
  by_cases c:p < s.size∧48≤Go.Proofs.YtoflkliecagjcaaGreatDoor.by8 s p∧Go.Proofs.YtoflkliecagjcaaGreatDoor.by8 s p≤57
  ·rw [if_pos c,if_pos ⟨by omega,c.2⟩,show p+3+1=p+1+3 by omega]
   exact Sh3.dgF f _ _
  ·rw [if_neg c,if_neg (fun x=>c ⟨by omega,x.2⟩)]
theorem Sh3.dg(p v:Nat):dg t (p+3) v=((dg s p v).1+3,(dg s p v).2):=by
 unfold Go.Proofs.YtoflkliecagjcaaGreatDoor.dg
 rw [S.sz,show s.size+3-(p+3)=s.size-p by omega]
 exact S.dgF _ _ _
theorem Sh3.nlF:∀(f p:Nat),nlF t f (p+3)=nlF s f p+3
 | 0,p=>rfl
 | f+1,p=>by
  rw [Go.Proofs.YtoflkliecagjcaaGreatDoor.nlF,Go.Proofs.YtoflkliecagjcaaGreatDoor.nlF,S.by8,S.sz]
  by_cases c:p < s.size∧Go.Proofs.YtoflkliecagjcaaGreatDoor.by8 s p≠10
  ·rw [if_pos c,if_pos ⟨by omega,c.2⟩,show p+3+1=p+1+3 by omega]
   exact Sh3.nlF f _
  ·rw [if_neg c,if_neg (fun x=>c ⟨by omega,x.2⟩)]
theorem Sh3.nl(p:Nat):nl t (p+3)=nl s p+3:=by
 unfold Go.Proofs.YtoflkliecagjcaaGreatDoor.nl
 rw [S.sz,show s.size+3-(p+3)=s.size-p by omega]
 exact S.nlF _ _
theorem Sh3.skF:∀(f p:Nat),skF t f (p+3)=skF s f p+3
 | 0,p=>rfl
 | f+1,p=>by
  rw [Go.Proofs.YtoflkliecagjcaaGreatDoor.skF,Go.Proofs.YtoflkliecagjcaaGreatDoor.skF,S.by8,S.sz,S.nl,S.rn,S.wd]
  by_cases c:p < s.size
  ·rw [if_pos c,if_pos (by omega)]
   by_cases c2:Go.Proofs.YtoflkliecagjcaaGreatDoor.by8 s p=35
   ·rw [if_pos c2,if_pos c2];exact Sh3.skF f _
   ·rw [if_neg c2,if_neg c2]
    by_cases c3:blankS (Go.Proofs.YtoflkliecagjcaaGreatDoor.rn s p)=true
    ·rw [if_pos c3,if_pos c3,show p+3+Go.Proofs.YtoflkliecagjcaaGreatDoor.wd s p=p+Go.Proofs.YtoflkliecagjcaaGreatDoor.wd s p+3 by omega]
     exact Sh3.skF f _
    ·rw [if_neg c3,if_neg c3]
  ·rw [if_neg c,if_neg (by omega)]
theorem Sh3.sk(p:Nat):sk t (p+3)=sk s p+3:=by
 unfold Go.Proofs.YtoflkliecagjcaaGreatDoor.sk
 rw [S.sz,show s.size+3-(p+3)=s.size-p by omega]
 exact S.skF _ _
theorem Sh3.two(p:Nat):two t (p+3)↔two s p:=by
 unfold Go.Proofs.YtoflkliecagjcaaGreatDoor.two
 rw [S.sz,S.by8,show p+3+1=p+1+3 by omega,S.by8]
 constructor<;>rintro ⟨h1,h2⟩<;>exact ⟨by omega,h2⟩
theorem Sh3.one(p:Nat):(oneO t (p+3)).err=(oneO s p).err∧(oneO t (p+3)).kind=(oneO s p).kind∧(oneO t (p+3)).text=(oneO s p).text∧(oneO t (p+3)).num=(oneO s p).num∧((oneO s p).err=0→(oneO t (p+3)).stop=(oneO s p).stop+3):=by
 have e0:∀c:Int,c≠0→((On.bad c).err=0→(On.bad c).stop=(On.bad c).stop+3):=fun c hc h=>absurd h hc
 unfold oneO
 rw [S.rn]
 by_cases c3:classS (Go.Proofs.YtoflkliecagjcaaGreatDoor.rn s p)=3
 ·rw [if_pos c3,if_pos c3]
  unfold wordO
  rw [S.wr,S.cut,S.cnt]
  by_cases d:wordS (s.extract p (Wr s goesS p (0,0)).1)=true
  ·rw [if_pos d,if_pos d];exact ⟨rfl,rfl,rfl,rfl,fun _=>rfl⟩
  rw [if_neg d,if_neg d]
  by_cases d2:32 < Go.Proofs.YtoflkliecagjcaaGreatDoor.cnt s goesS p 0
  ·rw [if_pos d2,if_pos d2];exact ⟨rfl,rfl,rfl,rfl,e0 22 (by decide)⟩
  ·rw [if_neg d2,if_neg d2];exact ⟨rfl,rfl,rfl,rfl,fun _=>rfl⟩
 rw [if_neg c3,if_neg c3]
 by_cases c4:classS (Go.Proofs.YtoflkliecagjcaaGreatDoor.rn s p)=4
 ·rw [if_pos c4,if_pos c4]
  unfold numO
  rw [S.dg]
  dsimp only
  rw [S.by8,S.cut,S.rn,S.sz,Nat.add_sub_add_right]
  simp only [Nat.add_lt_add_iff_right]
  by_cases d:9223372036854775808≤(Go.Proofs.YtoflkliecagjcaaGreatDoor.dg s p 0).2∨(Go.Proofs.YtoflkliecagjcaaGreatDoor.by8 s p=48∧1 < (Go.Proofs.YtoflkliecagjcaaGreatDoor.dg s p 0).1-p)∨((Go.Proofs.YtoflkliecagjcaaGreatDoor.dg s p 0).1 < s.size∧classS (Go.Proofs.YtoflkliecagjcaaGreatDoor.rn s (Go.Proofs.YtoflkliecagjcaaGreatDoor.dg s p 0).1)=3)
  ·rw [if_pos d,if_pos d];exact ⟨rfl,rfl,rfl,rfl,e0 21 (by decide)⟩
  ·rw [if_neg d,if_neg d];exact ⟨rfl,rfl,rfl,rfl,fun _=>rfl⟩
 rw [if_neg c4,if_neg c4]
 by_cases c5:classS (Go.Proofs.YtoflkliecagjcaaGreatDoor.rn s p)=5
 ·rw [if_pos c5,if_pos c5]
  unfold signO
  rw [S.by8,show p+3+2=p+2+3 by omega,S.cut,show p+3+1=p+1+3 by omega,S.cut]
  by_cases d:Go.Proofs.YtoflkliecagjcaaGreatDoor.two s p
  ·rw [if_pos d,if_pos ((S.two p).2 d)];exact ⟨rfl,rfl,rfl,rfl,fun _=>rfl⟩
  rw [if_neg d,if_neg (fun x=>d ((S.two p).1 x))]
  by_cases d2:Go.Proofs.YtoflkliecagjcaaGreatDoor.by8 s p=38∨Go.Proofs.YtoflkliecagjcaaGreatDoor.by8 s p=124
  ·rw [if_pos d2,if_pos d2];exact ⟨rfl,rfl,rfl,rfl,e0 20 (by decide)⟩
  ·rw [if_neg d2,if_neg d2];exact ⟨rfl,rfl,rfl,rfl,fun _=>rfl⟩
 ·rw [if_neg c5,if_neg c5];exact ⟨rfl,rfl,rfl,rfl,e0 20 (by decide)⟩
theorem Sh3.chk:∀(n p:Nat),s.size-p≤n→chkAt t (p+3)=(chkAt s p).map (· + 3):=by
 intro n
 induction n with
 | zero=>
  intro p h
  rw [a0x s _ (by omega),a0x t _ (by rw [S.sz];omega)]
  rfl
 | succ n ih=>
  intro p h
  by_cases hp:p < s.size
  ·have hw:=O2 s p
   rw [a3p s p hp,a3p t _ (by rw [S.sz];omega),S.dec]
   have hb:bad t (p+3)↔bad s p:=by unfold bad;rw [S.dec]
   by_cases c:bad s p
   ·rw [if_pos c,if_pos (hb.2 c)];rfl
   ·rw [if_neg c,if_neg (fun x=>c (hb.1 x)),show p+3+(Utf8.decode s p).2=p+(Utf8.decode s p).2+3 by omega]
    exact ih _ (by show s.size-(p+Go.Proofs.YtoflkliecagjcaaGreatDoor.wd s p)≤n;omega)
  ·rw [a0x s _ (by omega),a0x t _ (by rw [S.sz];omega)]
   rfl
def ktn(k:Tk):Int×ByteArray×Int:=(k.kind,k.text,k.num)
theorem Sh3.tkF:∀(f g p x:Nat)(a b:Int×Int)(out out':List Tk),s.size+1-p≤f→s.size+1-p≤g→p≤s.size→Go.Proofs.YtoflkliecagjcaaGreatDoor.sk t x=Go.Proofs.YtoflkliecagjcaaGreatDoor.sk s p+3→out'.map ktn=out.map ktn→
  (tkF t g x b out').1.map ktn=(tkF s f p a out).1.map ktn∧(tkF t g x b out').2.2=(tkF s f p a out).2.2:=by
 intro f
 induction f with
 | zero=>intro g p x a b out out' h _ hp;omega
 | succ f ih=>
  intro g p x a b out out' hf hg hp hx ho
  have hg1:1≤g:=by clear hx;omega
  obtain ⟨g,rfl⟩:∃h,g=h+1:=⟨g-1,(Nat.sub_add_cancel hg1).symm⟩
  have hk:=b3e hp
  have hlen:out'.length=out.length:=by
   have:=congrArg List.length ho
   rw [List.length_map,List.length_map] at this
   exact this
  rw [Go.Proofs.YtoflkliecagjcaaGreatDoor.tkF,Go.Proofs.YtoflkliecagjcaaGreatDoor.tkF,hx,S.sz,hlen]
  clear hx
  generalize Go.Proofs.YtoflkliecagjcaaGreatDoor.sk s p=y at hk ⊢
  obtain ⟨o1,o2,o3,o4,o5⟩:=S.one (y)
  by_cases c:¬y < s.size
  ·rw [if_pos c,if_pos (by omega)]
   exact ⟨by simp only [List.map_append,List.map_cons,List.map_nil,ktn,ho],rfl⟩
  rw [if_neg c,if_neg (by omega)]
  by_cases c2:out.length=32768
  ·rw [if_pos c2,if_pos c2];exact ⟨rfl,rfl⟩
  rw [if_neg c2,if_neg c2]
  by_cases c3:(oneO s (y)).err≠0
  ·rw [if_pos c3,if_pos (by rw [o1];exact c3)];exact ⟨rfl,o1⟩
  rw [if_neg c3,if_neg (by rw [o1];exact c3)]
  have c3':(oneO s (y)).err=0:=Classical.byContradiction c3
  have hst:=a9H (s:=s) (p:=y) (by omega) c3'
  rw [o5 c3']
  refine ih g _ _ _ _ _ _ (by omega) (by omega) hst.2 (S.sk _) ?_
  simp only [List.map_append,List.map_cons,List.map_nil,ktn,ho,o2,o3,o4]
end
theorem b8Z{n n' b0 b1 b2 b3 c1 c2 c3:Nat}(h1:1 < (Lib.decodeN n b0 b1 b2 b3).2→c1=b1∧1 < n')(h2:2 < (Lib.decodeN n b0 b1 b2 b3).2→c2=b2∧2 < n')(h3:3 < (Lib.decodeN n b0 b1 b2 b3).2→c3=b3∧3 < n')
  (hb:¬((Lib.decodeN n b0 b1 b2 b3).1=65533∧(Lib.decodeN n b0 b1 b2 b3).2=1)):Lib.decodeN n' b0 c1 c2 c3=Lib.decodeN n b0 b1 b2 b3:=by
 unfold Lib.decodeN at h1 h2 h3 hb ⊢
 by_cases a0:b0 < 128
 ·rw [if_pos a0,if_pos a0]
 rw [if_neg a0] at h1 h2 h3 hb ⊢
 rw [if_neg a0]
 by_cases a1:b0 / 32=6∧(1 < n∧b1 / 64=2)
 ·rw [if_pos a1] at h1 h2 h3 hb ⊢
  split at h1
  ·rename_i q
   obtain ⟨rfl,k1⟩:=h1 (by show 1 < 2;decide)
   rw [if_pos ⟨a1.1,k1,a1.2.2⟩,if_pos q]
  ·rename_i q
   rw [if_neg q] at hb
   exact absurd ⟨rfl,rfl⟩ hb
 rw [if_neg a1] at h1 h2 h3 hb ⊢
 by_cases a2:b0 / 16=14∧(1 < n∧b1 / 64=2)∧(2 < n∧b2 / 64=2)
 ·rw [if_pos a2] at h1 h2 h3 hb ⊢
  split at h1
  ·rename_i q
   rw [if_pos q] at h2
   obtain ⟨rfl,k1⟩:=h1 (by show 1 < 3;decide)
   obtain ⟨rfl,k2⟩:=h2 (by show 2 < 3;decide)
   rw [if_neg (by omega),if_pos ⟨a2.1,⟨k1,a2.2.1.2⟩,k2,a2.2.2.2⟩,if_pos q]
  ·rename_i q
   rw [if_neg q] at hb
   exact absurd ⟨rfl,rfl⟩ hb
 rw [if_neg a2] at h1 h2 h3 hb ⊢
 by_cases a3:b0 / 8=30∧(1 < n∧b1 / 64=2)∧(2 < n∧b2 / 64=2)∧(3 < n∧b3 / 64=2)
 ·rw [if_pos a3] at h1 h2 h3 hb ⊢
  split at h1
  ·rename_i q
   rw [if_pos q] at h2 h3
   obtain ⟨rfl,k1⟩:=h1 (by show 1 < 4;decide)
   obtain ⟨rfl,k2⟩:=h2 (by show 2 < 4;decide)
   obtain ⟨rfl,k3⟩:=h3 (by show 3 < 4;decide)
   rw [if_neg (by omega),if_neg (by omega),if_pos ⟨a3.1,⟨k1,a3.2.1.2⟩,⟨k2,a3.2.2.1.2⟩,k3,a3.2.2.2.2⟩,if_pos q]
  ·rename_i q
   rw [if_neg q] at hb
   exact absurd ⟨rfl,rfl⟩ hb
 rw [if_neg a3] at hb
 exact absurd ⟨rfl,rfl⟩ hb
structure Ag (s t:ByteArray) (q:Nat):Prop where
 ht:q+s.size≤t.size
 eq:∀j,j < s.size→t.get! (q+j)=s.get! j
section
variable {s t:ByteArray}{q:Nat}
theorem Ag.of{r:List UInt8}(h:Dr t q (s.data.toList++r))(hq:q≤t.size):Ag s t q:=by
 have hl:s.data.toList.length=s.size:=Array.length_toList
 have hz:=h.le hq
 rw [List.length_append,hl] at hz
 refine ⟨by omega,fun j hj=>?_⟩
 have h':t.data.toList.drop q=s.data.toList++r:=h
 have a:=b0L (s:=t) (p:=q+j) (by omega)
 have b:=b0L (s:=s) hj
 rw [←List.getElem?_drop,h',List.getElem?_append_left (by omega),b] at a
 exact (Option.some.inj a).symm
theorem Ag.dec(h:Ag s t q){i:Nat}(hi:i < s.size)(hb:¬bad s i):Utf8.decode t (q+i)=Utf8.decode s i:=by
 have hw:=a5y hi
 unfold bad at hb
 have ht:=h.ht
 have hw:i+(Utf8.decode s i).2≤s.size:=hw
 rw [Lib.decode_at s i] at hw hb ⊢
 rw [Lib.decode_at t (q+i),h.eq i hi]
 refine b8Z (fun x=>⟨?_,by omega⟩) (fun x=>⟨?_,by omega⟩) (fun x=>⟨?_,by omega⟩) hb
 ·rw [show q+i+1=q+(i+1) by omega,h.eq (i+1) (by omega)]
 ·rw [show q+i+2=q+(i+2) by omega,h.eq (i+2) (by omega)]
 ·rw [show q+i+3=q+(i+3) by omega,h.eq (i+3) (by omega)]
theorem a9L{i:Nat}(h:goesS (rn s i)=true):¬bad s i:=fun x=>by
 have x1:rn s i=65533:=by show ((Utf8.decode s i).1:Int)=65533;rw [x.1];rfl
 rw [x1] at h
 exact absurd h (by decide)
theorem Ag.name(h:Ag s t q)(hx:¬(q+s.size < t.size∧goesS (rn t (q+s.size))=true)):∀(n i:Nat),s.size-i≤n→i≤s.size→nameAt s (s.size-i) i=true→∀(a:Int×Int)(m:Nat),(Wr t goesS (q+i) a).1=q+s.size∧cnt t goesS (q+i) m=m+(runes s (s.size-i) i).length∧chkAt t (q+i)=chkAt t (q+s.size):=by
 intro n
 induction n with
 | zero=>
  intro i h' hi _ a m
  obtain rfl:i=s.size:=by omega
  rw [W2 hx,b1y hx,b2p (by omega)]
  exact ⟨rfl,rfl,rfl⟩
 | succ n ih=>
  intro i h' hi hn a m
  by_cases c:i < s.size
  ·have hw:=O2 s i
   have hl:=a5y c
   have hz:=h.ht
   rw [a7T c] at hn
   split at hn
   ·rename_i g
    have g1:goesS (rn s i)=true:=g.1
    have hd:=h.dec c (a9L g1)
    have er:rn t (q+i)=rn s i:=by unfold rn;rw [hd]
    have ew:wd t (q+i)=wd s i:=by unfold wd;rw [hd]
    have hlt:q+i < t.size:=by omega
    have gt:goesS (rn t (q+i))=true:=by rw [er];exact g1
    obtain ⟨j1,j2,j3⟩:=ih (i+wd s i) (by omega) hl hn (stepP a (rn t (q+i))) (m+1)
    rw [a1J hlt gt,b8y hlt gt,ew,Nat.add_assoc,b4Y c,a3p t _ hlt,if_neg (a9L gt),show (Utf8.decode t (q+i)).2=wd s i from ew,Nat.add_assoc]
    refine ⟨j1,?_,j3⟩
    rw [j2,List.length_cons]
    show m+1+(runes s (s.size-(i+wd s i)) (i+wd s i)).length=m+((runes s (s.size-(i+wd s i)) (i+wd s i)).length+1)
    omega
   ·cases hn
  ·obtain rfl:i=s.size:=by omega
   rw [W2 hx,b1y hx,b2p c]
   exact ⟨rfl,rfl,rfl⟩
end
end Go.Proofs.YtoflkliecagjcaaGreatDoor
