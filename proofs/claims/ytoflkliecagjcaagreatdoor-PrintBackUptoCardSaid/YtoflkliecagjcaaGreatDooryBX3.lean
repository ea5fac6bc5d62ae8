/- Parsing: the program's reader of tokens answers what the plain one does: one token. Contracts off the printed formulas. -/
import Derived.Test.YtoflkliecagjcaaGreatDooryBX1
namespace Go.Proofs.YtoflkliecagjcaaGreatDoor
open Go.RowKit
set_option maxRecDepth 100000
set_option maxHeartbeats 1000000
def Rd(H:Hp)(x:a8)(r:List Tok):Prop:=∃(ts:List Tok)(n:Nat),SlH H 5 g8 x.fl ts∧ts.length≤big∧x.fn=(n:Int)∧ts.drop n=r∧WfT r
def fltV(c:Int)(p:c8):Value:=.iface 83 (.agg #[vi p.M8,vi p.V1,vi c])
def Res [PanQ] {α β:Type} (H:Hp) (x:a8) (R:Hp→α→β→Prop) (o:Except Flt (β×List Tok)) (K:α→a8→Hp→Prop):Prop:=match o with
 | .ok (b,r')=>∀(H':Hp)(v:α)(x':a8),Hle H H'→R H' v b→Rd H' x' r'→x'.fl=x.fl→K v x' H'
 | .error (c,p)=>PanQ.q (fltV c p)
theorem Rd.le{H H':Hp}(l:Hle H H'){x:a8}{r:List Tok}(h:Rd H x r):Rd H' x r:=by
 obtain ⟨ts,n,a,b,c,d,e⟩:=h
 exact ⟨ts,n,a.le l,b,c,d,e⟩
theorem WfT.ne{r:List Tok}(h:WfT r):r≠[]:=by rintro rfl;exact h
theorem WfT.tail{r:List Tok}(h:WfT r)(hk:(hd r).d6≠5):WfT r.tail:=by
 cases r with
 | nil=>exact h.elim
 | cons t r=>
  cases r with
  | nil=>exact absurd h hk
  | cons u r=>exact h.2
theorem drop_at{ts:List Tok}{n:Nat}{r:List Tok}(h:ts.drop n=r)(hr:r≠[]):ts[n]? = some (hd r):=by
 cases r with
 | nil=>exact absurd rfl hr
 | cons t r=>
  have:(ts.drop n)[0]? = some t:=by rw [h];rfl
  rw [List.getElem?_drop] at this
  exact this
theorem c4D{ts:List Tok}{n:Nat}{r:List Tok}(h:ts.drop n=r):ts.drop (n+1)=r.tail:=by rw [←List.tail_drop,h]
theorem a7L{s:ByteArray}{ss:List ByteArray}{k:Int}{ks:List Int}{r:List Tok}:whG (s::ss) (k::ks) r=if isT s r then k else whG ss ks r:=rfl
section
variable {H:Hp}{x:a8}{r:List Tok}
theorem Rd.len(h:Rd H x r):((x.fl.n:Int)-x.fn).toNat=r.length:=by
 obtain ⟨ts,n,a,_,c,d,_⟩:=h
 have:=a.1
 rw [←d,c,List.length_drop]
 omega
theorem Rd.wf(h:Rd H x r):WfT r:=by obtain ⟨_,_,_,_,_,_,e⟩:=h;exact e
theorem Rd.up(h:Rd H x r)(hk:(hd r).d6≠5):Rd H (a8.mk x.fl (IntKind.wrap .i64 (x.fn+1))) r.tail:=by
 obtain ⟨ts,n,a,b,c,d,e⟩:=h
 have hn:n < ts.length:=P4 (drop_at d e.ne)
 refine ⟨ts,n+1,a,b,?_,c4D d,e.tail hk⟩
 simp only [big] at b
 show IntKind.wrap .i64 (x.fn+1)=_
 rw [c,X9 ⟨by omega,by omega⟩]
 omega
theorem a2Y(h:Rd H x r){K:b7→Hp→Prop}(k:K (hd r) H):B0 x H K:=by
 obtain ⟨ts,n,a,b,c,d,e⟩:=h
 refine a8z _ ?_
 unfold a4v
 have ha:=drop_at d e.ne
 have hn:=P4 ha
 have:=a.1
 rw [c]
 obtain ⟨y,hy,hE⟩:=a.get (i:=(n:Int)) (by omega) (by omega)
 rw [Int.toNat_natCast,ha] at hy
 cases hy
 exact ⟨by omega,by omega,_,hE,k⟩
theorem b7D(h:Rd H x r){s:ByteArray}{K:Bool→Hp→Prop}(k:K (isT s r) H):r9 x s H K:=a9v _ _ (a2Y h k)
theorem a2F(h:Rd H x r){s:ByteArray}{K:Bool→a8→Hp→Prop}(h1:isT s r=true→∀x',Rd H x' r.tail→x'.fl=x.fl→K true x' H)(h0:isT s r=false→K false x H):t7 x s H K:=by
 refine a9b _ _ (b7D h ⟨fun c=>h0 (by simpa using c),fun c=>?_⟩)
 have c':isT s r=true:=by simpa using c
 exact h1 c' _ (h.up (a6Z c')) rfl
variable  [PanQ]
theorem a5B(h:Rd H x r){K:Hp→Prop}(k:PanQ.q (fltV 40 (hd r).fAt)):D7 x H K:=a8B _ (a2Y h k)
theorem b3j(h:Rd H x r){K:b7→a8→Hp→Prop}(h0:(hd r).d6=5→PanQ.q (fltV 40 (hd r).fAt))(h1:(hd r).d6≠5→∀x',Rd H x' r.tail→x'.fl=x.fl→K (hd r) x' H):Q3 x H K:=
 a8G _ (a2Y h ⟨fun c=>a5B h (h0 c),fun c=>h1 c _ (h.up c) rfl⟩)
theorem c9n(h:Rd H x r){s:ByteArray}{K:a8→Hp→Prop}(k:Res H x (fun _ (_:Unit) (_:Unit)=>True) (mustP s r) (fun _ x' H'=>K x' H')):C4 x s H K:=by
 refine a8E _ _ (a2F h (fun c x' hx e=>⟨fun q=>(by cases q),fun _=>?_⟩) fun c=>⟨fun _=>a5B h ?_,fun q=>(by cases q)⟩)
 ·unfold mustP at k;rw [if_pos c] at k;exact k H () x' (Hle.refl _) trivial hx e
 ·unfold mustP at k;rw [if_neg (by rw [c];decide)] at k;exact k
theorem c9o(h:Rd H x r){c:Int}(hc:c≠5){K:b7→a8→Hp→Prop}(h0:(hd r).d6≠c→PanQ.q (fltV 40 (hd r).fAt))(h1:(hd r).d6=c→∀x',Rd H x' r.tail→x'.fl=x.fl→K (hd r) x' H):a1P x c H K:=by
 refine a8u _ _ (a2Y h ⟨fun q=>a5B h (h0 q),fun q=>?_⟩)
 unfold W3
 exact b3j h (fun q'=>absurd (q.symm.trans q') hc) fun _=>h1 q
omit [PanQ] in
theorem a5C(h:Rd H x r){p:Prop} [Decidable p] {s:ByteArray} {K:Bool→Hp→Prop} (k:K (decide p&&isT s r) H):TG p (r9 x s H) false H K:=by
 refine ⟨fun c=>b7D h ?_,fun c=>?_⟩
 ·rw [decide_eq_true c] at k;exact k
 ·rw [decide_eq_false c] at k;exact k
omit [PanQ] in
theorem b7E{a b:Bool}:(a||(decide (a=false)&&b))=(a||b):=by cases a<;>simp
omit [PanQ] in
theorem b1A(h:Rd H x r){K:Bool→Hp→Prop}(k:K (factB r) H):E7 x H K:=by
 refine a6i _ (a2Y h ?_)
 refine a5C h (a5C h (a5C h ?_))
 simp only [b7E]
 exact k
omit [PanQ] in
theorem b6e(h:Rd H x r){K:Bool→Hp→Prop}(k:K (litB r) H):P3 x H K:=by
 refine a6y _ (b1A h ?_)
 refine a5C h (a5C h (a5C h (a5C h ?_)))
 simp only [b7E]
 exact k
omit [PanQ] in
theorem c6s(h:Rd H x r){K:Bool→Hp→Prop}(k:K (stmtB r) H):O7 x H K:=by
 refine a6k _ (a2Y h ?_)
 refine a5C h (a5C h (a5C h (a5C h (a5C h ?_))))
 simp only [b7E]
 exact k
theorem a9K(h:Rd H x r){d:Int}{can:Bool}{K:Hp→Prop}(h0:can=false→PanQ.q (fltV 40 (hd r).fAt))(h1:can=true→40 < d→PanQ.q (fltV 41 (hd r).fAt))(h2:can=true→¬40 < d→K H):C8 x d can H K:=by
 refine a8k _ _ _ ⟨fun c=>a5B h (h0 (by simpa using c)),fun c=>?_⟩
 have c':can=true:=by simpa using c
 exact ⟨fun q=>a2Y h (h1 c' q),fun q=>h2 c' q⟩
omit [PanQ] in
theorem c6t(h:Rd H x r){sg:a1u}{ss:List ByteArray}{ks:List Int}(hs:SlH H 1 q6 sg.fsigns ss)(hk:SlH H 1 b0x sg.fkinds ks)(hl:ss.length=ks.length)(hb:ss.length≤100)(h9:∀k∈ks,k≠0){K:Int→a8→Hp→Prop}
  (k1:whG ss ks r≠0→∀x',Rd H x' r.tail→x'.fl=x.fl→K (whG ss ks r) x' H) (k0:whG ss ks r=0→K 0 x H):a1x x sg H K:=by
 refine a8n _ _ ?_
 unfold a3Z
 have n1:=hs.1
 have n2:=hk.1
 refine U6 (fun(z:Int×a8) H'=>H'=H∧∃i:Nat,z=((i:Int),x)∧i≤ss.length∧whG (ss.drop i) (ks.drop i) r=whG ss ks r) (fun z=>(ss.length-z.1).toNat) ⟨rfl,0,rfl,by omega,rfl⟩ ?_
 rintro z H1 next ⟨rfl,i,rfl,hi,he⟩ hn
 unfold a3o
 dsimp only
 refine ⟨fun c=>?_,fun c=>?_⟩
 ·obtain ⟨s,hsi,hE⟩:=hs.get (i:=(i:Int)) (by omega) (by omega)
  obtain ⟨k,hki,hF⟩:=hk.get (i:=(i:Int)) (by omega) (by omega)
  rw [Int.toNat_natCast] at hsi hki
  have d1:ss.drop i=s::ss.drop (i+1):=by obtain ⟨hz,e1⟩:=List.getElem?_eq_some_iff.1 hsi;rw [List.drop_eq_getElem_cons hz,e1]
  have d2:ks.drop i=k::ks.drop (i+1):=by obtain ⟨hz,e1⟩:=List.getElem?_eq_some_iff.1 hki;rw [List.drop_eq_getElem_cons hz,e1]
  rw [d1,d2,a7L] at he
  refine ⟨by omega,by omega,s,hE,a2F h (fun q x' hx e=>⟨fun _=>?_,fun q'=>(by cases q')⟩) fun q=>⟨fun q'=>(by cases q'),fun _=>?_⟩⟩
  ·rw [if_pos q] at he
   have hk0:k≠0:=h9 k (List.mem_of_getElem? hki)
   refine ⟨by omega,by omega,k,hF,?_⟩
   rw [he]
   exact k1 (by rw [←he];exact hk0) x' hx e
  ·rw [if_neg (by rw [q];decide)] at he
   rw [X9 (a:=(i:Int)+1) ⟨by omega,by omega⟩]
   exact hn _ _ ⟨rfl,i+1,by rw [Int.natCast_add];rfl,by omega,he⟩ (by dsimp only;omega)
 ·have d1:ss.drop i=[]:=List.drop_eq_nil_of_le (by omega)
  rw [d1] at he
  exact k0 he.symm
end
set_option maxHeartbeats 2000000
abbrev rQ(g:Nat):Value:=.pointer (some ⟨g,0,none⟩)
theorem b1B{P:Program}{E:Pan}{w:World}{K:Value→World→Prop}{f:FuncId}{a:Value}{args:List Value}(he:∀args w,(callFunc f args).run P w=.ok (.enter f args) w)(h:Cv P f (a::args).toArray w K E):opK P E (xCall (.func (.func f) #[a] #[]) args) w K:=by
 refine a0R (f:=f) (args:=(a::args).toArray) ?_ h
 simp only [xCall,Deferred.ofValue,invoke,Sem.run_bind,Sem.run_pure,Result.andThen_ok,he]
 congr 2
 simp
theorem EH2{H:Hp}{s:Sl}{e e':f8}{a b:PT}(hs:SlH H 4 f7 s [e,e'])(ha:EH H e a)(hb:EH H e' b)(k n:Int)(nm:ByteArray):EH H (f8.mk k n nm s) (eX k n nm [a,b]):=
 EH.mk (e:=⟨k,n,nm,s⟩) hs (by simp [big]) rfl ((u5.one ha).app (u5.one hb)).2
theorem EH1{H:Hp}{s:Sl}{e:f8}{a:PT}(hs:SlH H 4 f7 s [e])(ha:EH H e a)(k n:Int)(nm:ByteArray):EH H (f8.mk k n nm s) (eX k n nm [a]):=
 EH.mk (e:=⟨k,n,nm,s⟩) hs (by simp [big]) rfl (u5.one ha).2
theorem EH0{H:Hp}(k n:Int)(nm:ByteArray):EH H (f8.mk k n nm (Sl.mk none 0 0)) (eX k n nm []):=
 EH.mk (e:=⟨k,n,nm,Sl.mk none 0 0⟩) (SlH.nil H _ _) (by simp [big]) rfl (fun i x t h=>by simp at h)
theorem CH2{H:Hp}{s:Sl}{e e':i7}{a b:PT}(hs:SlH H 4 g7 s [e,e'])(ha:CH H e a)(hb:CH H e' b)(k n:Int):CH H (i7.mk k n (Sl.mk none 0 0) s) (cX k n [] [a,b]):=
 CH.mk (c:=⟨k,n,Sl.mk none 0 0,s⟩) (ts:=[]) (SlH.nil H _ _) (by simp [big]) u5.nil hs (by simp [big]) rfl ((u5.one ha).app (u5.one hb)).2
variable  [PanQ]
def CallV{α:Type}(cs:α→List Value)(g:Nat)(pv:Value)(d:Int)(x:a8)(H:Hp)(K:α→a8→Hp→Prop):Prop:=
 ∀(E:Pan)(w0 w:World)(ps:Nat→Prop)(H0:Hp)(Fr:List Frag)(Kw:Value→World→Prop),Inv w0 ps H0 H (bx g 86 (b9 x)::Fr) w→(∀c H' Fo w',Inv w0 ps H0 H' Fo w'→panQE c H' Fo→E c w')→
  (∀e x' H' w',Inv w0 ps H0 H' (bx g 86 (b9 x')::Fr) w'→Hle H H'→K e x' H'→Kw (.agg (cs e).toArray) w')→opK Tryz.prog E (xCall pv [vi d]) w Kw
theorem Res.use{α β:Type}{H:Hp}{x:a8}{R:Hp→α→β→Prop}{p:PM β}{r:List Tok}{o:Except Flt (β×List Tok)}(ho:p r=o)(hq:∀c pl,o=.error (c,pl)→PanQ.q (fltV c pl)):Res H x R (p r) (fun v x' H'=>∃b r',o=.ok (b,r')∧R H' v b∧Rd H' x' r'∧x'.fl=x.fl∧Hle H H'):=by
 rw [ho]
 cases o with
 | error y=>exact hq _ _ rfl
 | ok y=>exact fun H' v x' l ra rd e=>⟨_,_,rfl,ra,rd,e,l⟩
theorem Res.next{α β γ:Type}{H H':Hp}{x x':a8}{R:Hp→α→β→Prop}{o:Except Flt (β×List Tok)}{K:α→a8→Hp→Prop}(l:Hle H H')(e:x'.fl=x.fl)(h:Res H x R o K):Res H' x' R o K:=by
 cases o with
 | error y=>exact h
 | ok y=>exact fun H2 v x2 l2 ra rd e2=>h H2 v x2 (l.trans l2) ra rd (e2.trans e)
omit [PanQ] in
theorem R0{α β:Type}{p:PM α}{f:α→PM β}{r:List Tok}{y:Flt}(h:p r=.error y):bindP p f r=.error y:=by unfold bindP;rw [h]
omit [PanQ] in
theorem a2v{α β:Type}{p:PM α}{f:α→PM β}{r r':List Tok}{a:α}(h:p r=.ok (a,r')):bindP p f r=f a r':=by unfold bindP;rw [h]
theorem b8L{g:Nat}{d:Int}{sg:a1u}{ss:List ByteArray}{ks:List Int}{part:PM PT}{H:Hp}{x:a8}{r:List Tok}{K:f8→a8→Hp→Prop}
  (hp:∀{H:Hp}{x:a8}{r:List Tok}{K:f8→a8→Hp→Prop},Rd H x r→Res H x EH (part r) K→CallV f7 g sg.fpart d x H K) (hsh:SShr part)
  (hs:SlH H 1 q6 sg.fsigns ss) (hk:SlH H 1 b0x sg.fkinds ks) (hl:ss.length=ks.length) (hb:ss.length≤100) (h9:∀k∈ks,k≠0) (h:Rd H x r) (k:Res H x EH (chainP (whG ss ks) part r) K):
  Ct Tryz.prog 102 [rQ g,vi d,.agg (U8 sg).toArray] H [bx g 86 (b9 x)] (fun v H' Fo=>∃(e:f8)(x':a8),v=.agg (f7 e).toArray∧Fo=[bx g 86 (b9 x')]∧K e x' H') panQE:=by
 refine Ct.ofE fun w0 w ps0 H0 R E I hR hE=>c7Z ?_
 unfold d1U
 refine E9 I (cs:=U8 sg) rfl fun gs w1 I1 _=>?_
 refine r7 I1 Tryz.zeroValue39 (cs:=[vi 0,vi 0,.string ⟨#[]⟩,.slice none 0 0]) rfl fun gr w2 I2 _=>?_
 refine a7 b3D ?_
 refine b8 (l1 Tryz.isAgg132 (I2.bring 1) rfl) ?_
 generalize ho:chainP (whG ss ks) part r=o at k
 unfold chainP at ho
 have hq:∀c pl,part r=.error (c,pl)→PanQ.q (fltV c pl):=fun c pl e=>by
  rw [R0 e] at ho;subst ho;exact k
 refine hp h (Res.use rfl hq) E w0 w2 ps0 H0 _ _ (I2.bring 2) hE fun e x1 H1 w3 I3 lA q=>?_
 obtain ⟨a,r1,ea,ra,rd,el,_⟩:=q
 rw [a2v ea] at ho
 refine r7 I3 Tryz.zeroValue39 (cs:=[vi 0,vi 0,.string ⟨#[]⟩,.slice none 0 0]) rfl fun gb w4 I4 _=>?_
 refine G4 I4 Tryz.sizeOf39 (vs:=f7 e) (cs':=f7 e) rfl rfl (nb rfl) rfl rfl fun w5 I5 _=>?_
 have hj1:∀(H:Hp)(w:World)(e z:f8)(x':a8),Inv w0 ps0 H0 H [bx gb 39 (f7 e),bx g 86 (b9 x'),bx gr 39 (f7 z),bx gs 171 (U8 sg)] w→K e x' H→b5S (rQ gr) (rQ gb) w R E:=by
  intro H w e z x' I h
  unfold b5S
  intro _
  refine b8 (lW Tryz.isAgg39 Tryz.sizeOf39 rfl I) ?_
  refine G4 (I.bring 2) Tryz.sizeOf39 (vs:=f7 e) (cs':=f7 e) rfl rfl (nb rfl) rfl rfl fun _ v _=>?_
  refine a0Q Tryz.isAgg39 Tryz.sizeOf39 rfl (v.at1 (o:=0) (vs:=f7 e) (nb rfl) rfl) ?_
  exact hR _ H _ _ (v.drop.drop.bring 1).drop ⟨e,x',rfl,rfl,h⟩
 refine u2 fun j1 hx1=>?_
 refine b8 (lW Tryz.isAgg171 Tryz.sizeOf171 rfl (I5.bring 3)) ?_
 have hw:∀{H':Hp}{x':a8}{r':List Tok},Hle H H'→Rd H' x' r'→a1x x' sg H' (fun v x2 H2=>H2=H'∧v=whG ss ks r'∧∃r2,Rd H' x2 r2∧x2.fl=x'.fl∧r2=(if v=0 then r' else r'.tail)):=fun{H' x' r'} l rd=>
  c6t rd (hs.le l) (hk.le l) hl hb h9 (fun n x2 r2 e2=>⟨rfl,rfl,_,r2,e2,by rw [if_neg n]⟩) fun z=>⟨rfl,z.symm,_,rd,rfl,by rw [if_pos rfl]⟩
 refine g6 Tryz.call131 (hw lA rd g) (I5.bring 1) ?_
 rintro _ H2 _ w6 I6 _ _ ⟨k8,x2,rfl,rfl,rfl,rfl,r2,rd2,el2,er2⟩
 have st:if whG ss ks r1=0 then o=.ok (a,r2) else ∃n,r2.length≤n∧bindP part (fun b=>chainF (whG ss ks) part n (eX (whG ss ks r1) 0 ⟨#[]⟩ [a,b])) r2=o:=by
  by_cases c:whG ss ks r1=0
  ·rw [if_pos c]
   rw [if_pos c] at er2
   rw [er2,← ho]
   cases r1 with
   | nil=>rfl
   | cons t r1=>show (chainF _ _ (r1.length+1) _ _)=_;unfold chainF;rw [if_pos c]
  ·rw [if_neg c]
   rw [if_neg c] at er2
   cases r1 with
   | nil=>exact absurd rd.wf id
   | cons t r1=>
    refine ⟨r1.length,by rw [er2];exact Nat.le_refl _,?_⟩
    rw [←ho,er2]
    show _=(chainF _ _ (r1.length+1) _ _)
    conv=>rhs;unfold chainF
    rw [if_neg c]
 refine R1 (J:=fun m l w=>∃(k8:Int)(e z:f8)(x':a8)(H':Hp)(a:PT)(r':List Tok),m=r'.length∧l=[vi k8]∧Inv w0 ps0 H0 H' [bx gb 39 (f7 e),bx g 86 (b9 x'),bx gr 39 (f7 z),bx gs 171 (U8 sg)] w∧Hle H H'∧EH H' e a∧Rd H' x' r'∧x'.fl=x.fl∧
  (if k8=0 then o=.ok (a,r') else ∃n,r'.length≤n∧bindP part (fun b=>chainF (whG ss ks) part n (eX k8 0 ⟨#[]⟩ [a,b])) r'=o)) ⟨_,_,e,⟨0,0,⟨#[]⟩,Sl.mk none 0 0⟩,x2,H2,a,r2,rfl,rfl,I6.bring 1,lA,ra,rd2,el2.trans el,st⟩ ?_
 rintro m τ w next ⟨k8,e,z,x',H',a,r',rfl,hl8,I,l,ra,rd,el',st⟩ hn
 simp only [List.map_cons,List.map_nil,List.cons.injEq,and_true] at hl8
 simp only [hl8]
 unfold c0p
 refine a7 (Q6 _ _ _ _ _ _) ?_
 refine b0v (fun c=>?_) (fun c=>?_)
 ·rw [if_neg c] at st
  obtain ⟨n,hn1,st⟩:=st
  refine T1 I fun w7 I7=>?_
  refine o0 b3D ?_
  refine u7 (lW Tryz.isAgg39 Tryz.sizeOf39 rfl I7) ?_
  refine u7 (l1 Tryz.isAgg132 (I7.bring 3) rfl) ?_
  have hq:∀c pl,part r'=.error (c,pl)→PanQ.q (fltV c pl):=fun c pl e=>by
   rw [R0 e] at st;subst st;exact k
  refine hp rd (Res.use rfl hq) E w0 w7 ps0 H0 _ _ (I7.bring 1) hE fun e2 x3 H3 w8 I8 l3 q=>?_
  obtain ⟨b,r3,eb,rb,rd3,el3,_⟩:=q
  rw [a2v eb] at st
  have hlt:=hsh _ _ _ eb
  refine ⟨(I8.bring 1).hp1.trans I7.hp1.symm,?_⟩
  refine O4 (e:=39) (c:=f7) (xs:=[e,e2]) I8 (b2M _ _ _ _ _ _ _ _ _ _ _ _) rfl rfl P9 Q0 (nb rfl) fun s F w9 hr I9 _=>?_
  obtain ⟨H4,I10,l4,hs4,hc4⟩:=Inv.freezeC I9 hr (by decide)
  refine o0 (a6a _ _ _ _) ?_
  refine G4 (I10.bring 1) Tryz.sizeOf39 (vs:=[vi k8,vi 0,.string ⟨#[]⟩,vs s]) (cs':=[vi k8,vi 0,.string ⟨#[]⟩,vs s]) rfl rfl (nb rfl) rfl rfl fun w11 I11 _=>?_
  refine b8 (lW Tryz.isAgg171 Tryz.sizeOf171 rfl (I11.bring 3)) ?_
  have l5:Hle H H4:=(l.trans l3).trans l4
  refine g6 Tryz.call131 (hw l5 (rd3.le l4) g) (I11.bring 1) ?_
  rintro _ H5 _ w12 I12 _ _ ⟨k9,x4,rfl,rfl,rfl,rfl,r4,rd4,el4,er4⟩
  have hr4:r4.length≤r3.length:=by rw [er4];split<;>simp
  refine hn _ _ _ (show r4.length < r'.length by omega) ⟨_,⟨k8,0,⟨#[]⟩,s⟩,z,x4,H5,eX k8 0 ⟨#[]⟩ [a,b],r4,rfl,rfl,I12.bring 1,l5,EH2 hs4 (ra.le (l3.trans l4)) (rb.le l4) _ _ _,rd4,(el4.trans el3).trans el',?_⟩
  obtain ⟨n,rfl⟩:∃m,n=m+1:=⟨n-1,by omega⟩
  unfold chainF at st
  by_cases c9:whG ss ks r3=0
  ·rw [if_pos c9] at st er4
   rw [if_pos c9,er4,← st]
  ·rw [if_neg c9] at st er4
   rw [if_neg c9]
   refine ⟨n,?_,by rw [er4];exact st⟩
   rw [er4,List.length_tail]
   omega
 ·have c':k8=0:=c
  rw [if_pos c'] at st
  subst st
  exact hx1 _ _ (hj1 H' _ e z x' I (k H' e x' l ra rd el'))
end Go.Proofs.YtoflkliecagjcaaGreatDoor
