/- Typed formulas over the second reading: branches, loops, what stays, guarded elements. No program in sight. -/
import Derived.Laws.Strings
import Derived.Laws.Pointers
import Derived.Laws.Strings3
import Derived.Laws.Concat
import Derived.WideLaws
import Derived.Test.YthaaobpfbgcfiaaGreatDooryWS0
namespace Go.Proofs.YthaaobpfbgcfiaaGreatDoor
open Go.RowKit
def TL{α:Type}(init:α)(H:Hp)(body:α→Hp→(α→Hp→Prop)→Prop):Prop:=
 ∃(I:α→Hp→Prop)(μ:α→Nat),I init H∧∀s H' (next:α→Hp→Prop),I s H'→(∀s' H'',I s' H''→μ s' < μ s→next s' H'')→body s H' next
theorem Z2{α:Type}{init:α}{H:Hp}{body:α→Hp→(α→Hp→Prop)→Prop}(I:α→Hp→Prop)(μ:α→Nat)(h0:I init H)
  (hb:∀s H' (next:α→Hp→Prop),I s H'→(∀s' H'',I s' H''→μ s' < μ s→next s' H'')→body s H' next):TL init H body:=⟨I,μ,h0,hb⟩
open Classical in
theorem K7{S:List Nat}{init:List Value}{w:World}{body:Fr→World→(List Value→World→Prop)→Prop}(J:Nat→List Value→World→Prop)(h0:∃n,J n init w)
  (hb:∀n (τ:Fr) w' (next:List Value→World→Prop),J n (S.map τ) w'→(∀l w'' m,m < n→J m l w''→next l w'')→body τ w' next):xloop S init w body:=by
 have least:∀l w',(∃n,J n l w')→∃n,J n l w'∧∀m,J m l w'→n≤m:=by
  rintro l w' ⟨n,hn⟩
  induction n using Nat.strongRecOn with
  | _ n ih=>
   by_cases hx:∃m,m < n∧J m l w'
   ·obtain ⟨m,hm,hJ⟩:=hx
    exact ih m hm hJ
   ·exact ⟨n,hn,fun m hm=>Nat.le_of_not_lt fun h=>hx ⟨m,h,hm⟩⟩
 refine ⟨fun l w'=>∃n,J n l w',fun l w'=>if h:∃n,J n l w' then (least l w' h).choose else 0,h0,fun τ w' hI=>?_⟩
 have hsp:=(least _ _ hI).choose_spec
 refine hb _ τ w' _ hsp.1 fun l w'' m hm hJ=>⟨⟨m,hJ⟩,?_⟩
 have hI':∃n,J n l w'':=⟨m,hJ⟩
 dsimp only
 rw [dif_pos hI,dif_pos hI']
 exact Nat.lt_of_le_of_lt ((least _ _ hI').choose_spec.2 m hJ) hm
theorem a2P{σ:Type}{w0 w:World}{ps:Nat→Prop}{H0 H:Hp}{S:List Nat}{init:List Value}{x0:σ}{B:σ→Hp→(σ→Hp→Prop)→Prop}{body:Fr→World→(List Value→World→Prop)→Prop}(e:σ→List Value)(Fs:σ→List Frag)(h:TL x0 H B)(he:init=e x0)(I:Inv w0 ps H0 H (Fs x0) w)
  (hb:∀s H (τ:Fr) w next n,S.map τ = e s→Inv w0 ps H0 H (Fs s) w→B s H n→(∀s' H' w',n s' H'→Inv w0 ps H0 H' (Fs s') w'→next (e s') w')→body τ w next):xloop S init w body:=by
 obtain ⟨J,m,h0,hs⟩:=h
 subst he
 refine K7 (J:=fun k l w=>∃(s:σ)(H:Hp),k=m s∧l=e s∧Inv w0 ps H0 H (Fs s) w∧J s H) ⟨_,x0,H,rfl,rfl,I,h0⟩ ?_
 rintro k τ w' next ⟨s,H1,rfl,hl,I1,hj⟩ hn
 exact hb s H1 τ w' next (fun s' H'=>J s' H'∧m s' < m s) hl I1 (hs s H1 _ hj fun _ _ a b=>⟨a,b⟩) fun s' H' w2 q I2=>hn _ _ _ q.2 ⟨s',H',rfl,rfl,I2,q.1⟩
theorem v6{K:List Value→World→Prop}{body:(List Value→World→Prop)→Prop}(h:∀j:List Value→World→Prop,(∀l w,K l w→j l w)→body j):xcut K body:=h K fun _ _ h=>h
theorem D7{p:Prop} [Decidable p] {A B:Prop} (h1:p→A) (h2:¬p→B):xcond (.bool (decide p)) A B:=by
 by_cases h:p
 ·simpa [xcond,h] using h1 h
 ·simpa [xcond,h] using h2 h
theorem a9S{p:Prop} [Decidable p] {A B:Prop} (h1:¬p→A) (h2:p→B):xcond (.bool (!decide p)) A B:=by
 by_cases h:p
 ·simpa [xcond,h] using h2 h
 ·simpa [xcond,h] using h1 h
theorem N9{b:Bool}{A B:Prop}(h1:b=true→A)(h2:b=false→B):xcond (.bool b) A B:=by
 cases b
 ·exact h2 rfl
 ·exact h1 rfl
theorem g7{p:Prop} [Decidable p] {A B A' B':Prop} (h:(p→A')∧(¬p→B')) (h1:p→A'→A) (h2:¬p→B'→B):xcond (.bool (decide p)) A B:=D7 (fun c=>h1 c (h.1 c)) fun c=>h2 c (h.2 c)
theorem a2f{p:Prop} [Decidable p] {A B A' B':Prop} (h:(¬p→A')∧(p→B')) (h1:¬p→A'→A) (h2:p→B'→B):xcond (.bool (!decide p)) A B:=a9S (fun c=>h1 c (h.1 c)) fun c=>h2 c (h.2 c)
theorem u5{b:Bool}{A B A' B':Prop}(h:(b=true→A')∧(b=false→B'))(h1:b=true→A'→A)(h2:b=false→B'→B):xcond (.bool b) A B:=N9 (fun c=>h1 c (h.1 c)) fun c=>h2 c (h.2 c)
section
variable {P:Program}{w0 w:World}{ps:Nat→Prop}{H0 H:Hp}{Fs:List Frag}
theorem l1{t t':TypeId}{g o:Nat}{v:Value}{cs:List Value}{F:Frag}(hA:∀w,(isAgg t).run P w=.ok false w)(I:Inv w0 ps H0 H (((g,.cells cs.toArray t' (0,0))::F)::Fs) w)(hv:cs[o]? = some v):Ld P w g (xV (Instr.loadAt t (.pointer (some ⟨g,o,none⟩)))) v:=
 ld1 hA (I.at1 (vs:=[v]) (by have:=(List.getElem?_eq_some_iff.1 hv).1;simp only [List.length_singleton];omega) (by
  obtain ⟨h1,h2⟩:=List.getElem?_eq_some_iff.1 hv
  rw [←h2,List.drop_eq_getElem_cons h1];rfl))
theorem lW{t t':TypeId}{g n:Nat}{cs:List Value}{F:Frag}(hA:∀w,(isAgg t).run P w=.ok true w)(hs:∀w,(sizeOf t).run P w=.ok n w)(hn:cs.length=n)(I:Inv w0 ps H0 H (((g,.cells cs.toArray t' (0,0))::F)::Fs) w):Ld P w g (xV (Instr.loadAt t (.pointer (some ⟨g,0,none⟩)))) (.agg cs.toArray):=
 ldA hA hs hn (I.at1 (o:=0) (by simp) (by simp))
theorem Q4{t t':TypeId}{g n:Nat}{cs:List Value}{F:Frag}{K:Value→Prop}(hA:∀w,(isAgg t).run P w=.ok true w)(hs:∀w,(sizeOf t).run P w=.ok n w)(hn:cs.length=n)(I:Inv w0 ps H0 H (((g,.cells cs.toArray t' (0,0))::F)::Fs) w)(k:K (.agg cs.toArray)):xcell P t (.pointer (some ⟨g,0,none⟩)) w K:=
 b1B hA hs hn (I.at1 (o:=0) (vs:=cs) (by omega) (by simp)) k
theorem A5{E:Pan}{K:Value→World→Prop}{t t':TypeId}{g n:Nat}{v:Value}{cs:List Value}{F:Frag}(I:Inv w0 ps H0 H (((g,.cells cs.toArray t' (0,0))::F)::Fs) w)(hs:∀w,(sizeOf t).run P w=.ok n w){vs:List Value}
  (h:∀w',Inv w0 ps H0 H (((g,.cells vs.toArray t' (0,0))::F)::Fs) w'→(∀i,i≠g→w'.heap[i]? = w.heap[i]?)→K undef w') (hv:v.cells=vs.toArray:=by rfl) (hn:vs.length=n:=by rfl) (hb:cs.length=n:=by rfl) (h1:vs.all (·.oneCell')=true:=by rfl):opK P E (xU (Instr.storeAt t (.pointer (some ⟨g,0,none⟩)) v)) w K:=
 E8 I hs hv hn (by omega) h1 (by rw [List.take_zero,List.nil_append,Nat.zero_add,hn,← hb,List.drop_length,List.append_nil]) h
theorem K2{E:Pan}{K:Value→World→Prop}{t t':TypeId}{g o:Nat}{v:Value}{cs:List Value}{F:Frag}(I:Inv w0 ps H0 H (((g,.cells cs.toArray t' (0,0))::F)::Fs) w)(hs:∀w,(sizeOf t).run P w=.ok 1 w)
  (h:∀w',Inv w0 ps H0 H (((g,.cells (cs.set o v).toArray t' (0,0))::F)::Fs) w'→(∀i,i≠g→w'.heap[i]? = w.heap[i]?)→K undef w') (hv:v.cells=#[v]:=by rfl) (hb:o+1≤cs.length:=by exact nb rfl) (h1:v.oneCell'=true:=by rfl):opK P E (xU (Instr.storeAt t (.pointer (some ⟨g,o,none⟩)) v)) w K:=
 E8 I hs (vs:=[v]) hv rfl hb (by simp [h1]) (by rw [List.set_eq_take_append_cons_drop,if_pos (Nat.lt_of_succ_le hb)];simp) h
end
section
variable {P:Program}
theorem bytes_beq(a b:ByteArray):(a.toList == b.toList)=decide (a=b):=by
 rw [Bool.eq_iff_iff,beq_iff_eq,decide_eq_true_eq]
 constructor
 ·intro h
  rw [ByteArray.toList_eq,ByteArray.toList_eq] at h
  exact ByteArray.ext (Array.toList_inj.1 h)
 ·intro h;rw [h]
theorem a1F(t:TypeId)(x y:Operand)(a b:ByteArray):Pu P (xBin .eql t x y (.string a) (.string b)) (.bool (decide (a=b))):=by
 refine Pu.ok (s:=do eqGuard .eql t x y (.string a) (.string b);binOp .eql t (.string a) (.string b)) fun w=>?_
 have h1:(eqGuard .eql t x y (.string a) (.string b)).run P w=.ok () w:=rfl
 rw [Sem.run_bind,h1,Result.andThen_ok,binOp_string_eql,bytes_beq]
 rfl
theorem c9e(t:TypeId)(x y:Operand)(a b:ByteArray):Pu P (xBin .neq t x y (.string a) (.string b)) (.bool (!decide (a=b))):=by
 refine Pu.ok (s:=do eqGuard .neq t x y (.string a) (.string b);binOp .neq t (.string a) (.string b)) fun w=>?_
 have h1:(eqGuard .neq t x y (.string a) (.string b)).run P w=.ok () w:=rfl
 rw [Sem.run_bind,h1,Result.andThen_ok,binOp_string_neq,← bytes_beq]
 rfl
theorem b2h(a b:ByteArray):(a.toList=b.toList)=(a=b):=by
 have:=bytes_beq a b
 rw [Bool.eq_iff_iff,beq_iff_eq,decide_eq_true_eq] at this
 exact propext this
theorem b0e(op:BinOp)(t:TypeId)(x y:Operand)(a b:Bool)(w:World):(eqGuard op t x y (.bool a) (.bool b)).run P w=.ok () w:=by
 unfold eqGuard
 cases op<;>rfl
theorem c9f(t:TypeId)(x y:Operand)(a b:Bool)(h:P.underlying t=some .bool):Pu P (xBin .eql t x y (.bool a) (.bool b)) (.bool (a == b)):=by
 refine Pu.ok (s:=do eqGuard .eql t x y (.bool a) (.bool b);binOp .eql t (.bool a) (.bool b)) fun w=>?_
 rw [Sem.run_bind,b0e,Result.andThen_ok]
 exact run_eql_bool (P:=P) (w:=w) t a b h
theorem c9g(t:TypeId)(x y:Operand)(a b:Bool)(h:P.underlying t=some .bool):Pu P (xBin .neq t x y (.bool a) (.bool b)) (.bool (a != b)):=by
 refine Pu.ok (s:=do eqGuard .neq t x y (.bool a) (.bool b);binOp .neq t (.bool a) (.bool b)) fun w=>?_
 rw [Sem.run_bind,b0e,Result.andThen_ok]
 exact run_neq_bool (P:=P) (w:=w) t a b h
theorem b5F(op:BinOp)(t:TypeId)(x y:Operand)(a b:Option Addr)(w:World):(eqGuard op t x y (.pointer a) (.pointer b)).run P w=.ok () w:=by
 unfold eqGuard
 cases op<;>rfl
theorem b8i(t:TypeId){e:TypeId}(x y:Operand)(a:Option Addr)(h:P.underlying t=some (.pointer e)):Pu P (xBin .eql t x y (.pointer a) (.pointer none)) (.bool a.isNone):=by
 refine Pu.ok (s:=do eqGuard .eql t x y (.pointer a) (.pointer none);binOp .eql t (.pointer a) (.pointer none)) fun w=>?_
 rw [Sem.run_bind,b5F,Result.andThen_ok]
 exact run_eql_pointer_nil (P:=P) w t a (by rw [show P.pointee t=e by simp [Program.pointee,h]];exact h)
def bandI(k:IntKind)(a b:Int):Int:=k.wrap (BitVec.ofInt k.bits a &&& BitVec.ofInt k.bits b).toNat
section
variable (t:TypeId)(x y:Operand)(k:IntKind)(a b:Int)
theorem b6E:Pu P (xBin .and t x y (.int k a) (.int k b)) (.int k (bandI k a b)):=by
 rw [a0K];exact Pu.ok fun w=>by simp [binOp,Op.intBits,bandI]
theorem c9h(h:b≠0):Pu P (xBin .quo t x y (.int k a) (.int k b)) (.int k (k.wrap (Int.tdiv a b))):=by
 rw [a0K];exact Pu.ok fun w=>by simp [binOp,Op.intDiv,h]
theorem c9i(h:b≠0):Pu P (xBin .rem t x y (.int k a) (.int k b)) (.int k (Int.tmod a b)):=by
 rw [a0K];exact Pu.ok fun w=>by simp [binOp,Op.intDiv,h]
theorem b3u(k':IntKind)(n:Nat)(hn:(0:Int)≤n)(h:n≤k.bits):Pu P (xBin .shr t x y (.int k a) (.int k' (n:Int))) (.int k (Int.fdiv a (2 ^ n))):=by
 rw [a0K]
 refine Pu.ok fun w=>?_
 have h0:¬((n:Int) < 0):=by omega
 simp [binOp,Op.shift,Nat.min_eq_left h,h0]
end
end
theorem c1k{b1 b2:Bool}(h:(b1&&b2)=true):b1=true∧b2=true:=by
 cases b1<;>cases b2<;>first | exact ⟨rfl,rfl⟩ | cases h
theorem b6F(b1 b2:Bool)(s:Sem Next):gsem (asB (gv b1 true (.bool b2))) true s=gsem (asB (.bool (b1&&b2))) true s:=by
 cases b1<;>cases b2<;>rfl
theorem d2D{b1 b2:Bool}(h:(b1 && !b2)=true):b1=true∧b2=false:=by
 cases b1<;>cases b2<;>first | exact ⟨rfl,rfl⟩ | cases h
theorem c7j(b1 b2:Bool)(s:Sem Next):gsem (asB (gv b1 true (.bool b2))) false s=gsem (asB (.bool (b1 && !b2))) true s:=by
 cases b1<;>cases b2<;>rfl
theorem a4M{b1 b2:Bool}(h:(!b1&&b2)=true):b1=false∧b2=true:=by
 cases b1<;>cases b2<;>first | exact ⟨rfl,rfl⟩ | cases h
theorem a1o(b1 b2:Bool)(s:Sem Next):gsem (asB (gv b1 false (.bool b2))) true s=gsem (asB (.bool (!b1&&b2))) true s:=by
 cases b1<;>cases b2<;>rfl
theorem c9j{b1 b2:Bool}{v:Value}(h:b1=true):gv (b1&&b2) true v=gv b2 true v:=by
 subst h
 cases b2<;>rfl
theorem c9k{b1 b2:Bool}{v:Value}(h:b1=true):gv (b1 && !b2) true v=gv b2 false v:=by
 subst h
 cases b2<;>rfl
theorem b5G{b1 b2:Bool}{v:Value}(h:b1=false):gv (!b1&&b2) true v=gv b2 true v:=by
 subst h
 cases b2<;>rfl
theorem b4f(b w:Bool)(v:Value):gv b w (gv b w v)=gv b w v:=by
 cases b<;>cases w<;>rfl
theorem c9l(b1 b2:Bool)(v:Value):gval (asB (gv b1 true (.bool b2))) false v=gv (b1 && !b2) true v:=by
 cases b1<;>cases b2<;>rfl
theorem c2B(b1 b2:Bool)(v:Value):gval (asB (gv b1 false (.bool b2))) true v=gv (!b1&&b2) true v:=by
 cases b1<;>cases b2<;>rfl
theorem d3y{P:Program}{w:World}{g g':Option Nat}{s s':Sem Next}{K:Value→Prop}(e:s=s')(eg:g=g')(h:qL P w g' s' K):qL P w g s K:=by rw [e,eg];exact h
theorem Pu.e{P:Program}{s s':Sem Next}{v:Value}(e:s=s')(h:Pu P s' v):Pu P s v:=by rw [e];exact h
theorem Ld.e{P:Program}{w:World}{g:Nat}{s s':Sem Next}{v:Value}(e:s=s')(h:Ld P w g s' v):Ld P w g s v:=by rw [e];exact h
theorem a0E{P:Program}{E:Pan}{w:World}{K:Value→World→Prop}{s s':Sem Next}(e:s=s')(h:opK P E s' w K):opK P E s w K:=by rw [e];exact h
def TG{α:Type}(q:Prop)(call:(α→Hp→Prop)→Prop)(d:α)(H:Hp)(K:α→Hp→Prop):Prop:=(q→call K)∧(¬q→K d H)
theorem b5H{P:Program}{E:Pan}{w:World}{K:Value→World→Prop}{b want:Bool}{s:Sem Next}{D:Value→World→Prop}(h1:b=want→opK P E s w D)(h2:¬b=want→D undef w)(h3:∀v w2,D v w2→K v w2):opK P E (gsem (asB (.bool b)) want s) w K:=by
 refine a5I (fun hb=>?_) fun hb=>h3 _ _ (h2 hb)
 have h:=h1 hb
 unfold opK at h ⊢
 split at h
 ·exact h3 _ _ h
 ·exact h3 _ _ h
 ·exact Cv.mono h h3 fun _ _ h=>h
 ·exact h
 ·exact h.elim
theorem V9{α:Type}{P:Program}{E:Pan}{w0 w:World}{ps:Nat→Prop}{H0 H:Hp}{enc:α→Value}{Kr:α→Hp→Prop}{f:FuncId}{args:List Value}{Fi Fr:List Frag}(he:∀args w,(callFunc f args).run P w=.ok (.enter f args) w)(hc:Ct P f args H Fi (fun v H' Fo=>∃a,v=enc a∧Fo=Fi∧Kr a H') noQE)(I:Inv w0 ps H0 H (Fi++Fr) w):
  opK P E (xCall (.func (.func f) #[] #[]) args) w fun v w'=>∃a H',v=enc a∧Inv w0 ps H0 H' (Fi++Fr) w'∧(∀i,i < w.heap.size→¬inF Fi i→w'.heap[i]? = w.heap[i]?)∧Hle H H'∧Kr a H':=
 f9 he hc I fun _ H' _ w' J l k ⟨a,hv,hf,q⟩=>⟨a,H',hv,hf ▸ J,k,l,q⟩
theorem V4{α:Type}{P:Program}{E:Pan}{w0 w:World}{ps:Nat→Prop}{H0 H:Hp}{Fs:List Frag}{K:Value→World→Prop}{b want:Bool}{s:Sem Next}{C:(α→Hp→Prop)→Prop}{d:α}{Kr:α→Hp→Prop}(Fi:List Frag)(enc:α→Value)(h:TG (b=want) C d H Kr)(I:Inv w0 ps H0 H Fs w)
  (hc:b=want→C Kr→opK P E s w fun v w'=>∃a H',v=enc a∧Inv w0 ps H0 H' Fs w'∧(∀i,i < w.heap.size→¬inF Fi i→w'.heap[i]? = w.heap[i]?)∧Hle H H'∧Kr a H')
  (hk:∀a H' w',Inv w0 ps H0 H' Fs w'→(∀i,i < w.heap.size→¬inF Fi i→w'.heap[i]? = w.heap[i]?)→Hle H H'→Kr a H'→K (gv b want (enc a)) w'):opK P E (gsem (asB (.bool b)) want s) w K:=by
 refine b5H (D:=fun v w'=>∃a H',v=gv b want (enc a)∧Inv w0 ps H0 H' Fs w'∧(∀i,i < w.heap.size→¬inF Fi i→w'.heap[i]? = w.heap[i]?)∧Hle H H'∧Kr a H') (fun c=>?_) (fun c=>?_) ?_
 ·simp only [j8 c];exact hc c (h.1 c)
 ·exact ⟨d,H,by rw [b6D c],I,fun _ _ _=>rfl,Hle.refl _,h.2 c⟩
 ·rintro v w' ⟨a,H',rfl,J,k,l,q⟩;exact hk a H' w' J k l q
theorem b7P{H:Hp}{s:Sl}{i:Int}{sz:Nat}{vs:List Value}{q A B:Prop}(h:q→A∧B∧EltH H s i sz vs):∃g o,q→A∧B∧s.a=some ⟨g,o,none⟩∧AtH H g (o+i.toNat*sz) vs:=by
 by_cases hq:q
 ·obtain ⟨a,b,g,o,h1,h2⟩:=h hq
  exact ⟨g,o,fun _=>⟨a,b,h1,h2⟩⟩
 ·exact ⟨0,0,fun h=>(hq h).elim⟩
section
variable {w0 w:World}{ps:Nat→Prop}{H0 H:Hp}{Fs:List Frag}
theorem Inv.c9m{g g' o':Nat}{o:Obj}{F:Frag}{vs:List Value}(I:Inv w0 ps H0 H (((g,o)::F)::Fs) w)(h:AtH H g' o' vs):g'≠g:=fun e=>by
 subst e
 exact I.c0i h ⟨(g',o),List.mem_cons_self ..,rfl⟩
theorem Inv.b0f{g g':Nat}{o o':Obj}{F F':Frag}(I:Inv w0 ps H0 H (((g,o)::F)::((g',o')::F')::Fs) w):g'≠g:=fun e=>by
 subst e
 have:=I.nodup
 rw [show ((((g',o)::F)::((g',o')::F')::Fs).flatten.map (·.1))=g'::((F++(g',o')::(F'++Fs.flatten)).map (·.1)) from rfl,List.nodup_cons] at this
 exact this.1 (List.mem_map.2 ⟨(g',o'),List.mem_append_right _ (List.mem_cons_self ..),rfl⟩)
theorem Inv.E1{Fi Fr:List Frag}{g:Nat}{o:Obj}{F:Frag}(I:Inv w0 ps H0 H (Fi++(((g,o)::F)::Fr)) w):¬inF Fi g:=by
 rintro ⟨p,hp,e⟩
 have nd:=I.nodup
 rw [List.flatten_append,List.map_append] at nd
 obtain ⟨_,_,n3⟩:=List.nodup_append.1 nd
 exact n3 p.1 (List.mem_map.2 ⟨p,hp,rfl⟩) g (List.mem_map.2 ⟨(g,o),List.mem_cons_self ..,rfl⟩) e
theorem Inv.start(w:World):Inv w (fun _=>False) (fun i=>w.heap[i]?) (fun i=>w.heap[i]?) [] w:=
 ⟨fun _ _ h=>h,fun _ h=>(by cases h),fun _ h=>(by cases h),.nil,fun _ h=>(by cases h),fun _ _ _=>rfl,Nat.le_refl _,rfl,rfl,rfl,Hle.refl _,fun _ _ _=>rfl⟩
end
section
variable {P:Program}{t:TypeId}(s:ByteArray){k k':IntKind}
end
class PanQ where
 q:Value→Prop
section
variable  [PanQ] {P:Program} {E:Pan} {w0 w:World} {ps:Nat→Prop} {H0 H:Hp} {K:Value→World→Prop}
end
theorem c2C{P:Program}{E:Pan}{w:World}{K:Value→World→Prop}{t:TypeId}{v:Value}(h:E [{ v:=.iface t v,recovered:=false }] w):opK P E (xV (Instr.panic (.iface t v))) w K:=h
end Go.Proofs.YthaaobpfbgcfiaaGreatDoor
