/- Trees by their shape, off the memory. Plain. -/
import Derived.Test.YthaaobpfbgcfiaaGreatDooryWH5
import Derived.Test.YthaaobpfbgcfiaaGreatDooryWH7
namespace Go.Proofs.YthaaobpfbgcfiaaGreatDoor
open Go.RowKit
set_option maxRecDepth 100000
set_option maxHeartbeats 2000000
def eX(k num:Int)(s:ByteArray)(ts:List PT):PT:=.mk (.expr k num s ts.length) ts
def cX(k op:Int)(es cs:List PT):PT:=.mk (.cond k op es.length cs.length) (es++cs)
def sX(k:Int)(s:ByteArray)(es cs vs ws:List PT):PT:=.mk (.stmt k s es.length cs.length vs.length ws.length) (cs++(es++(vs++ws)))
theorem b6u{α:Type}{l:List α}(h:l.length=2):∃a b,l=[a,b]:=by
 match l,h with
 | [a,b],_=>exact ⟨a,b,rfl⟩
theorem a8T{α:Type}{l:List α}(h:l.length=1):∃a,l=[a]:=by
 match l,h with
 | [a],_=>exact ⟨a,rfl⟩
inductive XE:PT→Prop
 | num (n:Int):0≤n→n≤9223372036854775807→XE (eX 1 n ⟨#[]⟩ [])
 | var (s:ByteArray):XE (eX 2 0 s [])
 | inp:XE (eX 3 0 ⟨#[]⟩ [])
 | item (s:ByteArray) (e:PT):XE e→XE (eX 4 0 s [e])
 | neg (e:PT):XE e→XE (eX 5 0 ⟨#[]⟩ [e])
 | bin (k:Int) (a b:PT):(k=6∨k=7∨k=8∨k=9∨k=10)→XE a→XE b→XE (eX k 0 ⟨#[]⟩ [a,b])
inductive XC:PT→Prop
 | tru:XC (cX 1 0 [] [])
 | fls:XC (cX 2 0 [] [])
 | cmp (op:Int) (a b:PT):1≤op→op≤6→XE a→XE b→XC (cX 3 op [a,b] [])
 | not (c:PT):XC c→XC (cX 4 0 [] [c])
 | bin (k:Int) (a b:PT):(k=5∨k=6)→XC a→XC b→XC (cX k 0 [] [a,b])
inductive XS:PT→Prop
 | asg (s:ByteArray) (e:PT):XE e→XS (sX 1 s [e] [] [] [])
 | sto (s:ByteArray) (i e:PT):XE i→XE e→XS (sX 2 s [i,e] [] [] [])
 | iff (c:PT) (th el:List PT):XC c→(∀t∈th,XS t)→(∀t∈el,XS t)→XS (sX 3 ⟨#[]⟩ [] [c] th el)
 | whl (c:PT) (th:List PT):XC c→(∀t∈th,XS t)→XS (sX 4 ⟨#[]⟩ [] [c] th [])
 | asr (c:PT):XC c→XS (sX 5 ⟨#[]⟩ [] [c] [] [])
 | asm (c:PT):XC c→XS (sX 6 ⟨#[]⟩ [] [c] [] [])
 | skp:XS (sX 7 ⟨#[]⟩ [] [] [] [])
theorem c5v{k n a:Int}{s:ByteArray}(h:formE k n s a=true):(k≠1→n=0)∧(¬(k=2∨k=4)→s=⟨#[]⟩)∧((k=1∧0≤n∧a=0)∨(k=2∧a=0)∨(k=3∧a=0)∨(k=4∧a=1)∨(k=5∧a=1)∨((k=6∨k=7∨k=8∨k=9∨k=10)∧a=2)):=by
 unfold formE at h
 split at h
 ·cases h
 rename_i c
 simp only [Bool.or_eq_true,Bool.and_eq_true,Bool.not_eq_true',decide_eq_false_iff_not,not_or,not_and,Bool.or_eq_false_iff,Classical.not_not] at c
 refine ⟨fun q=>c.1 q,fun q=>c.2 ⟨fun e=>q (.inl e),fun e=>q (.inr e)⟩,?_⟩
 (repeat' split at h)<;>first | (cases h;done) | (simp only [Bool.and_eq_true,decide_eq_true_eq] at h;omega)
theorem c5w{k op e p:Int}(h:formC k op e p=true):((k=1∨k=2)∧op=0∧e=0∧p=0)∨(k=3∧1≤op∧op≤6∧e=2∧p=0)∨(k=4∧op=0∧e=0∧p=1)∨((k=5∨k=6)∧op=0∧e=0∧p=2):=by
 unfold formC at h
 (repeat' split at h)<;>first | (cases h;done) | (simp only [Bool.and_eq_true,decide_eq_true_eq] at h;omega)
theorem c5x{k:Int}{s:ByteArray}{e c t f:Nat}(h:formS k s e c t f=true):((k=1∧e=1∧c=0∨k=2∧e=2∧c=0)∧t=0∧f=0)∨(s=⟨#[]⟩∧(k=3∧e=0∧c=1∨k=4∧e=0∧c=1∧f=0∨(k=5∨k=6)∧e=0∧c=1∧t=0∧f=0∨k=7∧e=0∧c=0∧t=0∧f=0)):=by
 unfold formS at h
 split at h
 ·simp only [Bool.and_eq_true,Bool.not_eq_true',decide_eq_false_iff_not,decide_eq_true_eq] at h;exact .inl (by omega)
 split at h
 ·simp only [Bool.and_eq_true,Bool.not_eq_true',decide_eq_false_iff_not,decide_eq_true_eq] at h;exact .inl (by omega)
 split at h
 ·simp only [Bool.and_eq_true,decide_eq_true_eq] at h;exact .inr ⟨h.1,by omega⟩
 split at h
 ·simp only [Bool.and_eq_true,decide_eq_true_eq] at h;exact .inr ⟨h.1.1,by omega⟩
 split at h
 ·simp only [Bool.and_eq_true,Bool.not_eq_true',decide_eq_false_iff_not,decide_eq_true_eq] at h;exact .inr ⟨h.1.1,by omega⟩
 split at h
 ·simp only [Bool.and_eq_true,Bool.not_eq_true',decide_eq_false_iff_not,decide_eq_true_eq] at h;exact .inr ⟨h.1.1,by omega⟩
 ·cases h
section
variable {H:Hp}
theorem shE{e:q8}{t:PT}(he:EH H e t):formT t=true→Sm t→XE t:=by
 induction he with
 | @mk e xs ts hs hb hl hc ih=>
  intro hf hS
  cases hS with | mk hsm hss=>
  rw [formT,Bool.and_eq_true] at hf
  obtain ⟨hf,hfs⟩:=hf
  obtain ⟨z1,z2,hfc⟩:=c5v (show formE e.b8 e.s8 e.f8 (ts.length:Int)=true from hf)
  have hnum:e.s8≤9223372036854775807:=hsm.2.2
  have kid:∀(i:Nat)(t:PT),ts[i]? = some t→formT t=true→XE t:=fun i t ht hft=>by
   obtain ⟨v,hv⟩:=y7 (l:=xs) (i:=i) (by have:=C3 ht;omega)
   exact ih i v t hv ht hft (hss t (List.mem_of_getElem? ht))
  show XE (eX e.b8 e.s8 e.f8 ts)
  generalize e.b8=k at *
  generalize e.s8=n at *
  generalize e.f8=s at *
  rcases hfc with ⟨rfl,q,a⟩ | ⟨rfl,a⟩ | ⟨rfl,a⟩ | ⟨rfl,a⟩ | ⟨rfl,a⟩ | ⟨hk,a⟩
  ·obtain rfl:ts=[]:=List.length_eq_zero_iff.1 (by omega)
   rw [z2 (by decide)];exact .num n q hnum
  ·obtain rfl:ts=[]:=List.length_eq_zero_iff.1 (by omega)
   rw [z1 (by decide)];exact .var s
  ·obtain rfl:ts=[]:=List.length_eq_zero_iff.1 (by omega)
   rw [z1 (by decide),z2 (by decide)];exact .inp
  ·obtain ⟨t1,rfl⟩:=a8T (l:=ts) (by omega)
   rw [formTs,Bool.and_eq_true] at hfs
   rw [z1 (by decide)];exact .item s t1 (kid 0 t1 rfl hfs.1)
  ·obtain ⟨t1,rfl⟩:=a8T (l:=ts) (by omega)
   rw [formTs,Bool.and_eq_true] at hfs
   rw [z1 (by decide),z2 (by decide)];exact .neg t1 (kid 0 t1 rfl hfs.1)
  ·obtain ⟨t1,t2,rfl⟩:=b6u (l:=ts) (by omega)
   rw [formTs,formTs,Bool.and_eq_true,Bool.and_eq_true] at hfs
   rw [z1 (by omega),z2 (by omega)];exact .bin k t1 t2 hk (kid 0 t1 rfl hfs.1) (kid 1 t2 rfl hfs.2.1)
theorem shC{e:y9}{t:PT}(he:CH H e t):formT t=true→Sm t→XC t:=by
 induction he with
 | @mk e xs ts ys us hs hb hr hsy hby hl hc ih=>
  intro hf hS
  cases hS with | mk hsm hss=>
  rw [formT,Bool.and_eq_true] at hf
  obtain ⟨hf,hfs⟩:=hf
  have hfc:=c5w (show formC e.b8 e.fOp (ts.length:Int) (us.length:Int)=true from hf)
  have kid:∀(i:Nat)(t:PT),us[i]? = some t→t∈ts++us→formT t=true→XC t:=fun i t ht hm hft=>by
   obtain ⟨v,hv⟩:=y7 (l:=ys) (i:=i) (by have:=C3 ht;omega)
   exact ih i v t hv ht hft (hss t hm)
  have kidE:∀(i:Nat)(t:PT),ts[i]? = some t→t∈ts++us→formT t=true→XE t:=fun i t ht hm hft=>by
   obtain ⟨v,hv⟩:=y7 (l:=xs) (i:=i) (by have:=C3 ht;have:=hr.1;omega)
   exact shE (hr.2 i v t hv ht) hft (hss t hm)
  show XC (cX e.b8 e.fOp ts us)
  generalize e.b8=k at *
  generalize e.fOp=op at *
  rcases hfc with ⟨hk,rfl,a,b⟩ | ⟨rfl,o1,o2,a,b⟩ | ⟨rfl,rfl,a,b⟩ | ⟨hk,rfl,a,b⟩
  ·obtain rfl:ts=[]:=List.length_eq_zero_iff.1 (by omega)
   obtain rfl:us=[]:=List.length_eq_zero_iff.1 (by omega)
   rcases hk with rfl | rfl
   ·exact .tru
   ·exact .fls
  ·obtain ⟨t1,t2,rfl⟩:=b6u (l:=ts) (by omega)
   obtain rfl:us=[]:=List.length_eq_zero_iff.1 (by omega)
   rw [List.append_nil,formTs,formTs,Bool.and_eq_true,Bool.and_eq_true] at hfs
   exact .cmp op t1 t2 o1 o2 (kidE 0 t1 rfl (by simp) hfs.1) (kidE 1 t2 rfl (by simp) hfs.2.1)
  ·obtain rfl:ts=[]:=List.length_eq_zero_iff.1 (by omega)
   obtain ⟨t1,rfl⟩:=a8T (l:=us) (by omega)
   rw [List.nil_append,formTs,Bool.and_eq_true] at hfs
   exact .not t1 (kid 0 t1 rfl (by simp) hfs.1)
  ·obtain rfl:ts=[]:=List.length_eq_zero_iff.1 (by omega)
   obtain ⟨t1,t2,rfl⟩:=b6u (l:=us) (by omega)
   rw [List.nil_append,formTs,formTs,Bool.and_eq_true,Bool.and_eq_true] at hfs
   exact .bin k t1 t2 hk (kid 0 t1 rfl (by simp) hfs.1) (kid 1 t2 rfl (by simp) hfs.2.1)
theorem b6v:∀{ts:List PT}{i:Nat}{t:PT},formTs ts=true→ts[i]? = some t→formT t=true
 | [],i,t,_,h=>by simp at h
 | u::ts,i,t,hf,h=>by
  rw [formTs,Bool.and_eq_true] at hf
  cases i with
  | zero=>simp only [List.getElem?_cons_zero,Option.some.injEq] at h;rw [←h];exact hf.1
  | succ i=>exact b6v hf.2 (by simpa using h)
theorem shS{s:B4}{t:PT}(he:SH H s t):formT t=true→Sm t→XS t:=by
 induction he with
 | @mk s xs ts ys us zs bs va wa hs hb hr hsy hby hry hz hzb hzl _ hB hBb hBl _ ih1 ih2=>
  intro hf hS
  cases hS with | mk hsm hss=>
  rw [formT,Bool.and_eq_true] at hf
  obtain ⟨hf,hfs⟩:=hf
  have hfc:=c5x (show formS s.b8 s.f8 ts.length us.length va.length wa.length=true from hf)
  rw [a4l,a4l,a4l,Bool.and_eq_true,Bool.and_eq_true,Bool.and_eq_true] at hfs
  have kidE:∀(i:Nat)(t:PT),ts[i]? = some t→XE t:=fun i t ht=>by
   obtain ⟨v,hv⟩:=y7 (l:=xs) (i:=i) (by have:=C3 ht;have:=hr.1;omega)
   exact shE (hr.2 i v t hv ht) (b6v hfs.2.1 ht) (hss t (by simp [List.mem_of_getElem? ht]))
  have kidC:∀(i:Nat)(t:PT),us[i]? = some t→XC t:=fun i t ht=>by
   obtain ⟨v,hv⟩:=y7 (l:=ys) (i:=i) (by have:=C3 ht;have:=hry.1;omega)
   exact shC (hry.2 i v t hv ht) (b6v hfs.1 ht) (hss t (by simp [List.mem_of_getElem? ht]))
  have kV:∀t∈va,XS t:=fun t ht=>by
   obtain ⟨i,hi⟩:=List.mem_iff_getElem?.1 ht
   obtain ⟨v,hv⟩:=y7 (l:=zs) (i:=i) (by have:=C3 hi;omega)
   exact ih1 i v t hv hi (b6v hfs.2.2.1 hi) (hss t (by simp [ht]))
  have kW:∀t∈wa,XS t:=fun t ht=>by
   obtain ⟨i,hi⟩:=List.mem_iff_getElem?.1 ht
   obtain ⟨v,hv⟩:=y7 (l:=bs) (i:=i) (by have:=C3 hi;omega)
   exact ih2 i v t hv hi (b6v hfs.2.2.2 hi) (hss t (by simp [ht]))
  show XS (sX s.b8 s.f8 ts us va wa)
  generalize s.b8=k at *
  generalize s.f8=nm at *
  have z:∀{l:List PT},l.length=0→l=[]:=fun h=>List.length_eq_zero_iff.1 h
  rcases hfc with ⟨⟨rfl,a,b⟩ | ⟨rfl,a,b⟩,c,d⟩ | ⟨rfl,⟨rfl,a,b⟩ | ⟨rfl,a,b,c⟩ | ⟨rfl | rfl,a,b,c,d⟩ | ⟨rfl,a,b,c,d⟩⟩
  ·obtain ⟨t1,rfl⟩:=a8T a
   obtain rfl:=z b;obtain rfl:=z c;obtain rfl:=z d
   exact .asg nm t1 (kidE 0 t1 rfl)
  ·obtain ⟨t1,t2,rfl⟩:=b6u a
   obtain rfl:=z b;obtain rfl:=z c;obtain rfl:=z d
   exact .sto nm t1 t2 (kidE 0 t1 rfl) (kidE 1 t2 rfl)
  ·obtain ⟨t1,rfl⟩:=a8T b
   obtain rfl:=z a
   exact .iff t1 va wa (kidC 0 t1 rfl) kV kW
  ·obtain ⟨t1,rfl⟩:=a8T b
   obtain rfl:=z a;obtain rfl:=z c
   exact .whl t1 va (kidC 0 t1 rfl) kV
  ·obtain ⟨t1,rfl⟩:=a8T b
   obtain rfl:=z a;obtain rfl:=z c;obtain rfl:=z d
   exact .asr t1 (kidC 0 t1 rfl)
  ·obtain ⟨t1,rfl⟩:=a8T b
   obtain rfl:=z a;obtain rfl:=z c;obtain rfl:=z d
   exact .asm t1 (kidC 0 t1 rfl)
  ·obtain rfl:=z a;obtain rfl:=z b;obtain rfl:=z c;obtain rfl:=z d
   exact .skp
end
end Go.Proofs.YthaaobpfbgcfiaaGreatDoor
