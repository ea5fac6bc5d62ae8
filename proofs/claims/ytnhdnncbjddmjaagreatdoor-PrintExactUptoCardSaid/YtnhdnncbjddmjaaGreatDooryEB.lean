/- Small laws of numbers and lists, and of formulas' parts. No program in sight. -/
import Derived.Test.YtnhdnncbjddmjaaGreatDooryES4
namespace Go.Proofs.YtnhdnncbjddmjaaGreatDoor
open Go.RowKit
def a7J(a:Int):Prop:=-9223372036854775808≤a∧a≤9223372036854775807
instance (a:Int):Decidable (a7J a):=by unfold a7J;infer_instance
theorem F0{a:Int}(h:a7J a):IntKind.wrap .i64 a=a:=by rw [IntKind.wrap_i64];unfold a7J at h;omega
theorem u5{i:Int}(h0:0≤i)(h1:i≤1099511627776):IntKind.wrap .i64 (i+1)=i+1:=F0 ⟨by omega,by omega⟩
theorem a3N{α:Type}{q:Prop} [Decidable q] {call:(α→Hp→Prop)→Prop} {d:α} {H:Hp} {K:α→Hp→Prop} (v:α) (hc:q→∀K':α→Hp→Prop,K' v H→call K') (h:K (if q then v else d) H):TG q call d H K:=
 ⟨fun hq=>hc hq _ (by rwa [if_pos hq] at h),fun hq=>by rwa [if_neg hq] at h⟩
theorem a1I{α:Type}{l:List α}{i:Nat}{x:α}(h:l[i]? = some x):l.take (i+1)=l.take i++[x]:=by
 rw [List.take_add_one,h];rfl
theorem A0{α:Type}{l:List α}{i:Nat}(h:i < l.length):∃x,l[i]? = some x:=⟨_,List.getElem?_eq_getElem h⟩
theorem t8{α:Type}{l:List α}{i:Nat}{x:α}(h:l[i]? = some x):i < l.length:=(List.getElem?_eq_some_iff.1 h).1
theorem b0L{α:Type}{a b:List α}{i:Nat}{x:α}(h:(a++b)[i]? = some x):a[i]? = some x∨(a.length≤i∧b[i-a.length]? = some x):=by
 by_cases hi:i < a.length
 ·rw [List.getElem?_append_left hi] at h;exact .inl h
 ·rw [List.getElem?_append_right (by omega)] at h;exact .inr ⟨by omega,h⟩
def B9{α β:Type}(R:α→β→Prop)(xs:List α)(ys:List β):Prop:=xs.length=ys.length∧∀(i:Nat)(x:α)(y:β),xs[i]? = some x→ys[i]? = some y→R x y
theorem B9.mono{α β:Type}{R S:α→β→Prop}{xs:List α}{ys:List β}(h:B9 R xs ys)(f:∀x y,R x y→S x y):B9 S xs ys:=⟨h.1,fun i x y a b=>f _ _ (h.2 i x y a b)⟩
theorem B9.get{α β:Type}{R:α→β→Prop}{xs:List α}{ys:List β}(h:B9 R xs ys){i:Nat}{x:α}(hx:xs[i]? = some x):∃y,ys[i]? = some y∧R x y:=by
 obtain ⟨y,hy⟩:=A0 (l:=ys) (i:=i) (by rw [←h.1];exact t8 hx)
 exact ⟨y,hy,h.2 i x y hx hy⟩
theorem B9.nil{α β:Type}{R:α→β→Prop}:B9 R ([]:List α) ([]:List β):=⟨rfl,fun i x y h=>by simp at h⟩
theorem B9.app{α β:Type}{R:α→β→Prop}{xs xs':List α}{ys ys':List β}(h:B9 R xs ys)(h':B9 R xs' ys'):B9 R (xs++xs') (ys++ys'):=by
 refine ⟨by rw [List.length_append,List.length_append,h.1,h'.1],fun i x y hx hy=>?_⟩
 rcases b0L hx with hx | ⟨hi,hx⟩
 ·rcases b0L hy with hy | ⟨hj,hy⟩
  ·exact h.2 i x y hx hy
  ·have:=t8 hx;have:=h.1;omega
 ·rcases b0L hy with hy | ⟨hj,hy⟩
  ·have:=t8 hy;have:=h.1;omega
  ·rw [←h.1] at hy;exact h'.2 _ x y hx hy
theorem B9.one{α β:Type}{R:α→β→Prop}{x:α}{y:β}(h:R x y):B9 R [x] [y]:=⟨rfl,fun i a b ha hb=>by
 cases i with
 | zero=>simp at ha hb;subst ha;subst hb;exact h
 | succ i=>simp at ha⟩
theorem B9.map{α β γ:Type}{R:γ→β→Prop}{f:α→γ}{xs:List α}{ys:List β}(h:B9 (fun x y=>R (f x) y) xs ys):B9 R (xs.map f) ys:=by
 refine ⟨by rw [List.length_map];exact h.1,fun i x y hx hy=>?_⟩
 rw [List.getElem?_map] at hx
 cases hq:xs[i]? with
 | none=>rw [hq] at hx;cases hx
 | some a=>rw [hq] at hx;simp at hx;subst hx;exact h.2 i a y hq hy
section
variable {H:Hp}
theorem SlHH.get{α:Type}{sz:Nat}{cf:α→List Value}{s:Sl}{xss:List (List α)}(h:SlHH H sz cf s xss){i:Int}(h0:0≤i)(h1:i < s.n):
  ∃si xs,xss[i.toNat]? = some xs∧EltH H s i 1 [Value.slice si.a si.n si.c]∧SlH H sz cf si xs∧si.n≤si.c:=by
 obtain ⟨hn,ss,hss,hin⟩:=h
 obtain ⟨si,hs,hE⟩:=hss.get h0 h1
 have hlt:i.toNat < xss.length:=by omega
 exact ⟨si,xss[i.toNat],List.getElem?_eq_getElem hlt,hE,hin _ _ _ hs (List.getElem?_eq_getElem hlt)⟩
end
end Go.Proofs.YtnhdnncbjddmjaaGreatDoor
