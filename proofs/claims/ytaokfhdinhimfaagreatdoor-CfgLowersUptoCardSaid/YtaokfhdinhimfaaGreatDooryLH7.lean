/- Graphs: which are ones, the edges from each point; the program and the document say the same. Contracts off the printed formulas. -/
import Derived.Test.YtaokfhdinhimfaaGreatDooryLH2
namespace Go.Proofs.YtaokfhdinhimfaaGreatDoor
open Go.RowKit
set_option maxRecDepth 100000
set_option maxHeartbeats 2000000
theorem getElem?_set_ne'{α:Type}{l:List α}{i j:Nat}{x:α}(h:i≠j):(l.set i x)[j]? = l[j]?:=List.getElem?_set_ne h
section
variable {H:Hp}{op a b:Int}
def notG(op:Int):Int:=if op=1 then 6 else if op=2 then 5 else if op=3 then 4 else if op=4 then 3 else if op=5 then 2 else if op=6 then 1 else 0
theorem c8W{K:Int→Hp→Prop}(h:K (notG op) H):a5G op H K:=by
 refine b2h _ ?_
 unfold a5O
 unfold notG at h
 refine ⟨fun h1=>?_,fun h1=>⟨fun h2=>?_,fun h2=>⟨fun h3=>?_,fun h3=>⟨fun h4=>?_,fun h4=>⟨fun h5=>?_,fun h5=>⟨fun h6=>?_,fun h6=>?_⟩⟩⟩⟩⟩⟩<;>simpa [*] using h
end
section
variable {H:Hp}
theorem c2f{K:m4→Hp→Prop}(h:K ⟨-1,0⟩ H):a2g H K:=b1B (by unfold a5v;exact h)
end
structure GH (H:Hp) (c:m3) (vs:List ByteArray) (ds:List i7) (es:List c7):Prop where
 v:SlH H 1 v2 c.p7 vs
 a:SlH H 2 i5 c.o9 ds
 e:SlH H 10 i6 c.R3 es
 bv:vs.length≤1099511627776
 ba:ds.length≤1099511627776
 be:es.length≤1099511627776
 bt:b0p c.q9
theorem GH.le{H H':Hp}{c:m3}{vs:List ByteArray}{ds:List i7}{es:List c7}(G:GH H c vs ds es)(l:Hle H H'):GH H' c vs ds es:=⟨G.v.le l,G.a.le l,G.e.le l,G.bv,G.ba,G.be,G.bt⟩
def idxS(p:Int):Int→List c7→List Int
 | _,[]=>[]
 | k,e::l=>if e.O0=p then k::idxS p (k+1) l else idxS p (k+1) l
section
variable {H:Hp}{c:m3}{vs:List ByteArray}{ds:List i7}{es:List c7}
def RowsAt{β:Type}(P:Int)(f:Int→List β)(xss:List (List β)):Prop:=(xss.length:Int)=P∧∀p:Nat,(p:Int) < P→xss[p]? = some (f p)
theorem RowsAt.start{β:Type}{P:Int}(h0:0≤P){f:Int→List β}(hf:∀p,f p=[]):RowsAt P f (List.replicate P.toNat ([]:List β)):=by
 refine ⟨by rw [List.length_replicate];omega,fun p hp=>?_⟩
 rw [List.getElem?_replicate,if_pos (by omega),hf]
theorem RowsAt.put{β:Type}{P:Int}{f g:Int→List β}{xss:List (List β)}(h:RowsAt P f xss){q:Int}(h0:0≤q)(hq:q < P){x:β}(hg:∀p,g p=f p++(if q=p then [x] else [])):
  ∃xs,xss[q.toNat]? = some xs∧xs=f q∧RowsAt P g (xss.set q.toNat (xs++[x])):=by
 refine ⟨f q,by rw [h.2 q.toNat (by omega),Int.toNat_of_nonneg h0],rfl,by rw [List.length_set];exact h.1,fun p hp=>?_⟩
 rw [hg]
 by_cases e:q.toNat=p
 ·subst e
  rw [List.getElem?_set_self (by have:=h.1;omega),if_pos (by omega),Int.toNat_of_nonneg h0]
 ·rw [getElem?_set_ne' e,h.2 p hp,if_neg (by omega),List.append_nil]
end
section
variable {H:Hp}{c:m3}{vs:List ByteArray}{ds:List i7}{es:List c7}
structure FromH (H:Hp) (P:Int) (es:List c7) (s:Sl):Prop where
 n:(s.n:Int)=P
 row:∀p:Int,0≤p→p < P→∃si:Sl,EltH H s p 1 [Value.slice si.a si.n si.c]∧SlH H 1 a4n si (idxS p 0 es)
theorem FromH.le{H':Hp}{P:Int}{s:Sl}(F:FromH H P es s)(l:Hle H H'):FromH H' P es s:=⟨F.n,fun p h0 h1=>by
 obtain ⟨si,a,b⟩:=F.row p h0 h1
 exact ⟨si,a.le l,b.le l⟩⟩
theorem FromH.of{P:Int}{s:Sl}{xss:List (List Int)}(hr:RowsAt P (fun p=>idxS p 0 es) xss)(hs:SlHH H 1 a4n s xss):FromH H P es s:=by
 obtain ⟨sn,ss,hss,hin⟩:=hs
 refine ⟨by have:=hr.1;omega,fun p h0 h1=>?_⟩
 obtain ⟨x,hx,hE⟩:=hss.get h0 (show p < (s.n:Int) by have:=hr.1;omega)
 have:=(hin p.toNat x _ hx (hr.2 p.toNat (by omega))).1
 rw [Int.toNat_of_nonneg h0] at this
 exact ⟨x,hE,this⟩
end
end Go.Proofs.YtaokfhdinhimfaaGreatDoor
