/- Printing: the text of a tree, in plain words; a writer that stops where a text is too long. No program in sight. -/
import Derived.Test.YtnhdnncbjddmjaaGreatDooryEQ1
namespace Go.Proofs.YtnhdnncbjddmjaaGreatDoor
open Go.RowKit
set_option maxRecDepth 100000
set_option maxHeartbeats 1000000
abbrev BL:=List UInt8
def lim:Nat:=65536
def Wt(B:Nat)(xs t ys:BL):Prop:=if xs.length+t.length≤lim then ys=xs++t else lim < ys.length∧ys.length≤B
theorem Wt.bound{B:Nat}{xs t ys:BL}(hB:lim≤B)(h:Wt B xs t ys):ys.length≤B:=by
 unfold Wt at h
 split at h
 ·rw [h,List.length_append];omega
 ·exact h.2
theorem Wt.nil{B:Nat}{xs:BL}(h:xs.length≤B):Wt B xs [] xs:=by
 unfold Wt
 split
 ·rw [List.append_nil]
 ·rename_i c
  rw [List.length_nil,Nat.add_zero] at c
  exact ⟨by omega,h⟩
theorem Wt.trans{B:Nat}{xs t ys u zs:BL}(h:Wt B xs t ys)(k:Wt B ys u zs):Wt B xs (t++u) zs:=by
 unfold Wt at h k ⊢
 rw [List.length_append]
 by_cases c:xs.length+t.length≤lim
 ·rw [if_pos c] at h
  subst h
  rw [List.length_append] at k
  by_cases c2:xs.length+t.length+u.length≤lim
  ·rw [if_pos c2] at k
   rw [if_pos (by omega),k,List.append_assoc]
  ·rw [if_neg c2] at k
   rw [if_neg (by omega)]
   exact k
 ·rw [if_neg c] at h
  rw [if_neg (by omega)] at k
  rw [if_neg (by omega)]
  exact k
def putW(xs s:BL):BL:=if lim < xs.length then xs else xs++s
theorem Wt.put{B:Nat}{xs s:BL}(h:xs.length≤B)(hs:lim+s.length≤B):Wt B xs s (putW xs s):=by
 unfold Wt putW
 by_cases c:lim < xs.length
 ·rw [if_pos c,if_neg (by omega)]
  exact ⟨c,h⟩
 ·rw [if_neg c]
  split
  ·rfl
  ·rw [List.length_append]
   exact ⟨by omega,by omega⟩
theorem Wt.full{B:Nat}{xs t:BL}(h:lim < xs.length)(hB:xs.length≤B):Wt B xs t xs:=by
 unfold Wt
 rw [if_neg (by omega)]
 exact ⟨h,hB⟩
def kindL:Lab→Int
 | .decl ..=>0
 | .stmt k ..=>k
 | .cond k ..=>k
 | .expr k ..=>k
def kindT:PT→Int
 | .mk l _=>kindL l
def lvE(k:Int):Int:=if k=6∨k=7 then 1 else if k=8∨k=9∨k=10 then 2 else if k=5 then 3 else 4
def lvC(k:Int):Int:=if k=6 then 1 else if k=5 then 2 else 3
def par(b:Bool)(o c:UInt8)(t:BL):BL:=if b=true then [o]++t++[c] else t
def sgnE(k:Int):BL:=if k=6 then [43] else if k=7 then [45] else if k=8 then [42] else if k=9 then [47] else [37]
def sgnC(op:Int):BL:=if op=1 then [60] else if op=2 then [60,61] else if op=3 then [61,61] else if op=4 then [33,61] else if op=5 then [62] else [62,61]
section
variable (dec:Int→BL)
def labT:Lab→List Int→List BL→BL
 | .expr k n s _,ks,ts=>
  if k=1 then dec n else if k=2 then s.data.toList else if k=3 then [105,110,112,117,116]
  else if k=4 then s.data.toList++[91]++ts.headD []++[93]
  else if k=5 then [45]++par (decide (lvE (ks.headD 0) < 3)) 40 41 (ts.headD [])
  else par (decide (lvE (ks.headD 0) < lvE k)) 40 41 (ts.headD [])++([32]++sgnE k++[32])++par (decide (lvE (ks.tail.headD 0)≤lvE k)) 40 41 (ts.tail.headD [])
 | .cond k op _ _,ks,ts=>
  if k=1 then [116,114,117,101] else if k=2 then [102,97,108,115,101]
  else if k=3 then ts.headD []++([32]++sgnC op++[32])++ts.tail.headD []
  else if k=4 then [33]++par (decide (lvC (ks.headD 0) < 3)) 91 93 (ts.headD [])
  else par (decide (lvC (ks.headD 0) < lvC k)) 91 93 (ts.headD [])++(if k=6 then [32,124,124,32] else [32,38,38,32])++par (decide (lvC (ks.tail.headD 0)≤lvC k)) 91 93 (ts.tail.headD [])
 | _,_,_=>[]
mutual
def tx:PT→BL
 | .mk l cs=>labT dec l (cs.map kindT) (txs cs)
def txs:List PT→List BL
 | []=>[]
 | t::ts=>tx t::txs ts
end
def lineT(d:Nat)(t:BL):BL:=(List.replicate d ([32,32]:BL)).flatten++t++[10]
def labS(d:Nat):Lab→List BL→List BL→BL
 | .stmt k s e c t _,ts,ss=>
  if k=1 then lineT d (s.data.toList++[32,61,32]++ts.headD []++[59])
  else if k=2 then lineT d (s.data.toList++[91]++ts.headD []++[93,32,61,32]++ts.tail.headD []++[59])
  else if k=3 then lineT d ([105,102,32]++ts.headD []++[32,123])++((ss.drop (c+e)).take t).flatten++(if ss.length≤c+e+t then [] else lineT d [125,32,101,108,115,101,32,123]++(ss.drop (c+e+t)).flatten)++lineT d [125]
  else if k=4 then lineT d ([119,104,105,108,101,32]++ts.headD []++[32,123])++((ss.drop (c+e)).take t).flatten++lineT d [125]
  else if k=5 then lineT d ([97,115,115,101,114,116,32]++ts.headD []++[59])
  else if k=6 then lineT d ([97,115,115,117,109,101,32]++ts.headD []++[59])
  else lineT d [115,107,105,112,59]
 | _,_,_=>[]
mutual
def stx:Nat→PT→BL
 | d,.mk l cs=>labS d l (txs dec cs) (stxs (d+1) cs)
def stxs:Nat→List PT→List BL
 | _,[]=>[]
 | d,t::ts=>stx d t::stxs d ts
end
def declT(d:G4):BL:=if d.L3=0 then lineT 0 ([118,97,114,32]++d.f4.data.toList++[59]) else lineT 0 ([97,114,114,97,121,32]++d.f4.data.toList++[91]++dec d.L3++[93,59])
def progT(q:PP):BL:=(q.decls.map (declT dec)).flatten++(stxs dec 0 q.body).flatten
end
end Go.Proofs.YtnhdnncbjddmjaaGreatDoor
