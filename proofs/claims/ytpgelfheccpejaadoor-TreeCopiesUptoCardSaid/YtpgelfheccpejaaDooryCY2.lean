/- What is new is written over: blocks, and what they may hold. -/
import Derived.Test.YtpgelfheccpejaaDooryCS6
import Derived.Test.YtpgelfheccpejaaDooryCQ1
namespace Go.Proofs.YtpgelfheccpejaaDoor
open Go.RowKit
set_option maxRecDepth 100000
set_option maxHeartbeats 2000000
def newO(H H':Hp)(g:Nat):Option (Nat×Obj):=match H g,H' g with | none,some o=>some (g,o) | _,_=>none
def newF(H H':Hp)(n:Nat):Frag:=(List.range n).filterMap (newO H H')
theorem b0d{H H':Hp}{g:Nat}{p:Nat×Obj}(h:newO H H' g=some p):p.1=g∧H g=none∧H' g=some p.2:=by
 unfold newO at h
 split at h
 ·rename_i a b
  cases h;exact ⟨rfl,a,b⟩
 ·cases h
theorem b3e{H H':Hp}{n:Nat}{p:Nat×Obj}(h:p∈newF H H' n):H p.1=none∧H' p.1=some p.2:=by
 obtain ⟨g,_,hg⟩:=List.mem_filterMap.1 h
 obtain ⟨e,a,b⟩:=b0d hg
 rw [e];exact ⟨a,b⟩
theorem b3f{H H':Hp}{n g:Nat}{o:Obj}(h:H g=none)(h':H' g=some o)(hn:g < n):(g,o)∈newF H H' n:=by
 refine List.mem_filterMap.2 ⟨g,List.mem_range.2 hn,?_⟩
 unfold newO;rw [h,h']
theorem a8O(H H':Hp):∀l:List Nat,((l.filterMap (newO H H')).map (·.1)).Sublist l
 | []=>by simp
 | g::l=>by
  rw [List.filterMap_cons]
  split
  ·exact (a8O H H' l).cons _
  ·rename_i p hp
   rw [List.map_cons,(b0d hp).1]
   exact (a8O H H' l).cons_cons _
theorem a9p(H H':Hp)(n:Nat):((newF H H' n).map (·.1)).Nodup:=(a8O H H' _).nodup List.nodup_range
abbrev zSt:c6:=⟨0,⟨#[]⟩,⟨none,0,0⟩,⟨none,0,0⟩,⟨none,0,0⟩,⟨none,0,0⟩⟩
def a8P(arr:Array Value)(i:Nat):List Value:=(arr.toList.drop (i*6)).take 6
structure SpB (e:TypeId) (arr arr':Array Value):Prop where
 n:arr'.size=arr.size
 s:e=49→∀i,i*6+6≤arr.size→a8P arr' i=a8P arr i∨a8P arr' i=c5 zSt
def Sp(F0 F:Frag):Prop:=∀g arr e,(g,Obj.cells arr e (0,0))∈F0→∃arr',(g,Obj.cells arr' e (0,0))∈F∧SpB e arr arr'
theorem Sp.refl(F:Frag):Sp F F:=fun g arr e h=>⟨arr,h,rfl,fun _ i _=>.inl rfl⟩
theorem b3R{cs vs:List Value}{o m:Nat}(hb:o+vs.length≤cs.length):(cs.take o++vs++cs.drop (o+vs.length))[m]? = if m < o then cs[m]? else if m < o+vs.length then vs[m-o]? else cs[m]?:=by
 rw [List.append_assoc,List.getElem?_append,List.length_take,Nat.min_eq_left (by omega)]
 split
 ·rw [List.getElem?_take,if_pos (by assumption)]
 ·rw [List.getElem?_append]
  split
  ·rw [if_pos (by omega)]
  ·rw [if_neg (by omega),List.getElem?_drop]
   congr 1;omega
theorem b3S{cs vs:List Value}{k i:Nat}(hv:vs.length=6)(hb:k*6+6≤cs.length):((cs.take (k*6)++vs++cs.drop (k*6+vs.length)).drop (i*6)).take 6=if i=k then vs else (cs.drop (i*6)).take 6:=by
 apply List.ext_getElem?
 intro j
 rw [List.getElem?_take]
 split
 ·rename_i hj
  rw [List.getElem?_drop,b3R (by omega)]
  by_cases e:i=k
  ·subst e
   rw [if_neg (by omega),if_pos (by omega),if_pos rfl]
   congr 1;omega
  ·rw [if_neg e,List.getElem?_take,if_pos hj,List.getElem?_drop]
   by_cases lt:i < k
   ·rw [if_pos (by omega)]
   ·rw [if_neg (by omega),if_neg (by omega)]
 ·split
  ·rw [List.getElem?_eq_none (by omega)]
  ·rw [List.getElem?_take,if_neg (by assumption)]
section
variable {P:Program}{w0 w:World}{ps:Nat→Prop}{H0 H:Hp}{Fs:List Frag}{F F0:Frag}{E:Pan}{K:Value→World→Prop}
theorem b7L{g:Nat}{o o':Obj}(nd:(F0.map (·.1)).Nodup)(h:(g,o)∈F0)(h':(g,o')∈F0):o=o':=by
 induction F0 with
 | nil=>cases h
 | cons p F0 ih=>
  rw [List.map_cons,List.nodup_cons] at nd
  rcases List.mem_cons.1 h with e1 | m1<;>rcases List.mem_cons.1 h' with e2 | m2
  ·rw [←e1] at e2;cases e2;rfl
  ·exact (nd.1 (List.mem_map.2 ⟨_,m2,by rw [←e1]⟩)).elim
  ·exact (nd.1 (List.mem_map.2 ⟨_,m1,by rw [←e2]⟩)).elim
  ·exact ih nd.2 m1 m2
theorem Inv.front(I:Inv w0 ps H0 H (F::Fs) w){g:Nat}{o:Obj}(h:(g,o)∈F):∃F2,F.Perm ((g,o)::F2)∧Inv w0 ps H0 H (((g,o)::F2)::Fs) w:=by
 obtain ⟨a,b,rfl⟩:=List.append_of_mem h
 refine ⟨a++b,List.perm_middle,I.perm ?_⟩
 rw [List.flatten_cons,List.flatten_cons]
 exact (List.perm_middle.append_right _).symm
theorem b6y{t e:TypeId}{n g o:Nat}{v:Value}{arr:Array Value}{vs:List Value}(I:Inv w0 ps H0 H (F::Fs) w)(hS:Sp F0 F)(nd:(F0.map (·.1)).Nodup)(hg:(g,Obj.cells arr e (0,0))∈F0)
  (hs:∀w,(sizeOf t).run P w=.ok n w) (hv:v.cells=vs.toArray) (hn:vs.length=n) (hb:o+n≤arr.size) (h1:vs.all (·.oneCell')=true) (hk:e=49→∃k,o=k*6∧vs=c5 zSt)
  (h:∀F' w',Inv w0 ps H0 H (F'::Fs) w'→Sp F0 F'→K undef w'):opK P E (xU (Instr.storeAt t (.pointer (some ⟨g,o,none⟩)) v)) w K:=by
 obtain ⟨arr',hm,hn',hs'⟩:=hS g arr e hg
 obtain ⟨F2,hp,J⟩:=I.front hm
 have hsz:arr'.toList.length=arr.size:=by rw [Array.length_toList];exact hn'
 refine a9s (cs:=arr'.toList) (by rw [Array.toArray_toList];exact J) hs hv hn (by omega) h1 rfl fun w' J' _=>h _ w' J' ?_
 intro g2 arr2 e2 h2
 obtain ⟨arr2',hm2,sp2⟩:=hS g2 arr2 e2 h2
 rcases List.mem_cons.1 (hp.mem_iff.1 hm2) with q | q
 ·cases q
  have q2:=b7L nd hg h2
  cases q2
  have hl:(arr'.toList.take o++vs++arr'.toList.drop (o+vs.length)).length=arr.size:=by
   simp only [List.length_append,List.length_take,List.length_drop];omega
  refine ⟨_,List.mem_cons_self,by rw [List.size_toArray];exact hl,fun he i hi=>?_⟩
  obtain ⟨k,rfl,rfl⟩:=hk he
  have h6:(c5 zSt).length=6:=rfl
  unfold a8P
  dsimp only
  rw [b3S h6 (by omega)]
  by_cases c:i=k
  ·rw [if_pos c];exact .inr rfl
  ·rw [if_neg c];exact hs' he i hi
 ·exact ⟨arr2',List.mem_cons_of_mem _ q,sp2⟩
def RowF(F0:Frag)(e:TypeId)(sz:Nat)(s:Sl):Prop:=s.n≤big∧(s.n=0∨∃g arr,s.a=some ⟨g,0,none⟩∧(g,Obj.cells arr e (0,0))∈F0∧s.n*sz≤arr.size)
def BodyF(F0:Frag)(s:Sl)(zs:List c6):Prop:=s.n≤big∧s.n=zs.length∧(s.n=0∨∃g arr,s.a=some ⟨g,0,none⟩∧(g,Obj.cells arr 49 (0,0))∈F0∧s.n*6≤arr.size∧∀(i:Nat) x,zs[i]? = some x→a8P arr i=c5 x)
inductive GoodS (F0:Frag):c6→Prop
 | mk {s:c6} {zs bs:List c6}:RowF F0 41 4 s.d5→BodyF F0 s.B1 zs→(∀(i:Nat) x,zs[i]? = some x→GoodS F0 x)→BodyF F0 s.A8 bs→(∀(i:Nat) x,bs[i]? = some x→GoodS F0 x)→GoodS F0 s
theorem GoodS.z(F0:Frag):GoodS F0 zSt:=.mk (zs:=[]) (bs:=[]) ⟨Nat.zero_le _,.inl rfl⟩ ⟨Nat.zero_le _,rfl,.inl rfl⟩ (fun i x h=>by simp at h) ⟨Nat.zero_le _,rfl,.inl rfl⟩ fun i x h=>by simp at h
theorem b3g(I:Inv w0 ps H0 H (F::Fs) w)(hS:Sp F0 F){g i:Nat}{arr:Array Value}(hg:(g,Obj.cells arr 49 (0,0))∈F0)(hi:i*6+6≤arr.size){x:c6}(hx:a8P arr i=c5 x):∃y,(y=x∨y=zSt)∧AtW w g (i*6) (c5 y):=by
 obtain ⟨arr',hm,hn,hs⟩:=hS g arr _ hg
 have ho:=I.own _ (show (g,Obj.cells arr' 49 (0,0))∈(F::Fs).flatten from List.mem_append_left _ hm)
 have key:∀y:c6,a8P arr' i=c5 y→AtW w g (i*6) (c5 y):=fun y hy=>⟨arr',_,_,ho,by rw [show (c5 y).length=6 from rfl,hn];exact hi,hy⟩
 rcases hs rfl i hi with h | h
 ·exact ⟨x,.inl rfl,key x (h.trans hx)⟩
 ·exact ⟨zSt,.inr rfl,key _ h⟩
theorem NewS.rowF{H H':Hp}{n:Nat}(hlt:∀g o,H' g=some o→g < n){e:TypeId}{sz:Nat}{s:Sl}(hb:s.n≤big)(h:NewS H H' e sz s):RowF (newF H H' n) e sz s:=
 ⟨hb,h.2.imp id fun ⟨g,arr,a,b,c,d⟩=>⟨g,arr,a,b3f c b (hlt _ _ b),d⟩⟩
theorem NewS.bodyF{H H':Hp}{n:Nat}(hlt:∀g o,H' g=some o→g < n){s:Sl}{zs:List c6}(hb:s.n≤big)(h:NewS H H' 49 6 s)(hs:SlH H' 6 c5 s zs):BodyF (newF H H' n) s zs:=by
 refine ⟨hb,hs.1,h.2.imp id ?_⟩
 rintro ⟨g,arr,a,b,c,d⟩
 refine ⟨g,arr,a,b3f c b (hlt _ _ b),d,fun i x hx=>?_⟩
 obtain ⟨g',o,ha,arr',t',fr,hb,_,hd⟩:=hs.2 i x hx
 rw [a] at ha;cases ha
 rw [b] at hb;cases hb
 rw [Int.toNat_natCast,Nat.zero_add] at hd
 exact hd
end
end Go.Proofs.YtpgelfheccpejaaDoor
