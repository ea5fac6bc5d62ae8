/- The program's own place of a byte, in the reading for ranges over functions (XEY): what seat 1 proved, in a namespace of its own. -/
import Derived.Test.YtoflkliecagjcaaGreatDooryBOY2
import Derived.Test.YtoflkliecagjcaaGreatDooryBQ3
namespace Go.Proofs.YtoflkliecagjcaaGreatDoor.Od
open Go.RowKit
set_option maxRecDepth 100000
def place(l c:Int):Value:=.agg #[.int .i64 l,.int .i64 c]
theorem b8G(w:World)(R:Value→World→Prop)(h:∀w',Ext w w'→R (place 1 1) w'):Cv Tryz.prog 90 #[] w R:=by
 apply c3I
 unfold F90
 repeat' (first | (simp (disch:=first | omega | (simp only [f9,j6,j8];done) | (simp only [f9,j6,j8];omega)) only [a2C,a6X,a1r,a3y,a4m,spliced,a3q,List.size_toArray,List.length_cons,List.length_nil,Nat.reduceAdd,Nat.le_refl,true_and,List.drop_zero,List.drop_succ_cons,List.take_succ_cons,List.take_zero,List.drop_nil,List.take_nil,List.nil_append,List.append_nil,List.all_cons,List.all_nil,Value.oneCell',Bool.and_self,Nat.zero_add,a6Y,a7I]) | refine a1s rfl ?_ | refine b0c ?_)
 exact h _ (by repeat' (first | exact Ext.refl _ | assumption | refine Ext.row ?_ (by first | omega | (simp only [f9,j6,j8];done) | (simp only [f9,j6,j8];omega)) _ | refine Ext.obj ?_ (by first | omega | (simp only [f9,j6,j8];done) | (simp only [f9,j6,j8];omega)) _ | refine Ext.alloc ?_ _))
theorem a2Y(l c r:Int)(w:World)(R:Value→World→Prop)(hl:0≤l)(hl2:l < 4611686018427387904)(hc:0≤c)(hc2:c < 4611686018427387904)
  (h:∀w',Ext w w'→R (if r=10 then place (l+1) 1 else place l (c+1)) w'):Cv Tryz.prog 123 #[place l c,.int .i32 r] w R:=by
 apply c0t
 unfold b8k place
 by_cases hr:r=10
 ·repeat' (first | (simp (disch:=first | omega | (simp only [f9,j6,j8];done) | (simp only [f9,j6,j8];omega)) only [c0V,c0W,nth,b3f,c7B,b3h,a2C,U4,a6X,a1r,f9,a3y,a4m,spliced,a3q,List.size_toArray,List.length_cons,List.length_nil,Nat.reduceAdd,Nat.reduceLeDiff,Nat.le_refl,true_and,List.drop_zero,List.drop_succ_cons,List.take_succ_cons,List.take_zero,List.drop_nil,List.take_nil,List.nil_append,List.append_nil,List.all_cons,List.all_nil,Value.oneCell',Bool.and_self,Nat.zero_add,a6Y,b6O,a7I]) | refine a7J ?_ | refine a1s rfl ?_ | refine b0c ?_)
  rw [if_pos hr] at h
  exact h _ (by repeat' (first | exact Ext.refl _ | assumption | refine Ext.row ?_ (by first | omega | (simp only [f9,j6,j8];done) | (simp only [f9,j6,j8];omega)) _ | refine Ext.obj ?_ (by first | omega | (simp only [f9,j6,j8];done) | (simp only [f9,j6,j8];omega)) _ | refine Ext.alloc ?_ _))
 ·repeat' (first | (simp (disch:=first | omega | (simp only [f9,j6,j8];done) | (simp only [f9,j6,j8];omega)) only [c0V,c0W,nth,b3g,c7C,b3h,a2C,U4,a6X,a1r,f9,a3y,a4m,spliced,a3q,List.size_toArray,List.length_cons,List.length_nil,Nat.reduceAdd,Nat.reduceLeDiff,Nat.le_refl,true_and,List.drop_zero,List.drop_succ_cons,List.take_succ_cons,List.take_zero,List.drop_nil,List.take_nil,List.nil_append,List.append_nil,List.all_cons,List.all_nil,Value.oneCell',Bool.and_self,Nat.zero_add,a6Y,b6O,a7I,c4q]) | refine a7J ?_ | refine a1s rfl ?_ | refine b0c ?_)
  rw [if_neg hr] at h
  exact h _ (by repeat' (first | exact Ext.refl _ | assumption | refine Ext.row ?_ (by first | omega | (simp only [f9,j6,j8];done) | (simp only [f9,j6,j8];omega)) _ | refine Ext.obj ?_ (by first | omega | (simp only [f9,j6,j8];done) | (simp only [f9,j6,j8];omega)) _ | refine Ext.alloc ?_ _))
def nextP(q:Int×Int)(r:Nat):Int×Int:=if r=10 then (q.1+1,1) else (q.1,q.2+1)
def plc(s:ByteArray)(n:Int):Nat→Nat→Int×Int→Int×Int
 | 0,_,q=>q
 | f+1,p,q=>if p < s.size∧(p:Int) < n then plc s n f (p+(Utf8.decode s p).2) (nextP q (Utf8.decode s p).1) else q
theorem c9f(s:ByteArray)(n:Int):∀(f g p:Nat)(q:Int×Int),s.size-p≤f→s.size-p≤g→plc s n f p q=plc s n g p q:=by
 intro f
 induction f with
 | zero=>
  intro g p q h1 h2
  cases g with
  | zero=>rfl
  | succ g=>simp [plc,show ¬p < s.size by omega]
 | succ f ih=>
  intro g p q h1 h2
  cases g with
  | zero=>simp [plc,show ¬p < s.size by omega]
  | succ g=>
   simp only [plc]
   have:=X5 s p
   split
   ·exact ih g _ _ (by omega) (by omega)
   ·rfl
def plcAt(s:ByteArray)(n:Int)(p:Nat)(q:Int×Int):Int×Int:=plc s n (s.size-p) p q
theorem b2u(s:ByteArray)(n:Int)(p:Nat)(q:Int×Int)(h:¬(p < s.size∧(p:Int) < n)):plcAt s n p q=q:=by
 unfold plcAt
 cases hf:s.size-p with
 | zero=>rfl
 | succ f=>simp only [plc,if_neg h]
theorem b5g(s:ByteArray)(n:Int)(p:Nat)(q:Int×Int)(h:p < s.size)(h2:(p:Int) < n):plcAt s n p q=plcAt s n (p+(Utf8.decode s p).2) (nextP q (Utf8.decode s p).1):=by
 unfold plcAt
 obtain ⟨f,hf⟩:∃f,s.size-p=f+1:=⟨s.size-p-1,by omega⟩
 have:=X5 s p
 rw [hf]
 simp only [plc,h,h2,and_self,if_true]
 exact c9f s n _ _ _ _ (by omega) (by omega)
def atP(s:ByteArray)(n:Int):Int×Int:=plcAt s n 0 (1,1)
def placeOf(q:Int×Int):Value:=place q.1 q.2
def Own(B:Nat)(W W':World):Prop:=W.heap.size≤W'.heap.size∧∀k,B≤k→k < W.heap.size→W'.heap[k]? = W.heap[k]?
theorem belowObj{B:Nat}{a w:World}(h:Below B a w){g:Nat}(hg:B≤g)(o:Obj):Below B a (World.setObjAt w g o):=
 ⟨h.os,h.tape,h.output,by simpa [World.setObjAt] using h.size,fun k hk=>(O0 (by omega)).trans (h.block k hk)⟩
theorem c2j(s:ByteArray)(hs:s.size≤4194304)(b:Nat)(yld:Value)(w:World)(hb:w.heap[b]? = some (.cells #[.string s] 9))(J:Nat→Int×Int→World→Prop)(D:World→Prop)(R:Value→World→Prop)
  (hJ:∀p q W W',J p q W→Below w.heap.size W W'→J p q W') (h0:J 0 (1,1) w)
  (hround:∀p q W,p < s.size→w.heap.size≤W.heap.size→J p q W→
   opY Tryz.prog (xCall yld [.int .i64 p,placeOf (nextP q (Utf8.decode s p).1)]) W fun v W'=>Own w.heap.size W W'∧
    ((v=.bool true∧J (p+(Utf8.decode s p).2) (nextP q (Utf8.decode s p).1) W')∨(v=.bool false∧D W')))
  (hn:∀q W,J s.size q W→R (.tuple #[]) W) (hd:∀W,D W→R (.tuple #[]) W):
  Cv Tryz.prog 122 #[yld,.pointer (some ⟨b,0,none⟩)] w R:=by
 apply c9e
 unfold c6h
 refine b6P (b8G _ _ fun w1 he1=>?_)
 have hbl:=a1h hb
 have hb1:=(he1.heap hbl).trans hb
 have hsz1:=he1.size
 unfold place
 repeat' (first | (simp (disch:=first | omega | (simp only [f9,j6,j8];done) | (simp only [f9,j6,j8];omega)) only [nth,a2C,U4,a0O,f9,j6,a3y,a4m,spliced,a3q,List.size_toArray,List.length_cons,List.length_nil,Nat.reduceAdd,Nat.le_refl,true_and,List.drop_zero,List.drop_succ_cons,List.take_succ_cons,List.take_zero,List.drop_nil,List.take_nil,List.nil_append,List.append_nil,List.all_cons,List.all_nil,Value.oneCell',Bool.and_self,Nat.zero_add,a6Y,c4s,hb1]) | with_reducible refine a1s rfl ?_ | refine c6i ?_ | refine a4a ?_)
 have hw2:Below w.heap.size w (((w1.alloc (.cells #[.int .i64 0,.int .i64 0] 31)).setRow w1.heap.size #[.int .i64 1,.int .i64 1]).alloc (.stringIter s 0)):=
  Below.alloc (below_setRow (Below.alloc he1 he1.size _) he1.size _) (by simp only [f9,j6];omega) _
 have hp2:(((w1.alloc (.cells #[.int .i64 0,.int .i64 0] 31)).setRow w1.heap.size #[.int .i64 1,.int .i64 1]).alloc (.stringIter s 0)).heap[w1.heap.size]? = some (.cells #[.int .i64 1,.int .i64 1] 31):=by
  simp (disch:=first | omega | (simp only [f9,j6,j8];done) | (simp only [f9,j6,j8];omega)) only [a2C,U4,a6X,a1r]
 have hi2:(((w1.alloc (.cells #[.int .i64 0,.int .i64 0] 31)).setRow w1.heap.size #[.int .i64 1,.int .i64 1]).alloc (.stringIter s 0)).heap[w1.heap.size+1]? = some (.stringIter s 0):=by
  simp (disch:=first | omega | (simp only [f9,j6,j8];done) | (simp only [f9,j6,j8];omega)) only [a2C]
 generalize (((w1.alloc (.cells #[.int .i64 0,.int .i64 0] 31)).setRow w1.heap.size #[.int .i64 1,.int .i64 1]).alloc (.stringIter s 0))=w2 at hw2 hp2 hi2
 have hg:w.heap.size≤w1.heap.size:=hsz1
 generalize w1.heap.size=g at hg hp2 hi2
 refine ⟨fun _ w'=>∃(p:Nat)(a b:Int),J p (a,b) w'∧w.heap.size≤w'.heap.size∧w'.heap[g]? = some (.cells #[.int .i64 a,.int .i64 b] 31)∧w'.heap[g+1]? = some (.stringIter s p)∧
   0≤a∧a≤p+1∧0≤b∧b≤p+1∧p≤s.size,fun _ w'=>match w'.heap[g+1]? with | some (.stringIter _ p)=>s.size-p | _=>0,
  ⟨0,1,1,hJ _ _ _ _ h0 hw2,hw2.size,hp2,hi2,by omega,by omega,by omega,by omega,by omega⟩,?_⟩
 rintro τ w' ⟨p,a,c,hj,hsz,hp,hi,ha,ha2,hc,hc2,hps⟩
 unfold c0Z
 have hgl:=a1h hp
 have hil:=a1h hi
 by_cases hlt:p < s.size
 ·have hdd:=c3Q s p hlt
  have hd1:=X5 s p
  rw [b7v hi hlt]
  simp (disch:=first | omega | (simp only [f9,j6,j8];done) | (simp only [f9,j6,j8];omega)) only [b3f,d2o,d2p,d2q]
  have hj3:=hJ _ _ _ _ hj (belowObj (Below.refl _ w') (show w.heap.size≤g+1 by omega) (.stringIter s (p+(Utf8.decode s p).2)))
  have hp3:(World.setObjAt w' (g+1) (.stringIter s (p+(Utf8.decode s p).2))).heap[g]? = some (.cells #[.int .i64 a,.int .i64 c] 31):=(O0 (by omega)).trans hp
  have hi3:(World.setObjAt w' (g+1) (.stringIter s (p+(Utf8.decode s p).2))).heap[g+1]? = some (.stringIter s (p+(Utf8.decode s p).2)):=a9n rfl hil
  have hsz3:w'.heap.size=(World.setObjAt w' (g+1) (.stringIter s (p+(Utf8.decode s p).2))).heap.size:=by simp only [j8]
  generalize (World.setObjAt w' (g+1) (.stringIter s (p+(Utf8.decode s p).2)))=w3 at hj3 hp3 hi3 hsz3
  refine a4a ?_
  simp (disch:=first | omega | (simp only [f9,j6,j8];done) | (simp only [f9,j6,j8];omega)) only [a3y,List.size_toArray,List.length_cons,List.length_nil,Nat.reduceAdd,Nat.le_refl,true_and,List.drop_zero,List.take_succ_cons,List.take_nil,Nat.zero_add,hp3]
  refine c2i (a2Y a c _ _ _ ha (by omega) hc (by omega) fun w4 he4=>?_)
  have e:(if ((Utf8.decode s p).1:Int)=10 then place (a+1) 1 else place a (c+1))=placeOf (nextP (a,c) (Utf8.decode s p).1):=by
   unfold nextP placeOf
   by_cases h:(Utf8.decode s p).1=10
   ·rw [if_pos (by omega),if_pos h]
   ·rw [if_neg (by omega),if_neg h]
  rw [e]
  have hj4:=hJ _ _ _ _ hj3 (Below.mono he4 (by omega))
  have hp4:=(he4.heap (a1h hp3)).trans hp3
  have hi4:=(he4.heap (a1h hi3)).trans hi3
  have hsz4:=he4.size
  have hq:0≤(nextP (a,c) (Utf8.decode s p).1).1∧(nextP (a,c) (Utf8.decode s p).1).1≤p+(Utf8.decode s p).2+1∧0≤(nextP (a,c) (Utf8.decode s p).1).2∧(nextP (a,c) (Utf8.decode s p).1).2≤p+(Utf8.decode s p).2+1:=by
   unfold nextP
   split<;>simp only<;>omega
  have hr:=fun W=>hround p (a,c) W hlt
  clear e
  generalize nextP (a,c) (Utf8.decode s p).1=q at hq hr
  obtain ⟨a2,c2⟩:=q
  unfold placeOf place at hr ⊢
  simp only at hq hr ⊢
  refine a1s rfl ?_
  simp (disch:=first | omega | (simp only [f9,j6,j8];done) | (simp only [f9,j6,j8];omega)) only [a4m,spliced,a3q,List.size_toArray,List.length_cons,List.length_nil,Nat.reduceAdd,Nat.le_refl,true_and,List.drop_succ_cons,List.take_zero,List.drop_nil,List.nil_append,List.append_nil,List.all_cons,List.all_nil,Value.oneCell',Bool.and_self,Nat.zero_add,hp4]
  have hj5:=hJ _ _ _ _ hj4 (below_setRow (Below.refl _ w4) hg #[.int .i64 a2,.int .i64 c2])
  have hgl4:=a1h hp4
  have hp5:(w4.setRow g #[.int .i64 a2,.int .i64 c2]).heap[g]? = some (.cells #[.int .i64 a2,.int .i64 c2] 31):=by simp (disch:=first | omega | (simp only [f9,j6,j8];done) | (simp only [f9,j6,j8];omega)) only [a6X,a1r,hp4]
  have hi5:(w4.setRow g #[.int .i64 a2,.int .i64 c2]).heap[g+1]? = some (.stringIter s (p+(Utf8.decode s p).2)):=by simp (disch:=first | omega | (simp only [f9,j6,j8];done) | (simp only [f9,j6,j8];omega)) only [a0O,hi4]
  have hsz5:w.heap.size≤(w4.setRow g #[.int .i64 a2,.int .i64 c2]).heap.size:=by simp only [j6];omega
  generalize (w4.setRow g #[.int .i64 a2,.int .i64 c2])=w5 at hj5 hp5 hi5 hsz5
  refine a4a ?_
  simp (disch:=first | omega | (simp only [f9,j6,j8];done) | (simp only [f9,j6,j8];omega)) only [a3y,List.size_toArray,List.length_cons,List.length_nil,Nat.reduceAdd,Nat.le_refl,true_and,List.drop_zero,List.take_succ_cons,List.take_nil,Nat.zero_add,hp5]
  refine c5X (hr w5 hsz5 hj5) ?_
  rintro v w6 ⟨ho,hv⟩
  have hp6:=(ho.2 g hg (a1h hp5)).trans hp5
  have hi6:=(ho.2 (g+1) (by omega) (a1h hi5)).trans hi5
  rcases hv with ⟨rfl,hj6⟩ | ⟨rfl,hd6⟩
  ·simp (disch:=first | omega | (simp only [f9,j6,j8];done) | (simp only [f9,j6,j8];omega)) only [c0X,b3g,Bool.not_true]
   exact ⟨⟨_,a2,c2,hj6,Nat.le_trans hsz5 ho.1,hp6,hi6,by omega,by omega,by omega,by omega,hdd⟩,by rw [hi6,hi];show s.size-_ < s.size-_;omega⟩
  ·simp (disch:=first | omega | (simp only [f9,j6,j8];done) | (simp only [f9,j6,j8];omega)) only [c0X,b3f,Bool.not_false]
   exact hd _ hd6
 ·obtain rfl:p=s.size:=by omega
  rw [b7w hi (by omega)]
  simp (disch:=first | omega | (simp only [f9,j6,j8];done) | (simp only [f9,j6,j8];omega)) only [b3g,d2r]
  exact hn _ _ hj
theorem c6j(s:ByteArray)(w:World)(R:Value→World→Prop)(h:R (.func (.func 122) #[] #[.pointer (some ⟨w.heap.size,0,none⟩)]) (w.alloc (.cells #[.string s] 9))):
  Cv Tryz.prog 91 #[.string s] w R:=by
 apply d2P
 unfold F91
 simp only [b3h,b8B,b8C]
 exact h
set_option maxHeartbeats 2000000 in
theorem d4t(s:ByteArray)(n:Int)(w:World)(R:Value→World→Prop)(hs:s.size≤4194304)(h:∀w',Ext w w'→R (placeOf (atP s n)) w'):Cv Tryz.prog 62 #[.string s,.int .i64 n] w R:=by
 apply d2N
 unfold F62
 simp (disch:=first | omega | (simp only [f9,j6,j8];done) | (simp only [f9,j6,j8];omega)) only [b3h,f9,c4i,a6Y]
 refine b6P (b8G _ _ fun w1 he1=>?_)
 have hE1:Ext w w1:=by
  have h0:Ext w ((w.alloc (.cells #[.int .i64 n] 3)).alloc (.cells #[.int .i64 0,.int .i64 0] 31)):=(by repeat' (first | exact Ext.refl _ | assumption | refine Ext.row ?_ (by first | omega | (simp only [f9,j6,j8];done) | (simp only [f9,j6,j8];omega)) _ | refine Ext.obj ?_ (by first | omega | (simp only [f9,j6,j8];done) | (simp only [f9,j6,j8];omega)) _ | refine Ext.alloc ?_ _))
  exact h0.trans (he1.mono (by simp only [f9];omega))
 have hn1:w1.heap[w.heap.size]? = some (.cells #[.int .i64 n] 3):=(he1.heap (by simp only [f9];omega)).trans (by simp (disch:=first | omega | (simp only [f9,j6,j8];done) | (simp only [f9,j6,j8];omega)) only [a2C,U4])
 have hr1:w1.heap[w.heap.size+1]? = some (.cells #[.int .i64 0,.int .i64 0] 31):=(he1.heap (by simp only [f9];omega)).trans (by simp (disch:=first | omega | (simp only [f9,j6,j8];done) | (simp only [f9,j6,j8];omega)) only [a2C])
 have hsz1:=a1h hr1
 clear he1
 unfold place
 repeat' (first | (simp (disch:=first | omega | (simp only [f9,j6,j8];done) | (simp only [f9,j6,j8];omega)) only [a2C,a4m,spliced,a3q,List.size_toArray,List.length_cons,List.length_nil,Nat.reduceAdd,Nat.le_refl,true_and,List.drop_succ_cons,List.take_zero,List.drop_nil,List.nil_append,List.append_nil,List.all_cons,List.all_nil,Value.oneCell',Bool.and_self,Nat.zero_add]) | with_reducible refine a1s rfl ?_ | refine a7J ?_ | refine a4a ?_)
 refine c4r (c6j s _ _ ?_)
 have hE2:Ext w (((w1.alloc (.cells #[.int .i64 0,.int .i64 0] 31)).setRow w1.heap.size #[.int .i64 1,.int .i64 1]).alloc (.cells #[.string s] 9)):=by
  have:=hE1.size
  exact (by repeat' (first | exact Ext.refl _ | assumption | refine Ext.row ?_ (by first | omega | (simp only [f9,j6,j8];done) | (simp only [f9,j6,j8];omega)) _ | refine Ext.obj ?_ (by first | omega | (simp only [f9,j6,j8];done) | (simp only [f9,j6,j8];omega)) _ | refine Ext.alloc ?_ _))
 have hp2:(((w1.alloc (.cells #[.int .i64 0,.int .i64 0] 31)).setRow w1.heap.size #[.int .i64 1,.int .i64 1]).alloc (.cells #[.string s] 9)).heap[w1.heap.size]? = some (.cells #[.int .i64 1,.int .i64 1] 31):=by
  simp (disch:=first | omega | (simp only [f9,j6,j8];done) | (simp only [f9,j6,j8];omega)) only [a2C,U4,a6X,a1r]
 have hs2:(((w1.alloc (.cells #[.int .i64 0,.int .i64 0] 31)).setRow w1.heap.size #[.int .i64 1,.int .i64 1]).alloc (.cells #[.string s] 9)).heap[w1.heap.size+1]? = some (.cells #[.string s] 9):=by
  simp (disch:=first | omega | (simp only [f9,j6,j8];done) | (simp only [f9,j6,j8];omega)) only [a2C]
 have hn2:(((w1.alloc (.cells #[.int .i64 0,.int .i64 0] 31)).setRow w1.heap.size #[.int .i64 1,.int .i64 1]).alloc (.cells #[.string s] 9)).heap[w.heap.size]? = some (.cells #[.int .i64 n] 3):=by
  simp (disch:=first | omega | (simp only [f9,j6,j8];done) | (simp only [f9,j6,j8];omega)) only [U4,a0O,hn1]
 have hr2:(((w1.alloc (.cells #[.int .i64 0,.int .i64 0] 31)).setRow w1.heap.size #[.int .i64 1,.int .i64 1]).alloc (.cells #[.string s] 9)).heap[w.heap.size+1]? = some (.cells #[.int .i64 0,.int .i64 0] 31):=by
  simp (disch:=first | omega | (simp only [f9,j6,j8];done) | (simp only [f9,j6,j8];omega)) only [U4,a0O,hr1]
 have hz:(((w1.alloc (.cells #[.int .i64 0,.int .i64 0] 31)).setRow w1.heap.size #[.int .i64 1,.int .i64 1])).heap.size=w1.heap.size+1:=by
  simp only [f9,j6]
 rw [hz]
 generalize (((w1.alloc (.cells #[.int .i64 0,.int .i64 0] 31)).setRow w1.heap.size #[.int .i64 1,.int .i64 1]).alloc (.cells #[.string s] 9))=w2 at hE2 hp2 hs2 hn2 hr2
 have hg1:w.heap.size+1 < w1.heap.size:=hsz1
 generalize w1.heap.size=g at hp2 hs2 hg1
 clear hE1 hn1 hr1 hsz1 hz
 have hl2:=a1h hs2
 have done:∀(W:World)(c:Obj),Ext w W→W.heap[w2.heap.size]? = some (.deferred (some []))→W.heap[g]? = some (.cells #[.int .i64 (atP s n).1,.int .i64 (atP s n).2] 31)→
   W.heap[w.heap.size+1]? = some (.cells #[.int .i64 0,.int .i64 0] 31)→
   b5f (.pointer (some ⟨w.heap.size+1,0,none⟩)) (.pointer (some ⟨g,0,none⟩)) (w2.heap.size::[]) (World.setObjAt W (w2.heap.size+1) c) R:=by
  intro W c hx hdm hg hr
  unfold b5f
  have l1:=a1h hdm
  have l2:=a1h hg
  have l3:=a1h hr
  refine a4a ?_
  simp (disch:=first | omega | (simp only [f9,j6,j8];done) | (simp only [f9,j6,j8];omega)) only [O0,a3y,List.size_toArray,List.length_cons,List.length_nil,Nat.reduceAdd,Nat.le_refl,true_and,List.drop_zero,List.take_succ_cons,List.take_nil,Nat.zero_add,hg]
  refine a1s rfl ?_
  simp (disch:=first | omega | (simp only [f9,j6,j8];done) | (simp only [f9,j6,j8];omega)) only [O0,a4m,spliced,a3q,List.size_toArray,List.length_cons,List.length_nil,Nat.reduceAdd,Nat.le_refl,true_and,List.drop_succ_cons,List.take_zero,List.drop_nil,List.nil_append,List.append_nil,List.all_cons,List.all_nil,Value.oneCell',Bool.and_self,Nat.zero_add,hr]
  unfold closeM closeM
  refine ⟨by simp (disch:=first | omega | (simp only [f9,j6,j8];done) | (simp only [f9,j6,j8];omega)) only [a0O,O0,hdm],?_⟩
  refine b0c ?_
  simp (disch:=first | omega | (simp only [f9,j6,j8];done) | (simp only [f9,j6,j8];omega)) only [a6X,O0,a1r,a3y,List.size_toArray,List.length_cons,List.length_nil,Nat.reduceAdd,Nat.le_refl,true_and,List.drop_zero,List.take_succ_cons,List.take_nil,Nat.zero_add,hr]
  exact h _ (by repeat' (first | exact Ext.refl _ | assumption | refine Ext.row ?_ (by first | omega | (simp only [f9,j6,j8];done) | (simp only [f9,j6,j8];omega)) _ | refine Ext.obj ?_ (by first | omega | (simp only [f9,j6,j8];done) | (simp only [f9,j6,j8];omega)) _ | refine Ext.alloc ?_ _))
 refine c4j rfl (fun args w=>Tryz.call122 args w) fun rec hround=>?_
 have hb:((w2.alloc (.deferred (some []))).alloc (.loop (rec .ready none))).heap[g+1]? = some (.cells #[.string s] 9):=by
  simp (disch:=first | omega | (simp only [f9,j6,j8];done) | (simp only [f9,j6,j8];omega)) only [U4,hs2]
 refine c2j s hs (g+1) _ _ hb
  (fun p q W=>Ext w W∧W.heap[w2.heap.size]? = some (.deferred (some []))∧W.heap[w2.heap.size+1]? = some (.loop (rec .ready none))∧W.heap[g]? = some (.cells #[.int .i64 q.1,.int .i64 q.2] 31)∧
   W.heap[w.heap.size]? = some (.cells #[.int .i64 n] 3)∧W.heap[w.heap.size+1]? = some (.cells #[.int .i64 0,.int .i64 0] 31)∧plcAt s n p q=atP s n)
  (fun W=>Ext w W∧W.heap[w2.heap.size]? = some (.deferred (some []))∧W.heap[w2.heap.size+1]? = some (.loop (rec .done (some (.exit 0))))∧W.heap[g]? = some (.cells #[.int .i64 (atP s n).1,.int .i64 (atP s n).2] 31)∧
   W.heap[w.heap.size+1]? = some (.cells #[.int .i64 0,.int .i64 0] 31)) _ ?_ ?_ ?_ ?_ ?_
 ·rintro p q W W' ⟨h1,h2,h3,h4,h5,h6,h7⟩ hb
  have hk:∀{k o},W.heap[k]? = some o→k < w2.heap.size+2→W'.heap[k]? = some o:=@fun k o ho hlt=>(hb.block k (by simp only [f9];omega)).trans ho
  exact ⟨Below.trans h1 (Below.mono hb (by have:=hE2.size;simp only [f9];omega)),hk h2 (by omega),hk h3 (by omega),hk h4 (by omega),hk h5 (by omega),hk h6 (by omega),h7⟩
 ·exact ⟨Ext.alloc (Ext.alloc hE2 _) _,by simp (disch:=first | omega | (simp only [f9,j6,j8];done) | (simp only [f9,j6,j8];omega)) only [a2C,U4],by simp (disch:=first | omega | (simp only [f9,j6,j8];done) | (simp only [f9,j6,j8];omega)) only [a2C],by simp (disch:=first | omega | (simp only [f9,j6,j8];done) | (simp only [f9,j6,j8];omega)) only [U4,hp2],
   by simp (disch:=first | omega | (simp only [f9,j6,j8];done) | (simp only [f9,j6,j8];omega)) only [U4,hn2],by simp (disch:=first | omega | (simp only [f9,j6,j8];done) | (simp only [f9,j6,j8];omega)) only [U4,hr2],rfl⟩
 ·rintro p q W hlt hsz ⟨h1,h2,h3,h4,h5,h6,h7⟩
  simp only [f9] at hsz ⊢
  refine hround _ W _ rfl h3 ?_
  unfold placeOf place
  have l2:=a1h h2
  have l3:=a1h h3
  have l4:=a1h h4
  have l5:=a1h h5
  have l6:=a1h h6
  repeat' (first | (simp (disch:=first | omega | (simp only [f9,j6,j8];done) | (simp only [f9,j6,j8];omega)) only [nth,a2C,a4m,spliced,a3q,List.size_toArray,List.length_cons,List.length_nil,Nat.reduceAdd,Nat.le_refl,true_and,List.drop_succ_cons,List.take_zero,List.drop_nil,List.nil_append,List.append_nil,List.all_cons,List.all_nil,Value.oneCell',Bool.and_self,Nat.zero_add]) | with_reducible refine a1s rfl ?_ | refine a7J ?_ | refine a4a ?_)
  refine ⟨by simp (disch:=first | omega | (simp only [f9,j6,j8];done) | (simp only [f9,j6,j8];omega)) only [U4,a0O,h3],?_⟩
  have hE3:=h1
  by_cases hge:(n:Int)≤p
  ·rw [b2u s n p q (by omega)] at h7
   repeat' (first | (simp (disch:=first | omega | (simp only [f9,j6,j8];done) | (simp only [f9,j6,j8];omega)) only [c0U,nth,b3f,c7B,U4,a0O,O0,a3y,List.size_toArray,List.length_cons,List.length_nil,Nat.le_refl,true_and,List.drop_zero,List.take_succ_cons,List.take_nil,Nat.zero_add,h5]) | with_reducible refine a1s rfl ?_ | refine a7J ?_ | refine a4a ?_)
   refine ⟨by simp (disch:=first | omega | (simp only [f9,j6,j8];done) | (simp only [f9,j6,j8];omega)) only [a9n],⟨by simp only [f9,j6,j8];omega,fun k hk1 hk2=>by simp (disch:=first | omega | (simp only [f9,j6,j8];done) | (simp only [f9,j6,j8];omega)) only [U4,a0O,O0]⟩,.inr ⟨rfl,?_⟩⟩
   have:=h1.size
   exact ⟨(by repeat' (first | exact Ext.refl _ | assumption | refine Ext.row ?_ (by first | omega | (simp only [f9,j6,j8];done) | (simp only [f9,j6,j8];omega)) _ | refine Ext.obj ?_ (by first | omega | (simp only [f9,j6,j8];done) | (simp only [f9,j6,j8];omega)) _ | refine Ext.alloc ?_ _)),by simp (disch:=first | omega | (simp only [f9,j6,j8];done) | (simp only [f9,j6,j8];omega)) only [U4,a0O,O0,h2],by simp (disch:=first | omega | (simp only [f9,j6,j8];done) | (simp only [f9,j6,j8];omega)) only [a9n],by simp (disch:=first | omega | (simp only [f9,j6,j8];done) | (simp only [f9,j6,j8];omega)) only [U4,a0O,O0,h4,← h7],by simp (disch:=first | omega | (simp only [f9,j6,j8];done) | (simp only [f9,j6,j8];omega)) only [U4,a0O,O0,h6]⟩
  ·rw [b5g s n p q hlt (by omega)] at h7
   repeat' (first | (simp (disch:=first | omega | (simp only [f9,j6,j8];done) | (simp only [f9,j6,j8];omega)) only [c0U,nth,b3g,c7C,a2C,U4,a6X,a0O,O0,a1r,a3y,a4m,spliced,a3q,List.size_toArray,List.length_cons,List.length_nil,Nat.reduceAdd,Nat.le_refl,true_and,List.drop_zero,List.drop_succ_cons,List.take_succ_cons,List.take_zero,List.drop_nil,List.take_nil,List.nil_append,List.append_nil,List.all_cons,List.all_nil,Value.oneCell',Bool.and_self,Nat.zero_add,h4,h5]) | with_reducible refine a1s rfl ?_ | refine a7J ?_ | refine a4a ?_)
   refine ⟨by simp (disch:=first | omega | (simp only [f9,j6,j8];done) | (simp only [f9,j6,j8];omega)) only [a0O,a9n],⟨by simp only [f9,j6,j8];omega,fun k hk1 hk2=>by simp (disch:=first | omega | (simp only [f9,j6,j8];done) | (simp only [f9,j6,j8];omega)) only [U4,a0O,O0]⟩,.inl ⟨rfl,?_⟩⟩
   have:=h1.size
   exact ⟨(by repeat' (first | exact Ext.refl _ | assumption | refine Ext.row ?_ (by first | omega | (simp only [f9,j6,j8];done) | (simp only [f9,j6,j8];omega)) _ | refine Ext.obj ?_ (by first | omega | (simp only [f9,j6,j8];done) | (simp only [f9,j6,j8];omega)) _ | refine Ext.alloc ?_ _)),by simp (disch:=first | omega | (simp only [f9,j6,j8];done) | (simp only [f9,j6,j8];omega)) only [U4,a0O,O0,h2],by simp (disch:=first | omega | (simp only [f9,j6,j8];done) | (simp only [f9,j6,j8];omega)) only [a9n],by simp (disch:=first | omega | (simp only [f9,j6,j8];done) | (simp only [f9,j6,j8];omega)) only [U4,a6X,a0O,O0,a1r,h4],by simp (disch:=first | omega | (simp only [f9,j6,j8];done) | (simp only [f9,j6,j8];omega)) only [U4,a0O,O0,h5],by simp (disch:=first | omega | (simp only [f9,j6,j8];done) | (simp only [f9,j6,j8];omega)) only [U4,a0O,O0,h6],h7⟩
 ·rintro q W ⟨h1,h2,h3,h4,h5,h6,h7⟩
  rw [b2u s n s.size q (by omega)] at h7
  exact .inl ⟨h3,done W _ h1 h2 (h7 ▸ h4) h6⟩
 ·rintro W ⟨h1,h2,h3,h4,h6⟩
  exact .inr (.inr ⟨0,h3,done W _ h1 h2 h4 h6⟩)
end Go.Proofs.YtoflkliecagjcaaGreatDoor.Od
