/- The program's own place of a byte, in the reading for ranges over functions (XEY): what seat 1 proved, in a namespace of its own. -/
import Derived.Test.YthklmeihgmcljaaGreatDoorzEOY2
import Derived.Test.YthklmeihgmcljaaGreatDoorzEQ3
namespace Go.Proofs.YthklmeihgmcljaaGreatDoor.Od
open Go.RowKit
set_option maxRecDepth 100000
def place(l c:Int):Value:=.agg #[.int .i64 l,.int .i64 c]
theorem c0K(w:World)(R:Value→World→Prop)(h:∀w',Ext w w'→R (place 1 1) w'):Cv Tryz.prog 129 #[] w R:=by
 apply c2f
 unfold c0l
 repeat' (first | (simp (disch:=first | omega | (simp only [m8,o6,o8];done) | (simp only [m8,o6,o8];omega)) only [a4P,b0r,a2U,a5U,a6Z,spliced,a5K,List.size_toArray,List.length_cons,List.length_nil,Nat.reduceAdd,Nat.le_refl,true_and,List.drop_zero,List.drop_succ_cons,List.take_succ_cons,List.take_zero,List.drop_nil,List.take_nil,List.nil_append,List.append_nil,List.all_cons,List.all_nil,Value.oneCell',Bool.and_self,Nat.zero_add,b0s,b1j]) | refine a2V rfl ?_ | refine b3T ?_)
 exact h _ (by repeat' (first | exact Ext.refl _ | assumption | refine Ext.row ?_ (by first | omega | (simp only [m8,o6,o8];done) | (simp only [m8,o6,o8];omega)) _ | refine Ext.obj ?_ (by first | omega | (simp only [m8,o6,o8];done) | (simp only [m8,o6,o8];omega)) _ | refine Ext.alloc ?_ _))
theorem a5w(l c r:Int)(w:World)(R:Value→World→Prop)(hl:0≤l)(hl2:l < 4611686018427387904)(hc:0≤c)(hc2:c < 4611686018427387904)
  (h:∀w',Ext w w'→R (if r=10 then place (l+1) 1 else place l (c+1)) w'):Cv Tryz.prog 150 #[place l c,.int .i32 r] w R:=by
 apply c2p
 unfold c0n place
 by_cases hr:r=10
 ·repeat' (first | (simp (disch:=first | omega | (simp only [m8,o6,o8];done) | (simp only [m8,o6,o8];omega)) only [c2R,c2S,nth,b6F,c8B,b6H,a4P,Z0,b0r,a2U,m8,a5U,a6Z,spliced,a5K,List.size_toArray,List.length_cons,List.length_nil,Nat.reduceAdd,Nat.reduceLeDiff,Nat.le_refl,true_and,List.drop_zero,List.drop_succ_cons,List.take_succ_cons,List.take_zero,List.drop_nil,List.take_nil,List.nil_append,List.append_nil,List.all_cons,List.all_nil,Value.oneCell',Bool.and_self,Nat.zero_add,b0s,b8X,b1j]) | refine b1k ?_ | refine a2V rfl ?_ | refine b3T ?_)
  rw [if_pos hr] at h
  exact h _ (by repeat' (first | exact Ext.refl _ | assumption | refine Ext.row ?_ (by first | omega | (simp only [m8,o6,o8];done) | (simp only [m8,o6,o8];omega)) _ | refine Ext.obj ?_ (by first | omega | (simp only [m8,o6,o8];done) | (simp only [m8,o6,o8];omega)) _ | refine Ext.alloc ?_ _))
 ·repeat' (first | (simp (disch:=first | omega | (simp only [m8,o6,o8];done) | (simp only [m8,o6,o8];omega)) only [c2R,c2S,nth,b6G,c8C,b6H,a4P,Z0,b0r,a2U,m8,a5U,a6Z,spliced,a5K,List.size_toArray,List.length_cons,List.length_nil,Nat.reduceAdd,Nat.reduceLeDiff,Nat.le_refl,true_and,List.drop_zero,List.drop_succ_cons,List.take_succ_cons,List.take_zero,List.drop_nil,List.take_nil,List.nil_append,List.append_nil,List.all_cons,List.all_nil,Value.oneCell',Bool.and_self,Nat.zero_add,b0s,b8X,b1j,c6n]) | refine b1k ?_ | refine a2V rfl ?_ | refine b3T ?_)
  rw [if_neg hr] at h
  exact h _ (by repeat' (first | exact Ext.refl _ | assumption | refine Ext.row ?_ (by first | omega | (simp only [m8,o6,o8];done) | (simp only [m8,o6,o8];omega)) _ | refine Ext.obj ?_ (by first | omega | (simp only [m8,o6,o8];done) | (simp only [m8,o6,o8];omega)) _ | refine Ext.alloc ?_ _))
def nextP(q:Int×Int)(r:Nat):Int×Int:=if r=10 then (q.1+1,1) else (q.1,q.2+1)
def plc(s:ByteArray)(n:Int):Nat→Nat→Int×Int→Int×Int
 | 0,_,q=>q
 | f+1,p,q=>if p < s.size∧(p:Int) < n then plc s n f (p+(Utf8.decode s p).2) (nextP q (Utf8.decode s p).1) else q
theorem d0S(s:ByteArray)(n:Int):∀(f g p:Nat)(q:Int×Int),s.size-p≤f→s.size-p≤g→plc s n f p q=plc s n g p q:=by
 intro f
 induction f with
 | zero=>
  intro g p q h1 h2
  cases g with
  | zero=>rfl
  | succ g=>simp [plc,show ¬p < s.size by omega]
 | succ f ih=>
  intro g p q h1 h2
  cases g with
  | zero=>simp [plc,show ¬p < s.size by omega]
  | succ g=>
   simp only [plc]
   have:=S2 s p
   split
   ·exact ih g _ _ (by omega) (by omega)
   ·rfl
def plcAt(s:ByteArray)(n:Int)(p:Nat)(q:Int×Int):Int×Int:=plc s n (s.size-p) p q
theorem b5U(s:ByteArray)(n:Int)(p:Nat)(q:Int×Int)(h:¬(p < s.size∧(p:Int) < n)):plcAt s n p q=q:=by
 unfold plcAt
 cases hf:s.size-p with
 | zero=>rfl
 | succ f=>simp only [plc,if_neg h]
theorem b7S(s:ByteArray)(n:Int)(p:Nat)(q:Int×Int)(h:p < s.size)(h2:(p:Int) < n):plcAt s n p q=plcAt s n (p+(Utf8.decode s p).2) (nextP q (Utf8.decode s p).1):=by
 unfold plcAt
 obtain ⟨f,hf⟩:∃f,s.size-p=f+1:=⟨s.size-p-1,by omega⟩
 have:=S2 s p
 rw [hf]
 simp only [plc,h,h2,and_self,if_true]
 exact d0S s n _ _ _ _ (by omega) (by omega)
def atP(s:ByteArray)(n:Int):Int×Int:=plcAt s n 0 (1,1)
def placeOf(q:Int×Int):Value:=place q.1 q.2
def Own(B:Nat)(W W':World):Prop:=W.heap.size≤W'.heap.size∧∀k,B≤k→k < W.heap.size→W'.heap[k]? = W.heap[k]?
theorem belowObj{B:Nat}{a w:World}(h:Below B a w){g:Nat}(hg:B≤g)(o:Obj):Below B a (World.setObjAt w g o):=
 ⟨h.os,h.tape,h.output,by simpa [World.setObjAt] using h.size,fun k hk=>(Q5 (by omega)).trans (h.block k hk)⟩
theorem c3U(s:ByteArray)(hs:s.size≤4194304)(b:Nat)(yld:Value)(w:World)(hb:w.heap[b]? = some (.cells #[.string s] 9))(J:Nat→Int×Int→World→Prop)(D:World→Prop)(R:Value→World→Prop)
  (hJ:∀p q W W',J p q W→Below w.heap.size W W'→J p q W') (h0:J 0 (1,1) w)
  (hround:∀p q W,p < s.size→w.heap.size≤W.heap.size→J p q W→
   opY Tryz.prog (xCall yld [.int .i64 p,placeOf (nextP q (Utf8.decode s p).1)]) W fun v W'=>Own w.heap.size W W'∧
    ((v=.bool true∧J (p+(Utf8.decode s p).2) (nextP q (Utf8.decode s p).1) W')∨(v=.bool false∧D W')))
  (hn:∀q W,J s.size q W→R (.tuple #[]) W) (hd:∀W,D W→R (.tuple #[]) W):
  Cv Tryz.prog 149 #[yld,.pointer (some ⟨b,0,none⟩)] w R:=by
 apply d0R
 unfold c7A
 refine b7R (c0K _ _ fun w1 he1=>?_)
 have hbl:=a2P hb
 have hb1:=(he1.heap hbl).trans hb
 have hsz1:=he1.size
 unfold place
 repeat' (first | (simp (disch:=first | omega | (simp only [m8,o6,o8];done) | (simp only [m8,o6,o8];omega)) only [nth,a4P,Z0,a2s,m8,o6,a5U,a6Z,spliced,a5K,List.size_toArray,List.length_cons,List.length_nil,Nat.reduceAdd,Nat.le_refl,true_and,List.drop_zero,List.drop_succ_cons,List.take_succ_cons,List.take_zero,List.drop_nil,List.take_nil,List.nil_append,List.append_nil,List.all_cons,List.all_nil,Value.oneCell',Bool.and_self,Nat.zero_add,b0s,c6o,hb1]) | with_reducible refine a2V rfl ?_ | refine c7B ?_ | refine a6O ?_)
 have hw2:Below w.heap.size w (((w1.alloc (.cells #[.int .i64 0,.int .i64 0] 28)).setRow w1.heap.size #[.int .i64 1,.int .i64 1]).alloc (.stringIter s 0)):=
  Below.alloc (below_setRow (Below.alloc he1 he1.size _) he1.size _) (by simp only [m8,o6];omega) _
 have hp2:(((w1.alloc (.cells #[.int .i64 0,.int .i64 0] 28)).setRow w1.heap.size #[.int .i64 1,.int .i64 1]).alloc (.stringIter s 0)).heap[w1.heap.size]? = some (.cells #[.int .i64 1,.int .i64 1] 28):=by
  simp (disch:=first | omega | (simp only [m8,o6,o8];done) | (simp only [m8,o6,o8];omega)) only [a4P,Z0,b0r,a2U]
 have hi2:(((w1.alloc (.cells #[.int .i64 0,.int .i64 0] 28)).setRow w1.heap.size #[.int .i64 1,.int .i64 1]).alloc (.stringIter s 0)).heap[w1.heap.size+1]? = some (.stringIter s 0):=by
  simp (disch:=first | omega | (simp only [m8,o6,o8];done) | (simp only [m8,o6,o8];omega)) only [a4P]
 generalize (((w1.alloc (.cells #[.int .i64 0,.int .i64 0] 28)).setRow w1.heap.size #[.int .i64 1,.int .i64 1]).alloc (.stringIter s 0))=w2 at hw2 hp2 hi2
 have hg:w.heap.size≤w1.heap.size:=hsz1
 generalize w1.heap.size=g at hg hp2 hi2
 refine ⟨fun _ w'=>∃(p:Nat)(a b:Int),J p (a,b) w'∧w.heap.size≤w'.heap.size∧w'.heap[g]? = some (.cells #[.int .i64 a,.int .i64 b] 28)∧w'.heap[g+1]? = some (.stringIter s p)∧
   0≤a∧a≤p+1∧0≤b∧b≤p+1∧p≤s.size,fun _ w'=>match w'.heap[g+1]? with | some (.stringIter _ p)=>s.size-p | _=>0,
  ⟨0,1,1,hJ _ _ _ _ h0 hw2,hw2.size,hp2,hi2,by omega,by omega,by omega,by omega,by omega⟩,?_⟩
 rintro τ w' ⟨p,a,c,hj,hsz,hp,hi,ha,ha2,hc,hc2,hps⟩
 unfold c2V
 have hgl:=a2P hp
 have hil:=a2P hi
 by_cases hlt:p < s.size
 ·have hdd:=b8P s p hlt
  have hd1:=S2 s p
  rw [b9C hi hlt]
  simp (disch:=first | omega | (simp only [m8,o6,o8];done) | (simp only [m8,o6,o8];omega)) only [b6F,d4t,d4u,d4v]
  have hj3:=hJ _ _ _ _ hj (belowObj (Below.refl _ w') (show w.heap.size≤g+1 by omega) (.stringIter s (p+(Utf8.decode s p).2)))
  have hp3:(World.setObjAt w' (g+1) (.stringIter s (p+(Utf8.decode s p).2))).heap[g]? = some (.cells #[.int .i64 a,.int .i64 c] 28):=(Q5 (by omega)).trans hp
  have hi3:(World.setObjAt w' (g+1) (.stringIter s (p+(Utf8.decode s p).2))).heap[g+1]? = some (.stringIter s (p+(Utf8.decode s p).2)):=b2P rfl hil
  have hsz3:w'.heap.size=(World.setObjAt w' (g+1) (.stringIter s (p+(Utf8.decode s p).2))).heap.size:=by simp only [o8]
  generalize (World.setObjAt w' (g+1) (.stringIter s (p+(Utf8.decode s p).2)))=w3 at hj3 hp3 hi3 hsz3
  refine a6O ?_
  simp (disch:=first | omega | (simp only [m8,o6,o8];done) | (simp only [m8,o6,o8];omega)) only [a5U,List.size_toArray,List.length_cons,List.length_nil,Nat.reduceAdd,Nat.le_refl,true_and,List.drop_zero,List.take_succ_cons,List.take_nil,Nat.zero_add,hp3]
  refine c3T (a5w a c _ _ _ ha (by omega) hc (by omega) fun w4 he4=>?_)
  have e:(if ((Utf8.decode s p).1:Int)=10 then place (a+1) 1 else place a (c+1))=placeOf (nextP (a,c) (Utf8.decode s p).1):=by
   unfold nextP placeOf
   by_cases h:(Utf8.decode s p).1=10
   ·rw [if_pos (by omega),if_pos h]
   ·rw [if_neg (by omega),if_neg h]
  rw [e]
  have hj4:=hJ _ _ _ _ hj3 (Below.mono he4 (by omega))
  have hp4:=(he4.heap (a2P hp3)).trans hp3
  have hi4:=(he4.heap (a2P hi3)).trans hi3
  have hsz4:=he4.size
  have hq:0≤(nextP (a,c) (Utf8.decode s p).1).1∧(nextP (a,c) (Utf8.decode s p).1).1≤p+(Utf8.decode s p).2+1∧0≤(nextP (a,c) (Utf8.decode s p).1).2∧(nextP (a,c) (Utf8.decode s p).1).2≤p+(Utf8.decode s p).2+1:=by
   unfold nextP
   split<;>simp only<;>omega
  have hr:=fun W=>hround p (a,c) W hlt
  clear e
  generalize nextP (a,c) (Utf8.decode s p).1=q at hq hr
  obtain ⟨a2,c2⟩:=q
  unfold placeOf place at hr ⊢
  simp only at hq hr ⊢
  refine a2V rfl ?_
  simp (disch:=first | omega | (simp only [m8,o6,o8];done) | (simp only [m8,o6,o8];omega)) only [a6Z,spliced,a5K,List.size_toArray,List.length_cons,List.length_nil,Nat.reduceAdd,Nat.le_refl,true_and,List.drop_succ_cons,List.take_zero,List.drop_nil,List.nil_append,List.append_nil,List.all_cons,List.all_nil,Value.oneCell',Bool.and_self,Nat.zero_add,hp4]
  have hj5:=hJ _ _ _ _ hj4 (below_setRow (Below.refl _ w4) hg #[.int .i64 a2,.int .i64 c2])
  have hgl4:=a2P hp4
  have hp5:(w4.setRow g #[.int .i64 a2,.int .i64 c2]).heap[g]? = some (.cells #[.int .i64 a2,.int .i64 c2] 28):=by simp (disch:=first | omega | (simp only [m8,o6,o8];done) | (simp only [m8,o6,o8];omega)) only [b0r,a2U,hp4]
  have hi5:(w4.setRow g #[.int .i64 a2,.int .i64 c2]).heap[g+1]? = some (.stringIter s (p+(Utf8.decode s p).2)):=by simp (disch:=first | omega | (simp only [m8,o6,o8];done) | (simp only [m8,o6,o8];omega)) only [a2s,hi4]
  have hsz5:w.heap.size≤(w4.setRow g #[.int .i64 a2,.int .i64 c2]).heap.size:=by simp only [o6];omega
  generalize (w4.setRow g #[.int .i64 a2,.int .i64 c2])=w5 at hj5 hp5 hi5 hsz5
  refine a6O ?_
  simp (disch:=first | omega | (simp only [m8,o6,o8];done) | (simp only [m8,o6,o8];omega)) only [a5U,List.size_toArray,List.length_cons,List.length_nil,Nat.reduceAdd,Nat.le_refl,true_and,List.drop_zero,List.take_succ_cons,List.take_nil,Nat.zero_add,hp5]
  refine c7p (hr w5 hsz5 hj5) ?_
  rintro v w6 ⟨ho,hv⟩
  have hp6:=(ho.2 g hg (a2P hp5)).trans hp5
  have hi6:=(ho.2 (g+1) (by omega) (a2P hi5)).trans hi5
  rcases hv with ⟨rfl,hj6⟩ | ⟨rfl,hd6⟩
  ·simp (disch:=first | omega | (simp only [m8,o6,o8];done) | (simp only [m8,o6,o8];omega)) only [c2T,b6G,Bool.not_true]
   exact ⟨⟨_,a2,c2,hj6,Nat.le_trans hsz5 ho.1,hp6,hi6,by omega,by omega,by omega,by omega,hdd⟩,by rw [hi6,hi];show s.size-_ < s.size-_;omega⟩
  ·simp (disch:=first | omega | (simp only [m8,o6,o8];done) | (simp only [m8,o6,o8];omega)) only [c2T,b6F,Bool.not_false]
   exact hd _ hd6
 ·obtain rfl:p=s.size:=by omega
  rw [b9D hi (by omega)]
  simp (disch:=first | omega | (simp only [m8,o6,o8];done) | (simp only [m8,o6,o8];omega)) only [b6G,d4w]
  exact hn _ _ hj
theorem c7C(s:ByteArray)(w:World)(R:Value→World→Prop)(h:R (.func (.func 149) #[] #[.pointer (some ⟨w.heap.size,0,none⟩)]) (w.alloc (.cells #[.string s] 9))):
  Cv Tryz.prog 130 #[.string s] w R:=by
 apply d0P
 unfold c7z
 simp only [b6H,c0F,c0G]
 exact h
set_option maxHeartbeats 2000000 in
theorem d5Q(s:ByteArray)(n:Int)(w:World)(R:Value→World→Prop)(hs:s.size≤4194304)(h:∀w',Ext w w'→R (placeOf (atP s n)) w'):Cv Tryz.prog 98 #[.string s,.int .i64 n] w R:=by
 apply d4S
 unfold F98
 simp (disch:=first | omega | (simp only [m8,o6,o8];done) | (simp only [m8,o6,o8];omega)) only [b6H,m8,c6f,b0s]
 refine b7R (c0K _ _ fun w1 he1=>?_)
 have hE1:Ext w w1:=by
  have h0:Ext w ((w.alloc (.cells #[.int .i64 n] 3)).alloc (.cells #[.int .i64 0,.int .i64 0] 28)):=(by repeat' (first | exact Ext.refl _ | assumption | refine Ext.row ?_ (by first | omega | (simp only [m8,o6,o8];done) | (simp only [m8,o6,o8];omega)) _ | refine Ext.obj ?_ (by first | omega | (simp only [m8,o6,o8];done) | (simp only [m8,o6,o8];omega)) _ | refine Ext.alloc ?_ _))
  exact h0.trans (he1.mono (by simp only [m8];omega))
 have hn1:w1.heap[w.heap.size]? = some (.cells #[.int .i64 n] 3):=(he1.heap (by simp only [m8];omega)).trans (by simp (disch:=first | omega | (simp only [m8,o6,o8];done) | (simp only [m8,o6,o8];omega)) only [a4P,Z0])
 have hr1:w1.heap[w.heap.size+1]? = some (.cells #[.int .i64 0,.int .i64 0] 28):=(he1.heap (by simp only [m8];omega)).trans (by simp (disch:=first | omega | (simp only [m8,o6,o8];done) | (simp only [m8,o6,o8];omega)) only [a4P])
 have hsz1:=a2P hr1
 clear he1
 unfold place
 repeat' (first | (simp (disch:=first | omega | (simp only [m8,o6,o8];done) | (simp only [m8,o6,o8];omega)) only [a4P,a6Z,spliced,a5K,List.size_toArray,List.length_cons,List.length_nil,Nat.reduceAdd,Nat.le_refl,true_and,List.drop_succ_cons,List.take_zero,List.drop_nil,List.nil_append,List.append_nil,List.all_cons,List.all_nil,Value.oneCell',Bool.and_self,Nat.zero_add]) | with_reducible refine a2V rfl ?_ | refine b1k ?_ | refine a6O ?_)
 refine c3S (c7C s _ _ ?_)
 have hE2:Ext w (((w1.alloc (.cells #[.int .i64 0,.int .i64 0] 28)).setRow w1.heap.size #[.int .i64 1,.int .i64 1]).alloc (.cells #[.string s] 9)):=by
  have:=hE1.size
  exact (by repeat' (first | exact Ext.refl _ | assumption | refine Ext.row ?_ (by first | omega | (simp only [m8,o6,o8];done) | (simp only [m8,o6,o8];omega)) _ | refine Ext.obj ?_ (by first | omega | (simp only [m8,o6,o8];done) | (simp only [m8,o6,o8];omega)) _ | refine Ext.alloc ?_ _))
 have hp2:(((w1.alloc (.cells #[.int .i64 0,.int .i64 0] 28)).setRow w1.heap.size #[.int .i64 1,.int .i64 1]).alloc (.cells #[.string s] 9)).heap[w1.heap.size]? = some (.cells #[.int .i64 1,.int .i64 1] 28):=by
  simp (disch:=first | omega | (simp only [m8,o6,o8];done) | (simp only [m8,o6,o8];omega)) only [a4P,Z0,b0r,a2U]
 have hs2:(((w1.alloc (.cells #[.int .i64 0,.int .i64 0] 28)).setRow w1.heap.size #[.int .i64 1,.int .i64 1]).alloc (.cells #[.string s] 9)).heap[w1.heap.size+1]? = some (.cells #[.string s] 9):=by
  simp (disch:=first | omega | (simp only [m8,o6,o8];done) | (simp only [m8,o6,o8];omega)) only [a4P]
 have hn2:(((w1.alloc (.cells #[.int .i64 0,.int .i64 0] 28)).setRow w1.heap.size #[.int .i64 1,.int .i64 1]).alloc (.cells #[.string s] 9)).heap[w.heap.size]? = some (.cells #[.int .i64 n] 3):=by
  simp (disch:=first | omega | (simp only [m8,o6,o8];done) | (simp only [m8,o6,o8];omega)) only [Z0,a2s,hn1]
 have hr2:(((w1.alloc (.cells #[.int .i64 0,.int .i64 0] 28)).setRow w1.heap.size #[.int .i64 1,.int .i64 1]).alloc (.cells #[.string s] 9)).heap[w.heap.size+1]? = some (.cells #[.int .i64 0,.int .i64 0] 28):=by
  simp (disch:=first | omega | (simp only [m8,o6,o8];done) | (simp only [m8,o6,o8];omega)) only [Z0,a2s,hr1]
 have hz:(((w1.alloc (.cells #[.int .i64 0,.int .i64 0] 28)).setRow w1.heap.size #[.int .i64 1,.int .i64 1])).heap.size=w1.heap.size+1:=by
  simp only [m8,o6]
 rw [hz]
 generalize (((w1.alloc (.cells #[.int .i64 0,.int .i64 0] 28)).setRow w1.heap.size #[.int .i64 1,.int .i64 1]).alloc (.cells #[.string s] 9))=w2 at hE2 hp2 hs2 hn2 hr2
 have hg1:w.heap.size+1 < w1.heap.size:=hsz1
 generalize w1.heap.size=g at hp2 hs2 hg1
 clear hE1 hn1 hr1 hsz1 hz
 have hl2:=a2P hs2
 have done:∀(W:World)(c:Obj),Ext w W→W.heap[w2.heap.size]? = some (.deferred (some []))→W.heap[g]? = some (.cells #[.int .i64 (atP s n).1,.int .i64 (atP s n).2] 28)→
   W.heap[w.heap.size+1]? = some (.cells #[.int .i64 0,.int .i64 0] 28)→
   b7Q (.pointer (some ⟨w.heap.size+1,0,none⟩)) (.pointer (some ⟨g,0,none⟩)) (w2.heap.size::[]) (World.setObjAt W (w2.heap.size+1) c) R:=by
  intro W c hx hdm hg hr
  unfold b7Q
  have l1:=a2P hdm
  have l2:=a2P hg
  have l3:=a2P hr
  refine a6O ?_
  simp (disch:=first | omega | (simp only [m8,o6,o8];done) | (simp only [m8,o6,o8];omega)) only [Q5,a5U,List.size_toArray,List.length_cons,List.length_nil,Nat.reduceAdd,Nat.le_refl,true_and,List.drop_zero,List.take_succ_cons,List.take_nil,Nat.zero_add,hg]
  refine a2V rfl ?_
  simp (disch:=first | omega | (simp only [m8,o6,o8];done) | (simp only [m8,o6,o8];omega)) only [Q5,a6Z,spliced,a5K,List.size_toArray,List.length_cons,List.length_nil,Nat.reduceAdd,Nat.le_refl,true_and,List.drop_succ_cons,List.take_zero,List.drop_nil,List.nil_append,List.append_nil,List.all_cons,List.all_nil,Value.oneCell',Bool.and_self,Nat.zero_add,hr]
  unfold closeM closeM
  refine ⟨by simp (disch:=first | omega | (simp only [m8,o6,o8];done) | (simp only [m8,o6,o8];omega)) only [a2s,Q5,hdm],?_⟩
  refine b3T ?_
  simp (disch:=first | omega | (simp only [m8,o6,o8];done) | (simp only [m8,o6,o8];omega)) only [b0r,Q5,a2U,a5U,List.size_toArray,List.length_cons,List.length_nil,Nat.reduceAdd,Nat.le_refl,true_and,List.drop_zero,List.take_succ_cons,List.take_nil,Nat.zero_add,hr]
  exact h _ (by repeat' (first | exact Ext.refl _ | assumption | refine Ext.row ?_ (by first | omega | (simp only [m8,o6,o8];done) | (simp only [m8,o6,o8];omega)) _ | refine Ext.obj ?_ (by first | omega | (simp only [m8,o6,o8];done) | (simp only [m8,o6,o8];omega)) _ | refine Ext.alloc ?_ _))
 refine c6g rfl (fun args w=>Tryz.call149 args w) fun rec hround=>?_
 have hb:((w2.alloc (.deferred (some []))).alloc (.loop (rec .ready none))).heap[g+1]? = some (.cells #[.string s] 9):=by
  simp (disch:=first | omega | (simp only [m8,o6,o8];done) | (simp only [m8,o6,o8];omega)) only [Z0,hs2]
 refine c3U s hs (g+1) _ _ hb
  (fun p q W=>Ext w W∧W.heap[w2.heap.size]? = some (.deferred (some []))∧W.heap[w2.heap.size+1]? = some (.loop (rec .ready none))∧W.heap[g]? = some (.cells #[.int .i64 q.1,.int .i64 q.2] 28)∧
   W.heap[w.heap.size]? = some (.cells #[.int .i64 n] 3)∧W.heap[w.heap.size+1]? = some (.cells #[.int .i64 0,.int .i64 0] 28)∧plcAt s n p q=atP s n)
  (fun W=>Ext w W∧W.heap[w2.heap.size]? = some (.deferred (some []))∧W.heap[w2.heap.size+1]? = some (.loop (rec .done (some (.exit 0))))∧W.heap[g]? = some (.cells #[.int .i64 (atP s n).1,.int .i64 (atP s n).2] 28)∧
   W.heap[w.heap.size+1]? = some (.cells #[.int .i64 0,.int .i64 0] 28)) _ ?_ ?_ ?_ ?_ ?_
 ·rintro p q W W' ⟨h1,h2,h3,h4,h5,h6,h7⟩ hb
  have hk:∀{k o},W.heap[k]? = some o→k < w2.heap.size+2→W'.heap[k]? = some o:=@fun k o ho hlt=>(hb.block k (by simp only [m8];omega)).trans ho
  exact ⟨Below.trans h1 (Below.mono hb (by have:=hE2.size;simp only [m8];omega)),hk h2 (by omega),hk h3 (by omega),hk h4 (by omega),hk h5 (by omega),hk h6 (by omega),h7⟩
 ·exact ⟨Ext.alloc (Ext.alloc hE2 _) _,by simp (disch:=first | omega | (simp only [m8,o6,o8];done) | (simp only [m8,o6,o8];omega)) only [a4P,Z0],by simp (disch:=first | omega | (simp only [m8,o6,o8];done) | (simp only [m8,o6,o8];omega)) only [a4P],by simp (disch:=first | omega | (simp only [m8,o6,o8];done) | (simp only [m8,o6,o8];omega)) only [Z0,hp2],
   by simp (disch:=first | omega | (simp only [m8,o6,o8];done) | (simp only [m8,o6,o8];omega)) only [Z0,hn2],by simp (disch:=first | omega | (simp only [m8,o6,o8];done) | (simp only [m8,o6,o8];omega)) only [Z0,hr2],rfl⟩
 ·rintro p q W hlt hsz ⟨h1,h2,h3,h4,h5,h6,h7⟩
  simp only [m8] at hsz ⊢
  refine hround _ W _ rfl h3 ?_
  unfold placeOf place
  have l2:=a2P h2
  have l3:=a2P h3
  have l4:=a2P h4
  have l5:=a2P h5
  have l6:=a2P h6
  repeat' (first | (simp (disch:=first | omega | (simp only [m8,o6,o8];done) | (simp only [m8,o6,o8];omega)) only [nth,a4P,a6Z,spliced,a5K,List.size_toArray,List.length_cons,List.length_nil,Nat.reduceAdd,Nat.le_refl,true_and,List.drop_succ_cons,List.take_zero,List.drop_nil,List.nil_append,List.append_nil,List.all_cons,List.all_nil,Value.oneCell',Bool.and_self,Nat.zero_add]) | with_reducible refine a2V rfl ?_ | refine b1k ?_ | refine a6O ?_)
  refine ⟨by simp (disch:=first | omega | (simp only [m8,o6,o8];done) | (simp only [m8,o6,o8];omega)) only [Z0,a2s,h3],?_⟩
  have hE3:=h1
  by_cases hge:(n:Int)≤p
  ·rw [b5U s n p q (by omega)] at h7
   repeat' (first | (simp (disch:=first | omega | (simp only [m8,o6,o8];done) | (simp only [m8,o6,o8];omega)) only [c2Q,nth,b6F,c8B,Z0,a2s,Q5,a5U,List.size_toArray,List.length_cons,List.length_nil,Nat.le_refl,true_and,List.drop_zero,List.take_succ_cons,List.take_nil,Nat.zero_add,h5]) | with_reducible refine a2V rfl ?_ | refine b1k ?_ | refine a6O ?_)
   refine ⟨by simp (disch:=first | omega | (simp only [m8,o6,o8];done) | (simp only [m8,o6,o8];omega)) only [b2P],⟨by simp only [m8,o6,o8];omega,fun k hk1 hk2=>by simp (disch:=first | omega | (simp only [m8,o6,o8];done) | (simp only [m8,o6,o8];omega)) only [Z0,a2s,Q5]⟩,.inr ⟨rfl,?_⟩⟩
   have:=h1.size
   exact ⟨(by repeat' (first | exact Ext.refl _ | assumption | refine Ext.row ?_ (by first | omega | (simp only [m8,o6,o8];done) | (simp only [m8,o6,o8];omega)) _ | refine Ext.obj ?_ (by first | omega | (simp only [m8,o6,o8];done) | (simp only [m8,o6,o8];omega)) _ | refine Ext.alloc ?_ _)),by simp (disch:=first | omega | (simp only [m8,o6,o8];done) | (simp only [m8,o6,o8];omega)) only [Z0,a2s,Q5,h2],by simp (disch:=first | omega | (simp only [m8,o6,o8];done) | (simp only [m8,o6,o8];omega)) only [b2P],by simp (disch:=first | omega | (simp only [m8,o6,o8];done) | (simp only [m8,o6,o8];omega)) only [Z0,a2s,Q5,h4,← h7],by simp (disch:=first | omega | (simp only [m8,o6,o8];done) | (simp only [m8,o6,o8];omega)) only [Z0,a2s,Q5,h6]⟩
  ·rw [b7S s n p q hlt (by omega)] at h7
   repeat' (first | (simp (disch:=first | omega | (simp only [m8,o6,o8];done) | (simp only [m8,o6,o8];omega)) only [c2Q,nth,b6G,c8C,a4P,Z0,b0r,a2s,Q5,a2U,a5U,a6Z,spliced,a5K,List.size_toArray,List.length_cons,List.length_nil,Nat.reduceAdd,Nat.le_refl,true_and,List.drop_zero,List.drop_succ_cons,List.take_succ_cons,List.take_zero,List.drop_nil,List.take_nil,List.nil_append,List.append_nil,List.all_cons,List.all_nil,Value.oneCell',Bool.and_self,Nat.zero_add,h4,h5]) | with_reducible refine a2V rfl ?_ | refine b1k ?_ | refine a6O ?_)
   refine ⟨by simp (disch:=first | omega | (simp only [m8,o6,o8];done) | (simp only [m8,o6,o8];omega)) only [a2s,b2P],⟨by simp only [m8,o6,o8];omega,fun k hk1 hk2=>by simp (disch:=first | omega | (simp only [m8,o6,o8];done) | (simp only [m8,o6,o8];omega)) only [Z0,a2s,Q5]⟩,.inl ⟨rfl,?_⟩⟩
   have:=h1.size
   exact ⟨(by repeat' (first | exact Ext.refl _ | assumption | refine Ext.row ?_ (by first | omega | (simp only [m8,o6,o8];done) | (simp only [m8,o6,o8];omega)) _ | refine Ext.obj ?_ (by first | omega | (simp only [m8,o6,o8];done) | (simp only [m8,o6,o8];omega)) _ | refine Ext.alloc ?_ _)),by simp (disch:=first | omega | (simp only [m8,o6,o8];done) | (simp only [m8,o6,o8];omega)) only [Z0,a2s,Q5,h2],by simp (disch:=first | omega | (simp only [m8,o6,o8];done) | (simp only [m8,o6,o8];omega)) only [b2P],by simp (disch:=first | omega | (simp only [m8,o6,o8];done) | (simp only [m8,o6,o8];omega)) only [Z0,b0r,a2s,Q5,a2U,h4],by simp (disch:=first | omega | (simp only [m8,o6,o8];done) | (simp only [m8,o6,o8];omega)) only [Z0,a2s,Q5,h5],by simp (disch:=first | omega | (simp only [m8,o6,o8];done) | (simp only [m8,o6,o8];omega)) only [Z0,a2s,Q5,h6],h7⟩
 ·rintro q W ⟨h1,h2,h3,h4,h5,h6,h7⟩
  rw [b5U s n s.size q (by omega)] at h7
  exact .inl ⟨h3,done W _ h1 h2 (h7 ▸ h4) h6⟩
 ·rintro W ⟨h1,h2,h3,h4,h6⟩
  exact .inr (.inr ⟨0,h3,done W _ h1 h2 h4 h6⟩)
end Go.Proofs.YthklmeihgmcljaaGreatDoor.Od
