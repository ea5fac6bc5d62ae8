/- Printing, read back: statements' and programs' pieces; a printed text is read as its program, or is too deep. Plain. -/
import Derived.Test.YtoflkliecagjcaaGreatDooryBJ9
namespace Go.Proofs.YtoflkliecagjcaaGreatDoor
open Go.RowKit
set_option maxRecDepth 100000
set_option maxHeartbeats 2000000
def lnP(d:Nat)(l:List Pd):List Pd:=(List.replicate d ([.bl 32,.bl 32]:List Pd)).flatten++l++[.bl 10]
theorem a0z(d:Nat)(l:List Pd):bytd (lnP d l)=lineT d (bytd l):=by
 unfold lnP lineT
 rw [B3,B3]
 congr 2
 induction d with
 | zero=>rfl
 | succ d ih=>rw [List.replicate_succ,List.replicate_succ,List.flatten_cons,List.flatten_cons,B3,ih];rfl
theorem a4A(d:Nat)(l:List Pd):tkd (lnP d l)=tkd l:=by
 unfold lnP
 rw [E3,E3]
 have h:tkd (List.replicate d ([.bl 32,.bl 32]:List Pd)).flatten=[]:=by
  induction d with
  | zero=>rfl
  | succ d ih=>rw [List.replicate_succ,List.flatten_cons,E3,ih];rfl
 rw [h]
 show []++tkd l++[]=tkd l
 rw [List.nil_append,List.append_nil]
theorem a5f(d:Nat){l:List Pd}(h:okD (some 10) l=true)(x:Option UInt8):okD x (lnP d l)=true:=by
 unfold lnP
 refine ok_two (ok_two ?_ h) rfl
 generalize ((bytd l).head?.or _)=y
 induction d with
 | zero=>rfl
 | succ d ih=>rw [List.replicate_succ,List.flatten_cons];exact ok_two rfl ih
def labR(d:Nat):Lab→List (List Pd)→List (List Pd)→List Pd
 | .stmt k s e c t _,ts,ss=>
  if k=1 then lnP d ([.wd s 1,.bl 32,.sg [61],.bl 32]++ts.headD []++[.sg [59]])
  else if k=2 then lnP d ([.wd s 1,.sg [91]]++ts.headD []++[.sg [93],.bl 32,.sg [61],.bl 32]++ts.tail.headD []++[.sg [59]])
  else if k=3 then lnP d ([.wd wIf 3,.bl 32]++ts.headD []++[.bl 32,.sg [123]])++((ss.drop (c+e)).take t).flatten++(if ss.length≤c+e+t then [] else lnP d [.sg [125],.bl 32,.wd wEl 3,.bl 32,.sg [123]]++(ss.drop (c+e+t)).flatten)++lnP d [.sg [125]]
  else if k=4 then lnP d ([.wd wWh 3,.bl 32]++ts.headD []++[.bl 32,.sg [123]])++((ss.drop (c+e)).take t).flatten++lnP d [.sg [125]]
  else if k=5 then lnP d ([.wd wAr 3,.bl 32]++ts.headD []++[.sg [59]])
  else if k=6 then lnP d ([.wd wAm 3,.bl 32]++ts.headD []++[.sg [59]])
  else lnP d [.wd wSk 3,.sg [59]]
 | _,_,_=>[]
mutual
def stP:Nat→PT→List Pd
 | d,.mk l cs=>labR d l (prs cs) (stPs (d+1) cs)
def stPs:Nat→List PT→List (List Pd)
 | _,[]=>[]
 | d,t::ts=>stP d t::stPs d ts
end
theorem b1J(d:Nat):∀ts:List PT,stPs d ts=ts.map (stP d)
 | []=>rfl
 | t::ts=>by rw [stPs,b1J d ts];rfl
theorem a8r:∀l:List (List Pd),bytd l.flatten=(l.map bytd).flatten
 | []=>rfl
 | a::l=>by rw [List.flatten_cons,B3,a8r l,List.map_cons,List.flatten_cons]
theorem c2H(d:Nat)(l:Lab)(ts ss:List (List Pd)):bytd (labR d l ts ss)=labS d l (ts.map bytd) (ss.map bytd):=by
 cases l with
 | decl _ _=>rfl
 | expr _ _ _ _=>rfl
 | cond _ _ _ _=>rfl
 | stmt k s e c t f=>
  have hl:(ss.map bytd).length=ss.length:=List.length_map _
  unfold labR labS
  dsimp only
  split
  ·rw [a0z,B3,B3,a0y]
   show lineT d ((s.data.toList++([32]++([61]++([32]++[]))))++_++([59]++[]))=_
   simp
  split
  ·rw [a0z,B3,B3,B3,B3,a0y,a7W]
   show lineT d ((s.data.toList++([91]++[]))++_++([93]++([32]++([61]++([32]++[]))))++_++([59]++[]))=_
   simp
  split
  ·rw [B3,B3,B3,a0z,a0z,B3,B3,a0y,a8r,List.map_take,List.map_drop,hl]
   congr 2
   split
   ·rfl
   ·rw [B3,a0z,a8r,List.map_drop];rfl
  split
  ·rw [B3,B3,a0z,a0z,B3,B3,a0y,a8r,List.map_take,List.map_drop]
   rfl
  split
  ·rw [a0z,B3,B3,a0y];rfl
  split
  ·rw [a0z,B3,B3,a0y];rfl
  ·rw [a0z];rfl
mutual
theorem c5a:∀(d:Nat)(t:PT),formT t=true→bytd (stP d t)=stx Lib.itoa d t
 | d,.mk l cs,h=>by
  rw [formT,Bool.and_eq_true] at h
  rw [stP,stx,c2H,b2A cs h.2,b1K (d+1) cs h.2]
theorem b1K:∀(d:Nat)(ts:List PT),formTs ts=true→(stPs d ts).map bytd=stxs Lib.itoa d ts
 | d,[],_=>by rw [stPs,stxs];rfl
 | d,t::ts,h=>by
  rw [formTs,Bool.and_eq_true] at h
  rw [stPs,stxs,List.map_cons,c5a d t h.1,b1K d ts h.2]
end
abbrev fsP(d:Nat)(ts:List PT):List Pd:=(ts.map (stP d)).flatten
theorem c5b(d:Nat)(s:ByteArray)(e:PT):stP d (sX 1 s [e] [] [] [])=lnP d ([.wd s 1,.bl 32,.sg [61],.bl 32]++pr e++[.sg [59]]):=rfl
theorem c5c(d:Nat)(s:ByteArray)(i e:PT):stP d (sX 2 s [i,e] [] [] [])=lnP d ([.wd s 1,.sg [91]]++pr i++[.sg [93],.bl 32,.sg [61],.bl 32]++pr e++[.sg [59]]):=rfl
theorem c5d(d:Nat)(c:PT):stP d (sX 5 ⟨#[]⟩ [] [c] [] [])=lnP d ([.wd wAr 3,.bl 32]++pr c++[.sg [59]]):=rfl
theorem c5e(d:Nat)(c:PT):stP d (sX 6 ⟨#[]⟩ [] [c] [] [])=lnP d ([.wd wAm 3,.bl 32]++pr c++[.sg [59]]):=rfl
theorem c5f(d:Nat):stP d (sX 7 ⟨#[]⟩ [] [] [] [])=lnP d [.wd wSk 3,.sg [59]]:=rfl
theorem c5g(d:Nat)(c:PT)(th:List PT):stP d (sX 4 ⟨#[]⟩ [] [c] th [])=lnP d ([.wd wWh 3,.bl 32]++pr c++[.bl 32,.sg [123]])++fsP (d+1) th++lnP d [.sg [125]]:=by
 show labR d (.stmt 4 ⟨#[]⟩ 0 1 th.length 0) (prs (c::([]++(th++[])))) (stPs (d+1) (c::([]++(th++[]))))=_
 rw [b1J,prs,List.nil_append,List.append_nil]
 show lnP d ([.wd wWh 3,.bl 32]++pr c++[.bl 32,.sg [123]])++((((stP (d+1) c::th.map (stP (d+1))).drop (1+0)).take th.length).flatten)++lnP d [.sg [125]]=_
 rw [show (stP (d+1) c::th.map (stP (d+1))).drop (1+0)=th.map (stP (d+1)) from rfl,List.take_of_length_le (by rw [List.length_map];exact Nat.le_refl _)]
theorem c7K(d:Nat)(c:PT)(th el:List PT):stP d (sX 3 ⟨#[]⟩ [] [c] th el)=lnP d ([.wd wIf 3,.bl 32]++pr c++[.bl 32,.sg [123]])++fsP (d+1) th++(if el=[] then [] else lnP d [.sg [125],.bl 32,.wd wEl 3,.bl 32,.sg [123]]++fsP (d+1) el)++lnP d [.sg [125]]:=by
 show labR d (.stmt 3 ⟨#[]⟩ 0 1 th.length el.length) (prs (c::([]++(th++el)))) (stPs (d+1) (c::([]++(th++el))))=_
 rw [b1J,prs,List.nil_append]
 show lnP d ([.wd wIf 3,.bl 32]++pr c++[.bl 32,.sg [123]])++((((stP (d+1) c::(th++el).map (stP (d+1))).drop (1+0)).take th.length).flatten)++(if (stP (d+1) c::(th++el).map (stP (d+1))).length≤1+0+th.length then [] else lnP d [.sg [125],.bl 32,.wd wEl 3,.bl 32,.sg [123]]++((stP (d+1) c::(th++el).map (stP (d+1))).drop (1+0+th.length)).flatten)++lnP d [.sg [125]]=_
 have e1:(stP (d+1) c::(th++el).map (stP (d+1))).drop (1+0)=(th++el).map (stP (d+1)):=rfl
 have e2:(stP (d+1) c::(th++el).map (stP (d+1))).drop (1+0+th.length)=el.map (stP (d+1)):=by
  rw [←List.drop_drop,e1,List.map_append,List.drop_left' (List.length_map _)]
 have e3:((stP (d+1) c::(th++el).map (stP (d+1))).length≤1+0+th.length)↔el=[]:=by
  rw [List.length_cons,List.length_map,List.length_append,← List.length_eq_zero_iff];omega
 rw [e1,e2,List.map_append,List.take_left' (List.length_map _)]
 by_cases h:el=[]
 ·rw [if_pos (by rw [←List.map_append];exact e3.2 h),if_pos h]
 ·rw [if_neg (by rw [←List.map_append];exact fun q=>h (e3.1 q)),if_neg h]
theorem b5F{d:Nat}:∀{ts:List PT},(∀t∈ts,tkd (stP d t)=(tkZ t).map tr3)→tkd (fsP d ts)=(flS ts).map tr3
 | [],_=>rfl
 | t::ts,h=>by
  have ih:=b5F (ts:=ts) fun u hu=>h u (List.mem_cons_of_mem _ hu)
  unfold fsP flS at ih ⊢
  rw [List.map_cons,List.map_cons,List.flatten_cons,List.flatten_cons,E3,List.map_append,ih,h t (by simp)]
theorem d6F{t:PT}(h:XS t):∀d,tkd (stP d t)=(tkZ t).map tr3:=by
 induction h with
 | asg s e he=>intro d;rw [c5b,b5t,a4A,E3,E3,b9z he,List.map_cons,List.map_cons,List.map_append];rfl
 | sto s i e hi he=>intro d;rw [c5c,b5u,a4A,E3,E3,E3,E3,b9z he,b9z hi,List.map_cons,List.map_cons,List.map_append,List.map_cons,List.map_cons,List.map_append];simp only [List.append_assoc];rfl
 | iff c th el hc hth hel ih1 ih2=>
  intro d
  rw [c7K,b7F,E3,E3,E3,a4A,a4A,E3,E3,c2E hc,b5F fun t ht=>ih1 t ht (d+1)]
  by_cases e:el=[]
  ·rw [if_pos e,if_pos e]
   simp only [List.map_cons,List.map_append,List.append_assoc]
   rfl
  ·rw [if_neg e,if_neg e,E3,a4A,b5F fun t ht=>ih2 t ht (d+1)]
   simp only [List.map_cons,List.map_append,List.append_assoc]
   rfl
 | whl c th hc hth ih=>
  intro d
  rw [c5g,b5y,E3,E3,a4A,a4A,E3,E3,c2E hc,b5F fun t ht=>ih t ht (d+1)]
  simp only [List.map_cons,List.map_append,List.append_assoc]
  rfl
 | asr c hc=>intro d;rw [c5d,b5v,a4A,E3,E3,c2E hc,List.map_cons,List.map_append];rfl
 | asm c hc=>intro d;rw [c5e,b5w,a4A,E3,E3,c2E hc,List.map_cons,List.map_append];rfl
 | skp=>intro d;rw [c5f,b5x,a4A];rfl
theorem b7l{s:ByteArray}{k:Int}{a b c d:Nat}(hk:k=1∨k=2)(h:nameOk (.stmt k s a b c d)=true):nameS s=true:=by
 unfold nameOk at h
 rw [if_pos (by show (decide (k=1)||decide (k=2))=true;rcases hk with rfl | rfl<;>rfl)] at h
 exact h
theorem b5G{d:Nat}:∀{ts:List PT},(∀t∈ts,∀x,okD x (stP d t)=true)→∀x,okD x (fsP d ts)=true
 | [],_,_=>rfl
 | t::ts,h,x=>by
  have ih:=b5G (ts:=ts) (fun u hu=>h u (List.mem_cons_of_mem _ hu)) x
  unfold fsP at ih ⊢
  rw [List.map_cons,List.flatten_cons]
  exact ok_two (h t (by simp) _) ih
theorem c5h(x:Option UInt8)(d:Nat):okD x (lnP d [.sg [125]])=true:=a5f d (ok_one (a0s (w:=125) (by decide) (by decide))) x
theorem a7P:okD (some 10) [.sg [59]]=true:=ok_one (a0s (w:=59) (by decide) (by decide))
theorem b3u{s:ByteArray}{l:List Pd}{c:UInt8}(hs:wordS s=true)(h:okD (some c) l=true){r:List Pd}(hr:okD (some 10) r=true)(hc:(bytd r).head? = some c):okD (some 10) ([.wd s 3,.bl 32]++l++r)=true:=by
 refine ok_two (ok_two ?_ ?_) hr
 ·exact a2H (by exact b0g hs a7X) rfl
 ·rw [hc];exact h
theorem d6G{t:PT}(h:XS t):namesT t=true→∀d x,okD x (stP d t)=true:=by
 have o59:offB (some 59)=true:=by decide
 have n59:(some (59:UInt8))≠some 61:=by decide
 have cu:okD (some 10) [.bl 32,.sg [123]]=true:=a2H rfl (ok_one (a0s (w:=123) (by decide) (by decide)))
 induction h with
 | asg s e he=>
  intro hn d x
  rw [c5b]
  refine a5f d (ok_two (ok_two ?_ (by exact b9B he (a0L (t:=e) hn (by simp)) _ o59 n59)) a7P) x
  exact a2H (by exact b3t (b7l (.inl rfl) (a9N hn)) a7X) (a2H rfl (a2H (a0s (w:=61) (by decide) (by show some (32:UInt8)≠some 61;decide)) rfl))
 | sto s i e hi he=>
  intro hn d x
  have hni:=a0L (t:=i) hn (by simp)
  rw [c5c]
  refine a5f d (ok_two (ok_two (ok_two (ok_two ?_ (by exact b9B hi hni _ (by show offB (some 93)=true;decide) (by show some (93:UInt8)≠some 61;decide))) ?_) (by exact b9B he (a0L (t:=e) hn (by simp)) _ o59 n59)) a7P) x
  ·exact a2H (by exact b3t (b7l (.inr rfl) (a9N hn)) (by show offB (some 91)=true;decide)) (ok_one (a0s (w:=91) (by decide) ((b4B hi hni).hd _)))
  ·exact a2H (a0s (w:=93) (by decide) (by show some (32:UInt8)≠some 61;decide)) (a2H rfl (a2H (a0s (w:=61) (by decide) (by show some (32:UInt8)≠some 61;decide)) rfl))
 | iff c th el hc hth hel ih1 ih2=>
  intro hn d x
  have hnc:=a0L (t:=c) hn (by simp)
  rw [c7K]
  refine ok_two (ok_two (ok_two (a5f d (b3u (c:=32) (by kernel_rfl) (c2G hc hnc _ a7X (by decide)) cu rfl) _) (b5G (fun t ht x=>ih1 t ht (a0L hn (by simp [ht])) (d+1) x) _)) ?_) (c5h x d)
  by_cases e:el=[]
  ·rw [if_pos e];rfl
  ·rw [if_neg e]
   refine ok_two (a5f d ?_ _) (b5G (fun t ht x=>ih2 t ht (a0L hn (by simp [ht])) (d+1) x) _)
   exact a2H (a0s (w:=125) (by decide) (by show some (32:UInt8)≠some 61;decide)) (a2H rfl (a2H (by exact b0g (by kernel_rfl) a7X) cu))
 | whl c th hc hth ih=>
  intro hn d x
  have hnc:=a0L (t:=c) hn (by simp)
  rw [c5g]
  exact ok_two (ok_two (a5f d (b3u (c:=32) (by kernel_rfl) (c2G hc hnc _ a7X (by decide)) cu rfl) _) (b5G (fun t ht x=>ih t ht (a0L hn (by simp [ht])) (d+1) x) _)) (c5h x d)
 | asr c hc=>
  intro hn d x
  rw [c5d]
  exact a5f d (b3u (c:=59) (by kernel_rfl) (c2G hc (a0L (t:=c) hn (by simp)) _ o59 n59) a7P rfl) x
 | asm c hc=>
  intro hn d x
  rw [c5e]
  exact a5f d (b3u (c:=59) (by kernel_rfl) (c2G hc (a0L (t:=c) hn (by simp)) _ o59 n59) a7P rfl) x
 | skp=>
  intro _ d x
  rw [c5f]
  exact a5f d (a2H (by exact b0g (by kernel_rfl) o59) a7P) x
theorem a7Q(b:Bool)(o c:UInt8)(l:List Tok):(parT b o c l).length≤l.length+2:=by
 unfold parT
 split<;>simp
theorem b3v(k n:Int)(s:ByteArray)(ts:List PT):cT (eX k n s ts)=cTs ts+1:=by unfold eX;rw [cT];omega
theorem b5H(k n:Int)(ts us:List PT):cT (cX k n ts us)=cTs ts+cTs us+1:=by unfold cX;rw [cT,a9i];omega
theorem b1L(k:Int)(s:ByteArray)(es cs va wa:List PT):cT (sX k s es cs va wa)=cTs es+cTs cs+cTs va+cTs wa+1:=by unfold sX;rw [cT,a9i,a9i,a9i];omega
theorem b0h(t:PT):cTs [t]=cT t:=by rw [cTs,cTs];omega
theorem b7I(t u:PT):cTs [t,u]=cT t+cT u:=by rw [cTs,cTs,cTs];omega
theorem b7J:cTs []=0:=by rw [cTs]
theorem b5I{t:PT}(h:XE t):(tkT t).length≤8*cT t:=by
 induction h with
 | num n _ _=>rw [b9a,b3v];simp only [List.length_cons,List.length_nil];omega
 | var s=>rw [c4L,b3v];simp only [List.length_cons,List.length_nil];omega
 | inp=>rw [c4M,b3v];simp only [List.length_cons,List.length_nil];omega
 | item s e _ ih=>rw [b6k,b3v,b0h];simp only [List.length_cons,List.length_nil,List.length_append];omega
 | neg e _ ih=>
  have:=a7Q (decide (lvE (kindT e) < 3)) 40 41 (tkT e)
  rw [b9b,b3v,b0h];unfold tL;simp only [List.length_cons];omega
 | bin k a b hk _ _ iha ihb=>
  have:=a7Q (decide (lvE (kindT a) < lvE k)) 40 41 (tkT a)
  have:=a7Q (decide (lvE (kindT b) < lvE k+1)) 40 41 (tkT b)
  rw [b2B hk,b3v,b7I];unfold tL;simp only [List.length_cons,List.length_append];omega
theorem b7K{t:PT}(h:XC t):(tkT t).length≤8*cT t:=by
 induction h with
 | tru=>rw [b5H,b7J];show 1≤_;omega
 | fls=>rw [b5H,b7J];show 1≤_;omega
 | cmp op a b _ _ ha hb=>
  have:=b5I ha
  have:=b5I hb
  rw [b5q,b5H,b7I];simp only [List.length_cons,List.length_append];omega
 | not c _ ih=>
  have:=a7Q (decide (lvC (kindT c) < 3)) 91 93 (tkT c)
  rw [b9d,b5H,b0h];unfold cL;simp only [List.length_cons];omega
 | bin k a b hk _ _ iha ihb=>
  have:=a7Q (decide (lvC (kindT a) < lvC k)) 91 93 (tkT a)
  have:=a7Q (decide (lvC (kindT b) < lvC k+1)) 91 93 (tkT b)
  rw [b3q hk,b5H,b7I];unfold cL;simp only [List.length_cons,List.length_append];omega
theorem b2H:∀{ts:List PT},(∀t∈ts,(tkZ t).length≤8*cT t)→(flS ts).length≤8*cTs ts
 | [],_=>Nat.zero_le _
 | t::ts,h=>by
  have ih:=b2H (ts:=ts) fun u hu=>h u (List.mem_cons_of_mem _ hu)
  have:=h t (by simp)
  unfold flS at ih ⊢
  rw [List.map_cons,List.flatten_cons,List.length_append,cTs]
  omega
theorem d4F{t:PT}(h:XS t):(tkZ t).length≤8*cT t:=by
 induction h with
 | asg s e he=>have:=b5I he;rw [b5t,b1L,b0h];simp only [List.length_cons,List.length_nil,List.length_append];omega
 | sto s i e hi he=>have:=b5I he;have:=b5I hi;rw [b5u,b1L,b7I];simp only [List.length_cons,List.length_nil,List.length_append];omega
 | iff c th el hc hth hel ih1 ih2=>
  have:=b7K hc
  have h1:=b2H ih1
  have h2:=b2H ih2
  rw [b7F,b1L,b0h,b7J]
  by_cases e:el=[]
  ·rw [if_pos e];simp only [List.length_cons,List.length_nil,List.length_append];omega
  ·rw [if_neg e];simp only [List.length_cons,List.length_nil,List.length_append];omega
 | whl c th hc hth ih=>
  have:=b7K hc
  have h1:=b2H ih
  rw [b5y,b1L,b0h,b7J];simp only [List.length_cons,List.length_nil,List.length_append];omega
 | asr c hc=>have:=b7K hc;rw [b5v,b1L,b0h];simp only [List.length_cons,List.length_nil,List.length_append];omega
 | asm c hc=>have:=b7K hc;rw [b5w,b1L,b0h];simp only [List.length_cons,List.length_nil,List.length_append];omega
 | skp=>rw [b5x,b1L];simp only [List.length_cons,List.length_nil];omega
def dPd(d:i6):List Pd:=if d.D4=0 then lnP 0 [.wd tVar 3,.bl 32,.wd d.o8 1,.sg [59]] else lnP 0 [.wd tArr 3,.bl 32,.wd d.o8 1,.sg [91],.nb d.D4.toNat,.sg [93],.sg [59]]
def prP(q:PP):List Pd:=(q.decls.map dPd).flatten++fsP 0 q.body
theorem c5i{d:i6}(h:0≤d.D4):bytd (dPd d)=declT Lib.itoa d:=by
 unfold dPd declT
 split
 ·rw [a0z];rfl
 ·rw [a0z]
  congr 1
  show [97,114,114,97,121]++([32]++(d.o8.data.toList++([91]++(Lib.decDigits d.D4.toNat++([93]++([59]++[]))))))=_
  rw [show Lib.itoa d.D4=Lib.decDigits d.D4.toNat by rw [Lib.itoa,if_neg (by omega)]]
  simp
theorem d3N{d:i6}(h:0≤d.D4):tkd (dPd d)=(dTk d).map tr3:=by
 unfold dPd dTk
 split
 ·rw [a4A];rfl
 ·rw [a4A]
  show [((3:Int),tArr,(0:Int)),((1:Int),d.o8,(0:Int)),((4:Int),⟨#[91]⟩,(0:Int)),((2:Int),⟨(Lib.decDigits d.D4.toNat).toArray⟩,((d.D4.toNat:Nat):Int)),((4:Int),⟨#[93]⟩,(0:Int)),((4:Int),⟨#[59]⟩,(0:Int))]=[((3:Int),tArr,(0:Int)),((1:Int),d.o8,(0:Int)),((4:Int),⟨#[91]⟩,(0:Int)),((2:Int),⟨(Lib.itoa d.D4).toArray⟩,d.D4),((4:Int),⟨#[93]⟩,(0:Int)),((4:Int),⟨#[59]⟩,(0:Int))]
  rw [Int.toNat_of_nonneg h,Lib.itoa,if_neg (by omega)]
theorem d3O{d:i6}(h:0≤d.D4)(h1:d.D4≤2147483647)(hn:nameS d.o8=true)(x:Option UInt8):okD x (dPd d)=true:=by
 unfold dPd
 split
 ·exact a5f 0 (a2H (by exact b0g (by kernel_rfl) a7X) (a2H rfl (a2H (by exact b3t hn (by show offB (some 59)=true;decide)) a7P))) x
 ·refine a5f 0 (a2H (by exact b0g (by kernel_rfl) a7X) (a2H rfl (a2H (by exact b3t hn (by show offB (some 91)=true;decide)) (a2H (a0s (w:=91) (by decide) ((Fb1.app (b:=[.sg [93],.sg [59]]) (c4Z d.D4.toNat)).hd _)) (a2H ?_ (a2H (a0s (w:=93) (by decide) (by show some (59:UInt8)≠some 61;decide)) a7P)))))) x
  show (decide (d.D4.toNat < 9223372036854775808)&&offB (some 93))=true
  rw [decide_eq_true (by omega)]
  decide
theorem b3R:∀{ds:List i6},(∀d∈ds,0≤d.D4)→bytd (ds.map dPd).flatten=(ds.map (declT Lib.itoa)).flatten
 | [],_=>rfl
 | d::ds,h=>by rw [List.map_cons,List.flatten_cons,B3,c5i (h d (by simp)),b3R fun x hx=>h x (List.mem_cons_of_mem _ hx)];rfl
theorem b9C:∀{ds:List i6},(∀d∈ds,0≤d.D4)→tkd (ds.map dPd).flatten=((ds.map dTk).flatten).map tr3
 | [],_=>rfl
 | d::ds,h=>by rw [List.map_cons,List.flatten_cons,E3,d3N (h d (by simp)),b9C fun x hx=>h x (List.mem_cons_of_mem _ hx),List.map_cons,List.flatten_cons,List.map_append]
theorem b7m:∀{ds:List i6},(∀d∈ds,0≤d.D4∧d.D4≤2147483647∧nameS d.o8=true)→∀x,okD x (ds.map dPd).flatten=true
 | [],_,_=>rfl
 | d::ds,h,x=>by
  obtain ⟨a,b,c⟩:=h d (by simp)
  rw [List.map_cons,List.flatten_cons]
  exact ok_two (d3O a b c _) (b7m (fun x hx=>h x (List.mem_cons_of_mem _ hx)) x)
theorem d3P(ds:List i6):((ds.map dTk).flatten).length≤8*cTs (ds.map dT):=by
 induction ds with
 | nil=>exact Nat.zero_le _
 | cons d ds ih=>
  rw [List.map_cons,List.flatten_cons,List.length_append,List.map_cons,cTs]
  have:(dTk d).length≤6:=by unfold dTk;split<;>simp
  have:cT (dT d)=1:=by unfold dT;rw [cT,cTs]
  omega
def un3(x:Int×ByteArray×Int):Tok:=⟨x.1,x.2.1,x.2.2,⟨0,0⟩⟩
theorem c2I(d:Nat){ts:List PT}(h:formTs ts=true):bytd (fsP d ts)=(stxs Lib.itoa d ts).flatten:=by
 unfold fsP
 rw [←b1J,a8r,b1K d ts h]
theorem c1x{H:Hp}{p:g9}{q:PP}(hp:PH H p q)(hsm:q.Sm)(ht:toldS q.nodes=0)(hl:(progT Lib.itoa q).length≤lim):((∀t∈q.body,nd t≤40)→ansR progP chkP (bS (progT Lib.itoa q))=.ok q)∧(¬(∀t∈q.body,nd t≤40)→∃pl,ansR progP chkP (bS (progT Lib.itoa q))=.error (41,pl)):=by
 obtain ⟨hcnt,_,hfm,hnm⟩:=(b1H _).1 ht
 obtain ⟨_,_,xs,_,_,hbr⟩:=hp
 have nmm:∀{ts:List PT}{t:PT},namesTs ts=true→t∈ts→namesT t=true:=by
  intro ts t
  induction ts with
  | nil=>intro _ h;cases h
  | cons u ts ih=>
   intro hf h
   rw [namesTs,Bool.and_eq_true] at hf
   rcases List.mem_cons.1 h with rfl | h
   ·exact hf.1
   ·exact ih hf.2 h
 have hds:∀d∈q.decls,0≤d.D4∧d.D4≤2147483647∧nameS d.o8=true:=fun d hd=>by
  have hm:dT d∈q.nodes:=List.mem_append_left _ (List.mem_map.2 ⟨d,hd,rfl⟩)
  obtain ⟨a,b⟩:=c1u (a7d hfm hm)
  refine ⟨a,b,?_⟩
  have h:nameOk (.decl d.D4 d.o8)=true:=a9N (cs:=[]) (nmm hnm hm)
  exact h
 have hbs:∀t∈q.body,XS t∧namesT t=true:=fun t ht=>by
  have hm:t∈q.nodes:=List.mem_append_right _ ht
  obtain ⟨i,hi⟩:=List.mem_iff_getElem?.1 ht
  obtain ⟨v,hv⟩:=O9 (l:=xs) (i:=i) (by have:=P4 hi;have:=hbr.1;omega)
  exact ⟨shS (hbr.2 i v t hv hi) (a7d hfm hm) (hsm t hm),nmm hnm hm⟩
 unfold PP.nodes at hcnt hfm
 rw [a9i] at hcnt
 rw [a2k,Bool.and_eq_true] at hfm
 have hby:bytd (prP q)=progT Lib.itoa q:=by
  unfold prP progT
  rw [B3,b3R fun d hd=>(hds d hd).1,c2I 0 hfm.2]
 have htk:tkd (prP q)=((q.decls.map dTk).flatten++flS q.body).map tr3:=by
  unfold prP
  rw [E3,b9C fun d hd=>(hds d hd).1,b5F fun t ht=>d6F (hbs t ht).1 0,List.map_append]
 have hok:okD none (prP q)=true:=ok_two (b7m hds _) (b5G (fun t ht x=>d6G (hbs t ht).1 (hbs t ht).2 0 x) _)
 have hlen:(tkd (prP q)).length≤32768:=by
  rw [htk,List.length_map,List.length_append]
  have h1:=d3P q.decls
  have h2:=b2H (ts:=q.body) fun t ht=>d4F (hbs t ht).1
  omega
 obtain ⟨l',b,h1,h2⟩:=c9D hok hlen (by rw [hby];exact hl)
 rw [hby] at h1
 have h1:tkS (bS (progT Lib.itoa q))=(l'++[⟨5,⟨#[]⟩,0,b⟩],(0,0),0):=h1
 have he:erL (toks (bS (progT Lib.itoa q)))=erL (tkP q):=by
  show (((tkS (bS (progT Lib.itoa q))).1.map tkv).map er)=_
  rw [h1]
  show ((l'++([⟨5,⟨#[]⟩,0,b⟩]:List Tk)).map tkv).map er=_
  have e1:(l'.map tkv).map er=(l'.map ktn).map un3:=by rw [List.map_map,List.map_map];rfl
  rw [List.map_append,List.map_append,e1,h2,htk]
  unfold tkP erL
  simp only [List.map_append,List.map_map,List.append_assoc]
  rfl
 have hread:eA (readsR progP chkP (toks (bS (progT Lib.itoa q))))=eA (readsR progP chkP (tkP q)):=by
  rw [←b9u Bl.progP,he,b9u Bl.progP]
 have hz:(tkS (bS (progT Lib.itoa q))).2.2=0:=by rw [h1]
 have hans:ansR progP chkP (bS (progT Lib.itoa q))=readsR progP chkP (toks (bS (progT Lib.itoa q))):=by unfold ansR;rw [if_pos hz]
 obtain ⟨r1,r2⟩:=c9K (q:=q) (fun d hd=>⟨(hds d hd).1,(hds d hd).2.1⟩) fun t ht=>(hbs t ht).1
 rw [hans]
 constructor
 ·intro hd
  have e:readsR progP chkP (tkP q)=.ok q:=by
   unfold readsR
   rw [r1 hd]
   show (if (5:Int)≠5 then _ else if chkP q=32 then _ else if chkP q=33 then _ else Except.ok q)=_
   rw [if_neg (by decide),show chkP q=0 from ht]
   rfl
  rw [e] at hread
  cases hq:readsR progP chkP (toks (bS (progT Lib.itoa q))) with
  | error x=>rw [hq] at hread;cases hread
  | ok x=>rw [hq] at hread;cases hread;rfl
 ·intro hd
  obtain ⟨pl,e⟩:=r2 hd
  have e:readsR progP chkP (tkP q)=.error (41,pl):=by unfold readsR;rw [e]
  rw [e] at hread
  cases hq:readsR progP chkP (toks (bS (progT Lib.itoa q))) with
  | error x=>
   rw [hq] at hread
   obtain ⟨c,pl2⟩:=x
   have hread:(Except.error c:Except Int PP)=.error 41:=hread
   cases hread
   exact ⟨pl2,rfl⟩
  | ok x=>rw [hq] at hread;cases hread
end Go.Proofs.YtoflkliecagjcaaGreatDoor
namespace Go.Proofs.YtoflkliecagjcaaGreatDoor
open Go.RowKit
set_option maxRecDepth 100000
set_option maxHeartbeats 2000000
def nbX(n:Int):PT:=.mk (.expr 1 n ⟨#[]⟩ 0) []
def sbX(a b:PT):PT:=.mk (.expr 7 0 ⟨#[]⟩ 2) [a,b]
def knX:PT:=sbX (nbX 1) (sbX (nbX 2) (nbX 3))
theorem itd{n:Nat}(h:n < 10):Lib.itoa (n:Int)=[UInt8.ofNat (48+n)]:=by
 unfold Lib.itoa
 rw [if_neg (by omega),Int.toNat_natCast,Lib.decDigits_one h]
theorem d3Q:tx Lib.itoa knX=[49,32,45,32,40,50,32,45,32,51,41]:=by
 have h1:Lib.itoa 1=[49]:=itd (n:=1) (by decide)
 have h2:Lib.itoa 2=[50]:=itd (n:=2) (by decide)
 have h3:Lib.itoa 3=[51]:=itd (n:=3) (by decide)
 simp [knX,sbX,nbX,tx,txs,labT,kindT,kindL,lvE,par,sgnE,h1,h2,h3]
theorem b9D:formT knX=true:=by
 simp only [knX,sbX,nbX,formT,formTs,formL,formE]
 decide
theorem b9E{n:Int}(h0:0≤n)(h1:n < 10):Sm (nbX n):=.mk ⟨by show 0≤_;omega,by show -9223372036854775808≤n;omega,by show n≤9223372036854775807;omega⟩ (fun t h=>by cases h)
theorem c5j{a b:PT}(ha:Sm a)(hb:Sm b):Sm (sbX a b):=.mk ⟨by show 0≤_;omega,by decide,by decide⟩ fun t h=>by
 rcases List.mem_cons.1 h with rfl | h
 ·exact ha
 ·rw [List.mem_singleton.1 h];exact hb
theorem c5k:Sm knX:=c5j (b9E (by decide) (by decide)) (c5j (b9E (by decide) (by decide)) (b9E (by decide) (by decide)))
theorem c7i:toldS [knX]=0:=by
 refine (b1H _).2 ⟨?_,?_,?_,?_⟩
 ·simp only [knX,sbX,nbX,cTs,cT];decide
 ·simp only [knX,sbX,nbX,dpTs,dpT];decide
 ·rw [formTs,b9D,formTs];rfl
 ·simp only [knX,sbX,nbX,namesTs,namesT,nameOk,nameL];decide
section
variable {H:Hp}
theorem c2J(n:Int):EH H (f8.mk 1 n ⟨#[]⟩ (Sl.mk none 0 0)) (nbX n):=
 EH.mk (ts:=[]) (e:=⟨1,n,⟨#[]⟩,Sl.mk none 0 0⟩) (SlH.nil H _ _) (by simp [big]) rfl (fun i x t h=>by simp at h)
theorem c7L{s:Sl}{e e':f8}{a b:PT}(hs:SlH H 4 f7 s [e,e'])(ha:EH H e a)(hb:EH H e' b):EH H (f8.mk 7 0 ⟨#[]⟩ s) (sbX a b):=
 EH.mk (e:=⟨7,0,⟨#[]⟩,s⟩) hs (by simp [big]) rfl ((u5.one ha).app (u5.one hb)).2
theorem c5l(hT:TabsH H)(hP:PowH H){K:Bool→Hp→Prop}(h:∀H',Hle H H'→K true H'):a2f H K:=by
 refine a8Z ?_
 unfold a4G
 intro s1 H1 l1 h1 _ s2 H2 l2 h2 _
 have he:EH H2 (f8.mk 7 0 ⟨#[]⟩ s2) knX:=c7L h2 (c2J 1) (c7L (h1.le l2) (c2J 2) (c2J 3))
 refine b1U _ ?_
 unfold a7o
 have l12:=l1.trans l2
 refine c8V (hT.le l12) he c5k fun H3 l3=>?_
 rw [b3i,c7i]
 refine ⟨fun c=>(c rfl).elim,fun _=>?_⟩
 refine b4z (hP.le (l12.trans l3)) (he.le l3) b9D c5k _ [] H3 _ (Hle.refl _) (by decide) fun y l' H4 hy l4 hw=>b6R fun y c=>?_
 rw [d3Q] at hw
 unfold Wt at hw
 rw [if_pos (by decide),List.nil_append] at hw
 rw [hw]
 exact h H4 ((l12.trans l3).trans l4)
theorem b9F{q:PP}(h:chkP q=0):eqS q q=true:=by
 have h:toldS q.nodes=0:=h
 have hf:fewP q=true:=d3o (by rw [h];decide) (by rw [h];decide)
 unfold eqS
 rw [hf,c1b.2 rfl,a9G.2 rfl]
 rfl
theorem c5m{s:ByteArray}{b:PP}(h:ansR progP chkP s=.ok b):b.Sm∧chkP b=0∧∀t∈b.body,nd t≤40:=by
 refine ⟨?_,d3p h,?_⟩<;>unfold ansR at h<;>split at h
 ·rename_i he
  unfold readsR at h
  split at h
  ·cases h
  ·rename_i b' r' eo
   have hg:=(b8T _ _ _ (b5n he).2.2 eo).1
   split at h
   ·cases h
   split at h
   ·cases h
   split at h
   ·cases h
   cases h
   exact hg
 ·cases h
 ·unfold readsR at h
  split at h
  ·cases h
  ·rename_i b' r' eo
   have hg:=c6Y _ _ _ eo
   split at h
   ·cases h
   split at h
   ·cases h
   split at h
   ·cases h
   cases h
   exact hg
 ·cases h
theorem b4C{q:PP}(h:toldS q.nodes=0):prS q=if lim < (progT Lib.itoa q).length then (⟨#[]⟩,50) else (bS (progT Lib.itoa q),0):=by unfold prS;rw [if_pos h]
theorem c5n{l:List UInt8}(h:¬lim < l.length):(bS l).size≤4194304:=by
 have h:¬65536 < l.length:=h
 show l.toArray.size≤_
 rw [List.size_toArray]
 omega
theorem b7n(hT:TabsH H)(hP:PowH H)(hE:ErrH H){v:g9}{b:PP}(hv:PH H v b)(hsm:b.Sm)(ht:chkP b=0)(hnd:∀t∈b.body,nd t≤40){K:Bool→Hp→Prop}(h:∀H',Hle H H'→K true H'):
  T2 v H (fun e a f=>(¬(a=0)→K (decide (a=50)) f)∧(a=0→X2 e f (fun g r i l=>T2 g l (fun m j k=>TG (((decide (i=0))&&(decide (j=0)))=true) (a0N v g k) false k (fun(n:Bool)(o:Hp)=>K ((((decide (i=0))&&(decide (j=0)))&&n)&&(decide (e=m))) o))))):=by
 refine b4A hT hP hv hsm fun H1 l1=>?_
 rw [b4C ht]
 by_cases c:lim < (progT Lib.itoa b).length
 ·rw [if_pos c]
  exact ⟨fun _=>h H1 l1,fun q=>absurd q (by decide)⟩
 rw [if_neg c]
 refine ⟨fun q=>(q rfl).elim,fun _=>?_⟩
 refine b4n (hT.le l1) (hE.le l1) (c5n c) ?_
 dsimp only
 rw [(c1x hv hsm ht (Nat.not_lt.1 c)).1 hnd]
 intro H2 w l2 hw
 have l12:=l1.trans l2
 refine b4A (hT.le l12) (hP.le l12) hw hsm fun H3 l3=>?_
 have l13:=l12.trans l3
 rw [b4C ht,if_neg c]
 refine ⟨fun _=>b8H (hT.le l13) (hv.le l13) hsm (hw.le l3) hsm fun H4 l4=>?_,fun q=>absurd rfl q⟩
 rw [b9F ht]
 show K (((true&&true)&&true)&&decide (bS (progT Lib.itoa b)=bS (progT Lib.itoa b))) H4
 rw [decide_eq_true rfl]
 exact h H4 (l13.trans l4)
theorem c7j:toldS []=0:=(b1H _).2 ⟨by rw [cTs];decide,by rw [dpTs];trivial,by rw [formTs],by rw [namesTs]⟩
theorem c9S(hT:TabsH H)(hP:PowH H)(hE:ErrH H){p:g9}{s:ByteArray}(hs:s.size≤4194304){K:Bool→Hp→Prop}(h:∀H',Hle H H'→K true H'):L3 s p H K:=by
 unfold L3
 refine b4n hT hE hs ?_
 cases hq:ansR progP chkP s with
 | error x=>
  obtain ⟨c,pl⟩:=x
  intro H1 l1
  refine ⟨fun _=>h H1 l1,fun _=>b7n (b:=⟨[],[]⟩) (hT.le l1) (hP.le l1) (hE.le l1) ?_ (fun t ht=>by cases ht) c7j (fun t ht=>by cases ht) fun H2 l2=>h H2 (l1.trans l2)⟩
  exact ⟨SlH.nil _ _ _,by decide,[],SlH.nil _ _ _,by decide,rfl,fun i x t h=>by simp at h⟩
 | ok b=>
  obtain ⟨h1,h2,h3⟩:=c5m hq
  intro H1 v l1 hv
  exact ⟨fun q=>(q rfl).elim,fun _=>b7n (hT.le l1) (hP.le l1) (hE.le l1) hv h1 h2 h3 fun H2 l2=>h H2 (l1.trans l2)⟩
theorem b9G(hT:TabsH H)(hP:PowH H)(hE:ErrH H){p:g9}{q:PP}(hp:PH H p q)(hsm:q.Sm){s:ByteArray}(hs:s.size≤1048576){K:Bool→Hp→Prop}(h:∀H',Hle H H'→K true H'):a0B p s H K:=by
 refine a7f _ _ ?_
 unfold a3A
 refine c5l hT hP fun H1 l1=>⟨(fun c=>by cases c),fun _=>?_⟩
 have j1:∀H',Hle H H'→L3 s p H' K:=fun H' l=>c9S (hT.le l) (hP.le l) (hE.le l) (by omega) fun H2 l2=>h H2 (l.trans l2)
 refine b4A (hT.le l1) (hP.le l1) (hp.le l1) hsm fun H2 l2=>?_
 have l12:=l1.trans l2
 by_cases e:toldS q.nodes=0
 rotate_left
 ·have hq:prS q=(⟨#[]⟩,toldS q.nodes):=by unfold prS;rw [if_neg e]
  rw [hq]
  exact ⟨fun q=>(e q).elim,fun _=>j1 H2 l12⟩
 rw [b4C e]
 by_cases c:lim < (progT Lib.itoa q).length
 ·rw [if_pos c]
  exact ⟨fun q=>absurd q (by decide),fun _=>j1 H2 l12⟩
 rw [if_neg c]
 refine ⟨fun _=>?_,fun q=>(q rfl).elim⟩
 obtain ⟨b1,b2⟩:=c1x hp hsm e (Nat.not_lt.1 c)
 refine b4n (hT.le l12) (hE.le l12) (c5n c) ?_
 by_cases hn:∀t∈q.body,nd t≤40
 ·rw [b1 hn]
  intro H3 w l3 hw
  have l13:=l12.trans l3
  refine ⟨fun _=>b8H (hT.le l13) (hp.le l13) hsm hw hsm fun H4 l4=>?_,fun q=>absurd rfl q⟩
  rw [b9F e]
  exact ⟨fun q=>(by cases q),fun _=>j1 H4 (l13.trans l4)⟩
 ·obtain ⟨pl,e2⟩:=b2 hn
  rw [e2]
  intro H3 l3
  exact ⟨fun q=>(by cases q),fun _=>⟨fun q=>(by cases q),fun _=>j1 H3 (l12.trans l3)⟩⟩
end
end Go.Proofs.YtoflkliecagjcaaGreatDoor
