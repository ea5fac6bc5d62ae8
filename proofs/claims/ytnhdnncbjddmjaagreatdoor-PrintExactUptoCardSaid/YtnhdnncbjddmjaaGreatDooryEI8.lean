/- Printing: the law of whole programs' texts. -/
import Derived.Test.YtnhdnncbjddmjaaGreatDooryEI7
namespace Go.Proofs.YtnhdnncbjddmjaaGreatDoor
open Go.RowKit
set_option maxRecDepth 100000
set_option maxHeartbeats 2000000
def nbX(n:Int):PT:=.mk (.expr 1 n ⟨#[]⟩ 0) []
def sbX(a b:PT):PT:=.mk (.expr 7 0 ⟨#[]⟩ 2) [a,b]
def knX:PT:=sbX (nbX 1) (sbX (nbX 2) (nbX 3))
theorem itd{n:Nat}(h:n < 10):Lib.itoa (n:Int)=[UInt8.ofNat (48+n)]:=by
 unfold Lib.itoa
 rw [if_neg (by omega),Int.toNat_natCast,Lib.decDigits_one h]
theorem c0j:tx Lib.itoa knX=[49,32,45,32,40,50,32,45,32,51,41]:=by
 have h1:Lib.itoa 1=[49]:=itd (n:=1) (by decide)
 have h2:Lib.itoa 2=[50]:=itd (n:=2) (by decide)
 have h3:Lib.itoa 3=[51]:=itd (n:=3) (by decide)
 simp [knX,sbX,nbX,tx,txs,labT,kindT,kindL,lvE,par,sgnE,h1,h2,h3]
theorem b2z:formT knX=true:=by
 simp only [knX,sbX,nbX,formT,formTs,formL,formE]
 decide
theorem b2A{n:Int}(h0:0≤n)(h1:n < 10):Sm (nbX n):=.mk ⟨by show 0≤_;omega,by show -9223372036854775808≤n;omega,by show n≤9223372036854775807;omega⟩ (fun t h=>by cases h)
theorem b5v{a b:PT}(ha:Sm a)(hb:Sm b):Sm (sbX a b):=.mk ⟨by show 0≤_;omega,by decide,by decide⟩ fun t h=>by
 rcases List.mem_cons.1 h with rfl | h
 ·exact ha
 ·rw [List.mem_singleton.1 h];exact hb
theorem b5w:Sm knX:=b5v (b2A (by decide) (by decide)) (b5v (b2A (by decide) (by decide)) (b2A (by decide) (by decide)))
theorem b6p:toldS [knX]=0:=by
 refine (a8Q _).2 ⟨?_,?_,?_,?_⟩
 ·simp only [knX,sbX,nbX,cTs,cT];decide
 ·simp only [knX,sbX,nbX,dpTs,dpT];decide
 ·rw [formTs,b2z,formTs];rfl
 ·simp only [knX,sbX,nbX,namesTs,namesT,nameOk,nameL];decide
section
variable {H:Hp}
theorem b3T(n:Int):EH H (d8.mk 1 n ⟨#[]⟩ (Sl.mk none 0 0)) (nbX n):=
 EH.mk (ts:=[]) (e:=⟨1,n,⟨#[]⟩,Sl.mk none 0 0⟩) (SlH.nil H _ _) (by simp [big]) rfl (fun i x t h=>by simp at h)
theorem b6J{s:Sl}{e e':d8}{a b:PT}(hs:SlH H 4 c7 s [e,e'])(ha:EH H e a)(hb:EH H e' b):EH H (d8.mk 7 0 ⟨#[]⟩ s) (sbX a b):=
 EH.mk (e:=⟨7,0,⟨#[]⟩,s⟩) hs (by simp [big]) rfl ((B9.one ha).app (B9.one hb)).2
theorem b5x(hT:TabsH H)(hP:PowH H){K:Bool→Hp→Prop}(h:∀H',Hle H H'→K true H'):a0A H K:=by
 refine a5z ?_
 unfold a0O
 intro s1 H1 l1 h1 _ s2 H2 l2 h2 _
 have he:EH H2 (d8.mk 7 0 ⟨#[]⟩ s2) knX:=b6J h2 (b3T 1) (b6J (h1.le l2) (b3T 2) (b3T 3))
 refine a7E _ ?_
 unfold a2I
 have l12:=l1.trans l2
 refine b7z (hT.le l12) he b5w fun H3 l3=>?_
 rw [b2Z,b6p]
 refine ⟨fun c=>(c rfl).elim,fun _=>?_⟩
 refine a9N (hP.le (l12.trans l3)) (he.le l3) b2z b5w _ [] H3 _ (Hle.refl _) (by decide) fun y l' H4 hy l4 hw=>b0i fun y c=>?_
 rw [c0j] at hw
 unfold Wt at hw
 rw [if_pos (by decide),List.nil_append] at hw
 rw [hw]
 exact h H4 ((l12.trans l3).trans l4)
theorem b0q(hT:TabsH H)(hP:PowH H){p:l9}{q:PP}(hp:PH H p q)(hsm:q.Sm){K:Bool→Hp→Prop}(h:∀H',Hle H H'→K true H'):V0 p H K:=by
 refine a4l _ ?_
 unfold V5
 refine b5x hT hP fun H1 l1=>?_
 refine ⟨(fun c=>by cases c),fun _=>?_⟩
 refine b6o (hT.le l1) (hP.le l1) (hp.le l1) hsm fun H2 l2=>b5u (hp.le (l1.trans l2)) hsm fun H3 l3=>?_
 rw [decide_eq_true rfl,decide_eq_true rfl]
 exact h H3 ((l1.trans l2).trans l3)
end
end Go.Proofs.YtnhdnncbjddmjaaGreatDoor
