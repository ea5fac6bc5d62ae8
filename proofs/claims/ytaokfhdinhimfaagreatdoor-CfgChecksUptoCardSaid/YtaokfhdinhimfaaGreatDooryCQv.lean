/- The laws WellExact, WellParts. Contracts off the printed formulas. -/
import Derived.Test.YtaokfhdinhimfaaGreatDooryCQz
namespace Go.Proofs.YtaokfhdinhimfaaGreatDoor
open Go.RowKit
set_option maxRecDepth 100000
set_option maxHeartbeats 2000000
section
variable {H:Hp}
theorem b9j(q:PP)(k:Int):(ofS q k).length≤q.decls.length:=by
 unfold ofS;split
 ·exact List.length_filter_le _ _
 ·exact Nat.zero_le _
theorem c6C(hT:TabsH H){p:A8}{q:PP}(hp:PH H p q)(hsm:q.Sm){K:Sl→Int→Hp→Prop}(h:∀s H',Hle H H'→SlH H' 1 y9 s ((ofS q 1).map (·.i7))→K s (wellS q).2 H'):a8t p H K:=by
 refine b2N _ ?_
 unfold a6a
 have hb:=hp.bd
 simp only [big] at hb
 have hle:=b9j q 1
 refine c5o hT hp hsm fun s1 H1 l1 hS1 _=>?_
 have n1:=hS1.1
 refine G9 (fun(z:List ByteArray×Int) H'=>0≤z.2∧z.2≤(ofS q 1).length∧H'=H1∧z.1=((ofS q 1).take z.2.toNat).map (·.i7)) (fun z=>((ofS q 1).length-z.2).toNat) ⟨Int.le_refl _,by dsimp only;omega,rfl,rfl⟩ ?_
 rintro ⟨cs,i⟩ H2 next ⟨i0,i1,rfl,hcs⟩ hn
 dsimp only at i0 i1 hcs ⊢
 unfold a1K
 refine ⟨fun c=>?_,fun c=>?_⟩
 ·obtain ⟨x,hx,hE⟩:=hS1.get i0 (by omega)
  have hlt:=M3 hx
  have hcl:cs.length≤(ofS q 1).length:=by rw [hcs,List.length_map,List.length_take];omega
  refine ⟨i0,by omega,x,hE,by simp only [List.length_cons,List.length_nil];omega,?_⟩
  rw [v6 i0 (by omega)]
  refine hn _ _ ⟨by dsimp only;omega,by dsimp only;omega,rfl,?_⟩ (by dsimp only;omega)
  dsimp only
  rw [show (i+1).toNat=i.toNat+1 by omega,J0 hx,List.map_append,← hcs];rfl
 ·unfold a1J
  intro s2 H3 l3 hS3 _
  rw [hcs,List.take_of_length_le (by omega)] at hS3
  exact h s2 H3 (l1.trans l3) hS3
theorem c2S(hT:TabsH H){p:A8}{q:PP}(hp:PH H p q)(hsm:q.Sm){K:Sl→Int→Hp→Prop}(h:∀s H',Hle H H'→SlH H' 2 i5 s (ofS q 2)→K s (wellS q).2 H'):a7q p H K:=by
 refine b2l _ ?_
 unfold a5o
 exact c5o hT hp hsm fun s1 H1 l1 hS1 _=>h s1 H1 l1 hS1
theorem c4i{s s':Sl}{xs:List j8}(h1:SlH H 2 i5 s xs)(h2:SlH H 2 i5 s' xs)(hb:xs.length≤big){K:Bool→Hp→Prop}(h:K true H):a2C s s' H K:=by
 refine a9o _ _ ?_
 unfold a2R
 have n1:=h1.1;have n2:=h2.1
 refine ⟨fun e=>by omega,fun _=>?_⟩
 refine G9 (fun(i:Int) H'=>0≤i∧i≤xs.length∧H'=H) (fun i=>(xs.length-i).toNat) ⟨Int.le_refl _,by omega,rfl⟩ ?_
 rintro i H1 next ⟨i0,i1,rfl⟩ hn
 unfold a0M
 refine ⟨fun hq=>?_,fun hq=>?_⟩
 ·obtain ⟨x,hx,hE⟩:=h1.get i0 hq
  obtain ⟨y,hy,hF⟩:=h2.get i0 (show i < (s'.n:Int) by omega)
  rw [hx] at hy;cases hy
  refine ⟨i0,hq,x,hE,i0,by omega,x,hF,fun e=>(e ⟨rfl,rfl⟩).elim,fun _=>?_⟩
  rw [v6 i0 (by simp only [big] at hb;omega)]
  exact hn _ _ ⟨by omega,by omega,rfl⟩ (by omega)
 ·unfold U6;exact h
end
end Go.Proofs.YtaokfhdinhimfaaGreatDoor
