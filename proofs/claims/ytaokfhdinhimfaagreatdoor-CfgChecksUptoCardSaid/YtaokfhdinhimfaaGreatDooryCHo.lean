/- Graphs handed in, opened. -/
import Derived.Test.YtaokfhdinhimfaaGreatDooryCQo
import Derived.Test.YtaokfhdinhimfaaGreatDooryCHd
namespace Go.Proofs.YtaokfhdinhimfaaGreatDoor
open Go.RowKit Go.ChangeShapes
set_option maxRecDepth 100000
section
variable {Hd:Type}{enc:TypeId×Value→Hd}{W:World}
theorem b6Q{n:Nat}{cs:List Value}{x:DataW Hd×List MemPlace}(h:DataW.trod enc Tryz.prog W 0 (fun _=>true) true n 38 cs=some x):∃o:i6,cs=[.int .i64 o.r9,.int .i64 o.p6]∧a7l o.p6:=by
 obtain ⟨hl,m,g⟩:=a8Z Tryz.underlying38 h
 rw [show Tryz.prog.cellsOf 38=2 by kernel_rfl] at hl
 obtain ⟨a,b,rfl⟩:=b3O hl
 obtain ⟨_,h0,_⟩:=g 0 _ rfl
 obtain ⟨_,h1,_⟩:=g 1 _ rfl
 obtain ⟨z0,q0,_⟩:=a5y (l:=[a,b]) i3 ce3 h0
 obtain ⟨z1,q1,r1⟩:=a5y (l:=[b]) i2 ce2 h1
 simp at q0 q1
 subst q0;subst q1
 exact ⟨⟨z0,z1⟩,rfl,r1⟩
theorem c3l{n:Nat}{cs:List Value}{x:DataW Hd×List MemPlace}(h:DataW.trod enc Tryz.prog W 0 (fun _=>true) true n 40 cs=some x):∃e:c8,cs=f7 e∧a7l e.fA.p6∧a7l e.fB.p6:=by
 obtain ⟨hl,m,g⟩:=a8Z Tryz.underlying40 h
 rw [show Tryz.prog.cellsOf 40=10 by kernel_rfl] at hl
 match cs,hl with
 | [a0,a1,a2,a3,a4,a5,a6,a7,a8,a9],_=>
  obtain ⟨_,h0,_⟩:=g 0 _ rfl
  obtain ⟨_,h1,_⟩:=g 1 _ rfl
  obtain ⟨_,h2,_⟩:=g 2 _ rfl
  obtain ⟨_,h3,_⟩:=g 3 _ rfl
  obtain ⟨_,h4,_⟩:=g 4 _ rfl
  obtain ⟨_,h5,_⟩:=g 5 _ rfl
  obtain ⟨_,h6,_⟩:=g 6 _ rfl
  obtain ⟨_,h7,_⟩:=g 7 _ rfl
  obtain ⟨z0,q0,_⟩:=a5y (l:=[a0,a1,a2,a3,a4,a5,a6,a7,a8,a9]) i3 ce3 h0
  obtain ⟨z1,q1,_⟩:=a5y (l:=[a1,a2,a3,a4,a5,a6,a7,a8,a9]) i3 ce3 h1
  obtain ⟨z2,q2,_⟩:=a5y (l:=[a2,a3,a4,a5,a6,a7,a8,a9]) i3 ce3 h2
  obtain ⟨z3,q3,_⟩:=a5y (l:=[a3,a4,a5,a6,a7,a8,a9]) i3 ce3 h3
  obtain ⟨z4,q4,_⟩:=a5y (l:=[a4,a5,a6,a7,a8,a9]) i3 ce3 h4
  obtain ⟨z5,q5,_⟩:=a5y (l:=[a5,a6,a7,a8,a9]) i3 ce3 h5
  have cO:Tryz.prog.cellsOf 38=2:=by kernel_rfl
  obtain ⟨o6,q6,r6⟩:=b6Q (fldk (t:=38) (l:=[a6,a7,a8,a9]) cO h6)
  obtain ⟨o7,q7,r7⟩:=b6Q (fldk (t:=38) (l:=[a8,a9]) cO h7)
  simp at q0 q1 q2 q3 q4 q5 q6 q7
  obtain ⟨rfl,rfl⟩:=q6
  obtain ⟨rfl,rfl⟩:=q7
  subst q0;subst q1;subst q2;subst q3;subst q4;subst q5
  exact ⟨⟨z0,z1,z2,z3,z4,z5,o6,o7⟩,rfl,r6,r7⟩
theorem c1u{n:Nat}{cs:List Value}{x:DataW Hd×List MemPlace}(h:DataW.trod enc Tryz.prog W 0 (fun _=>true) true n 70 cs=some x):∃d:j8,cs=i5 d:=by
 obtain ⟨hl,m,g⟩:=a8Z Tryz.underlying70 h
 rw [show Tryz.prog.cellsOf 70=2 by kernel_rfl] at hl
 obtain ⟨a,b,rfl⟩:=b3O hl
 obtain ⟨_,h0,_⟩:=g 0 _ rfl
 obtain ⟨_,h1,_⟩:=g 1 _ rfl
 have cS:Tryz.prog.cellsOf 9=1:=by kernel_rfl
 obtain ⟨s,q0,_⟩:=b4M Tryz.underlying9 (fldk (t:=9) (l:=[a,b]) cS h0)
 obtain ⟨z1,q1,_⟩:=a5y (l:=[b]) i3 ce3 h1
 simp at q0 q1
 subst q0;subst q1
 exact ⟨⟨s,z1⟩,rfl⟩
theorem c4t{b:Nat}{v:Value}{d:DataW Hd}{ps:List MemPlace}(hv:Value.okWide Tryz.prog W .any b 30 v)(h:DataW.Trod enc Tryz.prog W 0 (fun _=>true) true 30 v d ps)(hb:Rows.uptoBulk d≤1048576):
  ∃(c:d4)(vs:List ByteArray)(ds:List j8)(es:List c8),v=(Value.agg #[(Value.slice c.p5.a c.p5.n c.p5.c),(Value.int .i64 c.m3),(Value.slice c.m2.a c.m2.n c.m2.c),(Value.int .i64 c.c6),(Value.int .i64 c.p9),(Value.slice c.m4.a c.m4.n c.m4.c)])∧GH (hpW W) c vs ds es∧∀e∈es,a7l e.fA.p6∧a7l e.fB.p6:=by
 obtain ⟨n,h⟩:=c0A h
 have hagg:=b7B Tryz.underlying30 hv
 obtain ⟨hl,m,g⟩:=a8Z Tryz.underlying30 h
 rw [show Tryz.prog.cellsOf 30=6 by kernel_rfl] at hl
 generalize hq:v.cells=q at h hl g hagg
 obtain ⟨l⟩:=q
 match l,hl with
 | [a0,a1,a2,a3,a4,a5],_=>
  obtain ⟨_,h0,b0⟩:=g 0 _ rfl
  obtain ⟨_,h1,_⟩:=g 1 _ rfl
  obtain ⟨_,h2,b2⟩:=g 2 _ rfl
  obtain ⟨_,h3,_⟩:=g 3 _ rfl
  obtain ⟨_,h4,_⟩:=g 4 _ rfl
  obtain ⟨_,h5,b5⟩:=g 5 _ rfl
  obtain ⟨z1,q1,r1⟩:=a5y (l:=[a1,a2,a3,a4,a5]) i3 ce3 h1
  obtain ⟨z3,q3,_⟩:=a5y (l:=[a3,a4,a5]) i3 ce3 h3
  obtain ⟨z4,q4,_⟩:=a5y (l:=[a4,a5]) i3 ce3 h4
  have h0:=fldk (t:=27) (l:=[a0,a1,a2,a3,a4,a5]) (show Tryz.prog.cellsOf 27=1 by kernel_rfl) h0
  have h2:=fldk (t:=22) (l:=[a2,a3,a4,a5]) (show Tryz.prog.cellsOf 22=1 by kernel_rfl) h2
  have h5:=fldk (t:=28) (l:=[a5]) (show Tryz.prog.cellsOf 28=1 by kernel_rfl) h5
  obtain ⟨s0,vs,e0,f0,_,l0,_⟩:=b5B Tryz.underlying27 (show Tryz.prog.cellsOf 9=1 by kernel_rfl) (by decide) y9 (fun _ _=>True) (fun n cs x h=>by
   obtain ⟨s,rfl,_⟩:=b4M Tryz.underlying9 h
   exact ⟨s,rfl,trivial⟩) h0
  obtain ⟨s2,ds,e2,f2,_,l2,_⟩:=b5B Tryz.underlying22 (show Tryz.prog.cellsOf 70=2 by kernel_rfl) (by decide) i5 (fun _ _=>True) (fun n cs x h=>by
   obtain ⟨s,rfl⟩:=c1u h
   exact ⟨s,rfl,trivial⟩) h2
  obtain ⟨s5,es,e5,f5,_,l5,g5⟩:=b5B Tryz.underlying28 (show Tryz.prog.cellsOf 40=10 by kernel_rfl) (by decide) f7 (fun e _=>a7l e.fA.p6∧a7l e.fB.p6) (fun n cs x h=>by
   obtain ⟨s,rfl,hh⟩:=c3l h
   exact ⟨s,rfl,hh⟩) h5
  simp at q1 q3 q4 e0 e2 e5
  subst q1;subst q3;subst q4;subst e0;subst e2;subst e5
  dsimp only at b0 b2 b5
  exact ⟨⟨s0,z1,s2,z3,z4,s5⟩,vs,ds,es,hagg,⟨f0,f2,f5,by omega,by omega,by omega,r1⟩,fun e he=>by obtain ⟨_,hh,_⟩:=g5 e he;exact hh⟩
end
end Go.Proofs.YtaokfhdinhimfaaGreatDoor
