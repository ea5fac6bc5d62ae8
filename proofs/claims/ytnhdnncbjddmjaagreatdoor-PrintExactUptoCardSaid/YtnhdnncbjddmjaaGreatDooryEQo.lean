/- The arguments of the trees' laws, opened: expressions, conditions, statements, programs. -/
import Derived.Test.YtnhdnncbjddmjaaGreatDooryEO
import Derived.Test.YtnhdnncbjddmjaaGreatDooryEQ5
namespace Go.Proofs.YtnhdnncbjddmjaaGreatDoor
open Go.RowKit Go.ChangeShapes
set_option maxRecDepth 100000
theorem a5a{α:Type}{R:α→PT→Prop}:∀xs:List α,(∀a∈xs,∃t,R a t∧Sm t)→∃ts,B9 R xs ts∧∀t∈ts,Sm t
 | [],_=>⟨[],B9.nil,fun t h=>by cases h⟩
 | a::xs,h=>by
  obtain ⟨t,h1,h2⟩:=h a List.mem_cons_self
  obtain ⟨ts,h3,h4⟩:=a5a xs fun b hb=>h b (List.mem_cons_of_mem _ hb)
  refine ⟨t::ts,(B9.one h1).app h3,fun u hu=>?_⟩
  rcases List.mem_cons.1 hu with e | hu
  ·rw [e];exact h2
  ·exact h4 u hu
section
variable {Hd:Type}{enc:TypeId×Value→Hd}{P:Program}{W:World}
theorem a3f{α:Type}{t e:TypeId}{sz:Nat}(ht:P.underlying t=some (.slice e))(hs:P.cellsOf e=sz)(h0:0 < sz)(cf:α→List Value)(Good:α→Prop)
  {n:Nat} {cs:List Value} {x:DataW Hd×List MemPlace} (h:DataW.trod enc P W 0 (fun _=>true) true n t cs=some x)
  (oe:∀n cs y,Rows.uptoBulk y.1 < Rows.uptoBulk x.1→DataW.trod enc P W 0 (fun _=>true) true n e cs=some y→∃a,cs=cf a∧Good a):
  ∃(s:Sl)(xs:List α),cs=[.slice s.a s.n s.c]∧SlH (hpW W) sz cf s xs∧s.n≤s.c∧xs.length≤Rows.uptoBulk x.1∧∀a∈xs,Good a:=by
 rcases Deep.open_slice ht h with ⟨rfl,rfl⟩ | ⟨a,len,cap,m,n',D,Pl,rfl,_,hl,_,hm,rfl,hx⟩
 ·exact ⟨⟨none,0,0⟩,[],rfl,SlH.nil _ _ _,Nat.le_refl _,Nat.zero_le _,fun a h=>by cases h⟩
 simp only [if_true] at hm
 subst hm
 rw [hs] at hx
 have hsm:∀k,k < len→Rows.uptoBulk (D k) < Rows.uptoBulk (DataW.slice ((List.range len).map D) ((List.range (m-len)).map fun j=>D (len+j))):=fun k hk=>by
  have:=a8J (List.mem_map.2 ⟨k,List.mem_range.2 hk,rfl⟩:D k∈(List.range len).map D)
  simp only [Rows.uptoBulk]
  omega
 have key:∀k,k≤len→∃xs:List α,xs.length=k∧∀i b,xs[i]? = some b→AtH (hpW W) a.block (a.off+i*sz) (cf b)∧(i=0→a.spot=none)∧Good b:=by
  intro k
  induction k with
  | zero=>exact fun _=>⟨[],rfl,fun i b h=>by simp at h⟩
  | succ k ih=>
   intro hk
   obtain ⟨xs,hxl,hxs⟩:=ih (by omega)
   obtain ⟨cs',h1,h2⟩:=hx k (by omega)
   obtain ⟨b,rfl,hb⟩:=oe _ _ _ (hsm k (by omega)) h2
   obtain ⟨hA,hsp⟩:=c0m h0 h1
   refine ⟨xs++[b],by simp [hxl],fun i c hc=>?_⟩
   by_cases hi:i < xs.length
   ·rw [List.getElem?_append_left hi] at hc;exact hxs i c hc
   ·rw [List.getElem?_append_right (by omega)] at hc
    have:i-xs.length=0:=by
     by_cases hz:i-xs.length=0
     ·exact hz
     ·rw [List.getElem?_eq_none (by simp;omega)] at hc;cases hc
    rw [this] at hc
    simp at hc;subst hc
    obtain rfl:i=k:=by omega
    exact ⟨hA,fun hz=>hsp (by rw [hz];simp),hb⟩
 obtain ⟨xs,hxl,hxs⟩:=key len (Nat.le_refl _)
 have hbl:len≤Rows.uptoBulkAll ((List.range len).map D):=by have:=b0I ((List.range len).map D);simpa using this
 refine ⟨⟨some a,len,_⟩,xs,rfl,⟨hxl.symm,fun i b hb=>?_⟩,hl,?_,fun b hb=>?_⟩
 ·obtain ⟨hA,_,_⟩:=hxs i b hb
  have hi:i < len:=by rw [←hxl];exact (List.getElem?_eq_some_iff.1 hb).1
  have hsp:a.spot=none:=by
   have h00:0 < xs.length:=by omega
   exact (hxs 0 xs[0] (List.getElem?_eq_getElem h00)).2.1 rfl
  refine ⟨a.block,a.off,?_,?_⟩
  ·show some a=_
   cases a;simp at hsp;subst hsp;rfl
  ·rw [Int.toNat_natCast];exact hA
 ·show xs.length≤Rows.uptoBulk (.slice _ _)
  simp only [Rows.uptoBulk]
  omega
 ·obtain ⟨i,hi,rfl⟩:=List.mem_iff_getElem.1 hb
  exact (hxs i _ (List.getElem?_eq_getElem hi)).2.2
theorem a3M{t:TypeId}{fs:Array Field}(ht:P.underlying t=some (.struct fs)){n:Nat}{cs:List Value}{x:DataW Hd×List MemPlace}(h:DataW.trod enc P W 0 (fun _=>true) true n t cs=some x):
  cs.length=P.cellsOf t∧∃m,∀(i:Nat)(f:Field),fs[i]? = some f→∃y,DataW.trod enc P W 0 (fun _=>true) true m f.type ((cs.drop f.offset).take (P.cellsOf f.type))=some y∧Rows.uptoBulk y.1 < Rows.uptoBulk x.1:=by
 obtain ⟨xs,m,_,rfl,hl,hxl,hg⟩:=DataW.trod_struct ht h
 refine ⟨hl,m,fun i f hf=>?_⟩
 have hi:i < xs.length:=by rw [hxl];exact (Array.getElem?_eq_some_iff.1 hf).1
 refine ⟨xs[i],by rw [hg i f hf,List.getElem?_eq_getElem hi],?_⟩
 have:=a8J (List.mem_map.2 ⟨xs[i],List.getElem_mem hi,rfl⟩:xs[i].1∈xs.map (·.1))
 show _ < Rows.uptoBulk (.agg _)
 simp only [Rows.uptoBulk]
 omega
end
section
variable {Hd:Type}{enc:TypeId×Value→Hd}{W:World}
theorem a6P{t:TypeId}(ht:Tryz.prog.underlying t=some (.int .i64))(hc:Tryz.prog.cellsOf t=1){n:Nat}{l:List Value}{x:DataW Hd×List MemPlace}(h:DataW.trod enc Tryz.prog W 0 (fun _=>true) true n t (l.take (Tryz.prog.cellsOf t))=some x):∃z:Int,l.take 1=[.int .i64 z]∧a7J z:=by
 rw [hc] at h
 obtain ⟨z,hz,a,b⟩:=b6U ht h
 exact ⟨z,hz,a,b⟩
theorem fldk{t k:Nat}(hc:Tryz.prog.cellsOf t=k){n:Nat}{l:List Value}{x:DataW Hd×List MemPlace}(h:DataW.trod enc Tryz.prog W 0 (fun _=>true) true n t (l.take (Tryz.prog.cellsOf t))=some x):DataW.trod enc Tryz.prog W 0 (fun _=>true) true n t (l.take k)=some x:=by rwa [hc] at h
theorem i3:Tryz.prog.underlying 3=some (.int .i64):=Tryz.underlying3
theorem i2:Tryz.prog.underlying 2=some (.int .i64):=Tryz.underlying2
theorem ce3:Tryz.prog.cellsOf 3=1:=by kernel_rfl
theorem ce2:Tryz.prog.cellsOf 2=1:=by kernel_rfl
theorem ceS:Tryz.prog.cellsOf 9=1:=by kernel_rfl
theorem ceE:Tryz.prog.cellsOf 34=1:=by kernel_rfl
theorem ceC:Tryz.prog.cellsOf 49=1:=by kernel_rfl
theorem ceT:Tryz.prog.cellsOf 23=1:=by kernel_rfl
theorem ceD:Tryz.prog.cellsOf 22=1:=by kernel_rfl
theorem b2l{n:Nat}{l:List Value}{x:DataW Hd×List MemPlace}(h:DataW.trod enc Tryz.prog W 0 (fun _=>true) true n 9 (l.take (Tryz.prog.cellsOf 9))=some x):∃s:ByteArray,l.take 1=[.string s]∧s.size < Rows.uptoBulk x.1:=by
 rw [ceS] at h
 exact b3o Tryz.underlying9 h
theorem b5h{n:Nat}{cs:List Value}{x:DataW Hd×List MemPlace}(h:DataW.trod enc Tryz.prog W 0 (fun _=>true) true n 46 cs=some x):∃d:G4,cs=u7 d∧a7J d.L3∧d.f4.size < Rows.uptoBulk x.1:=by
 obtain ⟨hl,m,g⟩:=a3M Tryz.underlying46 h
 rw [show Tryz.prog.cellsOf 46=2 by kernel_rfl] at hl
 match cs,hl with
 | [a,b],_=>
 obtain ⟨_,h0,b0⟩:=g 0 _ rfl
 obtain ⟨_,h1,_⟩:=g 1 _ rfl
 obtain ⟨s,q0,l0⟩:=b2l (l:=[a,b]) h0
 obtain ⟨z1,q1,r1⟩:=a6P (l:=[b]) i3 ce3 h1
 simp at q0 q1
 subst q0;subst q1
 exact ⟨⟨s,z1⟩,rfl,r1,by dsimp only;omega⟩
theorem b5i:∀(b:Nat),b≤1048576→∀{n:Nat}{cs:List Value}{x:DataW Hd×List MemPlace},Rows.uptoBulk x.1≤b→DataW.trod enc Tryz.prog W 0 (fun _=>true) true n 36 cs=some x→∃e:d8,cs=c7 e∧∃t,EH (hpW W) e t∧Sm t:=by
 intro b
 induction b with
 | zero=>intro _ n cs x hx;have:=a6Y x.1;omega
 | succ b ih=>
  intro hb n cs x hx h
  obtain ⟨hl,m,g⟩:=a3M Tryz.underlying36 h
  rw [show Tryz.prog.cellsOf 36=4 by kernel_rfl] at hl
  match cs,hl with
  | [a0,a1,a2,a3],_=>
  obtain ⟨_,h0,_⟩:=g 0 _ rfl
  obtain ⟨_,h1,_⟩:=g 1 _ rfl
  obtain ⟨y2,h2,l2⟩:=g 2 _ rfl
  obtain ⟨y3,h3,l3⟩:=g 3 _ rfl
  obtain ⟨z0,q0,_⟩:=a6P (l:=[a0,a1,a2,a3]) i3 ce3 h0
  obtain ⟨z1,q1,r1⟩:=a6P (l:=[a1,a2,a3]) i2 ce2 h1
  obtain ⟨s2,q2,r2⟩:=b2l (l:=[a2,a3]) h2
  obtain ⟨s3,xs,q3,hS,_,hlen,hg⟩:=a3f Tryz.underlying34 (show Tryz.prog.cellsOf 36=4 by kernel_rfl) (by decide) c7 (fun e=>∃t,EH (hpW W) e t∧Sm t) (fldk (l:=[a3]) ceE h3) (fun n cs y hy h=>ih (by omega) (by omega) h)
  simp at q0 q1 q2 q3
  subst q0;subst q1;subst q2;subst q3
  obtain ⟨ts,hr,hsm⟩:=a5a xs hg
  exact ⟨⟨z0,z1,s2,s3⟩,rfl,_,EH.mk (e:=⟨z0,z1,s2,s3⟩) hS (by simp only [big];omega) hr.1 hr.2,.mk ⟨by show s2.size≤sml;simp only [sml];omega,r1⟩ hsm⟩
theorem a9g{b:Nat}(hb:b≤1048576){n:Nat}{cs:List Value}{x:DataW Hd×List MemPlace}(hx:Rows.uptoBulk x.1≤b)(h:DataW.trod enc Tryz.prog W 0 (fun _=>true) true n 34 cs=some x):
  ∃(s:Sl)(xs:List d8)(ts:List PT),cs=[.slice s.a s.n s.c]∧SlH (hpW W) 4 c7 s xs∧xs.length≤big∧B9 (EH (hpW W)) xs ts∧∀t∈ts,Sm t:=by
 obtain ⟨s3,xs,q3,hS,_,hlen,hg⟩:=a3f Tryz.underlying34 (show Tryz.prog.cellsOf 36=4 by kernel_rfl) (by decide) c7 (fun e=>∃t,EH (hpW W) e t∧Sm t) h (fun n cs y hy h=>b5i b hb (by omega) h)
 obtain ⟨ts,hr,hsm⟩:=a5a xs hg
 exact ⟨s3,xs,ts,q3,hS,by simp only [big];omega,hr,hsm⟩
theorem a6Q{a b:List PT}(ha:∀t∈a,Sm t)(hb:∀t∈b,Sm t):∀t∈a++b,Sm t:=fun t h=>(List.mem_append.1 h).elim (ha t) (hb t)
theorem b5j:(⟨#[]⟩:ByteArray).size≤sml:=by decide
theorem b5k:∀(b:Nat),b≤1048576→∀{n:Nat}{cs:List Value}{x:DataW Hd×List MemPlace},Rows.uptoBulk x.1≤b→DataW.trod enc Tryz.prog W 0 (fun _=>true) true n 71 cs=some x→∃e:f9,cs=c9 e∧∃t,CH (hpW W) e t∧Sm t:=by
 intro b
 induction b with
 | zero=>intro _ n cs x hx;have:=a6Y x.1;omega
 | succ b ih=>
  intro hb n cs x hx h
  obtain ⟨hl,m,g⟩:=a3M Tryz.underlying71 h
  rw [show Tryz.prog.cellsOf 71=4 by kernel_rfl] at hl
  match cs,hl with
  | [a0,a1,a2,a3],_=>
  obtain ⟨_,h0,_⟩:=g 0 _ rfl
  obtain ⟨_,h1,_⟩:=g 1 _ rfl
  obtain ⟨y2,h2,l2⟩:=g 2 _ rfl
  obtain ⟨y3,h3,l3⟩:=g 3 _ rfl
  obtain ⟨z0,q0,_⟩:=a6P (l:=[a0,a1,a2,a3]) i3 ce3 h0
  obtain ⟨z1,q1,r1⟩:=a6P (l:=[a1,a2,a3]) i3 ce3 h1
  obtain ⟨s2,xs,ts,q2,hE,hEl,hEr,hEs⟩:=a9g (b:=b+1) hb (by omega) (fldk (l:=[a2,a3]) ceE h2)
  obtain ⟨s3,ys,q3,hS,_,hlen,hg⟩:=a3f Tryz.underlying49 (show Tryz.prog.cellsOf 71=4 by kernel_rfl) (by decide) c9 (fun e=>∃t,CH (hpW W) e t∧Sm t) (fldk (l:=[a3]) ceC h3) (fun n cs y hy h=>ih (by omega) (by omega) h)
  simp at q0 q1 q2 q3
  subst q0;subst q1;subst q2;subst q3
  obtain ⟨us,hr,hsm⟩:=a5a ys hg
  exact ⟨⟨z0,z1,s2,s3⟩,rfl,_,CH.mk (c:=⟨z0,z1,s2,s3⟩) hE hEl hEr hS (by simp only [big];omega) hr.1 hr.2,.mk ⟨b5j,z64⟩ (a6Q hEs hsm)⟩
theorem b3N{b:Nat}(hb:b≤1048576){n:Nat}{cs:List Value}{x:DataW Hd×List MemPlace}(hx:Rows.uptoBulk x.1≤b)(h:DataW.trod enc Tryz.prog W 0 (fun _=>true) true n 49 cs=some x):
  ∃(s:Sl)(xs:List f9)(ts:List PT),cs=[.slice s.a s.n s.c]∧SlH (hpW W) 4 c9 s xs∧xs.length≤big∧B9 (CH (hpW W)) xs ts∧∀t∈ts,Sm t:=by
 obtain ⟨s3,xs,q3,hS,_,hlen,hg⟩:=a3f Tryz.underlying49 (show Tryz.prog.cellsOf 71=4 by kernel_rfl) (by decide) c9 (fun e=>∃t,CH (hpW W) e t∧Sm t) h (fun n cs y hy h=>b5k b hb (by omega) h)
 obtain ⟨ts,hr,hsm⟩:=a5a xs hg
 exact ⟨s3,xs,ts,q3,hS,by simp only [big];omega,hr,hsm⟩
theorem b5l:∀(b:Nat),b≤1048576→∀{n:Nat}{cs:List Value}{x:DataW Hd×List MemPlace},Rows.uptoBulk x.1≤b→DataW.trod enc Tryz.prog W 0 (fun _=>true) true n 51 cs=some x→∃e:i6,cs=d7 e∧∃t,SH (hpW W) e t∧Sm t:=by
 intro b
 induction b with
 | zero=>intro _ n cs x hx;have:=a6Y x.1;omega
 | succ b ih=>
  intro hb n cs x hx h
  obtain ⟨hl,m,g⟩:=a3M Tryz.underlying51 h
  rw [show Tryz.prog.cellsOf 51=6 by kernel_rfl] at hl
  match cs,hl with
  | [a0,a1,a2,a3,a4,a5],_=>
  obtain ⟨_,h0,_⟩:=g 0 _ rfl
  obtain ⟨_,h1,l1⟩:=g 1 _ rfl
  obtain ⟨y2,h2,l2⟩:=g 2 _ rfl
  obtain ⟨y3,h3,l3⟩:=g 3 _ rfl
  obtain ⟨y4,h4,l4⟩:=g 4 _ rfl
  obtain ⟨y5,h5,l5⟩:=g 5 _ rfl
  obtain ⟨z0,q0,_⟩:=a6P (l:=[a0,a1,a2,a3,a4,a5]) i3 ce3 h0
  obtain ⟨s1,q1,r1⟩:=b2l (l:=[a1,a2,a3,a4,a5]) h1
  obtain ⟨s2,xs,ts,q2,hE,hEl,hEr,hEs⟩:=a9g (b:=b+1) hb (by omega) (fldk (l:=[a2,a3,a4,a5]) ceE h2)
  obtain ⟨s3,ys,us,q3,hC,hCl,hCr,hCs⟩:=b3N (b:=b+1) hb (by omega) (fldk (l:=[a3,a4,a5]) ceC h3)
  obtain ⟨s4,zs,q4,hS,_,hlen,hg⟩:=a3f Tryz.underlying23 (show Tryz.prog.cellsOf 51=6 by kernel_rfl) (by decide) d7 (fun e=>∃t,SH (hpW W) e t∧Sm t) (fldk (l:=[a4,a5]) ceT h4) (fun n cs y hy h=>ih (by omega) (by omega) h)
  obtain ⟨s5,bs,q5,hS',_,hlen',hg'⟩:=a3f Tryz.underlying23 (show Tryz.prog.cellsOf 51=6 by kernel_rfl) (by decide) d7 (fun e=>∃t,SH (hpW W) e t∧Sm t) (fldk (l:=[a5]) ceT h5) (fun n cs y hy h=>ih (by omega) (by omega) h)
  simp at q0 q1 q2 q3 q4 q5
  subst q0;subst q1;subst q2;subst q3;subst q4;subst q5
  obtain ⟨vs,hr,hsm⟩:=a5a zs hg
  obtain ⟨ws,hr',hsm'⟩:=a5a bs hg'
  exact ⟨⟨z0,s1,s2,s3,s4,s5⟩,rfl,_,SH.mk (s:=⟨z0,s1,s2,s3,s4,s5⟩) hE hEl hEr hC hCl hCr hS (by simp only [big];omega) hr.1 hr.2 hS' (by simp only [big];omega) hr'.1 hr'.2,.mk ⟨by show s1.size≤sml;simp only [sml];omega,z64⟩ (a6Q hCs (a6Q hEs (a6Q hsm hsm')))⟩
theorem b3O{b:Nat}{v:Value}{d:DataW Hd}{ps:List MemPlace}(hv:Value.okWide Tryz.prog W .any b 25 v)(h:DataW.Trod enc Tryz.prog W 0 (fun _=>true) true 25 v d ps)(hb:Rows.uptoBulk d≤1048576):
  ∃(p:l9)(q:PP),v=.agg (o8 p).toArray∧PH (hpW W) p q∧q.Sm∧p.G1.n≤p.G1.c∧p.Z1.n≤p.Z1.c:=by
 obtain ⟨n,h⟩:=b3n h
 have hagg:=b0J Tryz.underlying25 hv
 obtain ⟨hl,m,g⟩:=a3M Tryz.underlying25 h
 rw [show Tryz.prog.cellsOf 25=2 by kernel_rfl] at hl
 generalize hq:v.cells=q at h hl g hagg
 obtain ⟨l⟩:=q
 match l,hl with
 | [a0,a1],_=>
 obtain ⟨y0,h0,l0⟩:=g 0 _ rfl
 obtain ⟨y1,h1,l1⟩:=g 1 _ rfl
 obtain ⟨s0,xs,q0,hS,hc0,hlen,hg⟩:=a3f Tryz.underlying22 (show Tryz.prog.cellsOf 46=2 by kernel_rfl) (by decide) u7 (fun e=>e.f4.size≤1048576) (fldk (l:=[a0,a1]) ceD h0) (fun n cs y hy h=>by
  obtain ⟨e,h1,_,h2⟩:=b5h h
  dsimp only at l0
  exact ⟨e,h1,by omega⟩)
 obtain ⟨s1,zs,q1,hS',hc1,hlen',hg'⟩:=a3f Tryz.underlying23 (show Tryz.prog.cellsOf 51=6 by kernel_rfl) (by decide) d7 (fun e=>∃t,SH (hpW W) e t∧Sm t) (fldk (l:=[a1]) ceT h1) (fun n cs y hy h=>b5l 1048576 (Nat.le_refl _) (by dsimp only at l1;omega) h)
 simp at q0 q1
 subst q0;subst q1
 obtain ⟨vs,hr,hsm⟩:=a5a zs hg'
 dsimp only at l0 l1
 refine ⟨⟨s0,s1⟩,⟨xs,vs⟩,hagg,⟨hS,by simp only [big];omega,zs,hS',by simp only [big];omega,hr⟩,a6Q (fun t ht=>?_) hsm,hc0,hc1⟩
 obtain ⟨e,he,rfl⟩:=List.mem_map.1 ht
 exact .mk ⟨by show e.f4.size≤sml;have:=hg e he;simp only [sml];omega,z64⟩ fun t ht=>by cases ht
theorem b5m{b:Nat}{v:Value}{d:DataW Hd}{ps:List MemPlace}(hv:Value.okWide Tryz.prog W .any b 25 v)(h:DataW.Trod enc Tryz.prog W 0 (fun _=>true) true 25 v d ps)(hb:Rows.uptoBulk d≤1048576):
  ∃(p:l9)(q:PP),v=.agg (o8 p).toArray∧PH (hpW W) p q∧q.Sm:=by
 obtain ⟨p,q,h1,h2,h3,_⟩:=b3O hv h hb
 exact ⟨p,q,h1,h2,h3⟩
end
end Go.Proofs.YtnhdnncbjddmjaaGreatDoor
