/- The arguments of the trees' laws, opened: expressions, conditions, statements, programs. -/
import Derived.Test.YtpgelfheccpejaaDooryCO
import Derived.Test.YtpgelfheccpejaaDooryCQ5
namespace Go.Proofs.YtpgelfheccpejaaDoor
open Go.RowKit Go.ChangeShapes
set_option maxRecDepth 100000
theorem a5e{α:Type}{R:α→PT→Prop}:∀xs:List α,(∀a∈xs,∃t,R a t∧Sm t)→∃ts,q7 R xs ts∧∀t∈ts,Sm t
 | [],_=>⟨[],q7.nil,fun t h=>by cases h⟩
 | a::xs,h=>by
  obtain ⟨t,h1,h2⟩:=h a List.mem_cons_self
  obtain ⟨ts,h3,h4⟩:=a5e xs fun b hb=>h b (List.mem_cons_of_mem _ hb)
  refine ⟨t::ts,(q7.one h1).app h3,fun u hu=>?_⟩
  rcases List.mem_cons.1 hu with e | hu
  ·rw [e];exact h2
  ·exact h4 u hu
section
variable {Hd:Type}{enc:TypeId×Value→Hd}{P:Program}{W:World}
theorem a3y{α:Type}{t e:TypeId}{sz:Nat}(ht:P.underlying t=some (.slice e))(hs:P.cellsOf e=sz)(h0:0 < sz)(cf:α→List Value)(Good:α→Prop)
  {n:Nat} {cs:List Value} {x:DataW Hd×List MemPlace} (h:DataW.trod enc P W 0 (fun _=>true) true n t cs=some x)
  (oe:∀n cs y,Rows.uptoBulk y.1 < Rows.uptoBulk x.1→DataW.trod enc P W 0 (fun _=>true) true n e cs=some y→∃a,cs=cf a∧Good a):
  ∃(s:Sl)(xs:List α),cs=[.slice s.a s.n s.c]∧SlH (hpW W) sz cf s xs∧s.n≤s.c∧xs.length≤Rows.uptoBulk x.1∧∀a∈xs,Good a:=by
 rcases Deep.open_slice ht h with ⟨rfl,rfl⟩ | ⟨a,len,cap,m,n',D,Pl,rfl,_,hl,_,hm,rfl,hx⟩
 ·exact ⟨⟨none,0,0⟩,[],rfl,SlH.nil _ _ _,Nat.le_refl _,Nat.zero_le _,fun a h=>by cases h⟩
 simp only [if_true] at hm
 subst hm
 rw [hs] at hx
 have hsm:∀k,k < len→Rows.uptoBulk (D k) < Rows.uptoBulk (DataW.slice ((List.range len).map D) ((List.range (m-len)).map fun j=>D (len+j))):=fun k hk=>by
  have:=a8I (List.mem_map.2 ⟨k,List.mem_range.2 hk,rfl⟩:D k∈(List.range len).map D)
  simp only [Rows.uptoBulk]
  omega
 have key:∀k,k≤len→∃xs:List α,xs.length=k∧∀i b,xs[i]? = some b→AtH (hpW W) a.block (a.off+i*sz) (cf b)∧(i=0→a.spot=none)∧Good b:=by
  intro k
  induction k with
  | zero=>exact fun _=>⟨[],rfl,fun i b h=>by simp at h⟩
  | succ k ih=>
   intro hk
   obtain ⟨xs,hxl,hxs⟩:=ih (by omega)
   obtain ⟨cs',h1,h2⟩:=hx k (by omega)
   obtain ⟨b,rfl,hb⟩:=oe _ _ _ (hsm k (by omega)) h2
   obtain ⟨hA,hsp⟩:=b9O h0 h1
   refine ⟨xs++[b],by simp [hxl],fun i c hc=>?_⟩
   by_cases hi:i < xs.length
   ·rw [List.getElem?_append_left hi] at hc;exact hxs i c hc
   ·rw [List.getElem?_append_right (by omega)] at hc
    have:i-xs.length=0:=by
     by_cases hz:i-xs.length=0
     ·exact hz
     ·rw [List.getElem?_eq_none (by simp;omega)] at hc;cases hc
    rw [this] at hc
    simp at hc;subst hc
    obtain rfl:i=k:=by omega
    exact ⟨hA,fun hz=>hsp (by rw [hz];simp),hb⟩
 obtain ⟨xs,hxl,hxs⟩:=key len (Nat.le_refl _)
 have hbl:len≤Rows.uptoBulkAll ((List.range len).map D):=by have:=b0E ((List.range len).map D);simpa using this
 refine ⟨⟨some a,len,_⟩,xs,rfl,⟨hxl.symm,fun i b hb=>?_⟩,hl,?_,fun b hb=>?_⟩
 ·obtain ⟨hA,_,_⟩:=hxs i b hb
  have hi:i < len:=by rw [←hxl];exact (List.getElem?_eq_some_iff.1 hb).1
  have hsp:a.spot=none:=by
   have h00:0 < xs.length:=by omega
   exact (hxs 0 xs[0] (List.getElem?_eq_getElem h00)).2.1 rfl
  refine ⟨a.block,a.off,?_,?_⟩
  ·show some a=_
   cases a;simp at hsp;subst hsp;rfl
  ·rw [Int.toNat_natCast];exact hA
 ·show xs.length≤Rows.uptoBulk (.slice _ _)
  simp only [Rows.uptoBulk]
  omega
 ·obtain ⟨i,hi,rfl⟩:=List.mem_iff_getElem.1 hb
  exact (hxs i _ (List.getElem?_eq_getElem hi)).2.2
theorem a3Y{t:TypeId}{fs:Array Field}(ht:P.underlying t=some (.struct fs)){n:Nat}{cs:List Value}{x:DataW Hd×List MemPlace}(h:DataW.trod enc P W 0 (fun _=>true) true n t cs=some x):
  cs.length=P.cellsOf t∧∃m,∀(i:Nat)(f:Field),fs[i]? = some f→∃y,DataW.trod enc P W 0 (fun _=>true) true m f.type ((cs.drop f.offset).take (P.cellsOf f.type))=some y∧Rows.uptoBulk y.1 < Rows.uptoBulk x.1:=by
 obtain ⟨xs,m,_,rfl,hl,hxl,hg⟩:=DataW.trod_struct ht h
 refine ⟨hl,m,fun i f hf=>?_⟩
 have hi:i < xs.length:=by rw [hxl];exact (Array.getElem?_eq_some_iff.1 hf).1
 refine ⟨xs[i],by rw [hg i f hf,List.getElem?_eq_getElem hi],?_⟩
 have:=a8I (List.mem_map.2 ⟨xs[i],List.getElem_mem hi,rfl⟩:xs[i].1∈xs.map (·.1))
 show _ < Rows.uptoBulk (.agg _)
 simp only [Rows.uptoBulk]
 omega
end
section
variable {Hd:Type}{enc:TypeId×Value→Hd}{W:World}
theorem a6Q{t:TypeId}(ht:Tryd.prog.underlying t=some (.int .i64))(hc:Tryd.prog.cellsOf t=1){n:Nat}{l:List Value}{x:DataW Hd×List MemPlace}(h:DataW.trod enc Tryd.prog W 0 (fun _=>true) true n t (l.take (Tryd.prog.cellsOf t))=some x):∃z:Int,l.take 1=[.int .i64 z]∧a7F z:=by
 rw [hc] at h
 obtain ⟨z,hz,a,b⟩:=b7a ht h
 exact ⟨z,hz,a,b⟩
theorem fldk{t k:Nat}(hc:Tryd.prog.cellsOf t=k){n:Nat}{l:List Value}{x:DataW Hd×List MemPlace}(h:DataW.trod enc Tryd.prog W 0 (fun _=>true) true n t (l.take (Tryd.prog.cellsOf t))=some x):DataW.trod enc Tryd.prog W 0 (fun _=>true) true n t (l.take k)=some x:=by rwa [hc] at h
theorem i3:Tryd.prog.underlying 3=some (.int .i64):=Tryd.underlying3
theorem i2:Tryd.prog.underlying 2=some (.int .i64):=Tryd.underlying2
theorem ce3:Tryd.prog.cellsOf 3=1:=by kernel_rfl
theorem ce2:Tryd.prog.cellsOf 2=1:=by kernel_rfl
theorem ceS:Tryd.prog.cellsOf 9=1:=by kernel_rfl
theorem ceE:Tryd.prog.cellsOf 39=1:=by kernel_rfl
theorem ceC:Tryd.prog.cellsOf 47=1:=by kernel_rfl
theorem ceT:Tryd.prog.cellsOf 23=1:=by kernel_rfl
theorem ceD:Tryd.prog.cellsOf 22=1:=by kernel_rfl
theorem b2z{n:Nat}{l:List Value}{x:DataW Hd×List MemPlace}(h:DataW.trod enc Tryd.prog W 0 (fun _=>true) true n 9 (l.take (Tryd.prog.cellsOf 9))=some x):∃s:ByteArray,l.take 1=[.string s]∧s.size < Rows.uptoBulk x.1:=by
 rw [ceS] at h
 exact b3u Tryd.underlying9 h
theorem b5B{n:Nat}{cs:List Value}{x:DataW Hd×List MemPlace}(h:DataW.trod enc Tryd.prog W 0 (fun _=>true) true n 45 cs=some x):∃d:s7,cs=j8 d∧a7F d.X1∧d.f4.size < Rows.uptoBulk x.1:=by
 obtain ⟨hl,m,g⟩:=a3Y Tryd.underlying45 h
 rw [show Tryd.prog.cellsOf 45=2 by kernel_rfl] at hl
 match cs,hl with
 | [a,b],_=>
 obtain ⟨_,h0,b0⟩:=g 0 _ rfl
 obtain ⟨_,h1,_⟩:=g 1 _ rfl
 obtain ⟨s,q0,l0⟩:=b2z (l:=[a,b]) h0
 obtain ⟨z1,q1,r1⟩:=a6Q (l:=[b]) i3 ce3 h1
 simp at q0 q1
 subst q0;subst q1
 exact ⟨⟨s,z1⟩,rfl,r1,by dsimp only;omega⟩
theorem b5C:∀(b:Nat),b≤1048576→∀{n:Nat}{cs:List Value}{x:DataW Hd×List MemPlace},Rows.uptoBulk x.1≤b→DataW.trod enc Tryd.prog W 0 (fun _=>true) true n 41 cs=some x→∃e:b8,cs=c7 e∧∃t,EH (hpW W) e t∧Sm t:=by
 intro b
 induction b with
 | zero=>intro _ n cs x hx;have:=a6V x.1;omega
 | succ b ih=>
  intro hb n cs x hx h
  obtain ⟨hl,m,g⟩:=a3Y Tryd.underlying41 h
  rw [show Tryd.prog.cellsOf 41=4 by kernel_rfl] at hl
  match cs,hl with
  | [a0,a1,a2,a3],_=>
  obtain ⟨_,h0,_⟩:=g 0 _ rfl
  obtain ⟨_,h1,_⟩:=g 1 _ rfl
  obtain ⟨y2,h2,l2⟩:=g 2 _ rfl
  obtain ⟨y3,h3,l3⟩:=g 3 _ rfl
  obtain ⟨z0,q0,_⟩:=a6Q (l:=[a0,a1,a2,a3]) i3 ce3 h0
  obtain ⟨z1,q1,r1⟩:=a6Q (l:=[a1,a2,a3]) i2 ce2 h1
  obtain ⟨s2,q2,r2⟩:=b2z (l:=[a2,a3]) h2
  obtain ⟨s3,xs,q3,hS,_,hlen,hg⟩:=a3y Tryd.underlying39 (show Tryd.prog.cellsOf 41=4 by kernel_rfl) (by decide) c7 (fun e=>∃t,EH (hpW W) e t∧Sm t) (fldk (l:=[a3]) ceE h3) (fun n cs y hy h=>ih (by omega) (by omega) h)
  simp at q0 q1 q2 q3
  subst q0;subst q1;subst q2;subst q3
  obtain ⟨ts,hr,hsm⟩:=a5e xs hg
  exact ⟨⟨z0,z1,s2,s3⟩,rfl,_,EH.mk (e:=⟨z0,z1,s2,s3⟩) hS (by simp only [big];omega) hr.1 hr.2,.mk ⟨by show s2.size≤sml;simp only [sml];omega,r1⟩ hsm⟩
theorem a9k{b:Nat}(hb:b≤1048576){n:Nat}{cs:List Value}{x:DataW Hd×List MemPlace}(hx:Rows.uptoBulk x.1≤b)(h:DataW.trod enc Tryd.prog W 0 (fun _=>true) true n 39 cs=some x):
  ∃(s:Sl)(xs:List b8)(ts:List PT),cs=[.slice s.a s.n s.c]∧SlH (hpW W) 4 c7 s xs∧xs.length≤big∧q7 (EH (hpW W)) xs ts∧∀t∈ts,Sm t:=by
 obtain ⟨s3,xs,q3,hS,_,hlen,hg⟩:=a3y Tryd.underlying39 (show Tryd.prog.cellsOf 41=4 by kernel_rfl) (by decide) c7 (fun e=>∃t,EH (hpW W) e t∧Sm t) h (fun n cs y hy h=>b5C b hb (by omega) h)
 obtain ⟨ts,hr,hsm⟩:=a5e xs hg
 exact ⟨s3,xs,ts,q3,hS,by simp only [big];omega,hr,hsm⟩
theorem a6R{a b:List PT}(ha:∀t∈a,Sm t)(hb:∀t∈b,Sm t):∀t∈a++b,Sm t:=fun t h=>(List.mem_append.1 h).elim (ha t) (hb t)
theorem b5D:(⟨#[]⟩:ByteArray).size≤sml:=by decide
theorem b5E:∀(b:Nat),b≤1048576→∀{n:Nat}{cs:List Value}{x:DataW Hd×List MemPlace},Rows.uptoBulk x.1≤b→DataW.trod enc Tryd.prog W 0 (fun _=>true) true n 77 cs=some x→∃e:b9,cs=c9 e∧∃t,CH (hpW W) e t∧Sm t:=by
 intro b
 induction b with
 | zero=>intro _ n cs x hx;have:=a6V x.1;omega
 | succ b ih=>
  intro hb n cs x hx h
  obtain ⟨hl,m,g⟩:=a3Y Tryd.underlying77 h
  rw [show Tryd.prog.cellsOf 77=4 by kernel_rfl] at hl
  match cs,hl with
  | [a0,a1,a2,a3],_=>
  obtain ⟨_,h0,_⟩:=g 0 _ rfl
  obtain ⟨_,h1,_⟩:=g 1 _ rfl
  obtain ⟨y2,h2,l2⟩:=g 2 _ rfl
  obtain ⟨y3,h3,l3⟩:=g 3 _ rfl
  obtain ⟨z0,q0,_⟩:=a6Q (l:=[a0,a1,a2,a3]) i3 ce3 h0
  obtain ⟨z1,q1,r1⟩:=a6Q (l:=[a1,a2,a3]) i3 ce3 h1
  obtain ⟨s2,xs,ts,q2,hE,hEl,hEr,hEs⟩:=a9k (b:=b+1) hb (by omega) (fldk (l:=[a2,a3]) ceE h2)
  obtain ⟨s3,ys,q3,hS,_,hlen,hg⟩:=a3y Tryd.underlying47 (show Tryd.prog.cellsOf 77=4 by kernel_rfl) (by decide) c9 (fun e=>∃t,CH (hpW W) e t∧Sm t) (fldk (l:=[a3]) ceC h3) (fun n cs y hy h=>ih (by omega) (by omega) h)
  simp at q0 q1 q2 q3
  subst q0;subst q1;subst q2;subst q3
  obtain ⟨us,hr,hsm⟩:=a5e ys hg
  exact ⟨⟨z0,z1,s2,s3⟩,rfl,_,CH.mk (c:=⟨z0,z1,s2,s3⟩) hE hEl hEr hS (by simp only [big];omega) hr.1 hr.2,.mk ⟨b5D,z64⟩ (a6R hEs hsm)⟩
theorem b3M{b:Nat}(hb:b≤1048576){n:Nat}{cs:List Value}{x:DataW Hd×List MemPlace}(hx:Rows.uptoBulk x.1≤b)(h:DataW.trod enc Tryd.prog W 0 (fun _=>true) true n 47 cs=some x):
  ∃(s:Sl)(xs:List b9)(ts:List PT),cs=[.slice s.a s.n s.c]∧SlH (hpW W) 4 c9 s xs∧xs.length≤big∧q7 (CH (hpW W)) xs ts∧∀t∈ts,Sm t:=by
 obtain ⟨s3,xs,q3,hS,_,hlen,hg⟩:=a3y Tryd.underlying47 (show Tryd.prog.cellsOf 77=4 by kernel_rfl) (by decide) c9 (fun e=>∃t,CH (hpW W) e t∧Sm t) h (fun n cs y hy h=>b5E b hb (by omega) h)
 obtain ⟨ts,hr,hsm⟩:=a5e xs hg
 exact ⟨s3,xs,ts,q3,hS,by simp only [big];omega,hr,hsm⟩
theorem b5F:∀(b:Nat),b≤1048576→∀{n:Nat}{cs:List Value}{x:DataW Hd×List MemPlace},Rows.uptoBulk x.1≤b→DataW.trod enc Tryd.prog W 0 (fun _=>true) true n 49 cs=some x→∃e:c6,cs=c5 e∧∃t,SH (hpW W) e t∧Sm t:=by
 intro b
 induction b with
 | zero=>intro _ n cs x hx;have:=a6V x.1;omega
 | succ b ih=>
  intro hb n cs x hx h
  obtain ⟨hl,m,g⟩:=a3Y Tryd.underlying49 h
  rw [show Tryd.prog.cellsOf 49=6 by kernel_rfl] at hl
  match cs,hl with
  | [a0,a1,a2,a3,a4,a5],_=>
  obtain ⟨_,h0,_⟩:=g 0 _ rfl
  obtain ⟨_,h1,l1⟩:=g 1 _ rfl
  obtain ⟨y2,h2,l2⟩:=g 2 _ rfl
  obtain ⟨y3,h3,l3⟩:=g 3 _ rfl
  obtain ⟨y4,h4,l4⟩:=g 4 _ rfl
  obtain ⟨y5,h5,l5⟩:=g 5 _ rfl
  obtain ⟨z0,q0,_⟩:=a6Q (l:=[a0,a1,a2,a3,a4,a5]) i3 ce3 h0
  obtain ⟨s1,q1,r1⟩:=b2z (l:=[a1,a2,a3,a4,a5]) h1
  obtain ⟨s2,xs,ts,q2,hE,hEl,hEr,hEs⟩:=a9k (b:=b+1) hb (by omega) (fldk (l:=[a2,a3,a4,a5]) ceE h2)
  obtain ⟨s3,ys,us,q3,hC,hCl,hCr,hCs⟩:=b3M (b:=b+1) hb (by omega) (fldk (l:=[a3,a4,a5]) ceC h3)
  obtain ⟨s4,zs,q4,hS,_,hlen,hg⟩:=a3y Tryd.underlying23 (show Tryd.prog.cellsOf 49=6 by kernel_rfl) (by decide) c5 (fun e=>∃t,SH (hpW W) e t∧Sm t) (fldk (l:=[a4,a5]) ceT h4) (fun n cs y hy h=>ih (by omega) (by omega) h)
  obtain ⟨s5,bs,q5,hS',_,hlen',hg'⟩:=a3y Tryd.underlying23 (show Tryd.prog.cellsOf 49=6 by kernel_rfl) (by decide) c5 (fun e=>∃t,SH (hpW W) e t∧Sm t) (fldk (l:=[a5]) ceT h5) (fun n cs y hy h=>ih (by omega) (by omega) h)
  simp at q0 q1 q2 q3 q4 q5
  subst q0;subst q1;subst q2;subst q3;subst q4;subst q5
  obtain ⟨vs,hr,hsm⟩:=a5e zs hg
  obtain ⟨ws,hr',hsm'⟩:=a5e bs hg'
  exact ⟨⟨z0,s1,s2,s3,s4,s5⟩,rfl,_,SH.mk (s:=⟨z0,s1,s2,s3,s4,s5⟩) hE hEl hEr hC hCl hCr hS (by simp only [big];omega) hr.1 hr.2 hS' (by simp only [big];omega) hr'.1 hr'.2,.mk ⟨by show s1.size≤sml;simp only [sml];omega,z64⟩ (a6R hCs (a6R hEs (a6R hsm hsm')))⟩
theorem b3N{b:Nat}{v:Value}{d:DataW Hd}{ps:List MemPlace}(hv:Value.okWide Tryd.prog W .any b 25 v)(h:DataW.Trod enc Tryd.prog W 0 (fun _=>true) true 25 v d ps)(hb:Rows.uptoBulk d≤1048576):
  ∃(p:d4)(q:PP),v=.agg (f5 p).toArray∧PH (hpW W) p q∧q.Sm∧p.B3.n≤p.B3.c∧p.M7.n≤p.M7.c:=by
 obtain ⟨n,h⟩:=b3t h
 have hagg:=b0F Tryd.underlying25 hv
 obtain ⟨hl,m,g⟩:=a3Y Tryd.underlying25 h
 rw [show Tryd.prog.cellsOf 25=2 by kernel_rfl] at hl
 generalize hq:v.cells=q at h hl g hagg
 obtain ⟨l⟩:=q
 match l,hl with
 | [a0,a1],_=>
 obtain ⟨y0,h0,l0⟩:=g 0 _ rfl
 obtain ⟨y1,h1,l1⟩:=g 1 _ rfl
 obtain ⟨s0,xs,q0,hS,hc0,hlen,hg⟩:=a3y Tryd.underlying22 (show Tryd.prog.cellsOf 45=2 by kernel_rfl) (by decide) j8 (fun e=>e.f4.size≤1048576) (fldk (l:=[a0,a1]) ceD h0) (fun n cs y hy h=>by
  obtain ⟨e,h1,_,h2⟩:=b5B h
  dsimp only at l0
  exact ⟨e,h1,by omega⟩)
 obtain ⟨s1,zs,q1,hS',hc1,hlen',hg'⟩:=a3y Tryd.underlying23 (show Tryd.prog.cellsOf 49=6 by kernel_rfl) (by decide) c5 (fun e=>∃t,SH (hpW W) e t∧Sm t) (fldk (l:=[a1]) ceT h1) (fun n cs y hy h=>b5F 1048576 (Nat.le_refl _) (by dsimp only at l1;omega) h)
 simp at q0 q1
 subst q0;subst q1
 obtain ⟨vs,hr,hsm⟩:=a5e zs hg'
 dsimp only at l0 l1
 refine ⟨⟨s0,s1⟩,⟨xs,vs⟩,hagg,⟨hS,by simp only [big];omega,zs,hS',by simp only [big];omega,hr⟩,a6R (fun t ht=>?_) hsm,hc0,hc1⟩
 obtain ⟨e,he,rfl⟩:=List.mem_map.1 ht
 exact .mk ⟨by show e.f4.size≤sml;have:=hg e he;simp only [sml];omega,z64⟩ fun t ht=>by cases ht
theorem b5G{b:Nat}{v:Value}{d:DataW Hd}{ps:List MemPlace}(hv:Value.okWide Tryd.prog W .any b 25 v)(h:DataW.Trod enc Tryd.prog W 0 (fun _=>true) true 25 v d ps)(hb:Rows.uptoBulk d≤1048576):
  ∃(p:d4)(q:PP),v=.agg (f5 p).toArray∧PH (hpW W) p q∧q.Sm:=by
 obtain ⟨p,q,h1,h2,h3,_⟩:=b3N hv h hb
 exact ⟨p,q,h1,h2,h3⟩
end
end Go.Proofs.YtpgelfheccpejaaDoor
