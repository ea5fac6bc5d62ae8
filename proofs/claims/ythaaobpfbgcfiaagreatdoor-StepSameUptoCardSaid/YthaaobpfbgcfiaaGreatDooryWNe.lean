/- A program's run. Off the readings. -/
import Derived.Test.YthaaobpfbgcfiaaGreatDooryWNc
namespace Go.Proofs.YthaaobpfbgcfiaaGreatDoor
open Go.RowKit
set_option maxRecDepth 100000
set_option maxHeartbeats 4000000
section
variable {H:Hp}
theorem c4u{ν:Type}{l:List (ByteArray×ν)}{ks:List ByteArray}(h:l.map (·.1)=ks){j:Nat}{s:ByteArray}(hs:ks[j]? = some s):∃v,l[j]? = some (s,v):=by
 rw [←h,List.getElem?_map] at hs
 cases hq:l[j]? with
 | none=>rw [hq] at hs;cases hs
 | some x=>
  rw [hq] at hs
  obtain ⟨a,b⟩:=x
  cases hs
  exact ⟨b,rfl⟩
theorem drop_at{ds:List j7}{i:Nat}{d:j7}(h:ds[i]? = some d):ds.drop i=d::ds.drop (i+1):=by
 have hi:=C3 h
 rw [List.drop_eq_getElem_cons hi]
 congr 1
 rw [List.getElem?_eq_getElem hi] at h
 exact Option.some.inj h
theorem c8W{ds:List j7}{i:Nat}{d:j7}(h:ds[i]? = some d)(c:¬0 < d.C1):((vD ds).map (·.1))[(vD (ds.take i)).length]? = some d.f8:=by
 rw [c5R ds i,drop_at h,List.getElem?_map,List.getElem?_append_right (Nat.le_refl _),Nat.sub_self]
 unfold vD
 simp [c]
theorem c8X{ds:List j7}{i:Nat}{d:j7}(h:ds[i]? = some d)(c:0 < d.C1):((aD ds).map (·.1))[(aD (ds.take i)).length]? = some d.f8:=by
 rw [c5S ds i,drop_at h,List.getElem?_map,List.getElem?_append_right (Nat.le_refl _),Nat.sub_self]
 unfold aD
 simp [c]
theorem c4v(l:List j7):(vD l).length≤l.length:=by unfold vD;rw [List.length_map];exact List.length_filter_le _ _
theorem c4w(l:List j7):(aD l).length≤l.length:=by unfold aD;rw [List.length_map];exact List.length_filter_le _ _
theorem c4x{α β:Type}{f:α→β}(l:List α)(n:Nat):((l.take n).map f).length≤n:=by rw [List.length_map,List.length_take];omega
theorem c4y{α β:Type}{f:α→β}{l:List α}{n:Nat}{x:α}(h:l[n]? = some x):(l.take (n+1)).map f=(l.take n).map f++[f x]:=by rw [L0 h,List.map_append];rfl
theorem c5U{q:PP}{p:z8}(hp:PH H p q)(hn:(q.decls.map (·.f8)).Nodup){σ:St}{X:Cx}{g3 g6 g10 g14:Nat}{sc ev:Sl}{Fe Fv Fa:Frag}(W:RnW X σ H sc ev Fe Fv Fa)(hv:σ.vars.map (·.1)=(vD q.decls).map (·.1))(hr:σ.arrs.map (·.1)=(aD q.decls).map (·.1)){w0 w:World}{ps:Nat→Prop}{H0:Hp}{st wr:Int}{R:Value→World→Prop}{E:Pan}
  (I:Inv w0 ps H0 H [oB g14 ⟨st,wr,σ.steps,ev,⟨none,0,0⟩,⟨none,0,0⟩⟩,bx g10 56 (rcs X σ sc ev),Fe,Fv,Fa,oB g6 oz,pB g3 p] w)
  (hR:∀(o:f7)(Fo:List Frag)(w':World),Oown o (ocS (st,wr,σ)) Fo→Inv w0 ps H0 H Fo w'→R (.tuple #[.agg (q7 o).toArray,vi 0]) w'):
  xcut (fun _ d5b=>c1x (rP g6) (rP g14) d5b R E) fun j2=>
   opK Tryz.prog E (xV (Instr.fieldAt 25 (rP g3) 0)) w fun d2t d5c=>opK Tryz.prog E (xV (Instr.loadAt 22 d2t)) d5c fun c4z d5d=>opK Tryz.prog E (xBuiltin .len #[22] 3 [false] [c4z]) d5d fun d2u d5e=>
    xloop [91] [(Value.int .i64 0)] d5e fun τ_138 d3w next3=>c1y (rP g6) (rP g10) (rP g14) c4z d2u (τ_138 91) d3w next3 j2 R E:=by
 refine v6 fun j2 hx2=>?_
 have hds:=hp.d
 have hdn:=hds.1
 have hbd:=hp.bd
 simp only [big] at hbd
 have lvf:=W.hvs.fst.trans hv
 have laf:=W.has.fst.trans hr
 have nd:=b7H hn
 refine b6 a7m ?_
 refine d4 (ld1 Tryz.isAgg22 ((I.bring 6).at1 (o:=0) (vs:=[vs p.a5g]) (nb rfl) rfl)) ?_
 refine b6 (a1U _ _ _) ?_
 refine K7 (J:=fun n l w'=>∃(i:Nat)(sv sr:Sl)(Fvr Fsr:Frag),n=q.decls.length-i∧l=[vi (i:Int)]∧i≤q.decls.length∧RowL 2 1 ci sv ((σ.vars.take (vD (q.decls.take i)).length).map (·.2)) Fvr∧RowL 26 1 csl sr ((X.la.take (aD (q.decls.take i)).length).map (·.2)) Fsr∧
  Inv w0 ps H0 H [oB g14 ⟨st,wr,σ.steps,ev,sv,sr⟩,bx g10 56 (rcs X σ sc ev),Fe,Fv,Fa,oB g6 oz,pB g3 p,Fvr,Fsr] w')
  ⟨_,0,⟨none,0,0⟩,⟨none,0,0⟩,[],[],rfl,rfl,Nat.zero_le _,RowL.nil b8X b8Y,RowL.nil a9u a9v,I.re [] (fun f f0 fa=>by simp only [pB,oB,bx,List.flatten_cons,List.flatten_nil,f0,fa];omega)⟩ ?_
 rintro n τ w4 next3 ⟨i,sv,sr,Fvr,Fsr,rfl,hl4,hi,hrv,hrs,I4⟩ hn3
 simp only [List.map_cons,List.map_nil,List.cons.injEq,and_true] at hl4
 simp only [hl4]
 unfold c1y
 refine b6 (A4 _ _ _ _ _ _) ?_
 refine D7 (fun c5=>?_) (fun c5=>?_)
 ·obtain ⟨d,hd⟩:=y7 (l:=q.decls) (i:=i) (by omega)
  obtain ⟨g5,o5,ha5,hA5⟩:=hds.2 i d hd
  have hlv:=c4v (q.decls.take i)
  have hla:=c4w (q.decls.take i)
  rw [List.length_take] at hlv hla
  have hlv2:=c4x (f:=fun x:ByteArray×Int=>x.2) σ.vars (vD (q.decls.take i)).length
  have hla2:=c4x (f:=fun x:ByteArray×Sl=>x.2) X.la (aD (q.decls.take i)).length
  refine v6 fun j4 hx4=>?_
  refine b6 (a2g ha5 _ _ _ _ (by omega) (by omega)) ?_
  refine d4 (ldA (vs:=m3 d) Tryz.isAgg58 Tryz.sizeOf58 rfl (I4.atH hA5)) ?_
  refine s6 I4 Tryz.zeroValue58 (cs:=[(Value.string ⟨#[]⟩),(vi 0)]) rfl fun g16 w6 I6 _=>?_
  refine E8 I6 Tryz.sizeOf58 (vs:=(m3 d)) (cs':=(m3 d)) rfl rfl (nb rfl) rfl rfl fun w7 I7 _=>?_
  refine b6 a0X ?_
  refine d4 (ld1 Tryz.isAgg3 (I7.at1 (o:=1) (vs:=[vi d.C1]) (nb rfl) rfl)) ?_
  refine b6 (O1 _ _ _ _ _ _) ?_
  have nxt:∀(sv' sr':Sl)(Fvr' Fsr':Frag)(w':World),RowL 2 1 ci sv' ((σ.vars.take (vD (q.decls.take (i+1))).length).map (·.2)) Fvr'→RowL 26 1 csl sr' ((X.la.take (aD (q.decls.take (i+1))).length).map (·.2)) Fsr'→
    Inv w0 ps H0 H [oB g14 ⟨st,wr,σ.steps,ev,sv',sr'⟩,bx g10 56 (rcs X σ sc ev),Fe,Fv,Fa,oB g6 oz,pB g3 p,Fvr',Fsr'] w'→j4 [] w':=fun sv' sr' Fvr' Fsr' w' h1 h2 J=>by
   refine hx4 _ _ ?_
   unfold c6e
   intro _
   refine b6 (B0 _ _ _ _ _ _) ?_
   rw [D6 (by omega) (by omega)]
   exact hn3 _ _ _ (show q.decls.length-(i+1) < q.decls.length-i by omega) ⟨i+1,sv',sr',Fvr',Fsr',rfl,rfl,by omega,h1,h2,J⟩
  refine D7 (fun c=>?_) (fun c=>?_)
  ·obtain ⟨sl,hsl⟩:=c4u laf (c8X hd c)
   have hlk:=b6z (by rw [laf];exact nd.2) hsl
   refine C6 I7 fun w8 I8=>?_
   refine d6 a2I ?_
   refine d6 (m7 _) ?_
   refine d6 b2y ?_
   refine d6 W4 ?_
   refine i8 (ld1 Tryz.isAgg30 ((I8.bring 1).at1 (o:=5) (vs:=[vs sr]) (nb rfl) rfl)) ?_
   refine i8 (ld1 Tryz.isAgg54 ((I8.bring 2).at1 (o:=5) (vs:=[.map X.ma]) (nb rfl) rfl)) ?_
   refine i8 (ld1 Tryz.isAgg9 (I8.at1 (o:=0) (vs:=[.string d.f8]) (nb rfl) rfl)) ?_
   refine b1l (keyS Tryz.underlying9) Tryz.underlying54 (z:=(⟨none,0,0⟩:Sl)) (fun w=>Tryz.zeroValue26 w) I8 W.hma d.f8 ?_
   rw [hlk,Option.getD_some]
   refine Y1 (e:=26) (c:=csl) (xs:=[sl]) I8 (d3v _) rfl rfl a9u a9v (nb rfl) fun s9 F9 w9 hr9 I9 k9=>?_
   refine ⟨k9 _ (I8.bring 1).lt1,?_⟩
   refine d2s (s:=sr) (I9.bring 10) hrs (hr9.srcO ((I9.bring 10).bring 1)) (by rw [List.length_singleton];omega) fun s10 F10 w10 hr10 I10 _=>?_
   refine d6 a2I ?_
   refine E8 (I10.bring 3) Tryz.sizeOf30 (vs:=[vs s10]) (cs':=q7 ⟨st,wr,σ.steps,ev,sv,s10⟩) rfl rfl (nb rfl) rfl rfl fun w11 I11 _=>?_
   refine nxt sv s10 Fvr F10 _ ?_ ?_ (I11.re (F9++bx g16 58 (m3 d)) (fun f f0 fa=>by simp only [pB,oB,bx,List.flatten_cons,List.flatten_nil,f0,fa];omega))
   ·rw [b7V hd,if_pos c,List.append_nil];exact hrv
   ·rw [b7W hd,if_pos c,List.length_append,List.length_singleton,c4y hsl];exact hr10
  ·obtain ⟨v,hvv⟩:=c4u hv (c8W hd c)
   have hlk:=b6z (by rw [hv];exact nd.1) hvv
   obtain ⟨g9,Fr,hlv9,hp9,_⟩:=W.hvs.get hlk
   refine C6 I7 fun w8 I8=>?_
   refine d6 a3T ?_
   refine d6 (m7 _) ?_
   refine d6 a9B ?_
   refine d6 W4 ?_
   refine i8 (ld1 Tryz.isAgg26 ((I8.bring 1).at1 (o:=4) (vs:=[vs sv]) (nb rfl) rfl)) ?_
   refine i8 (ld1 Tryz.isAgg53 ((I8.bring 2).at1 (o:=4) (vs:=[.map X.mv]) (nb rfl) rfl)) ?_
   refine i8 (ld1 Tryz.isAgg9 (I8.at1 (o:=0) (vs:=[.string d.f8]) (nb rfl) rfl)) ?_
   refine b1l (keyS Tryz.underlying9) Tryz.underlying53 (z:=(none:Option Addr)) (fun w=>Tryz.zeroValue59 w) I8 W.hmv d.f8 ?_
   rw [hlv9,Option.getD_some]
   refine d6 (m7 _) ?_
   refine i8 (ld1 Tryz.isAgg2 ((((I8.bring 4).p1 hp9).un2).at1 (o:=0) (vs:=[vi v]) (nb rfl) rfl)) ?_
   refine Y1 (e:=2) (c:=ci) (xs:=[v]) I8 (c0p _) rfl rfl b8X b8Y (nb rfl) fun s9 F9 w9 hr9 I9 k9=>?_
   refine ⟨k9 _ (I8.bring 1).lt1,?_⟩
   refine c2S (s:=sv) (I9.bring 9) hrv (hr9.srcO ((I9.bring 9).bring 1)) (by rw [List.length_singleton];omega) fun s10 F10 w10 hr10 I10 _=>?_
   refine d6 a3T ?_
   refine E8 (I10.bring 3) Tryz.sizeOf26 (vs:=[vs s10]) (cs':=q7 ⟨st,wr,σ.steps,ev,s10,sr⟩) rfl rfl (nb rfl) rfl rfl fun w11 I11 _=>?_
   refine nxt s10 sr F10 Fsr _ ?_ ?_ (I11.re (F9++bx g16 58 (m3 d)) (fun f f0 fa=>by simp only [pB,oB,bx,List.flatten_cons,List.flatten_nil,f0,fa];omega))
   ·rw [b7V hd,if_neg c,List.length_append,List.length_singleton,c4y hvv];exact hr10
   ·rw [b7W hd,if_neg c,List.append_nil];exact hrs
 ·refine hx2 _ _ ?_
  have hie:i=q.decls.length:=by omega
  subst hie
  rw [List.take_length] at hrv hrs
  have e1:(vD q.decls).length = σ.vars.length:=by rw [←List.length_map (f:=(·.1)),← hv,List.length_map]
  have e2:(aD q.decls).length=X.la.length:=by rw [←List.length_map (f:=(·.1)),← laf,List.length_map]
  rw [e1,List.take_length] at hrv
  rw [e2,List.take_length] at hrs
  unfold c1x
  intro _
  refine d4 (ldA (vs:=q7 ⟨st,wr,σ.steps,ev,sv,sr⟩) Tryz.isAgg32 Tryz.sizeOf32 rfl (I4.at1 (o:=0) (nb rfl) rfl)) ?_
  refine E8 (I4.bring 5) Tryz.sizeOf32 (vs:=q7 ⟨st,wr,σ.steps,ev,sv,sr⟩) (cs':=q7 ⟨st,wr,σ.steps,ev,sv,sr⟩) rfl rfl (nb rfl) rfl rfl fun w6 I6 _=>?_
  refine b1B (vs:=q7 ⟨st,wr,σ.steps,ev,sv,sr⟩) Tryz.isAgg32 Tryz.sizeOf32 rfl (I6.at1 (o:=0) (nb rfl) rfl) ?_
  refine hR _ [Fe,Fvr,Fsr++Fa] _ ⟨rfl,rfl,rfl,Fe,Fvr,Fsr++Fa,rfl,W.hev,hrv,X.la.map (·.2),Fsr,Fa,hrs,W.has.inners,.refl _⟩ ?_
  exact I6.re (oB g6 ⟨st,wr,σ.steps,ev,sv,sr⟩++(oB g14 ⟨st,wr,σ.steps,ev,sv,sr⟩++(bx g10 56 (rcs X σ sc ev)++(Fv++pB g3 p)))) (fun f f0 fa=>by simp only [pB,oB,bx,List.flatten_cons,List.flatten_nil,f0,fa];omega)
end
abbrev d2v:Nat:=4096
section
variable {H:Hp}
theorem PH.ars{p:z8}{q:PP}(hp:PH H p q)(hsm:q.Sm)(h:toldS q.nodes=0):(∀t∈q.body,ArS t∧formT t=true)∧cTs q.body≤d2v:=by
 have hi:=(b8S _).1 h
 have hf:=hi.2.2.1
 unfold PP.nodes at hf
 rw [a4l,Bool.and_eq_true] at hf
 obtain ⟨_,_,xs,hsl,hxb,hr⟩:=hp
 refine ⟨fun t ht=>?_,?_⟩
 ·obtain ⟨i,hi⟩:=List.getElem?_of_mem ht
  obtain ⟨x,hx⟩:=y7 (l:=xs) (i:=i) (by have:=C3 hi;have:=hr.1;omega)
  have hft:=E7 hf.2 ht
  exact ⟨d1Q (hr.2 i x t hx hi) hft (hsm t (List.mem_append_right _ ht)),hft⟩
 ·have:=hi.1
  unfold PP.nodes at this
  rw [a9W] at this
  simp only [d2v];omega
end
section
variable {H:Hp}
end
section
variable {H:Hp}
abbrev rc0(k:Int)(sc:Sl)(gm ga:Nat):List Value:=[vi k,vi 0,vs sc,Value.slice none 0 0,.map (some gm),.map (some ga)]
abbrev rB(g:Nat)(cs:List Value):Frag:=bx g 56 cs
theorem c5V{g o:Nat}:Pu Tryz.prog (xV (Instr.fieldAt 61 (.pointer (some ⟨g,o,none⟩)) 0)) (.pointer (some ⟨g,o+0,none⟩)):=Pu.ok fun w=>by kernel_rfl
theorem c5W{g o:Nat}:Pu Tryz.prog (xV (Instr.fieldAt 61 (.pointer (some ⟨g,o,none⟩)) 1)) (.pointer (some ⟨g,o+1,none⟩)):=Pu.ok fun w=>by kernel_rfl
theorem d2w(hT:TabsH H){p:z8}{q:PP}(hp:PH H p q)(hsm:q.Sm){sc:Sl}{scr:List Int}(hsc:SlH H 1 ci sc scr)(hcap:sc.n≤sc.c)(hin:∀x∈scr,o8 x)(k:Int):
  Ct Tryz.prog 6 [.agg (v7 p).toArray,vs sc,vi k] H [] (fun v H' Fo=>∃o,v=.tuple #[.agg (q7 o).toArray,vi (errR q scr k)]∧(errR q scr k≠0→o=oz∧Fo=[])∧(errR q scr k=0→Oown o (runQ q scr k.toNat) Fo)) noQE:=by
 intro w I
 refine d2L ?_
 unfold F6
 refine z7 I (cs:=v7 p) rfl fun g3 w1 I1 _=>?_
 refine s6 I1 Tryz.zeroValue32 (cs:=q7 oz) rfl fun g6 w2 I2 _=>?_
 refine d4 (ldA (vs:=v7 p) Tryz.isAgg25 Tryz.sizeOf25 rfl ((I2.bring 1).at1 (o:=0) (nb rfl) rfl)) ?_
 refine q9 (cap:=[]) (fun args w=>Tryz.call10 args w) ?_
 refine O2 (Fi:=[]) (Fr:=[oB g6 oz,pB g3 p]) I2 (c0T hT hp hsm (K:=fun a b H'=>a=(wellS q).1∧b=(wellS q).2) fun _ _=>⟨rfl,rfl⟩) (fun v H3 Fo w3 I3 l3 k3 qq=>?_) (fun _ _ _ _ _ q=>q.elim)
 obtain ⟨r0,r1,rfl,rfl,rfl,rfl⟩:=qq
 refine b6 (i5 _ 0 _ rfl) ?_
 refine b6 (i5 _ 1 _ rfl) ?_
 refine b6 (O8 _ _ _ _ _ _) ?_
 have hbz:Pu Tryz.prog (xV (Instr.build 32 #[])) (.agg (q7 oz).toArray):=Pu.ok fun w=>by kernel_rfl
 have hln:=hsc.1
 refine a9S (fun c=>?_) (fun c=>?_)
 ·have he:errR q scr k=(wellS q).2:=by unfold errR;rw [if_pos c]
  refine b6 hbz ?_
  refine E8 I3 Tryz.sizeOf32 (vs:=q7 oz) (cs':=q7 oz) rfl rfl (nb rfl) rfl rfl fun w4 I4 _=>?_
  refine b1B (vs:=q7 oz) Tryz.isAgg32 Tryz.sizeOf32 rfl (I4.at1 (o:=0) (nb rfl) rfl) ?_
  exact ⟨_,_,I4.drop.drop,oz,by rw [he];rfl,fun _=>⟨rfl,rfl⟩,fun h=>(c (he.symm.trans h)).elim⟩
 refine b6 (A4 _ _ _ _ _ _) ?_
 refine b6 (Pu.g (v:=.bool (decide (65536 < k))) fun c=>(by rw [J0,j8 c];exact O1 _ _ _ _ _ _)) ?_
 refine b6 (M2 _ _) ?_
 refine b6 (Pu.g fun c=>(by rw [J0,j8 c];exact a1T _ _ _)) ?_
 refine b6 (Pu.g (v:=.bool (decide (65536 < (sc.n:Int)))) fun c=>(by rw [j8 c];exact O1 _ _ _ _ _ _)) ?_
 refine b6 (M2 _ _) ?_
 refine N9 (fun c2=>?_) (fun c2=>?_)
 ·have he:errR q scr k=80:=by
   unfold errR
   rw [if_neg (fun h=>h c),if_pos]
   simp at c2
   omega
  refine b6 hbz ?_
  refine E8 I3 Tryz.sizeOf32 (vs:=q7 oz) (cs':=q7 oz) rfl rfl (nb rfl) rfl rfl fun w4 I4 _=>?_
  refine b1B (vs:=q7 oz) Tryz.isAgg32 Tryz.sizeOf32 rfl (I4.at1 (o:=0) (nb rfl) rfl) ?_
  exact ⟨_,_,I4.drop.drop,oz,by rw [he],fun _=>⟨rfl,rfl⟩,fun h=>by rw [he] at h;cases h⟩
 have hb2:0≤k∧k≤65536∧sc.n≤65536:=by
  simp at c2
  omega
 have he:errR q scr k=0:=by
  unfold errR
  rw [if_neg (fun h=>h c),if_neg]
  omega
 obtain ⟨n,rfl⟩:∃n:Nat,k=n:=⟨k.toNat,by omega⟩
 rw [he,Int.toNat_natCast]
 clear c2 he
 have hp3:=hp.le l3
 have hsc3:=hsc.le l3
 have hds:=hp3.d
 have hdn:=hds.1
 have hbd:=hp3.bd
 simp only [big] at hbd
 obtain ⟨htold,hdok,_⟩:=(a5E q).1 c
 obtain ⟨hnd,hsz,_⟩:=hdok
 refine a9T I3 fun gm w4 I4 _=>?_
 refine a9T I4 fun ga w5 I5 _=>?_
 refine b6 (v:=.agg (rc0 n sc gm ga).toArray) (Pu.ok fun w=>by kernel_rfl) ?_
 refine z7 I5 (cs:=rc0 n sc gm ga) rfl fun g10 w6 I6 _=>?_
 refine v6 fun j1 hx1=>?_
 refine b6 a7m ?_
 refine d4 (ld1 Tryz.isAgg22 ((I6.bring 4).at1 (o:=0) (vs:=[vs p.a5g]) (nb rfl) rfl)) ?_
 refine b6 (a1U _ _ _) ?_
 refine K7 (J:=fun nn l w'=>∃(i:Nat)(es es2:Array MapEntry)(cl cl2:Nat)(lv:List (ByteArray×Option Addr))(la:List (ByteArray×Sl))(Fv Fa:Frag),nn=q.decls.length-i∧l=[vi (i:Int)]∧i≤q.decls.length∧MapEs kS vP es lv∧MapEs kS vs es2 la∧Boxes lv (vD (q.decls.take i)) Fv∧Arrs la (aD (q.decls.take i)) Fa∧
   Inv w (inF []) H H3 [rB g10 (rc0 n sc gm ga),mB ga es2 cl2,mB gm es cl,oB g6 oz,pB g3 p,Fv,Fa] w')
  ⟨_,0,#[],#[],0,0,[],[],[],[],rfl,rfl,Nat.zero_le _,MapEs.nil _ _,MapEs.nil _ _,.nil,.nil,I6.re [] (fun f f0 fa=>by (try simp only [List.nil_append]);simp only [rB,mB,pB,oB,bx,List.flatten_cons,List.flatten_nil,f0,fa]<;>omega)⟩ ?_
 rintro nn τ w7 next5 ⟨i,es,es2,cl,cl2,lv,la,Fv,Fa,rfl,hl7,hi,hes,hes2,hbx,har,I7⟩ hn7
 simp only [List.map_cons,List.map_nil,List.cons.injEq,and_true] at hl7
 simp only [hl7]
 unfold c6h
 refine b6 (A4 _ _ _ _ _ _) ?_
 refine D7 (fun c5=>?_) (fun c5=>?_)
 ·obtain ⟨d,hd⟩:=y7 (l:=q.decls) (i:=i) (by omega)
  obtain ⟨g5,o5,ha5,hA5⟩:=hds.2 i d hd
  have hnew:=c5T hnd hd
  refine v6 fun j6 hx6=>?_
  refine b6 (a2g ha5 _ _ _ _ (by omega) (by omega)) ?_
  refine d4 (ldA (vs:=m3 d) Tryz.isAgg58 Tryz.sizeOf58 rfl (I7.atH hA5)) ?_
  refine s6 I7 Tryz.zeroValue58 (cs:=[(Value.string ⟨#[]⟩),(vi 0)]) rfl fun g12 w8 I8 _=>?_
  refine E8 I8 Tryz.sizeOf58 (vs:=(m3 d)) (cs':=(m3 d)) rfl rfl (nb rfl) rfl rfl fun w9 I9 _=>?_
  refine b6 a0X ?_
  refine d4 (ld1 Tryz.isAgg3 (I9.at1 (o:=1) (vs:=[vi d.C1]) (nb rfl) rfl)) ?_
  refine b6 (O1 _ _ _ _ _ _) ?_
  have nxt:∀(es es2:Array MapEntry)(cl cl2:Nat)(lv:List (ByteArray×Option Addr))(la:List (ByteArray×Sl))(Fv Fa:Frag)(w':World),MapEs kS vP es lv→MapEs kS vs es2 la→Boxes lv (vD (q.decls.take (i+1))) Fv→Arrs la (aD (q.decls.take (i+1))) Fa→
    Inv w (inF []) H H3 [rB g10 (rc0 n sc gm ga),mB ga es2 cl2,mB gm es cl,oB g6 oz,pB g3 p,Fv,Fa] w'→j6 [] w':=fun es es2 cl cl2 lv la Fv Fa w' h1 h2 h3 h4 J=>by
   refine hx6 _ _ ?_
   unfold c6g
   intro _
   refine b6 (B0 _ _ _ _ _ _) ?_
   rw [D6 (by omega) (by omega)]
   exact hn7 _ _ _ (show q.decls.length-(i+1) < q.decls.length-i by omega) ⟨i+1,es,es2,cl,cl2,lv,la,Fv,Fa,rfl,rfl,by omega,h1,h2,h3,h4,J⟩
  refine D7 (fun c=>?_) (fun c=>?_)
  ·have hz:=hsz d (List.mem_of_getElem? hd)
   have hnl:d.f8 ∉ la.map (·.1):=by
    rw [har.fst]
    exact fun h=>hnew (by have:=d2q _ _ h;exact this)
   refine C6 I9 fun w10 I10=>?_
   refine d6 (m7 _) ?_
   refine d6 b2y ?_
   refine d6 W4 ?_
   refine d6 a0X ?_
   refine i8 (ld1 Tryz.isAgg54 ((I10.bring 1).at1 (o:=5) (vs:=[.map (some ga)]) (nb rfl) rfl)) ?_
   refine i8 (ld1 Tryz.isAgg9 (I10.at1 (o:=0) (vs:=[.string d.f8]) (nb rfl) rfl)) ?_
   refine i8 (ld1 Tryz.isAgg3 (I10.at1 (o:=1) (vs:=[vi d.C1]) (nb rfl) rfl)) ?_
   refine d3u I10 (by omega) (by omega) fun s11 F11 w11 hr11 I11 k11=>?_
   refine ⟨k11 _ I10.lt1,k11 _ (I10.bring 1).lt1,?_⟩
   refine a6Z (keyS Tryz.underlying9) Tryz.underlying54 (I11.bring 3) hes2 d.f8 s11 fun es2' cl2' w12 hes2' I12 _=>?_
   rw [b5z _ _ _ hnl] at hes2'
   refine nxt es es2' cl cl2' lv _ Fv (Fa++F11) _ hes hes2' ?_ ?_ (I12.re (bx g12 58 (m3 d)) (fun f f0 fa=>by (try simp only [List.cons_append,List.nil_append]);simp only [rB,mB,pB,oB,bx,List.flatten_cons,List.flatten_nil,f0,fa]<;>omega))
   ·rw [b7V hd,if_pos c,List.append_nil];exact hbx
   ·rw [b7W hd,if_pos c];exact har.snoc hr11
  ·have hnl:d.f8 ∉ lv.map (·.1):=by
    rw [hbx.fst]
    exact fun h=>hnew (by have:=d2p _ _ h;exact this)
   refine C6 I9 fun w10 I10=>?_
   refine d6 (m7 _) ?_
   refine d6 a9B ?_
   refine d6 W4 ?_
   refine i8 (ld1 Tryz.isAgg53 ((I10.bring 1).at1 (o:=4) (vs:=[.map (some gm)]) (nb rfl) rfl)) ?_
   refine i8 (ld1 Tryz.isAgg9 (I10.at1 (o:=0) (vs:=[.string d.f8]) (nb rfl) rfl)) ?_
   refine s6 I10 Tryz.zeroValue2 (cs:=[(vi 0)]) rfl fun g11 w11 I11 k11=>?_
   refine ⟨k11 _ I10.lt1,k11 _ (I10.bring 1).lt1,?_⟩
   refine a6Z (vv:=vP) (keyS Tryz.underlying9) Tryz.underlying53 (I11.bring 4) hes d.f8 (some ⟨g11,0,none⟩) fun es' cl' w12 hes' I12 _=>?_
   rw [b5z _ _ _ hnl] at hes'
   refine nxt es' es2 cl' cl2 _ la (Fv++bx g11 2 [vi 0]) Fa _ hes' hes2 ?_ ?_ (I12.re (bx g12 58 (m3 d)) (fun f f0 fa=>by (try simp only [List.cons_append,List.nil_append]);simp only [rB,mB,pB,oB,bx,List.flatten_cons,List.flatten_nil,f0,fa]<;>omega))
   ·rw [b7V hd,if_neg c];exact hbx.snoc
   ·rw [b7W hd,if_neg c,List.append_nil];exact har
 ·refine hx1 _ _ ?_
  have hie:i=q.decls.length:=by omega
  subst hie
  rw [List.take_length] at hbx har
  clear hx1 hn7 hl7 c5
  have z1:=(I7.bring 1).freeze
  have z2:=((z1.1).bring 1).freeze
  have l5:=z1.2.1.trans z2.2.1
  have hma:MapH (addF (addF H3 (mB ga es2 cl2)) (mB gm es cl)) kS vs (some ga) la:=⟨ga,es2,cl2,rfl,z2.2.1 _ _ (z1.2.2 _ (List.mem_singleton_self _)),hes2⟩
  have hmv:MapH (addF (addF H3 (mB ga es2 cl2)) (mB gm es cl)) kS vP (some gm) lv:=⟨gm,es,cl,rfl,z2.2.2 _ (List.mem_singleton_self _),hes⟩
  have I8:Inv w (inF []) H _ [rB g10 (rc0 n sc gm ga),oB g6 oz,pB g3 p,Fv,Fa] w7:=z2.1
  generalize addF (addF H3 (mB ga es2 cl2)) (mB gm es cl)=H5 at I8 hma hmv l5
  clear z1 z2
  have hp5:=hp3.le l5
  have hsc5:=hsc3.le l5
  have hst5:∃xs,SlH H5 6 p8 p.a5J xs∧xs.length≤big∧K4 (SH H5) xs q.body:=hp5.b
  obtain ⟨xs,hxs,hxb,hxr⟩:=hst5
  obtain ⟨hars,_⟩:=PH.ars hp5 hsm htold
  have hnm:=b7f c
  have hok:=c6Z c hin n
  have hk1:(n:Int)≤1000000:=by omega
  have hk2:n≤1000000:=by omega
  have hrun:=c8V (g:=g10) (X:=⟨some gm,some ga,lv,la⟩) (b5y (k0:=n) (ev0:=n) hxs hxb hxr (fun t ht=>cmS (hars t ht).1 (hars t ht).2 (hnm.mem ht)) fun t ht x hx=>c8U hk1 hk2 (hars t ht).1 (hars t ht).2 (hnm.mem ht) x hx)
   (σ:=s0 q.decls scr n) (F:=rB g10 (rc0 n sc gm ga)++([]++(Fv++Fa))) ⟨sc,⟨none,0,0⟩,[],Fv,Fa,⟨hsc5,hcap,RowL.nil Y5 Y6,hbx,har,hmv,hma⟩,rfl⟩ hok
  have hcmB:Cm ((vD q.decls).map (·.1)) ((aD q.decls).map (·.1)) (fun _=>True) (seqM (q.body.map rnT)):=b1S fun m hm=>by
   obtain ⟨t,ht,rfl⟩:=List.mem_map.1 hm
   exact cmS (hars t ht).1 (hars t ht).2 (hnm.mem ht)
  have hend:Okst n n ((vD q.decls).map (·.1)) ((aD q.decls).map (·.1)) (endS (seqM (q.body.map rnT) (s0 q.decls scr n))).2.2:=by
   have:=hcmB.safe _ hok
   cases hm:seqM (q.body.map rnT) (s0 q.decls scr n) with
   | ok a s1=>rw [hm] at this;exact this.2.1
   | stop a b s1=>rw [hm] at this;exact this.1
  unfold c6f
  intro _
  refine b6 a7n ?_
  refine d4 (ld1 Tryz.isAgg23 ((I8.bring 2).at1 (o:=1) (vs:=[vs p.a5J]) (nb rfl) rfl)) ?_
  refine q9 (cap:=[]) (fun args w=>Tryz.call11 args w) ?_
  refine O2 (Fi:=[rB g10 (rc0 n sc gm ga)++([]++(Fv++Fa))]) (Fr:=[oB g6 oz,pB g3 p]) (I8.re [] (fun f f0 fa=>by (try simp only [List.cons_append,List.nil_append]);simp only [rB,pB,oB,bx,List.flatten_cons,List.flatten_nil,f0,fa]<;>omega)) hrun (fun v H6 Fo w8 I9 l6 k6 qq=>?_) (fun _ _ _ _ _ q=>q.elim)
  obtain ⟨F',rfl,rfl,hr6,rfl⟩:=qq
  unfold runQ
  generalize endS (seqM (q.body.map rnT) (s0 q.decls scr n))=r at hr6 hend ⊢
  obtain ⟨st,wr,σ⟩:=r
  dsimp only at hr6 hend ⊢
  obtain ⟨sc',ev,Fe,Fv',Fa',W,rfl⟩:=hr6
  refine s6 I9 Tryz.zeroValue61 (cs:=[vi 0,vi 0]) rfl fun g13 w10 I10 _=>?_
  refine E8 I10 Tryz.sizeOf61 (vs:=[vi st,vi wr]) (cs':=[vi st,vi wr]) rfl rfl (nb rfl) rfl rfl fun w11 I11 _=>?_
  have I12:Inv w (inF []) H H6 [bx g13 61 [vi st,vi wr],rB g10 (rcs ⟨some gm,some ga,lv,la⟩ σ sc' ev),Fe,Fv',Fa',oB g6 oz,pB g3 p] w11:=I11.re [] (fun f f0 fa=>by (try simp only [List.cons_append,List.nil_append]);simp only [rB,pB,oB,bx,List.flatten_cons,List.flatten_nil,f0,fa]<;>omega)
  refine C6 I12 fun w12 I13=>?_
  refine d6 c5V ?_
  refine d6 c5W ?_
  refine d6 (m7 _) ?_
  refine d6 b2v ?_
  refine d6 (m7 _) ?_
  refine d6 a7p ?_
  refine i8 (ld1 Tryz.isAgg3 (I13.at1 (o:=0) (vs:=[vi st]) (nb rfl) rfl)) ?_
  refine i8 (ld1 Tryz.isAgg3 (I13.at1 (o:=1) (vs:=[vi wr]) (nb rfl) rfl)) ?_
  refine i8 (ld1 Tryz.isAgg3 ((I13.bring 1).at1 (o:=1) (vs:=[vi σ.steps]) (nb rfl) rfl)) ?_
  refine i8 (ld1 Tryz.isAgg29 ((I13.bring 1).at1 (o:=3) (vs:=[vs ev]) (nb rfl) rfl)) ?_
  refine d6 (v:=.agg (q7 ⟨st,wr,σ.steps,ev,⟨none,0,0⟩,⟨none,0,0⟩⟩).toArray) (Pu.ok fun w=>by kernel_rfl) ?_
  refine s6 I13 Tryz.zeroValue32 (cs:=q7 oz) rfl fun g14 w14 I14 k14=>?_
  refine ⟨k14 _ (I13.bring 1).lt1,k14 _ (I13.bring 1).lt1,k14 _ I13.lt1,k14 _ I13.lt1,?_⟩
  refine E8 I14 Tryz.sizeOf32 (vs:=q7 ⟨st,wr,σ.steps,ev,⟨none,0,0⟩,⟨none,0,0⟩⟩) (cs':=q7 ⟨st,wr,σ.steps,ev,⟨none,0,0⟩,⟨none,0,0⟩⟩) rfl rfl (nb rfl) rfl rfl fun w15 I15 _=>?_
  refine c5U (st:=st) (wr:=wr) hp5 hnd W hend.vs hend.rs (I15.re (bx g13 61 [vi st,vi wr]) (fun f f0 fa=>by (try simp only [List.cons_append,List.nil_append]);simp only [rB,pB,oB,bx,List.flatten_cons,List.flatten_nil,f0,fa]<;>omega)) fun o Fo w16 ho16 I16=>?_
  exact ⟨_,_,I16,o,rfl,fun h=>(h rfl).elim,fun _=>ho16⟩
end
end Go.Proofs.YthaaobpfbgcfiaaGreatDoor
