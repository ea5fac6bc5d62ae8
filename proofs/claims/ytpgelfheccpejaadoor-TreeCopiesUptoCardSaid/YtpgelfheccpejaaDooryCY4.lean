/- What is new is written over, and nothing else. By hand. -/
import Derived.Test.YtpgelfheccpejaaDooryCY1
import Derived.Test.YtpgelfheccpejaaDooryCY2
namespace Go.Proofs.YtpgelfheccpejaaDoor
open Go.RowKit
set_option maxRecDepth 100000
set_option maxHeartbeats 2000000
theorem NSt.good{H H':Hp}{n:Nat}(hlt:∀g o,H' g=some o→g < n){s:c6}(h:NSt H H' s):GoodS (newF H H' n) s:=by
 induction h with
 | mk b1 b2 b3 a b c _ d e _ i1 i2=>exact .mk (NewS.rowF hlt b1 a) (NewS.bodyF hlt b2 b c) i1 (NewS.bodyF hlt b3 d e) i2
abbrev nSi:Sl:=⟨none,0,0⟩
def SpC(F0:Frag)(a:d4):Prop:=∀(H:Hp)(F:Frag),Sp F0 F→Ct Tryd.prog 10 [Value.agg (f5 a).toArray] H [F] (fun v _ Fo=>v=Value.tuple #[]∧∃F',Fo=[F']∧Sp F0 F') noQE
theorem a7u{F0:Frag}(nd:(F0.map (·.1)).Nodup)(a:d4)(zs:List c6)(hd:RowF F0 45 2 a.B3)(hb:BodyF F0 a.M7 zs)(hz:∀(i:Nat) x,zs[i]? = some x→RowF F0 41 4 x.d5∧SpC F0 ⟨nSi,x.B1⟩∧SpC F0 ⟨nSi,x.A8⟩)(h0:a.M7.n≠0→SpC F0 ⟨nSi,nSi⟩):SpC F0 a:=by
 intro H F hF
 refine Ct.of fun w0 w ps0 H0 R E I hR=>b8e ?_
 unfold F10
 refine B2 I (cs:=f5 a) rfl fun ga w1 I1 k1=>?_
 refine m7 fun j1 hx1=>?_
 obtain ⟨db,hd⟩:=hd
 obtain ⟨bb,bl,hb⟩:=hb
 simp only [big] at db bb
 refine T1 (J:=fun n l w'=>∃(i:Nat)(F':Frag),n=a.B3.n-i∧l=[vi (i:Int)]∧i≤a.B3.n∧Sp F0 F'∧Inv w0 ps0 H0 H [bx ga 25 (f5 a),F'] w') ⟨_,0,F,rfl,rfl,Nat.zero_le _,hF,I1⟩ ?_
 rintro n τ w2 next6 ⟨i,F1,rfl,hl,hi,hS,I2⟩ hn6
 simp only [List.map_cons,List.map_nil,List.cons.injEq,and_true] at hl
 simp only [hl]
 unfold b4u
 refine a6 L1 ?_
 refine b6 (l1 Tryd.isAgg22 I2 rfl) ?_
 refine a6 (a0K _ _ _) ?_
 refine a6 (r5 _ _ _ _ _ _) ?_
 refine a7T (fun c=>?_) (fun c=>?_)
 ·obtain hd0 | ⟨g,arr,ha,hg,hsz⟩:=hd
  ·omega
  refine a6 L1 ?_
  refine b6 (l1 Tryd.isAgg22 I2 rfl) ?_
  refine a6 (v:=Value.agg (j8 ⟨⟨#[119,104,105,108,101]⟩,-1⟩).toArray) (Pu.ok fun w=>by kernel_rfl) ?_
  refine a6 (a2F ha _ _ _ _ (by omega) c) ?_
  rw [Int.toNat_natCast,Nat.zero_add]
  refine b6y (n:=2) (I2.bring 1) hS nd hg Tryd.sizeOf45 (vs:=j8 ⟨⟨#[119,104,105,108,101]⟩,-1⟩) rfl rfl (by have:(i+1)*2≤a.B3.n*2:=Nat.mul_le_mul_right 2 (by omega);omega) rfl (fun e=>by cases e) fun F2 w3 I3 hS3=>?_
  refine a6 (p5 _ _ _ _ _ _) ?_
  rw [r7 (by omega) (by omega)]
  exact hn6 _ _ _ (by omega) ⟨i+1,F2,rfl,rfl,by omega,hS3,I3.bring 1⟩
 refine hx1 _ _ ?_
 clear hx1 hn6
 unfold b4t
 intro _
 refine T1 (J:=fun n l w'=>∃(i:Nat)(F':Frag)(Hc:Hp),n=a.M7.n-i∧l=[vi (i:Int)]∧i≤a.M7.n∧Sp F0 F'∧Inv w0 ps0 H0 Hc [bx ga 25 (f5 a),F'] w') ⟨_,0,F1,H,rfl,rfl,Nat.zero_le _,hS,I2⟩ ?_
 rintro n τ w3 next2 ⟨i,F2,Hc,rfl,hl,hi,hS2,I3⟩ hn2
 simp only [List.map_cons,List.map_nil,List.cons.injEq,and_true] at hl
 simp only [hl]
 unfold b4s
 refine a6 L2 ?_
 refine b6 (l1 Tryd.isAgg23 I3 rfl) ?_
 refine a6 (J6 _ _ _) ?_
 refine a6 (r5 _ _ _ _ _ _) ?_
 refine a7T (fun c2=>?_) (fun c2=>?_)
 ·obtain hb0 | ⟨g,arr,ha,hg,hsz,hel⟩:=hb
  ·omega
  obtain ⟨x,hx⟩:=A7 (l:=zs) (i:=i) (by omega)
  obtain ⟨hxe,hxt,hxl⟩:=hz i x hx
  have hxs:=hel i x hx
  have hi6:i*6+6≤arr.size:=by have:(i+1)*6≤a.M7.n*6:=Nat.mul_le_mul_right 6 (by omega);omega
  have hzz:=h0 (by omega)
  refine m7 fun j3 hx3=>?_
  refine m7 fun j4 hx4=>?_
  refine T1 (J:=fun n l w'=>∃(k:Nat)(F':Frag),n=x.d5.n-k∧l=[vi (k:Int)]∧k≤x.d5.n∧Sp F0 F'∧Inv w0 ps0 H0 Hc [bx ga 25 (f5 a),F'] w') ⟨_,0,F2,rfl,rfl,Nat.zero_le _,hS2,I3⟩ ?_
  rintro n τ w4 next5 ⟨k,F3,rfl,hl,hk,hS3,I4⟩ hn5
  simp only [List.map_cons,List.map_nil,List.cons.injEq,and_true] at hl
  simp only [hl]
  unfold b4r
  obtain ⟨y,hy,hA⟩:=b3g (I4.bring 1) hS3 hg hi6 hxs
  refine a6 L2 ?_
  refine b6 (l1 Tryd.isAgg23 I4 rfl) ?_
  refine a6 (J4 ha _ _ _ _ (by omega) c2) ?_
  refine a6 D8 ?_
  rw [Int.toNat_natCast,Nat.zero_add]
  refine b6 (ld1 Tryd.isAgg39 (v:=vs y.d5) (hA.sub (k:=2) (n:=1) (show 2+1≤6 by omega))) ?_
  refine a6 (B0 _ _ _) ?_
  refine a6 (r5 _ _ _ _ _ _) ?_
  refine a7T (fun c3=>?_) (fun c3=>?_)
  ·obtain rfl:y=x:=by
    rcases hy with rfl | rfl
    ·rfl
    ·dsimp only at c3;omega
   obtain ⟨eb,he0 | ⟨ge,arre,hea,heg,hesz⟩⟩:=hxe
   ·omega
   simp only [big] at eb
   refine a6 L2 ?_
   refine b6 (l1 Tryd.isAgg23 I4 rfl) ?_
   refine a6 (J4 ha _ _ _ _ (by omega) c2) ?_
   refine a6 D8 ?_
   rw [Int.toNat_natCast,Nat.zero_add]
   refine b6 (ld1 Tryd.isAgg39 (v:=vs y.d5) (hA.sub (k:=2) (n:=1) (show 2+1≤6 by omega))) ?_
   refine a6 (v:=Value.agg (c7 ⟨0,0,⟨#[]⟩,⟨none,0,0⟩⟩).toArray) (Pu.ok fun w=>by kernel_rfl) ?_
   refine a6 (O3 hea _ _ _ _ (by omega) c3) ?_
   rw [Int.toNat_natCast,Nat.zero_add]
   refine b6y (n:=4) (I4.bring 1) hS3 nd heg Tryd.sizeOf41 (vs:=c7 ⟨0,0,⟨#[]⟩,⟨none,0,0⟩⟩) rfl rfl (by have:(k+1)*4≤y.d5.n*4:=Nat.mul_le_mul_right 4 (by omega);omega) rfl (fun e=>by cases e) fun F4 w5 I5 hS4=>?_
   refine a6 (p5 _ _ _ _ _ _) ?_
   rw [r7 (by omega) (by omega)]
   exact hn5 _ _ _ (by omega) ⟨k+1,F4,rfl,rfl,by omega,hS4,I5.bring 1⟩
  ·refine hx4 _ _ ?_
   clear hx4 hn5
   unfold b4q
   intro _
   have hyt:SpC F0 ⟨nSi,y.B1⟩:=by
    rcases hy with rfl | rfl
    ·exact hxt
    ·exact hzz
   refine a6 L2 ?_
   refine b6 (l1 Tryd.isAgg23 I4 rfl) ?_
   refine a6 (J4 ha _ _ _ _ (by omega) c2) ?_
   refine a6 P2 ?_
   rw [Int.toNat_natCast,Nat.zero_add]
   refine b6 (ld1 Tryd.isAgg23 (v:=vs y.B1) (hA.sub (k:=4) (n:=1) (show 4+1≤6 by omega))) ?_
   refine a6 (v:=Value.agg (f5 ⟨nSi,y.B1⟩).toArray) (Pu.ok fun w=>by kernel_rfl) ?_
   refine d7 (Fi:=[F3]) Tryd.call10 (hyt Hc F3 hS3) (I4.bring 1) ?_
   rintro _ H5 Fo w5 I5 l5 k5 ⟨rfl,F5,rfl,hS5⟩
   have I5':Inv w0 ps0 H0 H5 [bx ga 25 (f5 a),F5] w5:=I5.bring 1
   obtain ⟨y2,hy2,hA2⟩:=b3g I5 hS5 hg hi6 hxs
   have hyl:SpC F0 ⟨nSi,y2.A8⟩:=by
    rcases hy2 with rfl | rfl
    ·exact hxl
    ·exact hzz
   refine a6 L2 ?_
   refine b6 (l1 Tryd.isAgg23 I5' rfl) ?_
   refine a6 (J4 ha _ _ _ _ (by omega) c2) ?_
   refine a6 O0 ?_
   rw [Int.toNat_natCast,Nat.zero_add]
   refine b6 (ld1 Tryd.isAgg23 (v:=vs y2.A8) (hA2.sub (k:=5) (n:=1) (show 5+1≤6 by omega))) ?_
   refine a6 (v:=Value.agg (f5 ⟨nSi,y2.A8⟩).toArray) (Pu.ok fun w=>by kernel_rfl) ?_
   refine d7 (Fi:=[F5]) Tryd.call10 (hyl H5 F5 hS5) I5 ?_
   rintro _ H6 Fo w6 I6 l6 k6 ⟨rfl,F6,rfl,hS6⟩
   have I6':Inv w0 ps0 H0 H6 [bx ga 25 (f5 a),F6] w6:=I6.bring 1
   refine a6 L2 ?_
   refine b6 (l1 Tryd.isAgg23 I6' rfl) ?_
   refine a6 (v:=Value.agg (c5 zSt).toArray) (Pu.ok fun w=>by kernel_rfl) ?_
   refine a6 (J4 ha _ _ _ _ (by omega) c2) ?_
   rw [Int.toNat_natCast,Nat.zero_add]
   refine b6y (n:=6) I6 hS6 nd hg Tryd.sizeOf49 (vs:=c5 zSt) rfl rfl hi6 rfl (fun e=>⟨i,rfl,rfl⟩) fun F7 w7 I7 hS7=>?_
   refine hx3 _ _ ?_
   unfold b4p
   intro _
   refine a6 (p5 _ _ _ _ _ _) ?_
   rw [r7 (by omega) (by omega)]
   exact hn2 _ _ _ (by omega) ⟨i+1,F7,_,rfl,rfl,by omega,hS7,I7.bring 1⟩
 ·exact hR _ _ _ _ I3.drop ⟨rfl,F2,rfl,hS2⟩
theorem b3h{F0:Frag}(nd:(F0.map (·.1)).Nodup){x:c6}(h:GoodS F0 x):SpC F0 ⟨nSi,x.B1⟩∧SpC F0 ⟨nSi,x.A8⟩:=by
 have z0:SpC F0 ⟨nSi,nSi⟩:=a7u nd _ [] ⟨Nat.zero_le _,.inl rfl⟩ ⟨Nat.zero_le _,rfl,.inl rfl⟩ (fun i x h=>by simp at h) fun h=>absurd rfl h
 have ex:∀{x:c6},GoodS F0 x→RowF F0 41 4 x.d5:=fun h=>by cases h with | mk a _ _ _ _=>exact a
 induction h with
 | mk a b g1 c g2 i1 i2=>exact ⟨a7u nd _ _ ⟨Nat.zero_le _,.inl rfl⟩ b (fun i x hx=>⟨ex (g1 i x hx),i1 i x hx⟩) fun _=>z0,a7u nd _ _ ⟨Nat.zero_le _,.inl rfl⟩ c (fun i x hx=>⟨ex (g2 i x hx),i2 i x hx⟩) fun _=>z0⟩
theorem b5K{H H':Hp}{n:Nat}(hlt:∀g o,H' g=some o→g < n){y:d4}{zs:List c6}(hb:y.B3.n≤big)(hb2:y.M7.n≤big)(hd:NewS H H' 45 2 y.B3)(hn:NewS H H' 49 6 y.M7)(hs:SlH H' 6 c5 y.M7 zs)(hz:∀z∈zs,NSt H H' z):SpC (newF H H' n) y:=by
 have nd:=a9p H H' n
 have z0:SpC (newF H H' n) ⟨nSi,nSi⟩:=(b3h nd (GoodS.z _)).1
 refine a7u nd y zs (NewS.rowF hlt hb hd) (NewS.bodyF hlt hb2 hn hs) (fun i x hx=>?_) fun _=>z0
 have G:=(hz x (List.mem_of_getElem? hx)).good hlt
 refine ⟨?_,b3h nd G⟩
 cases G with | mk a _ _ _ _=>exact a
end Go.Proofs.YtpgelfheccpejaaDoor
