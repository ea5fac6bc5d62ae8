/- CfgRoundsUptoCardSaid: 'gnomonlaw9.CfgRounds' answers true of every program and every row of ints, and leaves them as they were, where the arguments are together of bulk at most 1048576. No further condition. -/
import Derived.Test.YthjlehnccgjpoaaGreatDooryVV3
namespace Go.Proofs.YthjlehnccgjpoaaGreatDoor.cfgRounds
open Go.ChangeShapes Go.WideShapes Go.ChangeAt Go.RowKit Go.ChangeMaps
theorem shaped(os:Os):((wit os).forCall (λ_ _=>0) ⟨#[],#[.agg #[.slice none 0 0,.slice none 0 0],.slice none 0 0],[]⟩).Shaped Tryz.prog:=World.shaped_of_ZipB (by kernel_rfl) (by kernel_rfl)
theorem reads(os:Os){H:Type}(enc:TypeId×Value->H):∃places,DataW.whole enc Tryz.prog ((wit os).forCall (λ_ _=>0) ⟨#[],#[.agg #[.slice none 0 0,.slice none 0 0],.slice none 0 0],[]⟩).memory Tryz.f3.params.toList Rows.cfgRoundsSpec.vars false (#[.agg #[.slice none 0 0,.slice none 0 0],.slice none 0 0]:Array Value).toList 8=some ([.agg [.nil,.nil],.nil],[],places):=⟨[],by kernel_rfl⟩
set_option maxRecDepth 100000 in
theorem contract(H:Type)(enc:TypeId×Value->H)(W:World)(base:Nat)(args:Array Value)(ds gs:List (DataW H))(before:List MemPlace)
  (hval:∀(j:Nat) t v,Tryz.f3.params[j]? = some t->args[j]? = some v->Value.okWide Tryz.prog W .any base t v)
  (hW : DataW.Whole enc Tryz.prog Tryz.f3.params.toList Rows.cfgRoundsSpec.vars false W args.toList ds gs before) (hk : Rows.uptoSmall H (ds ++ gs) = true) (hT : Lib.Utf8Tabs 1 2 W /\ ErrW W /\ Lib.TabIs Tryz.prog W "internal/strconv.uint64pow10" .u64 Lib.pow10Tab) :
  Calls Tryz.prog 3 args W λe W'=>∃v,e=.returned v/\Rows.cfgRoundsSpec.post enc Tryz.prog Tryz.f3 false true false false W args v W':=by
 have hW':=hW
 obtain ⟨p,q,hA0,hV,rfl,hfz,hnd⟩:=hW
 have hA:DataW.TrodAll enc Tryz.prog W 0 (λ_=>true) true Tryz.f3.params.toList args.toList ds p:=hA0
 rw [Tryz.params3] at hA hval
 obtain ⟨v0,vs0,d0,ds0,p0,q0,hargs,rfl,rfl,h0,r0⟩:=trodAll_cons hA
 obtain ⟨v1,vs1,d1,ds1,p1,q1,rfl,rfl,rfl,h1,r1⟩:=trodAll_cons r0
 obtain ⟨rfl,rfl,rfl⟩:=trodAll_nil r1
 obtain rfl:args=#[v0,v1]:=by cases args;simp_all
 obtain ⟨rfl,rfl⟩:=trodVars_none hV
 have hlt:∀x∈p0++(p1++[]),x.block < W.heap.size:=λx hx=>by simpa using hW'.lt x (by simpa using hx)
 have hb:=of_decide_eq_true hk
 simp only [List.append_nil,Rows.uptoBulkAll] at hb
 obtain ⟨a0,b0,e0,G0,S0⟩:=d3C (hval 0 25 v0 rfl rfl) h0 (by omega)
 obtain ⟨a1,b1,e1,G1⟩:=d6U (hval 1 26 v1 rfl rfl) h1
 clear hA0
 simp only [List.append_nil] at hW'
 have walk:a2F a0 a1 (hpW W) (λr _=>r=true):=c7X (d5U hT.1) (e0D hT.2.2) (e0C hT.2.1) G0 S0 G1 λH' _=>rfl
 have hc:=d5h (args:=#[v0,v1]) (W:=W) (show Ct Tryz.prog 3 [v0,v1] (hpW W) [] _ noQE by rw [e0,e1];exact walk)
 refine hc.mono λe W' ⟨v,H',Fo,he,hg,r,hv,_,hr⟩=>?_
 subst he;subst hv;subst hr
 refine ⟨_,rfl,_,_,_,[],p0++(p1++[]),[],hW',trodAll_cons_mk (shut_bool Tryz.underlying4 _) trodAll_mk0,?_,rfl,hg.frame _,λh=>by cases h⟩
 exact trodAll_cons_mk (Below.trod laidOut (by kernel_rfl) (of_decide_eq_true (by kernel_rfl)) h0 hg λx hx=>hlt x (by simp [hx])) (trodAll_cons_mk (Below.trod laidOut (by kernel_rfl) (of_decide_eq_true (by kernel_rfl)) h1 hg λx hx=>hlt x (by simp [hx])) (trodAll_mk0))
set_option maxRecDepth 100000 in
theorem lifted(os:Os)(started:os.Started)(H:Type)(enc:TypeId×Value->H)(F:Stop.Interp):
  ReturnsInHanded {} Tryz.checked os 3 .any ((Rows.OpenSpec.upto Rows.cfgRoundsSpec).preRow enc Tryz.prog Tryz.f3 Rows.cfgRoundsUptoRow.domain false Rows.cfgRoundsUptoRow.laid) (((Rows.OpenSpec.upto Rows.cfgRoundsSpec).at F).post enc Tryz.prog Tryz.f3 false true false false):=by
 obtain ⟨places,hx⟩:=reads os enc
 refine returnsInHanded_of_row (C:=Tryz.checked) (s:=(Rows.OpenSpec.upto Rows.cfgRoundsSpec)) own started (by kernel_rfl) Tryz.func3
  (e0F (enc:=enc) os #[.agg #[.slice none 0 0,.slice none 0 0],.slice none 0 0] (shaped os) (by kernel_rfl) (OpenSpec.preRow_of_cond 8 hx (by kernel_rfl) (λk hk=>by cases hk;kernel_rfl) (by kernel_rfl) (e0E os _))) ?_
 intro W base args ds gs before hval hW _ hcond _ hL _ _
 exact contract H enc W base args ds gs before hval hW (hcond _ rfl) (c6T hL)
theorem said:Rows.CfgRoundsUptoSaid:=
 OpenClaim.holds_of_cond 3 Tryz.f3 rfl rfl rfl rfl rfl rfl rfl ⟨rfl,rfl,rfl,rfl,rfl⟩ rfl rfl rfl rfl rfl (by kernel_rfl) Tryz.func3 (by kernel_rfl)
  (of_decide_eq_true (by kernel_rfl)) (by unfold Func.isWrapper;first | (rw [if_pos (by decide +kernel)];kernel_rfl) | (rw [if_neg (by decide +kernel)];exact ⟨rfl,rfl⟩))
  (λos started H enc _ F=>by rw [OpenClaim.pre_eq_preRow];exact lifted os started H enc F)
theorem plain (f : FuncId) (fn : Func) (hf : Tryz.pinned.checked.prog.funcNamed "gnomon/gnomonlaw9.CfgRounds" = some f) (hfn : Tryz.pinned.checked.prog.funcs[f]? = some fn) :
  true=Tryz.pinned.checked.prog.looks []/\∀(j:Nat) t,fn.params[j]? = some t->Tryz.pinned.checked.prog.wantsStandIn t=false:=by
 obtain rfl : f = 3 := Option.some.inj ((show Tryz.prog.funcNamed "gnomon/gnomonlaw9.CfgRounds" = some 3 by kernel_rfl).symm.trans hf) |>.symm
 obtain rfl:fn=Tryz.f3:=(Option.some.inj (Tryz.func3.symm.trans hfn)).symm
 refine ⟨by kernel_rfl,λj t ht=>?_⟩
 rw [Tryz.params3] at ht
 have hm:t∈[25,26]:=by simpa using Array.mem_of_getElem? ht
 have hall:([25,26].all λu=>!Tryz.prog.wantsStandIn u)=true:=by kernel_rfl
 exact (show Tryz.prog.wantsStandIn t=false by simpa using List.all_eq_true.1 hall t hm)
theorem card:Rows.CfgRoundsUptoCardSaid:=
 Claim7.holds_tied_plain_at .later [] _ _ _ _ said (λ_ h=>by cases h) (by kernel_rfl) (λ_ h=>by cases h) cfgRoundsUpto_row_tie rfl ⟨rfl,rfl⟩ (by kernel_rfl) rfl plain (by kernel_rfl)
end Go.Proofs.YthjlehnccgjpoaaGreatDoor.cfgRounds
