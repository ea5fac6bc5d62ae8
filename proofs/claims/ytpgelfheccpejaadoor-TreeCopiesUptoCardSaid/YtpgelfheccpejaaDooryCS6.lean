/- Thawing: what was frozen for a call is owned again behind it. No program in sight. -/
import Derived.Test.YtpgelfheccpejaaDooryCS3
namespace Go.Proofs.YtpgelfheccpejaaDoor
open Go.RowKit
def subF(H:Hp)(F:Frag):Hp:=fun i=>if F.any (fun p=>p.1 == i)=true then none else H i
section
variable {w0 w w':World}{ps:Nat→Prop}{H0 H H':Hp}{Fs:List Frag}{F:Frag}
theorem b7K{p:Nat×Obj}(hp:p∈F):subF H F p.1=none:=by
 unfold subF
 rw [if_pos (List.any_eq_true.2 ⟨p,hp,by simp⟩)]
theorem a8N{i:Nat}(h:∀p∈F,p.1≠i):subF H F i=H i:=by
 unfold subF
 rw [if_neg]
 intro q
 obtain ⟨p,hp,e⟩:=List.any_eq_true.1 q
 exact h p hp (by simpa using e)
theorem b3d:Hle (subF H F) H:=fun i o h=>by
 unfold subF at h
 split at h
 ·cases h
 ·exact h
theorem Inv.thaw(I:Inv w0 ps H0 H Fs w)(hF:∀p∈F,H p.1=some p.2)(hn:(F.map (·.1)).Nodup)(hf:∀p∈F,ps p.1∨w0.heap.size≤p.1)(h0:∀p∈F,H0 p.1=none):Inv w0 ps H0 (subF H F) (F::Fs) w:=by
 have out:∀i,H i=none∨(∀p∈F,p.1≠i)→∀p∈F,H i=none→p.1≠i:=fun i _ p hp hi e=>by
  subst e
  rw [hF p hp] at hi
  cases hi
 refine ⟨fun i o h=>I.sub i o (b3d i o h),?_,?_,?_,?_,I.frame,I.mono,I.os,I.tape,I.output,?_,?_⟩
 ·intro p hp
  rw [List.flatten_cons] at hp
  rcases List.mem_append.1 hp with hp | hp
  ·exact I.sub _ _ (hF p hp)
  ·exact I.own p hp
 ·intro p hp
  rw [List.flatten_cons] at hp
  rcases List.mem_append.1 hp with hp | hp
  ·exact b7K hp
  ·cases h:subF H F p.1 with
   | none=>rfl
   | some o=>have:=b3d _ _ h;rw [I.priv p hp] at this;cases this
 ·rw [List.flatten_cons,List.map_append]
  refine List.nodup_append.2 ⟨hn,I.nodup,?_⟩
  intro a ha b hb e
  subst e
  obtain ⟨p,hp,rfl⟩:=List.mem_map.1 ha
  obtain ⟨q,hq,e⟩:=List.mem_map.1 hb
  have:=I.priv q hq
  rw [e,hF p hp] at this
  cases this
 ·intro p hp
  rw [List.flatten_cons] at hp
  rcases List.mem_append.1 hp with hp | hp
  ·exact hf p hp
  ·exact I.fresh p hp
 ·intro i o h
  rw [a8N fun p hp e=>by subst e;rw [h0 p hp] at h;cases h]
  exact I.le i o h
 ·intro i hi hp
  rw [a8N fun q hq e=>by
   subst e
   rcases hf q hq with h | h
   ·exact hp h
   ·omega]
  exact I.back i hi hp
end
end Go.Proofs.YtpgelfheccpejaaDoor
