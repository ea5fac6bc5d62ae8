/- Rows of rows that the running call owns, opened at one place and closed again; parts of frozen slices; blocks that were read early. No program in sight. -/
import Derived.Test.YthaaobpfbgcfiaaGreatDooryWS2
namespace Go.Proofs.YthaaobpfbgcfiaaGreatDoor
open Go.RowKit
def csl(x:Sl):List Value:=[Value.slice x.a x.n x.c]
theorem a9u(x:Sl):(csl x).length=1:=rfl
theorem a9v(x:Sl):(csl x).all (·.oneCell')=true:=rfl
inductive Inners {α:Type} (e:TypeId) (sz:Nat) (c:α→List Value):List Sl→List (List α)→Frag→Prop
 | nil:Inners e sz c [] [] []
 | cons {s:Sl} {xs:List α} {F:Frag} {ss:List Sl} {xss:List (List α)} {G:Frag}:RowL e sz c s xs F→Inners e sz c ss xss G→Inners e sz c (s::ss) (xs::xss) (F++G)
def RowsL{α:Type}(o e:TypeId)(sz:Nat)(c:α→List Value)(s:Sl)(xss:List (List α))(F:Frag):Prop:=
 ∃(ss:List Sl)(Fo Fi:Frag),RowL o 1 csl s ss Fo∧Inners e sz c ss xss Fi∧F.Perm (Fo++Fi)
def Hole{α:Type}(e:TypeId)(sz:Nat)(c:α→List Value)(ss:List Sl)(xss:List (List α))(i:Nat)(Fr:Frag):Prop:=
 ∀(si':Sl)(xs':List α)(Fi':Frag),RowL e sz c si' xs' Fi'→∃F',Inners e sz c (ss.set i si') (xss.set i xs') F'∧F'.Perm (Fi'++Fr)
section
variable {P:Program}{E:Pan}{w0 w:World}{ps:Nat→Prop}{H0 H:Hp}{Fs:List Frag}{K:Value→World→Prop}{α:Type}{c:α→List Value}{o e:TypeId}{sz:Nat}{s:Sl}{xss:List (List α)}{F:Frag}
theorem Inners.len{ss:List Sl}(h:Inners e sz c ss xss F):ss.length=xss.length:=by
 induction h with
 | nil=>rfl
 | cons _ _ ih=>rw [List.length_cons,List.length_cons,ih]
theorem Inners.get{ss:List Sl}(h:Inners e sz c ss xss F):∀{i:Nat}{xs:List α},xss[i]? = some xs→∃(si:Sl)(Fi Fr:Frag),ss[i]? = some si∧RowL e sz c si xs Fi∧F.Perm (Fi++Fr)∧Hole e sz c ss xss i Fr:=by
 induction h with
 | nil=>intro i xs hx;simp at hx
 | @cons s xs0 F ss xss G hr hi ih=>
  intro i xs hx
  cases i with
  | zero=>
   simp only [List.getElem?_cons_zero,Option.some.injEq] at hx
   subst hx
   exact ⟨s,F,G,rfl,hr,.refl _,fun si' xs' Fi' hr'=>⟨_,.cons hr' hi,.refl _⟩⟩
  | succ i=>
   obtain ⟨si,Fi,Fr,h1,h2,h3,h4⟩:=ih (by simpa using hx)
   refine ⟨si,Fi,F++Fr,by simpa using h1,h2,(List.Perm.append_left F h3).trans (List.perm_append_comm_assoc F Fi Fr),fun si' xs' Fi' hr'=>?_⟩
   obtain ⟨F',k1,k2⟩:=h4 si' xs' Fi' hr'
   exact ⟨F++F',.cons hr k1,(List.Perm.append_left F k2).trans (List.perm_append_comm_assoc F Fi' Fr)⟩
theorem Inners.app{ss ts:List Sl}{yss:List (List α)}{G:Frag}(h:Inners e sz c ss xss F)(k:Inners e sz c ts yss G):Inners e sz c (ss++ts) (xss++yss) (F++G):=by
 induction h with
 | nil=>exact k
 | cons hr _ ih=>
  rw [List.append_assoc]
  exact .cons hr ih
theorem Inners.made(h1:∀x,(c x).length=sz)(h2:∀x,(c x).all (·.oneCell')=true):∀n:Nat,Inners e sz c (List.replicate n (Sl.mk none 0 0)) (List.replicate n ([]:List α)) []
 | 0=>.nil
 | n+1=>.cons (RowL.nil h1 h2) (Inners.made h1 h2 n)
theorem Inv.d2E{A B:Frag}(I:Inv w0 ps H0 H (A::B::Fs) w):Inv w0 ps H0 H ((A++B)::Fs) w:=I.perm (by simp only [List.flatten_cons,List.append_assoc];exact .refl _)
theorem Inv.a3e{A B C:Frag}(I:Inv w0 ps H0 H (A::B::C::Fs) w):Inv w0 ps H0 H ((A++(B++C))::Fs) w:=I.perm (by simp only [List.flatten_cons,List.append_assoc];exact .refl _)
theorem Inv.permF{A B:Frag}(I:Inv w0 ps H0 H (B::Fs) w)(h:A.Perm B):Inv w0 ps H0 H (A::Fs) w:=I.perm (by simp only [List.flatten_cons];exact List.Perm.append_right _ h)
theorem Inv.a6Y{A B C:Frag}(I:Inv w0 ps H0 H ((A++(B++C))::Fs) w):Inv w0 ps H0 H (A::B::C::Fs) w:=I.perm (by simp only [List.flatten_cons,List.append_assoc];exact .refl _)
theorem RowsL.nil(h1:∀x,(c x).length=sz)(h2:∀x,(c x).all (·.oneCell')=true):RowsL o e sz c ⟨none,0,0⟩ ([]:List (List α)) []:=⟨[],[],[],RowL.nil a9u a9v,.nil,.refl _⟩
theorem RowsL.made(h1:∀x,(c x).length=sz)(h2:∀x,(c x).all (·.oneCell')=true){n:Nat}(h:RowL o 1 csl s (List.replicate n (Sl.mk none 0 0)) F):RowsL o e sz c s (List.replicate n ([]:List α)) F:=⟨_,F,[],h,Inners.made h1 h2 n,by rw [List.append_nil]⟩
theorem RowsL.len(h:RowsL o e sz c s xss F):s.n=xss.length:=by
 obtain ⟨ss,Fo,Fi,h1,h2,_⟩:=h
 rw [h1.2.1,h2.len]
theorem RowsL.open_(h:RowsL o e sz c s xss F)(I:Inv w0 ps H0 H (F::Fs) w){i:Nat}{xs:List α}(hx:xss[i]? = some xs):∃(ss:List Sl)(si:Sl)(Fo Fi Fr:Frag),RowL o 1 csl s ss Fo∧ss[i]? = some si∧RowL e sz c si xs Fi∧Hole e sz c ss xss i Fr∧F.Perm (Fo++(Fi++Fr))∧Inv w0 ps H0 H (Fo::Fi::Fr::Fs) w:=by
 obtain ⟨ss,Fo,Fa,h1,h2,h3⟩:=h
 obtain ⟨si,Fi,Fr,k1,k2,k3,k4⟩:=h2.get hx
 refine ⟨ss,si,Fo,Fi,Fr,h1,k1,k2,k4,h3.trans (List.Perm.append_left Fo k3),I.perm ?_⟩
 simp only [List.flatten_cons]
 have:=(h3.trans (List.Perm.append_left Fo k3)).symm
 have:=List.Perm.append_right Fs.flatten this
 simpa only [List.append_assoc] using this
theorem RowsL.split(h:RowsL o e sz c s xss F)(I:Inv w0 ps H0 H (F::Fs) w):∃(ss:List Sl)(Fo Fi:Frag),RowL o 1 csl s ss Fo∧Inners e sz c ss xss Fi∧Inv w0 ps H0 H (Fo::Fi::Fs) w:=by
 obtain ⟨ss,Fo,Fa,h1,h2,h3⟩:=h
 refine ⟨ss,Fo,Fa,h1,h2,I.perm ?_⟩
 simp only [List.flatten_cons]
 have:=List.Perm.append_right Fs.flatten h3.symm
 simpa only [List.append_assoc] using this
theorem RowsL.b8m{ss:List Sl}{si':Sl}{xs':List α}{Fo Fi Fr:Frag}{i:Nat}(h1:RowL o 1 csl s (ss.set i si') Fo)(h2:RowL e sz c si' xs' Fi)(h3:Hole e sz c ss xss i Fr):RowsL o e sz c s (xss.set i xs') (Fo++(Fi++Fr)):=by
 obtain ⟨F',k1,k2⟩:=h3 si' xs' Fi h2
 exact ⟨_,Fo,F',h1,k1,List.Perm.append_left Fo k2.symm⟩
theorem b8n{β:Type}{l:List β}{i:Nat}{x:β}(h:l[i]? = some x):l.set i x=l:=by
 obtain ⟨h1,h2⟩:=List.getElem?_eq_some_iff.1 h
 subst h2
 exact List.set_getElem_self h1
theorem RowsL.b5J{ss:List Sl}{si:Sl}{xs':List α}{Fo Fi Fr:Frag}{i:Nat}(h1:RowL o 1 csl s ss Fo)(hi:ss[i]? = some si)(h2:RowL e sz c si xs' Fi)(h3:Hole e sz c ss xss i Fr):RowsL o e sz c s (xss.set i xs') (Fo++(Fi++Fr)):=by
 refine RowsL.b8m (si':=si) ?_ h2 h3
 rw [b8n hi]
 exact h1
theorem RowsL.same{i:Nat}{xs:List α}(h:RowsL o e sz c s (xss.set i xs) F)(hx:xss[i]? = some xs):RowsL o e sz c s xss F:=by rwa [b8n hx] at h
theorem RowsL.app{s':Sl}{ss ts:List Sl}{yss:List (List α)}{Fo Fi G:Frag}(h:RowL o 1 csl s' (ss++ts) Fo)(h1:Inners e sz c ss xss Fi)(h2:Inners e sz c ts yss G):RowsL o e sz c s' (xss++yss) (Fo++(Fi++G)):=⟨_,Fo,_,h,h1.app h2,.refl _⟩
theorem RowsL.one{xs:List α}{si:Sl}{Fo Fi:Frag}(h:RowL o 1 csl s [si] Fo)(h1:RowL e sz c si xs Fi):RowsL o e sz c s [xs] (Fo++Fi):=⟨_,Fo,Fi,h,by have:=Inners.cons h1 Inners.nil;rwa [List.append_nil] at this,.refl _⟩
def SlHH{α:Type}(H:Hp)(sz:Nat)(c:α→List Value)(s:Sl)(xss:List (List α)):Prop:=
 s.n=xss.length∧∃ss:List Sl,SlH H 1 csl s ss∧∀(i:Nat)(si:Sl)(xs:List α),ss[i]? = some si→xss[i]? = some xs→SlH H sz c si xs∧si.n≤si.c
theorem SlHH.le{H':Hp}(h:SlHH H sz c s xss)(l:Hle H H'):SlHH H' sz c s xss:=by
 obtain ⟨h0,ss,h1,h2⟩:=h
 exact ⟨h0,ss,h1.le l,fun i si xs a b=>⟨(h2 i si xs a b).1.le l,(h2 i si xs a b).2⟩⟩
theorem RowL.cap{xs:List α}(h:RowL e sz c s xs F):s.n≤s.c:=by
 rcases h.1.2 with ⟨rfl,_⟩ | ⟨_,_,_,_,h,_⟩
 ·exact Nat.le_refl _
 ·exact h
theorem Inners.frozen{ss:List Sl}(h:Inners e sz c ss xss F)(h0:0 < sz)(hF:∀p∈F,H p.1=some p.2):∀(i:Nat)(si:Sl)(xs:List α),ss[i]? = some si→xss[i]? = some xs→SlH H sz c si xs∧si.n≤si.c:=by
 induction h with
 | nil=>intro i si xs hs;simp at hs
 | cons hr _ ih=>
  intro i si xs hs hx
  cases i with
  | zero=>
   simp only [List.getElem?_cons_zero,Option.some.injEq] at hs hx
   subst hs;subst hx
   exact ⟨hr.frozen h0 fun p hp=>hF p (List.mem_append_left _ hp),hr.cap⟩
  | succ i=>exact ih (fun p hp=>hF p (List.mem_append_right _ hp)) i si xs (by simpa using hs) (by simpa using hx)
theorem Inv.freezeLL(I:Inv w0 ps H0 H (F::Fs) w)(h:RowsL o e sz c s xss F)(h0:0 < sz):∃H',Inv w0 ps H0 H' Fs w∧Hle H H'∧SlHH H' sz c s xss∧s.n≤s.c:=by
 obtain ⟨ss,Fo,Fi,h1,h2,h3⟩:=h
 have hf:=I.freeze
 refine ⟨_,hf.1,hf.2.1,⟨by rw [h1.2.1,h2.len],ss,h1.frozen (by decide) fun p hp=>hf.2.2 p (h3.symm.mem_iff.1 (List.mem_append_left _ hp)),h2.frozen h0 fun p hp=>hf.2.2 p (h3.symm.mem_iff.1 (List.mem_append_right _ hp))⟩,h1.cap⟩
theorem Inv.freezeC{xs:List α}(I:Inv w0 ps H0 H (F::Fs) w)(h:RowL e sz c s xs F)(h0:0 < sz):∃H',Inv w0 ps H0 H' Fs w∧Hle H H'∧SlH H' sz c s xs∧s.n≤s.c:=
 ⟨_,I.freeze.1,I.freeze.2.1,h.frozen h0 I.freeze.2.2,h.cap⟩
def NewS(H H':Hp)(e:TypeId)(sz:Nat)(s:Sl):Prop:=s.n≤s.c∧(s.n=0∨∃g arr,s.a=some ⟨g,0,none⟩∧H' g=some (.cells arr e (0,0))∧H g=none∧s.n*sz≤arr.size)
theorem NewS.le{H H1 H2:Hp}{sz:Nat}{s:Sl}(h:NewS H H1 e sz s)(l:Hle H1 H2):NewS H H2 e sz s:=⟨h.1,h.2.imp id fun ⟨g,arr,a,b,c,d⟩=>⟨g,arr,a,l _ _ b,c,d⟩⟩
theorem NewS.sub{H0 H H1:Hp}{sz:Nat}{s:Sl}(h:NewS H H1 e sz s)(l:Hle H0 H):NewS H0 H1 e sz s:=by
 refine ⟨h.1,h.2.imp id ?_⟩
 rintro ⟨g,arr,a,b,c,d⟩
 refine ⟨g,arr,a,b,?_,d⟩
 cases e:H0 g with
 | none=>rfl
 | some o=>have:=l _ _ e;rw [c] at this;cases this
theorem RowL.c2D{xs:List α}(h:RowL e sz c s xs F)(I:Inv w0 ps H0 H (F::Fs) w){g:Nat}(ha:s.a=some ⟨g,0,none⟩):g < w.heap.size:=by
 rcases h.1.2 with ⟨rfl,_⟩ | ⟨g',arr,ha',rfl,_⟩
 ·cases ha
 ·rw [ha] at ha'
  cases ha'
  exact I.lt1
theorem RowL.inF{xs:List α}(h:RowL e sz c s xs F){g:Nat}(ha:s.a=some ⟨g,0,none⟩):∃ob,F=[(g,ob)]:=by
 rcases h.1.2 with ⟨rfl,_⟩ | ⟨g',arr,ha',rfl,_⟩
 ·cases ha
 ·rw [ha] at ha'
  cases ha'
  exact ⟨_,rfl⟩
theorem RowL.keepF{xs:List α}(h:RowL e sz c s xs F){g:Nat}(ha:s.a=some ⟨g,0,none⟩){w0' w':World}{ps':Nat→Prop}{H0' H':Hp}{Fs':List Frag}(I:Inv w0 ps H0 H (F::Fs) w)(J:Inv w0' ps' H0' H' (F::Fs') w'):w'.heap[g]? = w.heap[g]?:=by
 obtain ⟨ob,rfl⟩:=h.inF ha
 exact J.hp1.trans I.hp1.symm
end
theorem c0j{P:Program}{E:Pan}{w:World}{K D:Value→World→Prop}{s:Sem Next}(h:opK P E s w D)(h3:∀v w2,D v w2→K v w2):opK P E s w K:=by
 unfold opK at h ⊢
 split at h
 ·exact h3 _ _ h
 ·exact h3 _ _ h
 ·exact Cv.mono h h3 fun _ _ h=>h
 ·exact h
 ·exact h.elim
theorem b9P{P:Program}{t e:TypeId}{n m:Nat}(ht:P.underlying t=some (.array n e))(hz:∀w,(sizeOf e).run P w=.ok m w){g o:Nat}(k:IntKind)(i:Int)(h0:0≤i)(h1:i < n):Pu P (xV (Instr.indexAt t (.pointer (some ⟨g,o,none⟩)) (.int k i))) (.pointer (some ⟨g,o+i.toNat*m,none⟩)):=by
 refine Pu.ok fun w=>?_
 simp [Instr.indexAt,asIntOf,run_underlying ht,Instr.sureAddr,h0,h1,hz,a3R]
theorem Inv.d3z{w0 w:World}{ps:Nat→Prop}{H0 H:Hp}{Fs:List Frag}{F:Frag}{g:Nat}{t:TypeId}{cs:List Value}{n:Nat}(I:Inv w0 ps H0 H (((g,.cells cs.toArray t (0,0))::F)::Fs) w)(hn:cs.length=n){i:Int}(h0:0≤i)(h1:i < n):AtW w g (0+i.toNat*1) [cs.getD i.toNat undef]:=by
 have hi:i.toNat < cs.length:=by omega
 have e:cs.getD i.toNat undef=cs[i.toNat]:=by simp [List.getD,hi]
 refine I.at1 (by simp;omega) ?_
 rw [e,Nat.zero_add,Nat.mul_one,List.drop_eq_getElem_cons hi]
 rfl
def Sl.cut(s:Sl)(l h m sz:Nat):Sl:=⟨if m=l then s.a else s.a.map (·.add (l*sz)),h-l,m-l⟩
theorem SlH.cut{α:Type}{H:Hp}{sz:Nat}{c:α→List Value}{s:Sl}{xs:List α}(hs:SlH H sz c s xs){l h m:Nat}(h1:l≤h)(h2:h≤s.n)(h3:h≤m):SlH H sz c (s.cut l h m sz) ((xs.take h).drop l):=by
 have hn:=hs.1
 refine ⟨by simp only [Sl.cut,List.length_drop,List.length_take];omega,fun i x hx=>?_⟩
 rw [List.getElem?_drop,List.getElem?_take] at hx
 split at hx
 ·rename_i hlt
  obtain ⟨g,o,ha,hA⟩:=hs.2 _ x hx
  have hml:m≠l:=by omega
  refine ⟨g,o+l*sz,?_,?_⟩
  ·simp only [Sl.cut,if_neg hml,ha,Option.map_some,a3R]
  ·rw [Int.toNat_natCast] at hA ⊢
   rwa [Nat.add_mul,← Nat.add_assoc] at hA
 ·cases hx
section
variable {P:Program}{t e:TypeId}{sz:Nat}(ht:P.underlying t=some (.slice e))(hz:∀w,(sizeOf e).run P w=.ok sz w)(s:Sl)
include ht
theorem b6G:P.elem t=e:=by simp [Program.elem,ht]
include hz
theorem b4X{k:IntKind}{l:Int}(h0:0≤l)(h1:l≤s.n):Pu P (xV (Instr.sliceAt t (.slice s.a s.n s.c) (some (.int k l)) none none)) (.slice (s.cut l.toNat s.n s.c sz).a (s.cut l.toNat s.n s.c sz).n (s.cut l.toNat s.n s.c sz).c):=by
 have he:=b6G ht
 refine Pu.ok fun w=>?_
 rw [run_sliceAt_slice _ _ _ _ _ _ (by rw [he];exact ht),run_slice_l _ _ _ _ _ (by rw [he];exact ht) _ _ h0 h1,he,hz]
 rfl
theorem b4Y{k:IntKind}{h:Int}(h0:0≤h)(h1:h≤s.c):Pu P (xV (Instr.sliceAt t (.slice s.a s.n s.c) none (some (.int k h)) none)) (.slice (s.cut 0 h.toNat s.c sz).a (s.cut 0 h.toNat s.c sz).n (s.cut 0 h.toNat s.c sz).c):=by
 have he:=b6G ht
 refine Pu.ok fun w=>?_
 rw [run_sliceAt_slice _ _ _ _ _ _ (by rw [he];exact ht),run_slice_h _ _ _ _ _ (by rw [he];exact ht) _ _ h0 h1,he,hz]
 rfl
theorem c2E{k k':IntKind}{h m:Int}(h0:0≤h)(h1:h≤m)(h2:m≤s.c):Pu P (xV (Instr.sliceAt t (.slice s.a s.n s.c) none (some (.int k h)) (some (.int k' m)))) (.slice (s.cut 0 h.toNat m.toNat sz).a (s.cut 0 h.toNat m.toNat sz).n (s.cut 0 h.toNat m.toNat sz).c):=by
 have he:=b6G ht
 refine Pu.ok fun w=>?_
 rw [run_sliceAt_slice _ _ _ _ _ _ (by rw [he];exact ht),run_slice_hm _ _ _ _ _ (by rw [he];exact ht) _ _ _ _ h0 h1 h2,he,hz]
 rfl
end
end Go.Proofs.YthaaobpfbgcfiaaGreatDoor
