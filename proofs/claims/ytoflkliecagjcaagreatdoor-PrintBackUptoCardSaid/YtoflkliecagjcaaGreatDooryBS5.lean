/- Maps: a map as a list of pairs; making, writing, reading; frozen maps. No program in sight. -/
import Derived.MapKept
import Derived.Laws.Cover1
import Derived.Test.YtoflkliecagjcaaGreatDooryBB
namespace Go.Proofs.YtoflkliecagjcaaGreatDoor
open Go.RowKit Go.MapKept
section
variable {κ ν:Type} [DecidableEq κ]
end
structure KeyOk {κ:Type} [DecidableEq κ] (P:Program) (kt:TypeId) (kd:TypeDesc) (kv:κ→Value):Prop where
 hk:P.underlying kt=some kd
 key:∀a:κ,IsKey kd (kv a)
 inj:∀a b:κ,kv a=kv b→a=b
def MapEs{κ ν:Type}(kv:κ→Value)(vv:ν→Value)(es:Array MapEntry)(l:List (κ×ν)):Prop:=es.toList.map (fun e=>(e.key,e.val))=l.map fun p=>(kv p.1,vv p.2)
def MapH{κ ν:Type}(H:Hp)(kv:κ→Value)(vv:ν→Value)(x:Option Nat)(l:List (κ×ν)):Prop:=∃g es clock,x=some g∧H g=some (.map es clock)∧MapEs kv vv es l
theorem MapH.le{κ ν:Type}{H H':Hp}{kv:κ→Value}{vv:ν→Value}{x:Option Nat}{l:List (κ×ν)}(h:MapH H kv vv x l)(e:Hle H H'):MapH H' kv vv x l:=by
 obtain ⟨g,es,c,h1,h2,h3⟩:=h
 exact ⟨g,es,c,h1,e _ _ h2,h3⟩
theorem MapEs.nil{κ ν:Type}(kv:κ→Value)(vv:ν→Value):MapEs kv vv #[] ([]:List (κ×ν)):=rfl
section
variable {κ ν:Type} [DecidableEq κ] {P:Program} {kt:TypeId} {kd:TypeDesc} {kv:κ→Value} {vv:ν→Value}
end
section
variable {κ ν:Type} [DecidableEq κ] {P:Program} {E:Pan} {w0 w:World} {ps:Nat→Prop} {H0 H:Hp} {Fs:List Frag} {F:Frag} {K:Value→World→Prop} {kt:TypeId} {kd:TypeDesc} {kv:κ→Value} {vv:ν→Value}
end
section
variable {κ ν:Type} [DecidableEq κ] {P:Program} {w0 w:World} {ps:Nat→Prop} {H0 H:Hp} {Fs:List Frag} {kt:TypeId} {kd:TypeDesc} {kv:κ→Value} {vv:ν→Value}
end
end Go.Proofs.YtoflkliecagjcaaGreatDoor
