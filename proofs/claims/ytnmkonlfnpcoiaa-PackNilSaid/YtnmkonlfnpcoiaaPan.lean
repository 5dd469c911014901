import Derived.Test.YtnmkonlfnpcoiaaClip
import Derived.Recover
namespace Go.Proofs.Ytnmkonlfnpcoiaa
open Go.RowKit
section
variable {P : Program} {ops : List Oper} {ds : List OpD} {rs : List Fct} {a0 : Act} {w0 : World} {own0 : Own} {n : Nat} {bs K : List Nat} {Q : Exit → Act → World → Prop} {dl : List Deferred} {ch : List PanicEntry}
end
section
variable {P : Program} {T : List Nat} {own : Own} {a : Act} {w : World} {ty : TypeId} {pos : String} {after : Array Edge} {guard : Option (Nat × Bool)} {ch : List PanicEntry} {x : Operand}
end
section
variable {P : Program} {w : World}
end
end Go.Proofs.Ytnmkonlfnpcoiaa
