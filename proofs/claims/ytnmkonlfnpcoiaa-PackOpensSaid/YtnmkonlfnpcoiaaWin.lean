import Derived.Test.YtnmkonlfnpcoiaaIt
namespace Go.Proofs.Ytnmkonlfnpcoiaa
open Go.RowKit
section
variable {P : Program} {α : Type} {R : Rep α} {T : List Nat} {own : Own} {a : Act} {w : World} {d lab lab2 : Nat} {L : List Nat} {x y : Operand} {t ty t2 e : TypeId} {pos : String} {after : Array Edge} {guard : Option (Nat × Bool)} {A : Option Addr} {c : Nat} {l : List α}
end
end Go.Proofs.Ytnmkonlfnpcoiaa
