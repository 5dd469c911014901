import Derived.Test.YtoccfdohlefifaaRop
import Derived.ArgAppend
namespace Go.Proofs.Ytoccfdohlefifaa
open Go.RowKit
section
variable {P : Program} {α : Type} {R : Rep α} {T : List Nat} {own : Own} {a : Act} {w : World} {d lab lab2 : Nat} {L L2 L3 : List Nat} {x y z : Operand} {t ty e : TypeId} {pos : String} {after : Array Edge} {guard : Option (Nat × Bool)} {A A2 : Option Addr} {c c2 : Nat} {l l' m : List α} {size bytes : Nat}
end
end Go.Proofs.Ytoccfdohlefifaa
