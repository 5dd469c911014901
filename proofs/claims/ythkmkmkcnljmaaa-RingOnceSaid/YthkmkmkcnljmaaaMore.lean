import Derived.Test.YthkmkmkcnljmaaaOwn
import Derived.Test.YthkmkmkcnljmaaaFl
import Derived.WalkSpells
import Derived.Laws.MakeOwn
import Derived.Laws.CopyRow
namespace Go.Proofs.Ythkmkmkcnljmaaa
open Go.RowKit
section
variable {P : Program} {α : Type} {R : Rep α} {T : List Nat} {own : Own} {a : Act} {w : World} {d lab : Nat} {L : List Nat} {x y : Operand} {t ty t2 e : TypeId} {pos : String} {after : Array Edge} {guard : Option (Nat × Bool)} {A : Option Addr} {c : Nat} {l : List α}
end
section
variable {P : Program} {T : List Nat} {own : Own} {a : Act} {w : World} {d : Nat} {x y : Operand} {ty yt yt2 : TypeId} {pos : String} {after : Array Edge} {guard : Option (Nat × Bool)} {m n r : Int} {kd : IntKind}
end
end Go.Proofs.Ythkmkmkcnljmaaa
