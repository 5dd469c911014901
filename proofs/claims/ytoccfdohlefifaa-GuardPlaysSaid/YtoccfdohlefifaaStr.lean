import Derived.Test.YtoccfdohlefifaaMore
import Derived.Test.YtoccfdohlefifaaPst
import Derived.Laws.Strings
import Derived.Laws.Strings2
import Derived.Lib.OthersKept
namespace Go.Proofs.Ytoccfdohlefifaa
open Go.RowKit Go.Lib
section
variable {P : Program} {T : List Nat} {own : Own} {a : Act} {w : World} {d : Nat} {x y : Operand} {t e ty t2 : TypeId} {pos : String} {after : Array Edge} {guard : Option (Nat × Bool)} {s s' : ByteArray}
end
def SitO (own : Own) (lab : Nat) (w : World) (g : Nat) (ty : TypeId) (cs : Array Value) : Prop :=
  own g = lab ∧ ∃ (s : ByteArray) (i : Int), cs = #[.string s, .int .i64 i] ∧ 0 ≤ i ∧ w.heap[g]? = some (.stringIter s i.toNat)
theorem SitO.lt {own : Own} {lab : Nat} {w : World} {g : Nat} {ty : TypeId} {cs : Array Value} (h : SitO own lab w g ty cs) : g < w.heap.size := by
  obtain ⟨_, s, i, _, _, h⟩ := h
  exact (Array.getElem?_eq_some_iff.1 h).1
theorem SitO.evo {T : List Nat} {own own' : Own} {w w' : World} {lab g : Nat} {ty : TypeId} {cs : Array Value} (hl : lab ∉ T) (he : Evo T own own' w w') (h : SitO own lab w g ty cs) : SitO own' lab w' g ty cs := by
  have hlt := h.lt
  obtain ⟨h1, s, i, h2, h3, h4⟩ := h
  have k := he.keep g hlt (fun hm => by rw [h1] at hm; exact (hl hm).elim)
  exact ⟨k.1.trans h1, s, i, h2, h3, k.2.trans h4⟩
section
variable {P : Program} {T : List Nat} {own : Own} {a : Act} {w : World} {d : Nat} {x y : Operand} {t e ty t2 : TypeId} {pos : String} {after : Array Edge} {guard : Option (Nat × Bool)} {s s' : ByteArray}
end
end Go.Proofs.Ytoccfdohlefifaa
