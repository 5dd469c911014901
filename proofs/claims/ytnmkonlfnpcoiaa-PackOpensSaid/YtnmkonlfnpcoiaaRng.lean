import Derived.Test.YtnmkonlfnpcoiaaMrow
import Derived.Test.YtnmkonlfnpcoiaaPst
import Derived.Maps.RangeRun
namespace Go.Proofs.Ytnmkonlfnpcoiaa
open Go.RowKit Go.ChangeMaps
def Lft {K V : Type} (es : List MapEntry) (D : List (K × V)) (seen : Array Nat) : List (K × V) := ((es.zip D).filter fun p => !seen.contains p.1.born).map (·.2)
def MitO {K V : Type} (own : Own) (lab labg : Nat) (w : World) (r g : Nat) (kf : K → Value) (vf : V → Value) (D L : List (K × V)) (o : Option (K × V)) : Prop :=
  own r = lab ∧ own g = labg ∧ ∃ es clock since seen c0, (w.heap[g]? = some (.map es clock) ∧ es.toList.map (·.key) = D.map (fun p => kf p.1) ∧ es.toList.map (·.val) = D.map (fun p => vf p.2) ∧ Born es.toList clock) ∧
    w.heap[r]? = some (.mapIter (some g) since seen c0) ∧ since = clock ∧ since ≤ c0 ∧ L = Lft es.toList D seen ∧ ∀ e, o = some e → ∃ (x : MapEntry) (s' : Array Nat), (x, e) ∈ es.toList.zip D ∧ seen = s'.push x.born ∧ c0 = clock
section
variable {K V : Type} {own own' : Own} {lab labg lab2 g r : Nat} {w w' : World} {kf : K → Value} {vf : V → Value} {D L : List (K × V)} {o : Option (K × V)} {T : List Nat}
theorem MitO.evo (hl : lab ∉ T) (hg : labg ∉ T) (he : Evo T own own' w w') (h : MitO own lab labg w r g kf vf D L o) : MitO own' lab labg w' r g kf vf D L o := by
  obtain ⟨h0, h1, es, clock, since, seen, c0, ⟨m1, m2⟩, i1, i2⟩ := h
  have k1 := he.keep r (Array.getElem?_eq_some_iff.1 i1).1 (fun hm => by rw [h0] at hm; exact (hl hm).elim)
  have k2 := he.keep g (Array.getElem?_eq_some_iff.1 m1).1 (fun hm => by rw [h1] at hm; exact (hg hm).elim)
  exact ⟨k1.1.trans h0, k2.1.trans h1, es, clock, since, seen, c0, ⟨k2.2.trans m1, m2⟩, k1.2.trans i1, i2⟩
end
section
variable {K V : Type} {P : Program} {T : List Nat} {own : Own} {a : Act} {w : World} {d : Nat} {x : Operand} {t kt vt ty : TypeId} {pos : String} {after : Array Edge} {guard : Option (Nat × Bool)} {lab labg lab2 g r : Nat} {kf : K → Value} {vf : V → Value} {D L : List (K × V)}
end
section
variable {K V : Type} {P : Program} {T : List Nat} {own : Own} {a : Act} {w : World} {d : Nat} {x : Operand} {t kt vt ty : TypeId} {pos : String} {after : Array Edge} {guard : Option (Nat × Bool)} {lab labg lab2 g r : Nat} {kf : K → Value} {vf : V → Value} {D L : List (K × V)}
end
end Go.Proofs.Ytnmkonlfnpcoiaa
