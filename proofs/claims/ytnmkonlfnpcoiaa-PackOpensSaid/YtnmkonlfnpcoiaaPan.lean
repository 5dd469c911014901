import Derived.Test.YtnmkonlfnpcoiaaClip
import Derived.Recover
namespace Go.Proofs.Ytnmkonlfnpcoiaa
open Go.RowKit
theorem rngO_cases {S D Z : Type} {o : Option (S ⊕ D)} {k1 : S → Option Z} {k2 : D → Option Z} {z : Z} {g : Prop} (h : rngO o k1 k2 = some z) (h2 : ∀ e, o = some (.inr e) → k2 e = some z → g) (h1 : ∀ x, o = some (.inl x) → k1 x = some z → g) : g := by
  obtain ⟨x, e, hx⟩ := rngO_some h
  cases x with
  | inl x => exact h1 x e hx
  | inr x => exact h2 x e hx
abbrev pE (v : Value) : List PanicEntry := [{ v, recovered := false }]
abbrev dN : OpD := ⟨[], [], [], Fct.any⟩
section
variable {P : Program} {ops : List Oper} {ds : List OpD} {rs : List Fct} {a0 : Act} {w0 : World} {own0 : Own} {n : Nat} {bs K : List Nat} {Q : Exit → Act → World → Prop} {dl : List Deferred} {ch : List PanicEntry}
end
section
variable {P : Program} {T : List Nat} {own : Own} {a : Act} {w : World} {ty : TypeId} {pos : String} {after : Array Edge} {guard : Option (Nat × Bool)} {ch : List PanicEntry} {x : Operand}
end
section
variable {P : Program} {w : World}
end
end Go.Proofs.Ytnmkonlfnpcoiaa
