import Derived.Test.YtnmkonlfnpcoiaaMore
import Derived.RangeFuncNested
namespace Go.Proofs.Ytnmkonlfnpcoiaa
open Go.RowKit
structure Sq (S : Type) where
  J : S → (Nat → Prop) → (Nat → Prop) → World → Prop
  st : ∀ {s : S} {M U M' U' : Nat → Prop} {w w' : World}, J s M U w → w'.os = w.os → w'.tape = w.tape → w'.output = w.output → w.heap.size ≤ w'.heap.size →
    (∀ b, b < w.heap.size → U b → U' b ∧ w'.heap[b]? = w.heap[b]?) → (∀ b, b < w.heap.size → M b → M' b) → J s M' U' w'
def SqO {S : Type} (J : Sq S) (own : Own) (lab : Nat) (w : World) (s : S) : Prop := lab ≠ 0 ∧ J.J s (fun b => own b = lab) (fun b => own b = lab ∨ own b = 0) w
section
variable {S : Type} {J : Sq S} {own own' : Own} {lab : Nat} {w w' : World} {s : S} {T : List Nat}
theorem SqO.evo (hl : lab ∉ T) (he : Evo T own own' w w') (h : SqO J own lab w s) : SqO J own' lab w' s := by
  have hk : ∀ b, b < w.heap.size → (own b = lab ∨ own b = 0) → own' b = own b ∧ w'.heap[b]? = w.heap[b]? := fun b hb hu => he.keep b hb fun hm => by
    rcases hu with e | e
    · rw [e] at hm; exact (hl hm).elim
    · exact e
  refine ⟨h.1, J.st h.2 he.os he.tape he.output he.size (fun b hb hu => ?_) fun b hb hm => ?_⟩
  · have := hk b hb hu
    exact ⟨by rw [this.1]; exact hu, this.2⟩
  · rw [(hk b hb (.inl hm)).1]; exact hm
end
def Fct.seq {S : Type} (J : Sq S) (lab d : Nat) (b : Bool) (s : S) : Fct :=
  ⟨[lab], [d], fun own a w => a.eval (.tmp d) = .bool b ∧ SqO J own lab w s, fun hk ha he h => ⟨(ha d (by simp)).trans h.1, SqO.evo (not_hit hk (by simp)) he h.2⟩⟩
section
variable {P : Program} {r : Option Nat} {S X : Type} {J : Sq S} {T : List Nat} {own : Own} {a : Act} {w : World} {d lab lab2 l : Nat} {f : Operand} {args : Array Operand} {ts : Array TypeId} {ty : TypeId} {pos : String} {after : Array Edge} {guard : Option (Nat × Bool)} {encs : X → Array Value} {y : S → X → Option (Bool × S)} {s : S} {x : X} {z : Bool × S}
end
section
variable {P : Program} {r : Option Nat} {S X : Type} {J : Sq S} {T : List Nat} {own : Own} {a : Act} {w : World} {d lab lab2 : Nat} {o : Oper} {s s' : S} {b c : Bool}
end
def MkO (own : Own) (lab : Nat) (w : World) (Ds : List Nat) : Prop := Ds.Nodup ∧ ∀ D ∈ Ds, own D = lab ∧ w.heap[D]? = some (.deferred (some []))
section
variable {own own' : Own} {lab k : Nat} {w w' : World} {Ds : List Nat} {T : List Nat}
theorem MkO.evo (hl : lab ∉ T) (he : Evo T own own' w w') (h : MkO own lab w Ds) : MkO own' lab w' Ds := by
  refine ⟨h.1, fun D hD => ?_⟩
  have h1 := h.2 D hD
  have hk := he.keep D (Array.getElem?_eq_some_iff.1 h1.2).1 (fun hm => by rw [h1.1] at hm; exact (hl hm).elim)
  exact ⟨hk.1.trans h1.1, hk.2.trans h1.2⟩
end
def RcO (own : Own) (j : Nat) (w : World) (l : Nat) : Prop := own l = j ∧ ∃ rc, w.heap[l]? = some (.loop rc)
theorem RcO.evo {own own' : Own} {j l : Nat} {w w' : World} {T : List Nat} (hl : j ∉ T) (he : Evo T own own' w w') (h : RcO own j w l) : RcO own' j w' l := by
  obtain ⟨h1, rc, h2⟩ := h
  have hk := he.keep l (Array.getElem?_eq_some_iff.1 h2).1 (fun hm => by rw [h1] at hm; exact (hl hm).elim)
  exact ⟨hk.1.trans h1, rc, hk.2.trans h2⟩
def kj (j : Nat) (K : List Nat) : List (Nat × Nat) := (j, 1) :: K.map fun k => (k, 1)
section
variable {r : Option Nat} {P : Program} {a : Act} {w : World} {own : Own} {Q : Exit → Act → World → Prop} {S D X : Type}
end
end Go.Proofs.Ytnmkonlfnpcoiaa
