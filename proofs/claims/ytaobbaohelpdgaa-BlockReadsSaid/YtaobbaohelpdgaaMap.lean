import Derived.Test.YtaobbaohelpdgaaWin
import Derived.Maps.Own
import Derived.Laws.StructEq
namespace Go.Proofs.Ytaobbaohelpdgaa
open Go.RowKit
structure KeyOk (P : Program) (kt : TypeId) {K : Type} [DecidableEq K] (f : K → Value) : Prop where
  chk : ∀ (e : Bool) (k : K) (w : World), (Instr.checkKey e 10000 kt (f k)).run P w = .ok () w
  eql : ∀ (k k' : K) (w : World), (Op.equal kt (f k) (f k')).run P w = .ok (decide (k = k')) w
  now : ∃ td, P.underlying kt = some td ∧ ∀ k k' : K, Instr.sameNow td (f k) (f k') = none ∨ Instr.sameNow td (f k) (f k') = some (decide (k = k'))
  stay : ∀ k : K, Instr.sameBits 10000 (f k) (f k) = true
section
variable {P : Program} {kt : TypeId} {K : Type} [DecidableEq K] {f : K → Value} {w : World}
end
def Born (es : List MapEntry) (clock : Nat) : Prop := (es.map (·.born)).Pairwise (· < ·) ∧ ∀ b ∈ es.map (·.born), b < clock
def MpO {K V : Type} (own : Own) (lab : Nat) (w : World) (g : Nat) (kf : K → Value) (vf : V → Value) (D : List (K × V)) : Prop :=
  own g = lab ∧ ∃ es clock, w.heap[g]? = some (.map es clock) ∧ es.toList.map (·.key) = D.map (fun p => kf p.1) ∧ es.toList.map (·.val) = D.map (fun p => vf p.2) ∧ Born es.toList clock
section
variable {K V : Type} {own own' : Own} {lab lab2 g : Nat} {w w' : World} {kf : K → Value} {vf : V → Value} {D : List (K × V)} {T : List Nat}
theorem MpO.lt (h : MpO own lab w g kf vf D) : g < w.heap.size := by
  obtain ⟨_, es, cl, h1, _⟩ := h
  exact (Array.getElem?_eq_some_iff.1 h1).1
theorem MpO.evo (hl : lab ∉ T) (he : Evo T own own' w w') (h : MpO own lab w g kf vf D) : MpO own' lab w' g kf vf D := by
  have hlt := h.lt
  obtain ⟨h0, es, cl, h1, h2⟩ := h
  have hk := he.keep g hlt (fun hm => by rw [h0] at hm; exact (hl hm).elim)
  exact ⟨hk.1.trans h0, es, cl, hk.2.trans h1, h2⟩
theorem MpO.forth_ {m : Nat → Nat} (h : MpO own lab w g kf vf D) : MpO (forth own m) (m lab) w g kf vf D := ⟨by show m (own g) = _; rw [h.1], h.2⟩
theorem MpO.back_ {m' : Nat → Nat} (h : MpO own' lab w' g kf vf D) (h0 : lab ≠ 0) : MpO (back own own' w m') (m' lab) w' g kf vf D :=
  ⟨by rw [back_new (by rw [h.1]; exact h0), h.1], h.2⟩
end
section
variable {P : Program} {K V : Type} [DecidableEq K] {kt vt : TypeId} {T : List Nat} {own : Own} {a : Act} {w : World} {d lab lab2 g : Nat} {x y z : Operand} {t ty t2 : TypeId} {pos : String} {after : Array Edge} {guard : Option (Nat × Bool)} {kf : K → Value} {vf : V → Value} {D : List (K × V)}
omit [DecidableEq K] in
theorem MpO.set_ {es : Array MapEntry} {cl : Nat} (h : MpO own lab w g kf vf D) (hT : lab ∈ T) (h0 : lab ≠ 0) {D' : List (K × V)} (h1 : es.toList.map (·.key) = D'.map (fun p => kf p.1)) (h2 : es.toList.map (·.val) = D'.map (fun p => vf p.2)) (h3 : Born es.toList cl) :
    Evo T own (mvOwn w T lab2 own) w { w with heap := w.heap.setIfInBounds g (.map es cl) } ∧ MpO (mvOwn w T lab2 own) lab2 { w with heap := w.heap.setIfInBounds g (.map es cl) } g kf vf D' := by
  have hlt := h.lt
  refine ⟨Evo.mv T lab2 own rfl rfl rfl (by simp) fun b hb hn => ?_, mvOwn_struck (by rw [h.1]; exact hT) (by rw [h.1]; exact h0), es, cl, by simp [hlt], h1, h2, h3⟩
  have hne : b ≠ g := fun e => by subst e; rw [h.1] at hn; exact h0 (hn hT)
  simp [Array.getElem?_setIfInBounds_ne (Ne.symm hne)]
end
section
variable {P : Program} {t : TypeId} {w : World}
end
end Go.Proofs.Ytaobbaohelpdgaa
