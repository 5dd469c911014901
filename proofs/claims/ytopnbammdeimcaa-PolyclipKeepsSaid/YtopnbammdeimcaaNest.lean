import Derived.Test.YtopnbammdeimcaaRop
namespace Go.Proofs.Ytopnbammdeimcaa
open Go.RowKit
structure Ex {α : Type} (R : Rep α) (β : Type) where
  f : β → α → List Value
  q : β → World → (Nat → Prop) → α → Prop
  iff : ∀ {w : World} {S : Nat → Prop} {cs : List Value} {x : α}, R.ok w S cs x ↔ ∃ y, cs = f y x ∧ q y w S x
  loc : ∀ {w w' : World} {S S' : Nat → Prop} {y : β} {x : α}, (∀ b, S b → S' b ∧ w'.heap[b]? = w.heap[b]?) → q y w S x → q y w' S' x
def Ex.fl {α : Type} (F : En α) : Ex (Rep.fl F) Unit := ⟨fun _ x => F.f x, fun _ _ _ _ => True, ⟨fun h => ⟨(), h, trivial⟩, fun ⟨_, h, _⟩ => h⟩, fun _ h => h⟩
def Ex.pr {α β γ δ : Type} {A : Rep α} {B : Rep γ} (a : Ex A β) (b : Ex B δ) : Ex (Rep.pr A B) (β × δ) :=
  ⟨fun y x => a.f y.1 x.1 ++ b.f y.2 x.2, fun y w S x => a.q y.1 w S x.1 ∧ b.q y.2 w S x.2,
    ⟨fun ⟨h1, h2⟩ => by
      obtain ⟨y1, e1, q1⟩ := a.iff.1 h1
      obtain ⟨y2, e2, q2⟩ := b.iff.1 h2
      exact ⟨(y1, y2), by rw [← e1, ← e2, List.take_append_drop], q1, q2⟩, fun ⟨y, h, q1, q2⟩ => by
      have h1 := a.iff.2 ⟨y.1, rfl, q1⟩
      have h2 := b.iff.2 ⟨y.2, rfl, q2⟩
      have hl := A.len h1
      subst h
      exact ⟨by rw [← hl, List.take_left]; exact h1, by rw [← hl, List.drop_left]; exact h2⟩⟩,
    fun hS h => ⟨a.loc hS h.1, b.loc hS h.2⟩⟩
section
variable {P : Program} {α β : Type} {R : Rep α} {T : List Nat} {own own' : Own} {a : Act} {w w' : World} {d lab lab2 : Nat} {L L2 L3 : List Nat} {x y : Operand} {t ty e : TypeId} {pos : String} {after : Array Edge} {guard : Option (Nat × Bool)} {A : Option Addr} {c : Nat} {l l' : List α}
theorem Ex.evo (X : Ex R β) {y : β} {v : α} (hl : hits T L = false) (he : Evo T own own' w w') (h : X.q y w (At own L w) v) : X.q y w' (At own' L w') v := X.loc (fun _ hb => At.evo hl he hb) h
theorem enc_get {F : En α} {l : List α} {k : Nat} {v : α} (h : l[k]? = some v) : ((enc F l).drop (k * F.s)).take F.s = F.f v := RepL.get_ (RepL.enc F (default : World) (fun _ => True) l) h
theorem or_indexA {n : Nat} {F : En α} {l : List α} {cs : Array Value} {k : IntKind} {i : Int} {v : α} (hu : P.underlying t = some (.array n e)) (hT : TAgg P e F.s) (hl : l.length = n) (hx : a.eval x = .agg cs) (hcs : cs.toList = enc F l) (hy : a.eval y = .int k i) (hi : ix l i = some v) :
    OpR P ⟨some d, .index t x y, ty, pos, after, guard⟩ a w (Post T own a w (Fct.val d (.agg (F.f v).toArray)) (some d)) :=
  or_val (o := ⟨some d, .index t x y, ty, pos, after, guard⟩) rfl (by
    obtain ⟨h0, hlt, hv⟩ := ix_some hi
    have h1 : 0 ≤ i ∧ i < (n : Int) := ⟨h0, by omega⟩
    have h2 : cs.extract (i.toNat * F.s) (i.toNat * F.s + F.s) = (F.f v).toArray := by
      rw [← enc_get hv, ← hcs]
      apply Array.ext'
      simp [List.drop_take]
    simp only [execOp, hx, hy]
    simp [Sem.run_bind, Instr.index, asIntOf, run_underlying hu, h1, (hT w).1, (hT w).2, part, h2])
theorem or_indexA1 {n : Nat} {F : En α} {l : List α} {cs : Array Value} {k : IntKind} {i : Int} {v : α} {V : Value} (hu : P.underlying t = some (.array n e)) (hT : TOne P e) (hS : TSize P e 1) (hF : F.s = 1) (hV : F.f v = [V]) (hl : l.length = n) (hx : a.eval x = .agg cs) (hcs : cs.toList = enc F l) (hy : a.eval y = .int k i) (hi : ix l i = some v) :
    OpR P ⟨some d, .index t x y, ty, pos, after, guard⟩ a w (Post T own a w (Fct.val d V) (some d)) :=
  or_val (o := ⟨some d, .index t x y, ty, pos, after, guard⟩) rfl (by
    obtain ⟨h0, hlt, hv⟩ := ix_some hi
    have h1 : 0 ≤ i ∧ i < (n : Int) := ⟨h0, by omega⟩
    have h2 : cs[i.toNat]? = some V := by
      have h3 := enc_get (F := F) hv
      rw [hF, hV, ← hcs, Nat.mul_one] at h3
      have h4 : ((cs.toList.drop i.toNat).take 1)[0]? = some V := by rw [h3]; rfl
      rw [List.getElem?_take, if_pos (by decide), List.getElem?_drop] at h4
      simpa using h4
    simp only [execOp, hx, hy]
    simp [Sem.run_bind, Instr.index, asIntOf, run_underlying hu, h1, hT w, hS w, part, h2])
end
end Go.Proofs.Ytopnbammdeimcaa
