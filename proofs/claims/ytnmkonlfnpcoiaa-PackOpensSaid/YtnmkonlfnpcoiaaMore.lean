import Derived.Test.YtnmkonlfnpcoiaaOwn
import Derived.Test.YtnmkonlfnpcoiaaFl
import Derived.WalkSpells
import Derived.Laws.MakeOwn
import Derived.Laws.CopyRow
namespace Go.Proofs.Ytnmkonlfnpcoiaa
open Go.RowKit
section
variable {P : Program} {α : Type} {R : Rep α} {T : List Nat} {own : Own} {a : Act} {w : World} {d lab : Nat} {L : List Nat} {x y : Operand} {t ty t2 e : TypeId} {pos : String} {after : Array Edge} {guard : Option (Nat × Bool)} {A : Option Addr} {c : Nat} {l : List α}
theorem RdO.nil_of (h : RdO own L w R A c l) (hA : A.isNone = true) : l = [] := by
  cases l with
  | nil => rfl
  | cons z l =>
    obtain ⟨_, _, _, h2⟩ := h
    obtain ⟨b, off, e, _⟩ := h2 (by simp)
    rw [e] at hA; cases hA
theorem or_eqlNil {n : Nat} (hT : P.underlying t = some (.slice e)) (hx : a.eval x = .slice A n c) (hy : a.eval y = .slice none 0 0) :
    OpR P ⟨some d, .binOp .eql t x y t2, ty, pos, after, guard⟩ a w (Post T own a w (Fct.val d (.bool A.isNone)) (some d)) :=
  or_val (o := ⟨some d, .binOp .eql t x y t2, ty, pos, after, guard⟩) rfl (by
    simp only [execOp, hx, hy]
    have h : (binOp .eql t (.slice A n c) (.slice none 0 0)).run P w = .ok (.bool A.isNone) w := by
      simp only [binOp]
      simp [Op.equal, Op.maxDepth, Lib.run_equalIn_slice_nil w 9999 t e A n c 0 0 hT]
    simp [Sem.run_bind, eqGuard, h])
end
section
variable {P : Program} {T : List Nat} {own : Own} {a : Act} {w : World} {d : Nat} {x y : Operand} {ty yt yt2 : TypeId} {pos : String} {after : Array Edge} {guard : Option (Nat × Bool)} {m n r : Int} {kd : IntKind}
theorem or_band (hx : a.eval x = .int kd m) (hy : a.eval y = .int kd n) (hr : anK kd m n = r) : OpR P ⟨some d, .binOp .and yt x y yt2, ty, pos, after, guard⟩ a w (Post T own a w (Fct.val d (.int kd r)) (some d)) :=
  or_val (o := ⟨some d, .binOp .and yt x y yt2, ty, pos, after, guard⟩) rfl (by
    subst hr
    have hb : (binOp .and yt (.int kd m) (.int kd n)).run P w = .ok (.int kd (anK kd m n)) w := by
      simp [binOp, Op.intBits, anK]
    simp [execOp, hx, hy, Sem.run_bind, eqGuard, hb])
theorem or_bor (hx : a.eval x = .int kd m) (hy : a.eval y = .int kd n) (hr : orK kd m n = r) : OpR P ⟨some d, .binOp .or yt x y yt2, ty, pos, after, guard⟩ a w (Post T own a w (Fct.val d (.int kd r)) (some d)) :=
  or_val (o := ⟨some d, .binOp .or yt x y yt2, ty, pos, after, guard⟩) rfl (by
    subst hr
    have hb : (binOp .or yt (.int kd m) (.int kd n)).run P w = .ok (.int kd (orK kd m n)) w := by
      simp [binOp, Op.intBits, orK]
    simp [execOp, hx, hy, Sem.run_bind, eqGuard, hb])
theorem or_bxor (hx : a.eval x = .int kd m) (hy : a.eval y = .int kd n) (hr : xoK kd m n = r) : OpR P ⟨some d, .binOp .xor yt x y yt2, ty, pos, after, guard⟩ a w (Post T own a w (Fct.val d (.int kd r)) (some d)) :=
  or_val (o := ⟨some d, .binOp .xor yt x y yt2, ty, pos, after, guard⟩) rfl (by
    subst hr
    have hb : (binOp .xor yt (.int kd m) (.int kd n)).run P w = .ok (.int kd (xoK kd m n)) w := by
      simp [binOp, Op.intBits, xoK]
    simp [execOp, hx, hy, Sem.run_bind, eqGuard, hb])
end
end Go.Proofs.Ytnmkonlfnpcoiaa
