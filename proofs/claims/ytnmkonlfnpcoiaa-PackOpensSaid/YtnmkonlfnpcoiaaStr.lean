import Derived.Test.YtnmkonlfnpcoiaaMore
import Derived.Test.YtnmkonlfnpcoiaaPst
import Derived.Laws.Strings
import Derived.Laws.Strings2
import Derived.Lib.OthersKept
namespace Go.Proofs.Ytnmkonlfnpcoiaa
open Go.RowKit Go.Lib
section
variable {P : Program} {T : List Nat} {own : Own} {a : Act} {w : World} {d : Nat} {x y : Operand} {t e ty t2 : TypeId} {pos : String} {after : Array Edge} {guard : Option (Nat × Bool)} {s s' : ByteArray}
theorem or_lenS {r : Int} (hT : P.underlying t = some .string) (hx : a.eval x = .string s) (hr : (s.size : Int) = r) :
    OpR P ⟨some d, .call ⟨.builtin .len, #[x], #[t]⟩, ty, pos, after, guard⟩ a w (Post T own a w (Fct.val d (.int .i64 r)) (some d)) :=
  or_val (o := ⟨some d, .call ⟨.builtin .len, #[x], #[t]⟩, ty, pos, after, guard⟩) rfl (by
    subst hr
    have : (Builtin.len_ #[t] ty #[.string s]).run P w = .ok (goInt s.size) w := run_len_string w t ty s hT
    simp only [execOp, resolve, invoke, builtin, List.map_toArray, List.map_cons, List.map_nil, hx]
    simp [Sem.run_bind, this, goInt])
theorem or_indexS {k : IntKind} {i v : Int} (hT : P.underlying t = some .string) (hx : a.eval x = .string s) (hy : a.eval y = .int k i) (hv : ixS s i = some v) :
    OpR P ⟨some d, .index t x y, ty, pos, after, guard⟩ a w (Post T own a w (Fct.val d (.int .u8 v)) (some d)) :=
  or_val (o := ⟨some d, .index t x y, ty, pos, after, guard⟩) rfl (by
    unfold ixS at hv
    split at hv
    · rename_i h0
      by_cases hlt : i.toNat < s.size
      · rw [ByteArray.getElem?_lt' s _ hlt] at hv
        injection hv with hv
        subst hv
        have := run_index_string (P := P) w t s k i hT
        rw [dif_pos ⟨h0, by omega⟩] at this
        simp only [execOp, hx, hy]
        simp [Sem.run_bind, this]
      · rw [ByteArray.getElem?_ge' s _ hlt] at hv
        cases hv
    · cases hv)
theorem cutS_some {i j : Int} {r : ByteArray} (h : cutS s i j = some r) : (0 ≤ i ∧ i ≤ j ∧ j ≤ (s.size : Int)) ∧ r = s.extract i.toNat j.toNat := by
  unfold cutS at h
  split at h
  · injection h with h; exact ⟨by assumption, h.symm⟩
  · cases h
theorem run_slice_str {lo hi : Option Operand} {i j : Int} (hT : P.underlying t = some .string) (hl : Bnd a lo i 0) (hh : Bnd a hi j (s.size : Int)) (h0 : 0 ≤ i) (h1 : i ≤ j) (h2 : j ≤ (s.size : Int)) :
    (Instr.slice t (.string s) (lo.map a.eval) (hi.map a.eval) none).run P w = .ok (.string (s.extract i.toNat j.toNat)) w := by
  have key : (Instr.sliceBounds false s.size s.size (lo.map a.eval) (hi.map a.eval) none).run P w = .ok (i.toNat, j.toNat, s.size) w := by
    unfold Instr.sliceBounds
    cases hi with
    | none =>
      have hj : j = (s.size : Int) := hh
      subst hj
      cases lo with
      | none =>
        have hi : i = 0 := hl
        subst hi
        simp [Sem.run_bind]
      | some lo =>
        obtain ⟨k, hk⟩ := hl
        simp [Sem.run_bind, run_bound (P := P) (w := w) (y := s.size) hk h0 (by omega)]
    | some hi =>
      obtain ⟨k2, hk2⟩ := hh
      cases lo with
      | none =>
        have hi : i = 0 := hl
        subst hi
        simp [Sem.run_bind, run_bound (P := P) (w := w) (y := s.size) hk2 (by omega) h2]
      | some lo =>
        obtain ⟨k, hk⟩ := hl
        simp [Sem.run_bind, run_bound (P := P) (w := w) (y := s.size) hk2 (by omega) h2, run_bound (P := P) (w := w) (y := j.toNat) hk h0 (by omega)]
  simp [Instr.slice, Sem.run_bind, run_underlying hT, key]
theorem or_sliceS {lo hi : Option Operand} {i j : Int} {r : ByteArray} (hT : P.underlying t = some .string) (hx : a.eval x = .string s) (hl : Bnd a lo i 0) (hh : Bnd a hi j (s.size : Int)) (hr : cutS s i j = some r) :
    OpR P ⟨some d, .slice t x lo hi none, ty, pos, after, guard⟩ a w (Post T own a w (Fct.val d (.string r)) (some d)) :=
  or_val (o := ⟨some d, .slice t x lo hi none, ty, pos, after, guard⟩) rfl (by
    obtain ⟨⟨h0, h1, h2⟩, rfl⟩ := cutS_some hr
    simp only [execOp, hx]
    have := run_slice_str (P := P) (a := a) (w := w) hT hl hh h0 h1 h2
    simp [Sem.run_bind, run_sliceAt_string w t _ _ _ _ hT, this])
theorem or_eqlS {b : Bool} (hT : P.underlying t = some .string) (hx : a.eval x = .string s) (hy : a.eval y = .string s') (hb : eqS s s' = b) : OpR P ⟨some d, .binOp .eql t x y t2, ty, pos, after, guard⟩ a w (Post T own a w (Fct.val d (.bool b)) (some d)) :=
  or_val (o := ⟨some d, .binOp .eql t x y t2, ty, pos, after, guard⟩) rfl (by subst hb; simp only [execOp, hx, hy]; simp [Sem.run_bind, go_sem, eqS])
theorem or_neqS {b : Bool} (hT : P.underlying t = some .string) (hx : a.eval x = .string s) (hy : a.eval y = .string s') (hb : (!eqS s s') = b) : OpR P ⟨some d, .binOp .neq t x y t2, ty, pos, after, guard⟩ a w (Post T own a w (Fct.val d (.bool b)) (some d)) :=
  or_val (o := ⟨some d, .binOp .neq t x y t2, ty, pos, after, guard⟩) rfl (by subst hb; simp only [execOp, hx, hy]; simp [Sem.run_bind, go_sem, eqS])
end
def SitO (own : Own) (lab : Nat) (w : World) (g : Nat) (ty : TypeId) (cs : Array Value) : Prop :=
  own g = lab ∧ ∃ (s : ByteArray) (i : Int), cs = #[.string s, .int .i64 i] ∧ 0 ≤ i ∧ w.heap[g]? = some (.stringIter s i.toNat)
theorem SitO.lt {own : Own} {lab : Nat} {w : World} {g : Nat} {ty : TypeId} {cs : Array Value} (h : SitO own lab w g ty cs) : g < w.heap.size := by
  obtain ⟨_, s, i, _, _, h⟩ := h
  exact (Array.getElem?_eq_some_iff.1 h).1
theorem SitO.evo {T : List Nat} {own own' : Own} {w w' : World} {lab g : Nat} {ty : TypeId} {cs : Array Value} (hl : lab ∉ T) (he : Evo T own own' w w') (h : SitO own lab w g ty cs) : SitO own' lab w' g ty cs := by
  have hlt := h.lt
  obtain ⟨h1, s, i, h2, h3, h4⟩ := h
  have k := he.keep g hlt (fun hm => by rw [h1] at hm; exact (hl hm).elim)
  exact ⟨k.1.trans h1, s, i, h2, h3, k.2.trans h4⟩
section
variable {P : Program} {T : List Nat} {own : Own} {a : Act} {w : World} {d : Nat} {x y : Operand} {t e ty t2 : TypeId} {pos : String} {after : Array Edge} {guard : Option (Nat × Bool)} {s s' : ByteArray}
end
end Go.Proofs.Ytnmkonlfnpcoiaa
