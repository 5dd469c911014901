import Derived.Test.YtopnbammdeimcaaNest
namespace Go.Proofs.Ytopnbammdeimcaa
open Go.RowKit
def RepV : Rep Value := ⟨1, Nat.one_pos, fun _ _ cs v => cs = [v] ∧ v.oneCell' = true, fun h => by rw [h.1]; rfl, fun h u hu => by rw [h.1] at hu; simp at hu; subst hu; exact h.2, fun _ h => h⟩
theorem RepV.flat : RepV.Flat := fun _ _ _ _ _ _ h => h
theorem RepV.cells {w : World} {S : Nat → Prop} : ∀ {cs vals : List Value}, RepL RepV w S cs vals → cs = vals ∧ ∀ v ∈ vals, v.oneCell' = true
  | cs, [], h => ⟨h, by simp⟩
  | cs, v :: l, h => by
    obtain ⟨⟨h1, h2⟩, h3⟩ := h
    obtain ⟨h4, h5⟩ := RepV.cells h3
    have h1 : cs.take 1 = [v] := h1
    have h4 : cs.drop 1 = l := h4
    refine ⟨?_, fun u hu => ?_⟩
    · rw [← List.take_append_drop 1 cs, h1, h4]; rfl
    · rcases List.mem_cons.1 hu with rfl | hu
      · exact h2
      · exact h5 u hu
theorem RepV.mk {w : World} {S : Nat → Prop} : ∀ {vals : List Value}, (∀ v ∈ vals, v.oneCell' = true) → RepL RepV w S vals vals
  | [], _ => rfl
  | v :: l, h => ⟨⟨rfl, h v (by simp)⟩, show RepL RepV w S l l from RepV.mk fun u hu => h u (by simp [hu])⟩
abbrev AC := Option Addr × Nat
def Dist (ys : List AC) : Prop := ∀ (i j : Nat) (y z : AC), i ≠ j → ys[i]? = some y → ys[j]? = some z → y.2 ≠ 0 → z.2 ≠ 0 → y.1 ≠ z.1
section
variable {α : Type}
def Els (own : Own) (labE : Nat) (L : List Nat) (w : World) (e2 : TypeId) (R : Rep α) (vals : List Value) (l : List (List α)) (ys : List AC) (h : Option Nat) : Prop :=
  vals.length = l.length ∧ ys.length = l.length ∧ (∀ (j : Nat) (x : List α) (y : AC), l[j]? = some x → ys[j]? = some y → (h ≠ some j → vals[j]? = some (.slice y.1 x.length y.2)) ∧ RwO own labE L w e2 R y.1 y.2 x) ∧ Dist ys
def Gn (own : Own) (lab labE : Nat) (L : List Nat) (w : World) (e e2 : TypeId) (R : Rep α) (A : Option Addr) (c : Nat) (l : List (List α)) (ys : List AC) (h : Option Nat) : Prop :=
  ∃ vals, RwO own lab [] w e RepV A c vals ∧ Els own labE L w e2 R vals l ys h
def RwN (own : Own) (lab labE : Nat) (L : List Nat) (w : World) (e e2 : TypeId) (R : Rep α) (A : Option Addr) (c : Nat) (l : List (List α)) : Prop := ∃ ys, Gn own lab labE L w e e2 R A c l ys none
def RwNa (own : Own) (lab labE : Nat) (L : List Nat) (w : World) (e e2 : TypeId) (R : Rep α) (A : Option Addr) (c : Nat) (l : List (List α)) (n : Nat) (y : AC) : Prop := ∃ ys, Gn own lab labE L w e e2 R A c l ys none ∧ ys[n]? = some y
def RwNh (own : Own) (lab labE : Nat) (L : List Nat) (w : World) (e e2 : TypeId) (R : Rep α) (A : Option Addr) (c : Nat) (l : List (List α)) (n : Nat) (z : AC) (r : List α) : Prop := n < l.length ∧ ∃ ys, Gn own lab labE L w e e2 R A c (l.set n r) ys (some n) ∧ ys[n]? = some z
variable {R : Rep α} {own own' : Own} {w w' : World} {lab labE lab2 lab3 : Nat} {L L2 L3 T : List Nat} {e e2 : TypeId} {A : Option Addr} {c n : Nat} {l : List (List α)} {ys : List AC} {h : Option Nat} {vals : List Value} {y z : AC} {r : List α}
theorem hits_mid {T L : List Nat} {a b : Nat} (h : hits T (a :: b :: L) = false) : hits T [a] = false ∧ hits T (b :: L) = false := by
  refine ⟨?_, (hits_cons h).2⟩
  cases h' : hits T [a] with
  | false => rfl
  | true =>
    obtain ⟨t, ht, hl⟩ := List.any_eq_true.1 h'
    obtain ⟨x, hx, hb⟩ := List.any_eq_true.1 hl
    have : hits T (a :: b :: L) = true := List.any_eq_true.2 ⟨t, ht, List.any_eq_true.2 ⟨x, by simp at hx ⊢; exact .inl hx, hb⟩⟩
    rw [h] at this; cases this
theorem Els.evo (hl : hits T (labE :: L) = false) (he : Evo T own own' w w') (hE : Els own labE L w e2 R vals l ys h) : Els own' labE L w' e2 R vals l ys h :=
  ⟨hE.1, hE.2.1, fun j x y h1 h2 => ⟨(hE.2.2.1 j x y h1 h2).1, (hE.2.2.1 j x y h1 h2).2.evo hl he⟩, hE.2.2.2⟩
theorem Gn.evo (hl : hits T (lab :: labE :: L) = false) (he : Evo T own own' w w') (hG : Gn own lab labE L w e e2 R A c l ys h) : Gn own' lab labE L w' e e2 R A c l ys h := by
  obtain ⟨vals, h1, h2⟩ := hG
  exact ⟨vals, h1.evo (hits_mid hl).1 he, h2.evo (hits_mid hl).2 he⟩
theorem RwN.evo (hl : hits T (lab :: labE :: L) = false) (he : Evo T own own' w w') (hG : RwN own lab labE L w e e2 R A c l) : RwN own' lab labE L w' e e2 R A c l := by
  obtain ⟨ys, h⟩ := hG; exact ⟨ys, h.evo hl he⟩
theorem RwNa.evo (hl : hits T (lab :: labE :: L) = false) (he : Evo T own own' w w') (hG : RwNa own lab labE L w e e2 R A c l n y) : RwNa own' lab labE L w' e e2 R A c l n y := by
  obtain ⟨ys, h, h2⟩ := hG; exact ⟨ys, h.evo hl he, h2⟩
theorem RwNh.evo (hl : hits T (lab :: labE :: L) = false) (he : Evo T own own' w w') (hG : RwNh own lab labE L w e e2 R A c l n z r) : RwNh own' lab labE L w' e e2 R A c l n z r := by
  obtain ⟨h0, ys, h, h2⟩ := hG; exact ⟨h0, ys, h.evo hl he, h2⟩
theorem RwN.forth_ {m : Nat → Nat} (hG : RwN own lab labE L w e e2 R A c l) : RwN (forth own m) (m lab) (m labE) (L.map m) w e e2 R A c l := by
  obtain ⟨ys, vals, h1, h2⟩ := hG
  exact ⟨ys, vals, h1.forth_, h2.1, h2.2.1, fun j x y h3 h4 => ⟨(h2.2.2.1 j x y h3 h4).1, (h2.2.2.1 j x y h3 h4).2.forth_⟩, h2.2.2.2⟩
theorem RwN.back_ {m' : Nat → Nat} (hG : RwN own' lab labE L w' e e2 R A c l) (h0 : lab ≠ 0) (hE0 : labE ≠ 0) (hL : R.Flat ∨ 0 ∉ L) : RwN (back own own' w m') (m' lab) (m' labE) (L.map m') w' e e2 R A c l := by
  obtain ⟨ys, vals, h1, h2⟩ := hG
  exact ⟨ys, vals, h1.back_ h0 (.inl RepV.flat), h2.1, h2.2.1, fun j x y h3 h4 => ⟨(h2.2.2.1 j x y h3 h4).1, (h2.2.2.1 j x y h3 h4).2.back_ hE0 hL⟩, h2.2.2.2⟩
theorem RwN.more (hG : RwN own lab labE L w e e2 R A c l) (hL : ∀ x ∈ L, x ∈ L2) : RwN own lab labE L2 w e e2 R A c l := by
  obtain ⟨ys, vals, h1, h2⟩ := hG
  exact ⟨ys, vals, h1, h2.1, h2.2.1, fun j x y h3 h4 => ⟨(h2.2.2.1 j x y h3 h4).1, (h2.2.2.1 j x y h3 h4).2.more hL⟩, h2.2.2.2⟩
theorem RwN.lec (hG : RwN own lab labE L w e e2 R A c l) : l.length ≤ c := by
  obtain ⟨ys, vals, h1, h2⟩ := hG
  rw [← h2.1]; exact h1.lec
variable {P : Program} {a : Act} {d : Nat} {x u : Operand} {t ty : TypeId} {pos : String} {after : Array Edge} {guard : Option (Nat × Bool)} {A2 : Option Addr} {c2 : Nat} {bytes : Nat}
end
end Go.Proofs.Ytopnbammdeimcaa
