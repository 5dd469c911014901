import Derived.Test.YtnmkonlfnpcoiaaMap
namespace Go.Proofs.Ytnmkonlfnpcoiaa
open Go.RowKit
section
variable {K V : Type} [DecidableEq K]
def ixM (k : K) : List K → Nat
  | [] => 0
  | x :: r => if k = x then 0 else ixM k r + 1
end
section
variable {K α : Type} [DecidableEq K]
def MpN (own : Own) (lab labE : Nat) (L : List Nat) (w : World) (g : Nat) (kf : K → Value) (e2 : TypeId) (R : Rep α) (D : List (K × List α)) : Prop :=
  ∃ (ys : List AC) (Dv : List (K × Value)), MpO own lab w g kf (fun v : Value => v) Dv ∧ Dv.map (·.1) = D.map (·.1) ∧ Els own labE L w e2 R (Dv.map (·.2)) (D.map (·.2)) ys none
def Stamp (w : World) (g n b : Nat) : Prop := ∃ es clock e, w.heap[g]? = some (.map es clock) ∧ es[n]? = some e ∧ e.born = b
abbrev nilS : Value := .slice none 0 0
def Ment (own : Own) (lab : Nat) (w : World) (g : Nat) (kf : K → Value) (Dv : List (K × Value)) (k : K) (ys : List AC) (y : AC × Nat) : Prop :=
  MpO own lab w g kf (fun v : Value => v) (upM Dv k ((lkM Dv k).getD nilS)) ∧ Stamp w g (ixM k (Dv.map (·.1))) y.2 ∧ (ys[ixM k (Dv.map (·.1))]? = some y.1 ∨ (ys.length = ixM k (Dv.map (·.1)) ∧ y.1 = (none, 0)))
variable {R : Rep α} {own own' : Own} {w w' : World} {lab labE lab2 : Nat} {L L2 L3 T : List Nat} {e2 : TypeId} {g : Nat} {kf : K → Value} {D : List (K × List α)} {k : K} {y : AC × Nat} {z : AC} {r : List α} {b : Nat} {ys : List AC} {Dv : List (K × Value)}
omit [DecidableEq K] in
theorem MpN.evo (hl : hits T (lab :: labE :: L) = false) (he : Evo T own own' w w') (h : MpN own lab labE L w g kf e2 R D) : MpN own' lab labE L w' g kf e2 R D := by
  obtain ⟨ys, Dv, h1, h2, h3⟩ := h
  exact ⟨ys, Dv, h1.evo (hits_cons hl).1 he, h2, h3.evo (hits_cons hl).2 he⟩
omit [DecidableEq K] in
theorem Stamp.evo {V : Type} {vf : V → Value} {Dv : List (K × V)} {n : Nat} (hl : lab ∉ T) (he : Evo T own own' w w') (h : MpO own lab w g kf vf Dv) (hs : Stamp w g n b) : Stamp w' g n b := by
  obtain ⟨es, cl, e, h1, h2⟩ := hs
  exact ⟨es, cl, e, (he.keep g h.lt (fun hm => by rw [h.1] at hm; exact (hl hm).elim)).2.trans h1, h2⟩
theorem Ment.evo (hl : lab ∉ T) (he : Evo T own own' w w') (h : Ment own lab w g kf Dv k ys y) : Ment own' lab w' g kf Dv k ys y :=
  ⟨h.1.evo hl he, Stamp.evo hl he h.1 h.2.1, h.2.2⟩
theorem Els.forth_ {vals : List Value} {l : List (List α)} {ys : List AC} {h : Option Nat} {m : Nat → Nat} (h2 : Els own labE L w e2 R vals l ys h) : Els (forth own m) (m labE) (L.map m) w e2 R vals l ys h :=
  ⟨h2.1, h2.2.1, fun j x y h3 h4 => ⟨(h2.2.2.1 j x y h3 h4).1, (h2.2.2.1 j x y h3 h4).2.forth_⟩, h2.2.2.2⟩
omit [DecidableEq K] in
theorem MpN.forth_ {m : Nat → Nat} (h : MpN own lab labE L w g kf e2 R D) : MpN (forth own m) (m lab) (m labE) (L.map m) w g kf e2 R D := by
  obtain ⟨ys, Dv, h1, h2, h3⟩ := h
  exact ⟨ys, Dv, h1.forth_, h2, h3.forth_⟩
omit [DecidableEq K] in
theorem MpN.more (h : MpN own lab labE L w g kf e2 R D) (hL : ∀ x ∈ L, x ∈ L2) : MpN own lab labE L2 w g kf e2 R D := by
  obtain ⟨ys, Dv, h1, h2, h3⟩ := h
  exact ⟨ys, Dv, h1, h2, h3.1, h3.2.1, fun j x y h4 h5 => ⟨(h3.2.2.1 j x y h4 h5).1, (h3.2.2.1 j x y h4 h5).2.more hL⟩, h3.2.2.2⟩
omit [DecidableEq K] in
theorem MpN.back_ {m' : Nat → Nat} (h : MpN own' lab labE L w' g kf e2 R D) (h0 : lab ≠ 0) (hE0 : labE ≠ 0) (hL : R.Flat ∨ 0 ∉ L) : MpN (back own own' w m') (m' lab) (m' labE) (L.map m') w' g kf e2 R D := by
  obtain ⟨ys, Dv, h1, h2, h3⟩ := h
  exact ⟨ys, Dv, h1.back_ h0, h2, h3.1, h3.2.1, fun j x y h4 h5 => ⟨(h3.2.2.1 j x y h4 h5).1, (h3.2.2.1 j x y h4 h5).2.back_ hE0 hL⟩, h3.2.2.2⟩
def Hole (own : Own) (labE : Nat) (L : List Nat) (w : World) (e2 : TypeId) (R : Rep α) (D : List (K × List α)) (Dv : List (K × Value)) (k : K) (r : List α) (y : AC × List AC) : Prop :=
  Els own labE L w e2 R ((upM Dv k ((lkM Dv k).getD nilS)).map (·.2)) ((upM D k r).map (·.2)) y.2 (some (ixM k (D.map (·.1)))) ∧ y.2[ixM k (D.map (·.1))]? = some y.1
theorem Hole.evo {y : AC × List AC} (hl : hits T (labE :: L) = false) (he : Evo T own own' w w') (h : Hole own labE L w e2 R D Dv k r y) : Hole own' labE L w' e2 R D Dv k r y := ⟨h.1.evo hl he, h.2⟩
variable {P : Program} {a : Act} {d : Nat} {kt vt : TypeId} {x u v : Operand} {t ty : TypeId} {pos : String} {after : Array Edge} {guard : Option (Nat × Bool)} {A2 : Option Addr} {c2 : Nat} {bytes : Nat}
end
section
variable {P : Program} {r : Option Nat} {T : List Nat} {own : Own} {a : Act} {w : World} {d : Nat} {o : Oper} {c : Bool} {β : Type} {mk : β → Value} {q : β → Own → World → Prop}
end
theorem RwO.backM_ {α : Type} {R : Rep α} {La L L' : List Nat} {own own' : Own} {w w' : World} {m' : Nat → Nat} {A : Option Addr} {c lab : Nat} {l : List α} {e : TypeId} (ho : ∀ b, b < w.heap.size → own' b = inL La (own b)) (h : RwO own' lab L w' e R A c l) (h1 : 1 < lab) (h0 : 0 ∉ L) (hL : ∀ x ∈ La, x ∈ L') (hm : ∀ x ∈ L, m' x ∈ L') : RwO (backN own own' w m') (m' lab) L' w' e R A c l := by
  rcases h with h | ⟨g, cur, g1, g2, g3, g4, g5, g6, g7⟩
  · exact .inl h
  · refine .inr ⟨g, cur, g1, ?_, g3, g4, g5, g6, g7.loc fun b hb => ⟨⟨⟨?_, hb.1.2⟩, hb.2⟩, rfl⟩⟩
    · unfold backN
      rw [if_neg, g2]
      intro hlt
      have h8 := ho g hlt
      have := inL_le (La := La) (own := own) g
      have : inL La (own g) ≤ 1 := this
      omega
    · unfold backN
      by_cases hlt : b < w.heap.size
      · rw [if_pos hlt]
        have h8 := ho b hlt
        have h2 : inL La (own b) = 1 := by
          have : inL La (own b) ≠ 0 := fun h3 => h0 (by rw [← h3, ← h8]; exact hb.1.1)
          have := inL_le (La := La) (own := own) b
          have : inL La (own b) ≤ 1 := this
          omega
        exact hL _ (inL_mem h2)
      · rw [if_neg hlt]; exact hm _ hb.1.1
section
variable {P : Program} {K V : Type} [DecidableEq K] {kt vt : TypeId} {T : List Nat} {own : Own} {a : Act} {w : World} {d lab lab2 g : Nat} {x y : Operand} {t t2 ty : TypeId} {pos : String} {after : Array Edge} {guard : Option (Nat × Bool)} {kf : K → Value} {vf : V → Value} {D : List (K × V)}
end
section
variable {P : Program} {T : List Nat} {own : Own} {a : Act} {w : World} {d : Nat} {x y : Operand} {t ty e : TypeId} {pos : String} {after : Array Edge} {guard : Option (Nat × Bool)}
theorem or_indexArr {p q : Addr} {k : IntKind} {i : Int} {n s : Nat} (hu : P.underlying t = some (.array n e)) (hs : TSize P e s) (hx : a.eval x = .pointer (some p)) (hy : a.eval y = .int k i) (h : 0 ≤ i ∧ i < n) (hq : p.add (i.toNat * s) = q) :
    OpR P ⟨some d, .indexAddr t x y, ty, pos, after, guard⟩ a w (Post T own a w (Fct.val d (.pointer (some q))) (some d)) :=
  or_val (o := ⟨some d, .indexAddr t x y, ty, pos, after, guard⟩) rfl (by
    subst hq
    have hr : (Instr.indexAt t (.pointer (some p)) (.int k i)).run P w = .ok (.pointer (some (p.add (i.toNat * s)))) w := by
      simp [Instr.indexAt, run_underlying hu, Instr.sureAddr, asIntOf, h, hs w]
    simp only [execOp, hx, hy]; simp [Sem.run_bind, hr])
end
end Go.Proofs.Ytnmkonlfnpcoiaa
