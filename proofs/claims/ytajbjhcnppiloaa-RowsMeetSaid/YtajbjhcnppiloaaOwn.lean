/-
  Slices of the call's own, of slices of the call's own: 'out[n] = append(out[n], ..)'. No program in sight.
-/
import Derived.Test.YtajbjhcnppiloaaNest
namespace Go.Proofs.Ytajbjhcnppiloaa
open Go.RowKit

/-- Whatever fills one cell. -/
def RepV : Rep Value := ⟨1, Nat.one_pos, fun _ _ cs v => cs = [v] ∧ v.oneCell' = true, fun h => by rw [h.1]; rfl, fun h u hu => by rw [h.1] at hu; simp at hu; subst hu; exact h.2, fun _ h => h⟩
theorem RepV.flat : RepV.Flat := fun _ _ _ _ _ _ h => h
theorem RepV.cells {w : World} {S : Nat → Prop} : ∀ {cs vals : List Value}, RepL RepV w S cs vals → cs = vals ∧ ∀ v ∈ vals, v.oneCell' = true
  | cs, [], h => ⟨h, by simp⟩
  | cs, v :: l, h => by
    obtain ⟨⟨h1, h2⟩, h3⟩ := h
    obtain ⟨h4, h5⟩ := RepV.cells h3
    have h1 : cs.take 1 = [v] := h1
    have h4 : cs.drop 1 = l := h4
    refine ⟨?_, fun u hu => ?_⟩
    · rw [← List.take_append_drop 1 cs, h1, h4]; rfl
    · rcases List.mem_cons.1 hu with rfl | hu
      · exact h2
      · exact h5 u hu
theorem RepV.mk {w : World} {S : Nat → Prop} : ∀ {vals : List Value}, (∀ v ∈ vals, v.oneCell' = true) → RepL RepV w S vals vals
  | [], _ => rfl
  | v :: l, h => ⟨⟨rfl, h v (by simp)⟩, show RepL RepV w S l l from RepV.mk fun u hu => h u (by simp [hu])⟩

abbrev AC := Option Addr × Nat
def Dist (ys : List AC) : Prop := ∀ (i j : Nat) (y z : AC), i ≠ j → ys[i]? = some y → ys[j]? = some z → y.2 ≠ 0 → z.2 ≠ 0 → y.1 ≠ z.1
section
variable {α : Type}
def Els (own : Own) (labE : Nat) (L : List Nat) (w : World) (e2 : TypeId) (R : Rep α) (vals : List Value) (l : List (List α)) (ys : List AC) (h : Option Nat) : Prop :=
  vals.length = l.length ∧ ys.length = l.length ∧ (∀ (j : Nat) (x : List α) (y : AC), l[j]? = some x → ys[j]? = some y → (h ≠ some j → vals[j]? = some (.slice y.1 x.length y.2)) ∧ RwO own labE L w e2 R y.1 y.2 x) ∧ Dist ys
/-- The slice (A, c) has the things l, of which each is a slice of the call's own, ys; but place h may hold something else. -/
def Gn (own : Own) (lab labE : Nat) (L : List Nat) (w : World) (e e2 : TypeId) (R : Rep α) (A : Option Addr) (c : Nat) (l : List (List α)) (ys : List AC) (h : Option Nat) : Prop :=
  ∃ vals, RwO own lab [] w e RepV A c vals ∧ Els own labE L w e2 R vals l ys h
def RwN (own : Own) (lab labE : Nat) (L : List Nat) (w : World) (e e2 : TypeId) (R : Rep α) (A : Option Addr) (c : Nat) (l : List (List α)) : Prop := ∃ ys, Gn own lab labE L w e e2 R A c l ys none
/-- .. of which place n holds y. -/
def RwNa (own : Own) (lab labE : Nat) (L : List Nat) (w : World) (e e2 : TypeId) (R : Rep α) (A : Option Addr) (c : Nat) (l : List (List α)) (n : Nat) (y : AC) : Prop := ∃ ys, Gn own lab labE L w e e2 R A c l ys none ∧ ys[n]? = some y
/-- .. of which place n is to hold z, which is r. -/
def RwNh (own : Own) (lab labE : Nat) (L : List Nat) (w : World) (e e2 : TypeId) (R : Rep α) (A : Option Addr) (c : Nat) (l : List (List α)) (n : Nat) (z : AC) (r : List α) : Prop := n < l.length ∧ ∃ ys, Gn own lab labE L w e e2 R A c (l.set n r) ys (some n) ∧ ys[n]? = some z

variable {R : Rep α} {own own' : Own} {w w' : World} {lab labE lab2 lab3 : Nat} {L L2 L3 T : List Nat} {e e2 : TypeId} {A : Option Addr} {c n : Nat} {l : List (List α)} {ys : List AC} {h : Option Nat} {vals : List Value} {y z : AC} {r : List α}
theorem hits_mid {T L : List Nat} {a b : Nat} (h : hits T (a :: b :: L) = false) : hits T [a] = false ∧ hits T (b :: L) = false := by
  refine ⟨?_, (hits_cons h).2⟩
  cases h' : hits T [a] with
  | false => rfl
  | true =>
    obtain ⟨t, ht, hl⟩ := List.any_eq_true.1 h'
    obtain ⟨x, hx, hb⟩ := List.any_eq_true.1 hl
    have : hits T (a :: b :: L) = true := List.any_eq_true.2 ⟨t, ht, List.any_eq_true.2 ⟨x, by simp at hx ⊢; exact .inl hx, hb⟩⟩
    rw [h] at this; cases this
theorem Els.evo (hl : hits T (labE :: L) = false) (he : Evo T own own' w w') (hE : Els own labE L w e2 R vals l ys h) : Els own' labE L w' e2 R vals l ys h :=
  ⟨hE.1, hE.2.1, fun j x y h1 h2 => ⟨(hE.2.2.1 j x y h1 h2).1, (hE.2.2.1 j x y h1 h2).2.evo hl he⟩, hE.2.2.2⟩
theorem Gn.evo (hl : hits T (lab :: labE :: L) = false) (he : Evo T own own' w w') (hG : Gn own lab labE L w e e2 R A c l ys h) : Gn own' lab labE L w' e e2 R A c l ys h := by
  obtain ⟨vals, h1, h2⟩ := hG
  exact ⟨vals, h1.evo (hits_mid hl).1 he, h2.evo (hits_mid hl).2 he⟩
theorem RwN.evo (hl : hits T (lab :: labE :: L) = false) (he : Evo T own own' w w') (hG : RwN own lab labE L w e e2 R A c l) : RwN own' lab labE L w' e e2 R A c l := by
  obtain ⟨ys, h⟩ := hG; exact ⟨ys, h.evo hl he⟩
theorem RwNa.evo (hl : hits T (lab :: labE :: L) = false) (he : Evo T own own' w w') (hG : RwNa own lab labE L w e e2 R A c l n y) : RwNa own' lab labE L w' e e2 R A c l n y := by
  obtain ⟨ys, h, h2⟩ := hG; exact ⟨ys, h.evo hl he, h2⟩
theorem RwNh.evo (hl : hits T (lab :: labE :: L) = false) (he : Evo T own own' w w') (hG : RwNh own lab labE L w e e2 R A c l n z r) : RwNh own' lab labE L w' e e2 R A c l n z r := by
  obtain ⟨h0, ys, h, h2⟩ := hG; exact ⟨h0, ys, h.evo hl he, h2⟩
theorem RwN.nil_ : RwN own lab labE L w e e2 R none 0 [] := ⟨[], [], RwO.nil_, rfl, rfl, fun j x y h1 => by simp at h1, fun i j y z _ h1 => by simp at h1⟩
theorem RwN.forth_ {m : Nat → Nat} (hG : RwN own lab labE L w e e2 R A c l) : RwN (forth own m) (m lab) (m labE) (L.map m) w e e2 R A c l := by
  obtain ⟨ys, vals, h1, h2⟩ := hG
  exact ⟨ys, vals, h1.forth_, h2.1, h2.2.1, fun j x y h3 h4 => ⟨(h2.2.2.1 j x y h3 h4).1, (h2.2.2.1 j x y h3 h4).2.forth_⟩, h2.2.2.2⟩
theorem RwN.rl_ {mm : List (Nat × Nat)} (hG : RwN own lab labE L w e e2 R A c l) : RwN (rl mm own) (look mm lab) (look mm labE) (L.map (look mm)) w e e2 R A c l := hG.forth_ (m := look mm)
theorem RwN.back_ {m' : Nat → Nat} (hG : RwN own' lab labE L w' e e2 R A c l) (h0 : lab ≠ 0) (hE0 : labE ≠ 0) (hL : R.Flat ∨ 0 ∉ L) : RwN (back own own' w m') (m' lab) (m' labE) (L.map m') w' e e2 R A c l := by
  obtain ⟨ys, vals, h1, h2⟩ := hG
  exact ⟨ys, vals, h1.back_ h0 (.inl RepV.flat), h2.1, h2.2.1, fun j x y h3 h4 => ⟨(h2.2.2.1 j x y h3 h4).1, (h2.2.2.1 j x y h3 h4).2.back_ hE0 hL⟩, h2.2.2.2⟩
theorem RwN.more (hG : RwN own lab labE L w e e2 R A c l) (hL : ∀ x ∈ L, x ∈ L2) : RwN own lab labE L2 w e e2 R A c l := by
  obtain ⟨ys, vals, h1, h2⟩ := hG
  exact ⟨ys, vals, h1, h2.1, h2.2.1, fun j x y h3 h4 => ⟨(h2.2.2.1 j x y h3 h4).1, (h2.2.2.1 j x y h3 h4).2.more hL⟩, h2.2.2.2⟩
theorem RwN.lec (hG : RwN own lab labE L w e e2 R A c l) : l.length ≤ c := by
  obtain ⟨ys, vals, h1, h2⟩ := hG
  rw [← h2.1]; exact h1.lec
/-- As a slice that is read. -/
theorem RwN.repl {S : Nat → Prop} (hS : ∀ b, At own (labE :: L) w b → S b) : ∀ {l : List (List α)} {vals : List Value} {ys : List AC}, (vals.length = l.length ∧ ys.length = l.length ∧ ∀ (j : Nat) (x : List α) (y : AC), l[j]? = some x → ys[j]? = some y → vals[j]? = some (.slice y.1 x.length y.2) ∧ RwO own labE L w e2 R y.1 y.2 x) → RepL (Rep.sl R) w S vals l
  | [], vals, ys, h => List.eq_nil_of_length_eq_zero (by simpa using h.1)
  | x :: l, vals, ys, h => by
    obtain ⟨h1, h2, h3⟩ := h
    cases vals with
    | nil => simp at h1
    | cons v vals =>
      cases ys with
      | nil => simp at h2
      | cons y ys =>
        obtain ⟨g1, g2⟩ := h3 0 x y (by simp) (by simp)
        simp at g1
        refine ⟨⟨y.1, y.2, by subst g1; rfl, g2.lec, ?_⟩, ?_⟩
        · exact g2.rd.2.loc fun b hb => ⟨hS b hb, rfl⟩
        · show RepL (Rep.sl R) w S vals l
          exact RwN.repl hS (ys := ys) ⟨by simpa using h1, by simpa using h2, fun j x' y' h4 h5 => by
            have := h3 (j + 1) x' y' (by simpa using h4) (by simpa using h5)
            simpa using this⟩
theorem RwN.rw_ (hG : RwN own lab labE L w e e2 R A c l) (hne : lab ∉ labE :: L) : RwO own lab (labE :: L) w e (Rep.sl R) A c l := by
  obtain ⟨ys, vals, h1, h2⟩ := hG
  rcases h1 with ⟨rfl, rfl⟩ | ⟨g, cur, g1, g2, g3, g4, g5, g6, g7⟩
  · exact .inl ⟨List.eq_nil_of_length_eq_zero (by rw [← h2.1]; rfl), rfl⟩
  · have hc := (RepV.cells g7).1
    have hc : cur.toList.take (vals.length * 1) = vals := hc
    rw [h2.1] at hc
    refine .inr ⟨g, cur, g1, g2, g3, by rw [← h2.1]; exact g4, g5, g6, ?_⟩
    show RepL (Rep.sl R) w _ (cur.toList.take (l.length * 1)) l
    rw [hc]
    refine RwN.repl (e2 := e2) (fun b hb => ⟨hb, fun e' => ?_⟩) ⟨h2.1, h2.2.1, fun j x y h4 h5 => ⟨(h2.2.2.1 j x y h4 h5).1 (by simp), (h2.2.2.1 j x y h4 h5).2⟩⟩
    subst e'
    have := hb.1
    rw [g2] at this
    exact hne this
theorem RwN.rd (hG : RwN own lab labE L w e e2 R A c l) : RdO own (lab :: labE :: L) w (Rep.sl R) A c l := by
  obtain ⟨ys, vals, h1, h2⟩ := hG
  obtain ⟨cs, k1, k2⟩ := h1.rd.2
  have hc := (RepV.cells k1).1
  subst hc
  refine ⟨by rw [← h2.1]; exact h1.lec, cs, RwN.repl (e2 := e2) (fun b hb => ⟨List.mem_cons_of_mem _ hb.1, hb.2⟩) ⟨h2.1, h2.2.1, fun j x y h4 h5 => ⟨(h2.2.2.1 j x y h4 h5).1 (by simp), (h2.2.2.1 j x y h4 h5).2⟩⟩, fun hn => ?_⟩
  obtain ⟨b, off, e1, hb, hcell⟩ := k2 (by rw [h2.1]; exact hn)
  exact ⟨b, off, e1, ⟨by have := hb.1; simp at this; simp [this], hb.2⟩, hcell⟩

/-! ### facts -/
def Fct.rown (lab labE : Nat) (L : List Nat) (t : Nat) (e e2 : TypeId) (R : Rep α) (l : List (List α)) : Fct := Fct.mems (β := AC) (lab :: labE :: L) t (fun x => .slice x.1 l.length x.2) (fun x own w => RwN own lab labE L w e e2 R x.1 x.2 l) RwN.evo
def Fct.rownAt (lab labE : Nat) (L : List Nat) (e e2 : TypeId) (R : Rep α) (A : Option Addr) (c : Nat) (l : List (List α)) : Fct := Fct.heres (lab :: labE :: L) (fun own w => RwN own lab labE L w e e2 R A c l) RwN.evo
def Fct.bor (lab labE : Nat) (L : List Nat) (t : Nat) (e e2 : TypeId) (R : Rep α) (A : Option Addr) (c : Nat) (l : List (List α)) (n : Nat) (x : List α) : Fct := Fct.mems (β := AC) (lab :: labE :: L) t (fun y => .slice y.1 x.length y.2) (fun y own w => RwNa own lab labE L w e e2 R A c l n y) RwNa.evo
def Fct.hole (lab labE : Nat) (L : List Nat) (t : Nat) (e e2 : TypeId) (R : Rep α) (A : Option Addr) (c : Nat) (l : List (List α)) (n : Nat) (r : List α) : Fct := Fct.mems (β := AC) (lab :: labE :: L) t (fun y => .slice y.1 r.length y.2) (fun y own w => RwNh own lab labE L w e e2 R A c l n y r) RwNh.evo

/-! ### the operations -/
variable {P : Program} {a : Act} {d : Nat} {x u : Operand} {t ty : TypeId} {pos : String} {after : Array Edge} {guard : Option (Nat × Bool)} {A2 : Option Addr} {c2 : Nat} {bytes : Nat}
/-- A thing that is borrowed. -/
theorem or_borrow {i : Int} {xl : List α} (hT : TOne P t) (hx : a.eval x = .pointer (some ((adr A).add (i.toNat * (Rep.sl R).s)))) (h : RwN own lab labE L w e e2 R A c l) (hi : ix l i = some xl) :
    OpR P ⟨some d, .load t x, ty, pos, after, guard⟩ a w (Post T own a w (Fct.bor lab labE L d e e2 R A c l i.toNat xl) (some d)) := by
  obtain ⟨ys, vals, h1, h2⟩ := h
  obtain ⟨h0, hlt, hxl⟩ := ix_some hi
  have hy : ys[i.toNat]? = some (ys[i.toNat]'(by rw [h2.2.1]; exact hlt)) := List.getElem?_eq_getElem _
  obtain ⟨k1, k2⟩ := h2.2.2.1 _ _ _ hxl hy
  have hv := k1 (by simp)
  have hiv : ix vals i = some (.slice (ys[i.toNat]'(by rw [h2.2.1]; exact hlt)).1 xl.length (ys[i.toNat]'(by rw [h2.2.1]; exact hlt)).2) := by unfold ix; rw [if_pos h0]; exact hv
  obtain ⟨cs, g1, g2, _⟩ := h1.rd.at_ hiv
  have g1 := g1.1
  subst g1
  have hcell := g2.zero (v := .slice (ys[i.toNat]'(by rw [h2.2.1]; exact hlt)).1 xl.length (ys[i.toNat]'(by rw [h2.2.1]; exact hlt)).2) rfl
  have hcell' : w.cell? ((adr A).add (i.toNat * (Rep.sl R).s)) = some (.slice (ys[i.toNat]'(by rw [h2.2.1]; exact hlt)).1 xl.length (ys[i.toNat]'(by rw [h2.2.1]; exact hlt)).2) := hcell
  unfold OpR Oper.wp
  have hr : (execOp a.eval ⟨some d, .load t x, ty, pos, after, guard⟩).run P w = .ok (.value (.slice (ys[i.toNat]'(by rw [h2.2.1]; exact hlt)).1 xl.length (ys[i.toNat]'(by rw [h2.2.1]; exact hlt)).2)) w := by
    simp only [execOp, hx]; simp [Sem.run_bind, run_loadOne hT hcell']
  rw [hr]
  exact ⟨_, rfl, own, Evo.refl _ _ _, fun a' ha => ⟨_, ha.1 d rfl, ys, ⟨vals, h1, h2⟩, hy⟩⟩
/-- One of such slices grows. -/
theorem els_grow {xl m : List α} {y : AC} (hT : TApp P t e2 R.s bytes) (h2 : Els own labE L w e2 R vals l ys none) (hy : ys[n]? = some y) (hxl : l[n]? = some xl) (hr : RdO own L2 w R A2 c2 m) (hb : (xl.length + m.length) * bytes ≤ 140737488355328) (hb8 : 0 < bytes)
    (hE0 : labE ≠ 0) (hTl : labE ∈ T) (hTL3 : hits T L3 = false) (hTL2 : hits T L2 = false) (hL : ∀ z ∈ L, z ∈ L3) (hL2 : R.Flat ∨ ∀ z ∈ L2, z ∈ L3) :
    ∃ A' c' w', (Builtin.append_ #[t, t] ty #[.slice y.1 xl.length y.2, .slice A2 m.length c2]).run P w = .ok (.slice A' (xl ++ m).length c') w' ∧ Evo T own (mvOwn w T lab2 own) w w' ∧ n < l.length ∧ Els (mvOwn w T lab2 own) lab2 L3 w' e2 R vals (l.set n (xl ++ m)) (ys.set n (A', c')) (some n) ∧ (ys.set n (A', c'))[n]? = some (A', c') := by
  have hTL : hits T L = false := hits_sub hTL3 hL
  obtain ⟨k1, k2⟩ := h2.2.2.1 _ _ _ hxl hy
  have hn : n < l.length := (List.getElem?_eq_some_iff.1 hxl).1
  -- the one block that may be written
  obtain ⟨gn, hgn, hgl⟩ : ∃ gn, (y.2 ≠ 0 → y.1 = some ⟨gn, 0, none⟩) ∧ (gn < w.heap.size → own gn = labE ∧ y.2 ≠ 0) := by
    rcases k2 with ⟨_, h0⟩ | ⟨g, cur, e1, e2, e3, _⟩
    · exact ⟨w.heap.size, fun hc => (hc h0).elim, fun hc => (Nat.lt_irrefl _ hc).elim⟩
    · by_cases hc : y.2 = 0
      · exact ⟨w.heap.size, fun hc' => (hc' hc).elim, fun hc => (Nat.lt_irrefl _ hc).elim⟩
      · exact ⟨g, fun _ => e1, fun _ => ⟨e2, hc⟩⟩
  obtain ⟨own2, hown2⟩ : ∃ own2 : Own, own2 = fun b => if b = gn then 1 else own b + 2 := ⟨_, rfl⟩
  have o2 : ∀ b, b ≠ gn → own2 b = own b + 2 := fun b hb => by rw [hown2]; exact if_neg hb
  have hlE : labE ∉ L := fun hm => not_hit hTL hm hTl
  have hlE2 : labE ∉ L2 := fun hm => not_hit hTL2 hm hTl
  have hAt : ∀ (M : List Nat), labE ∉ M → ∀ b, At own M w b → At own2 (M.map (· + 2)) w b := fun M hM b hb => ⟨by
    have hne : b ≠ gn := fun e' => by subst e'; exact hM (by rw [← (hgl hb.2).1]; exact hb.1)
    rw [o2 b hne]; exact List.mem_map_of_mem hb.1, hb.2⟩
  have hrow : RwO own2 1 (L.map (· + 2)) w e2 R y.1 y.2 xl := by
    by_cases hc : y.2 = 0
    · refine .inl ⟨List.eq_nil_of_length_eq_zero ?_, hc⟩
      have := k2.lec; omega
    · rcases k2 with ⟨_, h0⟩ | ⟨g, cur, e1, e2, e3, e4, e5, e6, e7⟩
      · exact (hc h0).elim
      · have hg : g = gn := by have := hgn hc; rw [e1] at this; injection this with this; injection this
        refine .inr ⟨g, cur, e1, by rw [hown2, hg]; exact if_pos rfl, e3, e4, e5, e6, e7.loc fun b hb => ⟨⟨hAt L hlE b hb.1, hb.2⟩, rfl⟩⟩
  have hr2 : RdO own2 (L2.map (· + 2)) w R A2 c2 m := hr.sub fun b hb => hAt L2 hlE2 b hb
  have no1 : ∀ M : List Nat, hits [1] (M.map (· + 2)) = false := fun M => by
    cases h' : hits [1] (M.map (· + 2)) with
    | false => rfl
    | true =>
      obtain ⟨t, ht, hl⟩ := List.any_eq_true.1 h'
      obtain ⟨x, hx, hb⟩ := List.any_eq_true.1 hl
      have := Nat.eq_of_beq_eq_true hb
      simp at ht hx
      obtain ⟨q, _, hq⟩ := hx
      omega
  obtain ⟨A', c', w', g1, g2, g3⟩ := run_append_rw (P := P) (ty := ty) (T := [1]) (lab2 := 1) (L3 := L3.map (· + 2)) hT hrow (by decide) hr2 hb hb8 (by simp) (hL2.imp id fun hL2 => ⟨no1 L, no1 L2, fun z hz => by simp at hz ⊢; exact hz.imp fun q hq => ⟨hL q hq.1, hq.2⟩, fun z hz => by simp at hz ⊢; exact hz.imp fun q hq => ⟨hL2 q hq.1, hq.2⟩⟩)
  -- nothing else has turned
  have hkeep : ∀ b, b < w.heap.size → b ≠ gn → w'.heap[b]? = w.heap[b]? := fun b hb hne => (g2.keep b hb (fun hm => by rw [o2 b hne] at hm; simp at hm)).2
  have hev : Evo T own (mvOwn w T lab2 own) w w' := Evo.mv T lab2 own g2.os g2.tape g2.output g2.size fun b hb hbT => hkeep b hb fun e' => by
    subst e'
    have := (hgl hb).1
    rw [this] at hbT
    exact hE0 (hbT hTl)
  -- the new slice's block
  have hnew : ∀ g', mvOwn w [1] 1 own2 g' = 1 → g' = gn ∨ w.heap.size ≤ g' := fun g' hg' => by
    by_cases hlt : g' < w.heap.size
    · by_cases hne : g' = gn
      · exact .inl hne
      · rw [mvOwn_same hlt (by rw [o2 g' hne]; simp)] at hg'
        rw [o2 g' hne] at hg'; omega
    · exact .inr (by omega)
  have hm2 : ∀ g', (g' = gn ∨ w.heap.size ≤ g') → mvOwn w T lab2 own g' = lab2 := fun g' hg' => by
    by_cases hlt : g' < w.heap.size
    · have hg' : g' = gn := by omega
      subst hg'
      exact mvOwn_struck (by rw [(hgl hlt).1]; exact hTl) (by rw [(hgl hlt).1]; exact hE0)
    · exact mvOwn_new (by omega)
  have hAt2 : ∀ b, At (mvOwn w [1] 1 own2) (L3.map (· + 2)) w' b → At (mvOwn w T lab2 own) L3 w' b := fun b hb => ⟨by
    have h3 := hb.1
    by_cases hlt : b < w.heap.size ∧ b ≠ gn
    · rw [mvOwn_same hlt.1 (by rw [o2 b hlt.2]; simp), o2 b hlt.2] at h3
      have h3 : own b ∈ L3 := by
        obtain ⟨q, hq, hqe⟩ := List.mem_map.1 h3
        have : q = own b := by omega
        rw [← this]; exact hq
      show mvOwn w T lab2 own b ∈ L3
      rw [mvOwn_same hlt.1 (not_hit hTL3 h3)]; exact h3
    · exfalso
      have h4 : mvOwn w [1] 1 own2 b = 1 := by
        by_cases h5 : b < w.heap.size
        · have h6 : b = gn := Classical.byContradiction fun h6 => hlt ⟨h5, h6⟩
          exact mvOwn_struck (by rw [hown2, h6]; simp) (by rw [hown2, h6]; simp)
        · exact mvOwn_new (by omega)
      rw [h4] at h3
      obtain ⟨q, hq, hqe⟩ := List.mem_map.1 h3
      omega, hb.2⟩
  have hblk : ∀ (y' : AC) (x' : List α), RwO own labE L w e2 R y'.1 y'.2 x' → y'.2 ≠ 0 → ∃ g, y'.1 = some ⟨g, 0, none⟩ ∧ g < w.heap.size := fun y' x' hr hc => by
    rcases hr with ⟨_, h0⟩ | ⟨g, cur, e1, e2, e3, _⟩
    · exact (hc h0).elim
    · exact ⟨g, e1, e3.lt⟩
  have hoth : ∀ (y' : AC) (x' : List α) (g : Nat), RwO own labE L w e2 R y'.1 y'.2 x' → y'.2 ≠ 0 → y'.1 = some ⟨g, 0, none⟩ → (y.2 ≠ 0 → y'.1 ≠ y.1) → g < w.heap.size → g ≠ gn := fun y' x' g _ _ e1 hd hg e' => by
    subst e'
    have h0 := (hgl hg).2
    exact hd h0 (by rw [e1, hgn h0])
  have hA' : c' ≠ 0 → ∃ g', A' = some ⟨g', 0, none⟩ ∧ (g' = gn ∨ w.heap.size ≤ g') := fun hc => by
    rcases g3 with ⟨_, h0⟩ | ⟨g', cur, e1, e2, _⟩
    · exact (hc h0).elim
    · exact ⟨g', e1, hnew g' e2⟩
  have hny : n < ys.length := by rw [h2.2.1]; exact hn
  refine ⟨A', c', w', g1, hev, hn, ⟨by rw [List.length_set]; exact h2.1, by rw [List.length_set, List.length_set]; exact h2.2.1, fun j x' y' hx' hy' => ?_, ?_⟩, by rw [List.getElem?_set_self hny]⟩
  · by_cases hj : n = j
    · subst hj
      rw [List.getElem?_set_self hn] at hx'
      rw [List.getElem?_set_self hny] at hy'
      injection hx' with hx'
      injection hy' with hy'
      subst hx' hy'
      refine ⟨fun hc => (hc rfl).elim, ?_⟩
      rcases g3 with h | ⟨g', cur, e1, e2, e3, e4, e5, e6, e7⟩
      · exact .inl h
      · exact .inr ⟨g', cur, e1, hm2 g' (hnew g' e2), e3, e4, e5, e6, e7.loc fun b hb => ⟨⟨hAt2 b hb.1, hb.2⟩, rfl⟩⟩
    · rw [List.getElem?_set_ne hj] at hx' hy'
      obtain ⟨k3, k4⟩ := h2.2.2.1 _ _ _ hx' hy'
      refine ⟨fun _ => k3 (by simp), ?_⟩
      by_cases hc : y'.2 = 0
      · exact .inl ⟨List.eq_nil_of_length_eq_zero (by have := k4.lec; omega), hc⟩
      · have hd : y.2 ≠ 0 → y'.1 ≠ y.1 := fun h0 => h2.2.2.2 j n y' y (fun e => hj e.symm) hy' hy hc h0
        rcases k4 with ⟨_, h0⟩ | ⟨g, cur, e1, e2, e3, e4, e5, e6, e7⟩
        · exact (hc h0).elim
        · have hne : g ≠ gn := hoth y' x' g (.inr ⟨g, cur, e1, e2, e3, e4, e5, e6, e7⟩) hc e1 hd e3.lt
          refine .inr ⟨g, cur, e1, mvOwn_struck (by rw [e2]; exact hTl) (by rw [e2]; exact hE0), (hkeep g e3.lt hne).trans e3, e4, e5, e6, e7.loc fun b hb => ?_⟩
          have h5 := At.evo hTL hev hb.1
          exact ⟨⟨⟨hL _ h5.1.1, h5.1.2⟩, hb.2⟩, h5.2⟩
  · intro i j y1 y2 hij h1' h2' hc1 hc2
    have key : ∀ (j : Nat) (y2 : AC), n ≠ j → ys[j]? = some y2 → c' ≠ 0 → y2.2 ≠ 0 → A' ≠ y2.1 := fun j y2 hj hy2 hc hc2 e' => by
      obtain ⟨g', q1, q2⟩ := hA' hc
      have hjl : j < l.length := by rw [← h2.2.1]; exact (List.getElem?_eq_some_iff.1 hy2).1
      obtain ⟨_, k4⟩ := h2.2.2.1 j _ y2 (List.getElem?_eq_getElem hjl) hy2
      obtain ⟨g, q3, q4⟩ := hblk y2 _ k4 hc2
      have hne := hoth y2 _ g k4 hc2 q3 (fun h0 => h2.2.2.2 j n y2 y (fun e => hj e.symm) hy2 hy hc2 h0) q4
      rw [q1, q3] at e'
      injection e' with e'
      injection e' with e'
      omega
    by_cases hi : n = i
    · subst hi
      rw [List.getElem?_set_self hny] at h1'
      rw [List.getElem?_set_ne hij] at h2'
      injection h1' with h1'
      subst h1'
      exact key j y2 hij h2' hc1 hc2
    · rw [List.getElem?_set_ne hi] at h1'
      by_cases hj : n = j
      · subst hj
        rw [List.getElem?_set_self hny] at h2'
        injection h2' with h2'
        subst h2'
        exact fun e' => key i y1 hi h1' hc2 hc1 e'.symm
      · rw [List.getElem?_set_ne hj] at h2'
        exact h2.2.2.2 i j y1 y2 hij h1' h2' hc1 hc2
/-- What is borrowed grows. -/
theorem run_append_bor {xl m : List α} {y : AC} (hT : TApp P t e2 R.s bytes) (h : RwNa own lab labE L w e e2 R A c l n y) (hxl : l[n]? = some xl) (hr : RdO own L2 w R A2 c2 m) (hb : (xl.length + m.length) * bytes ≤ 140737488355328) (hb8 : 0 < bytes)
    (hE0 : labE ≠ 0) (hTl : labE ∈ T) (hlT : hits T [lab] = false) (hTL3 : hits T L3 = false) (hTL2 : hits T L2 = false) (hL : ∀ z ∈ L, z ∈ L3) (hL2 : R.Flat ∨ ∀ z ∈ L2, z ∈ L3) :
    ∃ A' c' w', (Builtin.append_ #[t, t] ty #[.slice y.1 xl.length y.2, .slice A2 m.length c2]).run P w = .ok (.slice A' (xl ++ m).length c') w' ∧ Evo T own (mvOwn w T lab2 own) w w' ∧ RwNh (mvOwn w T lab2 own) lab lab2 L3 w' e e2 R A c l n (A', c') (xl ++ m) := by
  obtain ⟨ys, ⟨vals, h1, h2⟩, hy⟩ := h
  obtain ⟨A', c', w', g1, hev, hn, g2, g3⟩ := els_grow (P := P) (ty := ty) (lab2 := lab2) (L3 := L3) hT h2 hy hxl hr hb hb8 hE0 hTl hTL3 hTL2 hL hL2
  exact ⟨A', c', w', g1, hev, hn, _, ⟨vals, h1.evo hlT hev, g2⟩, g3⟩
theorem or_grow {xl m r : List α} {y : AC} (hT : TApp P t e2 R.s bytes) (hx : a.eval x = .slice y.1 xl.length y.2) (h : RwNa own lab labE L w e e2 R A c l n y) (hxl : l[n]? = some xl) (hu : a.eval u = .slice A2 m.length c2) (hr : RdO own L2 w R A2 c2 m) (hl : app xl m = some r) (hb8 : 0 < bytes) (hb : bytes ≤ 140000)
    (hE0 : labE ≠ 0) (hTl : labE ∈ T) (hlT : hits T [lab] = false) (hTL3 : hits T L3 = false) (hTL2 : hits T L2 = false) (hL : ∀ z ∈ L, z ∈ L3) (hL2 : R.Flat ∨ ∀ z ∈ L2, z ∈ L3) :
    OpR P ⟨some d, .call ⟨.builtin .append, #[x, u], #[t, t]⟩, ty, pos, after, guard⟩ a w (Post T own a w (Fct.hole lab lab2 L3 d e e2 R A c l n r) (some d)) := by
  obtain ⟨hlen, rfl⟩ := app_some hl
  obtain ⟨A', c', w', hrun, hev, hO⟩ := run_append_bor (P := P) (ty := ty) (lab2 := lab2) (L3 := L3) hT h hxl hr (by
    have : (xl.length + m.length) * bytes ≤ capB * 140000 := Nat.mul_le_mul hlen hb
    simp only [capB] at this; omega) hb8 hE0 hTl hlT hTL3 hTL2 hL hL2
  unfold OpR Oper.wp
  have hr' : (execOp a.eval ⟨some d, .call ⟨.builtin .append, #[x, u], #[t, t]⟩, ty, pos, after, guard⟩).run P w = .ok (.value (.slice A' (xl ++ m).length c')) w' := by
    simp only [execOp, resolve, invoke, builtin, List.map_toArray, List.map_cons, List.map_nil, hx, hu]
    simp only [Sem.run_bind, Sem.run_pure, Result.andThen_ok, hrun]
  rw [hr']
  exact ⟨_, rfl, _, hev, fun a' ha => ⟨(A', c'), ha.1 d rfl, hO⟩⟩
/-- What has grown is laid where it was. -/
theorem or_putB {i : Int} {l' : List (List α)} {f : Fct} (hT : TSize P t 1) (hx : a.eval x = .pointer (some ((adr A).add (i.toNat * (Rep.sl R).s)))) (hu : a.eval u = .slice z.1 r.length z.2) (h : RwNh own lab labE L w e e2 R A c l i.toNat z r) (hp : put l i r = some l') (hTl : lab ∈ T) (h0 : lab ≠ 0) (hTE : hits T (labE :: L) = false)
    (hf : ∀ (own' : Own) (a' : Act) (w' : World), (∀ t, a'.eval (.tmp t) = a.eval (.tmp t)) → RwN own' lab2 labE L w' e e2 R A c l' → f.p own' a' w') :
    OpR P ⟨none, .store t x u, ty, pos, after, guard⟩ a w (Post T own a w f none) := by
  obtain ⟨hi0, hi1, rfl⟩ := put_some hp
  obtain ⟨hn, ys, ⟨vals, h1, h2⟩, hz⟩ := h
  have hvl : vals.length = l.length := by rw [h2.1, List.length_set]
  have hpv : put vals i (.slice z.1 r.length z.2) = some (vals.set i.toNat (.slice z.1 r.length z.2)) := put_at ⟨hi0, by rw [hvl]; exact hi1⟩
  refine or_storeIxE (R := RepV) (lab2 := lab2) (cs := [.slice z.1 r.length z.2]) (v := .slice z.1 r.length z.2) hT hx hu rfl RepV.flat (fun _ _ => ⟨rfl, rfl⟩) h1 hpv hTl h0 fun own' a' w' ha hev hv => hf own' a' w' ha ⟨ys, _, hv, by rw [List.length_set]; exact h2.1, h2.2.1, fun j x' y' hx' hy' => ?_, h2.2.2.2⟩
  obtain ⟨k1, k2⟩ := h2.2.2.1 j x' y' hx' hy'
  refine ⟨fun _ => ?_, k2.evo hTE hev⟩
  by_cases hj : i.toNat = j
  · subst hj
    rw [hz] at hy'
    rw [List.getElem?_set_self hn] at hx'
    injection hx' with hx'
    injection hy' with hy'
    subst hx' hy'
    rw [List.getElem?_set_self (by rw [hvl]; exact hn)]
  · rw [List.getElem?_set_ne hj]
    exact k1 (fun e => hj (by injection e))
/-- A literal of one slice of the call's own. -/
theorem or_litO {cs : Array Value} {o : Oper} {xl : List α} {A : Option Addr} {c : Nat} (lk0 : List (Nat × Value)) (hd : o.dst = some d) (hc : covers lk0 o = true) (hl : AllE a lk0)
    (h : (execOp (lk lk0) o).run P w = .ok (.value (.slice (some ⟨w.heap.size, 0, none⟩) 1 1)) (w.alloc (.cells cs e))) (hcs : cs = #[.slice A xl.length c]) (hX : RwO own labE L w e2 R A c xl) (hT : hits T (labE :: L) = false) :
    OpR P o a w (Post T own a w (Fct.rown lab labE L d e e2 R [xl]) o.dst) := by
  subst hcs
  unfold OpR Oper.wp
  rw [exec_lk hc hl, h]
  refine ⟨_, rfl, mvOwn w T lab own, Evo.ofAlloc T lab own w _, fun a' ha => ⟨(some ⟨w.heap.size, 0, none⟩, 1), ha.1 d hd, [(A, c)], [.slice A xl.length c], .inr ⟨w.heap.size, _, rfl, mvOwn_new (Nat.le_refl _), Blk.new w e _, Nat.le_refl _, (by decide : (1 : Nat) ≤ maxLen), rfl, ?_⟩, rfl, rfl, fun j x' y' hx' hy' => ?_, fun i j y z hij hy hz => ?_⟩⟩
  · exact RepV.mk (vals := [.slice A xl.length c]) (by simp [Value.oneCell'])
  · cases j with
    | zero =>
      simp at hx' hy'
      subst hx' hy'
      exact ⟨fun _ => rfl, hX.evo hT (Evo.ofAlloc T lab own w _)⟩
    | succ j => simp at hx'
  · have h1 := (List.getElem?_eq_some_iff.1 hy).1
    have h2 := (List.getElem?_eq_some_iff.1 hz).1
    simp at h1 h2
    omega
/-- A slice of such slices grows. -/
theorem run_append_out {m : List (List α)} {labX labB : Nat} {LX : List Nat} {e' : TypeId} (hT : TApp P t e (Rep.sl R).s bytes) (ho : RwN own lab labE L w e e2 R A c l) (hm : RwN own labB labX LX w e' e2 R A2 c2 m) (hb : (l.length + m.length) * bytes ≤ 140737488355328) (hb8 : 0 < bytes)
    (hT1 : lab ∈ T) (hT2 : labE ∈ T) (hT3 : labX ∈ T) (h01 : lab ≠ 0) (h02 : labE ≠ 0) (h03 : labX ≠ 0) (n1 : lab ≠ labE) (n2 : lab ≠ labX) (n3 : labE ≠ labX) (n4 : lab ≠ labB) (hTL3 : hits T L3 = false) (hL : ∀ z ∈ L, z ∈ L3) (hLX : ∀ z ∈ LX, z ∈ L3) :
    ∃ A' c' w' own', (Builtin.append_ #[t, t] ty #[.slice A l.length c, .slice A2 m.length c2]).run P w = .ok (.slice A' (l ++ m).length c') w' ∧ Evo T own own' w w' ∧ RwN own' lab2 lab3 L3 w' e e2 R A' c' (l ++ m) := by
  obtain ⟨ys, vals, h1, h2⟩ := ho
  obtain ⟨zs, valm, h3, h4⟩ := hm
  obtain ⟨g, hg, hgl⟩ : ∃ g, (∀ g', A = some ⟨g', 0, none⟩ → ¬ (vals = [] ∧ c = 0) → g' = g) ∧ (g < w.heap.size → own g = lab) := by
    rcases h1 with ⟨h0, h0'⟩ | ⟨g, cur, e1, e2, e3, _⟩
    · exact ⟨w.heap.size, fun _ _ hn => (hn ⟨h0, h0'⟩).elim, fun hc => (Nat.lt_irrefl _ hc).elim⟩
    · exact ⟨g, fun g' hg' _ => by rw [e1] at hg'; injection hg' with hg'; injection hg' with hg'; exact hg'.symm, fun _ => e2⟩
  obtain ⟨own2, hown2⟩ : ∃ own2 : Own, own2 = fun b => if b = g then 1 else own b + 2 := ⟨_, rfl⟩
  have o2 : ∀ b, b ≠ g → own2 b = own b + 2 := fun b hb => by rw [hown2]; exact if_neg hb
  have hrow : RwO own2 1 [] w e RepV A c vals := by
    by_cases h0 : vals = [] ∧ c = 0
    · exact .inl h0
    · rcases h1 with h | ⟨g', cur, e1, e2, e3, e4, e5, e6, e7⟩
      · exact (h0 h).elim
      · have := hg g' e1 h0
        subst this
        exact .inr ⟨g', cur, e1, by rw [hown2]; exact if_pos rfl, e3, e4, e5, e6, e7.flat RepV.flat _ _⟩
  have hne : ∀ b, b < w.heap.size → own b ≠ lab → b ≠ g := fun b hb hn e => by subst e; exact hn (hgl hb)
  have hrm : RdO own2 [labB + 2] w RepV A2 c2 valm := h3.rd.sub fun b hb => ⟨by
    have h5 : own b = labB := by have := hb.1; simpa using this
    rw [o2 b (hne b hb.2 (by rw [h5]; exact fun e => n4 e.symm)), h5]; simp, hb.2⟩
  have hlv : vals.length = l.length := h2.1
  have hlm : valm.length = m.length := h4.1
  obtain ⟨A', c', w', g1, g2, g3⟩ := run_append_rw (P := P) (ty := ty) (R := RepV) (T := [1]) (lab2 := 1) (L3 := []) hT hrow (by decide) hrm (by rw [hlv, hlm]; exact hb) hb8 (by simp) (.inl RepV.flat)
  rw [hlv, hlm, List.length_append, hlv, hlm, ← List.length_append] at g1
  have hkeep : ∀ b, b < w.heap.size → b ≠ g → w'.heap[b]? = w.heap[b]? := fun b hb hn => (g2.keep b hb (fun hm => by rw [o2 b hn] at hm; simp at hm)).2
  obtain ⟨own', hown'⟩ : ∃ own' : Own, own' = fun b => if b < w.heap.size ∧ (own b ∈ T → own b = 0) then own b else if b < w.heap.size ∧ own b ≠ lab then lab3 else lab2 := ⟨_, rfl⟩
  have hsame : ∀ b, b < w.heap.size → own b ∉ T → own' b = own b := fun b hb hn => by rw [hown']; exact if_pos ⟨hb, fun h => (hn h).elim⟩
  have hev : Evo T own own' w w' := ⟨g2.os, g2.tape, g2.output, g2.size, fun b hb hbT => ⟨by rw [hown']; exact if_pos ⟨hb, hbT⟩, hkeep b hb fun e' => by
    subst e'
    rw [hgl hb] at hbT
    exact h01 (hbT hT1)⟩⟩
  have hTL : hits T L = false := hits_sub hTL3 hL
  have hTLX : hits T LX = false := hits_sub hTL3 hLX
  have hel : ∀ (lb : Nat) (M : List Nat), lb ∈ T → lb ≠ 0 → lb ≠ lab → hits T M = false → (∀ z ∈ M, z ∈ L3) → ∀ (y : AC) (xl : List α), RwO own lb M w e2 R y.1 y.2 xl → RwO own' lab3 L3 w' e2 R y.1 y.2 xl := by
    intro lb M hlT hl0 hln hM hML y xl hr
    rcases hr with h | ⟨g', cur, e1, e2, e3, e4, e5, e6, e7⟩
    · exact .inl h
    · refine .inr ⟨g', cur, e1, ?_, (hkeep g' e3.lt (hne g' e3.lt (by rw [e2]; exact hln))).trans e3, e4, e5, e6, e7.loc fun b hb => ?_⟩
      · rw [hown']
        show (if g' < w.heap.size ∧ (own g' ∈ T → own g' = 0) then own g' else if g' < w.heap.size ∧ own g' ≠ lab then lab3 else lab2) = lab3
        rw [if_neg (fun h => hl0 (by rw [e2] at h; exact h.2 hlT)), if_pos ⟨e3.lt, by rw [e2]; exact hln⟩]
      · have h5 := At.evo hM hev hb.1
        exact ⟨⟨⟨hML _ h5.1.1, h5.1.2⟩, hb.2⟩, h5.2⟩
  have hblk : ∀ (lb : Nat) (M : List Nat) (y : AC) (xl : List α), RwO own lb M w e2 R y.1 y.2 xl → y.2 ≠ 0 → ∃ g', y.1 = some ⟨g', 0, none⟩ ∧ own g' = lb := by
    intro lb M y xl hr hc
    rcases hr with ⟨_, h0⟩ | ⟨g', cur, e1, e2, _⟩
    · exact (hc h0).elim
    · exact ⟨g', e1, e2⟩
  have hcross : ∀ (i j : Nat) (y z : AC), ys[i]? = some y → zs[j]? = some z → y.2 ≠ 0 → z.2 ≠ 0 → y.1 ≠ z.1 := by
    intro i j y z hy hz hc1 hc2 e'
    have hil : i < l.length := by rw [← h2.2.1]; exact (List.getElem?_eq_some_iff.1 hy).1
    have hjl : j < m.length := by rw [← h4.2.1]; exact (List.getElem?_eq_some_iff.1 hz).1
    obtain ⟨ga, q1, q2⟩ := hblk labE L y _ (h2.2.2.1 i _ y (List.getElem?_eq_getElem hil) hy).2 hc1
    obtain ⟨gb, q3, q4⟩ := hblk labX LX z _ (h4.2.2.1 j _ z (List.getElem?_eq_getElem hjl) hz).2 hc2
    rw [q1, q3] at e'
    injection e' with e'
    injection e' with e'
    subst e'
    exact n3 (q2.symm.trans q4)
  refine ⟨A', c', w', own', g1, hev, ys ++ zs, vals ++ valm, ?_, by rw [List.length_append, List.length_append, hlv, hlm], by rw [List.length_append, List.length_append, h2.2.1, h4.2.1], fun j x' y' hx' hy' => ?_, ?_⟩
  · rcases g3 with h | ⟨g', cur, e1, e2, e3, e4, e5, e6, e7⟩
    · exact .inl h
    · refine .inr ⟨g', cur, e1, ?_, e3, e4, e5, e6, e7.flat RepV.flat _ _⟩
      rw [hown']
      show (if g' < w.heap.size ∧ (own g' ∈ T → own g' = 0) then own g' else if g' < w.heap.size ∧ own g' ≠ lab then lab3 else lab2) = lab2
      by_cases hlt : g' < w.heap.size
      · have hgg : g' = g := by
          by_cases hn : g' = g
          · exact hn
          · rw [mvOwn_same hlt (by rw [o2 g' hn]; simp), o2 g' hn] at e2; omega
        subst hgg
        rw [if_neg (fun h => h01 (by rw [hgl hlt] at h; exact h.2 hT1)), if_neg (fun h => h.2 (hgl hlt))]
      · rw [if_neg (fun h => hlt h.1), if_neg (fun h => hlt h.1)]
  · rw [List.getElem?_append] at hx' hy'
    rw [List.getElem?_append]
    rw [h2.2.1] at hy'
    rw [hlv]
    split at hx'
    · rename_i hjl
      rw [if_pos hjl] at hy'
      rw [if_pos hjl]
      obtain ⟨k1, k2⟩ := h2.2.2.1 j x' y' hx' hy'
      exact ⟨k1, hel labE L hT2 h02 (fun e => n1 e.symm) hTL hL y' x' k2⟩
    · rename_i hjl
      rw [if_neg hjl] at hy'
      rw [if_neg hjl]
      obtain ⟨k1, k2⟩ := h4.2.2.1 _ x' y' hx' hy'
      exact ⟨fun _ => k1 (by simp), hel labX LX hT3 h03 (fun e => n2 e.symm) hTLX hLX y' x' k2⟩
  · intro i j y z hij hy hz hc1 hc2
    rw [List.getElem?_append] at hy hz
    split at hy
    · rename_i hi
      split at hz
      · exact h2.2.2.2 i j y z hij hy hz hc1 hc2
      · exact hcross _ _ y z hy hz hc1 hc2
    · rename_i hi
      split at hz
      · exact fun e' => hcross _ _ z y hz hy hc2 hc1 e'.symm
      · exact h4.2.2.2 _ _ y z (by omega) hy hz hc1 hc2
theorem or_appendO {m r : List (List α)} {labX labB : Nat} {LX : List Nat} {e' : TypeId} (hT : TApp P t e (Rep.sl R).s bytes) (hx : a.eval x = .slice A l.length c) (ho : RwN own lab labE L w e e2 R A c l) (hu : a.eval u = .slice A2 m.length c2) (hm : RwN own labB labX LX w e' e2 R A2 c2 m) (hl : app l m = some r) (hb8 : 0 < bytes) (hb : bytes ≤ 140000)
    (hT1 : lab ∈ T) (hT2 : labE ∈ T) (hT3 : labX ∈ T) (h01 : lab ≠ 0) (h02 : labE ≠ 0) (h03 : labX ≠ 0) (n1 : lab ≠ labE) (n2 : lab ≠ labX) (n3 : labE ≠ labX) (n4 : lab ≠ labB) (hTL3 : hits T L3 = false) (hL : ∀ z ∈ L, z ∈ L3) (hLX : ∀ z ∈ LX, z ∈ L3) :
    OpR P ⟨some d, .call ⟨.builtin .append, #[x, u], #[t, t]⟩, ty, pos, after, guard⟩ a w (Post T own a w (Fct.rown lab2 lab3 L3 d e e2 R r) (some d)) := by
  obtain ⟨hlen, rfl⟩ := app_some hl
  obtain ⟨A', c', w', own', hrun, hev, hO⟩ := run_append_out (P := P) (ty := ty) (lab2 := lab2) (lab3 := lab3) (L3 := L3) hT ho hm (by
    have : (l.length + m.length) * bytes ≤ capB * 140000 := Nat.mul_le_mul hlen hb
    simp only [capB] at this; omega) hb8 hT1 hT2 hT3 h01 h02 h03 n1 n2 n3 n4 hTL3 hL hLX
  unfold OpR Oper.wp
  have hr' : (execOp a.eval ⟨some d, .call ⟨.builtin .append, #[x, u], #[t, t]⟩, ty, pos, after, guard⟩).run P w = .ok (.value (.slice A' (l ++ m).length c')) w' := by
    simp only [execOp, resolve, invoke, builtin, List.map_toArray, List.map_cons, List.map_nil, hx, hu]
    simp only [Sem.run_bind, Sem.run_pure, Result.andThen_ok, hrun]
  rw [hr']
  exact ⟨_, rfl, _, hev, fun a' ha => ⟨(A', c'), ha.1 d rfl, hO⟩⟩
end
end Go.Proofs.Ytajbjhcnppiloaa
