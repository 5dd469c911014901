import Derived.Test.YtoccfdohlefifaaNest
namespace Go.Proofs.Ytoccfdohlefifaa
open Go.RowKit
def RepV : Rep Value := ⟨1, Nat.one_pos, fun _ _ cs v => cs = [v] ∧ v.oneCell' = true, fun h => by rw [h.1]; rfl, fun h u hu => by rw [h.1] at hu; simp at hu; subst hu; exact h.2, fun _ h => h⟩
theorem RepV.flat : RepV.Flat := fun _ _ _ _ _ _ h => h
theorem RepV.cells {w : World} {S : Nat → Prop} : ∀ {cs vals : List Value}, RepL RepV w S cs vals → cs = vals ∧ ∀ v ∈ vals, v.oneCell' = true
  | cs, [], h => ⟨h, by simp⟩
  | cs, v :: l, h => by
    obtain ⟨⟨h1, h2⟩, h3⟩ := h
    obtain ⟨h4, h5⟩ := RepV.cells h3
    have h1 : cs.take 1 = [v] := h1
    have h4 : cs.drop 1 = l := h4
    refine ⟨?_, fun u hu => ?_⟩
    · rw [← List.take_append_drop 1 cs, h1, h4]; rfl
    · rcases List.mem_cons.1 hu with rfl | hu
      · exact h2
      · exact h5 u hu
theorem RepV.mk {w : World} {S : Nat → Prop} : ∀ {vals : List Value}, (∀ v ∈ vals, v.oneCell' = true) → RepL RepV w S vals vals
  | [], _ => rfl
  | v :: l, h => ⟨⟨rfl, h v (by simp)⟩, show RepL RepV w S l l from RepV.mk fun u hu => h u (by simp [hu])⟩
abbrev AC := Option Addr × Nat
def Dist (ys : List AC) : Prop := ∀ (i j : Nat) (y z : AC), i ≠ j → ys[i]? = some y → ys[j]? = some z → y.2 ≠ 0 → z.2 ≠ 0 → y.1 ≠ z.1
section
variable {α : Type}
def Els (own : Own) (labE : Nat) (L : List Nat) (w : World) (e2 : TypeId) (R : Rep α) (vals : List Value) (l : List (List α)) (ys : List AC) (h : Option Nat) : Prop :=
  vals.length = l.length ∧ ys.length = l.length ∧ (∀ (j : Nat) (x : List α) (y : AC), l[j]? = some x → ys[j]? = some y → (h ≠ some j → vals[j]? = some (.slice y.1 x.length y.2)) ∧ RwO own labE L w e2 R y.1 y.2 x) ∧ Dist ys
def Gn (own : Own) (lab labE : Nat) (L : List Nat) (w : World) (e e2 : TypeId) (R : Rep α) (A : Option Addr) (c : Nat) (l : List (List α)) (ys : List AC) (h : Option Nat) : Prop :=
  ∃ vals, RwO own lab [] w e RepV A c vals ∧ Els own labE L w e2 R vals l ys h
def RwN (own : Own) (lab labE : Nat) (L : List Nat) (w : World) (e e2 : TypeId) (R : Rep α) (A : Option Addr) (c : Nat) (l : List (List α)) : Prop := ∃ ys, Gn own lab labE L w e e2 R A c l ys none
def RwNa (own : Own) (lab labE : Nat) (L : List Nat) (w : World) (e e2 : TypeId) (R : Rep α) (A : Option Addr) (c : Nat) (l : List (List α)) (n : Nat) (y : AC) : Prop := ∃ ys, Gn own lab labE L w e e2 R A c l ys none ∧ ys[n]? = some y
def RwNh (own : Own) (lab labE : Nat) (L : List Nat) (w : World) (e e2 : TypeId) (R : Rep α) (A : Option Addr) (c : Nat) (l : List (List α)) (n : Nat) (z : AC) (r : List α) : Prop := n < l.length ∧ ∃ ys, Gn own lab labE L w e e2 R A c (l.set n r) ys (some n) ∧ ys[n]? = some z
variable {R : Rep α} {own own' : Own} {w w' : World} {lab labE lab2 lab3 : Nat} {L L2 L3 T : List Nat} {e e2 : TypeId} {A : Option Addr} {c n : Nat} {l : List (List α)} {ys : List AC} {h : Option Nat} {vals : List Value} {y z : AC} {r : List α}
theorem hits_mid {T L : List Nat} {a b : Nat} (h : hits T (a :: b :: L) = false) : hits T [a] = false ∧ hits T (b :: L) = false := by
  refine ⟨?_, (hits_cons h).2⟩
  cases h' : hits T [a] with
  | false => rfl
  | true =>
    obtain ⟨t, ht, hl⟩ := List.any_eq_true.1 h'
    obtain ⟨x, hx, hb⟩ := List.any_eq_true.1 hl
    have : hits T (a :: b :: L) = true := List.any_eq_true.2 ⟨t, ht, List.any_eq_true.2 ⟨x, by simp at hx ⊢; exact .inl hx, hb⟩⟩
    rw [h] at this; cases this
theorem Els.evo (hl : hits T (labE :: L) = false) (he : Evo T own own' w w') (hE : Els own labE L w e2 R vals l ys h) : Els own' labE L w' e2 R vals l ys h :=
  ⟨hE.1, hE.2.1, fun j x y h1 h2 => ⟨(hE.2.2.1 j x y h1 h2).1, (hE.2.2.1 j x y h1 h2).2.evo hl he⟩, hE.2.2.2⟩
theorem Gn.evo (hl : hits T (lab :: labE :: L) = false) (he : Evo T own own' w w') (hG : Gn own lab labE L w e e2 R A c l ys h) : Gn own' lab labE L w' e e2 R A c l ys h := by
  obtain ⟨vals, h1, h2⟩ := hG
  exact ⟨vals, h1.evo (hits_mid hl).1 he, h2.evo (hits_mid hl).2 he⟩
theorem RwN.evo (hl : hits T (lab :: labE :: L) = false) (he : Evo T own own' w w') (hG : RwN own lab labE L w e e2 R A c l) : RwN own' lab labE L w' e e2 R A c l := by
  obtain ⟨ys, h⟩ := hG; exact ⟨ys, h.evo hl he⟩
theorem RwNa.evo (hl : hits T (lab :: labE :: L) = false) (he : Evo T own own' w w') (hG : RwNa own lab labE L w e e2 R A c l n y) : RwNa own' lab labE L w' e e2 R A c l n y := by
  obtain ⟨ys, h, h2⟩ := hG; exact ⟨ys, h.evo hl he, h2⟩
theorem RwNh.evo (hl : hits T (lab :: labE :: L) = false) (he : Evo T own own' w w') (hG : RwNh own lab labE L w e e2 R A c l n z r) : RwNh own' lab labE L w' e e2 R A c l n z r := by
  obtain ⟨h0, ys, h, h2⟩ := hG; exact ⟨h0, ys, h.evo hl he, h2⟩
theorem RwN.forth_ {m : Nat → Nat} (hG : RwN own lab labE L w e e2 R A c l) : RwN (forth own m) (m lab) (m labE) (L.map m) w e e2 R A c l := by
  obtain ⟨ys, vals, h1, h2⟩ := hG
  exact ⟨ys, vals, h1.forth_, h2.1, h2.2.1, fun j x y h3 h4 => ⟨(h2.2.2.1 j x y h3 h4).1, (h2.2.2.1 j x y h3 h4).2.forth_⟩, h2.2.2.2⟩
theorem RwN.back_ {m' : Nat → Nat} (hG : RwN own' lab labE L w' e e2 R A c l) (h0 : lab ≠ 0) (hE0 : labE ≠ 0) (hL : R.Flat ∨ 0 ∉ L) : RwN (back own own' w m') (m' lab) (m' labE) (L.map m') w' e e2 R A c l := by
  obtain ⟨ys, vals, h1, h2⟩ := hG
  exact ⟨ys, vals, h1.back_ h0 (.inl RepV.flat), h2.1, h2.2.1, fun j x y h3 h4 => ⟨(h2.2.2.1 j x y h3 h4).1, (h2.2.2.1 j x y h3 h4).2.back_ hE0 hL⟩, h2.2.2.2⟩
theorem RwN.more (hG : RwN own lab labE L w e e2 R A c l) (hL : ∀ x ∈ L, x ∈ L2) : RwN own lab labE L2 w e e2 R A c l := by
  obtain ⟨ys, vals, h1, h2⟩ := hG
  exact ⟨ys, vals, h1, h2.1, h2.2.1, fun j x y h3 h4 => ⟨(h2.2.2.1 j x y h3 h4).1, (h2.2.2.1 j x y h3 h4).2.more hL⟩, h2.2.2.2⟩
theorem RwN.lec (hG : RwN own lab labE L w e e2 R A c l) : l.length ≤ c := by
  obtain ⟨ys, vals, h1, h2⟩ := hG
  rw [← h2.1]; exact h1.lec
theorem RwN.repl {S : Nat → Prop} (hS : ∀ b, At own (labE :: L) w b → S b) : ∀ {l : List (List α)} {vals : List Value} {ys : List AC}, (vals.length = l.length ∧ ys.length = l.length ∧ ∀ (j : Nat) (x : List α) (y : AC), l[j]? = some x → ys[j]? = some y → vals[j]? = some (.slice y.1 x.length y.2) ∧ RwO own labE L w e2 R y.1 y.2 x) → RepL (Rep.sl R) w S vals l
  | [], vals, ys, h => List.eq_nil_of_length_eq_zero (by simpa using h.1)
  | x :: l, vals, ys, h => by
    obtain ⟨h1, h2, h3⟩ := h
    cases vals with
    | nil => simp at h1
    | cons v vals =>
      cases ys with
      | nil => simp at h2
      | cons y ys =>
        obtain ⟨g1, g2⟩ := h3 0 x y (by simp) (by simp)
        simp at g1
        refine ⟨⟨y.1, y.2, by subst g1; rfl, g2.lec, ?_⟩, ?_⟩
        · exact g2.rd.2.loc fun b hb => ⟨hS b hb, rfl⟩
        · show RepL (Rep.sl R) w S vals l
          exact RwN.repl hS (ys := ys) ⟨by simpa using h1, by simpa using h2, fun j x' y' h4 h5 => by
            have := h3 (j + 1) x' y' (by simpa using h4) (by simpa using h5)
            simpa using this⟩
theorem RwN.rd (hG : RwN own lab labE L w e e2 R A c l) : RdO own (lab :: labE :: L) w (Rep.sl R) A c l := by
  obtain ⟨ys, vals, h1, h2⟩ := hG
  obtain ⟨cs, k1, k2⟩ := h1.rd.2
  have hc := (RepV.cells k1).1
  subst hc
  refine ⟨by rw [← h2.1]; exact h1.lec, cs, RwN.repl (e2 := e2) (fun b hb => ⟨List.mem_cons_of_mem _ hb.1, hb.2⟩) ⟨h2.1, h2.2.1, fun j x y h4 h5 => ⟨(h2.2.2.1 j x y h4 h5).1 (by simp), (h2.2.2.1 j x y h4 h5).2⟩⟩, fun hn => ?_⟩
  obtain ⟨b, off, e1, hb, hcell⟩ := k2 (by rw [h2.1]; exact hn)
  exact ⟨b, off, e1, ⟨by have := hb.1; simp at this; simp [this], hb.2⟩, hcell⟩
variable {P : Program} {a : Act} {d : Nat} {x u : Operand} {t ty : TypeId} {pos : String} {after : Array Edge} {guard : Option (Nat × Bool)} {A2 : Option Addr} {c2 : Nat} {bytes : Nat}
theorem els_grow {xl m : List α} {y : AC} (hT : TApp P t e2 R.s bytes) (h2 : Els own labE L w e2 R vals l ys none) (hy : ys[n]? = some y) (hxl : l[n]? = some xl) (hr : RdO own L2 w R A2 c2 m) (hb : (xl.length + m.length) * bytes ≤ 140737488355328) (hb8 : 0 < bytes)
    (hE0 : labE ≠ 0) (hTl : labE ∈ T) (hTL3 : hits T L3 = false) (hTL2 : hits T L2 = false) (hL : ∀ z ∈ L, z ∈ L3) (hL2 : R.Flat ∨ ∀ z ∈ L2, z ∈ L3) :
    ∃ A' c' w', (Builtin.append_ #[t, t] ty #[.slice y.1 xl.length y.2, .slice A2 m.length c2]).run P w = .ok (.slice A' (xl ++ m).length c') w' ∧ Evo T own (mvOwn w T lab2 own) w w' ∧ n < l.length ∧ Els (mvOwn w T lab2 own) lab2 L3 w' e2 R vals (l.set n (xl ++ m)) (ys.set n (A', c')) (some n) ∧ (ys.set n (A', c'))[n]? = some (A', c') := by
  have hTL : hits T L = false := hits_sub hTL3 hL
  obtain ⟨k1, k2⟩ := h2.2.2.1 _ _ _ hxl hy
  have hn : n < l.length := (List.getElem?_eq_some_iff.1 hxl).1
  -- the one block that may be written
  obtain ⟨gn, hgn, hgl⟩ : ∃ gn, (y.2 ≠ 0 → y.1 = some ⟨gn, 0, none⟩) ∧ (gn < w.heap.size → own gn = labE ∧ y.2 ≠ 0) := by
    rcases k2 with ⟨_, h0⟩ | ⟨g, cur, e1, e2, e3, _⟩
    · exact ⟨w.heap.size, fun hc => (hc h0).elim, fun hc => (Nat.lt_irrefl _ hc).elim⟩
    · by_cases hc : y.2 = 0
      · exact ⟨w.heap.size, fun hc' => (hc' hc).elim, fun hc => (Nat.lt_irrefl _ hc).elim⟩
      · exact ⟨g, fun _ => e1, fun _ => ⟨e2, hc⟩⟩
  obtain ⟨own2, hown2⟩ : ∃ own2 : Own, own2 = fun b => if b = gn then 1 else own b + 2 := ⟨_, rfl⟩
  have o2 : ∀ b, b ≠ gn → own2 b = own b + 2 := fun b hb => by rw [hown2]; exact if_neg hb
  have hlE : labE ∉ L := fun hm => not_hit hTL hm hTl
  have hlE2 : labE ∉ L2 := fun hm => not_hit hTL2 hm hTl
  have hAt : ∀ (M : List Nat), labE ∉ M → ∀ b, At own M w b → At own2 (M.map (· + 2)) w b := fun M hM b hb => ⟨by
    have hne : b ≠ gn := fun e' => by subst e'; exact hM (by rw [← (hgl hb.2).1]; exact hb.1)
    rw [o2 b hne]; exact List.mem_map_of_mem hb.1, hb.2⟩
  have hrow : RwO own2 1 (L.map (· + 2)) w e2 R y.1 y.2 xl := by
    by_cases hc : y.2 = 0
    · refine .inl ⟨List.eq_nil_of_length_eq_zero ?_, hc⟩
      have := k2.lec; omega
    · rcases k2 with ⟨_, h0⟩ | ⟨g, cur, e1, e2, e3, e4, e5, e6, e7⟩
      · exact (hc h0).elim
      · have hg : g = gn := by have := hgn hc; rw [e1] at this; injection this with this; injection this
        refine .inr ⟨g, cur, e1, by rw [hown2, hg]; exact if_pos rfl, e3, e4, e5, e6, e7.loc fun b hb => ⟨⟨hAt L hlE b hb.1, hb.2⟩, rfl⟩⟩
  have hr2 : RdO own2 (L2.map (· + 2)) w R A2 c2 m := hr.sub fun b hb => hAt L2 hlE2 b hb
  have no1 : ∀ M : List Nat, hits [1] (M.map (· + 2)) = false := fun M => by
    cases h' : hits [1] (M.map (· + 2)) with
    | false => rfl
    | true =>
      obtain ⟨t, ht, hl⟩ := List.any_eq_true.1 h'
      obtain ⟨x, hx, hb⟩ := List.any_eq_true.1 hl
      have := Nat.eq_of_beq_eq_true hb
      simp at ht hx
      obtain ⟨q, _, hq⟩ := hx
      omega
  obtain ⟨A', c', w', g1, g2, g3⟩ := run_append_rw (P := P) (ty := ty) (T := [1]) (lab2 := 1) (L3 := L3.map (· + 2)) hT hrow (by decide) hr2 hb hb8 (by simp) (hL2.imp id fun hL2 => ⟨no1 L, no1 L2, fun z hz => by simp at hz ⊢; exact hz.imp fun q hq => ⟨hL q hq.1, hq.2⟩, fun z hz => by simp at hz ⊢; exact hz.imp fun q hq => ⟨hL2 q hq.1, hq.2⟩⟩)
  -- nothing else has turned
  have hkeep : ∀ b, b < w.heap.size → b ≠ gn → w'.heap[b]? = w.heap[b]? := fun b hb hne => (g2.keep b hb (fun hm => by rw [o2 b hne] at hm; simp at hm)).2
  have hev : Evo T own (mvOwn w T lab2 own) w w' := Evo.mv T lab2 own g2.os g2.tape g2.output g2.size fun b hb hbT => hkeep b hb fun e' => by
    subst e'
    have := (hgl hb).1
    rw [this] at hbT
    exact hE0 (hbT hTl)
  -- the new slice's block
  have hnew : ∀ g', mvOwn w [1] 1 own2 g' = 1 → g' = gn ∨ w.heap.size ≤ g' := fun g' hg' => by
    by_cases hlt : g' < w.heap.size
    · by_cases hne : g' = gn
      · exact .inl hne
      · rw [mvOwn_same hlt (by rw [o2 g' hne]; simp)] at hg'
        rw [o2 g' hne] at hg'; omega
    · exact .inr (by omega)
  have hm2 : ∀ g', (g' = gn ∨ w.heap.size ≤ g') → mvOwn w T lab2 own g' = lab2 := fun g' hg' => by
    by_cases hlt : g' < w.heap.size
    · have hg' : g' = gn := by omega
      subst hg'
      exact mvOwn_struck (by rw [(hgl hlt).1]; exact hTl) (by rw [(hgl hlt).1]; exact hE0)
    · exact mvOwn_new (by omega)
  have hAt2 : ∀ b, At (mvOwn w [1] 1 own2) (L3.map (· + 2)) w' b → At (mvOwn w T lab2 own) L3 w' b := fun b hb => ⟨by
    have h3 := hb.1
    by_cases hlt : b < w.heap.size ∧ b ≠ gn
    · rw [mvOwn_same hlt.1 (by rw [o2 b hlt.2]; simp), o2 b hlt.2] at h3
      have h3 : own b ∈ L3 := by
        obtain ⟨q, hq, hqe⟩ := List.mem_map.1 h3
        have : q = own b := by omega
        rw [← this]; exact hq
      show mvOwn w T lab2 own b ∈ L3
      rw [mvOwn_same hlt.1 (not_hit hTL3 h3)]; exact h3
    · exfalso
      have h4 : mvOwn w [1] 1 own2 b = 1 := by
        by_cases h5 : b < w.heap.size
        · have h6 : b = gn := Classical.byContradiction fun h6 => hlt ⟨h5, h6⟩
          exact mvOwn_struck (by rw [hown2, h6]; simp) (by rw [hown2, h6]; simp)
        · exact mvOwn_new (by omega)
      rw [h4] at h3
      obtain ⟨q, hq, hqe⟩ := List.mem_map.1 h3
      omega, hb.2⟩
  have hblk : ∀ (y' : AC) (x' : List α), RwO own labE L w e2 R y'.1 y'.2 x' → y'.2 ≠ 0 → ∃ g, y'.1 = some ⟨g, 0, none⟩ ∧ g < w.heap.size := fun y' x' hr hc => by
    rcases hr with ⟨_, h0⟩ | ⟨g, cur, e1, e2, e3, _⟩
    · exact (hc h0).elim
    · exact ⟨g, e1, e3.lt⟩
  have hoth : ∀ (y' : AC) (x' : List α) (g : Nat), RwO own labE L w e2 R y'.1 y'.2 x' → y'.2 ≠ 0 → y'.1 = some ⟨g, 0, none⟩ → (y.2 ≠ 0 → y'.1 ≠ y.1) → g < w.heap.size → g ≠ gn := fun y' x' g _ _ e1 hd hg e' => by
    subst e'
    have h0 := (hgl hg).2
    exact hd h0 (by rw [e1, hgn h0])
  have hA' : c' ≠ 0 → ∃ g', A' = some ⟨g', 0, none⟩ ∧ (g' = gn ∨ w.heap.size ≤ g') := fun hc => by
    rcases g3 with ⟨_, h0⟩ | ⟨g', cur, e1, e2, _⟩
    · exact (hc h0).elim
    · exact ⟨g', e1, hnew g' e2⟩
  have hny : n < ys.length := by rw [h2.2.1]; exact hn
  refine ⟨A', c', w', g1, hev, hn, ⟨by rw [List.length_set]; exact h2.1, by rw [List.length_set, List.length_set]; exact h2.2.1, fun j x' y' hx' hy' => ?_, ?_⟩, by rw [List.getElem?_set_self hny]⟩
  · by_cases hj : n = j
    · subst hj
      rw [List.getElem?_set_self hn] at hx'
      rw [List.getElem?_set_self hny] at hy'
      injection hx' with hx'
      injection hy' with hy'
      subst hx' hy'
      refine ⟨fun hc => (hc rfl).elim, ?_⟩
      rcases g3 with h | ⟨g', cur, e1, e2, e3, e4, e5, e6, e7⟩
      · exact .inl h
      · exact .inr ⟨g', cur, e1, hm2 g' (hnew g' e2), e3, e4, e5, e6, e7.loc fun b hb => ⟨⟨hAt2 b hb.1, hb.2⟩, rfl⟩⟩
    · rw [List.getElem?_set_ne hj] at hx' hy'
      obtain ⟨k3, k4⟩ := h2.2.2.1 _ _ _ hx' hy'
      refine ⟨fun _ => k3 (by simp), ?_⟩
      by_cases hc : y'.2 = 0
      · exact .inl ⟨List.eq_nil_of_length_eq_zero (by have := k4.lec; omega), hc⟩
      · have hd : y.2 ≠ 0 → y'.1 ≠ y.1 := fun h0 => h2.2.2.2 j n y' y (fun e => hj e.symm) hy' hy hc h0
        rcases k4 with ⟨_, h0⟩ | ⟨g, cur, e1, e2, e3, e4, e5, e6, e7⟩
        · exact (hc h0).elim
        · have hne : g ≠ gn := hoth y' x' g (.inr ⟨g, cur, e1, e2, e3, e4, e5, e6, e7⟩) hc e1 hd e3.lt
          refine .inr ⟨g, cur, e1, mvOwn_struck (by rw [e2]; exact hTl) (by rw [e2]; exact hE0), (hkeep g e3.lt hne).trans e3, e4, e5, e6, e7.loc fun b hb => ?_⟩
          have h5 := At.evo hTL hev hb.1
          exact ⟨⟨⟨hL _ h5.1.1, h5.1.2⟩, hb.2⟩, h5.2⟩
  · intro i j y1 y2 hij h1' h2' hc1 hc2
    have key : ∀ (j : Nat) (y2 : AC), n ≠ j → ys[j]? = some y2 → c' ≠ 0 → y2.2 ≠ 0 → A' ≠ y2.1 := fun j y2 hj hy2 hc hc2 e' => by
      obtain ⟨g', q1, q2⟩ := hA' hc
      have hjl : j < l.length := by rw [← h2.2.1]; exact (List.getElem?_eq_some_iff.1 hy2).1
      obtain ⟨_, k4⟩ := h2.2.2.1 j _ y2 (List.getElem?_eq_getElem hjl) hy2
      obtain ⟨g, q3, q4⟩ := hblk y2 _ k4 hc2
      have hne := hoth y2 _ g k4 hc2 q3 (fun h0 => h2.2.2.2 j n y2 y (fun e => hj e.symm) hy2 hy hc2 h0) q4
      rw [q1, q3] at e'
      injection e' with e'
      injection e' with e'
      omega
    by_cases hi : n = i
    · subst hi
      rw [List.getElem?_set_self hny] at h1'
      rw [List.getElem?_set_ne hij] at h2'
      injection h1' with h1'
      subst h1'
      exact key j y2 hij h2' hc1 hc2
    · rw [List.getElem?_set_ne hi] at h1'
      by_cases hj : n = j
      · subst hj
        rw [List.getElem?_set_self hny] at h2'
        injection h2' with h2'
        subst h2'
        exact fun e' => key i y1 hi h1' hc2 hc1 e'.symm
      · rw [List.getElem?_set_ne hj] at h2'
        exact h2.2.2.2 i j y1 y2 hij h1' h2' hc1 hc2
end
end Go.Proofs.Ytoccfdohlefifaa
