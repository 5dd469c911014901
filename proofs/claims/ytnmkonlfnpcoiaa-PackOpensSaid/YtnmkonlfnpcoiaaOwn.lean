import Derived.Test.YtnmkonlfnpcoiaaNest
namespace Go.Proofs.Ytnmkonlfnpcoiaa
open Go.RowKit
def RepV : Rep Value := ⟨1, Nat.one_pos, fun _ _ cs v => cs = [v] ∧ v.oneCell' = true, fun h => by rw [h.1]; rfl, fun h u hu => by rw [h.1] at hu; simp at hu; subst hu; exact h.2, fun _ h => h⟩
theorem RepV.flat : RepV.Flat := fun _ _ _ _ _ _ h => h
theorem RepV.cells {w : World} {S : Nat → Prop} : ∀ {cs vals : List Value}, RepL RepV w S cs vals → cs = vals ∧ ∀ v ∈ vals, v.oneCell' = true
  | cs, [], h => ⟨h, by simp⟩
  | cs, v :: l, h => by
    obtain ⟨⟨h1, h2⟩, h3⟩ := h
    obtain ⟨h4, h5⟩ := RepV.cells h3
    have h1 : cs.take 1 = [v] := h1
    have h4 : cs.drop 1 = l := h4
    refine ⟨?_, fun u hu => ?_⟩
    · rw [← List.take_append_drop 1 cs, h1, h4]; rfl
    · rcases List.mem_cons.1 hu with rfl | hu
      · exact h2
      · exact h5 u hu
theorem RepV.mk {w : World} {S : Nat → Prop} : ∀ {vals : List Value}, (∀ v ∈ vals, v.oneCell' = true) → RepL RepV w S vals vals
  | [], _ => rfl
  | v :: l, h => ⟨⟨rfl, h v (by simp)⟩, show RepL RepV w S l l from RepV.mk fun u hu => h u (by simp [hu])⟩
abbrev AC := Option Addr × Nat
def Dist (ys : List AC) : Prop := ∀ (i j : Nat) (y z : AC), i ≠ j → ys[i]? = some y → ys[j]? = some z → y.2 ≠ 0 → z.2 ≠ 0 → y.1 ≠ z.1
section
variable {α : Type}
def Els (own : Own) (labE : Nat) (L : List Nat) (w : World) (e2 : TypeId) (R : Rep α) (vals : List Value) (l : List (List α)) (ys : List AC) (h : Option Nat) : Prop :=
  vals.length = l.length ∧ ys.length = l.length ∧ (∀ (j : Nat) (x : List α) (y : AC), l[j]? = some x → ys[j]? = some y → (h ≠ some j → vals[j]? = some (.slice y.1 x.length y.2)) ∧ RwO own labE L w e2 R y.1 y.2 x) ∧ Dist ys
def Gn (own : Own) (lab labE : Nat) (L : List Nat) (w : World) (e e2 : TypeId) (R : Rep α) (A : Option Addr) (c : Nat) (l : List (List α)) (ys : List AC) (h : Option Nat) : Prop :=
  ∃ vals, RwO own lab [] w e RepV A c vals ∧ Els own labE L w e2 R vals l ys h
def RwN (own : Own) (lab labE : Nat) (L : List Nat) (w : World) (e e2 : TypeId) (R : Rep α) (A : Option Addr) (c : Nat) (l : List (List α)) : Prop := ∃ ys, Gn own lab labE L w e e2 R A c l ys none
def RwNa (own : Own) (lab labE : Nat) (L : List Nat) (w : World) (e e2 : TypeId) (R : Rep α) (A : Option Addr) (c : Nat) (l : List (List α)) (n : Nat) (y : AC) : Prop := ∃ ys, Gn own lab labE L w e e2 R A c l ys none ∧ ys[n]? = some y
def RwNh (own : Own) (lab labE : Nat) (L : List Nat) (w : World) (e e2 : TypeId) (R : Rep α) (A : Option Addr) (c : Nat) (l : List (List α)) (n : Nat) (z : AC) (r : List α) : Prop := n < l.length ∧ ∃ ys, Gn own lab labE L w e e2 R A c (l.set n r) ys (some n) ∧ ys[n]? = some z
variable {R : Rep α} {own own' : Own} {w w' : World} {lab labE lab2 lab3 : Nat} {L L2 L3 T : List Nat} {e e2 : TypeId} {A : Option Addr} {c n : Nat} {l : List (List α)} {ys : List AC} {h : Option Nat} {vals : List Value} {y z : AC} {r : List α}
theorem hits_mid {T L : List Nat} {a b : Nat} (h : hits T (a :: b :: L) = false) : hits T [a] = false ∧ hits T (b :: L) = false := by
  refine ⟨?_, (hits_cons h).2⟩
  cases h' : hits T [a] with
  | false => rfl
  | true =>
    obtain ⟨t, ht, hl⟩ := List.any_eq_true.1 h'
    obtain ⟨x, hx, hb⟩ := List.any_eq_true.1 hl
    have : hits T (a :: b :: L) = true := List.any_eq_true.2 ⟨t, ht, List.any_eq_true.2 ⟨x, by simp at hx ⊢; exact .inl hx, hb⟩⟩
    rw [h] at this; cases this
theorem Els.evo (hl : hits T (labE :: L) = false) (he : Evo T own own' w w') (hE : Els own labE L w e2 R vals l ys h) : Els own' labE L w' e2 R vals l ys h :=
  ⟨hE.1, hE.2.1, fun j x y h1 h2 => ⟨(hE.2.2.1 j x y h1 h2).1, (hE.2.2.1 j x y h1 h2).2.evo hl he⟩, hE.2.2.2⟩
theorem Gn.evo (hl : hits T (lab :: labE :: L) = false) (he : Evo T own own' w w') (hG : Gn own lab labE L w e e2 R A c l ys h) : Gn own' lab labE L w' e e2 R A c l ys h := by
  obtain ⟨vals, h1, h2⟩ := hG
  exact ⟨vals, h1.evo (hits_mid hl).1 he, h2.evo (hits_mid hl).2 he⟩
theorem RwN.evo (hl : hits T (lab :: labE :: L) = false) (he : Evo T own own' w w') (hG : RwN own lab labE L w e e2 R A c l) : RwN own' lab labE L w' e e2 R A c l := by
  obtain ⟨ys, h⟩ := hG; exact ⟨ys, h.evo hl he⟩
theorem RwNa.evo (hl : hits T (lab :: labE :: L) = false) (he : Evo T own own' w w') (hG : RwNa own lab labE L w e e2 R A c l n y) : RwNa own' lab labE L w' e e2 R A c l n y := by
  obtain ⟨ys, h, h2⟩ := hG; exact ⟨ys, h.evo hl he, h2⟩
theorem RwNh.evo (hl : hits T (lab :: labE :: L) = false) (he : Evo T own own' w w') (hG : RwNh own lab labE L w e e2 R A c l n z r) : RwNh own' lab labE L w' e e2 R A c l n z r := by
  obtain ⟨h0, ys, h, h2⟩ := hG; exact ⟨h0, ys, h.evo hl he, h2⟩
theorem RwN.nil_ : RwN own lab labE L w e e2 R none 0 [] := ⟨[], [], RwO.nil_, rfl, rfl, fun j x y h1 => by simp at h1, fun i j y z _ h1 => by simp at h1⟩
theorem RwN.forth_ {m : Nat → Nat} (hG : RwN own lab labE L w e e2 R A c l) : RwN (forth own m) (m lab) (m labE) (L.map m) w e e2 R A c l := by
  obtain ⟨ys, vals, h1, h2⟩ := hG
  exact ⟨ys, vals, h1.forth_, h2.1, h2.2.1, fun j x y h3 h4 => ⟨(h2.2.2.1 j x y h3 h4).1, (h2.2.2.1 j x y h3 h4).2.forth_⟩, h2.2.2.2⟩
theorem RwN.rl_ {mm : List (Nat × Nat)} (hG : RwN own lab labE L w e e2 R A c l) : RwN (rl mm own) (look mm lab) (look mm labE) (L.map (look mm)) w e e2 R A c l := hG.forth_ (m := look mm)
theorem RwN.back_ {m' : Nat → Nat} (hG : RwN own' lab labE L w' e e2 R A c l) (h0 : lab ≠ 0) (hE0 : labE ≠ 0) (hL : R.Flat ∨ 0 ∉ L) : RwN (back own own' w m') (m' lab) (m' labE) (L.map m') w' e e2 R A c l := by
  obtain ⟨ys, vals, h1, h2⟩ := hG
  exact ⟨ys, vals, h1.back_ h0 (.inl RepV.flat), h2.1, h2.2.1, fun j x y h3 h4 => ⟨(h2.2.2.1 j x y h3 h4).1, (h2.2.2.1 j x y h3 h4).2.back_ hE0 hL⟩, h2.2.2.2⟩
theorem RwN.more (hG : RwN own lab labE L w e e2 R A c l) (hL : ∀ x ∈ L, x ∈ L2) : RwN own lab labE L2 w e e2 R A c l := by
  obtain ⟨ys, vals, h1, h2⟩ := hG
  exact ⟨ys, vals, h1, h2.1, h2.2.1, fun j x y h3 h4 => ⟨(h2.2.2.1 j x y h3 h4).1, (h2.2.2.1 j x y h3 h4).2.more hL⟩, h2.2.2.2⟩
theorem RwN.lec (hG : RwN own lab labE L w e e2 R A c l) : l.length ≤ c := by
  obtain ⟨ys, vals, h1, h2⟩ := hG
  rw [← h2.1]; exact h1.lec
theorem RwN.repl {S : Nat → Prop} (hS : ∀ b, At own (labE :: L) w b → S b) : ∀ {l : List (List α)} {vals : List Value} {ys : List AC}, (vals.length = l.length ∧ ys.length = l.length ∧ ∀ (j : Nat) (x : List α) (y : AC), l[j]? = some x → ys[j]? = some y → vals[j]? = some (.slice y.1 x.length y.2) ∧ RwO own labE L w e2 R y.1 y.2 x) → RepL (Rep.sl R) w S vals l
  | [], vals, ys, h => List.eq_nil_of_length_eq_zero (by simpa using h.1)
  | x :: l, vals, ys, h => by
    obtain ⟨h1, h2, h3⟩ := h
    cases vals with
    | nil => simp at h1
    | cons v vals =>
      cases ys with
      | nil => simp at h2
      | cons y ys =>
        obtain ⟨g1, g2⟩ := h3 0 x y (by simp) (by simp)
        simp at g1
        refine ⟨⟨y.1, y.2, by subst g1; rfl, g2.lec, ?_⟩, ?_⟩
        · exact g2.rd.2.loc fun b hb => ⟨hS b hb, rfl⟩
        · show RepL (Rep.sl R) w S vals l
          exact RwN.repl hS (ys := ys) ⟨by simpa using h1, by simpa using h2, fun j x' y' h4 h5 => by
            have := h3 (j + 1) x' y' (by simpa using h4) (by simpa using h5)
            simpa using this⟩
theorem RwN.rw_ (hG : RwN own lab labE L w e e2 R A c l) (hne : lab ∉ labE :: L) : RwO own lab (labE :: L) w e (Rep.sl R) A c l := by
  obtain ⟨ys, vals, h1, h2⟩ := hG
  rcases h1 with ⟨rfl, rfl⟩ | ⟨g, cur, g1, g2, g3, g4, g5, g6, g7⟩
  · exact .inl ⟨List.eq_nil_of_length_eq_zero (by rw [← h2.1]; rfl), rfl⟩
  · have hc := (RepV.cells g7).1
    have hc : cur.toList.take (vals.length * 1) = vals := hc
    rw [h2.1] at hc
    refine .inr ⟨g, cur, g1, g2, g3, by rw [← h2.1]; exact g4, g5, g6, ?_⟩
    show RepL (Rep.sl R) w _ (cur.toList.take (l.length * 1)) l
    rw [hc]
    refine RwN.repl (e2 := e2) (fun b hb => ⟨hb, fun e' => ?_⟩) ⟨h2.1, h2.2.1, fun j x y h4 h5 => ⟨(h2.2.2.1 j x y h4 h5).1 (by simp), (h2.2.2.1 j x y h4 h5).2⟩⟩
    subst e'
    have := hb.1
    rw [g2] at this
    exact hne this
theorem RwN.rd (hG : RwN own lab labE L w e e2 R A c l) : RdO own (lab :: labE :: L) w (Rep.sl R) A c l := by
  obtain ⟨ys, vals, h1, h2⟩ := hG
  obtain ⟨cs, k1, k2⟩ := h1.rd.2
  have hc := (RepV.cells k1).1
  subst hc
  refine ⟨by rw [← h2.1]; exact h1.lec, cs, RwN.repl (e2 := e2) (fun b hb => ⟨List.mem_cons_of_mem _ hb.1, hb.2⟩) ⟨h2.1, h2.2.1, fun j x y h4 h5 => ⟨(h2.2.2.1 j x y h4 h5).1 (by simp), (h2.2.2.1 j x y h4 h5).2⟩⟩, fun hn => ?_⟩
  obtain ⟨b, off, e1, hb, hcell⟩ := k2 (by rw [h2.1]; exact hn)
  exact ⟨b, off, e1, ⟨by have := hb.1; simp at this; simp [this], hb.2⟩, hcell⟩
def Fct.rown (lab labE : Nat) (L : List Nat) (t : Nat) (e e2 : TypeId) (R : Rep α) (l : List (List α)) : Fct := Fct.mems (β := AC) (lab :: labE :: L) t (fun x => .slice x.1 l.length x.2) (fun x own w => RwN own lab labE L w e e2 R x.1 x.2 l) RwN.evo
def Fct.rownAt (lab labE : Nat) (L : List Nat) (e e2 : TypeId) (R : Rep α) (A : Option Addr) (c : Nat) (l : List (List α)) : Fct := Fct.heres (lab :: labE :: L) (fun own w => RwN own lab labE L w e e2 R A c l) RwN.evo
variable {P : Program} {a : Act} {d : Nat} {x u : Operand} {t ty : TypeId} {pos : String} {after : Array Edge} {guard : Option (Nat × Bool)} {A2 : Option Addr} {c2 : Nat} {bytes : Nat}
theorem or_litO {cs : Array Value} {o : Oper} {xl : List α} {A : Option Addr} {c : Nat} (lk0 : List (Nat × Value)) (hd : o.dst = some d) (hc : covers lk0 o = true) (hl : AllE a lk0)
    (h : (execOp (lk lk0) o).run P w = .ok (.value (.slice (some ⟨w.heap.size, 0, none⟩) 1 1)) (w.alloc (.cells cs e))) (hcs : cs = #[.slice A xl.length c]) (hX : RwO own labE L w e2 R A c xl) (hT : hits T (labE :: L) = false) :
    OpR P o a w (Post T own a w (Fct.rown lab labE L d e e2 R [xl]) o.dst) := by
  subst hcs
  unfold OpR Oper.wp
  rw [exec_lk hc hl, h]
  refine ⟨_, rfl, mvOwn w T lab own, Evo.ofAlloc T lab own w _, fun a' ha => ⟨(some ⟨w.heap.size, 0, none⟩, 1), ha.1 d hd, [(A, c)], [.slice A xl.length c], .inr ⟨w.heap.size, _, rfl, mvOwn_new (Nat.le_refl _), Blk.new w e _, Nat.le_refl _, (by decide : (1 : Nat) ≤ maxLen), rfl, ?_⟩, rfl, rfl, fun j x' y' hx' hy' => ?_, fun i j y z hij hy hz => ?_⟩⟩
  · exact RepV.mk (vals := [.slice A xl.length c]) (by simp [Value.oneCell'])
  · cases j with
    | zero =>
      simp at hx' hy'
      subst hx' hy'
      exact ⟨fun _ => rfl, hX.evo hT (Evo.ofAlloc T lab own w _)⟩
    | succ j => simp at hx'
  · have h1 := (List.getElem?_eq_some_iff.1 hy).1
    have h2 := (List.getElem?_eq_some_iff.1 hz).1
    simp at h1 h2
    omega
theorem run_append_out {m : List (List α)} {labX labB : Nat} {LX : List Nat} {e' : TypeId} (hT : TApp P t e (Rep.sl R).s bytes) (ho : RwN own lab labE L w e e2 R A c l) (hm : RwN own labB labX LX w e' e2 R A2 c2 m) (hb : (l.length + m.length) * bytes ≤ 140737488355328) (hb8 : 0 < bytes)
    (hT1 : lab ∈ T) (hT2 : labE ∈ T) (hT3 : labX ∈ T) (h01 : lab ≠ 0) (h02 : labE ≠ 0) (h03 : labX ≠ 0) (n1 : lab ≠ labE) (n2 : lab ≠ labX) (n3 : labE ≠ labX) (n4 : lab ≠ labB) (hTL3 : hits T L3 = false) (hL : ∀ z ∈ L, z ∈ L3) (hLX : ∀ z ∈ LX, z ∈ L3) :
    ∃ A' c' w' own', (Builtin.append_ #[t, t] ty #[.slice A l.length c, .slice A2 m.length c2]).run P w = .ok (.slice A' (l ++ m).length c') w' ∧ Evo T own own' w w' ∧ RwN own' lab2 lab3 L3 w' e e2 R A' c' (l ++ m) := by
  obtain ⟨ys, vals, h1, h2⟩ := ho
  obtain ⟨zs, valm, h3, h4⟩ := hm
  obtain ⟨g, hg, hgl⟩ : ∃ g, (∀ g', A = some ⟨g', 0, none⟩ → ¬ (vals = [] ∧ c = 0) → g' = g) ∧ (g < w.heap.size → own g = lab) := by
    rcases h1 with ⟨h0, h0'⟩ | ⟨g, cur, e1, e2, e3, _⟩
    · exact ⟨w.heap.size, fun _ _ hn => (hn ⟨h0, h0'⟩).elim, fun hc => (Nat.lt_irrefl _ hc).elim⟩
    · exact ⟨g, fun g' hg' _ => by rw [e1] at hg'; injection hg' with hg'; injection hg' with hg'; exact hg'.symm, fun _ => e2⟩
  obtain ⟨own2, hown2⟩ : ∃ own2 : Own, own2 = fun b => if b = g then 1 else own b + 2 := ⟨_, rfl⟩
  have o2 : ∀ b, b ≠ g → own2 b = own b + 2 := fun b hb => by rw [hown2]; exact if_neg hb
  have hrow : RwO own2 1 [] w e RepV A c vals := by
    by_cases h0 : vals = [] ∧ c = 0
    · exact .inl h0
    · rcases h1 with h | ⟨g', cur, e1, e2, e3, e4, e5, e6, e7⟩
      · exact (h0 h).elim
      · have := hg g' e1 h0
        subst this
        exact .inr ⟨g', cur, e1, by rw [hown2]; exact if_pos rfl, e3, e4, e5, e6, e7.flat RepV.flat _ _⟩
  have hne : ∀ b, b < w.heap.size → own b ≠ lab → b ≠ g := fun b hb hn e => by subst e; exact hn (hgl hb)
  have hrm : RdO own2 [labB + 2] w RepV A2 c2 valm := h3.rd.sub fun b hb => ⟨by
    have h5 : own b = labB := by have := hb.1; simpa using this
    rw [o2 b (hne b hb.2 (by rw [h5]; exact fun e => n4 e.symm)), h5]; simp, hb.2⟩
  have hlv : vals.length = l.length := h2.1
  have hlm : valm.length = m.length := h4.1
  obtain ⟨A', c', w', g1, g2, g3⟩ := run_append_rw (P := P) (ty := ty) (R := RepV) (T := [1]) (lab2 := 1) (L3 := []) hT hrow (by decide) hrm (by rw [hlv, hlm]; exact hb) hb8 (by simp) (.inl RepV.flat)
  rw [hlv, hlm, List.length_append, hlv, hlm, ← List.length_append] at g1
  have hkeep : ∀ b, b < w.heap.size → b ≠ g → w'.heap[b]? = w.heap[b]? := fun b hb hn => (g2.keep b hb (fun hm => by rw [o2 b hn] at hm; simp at hm)).2
  obtain ⟨own', hown'⟩ : ∃ own' : Own, own' = fun b => if b < w.heap.size ∧ (own b ∈ T → own b = 0) then own b else if b < w.heap.size ∧ own b ≠ lab then lab3 else lab2 := ⟨_, rfl⟩
  have hsame : ∀ b, b < w.heap.size → own b ∉ T → own' b = own b := fun b hb hn => by rw [hown']; exact if_pos ⟨hb, fun h => (hn h).elim⟩
  have hev : Evo T own own' w w' := ⟨g2.os, g2.tape, g2.output, g2.size, fun b hb hbT => ⟨by rw [hown']; exact if_pos ⟨hb, hbT⟩, hkeep b hb fun e' => by
    subst e'
    rw [hgl hb] at hbT
    exact h01 (hbT hT1)⟩⟩
  have hTL : hits T L = false := hits_sub hTL3 hL
  have hTLX : hits T LX = false := hits_sub hTL3 hLX
  have hel : ∀ (lb : Nat) (M : List Nat), lb ∈ T → lb ≠ 0 → lb ≠ lab → hits T M = false → (∀ z ∈ M, z ∈ L3) → ∀ (y : AC) (xl : List α), RwO own lb M w e2 R y.1 y.2 xl → RwO own' lab3 L3 w' e2 R y.1 y.2 xl := by
    intro lb M hlT hl0 hln hM hML y xl hr
    rcases hr with h | ⟨g', cur, e1, e2, e3, e4, e5, e6, e7⟩
    · exact .inl h
    · refine .inr ⟨g', cur, e1, ?_, (hkeep g' e3.lt (hne g' e3.lt (by rw [e2]; exact hln))).trans e3, e4, e5, e6, e7.loc fun b hb => ?_⟩
      · rw [hown']
        show (if g' < w.heap.size ∧ (own g' ∈ T → own g' = 0) then own g' else if g' < w.heap.size ∧ own g' ≠ lab then lab3 else lab2) = lab3
        rw [if_neg (fun h => hl0 (by rw [e2] at h; exact h.2 hlT)), if_pos ⟨e3.lt, by rw [e2]; exact hln⟩]
      · have h5 := At.evo hM hev hb.1
        exact ⟨⟨⟨hML _ h5.1.1, h5.1.2⟩, hb.2⟩, h5.2⟩
  have hblk : ∀ (lb : Nat) (M : List Nat) (y : AC) (xl : List α), RwO own lb M w e2 R y.1 y.2 xl → y.2 ≠ 0 → ∃ g', y.1 = some ⟨g', 0, none⟩ ∧ own g' = lb := by
    intro lb M y xl hr hc
    rcases hr with ⟨_, h0⟩ | ⟨g', cur, e1, e2, _⟩
    · exact (hc h0).elim
    · exact ⟨g', e1, e2⟩
  have hcross : ∀ (i j : Nat) (y z : AC), ys[i]? = some y → zs[j]? = some z → y.2 ≠ 0 → z.2 ≠ 0 → y.1 ≠ z.1 := by
    intro i j y z hy hz hc1 hc2 e'
    have hil : i < l.length := by rw [← h2.2.1]; exact (List.getElem?_eq_some_iff.1 hy).1
    have hjl : j < m.length := by rw [← h4.2.1]; exact (List.getElem?_eq_some_iff.1 hz).1
    obtain ⟨ga, q1, q2⟩ := hblk labE L y _ (h2.2.2.1 i _ y (List.getElem?_eq_getElem hil) hy).2 hc1
    obtain ⟨gb, q3, q4⟩ := hblk labX LX z _ (h4.2.2.1 j _ z (List.getElem?_eq_getElem hjl) hz).2 hc2
    rw [q1, q3] at e'
    injection e' with e'
    injection e' with e'
    subst e'
    exact n3 (q2.symm.trans q4)
  refine ⟨A', c', w', own', g1, hev, ys ++ zs, vals ++ valm, ?_, by rw [List.length_append, List.length_append, hlv, hlm], by rw [List.length_append, List.length_append, h2.2.1, h4.2.1], fun j x' y' hx' hy' => ?_, ?_⟩
  · rcases g3 with h | ⟨g', cur, e1, e2, e3, e4, e5, e6, e7⟩
    · exact .inl h
    · refine .inr ⟨g', cur, e1, ?_, e3, e4, e5, e6, e7.flat RepV.flat _ _⟩
      rw [hown']
      show (if g' < w.heap.size ∧ (own g' ∈ T → own g' = 0) then own g' else if g' < w.heap.size ∧ own g' ≠ lab then lab3 else lab2) = lab2
      by_cases hlt : g' < w.heap.size
      · have hgg : g' = g := by
          by_cases hn : g' = g
          · exact hn
          · rw [mvOwn_same hlt (by rw [o2 g' hn]; simp), o2 g' hn] at e2; omega
        subst hgg
        rw [if_neg (fun h => h01 (by rw [hgl hlt] at h; exact h.2 hT1)), if_neg (fun h => h.2 (hgl hlt))]
      · rw [if_neg (fun h => hlt h.1), if_neg (fun h => hlt h.1)]
  · rw [List.getElem?_append] at hx' hy'
    rw [List.getElem?_append]
    rw [h2.2.1] at hy'
    rw [hlv]
    split at hx'
    · rename_i hjl
      rw [if_pos hjl] at hy'
      rw [if_pos hjl]
      obtain ⟨k1, k2⟩ := h2.2.2.1 j x' y' hx' hy'
      exact ⟨k1, hel labE L hT2 h02 (fun e => n1 e.symm) hTL hL y' x' k2⟩
    · rename_i hjl
      rw [if_neg hjl] at hy'
      rw [if_neg hjl]
      obtain ⟨k1, k2⟩ := h4.2.2.1 _ x' y' hx' hy'
      exact ⟨fun _ => k1 (by simp), hel labX LX hT3 h03 (fun e => n2 e.symm) hTLX hLX y' x' k2⟩
  · intro i j y z hij hy hz hc1 hc2
    rw [List.getElem?_append] at hy hz
    split at hy
    · rename_i hi
      split at hz
      · exact h2.2.2.2 i j y z hij hy hz hc1 hc2
      · exact hcross _ _ y z hy hz hc1 hc2
    · rename_i hi
      split at hz
      · exact fun e' => hcross _ _ z y hz hy hc2 hc1 e'.symm
      · exact h4.2.2.2 _ _ y z (by omega) hy hz hc1 hc2
theorem or_appendO {m r : List (List α)} {labX labB : Nat} {LX : List Nat} {e' : TypeId} (hT : TApp P t e (Rep.sl R).s bytes) (hx : a.eval x = .slice A l.length c) (ho : RwN own lab labE L w e e2 R A c l) (hu : a.eval u = .slice A2 m.length c2) (hm : RwN own labB labX LX w e' e2 R A2 c2 m) (hl : app l m = some r) (hb8 : 0 < bytes) (hb : bytes ≤ 140000)
    (hT1 : lab ∈ T) (hT2 : labE ∈ T) (hT3 : labX ∈ T) (h01 : lab ≠ 0) (h02 : labE ≠ 0) (h03 : labX ≠ 0) (n1 : lab ≠ labE) (n2 : lab ≠ labX) (n3 : labE ≠ labX) (n4 : lab ≠ labB) (hTL3 : hits T L3 = false) (hL : ∀ z ∈ L, z ∈ L3) (hLX : ∀ z ∈ LX, z ∈ L3) :
    OpR P ⟨some d, .call ⟨.builtin .append, #[x, u], #[t, t]⟩, ty, pos, after, guard⟩ a w (Post T own a w (Fct.rown lab2 lab3 L3 d e e2 R r) (some d)) := by
  obtain ⟨hlen, rfl⟩ := app_some hl
  obtain ⟨A', c', w', own', hrun, hev, hO⟩ := run_append_out (P := P) (ty := ty) (lab2 := lab2) (lab3 := lab3) (L3 := L3) hT ho hm (by
    have : (l.length + m.length) * bytes ≤ capB * 140000 := Nat.mul_le_mul hlen hb
    simp only [capB] at this; omega) hb8 hT1 hT2 hT3 h01 h02 h03 n1 n2 n3 n4 hTL3 hL hLX
  unfold OpR Oper.wp
  have hr' : (execOp a.eval ⟨some d, .call ⟨.builtin .append, #[x, u], #[t, t]⟩, ty, pos, after, guard⟩).run P w = .ok (.value (.slice A' (l ++ m).length c')) w' := by
    simp only [execOp, resolve, invoke, builtin, List.map_toArray, List.map_cons, List.map_nil, hx, hu]
    simp only [Sem.run_bind, Sem.run_pure, Result.andThen_ok, hrun]
  rw [hr']
  exact ⟨_, rfl, _, hev, fun a' ha => ⟨(A', c'), ha.1 d rfl, hO⟩⟩
end
end Go.Proofs.Ytnmkonlfnpcoiaa
