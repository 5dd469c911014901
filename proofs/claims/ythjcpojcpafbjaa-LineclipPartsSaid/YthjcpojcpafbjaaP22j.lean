/-
  Chapter 22, plainly: the document's answer to what lies within; the parts of any row. No program in sight.
-/
import Derived.Test.YthjcpojcpafbjaaP22i
namespace Go.Proofs.Ythjcpojcpafbjaa.Pl

def sg (n : Int) : Int := if 0 < n then 1 else if n < 0 then -1 else 0
theorem Sign_eq (n : Int) : ref01_Sign n = some (sg n) := by
  unfold ref01_Sign sg
  by_cases h1 : 0 < n
  · rw [decide_eq_true h1, if_pos rfl, if_pos h1]
  · by_cases h2 : n < 0
    · rw [decide_eq_false h1, decide_eq_true h2, if_neg h1, if_pos h2]; rfl
    · rw [decide_eq_false h1, decide_eq_false h2, if_neg h1, if_neg h2]; rfl
def cand (p q x : Int) : List (Int × Int) := if p = q then [] else [((x - p) * sg (q - p), (q - p) * sg (q - p))]
def Cd (p q : Pt) (b : Bx) : List (Int × Int) := [(0, 1), (1, 1)] ++ (cand p.1 q.1 b.1.1 ++ cand p.2 q.2 b.1.2) ++ (cand p.1 q.1 b.2.1 ++ cand p.2 q.2 b.2.2)
theorem cand_W {p q x : Int} (hp : -16777216 ≤ p ∧ p ≤ 16777216) (hq : -16777216 ≤ q ∧ q ≤ 16777216) (hx : -16777216 ≤ x ∧ x ≤ 16777216) : ∀ u ∈ cand p q x, W u.1 ∧ 0 < u.2 ∧ u.2 ≤ 33554432 := by
  intro u hu
  unfold cand at hu
  split at hu
  · simp at hu
  · rename_i hne
    simp only [List.mem_singleton] at hu
    subst hu
    unfold sg W
    simp only
    split
    · omega
    · split <;> omega
theorem cand_len (p q x : Int) : (cand p q x).length ≤ 1 := by unfold cand; split <;> simp
theorem Cd_W {p q : Pt} {b : Bx} (hp : May p) (hq : May q) (hb : Rt b) : ∀ u ∈ Cd p q b, W u.1 ∧ 0 < u.2 ∧ u.2 ≤ 33554432 := by
  intro u hu
  obtain ⟨h1, h2, _⟩ := hb
  unfold May at hp hq h1 h2
  unfold Cd at hu
  simp only [List.mem_append, List.mem_cons, List.not_mem_nil, or_false] at hu
  rcases hu with ((rfl | rfl) | (h | h)) | (h | h)
  · exact ⟨⟨by decide, by decide⟩, by decide, by decide⟩
  · exact ⟨⟨by decide, by decide⟩, by decide, by decide⟩
  · exact cand_W (by omega) (by omega) (by omega) u h
  · exact cand_W (by omega) (by omega) (by omega) u h
  · exact cand_W (by omega) (by omega) (by omega) u h
  · exact cand_W (by omega) (by omega) (by omega) u h
/-- A middle of two places that is strictly within. -/
def Gd (p q : Pt) (b : Bx) (u v : Int × Int) : Prop := (0 ≤ u.1 ∧ v.1 ≤ v.2 ∧ u.1 * v.2 < v.1 * u.2) ∧ (Cn (p.1 - b.1.1, q.1 - p.1) (u.1 * v.2 + v.1 * u.2) (2 * (u.2 * v.2)) ∧ Cn (b.2.1 - p.1, p.1 - q.1) (u.1 * v.2 + v.1 * u.2) (2 * (u.2 * v.2))) ∧ (Cn (p.2 - b.1.2, q.2 - p.2) (u.1 * v.2 + v.1 * u.2) (2 * (u.2 * v.2)) ∧ Cn (b.2.2 - p.2, p.2 - q.2) (u.1 * v.2 + v.1 * u.2) (2 * (u.2 * v.2)))
theorem ix_map {α β : Type} {l : List α} {f : α → β} {i : Nat} (d : α) (h : i < l.length) : ix (l.map f) (i : Int) = some (f (l.getD i d)) := by
  rw [ix_nat, List.getElem?_map, List.getD_eq_getElem?_getD, List.getElem?_eq_getElem h]; rfl
section
variable {p q : Pt} {b : Bx} {L : List (Int × Int)}
theorem inner_eq (hp : May p) (hq : May q) (hb : Rt b) (hL : ∀ u ∈ L, W u.1 ∧ 0 < u.2 ∧ u.2 ≤ 33554432) (hn : L.length ≤ 1000) {i : Nat} (hi : i < L.length) :
    ∃ r, ref22_inside_l5 p q b (L.map (·.1)) (L.map (·.2)) (i : Int) 0 = some r ∧ ((r = .inr true ∧ ∃ v ∈ L, Gd p q b (L.getD i (0, 0)) v) ∨ (r = .inl ((i + 1 : Nat) : Int) ∧ ∀ v ∈ L, ¬ Gd p q b (L.getD i (0, 0)) v)) := by
  unfold ref22_inside_l5
  refine loopO_rule (body := fun s => ref22_inside_b5 p q b (L.map (·.1)) (L.map (·.2)) (i : Int) s) (fun s => ∃ k : Nat, s = k ∧ k ≤ L.length ∧ ∀ v ∈ L.take k, ¬ Gd p q b (L.getD i (0, 0)) v) (fun s => L.length - s.toNat) _ ?_ (s := 0) ⟨0, rfl, by omega, by simp⟩
  rintro _ ⟨k, rfl, hk, hno⟩
  unfold ref22_inside_b5 ref22_inside_k6
  have hml : (L.map (·.1)).length = L.length := List.length_map ..
  by_cases hlt : k < L.length
  · have ek : ad (k : Int) 1 = ((k + 1 : Nat) : Int) := ad_one (by omega)
    have hms : L.length - ((k + 1 : Nat) : Int).toNat < L.length - (k : Int).toNat := by simp only [Int.toNat_natCast]; omega
    have hd : decide ((k : Int) < ((L.map (·.1)).length : Int)) = true := by rw [hml]; exact dlt hlt
    simp only [hd, if_true, ix_map (0, 0) hi, ix_map (0, 0) hlt, bind_some', ek]
    have hu := hL _ (getD_mem (d := (0, 0)) hi)
    have hv := hL _ (getD_mem (d := (0, 0)) hlt)
    have hvm : L.getD k (0, 0) ∈ L := getD_mem hlt
    have hnext : ¬ Gd p q b (L.getD i (0, 0)) (L.getD k (0, 0)) → ∀ v ∈ L.take (k + 1), ¬ Gd p q b (L.getD i (0, 0)) v := fun h v hv => by
      rw [snoc_take (0, 0) hlt] at hv
      rcases List.mem_append.1 hv with h2 | h2
      · exact hno v h2
      · rw [List.mem_singleton.1 h2]; exact h
    generalize L.getD i (0, 0) = u at hu hnext hno ⊢
    generalize L.getD k (0, 0) = v at hv hnext hvm ⊢
    obtain ⟨hu1, hu2⟩ := hu
    obtain ⟨hv1, hv2⟩ := hv
    have skip : ¬ Gd p q b u v → (∃ s', (some (.inl ((k + 1 : Nat) : Int)) : Option (Int ⊕ (Int ⊕ Bool))) = some (.inl s') ∧ (∃ k : Nat, s' = k ∧ k ≤ L.length ∧ ∀ v ∈ L.take k, ¬ Gd p q b u v) ∧ L.length - s'.toNat < L.length - (k : Int).toNat) := fun h => ⟨_, rfl, ⟨k + 1, rfl, by omega, hnext h⟩, hms⟩
    by_cases h1 : u.1 < 0
    · rw [decide_eq_true h1]
      simp only [Bool.not_true, gd_false, bind_some', Bool.true_or, if_true]
      exact .inl (skip fun h => by have := h.1.1; omega)
    · rw [decide_eq_false h1]
      simp only [Bool.not_false, gd_true, bind_some', Bool.false_or]
      by_cases h2 : v.2 < v.1
      · rw [decide_eq_true h2]
        simp only [Bool.not_true, gd_false, bind_some', Bool.true_or, if_true]
        exact .inl (skip fun h => by have := h.1.2.1; omega)
      · rw [decide_eq_false h2]
        have m1 : ml v.1 u.2 = v.1 * u.2 := hv1.mul (show W u.2 by unfold W; omega)
        have m2 : ml u.1 v.2 = u.1 * v.2 := hu1.mul (show W v.2 by unfold W; omega)
        simp only [Bool.not_false, gd_true, bind_some', Bool.false_or, m1, m2]
        by_cases h3 : v.1 * u.2 ≤ u.1 * v.2
        · rw [decide_eq_true h3]
          simp only [if_true]
          exact .inl (skip fun h => by have := h.1.2.2; omega)
        · rw [decide_eq_false h3]
          simp only [Bool.false_eq_true, if_false]
          obtain ⟨hb1, hb2, _⟩ := hb
          unfold May at hp hq hb1 hb2
          rw [strict_eq (p := p.1) (q := q.1) (low := b.1.1) (high := b.2.1) (by omega) (by omega) (by omega) (by omega) hu1 hu2 hv1 hv2, bind_some']
          by_cases h4 : Cn (p.1 - b.1.1, q.1 - p.1) (u.1 * v.2 + v.1 * u.2) (2 * (u.2 * v.2)) ∧ Cn (b.2.1 - p.1, p.1 - q.1) (u.1 * v.2 + v.1 * u.2) (2 * (u.2 * v.2))
          · rw [decide_eq_true h4]
            simp only [gd_true, bind_some', Bool.true_and]
            rw [strict_eq (p := p.2) (q := q.2) (low := b.1.2) (high := b.2.2) (by omega) (by omega) (by omega) (by omega) hu1 hu2 hv1 hv2, bind_some']
            by_cases h5 : Cn (p.2 - b.1.2, q.2 - p.2) (u.1 * v.2 + v.1 * u.2) (2 * (u.2 * v.2)) ∧ Cn (b.2.2 - p.2, p.2 - q.2) (u.1 * v.2 + v.1 * u.2) (2 * (u.2 * v.2))
            · rw [decide_eq_true h5]
              simp only [if_true]
              exact .inr ⟨_, rfl, .inl ⟨rfl, v, hvm, ⟨by omega, by omega, by omega⟩, h4, h5⟩⟩
            · rw [decide_eq_false h5]
              simp only [Bool.false_eq_true, if_false]
              exact .inl (skip fun h => h5 h.2.2)
          · rw [decide_eq_false h4]
            simp only [gd_false, bind_some', Bool.false_and, Bool.false_eq_true, if_false]
            exact .inl (skip fun h => h4 h.2.1)
  · have hd : decide ((k : Int) < ((L.map (·.1)).length : Int)) = false := by rw [hml]; exact dnlt hlt
    have ei : ad (i : Int) 1 = ((i + 1 : Nat) : Int) := ad_one (by omega)
    simp only [hd, Bool.false_eq_true, if_false, ei]
    rw [List.take_of_length_le (by omega)] at hno
    exact .inr ⟨_, rfl, .inr ⟨rfl, hno⟩⟩
theorem outer_eq (hp : May p) (hq : May q) (hb : Rt b) (hL : ∀ u ∈ L, W u.1 ∧ 0 < u.2 ∧ u.2 ≤ 33554432) (hn : L.length ≤ 1000) :
    ∃ r, ref22_inside_l4 p q b (L.map (·.1)) (L.map (·.2)) 0 = some r ∧ (r = true ↔ ∃ u ∈ L, ∃ v ∈ L, Gd p q b u v) := by
  unfold ref22_inside_l4
  refine loopO_rule (body := fun s => ref22_inside_b4 p q b (L.map (·.1)) (L.map (·.2)) s) (fun s => ∃ k : Nat, s = k ∧ k ≤ L.length ∧ ∀ u ∈ L.take k, ∀ v ∈ L, ¬ Gd p q b u v) (fun s => L.length - s.toNat) _ ?_ (s := 0) ⟨0, rfl, by omega, by simp⟩
  rintro _ ⟨k, rfl, hk, hno⟩
  unfold ref22_inside_b4
  have hml : (L.map (·.1)).length = L.length := List.length_map ..
  by_cases hlt : k < L.length
  · have hms : L.length - ((k + 1 : Nat) : Int).toNat < L.length - (k : Int).toNat := by simp only [Int.toNat_natCast]; omega
    have hd : decide ((k : Int) < ((L.map (·.1)).length : Int)) = true := by rw [hml]; exact dlt hlt
    simp only [hd, if_true]
    obtain ⟨r, hr, (⟨rfl, v, hv, hg⟩ | ⟨rfl, hg⟩)⟩ := inner_eq hp hq hb hL hn hlt
    · exact .inr ⟨true, hr, ⟨fun _ => ⟨_, getD_mem hlt, v, hv, hg⟩, fun _ => rfl⟩⟩
    · refine .inl ⟨_, hr, ⟨k + 1, rfl, by omega, fun u hu => ?_⟩, hms⟩
      rw [snoc_take (0, 0) hlt] at hu
      rcases List.mem_append.1 hu with h2 | h2
      · exact hno u h2
      · rw [List.mem_singleton.1 h2]; exact hg
  · have hd : decide ((k : Int) < ((L.map (·.1)).length : Int)) = false := by rw [hml]; exact dnlt hlt
    simp only [hd, Bool.false_eq_true, if_false]
    rw [List.take_of_length_le (by omega)] at hno
    refine .inr ⟨false, rfl, ?_⟩
    simp only [Bool.false_eq_true, false_iff]
    rintro ⟨u, hu, v, hv, h⟩
    exact hno u hu v hv h
/-- One round of the places. -/
theorem round_eq {N D : List Int} {x y : Int} {k : Nat} (hp : May p) (hq : May q) (hx : -16777216 ≤ x ∧ x ≤ 16777216) (hy : -16777216 ≤ y ∧ y ≤ 16777216) (hk : k < 2) (hN : N.length ≤ 100) (hD : D.length ≤ 100) (ex : ix [b.1.1, b.2.1] (k : Int) = some x) (ey : ix [b.1.2, b.2.2] (k : Int) = some y) :
    ref22_inside_b1 p q b N D (k : Int) = some (.inl (N ++ (cand p.1 q.1 x ++ cand p.2 q.2 y).map (·.1), D ++ (cand p.1 q.1 x ++ cand p.2 q.2 y).map (·.2), ((k + 1 : Nat) : Int))) := by
  unfold May at hp hq
  have ek : ad (k : Int) 1 = ((k + 1 : Nat) : Int) := ad_one (by omega)
  have hsg : ∀ n : Int, -1 ≤ sg n ∧ sg n ≤ 1 := fun n => by unfold sg; split <;> (try split) <;> omega
  have hm : ∀ a n : Int, -33554432 ≤ a ∧ a ≤ 33554432 → ml a (sg n) = a * sg n := fun a n ha => by
    have := abs_mul (A := 33554432) (B := 1) ha (hsg n)
    exact ml_in (by omega)
  have hd : decide ((k : Int) < 2) = true := by simp only [decide_eq_true_eq]; omega
  have e1 : sb q.1 p.1 = q.1 - p.1 := sb_in (by omega)
  have e2 : sb q.2 p.2 = q.2 - p.2 := sb_in (by omega)
  have e3 : sb x p.1 = x - p.1 := sb_in (by omega)
  have e4 : sb y p.2 = y - p.2 := sb_in (by omega)
  unfold ref22_inside_b1 ref22_inside_k3 ref22_inside_k2
  simp only [hd, if_true, ex, ey, bind_some', Sign_eq, e1, e2, e3, e4, hm _ _ (show -33554432 ≤ q.1 - p.1 ∧ q.1 - p.1 ≤ 33554432 by omega), hm _ _ (show -33554432 ≤ q.2 - p.2 ∧ q.2 - p.2 ≤ 33554432 by omega), hm _ _ (show -33554432 ≤ x - p.1 ∧ x - p.1 ≤ 33554432 by omega), hm _ _ (show -33554432 ≤ y - p.2 ∧ y - p.2 ≤ 33554432 by omega), ek]
  unfold cand
  by_cases h1 : p.1 = q.1
  · by_cases h2 : p.2 = q.2
    · rw [decide_eq_true h1, decide_eq_true h2, if_pos h1, if_pos h2]
      simp
    · rw [decide_eq_true h1, decide_eq_false h2, if_pos h1, if_neg h2]
      simp only [Bool.not_true, Bool.not_false, Bool.false_eq_true, if_false, if_true]
      rw [app_le (by rw [List.length_singleton]; omega), bind_some', app_le (by rw [List.length_singleton]; omega), bind_some']
      rfl
  · by_cases h2 : p.2 = q.2
    · rw [decide_eq_false h1, decide_eq_true h2, if_neg h1, if_pos h2]
      simp only [Bool.not_true, Bool.not_false, Bool.false_eq_true, if_false, if_true]
      rw [app_le (by rw [List.length_singleton]; omega), bind_some', app_le (by rw [List.length_singleton]; omega), bind_some']
      rfl
    · rw [decide_eq_false h1, decide_eq_false h2, if_neg h1, if_neg h2]
      simp only [Bool.not_false, if_true]
      rw [app_le (by rw [List.length_singleton]; omega), bind_some', app_le (by rw [List.length_singleton]; omega), bind_some', app_le (by rw [List.length_append, List.length_singleton, List.length_singleton]; omega), bind_some', app_le (by rw [List.length_append, List.length_singleton, List.length_singleton]; omega), bind_some', List.append_assoc, List.append_assoc]
      rfl
end
theorem refInside_eq (p q : Pt) (b : Bx) (hp : May p) (hq : May q) (hb : Rt b) : ∃ r, ref22_inside p q b = some r ∧ (r = true ↔ ∃ u ∈ Cd p q b, ∃ v ∈ Cd p q b, Gd p q b u v) := by
  have hCW := Cd_W hp hq hb
  have hl : (Cd p q b).length ≤ 1000 := by
    unfold Cd
    simp only [List.length_append, List.length_cons, List.length_nil]
    have := cand_len p.1 q.1 b.1.1
    have := cand_len p.2 q.2 b.1.2
    have := cand_len p.1 q.1 b.2.1
    have := cand_len p.2 q.2 b.2.2
    omega
  obtain ⟨r, hr, hri⟩ := outer_eq hp hq hb hCW hl
  refine ⟨r, ?_, hri⟩
  obtain ⟨hb1, hb2, _⟩ := hb
  have hb1' := hb1
  have hb2' := hb2
  unfold May at hb1' hb2'
  unfold ref22_inside ref22_inside_l1
  have r0 := round_eq (p := p) (q := q) (b := b) (N := [0, 1]) (D := [1, 1]) (x := b.1.1) (y := b.1.2) (k := 0) hp hq (by omega) (by omega) (by omega) (by simp) (by simp) rfl rfl
  rw [loopO_inl (s' := ([0, 1] ++ (cand p.1 q.1 b.1.1 ++ cand p.2 q.2 b.1.2).map (·.1), [1, 1] ++ (cand p.1 q.1 b.1.1 ++ cand p.2 q.2 b.1.2).map (·.2), 1)) (by exact r0)]
  have c1 := cand_len p.1 q.1 b.1.1
  have c2 := cand_len p.2 q.2 b.1.2
  have r1 := round_eq (p := p) (q := q) (b := b) (N := [0, 1] ++ (cand p.1 q.1 b.1.1 ++ cand p.2 q.2 b.1.2).map (·.1)) (D := [1, 1] ++ (cand p.1 q.1 b.1.1 ++ cand p.2 q.2 b.1.2).map (·.2)) (x := b.2.1) (y := b.2.2) (k := 1) hp hq (by omega) (by omega) (by omega) (by simp only [List.length_append, List.length_map, List.length_cons, List.length_nil]; omega) (by simp only [List.length_append, List.length_map, List.length_cons, List.length_nil]; omega) rfl rfl
  rw [loopO_inl (s' := (([0, 1] ++ (cand p.1 q.1 b.1.1 ++ cand p.2 q.2 b.1.2).map (·.1)) ++ (cand p.1 q.1 b.2.1 ++ cand p.2 q.2 b.2.2).map (·.1), ([1, 1] ++ (cand p.1 q.1 b.1.1 ++ cand p.2 q.2 b.1.2).map (·.2)) ++ (cand p.1 q.1 b.2.1 ++ cand p.2 q.2 b.2.2).map (·.2), 2)) (by exact r1)]
  refine loopO_inr ?_
  unfold ref22_inside_b1
  have e1 : (([0, 1] ++ (cand p.1 q.1 b.1.1 ++ cand p.2 q.2 b.1.2).map (·.1)) ++ (cand p.1 q.1 b.2.1 ++ cand p.2 q.2 b.2.2).map (·.1)) = (Cd p q b).map (·.1) := by unfold Cd; simp
  have e2 : (([1, 1] ++ (cand p.1 q.1 b.1.1 ++ cand p.2 q.2 b.1.2).map (·.2)) ++ (cand p.1 q.1 b.2.1 ++ cand p.2 q.2 b.2.2).map (·.2)) = (Cd p q b).map (·.2) := by unfold Cd; simp
  simp only [show decide ((2 : Int) < 2) = false from rfl, Bool.false_eq_true, if_false, e1, e2, hr]
  rfl
end Go.Proofs.Ythjcpojcpafbjaa.Pl
