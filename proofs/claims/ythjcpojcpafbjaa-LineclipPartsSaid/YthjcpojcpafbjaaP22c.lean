/-
  Chapter 22, plainly: the program's parts; the example; rows put together. No program in sight.
-/
import Derived.Test.YthjcpojcpafbjaaP22b
namespace Go.Proofs.Ythjcpojcpafbjaa.Pl

theorem sh_eq (l : List Pt) (b : Bx) (i : Nat) : lineclip_Shown (l.getD (i - 1) (0, 0)) (l.getD i (0, 0)) b = some (sh l b i) := Shown_eq _ _ _
theorem prt_more {l : List Pt} {b : Bx} {out : List (List Pt)} {f i : Nat} (h : prt l b i = (out ++ [(l.take i).drop f], true)) (hf : f < i) (hi : i < l.length) (hs : sh l b i = true) : prt l b (i + 1) = (out ++ [(l.take (i + 1)).drop f], true) := by
  have h1 : (prt l b i).1 = out ++ [(l.take i).drop f] := by rw [h]
  have h2 : (prt l b i).2 = true := by rw [h]
  rw [prt_succ (by omega), if_pos hs, if_pos h2, h1, List.length_append, List.length_singleton, Nat.add_sub_cancel, getD_append_right (Nat.le_refl _), Nat.sub_self]
  rw [List.set_append_right _ _ (Nat.le_refl _), Nat.sub_self, snoc_take (0, 0) hi, List.drop_append_of_le_length (by rw [List.length_take]; omega)]
  rfl
theorem prt_begin {l : List Pt} {b : Bx} {i : Nat} (h0 : 0 < i) (hi : i < l.length) (hs : sh l b i = true) (hg : (prt l b i).2 = false) : prt l b (i + 1) = ((prt l b i).1 ++ [(l.take (i + 1)).drop (i - 1)], true) := by
  rw [prt_succ h0, if_pos hs, if_neg (by rw [hg]; simp)]
  have e2 := snoc_take (l := l) (k := i - 1) (0, 0) (by omega)
  rw [show i - 1 + 1 = i by omega] at e2
  rw [snoc_take (0, 0) hi, e2, List.append_assoc, List.drop_left' (by rw [List.length_take]; omega)]
  rfl
theorem next_eq (l : List Pt) (b : Bx) (i : Nat) : ((gd (decide ((i : Int) < (l.length : Int))) (ix l ((i - 1 : Nat) : Int)) (0, 0)).bind fun x => (gd (decide ((i : Int) < (l.length : Int))) (ix l (i : Int)) (0, 0)).bind fun y => (gd (decide ((i : Int) < (l.length : Int))) (lineclip_Shown x y b) false).bind fun r => (some ((decide ((i : Int) < (l.length : Int))) && r))) = some (decide (i < l.length) && sh l b i) := by
  by_cases h : i < l.length
  · simp only [dlt h, gd_true, ix_getD (0, 0) h, ix_getD (0, 0) (show i - 1 < l.length by omega), bind_some', sh_eq, decide_eq_true h]
  · simp only [dnlt h, gd_false, bind_some', decide_eq_false h, Bool.false_and]
theorem next_at (l : List Pt) (b : Bx) (i : Nat) : ∃ x y r, gd (decide ((i : Int) < (l.length : Int))) (ix l ((i - 1 : Nat) : Int)) (0, 0) = some x ∧ gd (decide ((i : Int) < (l.length : Int))) (ix l (i : Int)) (0, 0) = some y ∧ gd (decide ((i : Int) < (l.length : Int))) (lineclip_Shown x y b) false = some r ∧ ((decide ((i : Int) < (l.length : Int))) && r) = (decide (i < l.length) && sh l b i) := by
  obtain ⟨x, hx, h⟩ := obind (next_eq l b i)
  obtain ⟨y, hy, h⟩ := obind h
  obtain ⟨r, hr, h⟩ := obind h
  exact ⟨x, y, r, hx, hy, hr, by injection h⟩
theorem Parts_l1_eq (l : List Pt) (b : Bx) (hn : l.length ≤ 1000000) (h1 : 1 ≤ l.length) : lineclip_Parts_l1 l b (.inl ([], 1)) = some (parts l b) := by
  unfold lineclip_Parts_l1
  have key := loopO_rule (body := Sum.elim (fun s => lineclip_Parts_b1_0 l b s.1 s.2) (fun s => lineclip_Parts_b1_1 l b s.1 s.2.1 s.2.2))
    (fun s => match s with
      | .inl (out, at_) => ∃ i : Nat, at_ = i ∧ 1 ≤ i ∧ i ≤ l.length ∧ (prt l b i).1 = out ∧ ((prt l b i).2 = true → i = l.length ∨ sh l b i = false)
      | .inr (out, from_, at_) => ∃ f i : Nat, from_ = f ∧ at_ = i ∧ f < i ∧ i < l.length ∧ prt l b (i + 1) = (out ++ [(l.take (i + 1)).drop f], true))
    (fun s => match s with
      | .inl (_, at_) => l.length - at_.toNat
      | .inr (_, _, at_) => l.length - at_.toNat) (fun r => r = parts l b) ?_ (s := .inl ([], 1)) ⟨1, rfl, by omega, h1, rfl, fun h => by simp [prt_one] at h⟩
  · obtain ⟨r, h2, rfl⟩ := key; exact h2
  have tail : ∀ (out : List (List Pt)) (f i : Nat), f < i → i < l.length → prt l b (i + 1) = (out ++ [(l.take (i + 1)).drop f], true) →
      ∀ z, (if decide (i + 1 < l.length) && sh l b (i + 1) then (some (Sum.inl (Sum.inr (out, (f : Int), ((i + 1 : Nat) : Int)))) : Option ((((List (List Pt)) × Int) ⊕ ((List (List Pt)) × Int × Int)) ⊕ (List (List Pt)))) else ((cut l (f : Int) ((i + 1 : Nat) : Int)).bind fun x569 => (app ([] : List Pt) x569).bind fun x572 => (app out [x572]).bind fun x577 => some (Sum.inl (Sum.inl (x577, ((i + 1 : Nat) : Int)))))) = z →
      (∃ s', z = some (.inl s') ∧ (match s' with
      | .inl (out, at_) => ∃ i : Nat, at_ = i ∧ 1 ≤ i ∧ i ≤ l.length ∧ (prt l b i).1 = out ∧ ((prt l b i).2 = true → i = l.length ∨ sh l b i = false)
      | .inr (out, from_, at_) => ∃ f i : Nat, from_ = f ∧ at_ = i ∧ f < i ∧ i < l.length ∧ prt l b (i + 1) = (out ++ [(l.take (i + 1)).drop f], true)) ∧ (match s' with
      | .inl (_, at_) => l.length - at_.toNat
      | .inr (_, _, at_) => l.length - at_.toNat) < l.length - i) := by
    intro out f i hf hi hp z hz
    subst hz
    have hol : out.length ≤ 1000000 := by
      have := (prt_goes (l := l) (b := b) (i + 1) (by omega)).1
      rw [hp] at this
      simp at this
      omega
    by_cases hs : i + 1 < l.length ∧ sh l b (i + 1) = true
    · rw [decide_eq_true hs.1, hs.2]
      simp only [Bool.and_self, if_true]
      exact ⟨_, rfl, ⟨f, i + 1, rfl, rfl, by omega, hs.1, prt_more hp (by omega) hs.1 hs.2⟩, by simp only [Int.toNat_natCast]; omega⟩
    · have hc : (decide (i + 1 < l.length) && sh l b (i + 1)) = false := by
        rw [Bool.and_eq_false_iff]
        by_cases h : i + 1 < l.length
        · exact .inr (by simpa using fun e => hs ⟨h, e⟩)
        · exact .inl (decide_eq_false h)
      rw [hc]
      simp only [Bool.false_eq_true, if_false]
      rw [cut_nat (by omega) (by omega), bind_some', app_le (by simp only [List.length_nil, List.length_drop, List.length_take]; omega), bind_some', app_le (by rw [List.length_singleton]; omega), bind_some', List.nil_append]
      refine ⟨_, rfl, ⟨i + 1, rfl, by omega, by omega, by rw [hp], fun _ => ?_⟩, by simp only [Int.toNat_natCast]; omega⟩
      by_cases h : i + 1 < l.length
      · exact .inr (by simpa using fun e => hs ⟨h, e⟩)
      · exact .inl (by omega)
  rintro (⟨out, _⟩ | ⟨out, _, _⟩)
  · rintro ⟨i, rfl, hi1, hi2, rfl, hg⟩
    show (∃ s', lineclip_Parts_b1_0 l b (prt l b i).1 (i : Int) = some (.inl s') ∧ _) ∨ ∃ r, lineclip_Parts_b1_0 l b (prt l b i).1 (i : Int) = some (.inr r) ∧ _
    unfold lineclip_Parts_b1_0
    by_cases hlt : i < l.length
    · have hd : decide ((l.length : Int) ≤ (i : Int)) = false := by simp only [decide_eq_false_iff_not]; omega
      have ek : ad (i : Int) 1 = ((i + 1 : Nat) : Int) := ad_one (by omega)
      have es : sb (i : Int) 1 = ((i - 1 : Nat) : Int) := sb_one (by omega) hi1
      have es2 : sb ((i + 1 : Nat) : Int) 1 = ((i + 1 - 1 : Nat) : Int) := sb_one (by omega) (by omega)
      simp only [hd, Bool.false_eq_true, if_false, es, ek, ix_getD (0, 0) hlt, ix_getD (0, 0) (show i - 1 < l.length by omega), bind_some', sh_eq]
      by_cases hs : sh l b i = true
      · have hg' : (prt l b i).2 = false := by
          cases h : (prt l b i).2 with
          | false => rfl
          | true =>
            rcases hg h with h3 | h3
            · omega
            · rw [hs] at h3; cases h3
        rw [hs]
        simp only [Bool.not_true, Bool.false_eq_true, if_false, es2]
        obtain ⟨x, y, r, hx, hy, hr, hz⟩ := next_at l b (i + 1)
        simp only [hx, hy, hr, hz, bind_some']
        left
        exact tail _ (i - 1) i (by omega) hlt (prt_begin hi1 hlt hs hg') _ rfl
      · have hs' : sh l b i = false := by simpa using hs
        rw [hs']
        simp only [Bool.not_false, if_true]
        refine .inl ⟨_, rfl, ⟨i + 1, rfl, by omega, by omega, ?_, ?_⟩, by simp only [Int.toNat_natCast]; omega⟩
        · rw [prt_succ hi1, if_neg hs]
        · rw [prt_succ hi1, if_neg hs]; simp
    · have hd : decide ((l.length : Int) ≤ (i : Int)) = true := by simp only [decide_eq_true_eq]; omega
      simp only [hd, if_true]
      have : i = l.length := by omega
      subst this
      exact .inr ⟨_, rfl, rfl⟩
  · rintro ⟨f, i, rfl, rfl, hf, hi, hp⟩
    show (∃ s', lineclip_Parts_b1_1 l b out (f : Int) (i : Int) = some (.inl s') ∧ _) ∨ ∃ r, lineclip_Parts_b1_1 l b out (f : Int) (i : Int) = some (.inr r) ∧ _
    unfold lineclip_Parts_b1_1
    have ek : ad (i : Int) 1 = ((i + 1 : Nat) : Int) := ad_one (by omega)
    have es2 : sb ((i + 1 : Nat) : Int) 1 = ((i + 1 - 1 : Nat) : Int) := sb_one (by omega) (by omega)
    simp only [ek, es2]
    obtain ⟨x, y, r, hx, hy, hr, hz⟩ := next_at l b (i + 1)
    simp only [hx, hy, hr, hz, bind_some']
    left
    exact tail _ f i hf hi hp _ rfl
theorem Parts_eq (l : List Pt) (b : Bx) (hn : l.length ≤ 1000000) : lineclip_Parts l b = some (parts l b) := by
  by_cases h1 : l.length ≤ 1
  · unfold lineclip_Parts
    have hd : decide ((l.length : Int) ≤ 1) = true := by simp only [decide_eq_true_eq]; omega
    simp only [hd, if_true]
    have : l.length = 0 ∨ l.length = 1 := by omega
    rcases this with h | h <;> simp [parts, h, prt]
  · rw [← Parts_l1_eq l b hn (by omega)]
    unfold lineclip_Parts
    have hd : decide ((l.length : Int) ≤ 1) = false := by simp only [decide_eq_false_iff_not]; omega
    conv => rhs; unfold lineclip_Parts_l1; rw [loopO_eq]
    simp only [Sum.elim_inl]
    unfold lineclip_Parts_b1_0
    have e1 : sb 1 1 = 0 := by decide
    have e2 : ad 1 1 = 2 := by decide
    have e3 : sb 2 1 = 1 := by decide
    have i0 : ix l 0 = some (l.getD 0 (0, 0)) := ix_getD (i := 0) (0, 0) (by omega)
    have i1 : ix l 1 = some (l.getD 1 (0, 0)) := ix_getD (i := 1) (0, 0) (by omega)
    simp only [hd, Bool.false_eq_true, if_false, e1, e2, e3, i0, i1, bind_some']
    have s1 := sh_eq l b 1
    rw [show 1 - 1 = 0 from rfl] at s1
    rw [s1, bind_some', bind_some']
    by_cases hs : sh l b 1 = true
    · rw [hs]
      simp only [Bool.not_true, Bool.false_eq_true, if_false]
      obtain ⟨x, y, r, hx, hy, hr, hz⟩ := next_at l b 2
      rw [show ((2 - 1 : Nat) : Int) = 1 from rfl, show ((2 : Nat) : Int) = 2 from rfl] at hx
      rw [show ((2 : Nat) : Int) = 2 from rfl] at hy hr hz
      rw [i1] at hx
      simp only [hx, hy, hr, hz, bind_some']
      by_cases hc : (decide (2 < l.length) && sh l b 2) = true
      · rw [hc]; rfl
      · have hc' : (decide (2 < l.length) && sh l b 2) = false := by simpa using hc
        rw [hc']
        simp only [Bool.false_eq_true, if_false]
        cases cut l 0 2 with
        | none => rfl
        | some x =>
          simp only [bind_some']
          cases app ([] : List Pt) x with
          | none => rfl
          | some y =>
            simp only [bind_some']
            cases app ([] : List (List Pt)) [y] with
            | none => rfl
            | some z => rfl
    · have hs' : sh l b 1 = false := by simpa using hs
      rw [hs']; rfl
theorem known22 : law22_known = some true := by
  unfold law22_known
  rw [Parts_eq _ _ (by simp), show parts [(0, 0), (2, 0), (4, 2), (9, 2), (4, 4), (2, 4)] ((0, 0), (5, 5)) = [[(2, 0), (4, 2)], [(4, 4), (2, 4)]] from by decide]
  rfl
theorem law22_LineclipJoins_true (x0 : List (List (Int × Int))) (k0 : ∀ y2 ∈ x0, ∀ y2' ∈ y2, I64 y2'.1 ∧ I64 y2'.2) : law22_LineclipJoins x0 = some true := by
  unfold law22_LineclipJoins law22_LineclipJoins_l1
  let m := min x0.length 10
  let st := fun k => (x0.take k).map (·.take 40)
  have hrow : ∀ k, ∀ y ∈ st k, y.length ≤ 40 := fun k y hy => by
    obtain ⟨z, _, rfl⟩ := List.mem_map.1 hy
    rw [List.length_take]; omega
  have htot : ∀ k, k ≤ 10 → tot (st k) ≤ 400 := fun k hk => by
    have : ∀ l : List (List Pt), (∀ y ∈ l, y.length ≤ 40) → tot l ≤ 40 * l.length := by
      intro l
      induction l with
      | nil => intro _; simp [tot]
      | cons y l ih =>
        intro h
        have h1 := h y (by simp)
        have h2 := ih fun z hz => h z (by simp [hz])
        simp only [tot, List.map_cons, List.sum_cons, List.length_cons] at h2 ⊢
        omega
    have h2 := this (st k) (hrow k)
    have h3 : (st k).length ≤ k := by simp only [st, List.length_map, List.length_take]; omega
    omega
  have hlen : ∀ k, (st k).length ≤ k := fun k => by simp only [st, List.length_map, List.length_take]; omega
  have := loopO_nat (body := fun s => law22_LineclipJoins_b1 x0 s.1 s.2.1 s.2.2) (fun k => (st k, st k, (k : Int))) m true (fun k hk => by
    have hkx : k < x0.length := by simp only [m] at hk; omega
    have hk10 : k < 10 := by simp only [m] at hk; omega
    have hs : st (k + 1) = st k ++ [(x0.getD k []).take 40] := by
      simp only [st]
      rw [snoc_take [] hkx, List.map_append]; rfl
    unfold law22_LineclipJoins_b1
    have hd : (decide ((k : Int) < (x0.length : Int)) && decide ((k : Int) < 10)) = true := by simp; omega
    have hl := hlen k
    simp only [hd, bind_some', if_true, ix_getD [] hkx, Cut_eq, Ofs_eq ((x0.getD k []).take 40) (by rw [List.length_take]; omega)]
    rw [app_le (by rw [List.length_singleton]; omega), bind_some', bind_some', ad_one (by omega), ← hs]) (by
    unfold law22_LineclipJoins_b1
    have hd : (decide ((m : Int) < (x0.length : Int)) && decide ((m : Int) < 10)) = false := by
      rw [Bool.and_eq_false_iff]; simp only [decide_eq_false_iff_not, m]; omega
    have hm : m ≤ 10 := by simp only [m]; omega
    have ht := htot m hm
    have hl := hlen m
    obtain ⟨j1, j2⟩ := joinL_tot (st m)
    have hj : ∀ x ∈ joinL (st m), x.length ≤ 1000000 := fun x hx => by have := tot_mem hx; omega
    simp only [hd, bind_some', Bool.false_eq_true, if_false, known22, gd_true, Join_eq (st m) (by omega) (by omega), refJoin_eq (st m) (by omega) (by omega), law22_Same_eq _ (joinL (st m)) (by omega) hj, decide_true, Bool.true_and, Bool.and_self, Join_eq (joinL (st m)) (by omega) (by omega), joinL_stays (joinL_ch (st m))]
    rfl)
  exact this
end Go.Proofs.Ythjcpojcpafbjaa.Pl
