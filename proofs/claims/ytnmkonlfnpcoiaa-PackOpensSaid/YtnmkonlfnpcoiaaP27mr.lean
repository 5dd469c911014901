import Derived.Test.YtnmkonlfnpcoiaaP27mw
namespace Go.Proofs.Ytnmkonlfnpcoiaa.Pl
set_option maxRecDepth 4000
def lead : List Int → Nat
  | [] => 0
  | x :: l => if 128 ≤ x then lead l + 1 else 0
theorem lead_le : ∀ l : List Int, lead l ≤ l.length
  | [] => Nat.le_refl _
  | x :: l => by
    have := lead_le l
    unfold lead
    split
    · simp only [List.length_cons]; omega
    · exact Nat.zero_le _
def valB : List Int → Nat
  | [] => 0
  | x :: l => (x.toNat % 128) + 128 * valB l
theorem numG_spec : ∀ (l : List Int) (i n : Nat), (∀ x ∈ l, U8 x) → i ≤ 10 → numG i n l = if 10 ≤ i + lead l then (0, 0, 5) else if lead l = l.length then (0, 0, 4) else if i + lead l = 9 ∧ 1 < l.getD (lead l) 0 then (0, 0, 5) else if 0 < i + lead l ∧ l.getD (lead l) 0 = 0 then (0, 0, 3) else (n + 128 ^ i * valB (l.take (lead l + 1)), i + lead l + 1, 0)
  | [], i, n, _, hi => by
    rw [numG]
    by_cases h : i = 10
    · subst h; rfl
    · rw [if_neg h, if_neg (by simp only [lead]; omega)]; rfl
  | x :: l, i, n, hb, hi => by
    obtain ⟨m, hm, rfl⟩ := u8_nat (hb x (by simp))
    rw [numG]
    by_cases h : i = 10
    · subst h
      rw [if_pos rfl, if_pos (by omega)]
    rw [if_neg h]
    by_cases h1 : (128 : Int) ≤ (m : Int)
    · have hle : lead ((m : Int) :: l) = lead l + 1 := by rw [lead, if_pos h1]
      have hcc : (lead l + 1 = l.length + 1) = (lead l = l.length) := by rw [eq_iff_iff]; omega
      rw [if_pos h1, numG_spec l (i + 1) _ (fun y hy => hb y (by simp [hy])) (by omega), hle, show ((m : Int) :: l).getD (lead l + 1) 0 = l.getD (lead l) 0 by simp, show i + (lead l + 1) = i + 1 + lead l by omega, List.length_cons]
      simp only [hcc]
      by_cases h2 : 10 ≤ i + 1 + lead l
      · rw [if_pos h2, if_pos h2]
      rw [if_neg h2, if_neg h2]
      by_cases h3 : lead l = l.length
      · rw [if_pos h3, if_pos h3]
      rw [if_neg h3, if_neg h3]
      by_cases h4 : i + 1 + lead l = 9 ∧ 1 < l.getD (lead l) 0
      · rw [if_pos h4, if_pos h4]
      rw [if_neg h4, if_neg h4]
      by_cases h5 : 0 < i + 1 + lead l ∧ l.getD (lead l) 0 = 0
      · rw [if_pos h5, if_pos h5]
      rw [if_neg h5, if_neg h5, List.take_succ_cons, valB, Int.toNat_natCast, Nat.pow_succ]
      congr 1
      rw [show m - 128 = m % 128 by omega, Nat.mul_add, Nat.mul_comm (m % 128), Nat.mul_assoc]
      omega
    · have hle : lead ((m : Int) :: l) = 0 := by rw [lead, if_neg h1]
      rw [if_neg h1, hle, if_neg (show ¬ 10 ≤ i + 0 by omega), if_neg (show ¬ 0 = ((m : Int) :: l).length by simp)]
      simp only [Nat.add_zero, List.getD_cons_zero]
      by_cases h4 : i = 9 ∧ (1 : Int) < (m : Int)
      · rw [if_pos h4, if_pos h4]
      rw [if_neg h4, if_neg h4]
      by_cases h5 : 0 < i ∧ (m : Int) = 0
      · rw [if_pos h5, if_pos h5]
      rw [if_neg h5, if_neg h5, Nat.zero_add, List.take_succ_cons, List.take_zero, valB, valB, Int.toNat_natCast, show m % 128 = m by omega, Nat.mul_comm]
      congr 1
theorem valB_lt : ∀ l : List Int, valB l < 128 ^ l.length
  | [] => by decide
  | x :: l => by
    have := valB_lt l
    rw [valB, List.length_cons, Nat.pow_succ]
    omega
theorem valB_snoc : ∀ (l : List Int) (x : Int), valB (l ++ [x]) = valB l + 128 ^ l.length * (x.toNat % 128)
  | [], x => by simp [valB]
  | y :: l, x => by
    rw [List.cons_append, valB, valB_snoc l x, valB, List.length_cons, Nat.pow_succ, Nat.mul_add, ← Nat.mul_assoc, Nat.mul_comm 128 (128 ^ l.length)]
    omega
theorem lead_at : ∀ (l : List Int) (j : Nat), j < lead l → 128 ≤ l.getD j 0
  | [], j, h => by simp [lead] at h
  | x :: l, j, h => by
    unfold lead at h
    by_cases h1 : 128 ≤ x
    · rw [if_pos h1] at h
      cases j with
      | zero => exact h1
      | succ j =>
        have := lead_at l j (by omega)
        simpa using this
    · rw [if_neg h1] at h; omega
theorem lead_end : ∀ (l : List Int), lead l < l.length → l.getD (lead l) 0 < 128
  | [], h => by simp at h
  | x :: l, h => by
    unfold lead at h ⊢
    by_cases h1 : 128 ≤ x
    · rw [if_pos h1] at h ⊢
      have := lead_end l (by simpa using h)
      simpa using this
    · rw [if_neg h1] at h ⊢
      show x < 128
      omega
theorem rRead_eq {b : List Int} (hb : ∀ x ∈ b, U8 x) (hl : b.length ≤ 1000000) : ref07_Read b = some (numI (num b)) := by
  unfold ref07_Read ref07_Read_l1
  have hle := lead_le b
  have hgu : ∀ j, j < b.length → 0 ≤ b.getD j 0 ∧ b.getD j 0 ≤ 255 := fun j hj => hb _ (getD_mem hj)
  rw [show (0 : Int) = ((0 : Nat) : Int) from rfl, loopO_up (body := fun s => ref07_Read_b1 b s) (fun k => (k : Int)) (lead b) (fun k hk => by
    unfold ref07_Read_b1
    rw [dlt (show k < b.length by omega), gd_true, ix_getD 0 (by omega), bind_some', decide_eq_true (lead_at b k hk), bind_some']
    rw [if_pos (by rfl), ad_one (by omega)]) 0 (Nat.zero_le _)]
  have hstop : ref07_Read_b1 b (lead b : Int) = some (.inr (numI (num b))) := by
    unfold ref07_Read_b1
    have hx : ((gd (decide ((lead b : Int) < (b.length : Int))) (ix b (lead b : Int)) 0).bind fun x => some (decide ((lead b : Int) < (b.length : Int)) && decide (128 ≤ x))) = some false := by
      by_cases h : lead b < b.length
      · have := lead_end b h
        rw [dlt h, gd_true, ix_getD 0 h, bind_some', decide_eq_false (by omega)]; rfl
      · rw [dnlt h, gd_false, bind_some']; rfl
    obtain ⟨y, hy, hy2⟩ := obind hx
    rw [hy, bind_some', hy2, bind_some', if_neg (by decide)]
    unfold num
    rw [numG_spec b 0 0 hb (by omega)]
    simp only [Nat.zero_add]
    by_cases h2 : 10 ≤ lead b
    · rw [if_pos h2, decide_eq_true (by omega), if_pos rfl]; rfl
    rw [if_neg h2, decide_eq_false (by omega), if_neg (by decide)]
    by_cases h3 : lead b = b.length
    · rw [if_pos h3, decide_eq_true (by omega), if_pos rfl]; rfl
    rw [if_neg h3, decide_eq_false (by omega), if_neg (by decide)]
    have hlt : lead b < b.length := by omega
    by_cases h4 : lead b = 9 ∧ 1 < b.getD (lead b) 0
    · have e9 : ix b 9 = some (b.getD 9 0) := ix_getD (i := 9) 0 (by omega)
      rw [if_pos h4, decide_eq_true (by omega), gd_true, e9, bind_some', decide_eq_true (by rw [← h4.1]; exact h4.2)]; rfl
    rw [if_neg h4]
    have hf : ((gd (decide ((lead b : Int) = 9)) (ix b 9) 0).bind fun x => some (decide ((lead b : Int) = 9) && decide (1 < x))) = some false := by
      by_cases h9 : lead b = 9
      · have e9 : ix b 9 = some (b.getD 9 0) := ix_getD (i := 9) 0 (by omega)
        rw [decide_eq_true (by omega), gd_true, e9, bind_some', decide_eq_false (by rw [h9] at h4; omega)]; rfl
      · rw [decide_eq_false (by omega), gd_false, bind_some']; rfl
    obtain ⟨z, hz, hz2⟩ := obind hf
    rw [hz, bind_some', hz2, bind_some', if_neg (by decide)]
    by_cases h5 : 0 < lead b ∧ b.getD (lead b) 0 = 0
    · rw [if_pos h5, decide_eq_true (by omega), gd_true, ix_getD 0 hlt, bind_some', decide_eq_true h5.2]; rfl
    rw [if_neg h5]
    have hf2 : ((gd (decide (0 < (lead b : Int))) (ix b (lead b : Int)) 0).bind fun x => some (decide (0 < (lead b : Int)) && decide (x = 0))) = some false := by
      by_cases h9 : 0 < lead b
      · rw [decide_eq_true (by omega), gd_true, ix_getD 0 hlt, bind_some', decide_eq_false (fun e => h5 ⟨h9, e⟩)]; rfl
      · rw [decide_eq_false (by omega), gd_false, bind_some']; rfl
    obtain ⟨v, hv, hv2⟩ := obind hf2
    rw [hv, bind_some', hv2, bind_some', if_neg (by decide)]
    -- the value
    have hbd : ∀ j, j ≤ lead b + 1 → valB ((b.take (lead b + 1)).drop j) < 18446744073709551616 := by
      have h0 : valB (b.take (lead b + 1)) < 18446744073709551616 := by
        rw [snoc_take 0 hlt, valB_snoc]
        have h1 := valB_lt (b.take (lead b))
        have h6 : (b.take (lead b)).length = lead b := by rw [List.length_take]; omega
        rw [h6] at h1 ⊢
        by_cases h9 : lead b = 9
        · rw [h9] at h1 ⊢
          have : b.getD 9 0 ≤ 1 := by rw [h9] at h4; omega
          have h7 : (b.getD 9 0).toNat % 128 ≤ 1 := by have := hgu 9 (by omega); omega
          have : 128 ^ 9 * ((b.getD 9 0).toNat % 128) ≤ 128 ^ 9 * 1 := Nat.mul_le_mul_left _ h7
          omega
        · have h8 := Nat.pow_le_pow_right (show 0 < 128 by omega) (show lead b ≤ 8 by omega)
          have : 128 ^ lead b * ((b.getD (lead b) 0).toNat % 128) ≤ 128 ^ lead b * 127 := Nat.mul_le_mul_left _ (by omega)
          omega
      have key : ∀ (m : List Int) (j : Nat), valB (m.drop j) ≤ valB m := by
        intro m
        induction m with
        | nil => intro j; simp
        | cons x m ih =>
          intro j
          cases j with
          | zero => exact Nat.le_refl _
          | succ j =>
            have := ih j
            rw [List.drop_succ_cons, valB]; omega
      intro j _
      exact Nat.lt_of_le_of_lt (key _ _) h0
    have hgo : ∀ j, j ≤ lead b + 1 → ref07_Read_l2 b (lead b : Int) ((valB ((b.take (lead b + 1)).drop j) : Int), (j : Int) - 1) = some ((valB (b.take (lead b + 1)) : Int), ((lead b + 1 : Nat) : Int), 0) := by
      intro j
      unfold ref07_Read_l2
      induction j with
      | zero =>
        intro _
        refine loopO_inr ?_
        dsimp only
        unfold ref07_Read_b2
        rw [decide_eq_false (by omega), if_neg (by decide), ad_in (by omega), List.drop_zero]
        congr 3
      | succ j ih =>
        intro hj
        have hjl : j < (b.take (lead b + 1)).length := by rw [List.length_take]; omega
        have hd : (b.take (lead b + 1)).drop j = b.getD j 0 :: (b.take (lead b + 1)).drop (j + 1) := by rw [drop_cons 0 hjl, getD_take (by omega)]
        have hbj := hbd j (by omega)
        rw [hd, valB] at hbj
        have e : ref07_Read_b2 b (lead b : Int) (valB ((b.take (lead b + 1)).drop (j + 1)) : Int) (((j + 1 : Nat) : Int) - 1) = some (.inl ((valB ((b.take (lead b + 1)).drop j) : Int), (j : Int) - 1)) := by
          unfold ref07_Read_b2
          have hge := hgu j (by omega)
          have hm : rmK (b.getD j 0) 128 = some (((b.getD j 0).toNat % 128 : Nat) : Int) := by
            unfold rmK
            rw [if_neg (by decide), Int.tmod_eq_emod_of_nonneg (by omega)]
            congr 1; omega
          rw [show (((j + 1 : Nat) : Int) - 1) = (j : Int) by omega, decide_eq_true (by omega), if_pos rfl, ix_getD 0 (by omega), bind_some', hm, bind_some', bind_some', hd, valB, u64_nat (by omega)]
          unfold adK mlK
          rw [show (128 : Int) * (valB ((b.take (lead b + 1)).drop (j + 1)) : Int) = ((128 * valB ((b.take (lead b + 1)).drop (j + 1)) : Nat) : Int) by omega, u64_nat (by omega), sb_in (by omega)]
          rw [show ((128 * valB ((b.take (lead b + 1)).drop (j + 1)) : Nat) : Int) + (((b.getD j 0).toNat % 128 : Nat) : Int) = (((b.getD j 0).toNat % 128 + 128 * valB ((b.take (lead b + 1)).drop (j + 1)) : Nat) : Int) by omega, u64_nat hbj]
        exact (loopO_inl e).trans (ih (by omega))
    have := hgo (lead b + 1) (Nat.le_refl _)
    rw [List.drop_eq_nil_of_le (by rw [List.length_take]; omega)] at this
    rw [show ((lead b + 1 : Nat) : Int) - 1 = (lead b : Int) by omega] at this
    rw [show ((0 : Int), (lead b : Int)) = ((valB [] : Int), (lead b : Int)) from rfl, this]
    unfold numI
    simp
  exact loopO_inr hstop
open Go.Proofs.Ytnmkonlfnpcoiaa
set_option maxRecDepth 8000
abbrev RefP := ByteArray × List (T3 × ByteArray)
def badD (e : Int) : Option (RefP × Int) := some ((ByteArray.empty, []), e)
abbrev Rd := List Int × Int × Int
theorem nP_eq (b : List Int) (i : Nat) : runA b nP i = if (num (b.drop i)).2.2 = 0 then .inl ((num (b.drop i)).1, i + (num (b.drop i)).2.1) else .inr (num (b.drop i)).2.2 := rfl
theorem take_bad {c : Rd} (h : c.2.2 ≠ 0) : ref26_Take c = some (c, 0) := by
  unfold ref26_Take
  rw [decide_eq_false h]; rfl
theorem up_bad {c : Rd} (h : c.2.2 ≠ 0) (g e0 : Int) : ref26_Up c g e0 = some (c, 0) := by
  unfold ref26_Up
  rw [take_bad h, bind_some', decide_eq_false h, Bool.false_and, bind_some', if_neg (by decide)]
  unfold ref26_Up_k1
  rw [decide_eq_false h]; rfl
section
variable {b : List Int} (hb : ∀ x ∈ b, U8 x) (hl : b.length ≤ 1000000)
include hb hl
set_option linter.unusedSectionVars false
theorem rTake_eq {i : Nat} (hi : i ≤ b.length) : ref26_Take (b, (i : Int), 0) = some ((b, ((i + (num (b.drop i)).2.1 : Nat) : Int), (num (b.drop i)).2.2), ((num (b.drop i)).1 : Int)) := by
  unfold ref26_Take
  dsimp only
  have hd := num_le hb i
  rw [decide_eq_true rfl, Bool.not_true, if_neg (by decide), cut_from hi, bind_some', rRead_eq (fun x hx => hb x (List.mem_of_mem_drop hx)) (by rw [List.length_drop]; omega), bind_some']
  unfold numI
  dsimp only
  rw [ad_in (by omega)]
  rw [show (i : Int) + ((num (b.drop i)).2.1 : Int) = ((i + (num (b.drop i)).2.1 : Nat) : Int) by omega]
theorem take_go {β : Type} {i : Nat} (hi : i ≤ b.length) {F : Rd × Int → Option β} {G : Int → Option β} (hG : ∀ at_ v e, e ≠ 0 → F ((b, at_, e), v) = G e) :
    (ref26_Take (b, (i : Int), 0)).bind F = goR (runA b nP i) (fun v j => F ((b, (j : Int), 0), (v : Int))) G := by
  rw [rTake_eq hb hl hi, bind_some', nP_eq]
  by_cases h : (num (b.drop i)).2.2 = 0
  · rw [if_pos h, h]; rfl
  · rw [if_neg h]
    exact hG _ _ _ h
theorem up_go {β : Type} {i : Nat} (hi : i ≤ b.length) (g : Nat) (hg : g ≤ 100000) (e0 : Int) (he : e0 ≠ 0) {F : Rd × Int → Option β} {G : Int → Option β} (hG : ∀ at_ v e, e ≠ 0 → F ((b, at_, e), v) = G e) :
    (ref26_Up (b, (i : Int), 0) (g : Int) e0).bind F = goR (runA b (upP g e0) i) (fun k j => F ((b, (j : Int), 0), (k : Int))) G := by
  have bad : ∀ (at_ v e : Int), e ≠ 0 → (ref26_Up_k1 ((b, at_, e), v) e).bind F = G e := fun at_ v e h => by
    unfold ref26_Up_k1
    rw [show (!decide (e = 0)) = true from by simpa using h, if_pos rfl]
    exact hG _ _ _ h
  unfold ref26_Up
  rw [obind_assoc, take_go hb hl hi (G := G) (fun at_ v e h => by
    dsimp only
    rw [show decide (e = 0) = false from by simpa using h, Bool.false_and, bind_some', if_neg (by decide)]
    exact bad _ _ _ h), show upP g e0 = nP.bnd (fun x => if x ≤ g then .ret x else .err e0) from rfl, goR_bnd]
  refine goR_cases hb hi (fun v j hj hr => ?_) (fun _ _ => rfl)
  have hv := num_v hb hl hr
  dsimp only
  rw [show IntKind.u64.wrap (g : Int) = (g : Int) from IntWalk.u64_in _ (by omega), show decide ((0 : Int) = 0) = true from rfl, Bool.true_and, bind_some']
  by_cases h : v ≤ g
  · rw [if_pos h, show decide ((g : Int) < (v : Int)) = false from by simp only [decide_eq_false_iff_not]; omega, if_neg (by decide)]
    unfold ref26_Up_k1
    dsimp only
    rw [show (!decide ((0 : Int) = 0)) = false from rfl, if_neg (by decide), show IntKind.i64.wrap (v : Int) = (v : Int) from IntWalk.i64_in _ (by omega)]; rfl
  · rw [if_neg h, show decide ((g : Int) < (v : Int)) = true from by simp only [decide_eq_true_eq]; omega, if_pos rfl]
    unfold ref26_Up_k1
    dsimp only
    rw [show (!decide (e0 = 0)) = true from by simpa using he, if_pos rfl]
    exact hG _ _ _ he
theorem some_go {β : Type} {i : Nat} (hi : i ≤ b.length) {F : Rd × ByteArray → Option β} {G : Int → Option β} (hG : ∀ at_ e, e ≠ 0 → F ((b, at_, e), ByteArray.empty) = G e) :
    (ref27_some (b, (i : Int), 0)).bind F = goR (runA b wholeP i) (fun l j => F ((b, (j : Int), 0), bsS l)) G := by
  have bad : ∀ (at_ v e0 e : Int), e ≠ 0 → (ref27_some_k1 ((b, at_, e0), v) e).bind F = G e := fun at_ v e0 e h => by
    unfold ref27_some_k1
    rw [show (!decide (e = 0)) = true from by simpa using h, if_pos rfl]
    exact hG _ _ h
  unfold ref27_some
  rw [obind_assoc, take_go hb hl hi (G := G) (fun at_ v e h => by
    dsimp only
    rw [bind_some', show decide (e = 0) = false from by simpa using h, Bool.false_and, bind_some', if_neg (by decide)]
    exact bad _ _ _ _ h), show wholeP = nP.bnd (fun n => .by n fun l => .ret l) from rfl, goR_bnd]
  refine goR_cases hb hi (fun v j hj hr => ?_) (fun _ _ => rfl)
  have hv := num_v hb hl hr
  dsimp only
  rw [bind_some', show sb (b.length : Int) (j : Int) = ((b.length - j : Nat) : Int) from by rw [sb_in (by omega)]; omega, show IntKind.u64.wrap ((b.length - j : Nat) : Int) = ((b.length - j : Nat) : Int) from IntWalk.u64_in _ (by omega), show decide ((0 : Int) = 0) = true from rfl, Bool.true_and, bind_some']
  have hn : runA b (.by v fun l => .ret l) j = if v ≤ (b.drop j).length then .inl ((b.drop j).take v, j + v) else .inr 4 := rfl
  rw [hn, List.length_drop]
  by_cases h : v ≤ b.length - j
  · rw [if_pos h, show decide (((b.length - j : Nat) : Int) < (v : Int)) = false from by simp only [decide_eq_false_iff_not]; omega, if_neg (by decide)]
    unfold ref27_some_k1
    dsimp only
    rw [show (!decide ((0 : Int) = 0)) = false from rfl, if_neg (by decide), show IntKind.i64.wrap (v : Int) = (v : Int) from IntWalk.i64_in _ (by omega), show ad (j : Int) (v : Int) = ((j + v : Nat) : Int) from by rw [ad_in (by omega)]; omega, bind_some', cut_nat (by omega) (by omega), bind_some', bind_some']
    have e : (b.take (j + v)).drop j = (b.drop j).take v := by rw [List.drop_take]; congr 1; omega
    rw [e]; rfl
  · rw [if_neg h, show decide (((b.length - j : Nat) : Int) < (v : Int)) = true from by simp only [decide_eq_true_eq]; omega, if_pos rfl]
    exact bad _ _ _ _ (by decide)
end
section
variable (l : List ByteArray) (p : List (T3 × ByteArray)) (u i : Int)
theorem k10_bad (t : T3) (r : Rd × Int) {e : Int} (h : e ≠ 0) : ref27_Open_k10 l p u i t r e = some (.inl (r.1.1, r.1.2.1, e, p, u, ad i 1)) := by
  unfold ref27_Open_k10
  rw [show decide (e = 0) = false from by simpa using h]; rfl
theorem k9_bad (t : T3) (r : Rd × Int) {e : Int} (h : e ≠ 0) : ref27_Open_k9 l p u i t r e = some (.inl (r.1.1, r.1.2.1, e, p, u, ad i 1)) := by
  unfold ref27_Open_k9
  rw [show decide (e = 0) = false from by simpa using h, Bool.false_and, bind_some', if_neg (by decide)]
  exact k10_bad l p u i t r h
theorem k8_bad (c : List Int) (a : Int) (t : T3) {e : Int} (h : e ≠ 0) : ref27_Open_k8 l p u i c a t e = some (.inl (c, a, e, p, u, ad i 1)) := by
  unfold ref27_Open_k8
  rw [take_bad (c := (c, a, e)) h, bind_some', bind_some']
  dsimp only
  rw [show decide (e = 0) = false from by simpa using h, Bool.false_and, bind_some', if_neg (by decide)]
  exact k9_bad l p u i t _ h
theorem k7_bad (c : List Int) (a : Int) (t : T3) {e : Int} (h : e ≠ 0) : ref27_Open_k7 l p u i c a t e = some (.inl (c, a, e, p, u, ad i 1)) := by
  unfold ref27_Open_k7
  rw [show decide (e = 0) = false from by simpa using h, Bool.false_and, bind_some', gd_false, bind_some', gd_false, bind_some', Bool.false_and, if_neg (by decide)]
  exact k8_bad l p u i c a t h
theorem k6_bad (c : List Int) (a : Int) (t : T3) {e : Int} (h : e ≠ 0) : ref27_Open_k6 l p u i c a e t = some (.inl (c, a, e, p, u, ad i 1)) := by
  unfold ref27_Open_k6
  rw [show decide (e = 0) = false from by simpa using h, gd_false, bind_some', Bool.false_and, if_neg (by decide)]
  exact k7_bad l p u i c a t h
theorem l5_0 (c : Rd) (x : T3) : ref27_Open_l5 l p u i (c.1, c.2.1, c.2.2, x, 0) = (ref26_Take c).bind fun r => ref27_Open_l5 l p u i (r.1.1, r.1.2.1, r.1.2.2, (r.2, x.2.1, x.2.2), 1) := by
  unfold ref27_Open_l5
  rw [loopO_then]
  dsimp only
  unfold ref27_Open_b5
  rw [if_pos (by decide), thenL_bind]
  rfl
theorem l5_1 (c : Rd) (x : T3) : ref27_Open_l5 l p u i (c.1, c.2.1, c.2.2, x, 1) = (ref26_Take c).bind fun r => ref27_Open_l5 l p u i (r.1.1, r.1.2.1, r.1.2.2, (x.1, r.2, x.2.2), 2) := by
  unfold ref27_Open_l5
  rw [loopO_then]
  dsimp only
  unfold ref27_Open_b5
  rw [if_pos (by decide), thenL_bind]
  rfl
theorem l5_2 (c : Rd) (x : T3) : ref27_Open_l5 l p u i (c.1, c.2.1, c.2.2, x, 2) = (ref26_Take c).bind fun r => ref27_Open_l5 l p u i (r.1.1, r.1.2.1, r.1.2.2, (x.1, x.2.1, r.2), 3) := by
  unfold ref27_Open_l5
  rw [loopO_then]
  dsimp only
  unfold ref27_Open_b5
  rw [if_pos (by decide), thenL_bind]
  rfl
theorem l5_3 (c : Rd) (x : T3) : ref27_Open_l5 l p u i (c.1, c.2.1, c.2.2, x, 3) = if decide (x.1 < 100) && decide (x.2.1 < 100) && decide (x.2.2 < 100) then ref27_Open_k6 l p u i c.1 c.2.1 c.2.2 (IntKind.i64.wrap x.1, IntKind.i64.wrap x.2.1, IntKind.i64.wrap x.2.2) else ref27_Open_k6 l p u i c.1 c.2.1 c.2.2 ((-1), 0, 0) := by
  unfold ref27_Open_l5
  rw [loopO_then]
  dsimp only
  unfold ref27_Open_b5
  rw [if_neg (by decide), thenL_ret]
  rfl
theorem l5_bad3 (c : Rd) (x : T3) (h : c.2.2 ≠ 0) : ref27_Open_l5 l p u i (c.1, c.2.1, c.2.2, x, 3) = some (.inl (c.1, c.2.1, c.2.2, p, u, ad i 1)) := by
  rw [l5_3]
  split
  · exact k6_bad l p u i _ _ _ h
  · exact k6_bad l p u i _ _ _ h
theorem l5_bad2 (c : Rd) (x : T3) (h : c.2.2 ≠ 0) : ref27_Open_l5 l p u i (c.1, c.2.1, c.2.2, x, 2) = some (.inl (c.1, c.2.1, c.2.2, p, u, ad i 1)) := by
  rw [l5_2, take_bad h, bind_some']
  exact l5_bad3 l p u i c _ h
theorem l5_bad1 (c : Rd) (x : T3) (h : c.2.2 ≠ 0) : ref27_Open_l5 l p u i (c.1, c.2.1, c.2.2, x, 1) = some (.inl (c.1, c.2.1, c.2.2, p, u, ad i 1)) := by
  rw [l5_1, take_bad h, bind_some']
  exact l5_bad2 l p u i c _ h
end
noncomputable def slB3 (b : List Int) (r : Rd × ByteArray) (l : List ByteArray) (q : Rd × Int) := fun (s : (List Int) × Int × Int × (List (T3 × ByteArray)) × Int × Int) => ref27_Open_b3 b r l q s.1 s.2.1 s.2.2.1 s.2.2.2.1 s.2.2.2.2.1 s.2.2.2.2.2
theorem l3_bad (b : List Int) (r : Rd × ByteArray) (l : List ByteArray) (q : Rd × Int) (c : List Int) (a : Int) {e : Int} (p : List (T3 × ByteArray)) (u i : Int) (h : e ≠ 0) : loopO (slB3 b r l q) (c, a, e, p, u, i) = badD e := by
  refine loopO_inr ?_
  show ref27_Open_b3 b r l q c a e p u i = _
  unfold ref27_Open_b3
  rw [show decide (e = 0) = false from by simpa using h, Bool.and_false, bind_some', if_neg (by decide)]
  rfl
def entD (bl : List (List Int)) (s : T3 × Int) : T3 × ByteArray := (s.1, bsS (bl.getD s.2.toNat []))
def finD (b h : List Int) (bl : List (List Int)) (s : Nat × List (T3 × Int)) (j : Nat) : Option (RefP × Int) := if s.1 < bl.length then badD 7 else if j < b.length then badD 3 else some ((bsS h, s.2.map (entD bl)), 0)
section
variable {b : List Int} (hb : ∀ x ∈ b, U8 x) (hl : b.length ≤ 1000000)
include hb hl
set_option linter.unusedSectionVars false
theorem rslots_eq (h : List Int) (bl : List (List Int)) (hbl : bl.length ≤ 1000) (m : Nat) (hm : m ≤ 1000) (c1 c2 : Rd) : ∀ (k : Nat) (acc : List (T3 × Int)) (i used : Nat) (last : T3), acc.length + k = m → i ≤ b.length → used ≤ bl.length → (acc ≠ [] → (acc.getD (acc.length - 1) ((0, 0, 0), 0)).1 = last) →
    loopO (slB3 b (c1, bsS h) (bl.map bsS) (c2, (m : Int))) (b, (i : Int), 0, acc.map (entD bl), (used : Int), (acc.length : Int)) = goR (runA b (slotsP bl.length k used last acc) i) (finD b h bl) badD := by
  intro k
  have hbm : (((bl.map bsS).length : Nat) : Int) = (bl.length : Int) := by simp
  induction k with
  | zero =>
    intro acc i used last hk hi hu hla
    refine loopO_map (x := finD b h bl (used, acc) i) ?_
    show ref27_Open_b3 b (c1, bsS h) (bl.map bsS) (c2, (m : Int)) b (i : Int) 0 (acc.map (entD bl)) (used : Int) (acc.length : Int) = _
    unfold ref27_Open_b3 finD
    rw [hbm, show decide ((acc.length : Int) < (m : Int)) = false from by simp only [decide_eq_false_iff_not]; omega, Bool.false_and, bind_some', if_neg (by decide), show (!decide ((0 : Int) = 0)) = false from rfl, if_neg (by decide)]
    by_cases h1 : used < bl.length
    · rw [if_pos h1, show decide ((used : Int) < (bl.length : Int)) = true from by simp only [decide_eq_true_eq]; omega]; rfl
    · rw [if_neg h1, show decide ((used : Int) < (bl.length : Int)) = false from by simp only [decide_eq_false_iff_not]; omega, if_neg (by decide)]
      by_cases h2 : i < b.length
      · rw [if_pos h2, show decide ((i : Int) < (b.length : Int)) = true from by simp only [decide_eq_true_eq]; omega]; rfl
      · rw [if_neg h2, show decide ((i : Int) < (b.length : Int)) = false from by simp only [decide_eq_false_iff_not]; omega]; rfl
  | succ k ih =>
    intro acc i used last hk hi hu hla
    generalize hL : slB3 b (c1, bsS h) (bl.map bsS) (c2, (m : Int)) = L at ih ⊢
    have lbad : ∀ (c : List Int) (a : Int) (e : Int) (p : List (T3 × ByteArray)) (u i : Int), e ≠ 0 → thenL L (some (.inl (c, a, e, p, u, i))) = badD e := fun c a e p u i h => by
      rw [thenL_inl, ← hL]; exact l3_bad _ _ _ _ c a p u i h
    rw [loopO_then]
    have hbd : L (b, (i : Int), 0, acc.map (entD bl), (used : Int), (acc.length : Int)) = ref27_Open_l5 (bl.map bsS) (acc.map (entD bl)) (used : Int) (acc.length : Int) (b, (i : Int), 0, (0, 0, 0), 0) := by
      rw [← hL]
      show ref27_Open_b3 b (c1, bsS h) (bl.map bsS) (c2, (m : Int)) b (i : Int) 0 (acc.map (entD bl)) (used : Int) (acc.length : Int) = _
      unfold ref27_Open_b3
      rw [show decide ((acc.length : Int) < (m : Int)) = true from by simp only [decide_eq_true_eq]; omega, Bool.true_and, show decide ((0 : Int) = 0) = true from rfl, bind_some', if_pos rfl]
    rw [hbd, l5_0 _ _ _ _ (b, (i : Int), 0), thenL_bind, take_go hb hl hi (G := badD) (fun a v e he => by
      rw [l5_bad1 _ _ _ _ (b, a, e) _ he]
      exact lbad _ _ _ _ _ _ he), slotsP, show tileP last acc.isEmpty = nP.bnd (fun x => nP.bnd fun y => nP.bnd fun z => if rgt (tileN x y z) then (if !acc.isEmpty && !ltT last (tileN x y z) then .err 18 else .ret (tileN x y z)) else .err 5) from rfl, goR_bnd, goR_bnd]
    refine goR_cases hb hi (fun x j hj hr => ?_) (fun _ _ => rfl)
    dsimp only
    rw [l5_1 _ _ _ _ (b, (j : Int), 0), thenL_bind, take_go hb hl hj (G := badD) (fun a v e he => by
      rw [l5_bad2 _ _ _ _ (b, a, e) _ he]
      exact lbad _ _ _ _ _ _ he), goR_bnd]
    refine goR_cases hb hj (fun y j2 hj2 hr2 => ?_) (fun _ _ => rfl)
    dsimp only
    rw [l5_2 _ _ _ _ (b, (j2 : Int), 0), thenL_bind, take_go hb hl hj2 (G := badD) (fun a v e he => by
      rw [l5_bad3 _ _ _ _ (b, a, e) _ he]
      exact lbad _ _ _ _ _ _ he), goR_bnd]
    refine goR_cases hb hj2 (fun z j3 hj3 hr3 => ?_) (fun _ _ => rfl)
    dsimp only
    rw [l5_3 _ _ _ _ (b, (j3 : Int), 0)]
    dsimp only
    have k6w : ∀ t : T3, rgt t = false → thenL L (ref27_Open_k6 (bl.map bsS) (acc.map (entD bl)) (used : Int) (acc.length : Int) b (j3 : Int) 0 t) = badD 5 := fun t ht => by
      unfold ref27_Open_k6
      rw [show decide ((0 : Int) = 0) = true from rfl, gd_true, rright, bind_some', ht]
      simp only [Bool.not_false, Bool.and_self, if_true]
      rw [k7_bad _ _ _ _ _ _ _ (by decide)]
      exact lbad _ _ _ _ _ _ (by decide)
    by_cases hg : rgt (tileN x y z) = true
    · have hin := rgt_in hg
      unfold tileN at hin
      dsimp only at hin
      have et : tileN x y z = ((x : Int), (y : Int), (z : Int)) := by
        unfold tileN
        rw [show min x 1048576 = x by omega, show min y 1048576 = y by omega, show min z 1048576 = z by omega]
      rw [if_pos hg, show (decide ((x : Int) < 100) && decide ((y : Int) < 100) && decide ((z : Int) < 100)) = true from by simp only [Bool.and_eq_true, decide_eq_true_eq]; omega, if_pos rfl, show IntKind.i64.wrap (x : Int) = (x : Int) from IntWalk.i64_in _ (by omega), show IntKind.i64.wrap (y : Int) = (y : Int) from IntWalk.i64_in _ (by omega), show IntKind.i64.wrap (z : Int) = (z : Int) from IntWalk.i64_in _ (by omega), ← et]
      generalize tileN x y z = t at hg
      unfold ref27_Open_k6
      rw [show decide ((0 : Int) = 0) = true from rfl, gd_true, rright, bind_some', hg]
      simp only [Bool.not_true, Bool.and_false, Bool.false_eq_true, if_false]
      -- the tile against the one ahead of it
      have k7 : ref27_Open_k7 (bl.map bsS) (acc.map (entD bl)) (used : Int) (acc.length : Int) b (j3 : Int) t 0 = if (!acc.isEmpty && !ltT last t) = true then ref27_Open_k8 (bl.map bsS) (acc.map (entD bl)) (used : Int) (acc.length : Int) b (j3 : Int) t 18 else ref27_Open_k8 (bl.map bsS) (acc.map (entD bl)) (used : Int) (acc.length : Int) b (j3 : Int) t 0 := by
        unfold ref27_Open_k7
        rw [show decide ((0 : Int) = 0) = true from rfl, Bool.true_and, bind_some']
        by_cases ha : acc = []
        · subst ha; rfl
        · have hp : 0 < acc.length := List.length_pos_iff.2 ha
          rw [show decide ((0 : Int) < (acc.length : Int)) = true from by simp only [decide_eq_true_eq]; omega, gd_true, sb_one (by omega) hp, ix_getD dr (by simp; omega), bind_some', gd_true, getD_map' (entD bl) acc ((0, 0, 0), 0) dr (by omega), show (entD bl (acc.getD (acc.length - 1) ((0, 0, 0), 0))).1 = last from hla ha, rless, bind_some', Bool.true_and, show acc.isEmpty = false from by simpa using ha]
          rfl
      rw [k7]
      by_cases h18 : (!acc.isEmpty && !ltT last t) = true
      · rw [if_pos h18, if_pos h18, k8_bad _ _ _ _ _ _ _ (by decide)]
        exact lbad _ _ _ _ _ _ (by decide)
      · rw [if_neg h18, if_neg h18]
        show _ = goR (runA b ((blobP bl.length used).bnd _) j3) _ _
        unfold ref27_Open_k8
        rw [thenL_bind, take_go hb hl hj3 (G := badD) (fun a v e he => by
          rw [bind_some']
          dsimp only
          rw [show decide (e = 0) = false from by simpa using he, Bool.false_and, bind_some', if_neg (by decide), k9_bad _ _ _ _ _ _ he]
          exact lbad _ _ _ _ _ _ he), goR_bnd, show blobP bl.length used = nP.bnd (fun n => if bl.length ≤ n then .err 5 else if used < n then .err 18 else .ret n) from rfl, goR_bnd]
        refine goR_cases hb hj3 (fun n j4 hj4 hr4 => ?_) (fun _ _ => rfl)
        dsimp only
        rw [hbm, show IntKind.u64.wrap (bl.length : Int) = (bl.length : Int) from IntWalk.u64_in _ (by omega), bind_some', show decide ((0 : Int) = 0) = true from rfl, Bool.true_and, bind_some']
        by_cases h5 : bl.length ≤ n
        · rw [if_pos h5, show decide ((bl.length : Int) ≤ (n : Int)) = true from by simp only [decide_eq_true_eq]; omega, if_pos rfl, k9_bad _ _ _ _ _ _ (by decide)]
          exact lbad _ _ _ _ _ _ (by decide)
        · rw [if_neg h5, show decide ((bl.length : Int) ≤ (n : Int)) = false from by simp only [decide_eq_false_iff_not]; omega, if_neg (by decide)]
          have en : IntKind.i64.wrap (n : Int) = (n : Int) := IntWalk.i64_in _ (by omega)
          unfold ref27_Open_k9
          dsimp only
          rw [en, show decide ((0 : Int) = 0) = true from rfl, Bool.true_and, bind_some']
          by_cases h6 : used < n
          · rw [if_pos h6, show decide ((used : Int) < (n : Int)) = true from by simp only [decide_eq_true_eq]; omega, if_pos rfl, k10_bad _ _ _ _ _ _ (by decide)]
            exact lbad _ _ _ _ _ _ (by decide)
          · rw [if_neg h6, show decide ((used : Int) < (n : Int)) = false from by simp only [decide_eq_false_iff_not]; omega, if_neg (by decide)]
            have e2 : ad (acc.length : Int) 1 = (((acc ++ [(t, (n : Int))]).length : Nat) : Int) := by rw [ad_one (by omega)]; simp
            have e3 : ∀ u : Int, ref27_Open_k11 (bl.map bsS) (acc.map (entD bl)) (acc.length : Int) t ((b, (j4 : Int), 0), (n : Int)) 0 u = some (.inl (b, (j4 : Int), 0, (acc ++ [(t, (n : Int))]).map (entD bl), u, (((acc ++ [(t, (n : Int))]).length : Nat) : Int))) := fun u => by
              unfold ref27_Open_k11 ref27_Open_k4
              dsimp only
              rw [ix_getD ByteArray.empty (by simp; omega), bind_some', getD_map' bsS bl [] ByteArray.empty (by omega), app_le (by simp; omega), bind_some', e2, List.map_append]
              rfl
            have e4 : ref27_Open_k10 (bl.map bsS) (acc.map (entD bl)) (used : Int) (acc.length : Int) t ((b, (j4 : Int), 0), (n : Int)) 0 = some (.inl (b, (j4 : Int), 0, (acc ++ [(t, (n : Int))]).map (entD bl), ((max used (n + 1) : Nat) : Int), (((acc ++ [(t, (n : Int))]).length : Nat) : Int))) := by
              unfold ref27_Open_k10
              dsimp only
              rw [en, show decide ((0 : Int) = 0) = true from rfl, if_pos rfl, e3, e3]
              by_cases h7 : n = used
              · rw [show decide ((n : Int) = (used : Int)) = true from by simp only [decide_eq_true_eq]; omega, if_pos rfl, ad_one (by omega), show max used (n + 1) = used + 1 by omega]
              · rw [show decide ((n : Int) = (used : Int)) = false from by simp only [decide_eq_false_iff_not]; omega, if_neg (by decide), show max used (n + 1) = used by omega]
            rw [e4, thenL_inl]
            exact ih (acc ++ [(t, (n : Int))]) j4 (max used (n + 1)) t (by simp; omega) hj4 (by omega) (fun _ => by simp)
    · have hg : rgt (tileN x y z) = false := by simpa using hg
      rw [hg, if_neg (show ¬ (false = true) from by decide)]
      show _ = badD 5
      by_cases h100 : x < 100 ∧ y < 100 ∧ z < 100
      · have et : tileN x y z = ((x : Int), (y : Int), (z : Int)) := by
          unfold tileN
          rw [show min x 1048576 = x by omega, show min y 1048576 = y by omega, show min z 1048576 = z by omega]
        rw [show (decide ((x : Int) < 100) && decide ((y : Int) < 100) && decide ((z : Int) < 100)) = true from by simp only [Bool.and_eq_true, decide_eq_true_eq]; omega, if_pos rfl, show IntKind.i64.wrap (x : Int) = (x : Int) from IntWalk.i64_in _ (by omega), show IntKind.i64.wrap (y : Int) = (y : Int) from IntWalk.i64_in _ (by omega), show IntKind.i64.wrap (z : Int) = (z : Int) from IntWalk.i64_in _ (by omega), ← et]
        exact k6w _ hg
      · rw [show (decide ((x : Int) < 100) && decide ((y : Int) < 100) && decide ((z : Int) < 100)) = false from by
          rw [← Bool.not_eq_true]; simp only [Bool.and_eq_true, decide_eq_true_eq]; omega, if_neg (by decide)]
        exact k6w _ (by decide)
end
open Go.Proofs.Ytnmkonlfnpcoiaa
set_option maxRecDepth 8000
noncomputable def blB1 (b : List Int) (r : Rd × ByteArray) (q : Rd × Int) := fun (s : (List Int) × Int × Int × (List ByteArray) × Int) => ref27_Open_b1 b r q s.1 s.2.1 s.2.2.1 s.2.2.2.1 s.2.2.2.2
theorem bl1 (b : List Int) (r : Rd × ByteArray) (q : Rd × Int) (s) : ref27_Open_l1 b r q s = loopO (blB1 b r q) s := rfl
theorem b1_out (b : List Int) (r : Rd × ByteArray) (q : Rd × Int) (c : List Int) (a e : Int) (l : List ByteArray) (i : Int) (hc : (decide (i < q.2) && decide (e = 0)) = false) :
    loopO (blB1 b r q) (c, a, e, l, i) = (ref26_Up (c, a, e) 341 6).bind fun u => loopO (slB3 b r l u) (u.1.1, u.1.2.1, u.1.2.2, [], 0, 0) := by
  refine loopO_map ?_
  show ref27_Open_b1 b r q c a e l i = _
  unfold ref27_Open_b1
  rw [hc, bind_some', if_neg (by decide)]
  rfl
theorem l1_bad (b : List Int) (r : Rd × ByteArray) (q : Rd × Int) (c : List Int) (a : Int) {e : Int} (l : List ByteArray) (i : Int) (h : e ≠ 0) : loopO (blB1 b r q) (c, a, e, l, i) = badD e := by
  rw [b1_out b r q c a e l i (by rw [show decide (e = 0) = false from by simpa using h, Bool.and_false]), up_bad (c := (c, a, e)) h, bind_some']
  exact l3_bad _ _ _ _ c a _ _ _ h
def behD (b h : List Int) (bl : List (List Int)) (j : Nat) : Option (RefP × Int) := goR (runA b (upP 341 6) j) (fun m j2 => goR (runA b (slotsP bl.length m 0 (0, 0, 0) []) j2) (finD b h bl) badD) badD
section
variable {b : List Int} (hb : ∀ x ∈ b, U8 x) (hl : b.length ≤ 1000000)
include hb hl
set_option linter.unusedSectionVars false
theorem rblobs_eq (h : List Int) (n : Nat) (hn : n ≤ 1000) (c1 c2 : Rd) : ∀ (k : Nat) (acc : List (List Int)) (i : Nat), acc.length + k = n → i ≤ b.length → (∀ x ∈ acc, ∀ y ∈ x, U8 y) →
    loopO (blB1 b (c1, bsS h) (c2, (n : Int))) (b, (i : Int), 0, acc.map bsS, (acc.length : Int)) = goR (runA b (blobsP k acc) i) (behD b h) badD := by
  intro k
  induction k with
  | zero =>
    intro acc i hk hi hu
    rw [b1_out b _ _ _ _ _ _ _ (by rw [show decide ((acc.length : Int) < (c2, (n : Int)).2) = false from by simp only [decide_eq_false_iff_not]; omega, Bool.false_and]), show (341 : Int) = ((341 : Nat) : Int) from rfl, up_go hb hl hi 341 (by omega) 6 (by decide) (G := badD) (fun a v e he => l3_bad _ _ _ _ _ _ _ _ _ he)]
    show _ = behD b h acc i
    unfold behD
    refine goR_cases hb hi (fun m j hj hr => ?_) (fun _ _ => rfl)
    have := rslots_eq hb hl h acc (by omega) m (by have := up_le hr; omega) c1 (b, (j : Int), 0) m [] j 0 (0, 0, 0) (by simp) hj (by omega) (fun hh => (hh rfl).elim)
    exact this
  | succ k ih =>
    intro acc i hk hi hu
    have hbm : (((acc.map bsS).length : Nat) : Int) = (acc.length : Int) := by simp
    generalize hL : blB1 b (c1, bsS h) (c2, (n : Int)) = L at ih ⊢
    have lbad : ∀ (c : List Int) (a : Int) (e : Int) (p : List ByteArray) (i : Int), e ≠ 0 → thenL L (some (.inl (c, a, e, p, i))) = badD e := fun c a e p i h => by
      rw [thenL_inl, ← hL]; exact l1_bad _ _ _ c a p i h
    have k2 : ∀ (r : Rd × ByteArray) (c : Int), ref27_Open_k2 (acc.map bsS) (acc.length : Int) r c = some (.inl (r.1.1, r.1.2.1, c, acc.map bsS ++ [r.2], ((acc.length + 1 : Nat) : Int))) := fun r c => by
      unfold ref27_Open_k2
      rw [app_le (by simp; omega), bind_some', ad_one (by omega)]
    rw [loopO_then]
    have hbd : L (b, (i : Int), 0, acc.map bsS, (acc.length : Int)) = (ref27_some (b, (i : Int), 0)).bind fun r2994 => (gd (decide (r2994.1.2.2 = 0)) (ref27_place (acc.map bsS) r2994.2) 0).bind fun r3020 => (some ((decide (r2994.1.2.2 = 0)) && (decide (r3020 < ((acc.map bsS).length : Int))))).bind fun x3021 => if x3021 then (ref27_Open_k2 (acc.map bsS) (acc.length : Int) r2994 8) else (ref27_Open_k2 (acc.map bsS) (acc.length : Int) r2994 r2994.1.2.2) := by
      rw [← hL]
      show ref27_Open_b1 b (c1, bsS h) (c2, (n : Int)) b (i : Int) 0 (acc.map bsS) (acc.length : Int) = _
      unfold ref27_Open_b1
      rw [show decide ((acc.length : Int) < (c2, (n : Int)).2) = true from by simp only [decide_eq_true_eq]; omega, Bool.true_and, show decide ((0 : Int) = 0) = true from rfl, bind_some', if_pos rfl]
    rw [hbd, thenL_bind, some_go hb hl hi (G := badD) (fun a e he => by
      dsimp only
      rw [show decide (e = 0) = false from by simpa using he, gd_false, bind_some', Bool.false_and, bind_some', if_neg (by decide), k2]
      exact lbad _ _ _ _ _ he), blobsP, goR_bnd]
    refine goR_cases hb hi (fun x j hj hr => ?_) (fun _ _ => rfl)
    have hx := (whole_u8 hb hl hr).1
    dsimp only
    rw [show decide ((0 : Int) = 0) = true from rfl, gd_true, place_eq hu hx (by omega), bind_some', Bool.true_and, bind_some', hbm]
    by_cases hc : x ∈ acc
    · have := List.idxOf_lt_length_of_mem hc
      rw [show decide ((acc.idxOf x : Int) < (acc.length : Int)) = true from by simp only [decide_eq_true_eq]; omega, if_pos rfl, if_pos hc, k2]
      exact lbad _ _ _ _ _ (by decide)
    · have := List.idxOf_eq_length hc
      rw [show decide ((acc.idxOf x : Int) < (acc.length : Int)) = false from by simp only [decide_eq_false_iff_not]; omega, if_neg (by decide), if_neg hc, k2, thenL_inl]
      have := ih (acc ++ [x]) j (by simp; omega) hj (fun y hy => by
        rcases List.mem_append.1 hy with hy | hy
        · exact hu y hy
        · rw [List.mem_singleton] at hy; subst hy; exact hx)
      rw [List.map_append, List.length_append] at this
      exact this
theorem rOpen_eq : ref27_Open b = if b.take 4 = [71, 82, 84, 49] then goR (runA b archP 4) (fun A j => if j < b.length then badD 3 else some ((bsS A.1, A.2.2.map (entD A.2.1)), 0)) badD else badD 17 := by
  have m8 : ∀ x ∈ ([71, 82, 84, 49] : List Int), U8 x := fun x hx => by
    simp only [List.mem_cons, List.not_mem_nil, or_false] at hx
    rcases hx with rfl | rfl | rfl | rfl <;> (unfold U8; omega)
  unfold ref27_Open
  by_cases h4 : 4 ≤ b.length
  · rw [show decide ((b.length : Int) < 4) = false from by simp only [decide_eq_false_iff_not]; omega, Bool.not_false, gd_true, show (4 : Int) = ((4 : Nat) : Int) from rfl, cut_to h4, bind_some', Bool.false_or, bind_some', show (⟨#[71, 82, 84, 49]⟩ : ByteArray) = bsS [71, 82, 84, 49] from rfl, eqB (fun x hx => hb x (List.mem_of_mem_take hx)) m8]
    by_cases hp : b.take 4 = [71, 82, 84, 49]
    · rw [if_pos hp, decide_eq_true hp]
      simp only [Bool.not_true, Bool.false_eq_true, if_false]
      have ubad : ∀ (h : ByteArray) (cc : Rd) (e : Int), cc.2.2 = e → e ≠ 0 → ∀ v : Int, ref27_Open_l1 b (cc, h) (cc, v) (cc.1, cc.2.1, cc.2.2, [], 0) = badD e := fun h cc e hc he v => by
        rw [bl1, hc]; exact l1_bad _ _ _ _ _ _ _ he
      rw [some_go hb hl h4 (G := badD) (fun a e he => by
        rw [up_bad (c := (b, a, e)) he, bind_some']
        exact ubad _ (b, a, e) e rfl he 0)]
      unfold archP
      rw [goR_bnd]
      refine goR_cases hb h4 (fun h j hj hr => ?_) (fun _ _ => rfl)
      dsimp only
      rw [show (341 : Int) = ((341 : Nat) : Int) from rfl, up_go hb hl hj 341 (by omega) 6 (by decide) (G := badD) (fun a v e he => by
        rw [bl1]; exact l1_bad _ _ _ _ _ _ _ he), goR_bnd]
      refine goR_cases hb hj (fun n j2 hj2 hr2 => ?_) (fun _ _ => rfl)
      have hn := up_le hr2
      dsimp only
      rw [bl1]
      have hbe := rblobs_eq hb hl h n (by omega) (b, (j : Int), 0) (b, (j2 : Int), 0) n [] j2 (by simp) hj2 (fun x hx => by cases hx)
      refine Eq.trans hbe ?_
      rw [goR_bnd]
      refine goR_cases hb hj2 (fun bl j3 hj3 hr3 => ?_) (fun _ _ => rfl)
      unfold behD
      rw [goR_bnd]
      refine goR_cases hb hj3 (fun m j4 hj4 hr4 => ?_) (fun _ _ => rfl)
      rw [goR_bnd]
      refine goR_cases hb hj4 (fun s j5 hj5 hr5 => ?_) (fun _ _ => rfl)
      unfold finD
      by_cases h7 : s.1 < bl.length
      · rw [if_pos h7, if_pos h7]; rfl
      · rw [if_neg h7, if_neg h7]; rfl
    · rw [if_neg hp, decide_eq_false hp]; rfl
  · rw [show decide ((b.length : Int) < 4) = true from by simp only [decide_eq_true_eq]; omega, Bool.not_true, gd_false, bind_some', Bool.true_or, bind_some', if_pos rfl, if_neg (fun hp => by
      have := congrArg List.length hp
      simp at this; omega)]
    rfl
end
open Go.Proofs.Ytnmkonlfnpcoiaa
set_option maxRecDepth 8000
theorem eat_bnd_inv {α β : Type} (f : α → Prs β) : ∀ (p : Prs α) (zs : List Tok) (c : β), eat (p.bnd f) zs = some c → ∃ xs ys a, zs = xs ++ ys ∧ eat p xs = some a ∧ eat (f a) ys = some c
  | .ret a, zs, c, h => ⟨[], zs, a, rfl, rfl, h⟩
  | .err e, zs, c, h => by cases zs <;> cases h
  | .nx k, [], c, h => by cases h
  | .nx k, .num x :: zs, c, h => by
    obtain ⟨xs, ys, a, e1, e2, e3⟩ := eat_bnd_inv f (k x) zs c h
    exact ⟨.num x :: xs, ys, a, by rw [e1]; rfl, e2, e3⟩
  | .nx k, .raw x :: zs, c, h => by cases h
  | .by n k, [], c, h => by cases h
  | .by n k, .num x :: zs, c, h => by cases h
  | .by n k, .raw x :: zs, c, h => by
    have h : (if x.length = n then eat ((k x).bnd f) zs else none) = some c := h
    by_cases hx : x.length = n
    · rw [if_pos hx] at h
      obtain ⟨xs, ys, a, e1, e2, e3⟩ := eat_bnd_inv f (k x) zs c h
      exact ⟨.raw x :: xs, ys, a, by rw [e1]; rfl, by rw [eat, if_pos hx]; exact e2, e3⟩
    · rw [if_neg hx] at h; cases h
theorem eat_nx {α : Type} {k : Nat → Prs α} {zs : List Tok} {c : α} (h : eat (.nx k) zs = some c) : ∃ x ys, zs = .num x :: ys ∧ eat (k x) ys = some c := by
  cases zs with
  | nil => cases h
  | cons t r =>
    cases t with
    | num x => exact ⟨x, r, rfl, h⟩
    | raw x => cases h
theorem eat_by {α : Type} {n : Nat} {k : List Int → Prs α} {zs : List Tok} {c : α} (h : eat (.by n k) zs = some c) : ∃ x ys, zs = .raw x :: ys ∧ x.length = n ∧ eat (k x) ys = some c := by
  cases zs with
  | nil => cases h
  | cons t r =>
    cases t with
    | num x => cases h
    | raw x =>
      have h : (if x.length = n then eat (k x) r else none) = some c := h
      by_cases hx : x.length = n
      · rw [if_pos hx] at h; exact ⟨x, r, rfl, hx, h⟩
      · rw [if_neg hx] at h; cases h
theorem eat_ret {α : Type} {a c : α} {zs : List Tok} (h : eat (.ret a) zs = some c) : zs = [] ∧ a = c := by
  cases zs with
  | nil => injection h with h; exact ⟨rfl, h⟩
  | cons t r => cases h
theorem eat_err {α : Type} {e : Int} {c : α} {zs : List Tok} (h : eat (.err e : Prs α) zs = some c) : False := by
  cases zs <;> cases h
theorem whole_inv {zs : List Tok} {b : List Int} (h : eat wholeP zs = some b) : zs = wT b := by
  obtain ⟨n, ys, rfl, h1⟩ := eat_nx h
  obtain ⟨l, r, rfl, hl, h2⟩ := eat_by h1
  obtain ⟨rfl, rfl⟩ := eat_ret h2
  rw [← hl]; rfl
theorem up_inv {g k : Nat} {e : Int} {zs : List Tok} (h : eat (upP g e) zs = some k) : zs = [.num k] ∧ k ≤ g := by
  obtain ⟨n, ys, rfl, h1⟩ := eat_nx h
  by_cases hn : n ≤ g
  · rw [if_pos hn] at h1
    obtain ⟨rfl, rfl⟩ := eat_ret h1
    exact ⟨rfl, hn⟩
  · rw [if_neg hn] at h1; exact (eat_err h1).elim
theorem blobs_inv : ∀ (k : Nat) (acc : List (List Int)) (zs : List Tok) (bl : List (List Int)), eat (blobsP k acc) zs = some bl → acc.Nodup → ∃ more, bl = acc ++ more ∧ more.length = k ∧ zs = more.flatMap wT ∧ bl.Nodup
  | 0, acc, zs, bl, h, hn => by
    obtain ⟨rfl, rfl⟩ := eat_ret h
    exact ⟨[], by simp, rfl, rfl, hn⟩
  | k + 1, acc, zs, bl, h, hn => by
    rw [blobsP] at h
    obtain ⟨xs, ys, x, rfl, h1, h2⟩ := eat_bnd_inv _ _ _ _ h
    have := whole_inv h1
    subst this
    by_cases hx : x ∈ acc
    · rw [if_pos hx] at h2; exact (eat_err h2).elim
    · rw [if_neg hx] at h2
      obtain ⟨more, e1, e2, e3, e4⟩ := blobs_inv k (acc ++ [x]) ys bl h2 (by
        rw [List.nodup_append]
        exact ⟨hn, by simp, fun a ha c hc hac => hx (by rw [List.mem_singleton] at hc; rw [← hc, ← hac]; exact ha)⟩)
      exact ⟨x :: more, by rw [e1]; simp, by simp [e2], by rw [e3, List.flatMap_cons], e4⟩
theorem tileN_toNat {x y z : Nat} (h : rgt (tileN x y z) = true) : (tileN x y z).1.toNat = x ∧ (tileN x y z).2.1.toNat = y ∧ (tileN x y z).2.2.toNat = z := by
  have := rgt_in h
  unfold tileN at this ⊢
  dsimp only at this ⊢
  omega
theorem tile_inv {last t : T3} {first : Bool} {zs : List Tok} (h : eat (tileP last first) zs = some t) : zs = [.num t.1.toNat, .num t.2.1.toNat, .num t.2.2.toNat] ∧ rgt t = true ∧ (first = true ∨ ltT last t = true) := by
  obtain ⟨x, ys1, rfl, h1⟩ := eat_nx h
  obtain ⟨y, ys2, rfl, h2⟩ := eat_nx h1
  obtain ⟨z, ys3, rfl, h3⟩ := eat_nx h2
  clear h h1 h2
  by_cases hr : rgt (tileN x y z) = true
  · rw [if_pos hr] at h3
    by_cases hc : (!first && !ltT last (tileN x y z)) = true
    · rw [if_pos hc] at h3; exact (eat_err h3).elim
    · rw [if_neg hc] at h3
      obtain ⟨rfl, rfl⟩ := eat_ret h3
      obtain ⟨e1, e2, e3⟩ := tileN_toNat hr
      refine ⟨by rw [e1, e2, e3], hr, ?_⟩
      cases first with
      | true => exact .inl rfl
      | false => exact .inr (by simpa using hc)
  · rw [if_neg hr] at h3; exact (eat_err h3).elim
theorem blob_inv {all used n : Nat} {zs : List Tok} (h : eat (blobP all used) zs = some n) : zs = [.num n] ∧ n < all ∧ n ≤ used := by
  obtain ⟨x, ys, rfl, h0⟩ := eat_nx h
  clear h
  by_cases h1 : all ≤ x
  · rw [if_pos h1] at h0; exact (eat_err h0).elim
  · rw [if_neg h1] at h0
    by_cases h2 : used < x
    · rw [if_pos h2] at h0; exact (eat_err h0).elim
    · rw [if_neg h2] at h0
      obtain ⟨rfl, rfl⟩ := eat_ret h0
      exact ⟨rfl, by omega, by omega⟩
theorem slots_inv (all : Nat) : ∀ (k used : Nat) (last : T3) (acc : List (T3 × Int)) (zs : List Tok) (u : Nat) (sl : List (T3 × Int)), eat (slotsP all k used last acc) zs = some (u, sl) →
    ∃ more, sl = acc ++ more ∧ more.length = k ∧ zs = more.flatMap slT ∧ SlF all used last acc.isEmpty more ∧ u = usF used more
  | 0, used, last, acc, zs, u, sl, h => by
    obtain ⟨rfl, h'⟩ := eat_ret h
    injection h' with h1 h2
    subst h1 h2
    exact ⟨[], by simp, rfl, rfl, trivial, rfl⟩
  | k + 1, used, last, acc, zs, u, sl, h => by
    rw [slotsP] at h
    obtain ⟨xs, ys, t, rfl, h1, h'⟩ := eat_bnd_inv _ _ _ _ h
    obtain ⟨xs2, ys2, n, rfl, h2, h''⟩ := eat_bnd_inv _ _ _ _ h'
    clear h h'
    obtain ⟨more, e1, e2, e3, e4, e5⟩ := slots_inv all k _ _ _ _ _ _ h''
    obtain ⟨rfl, t1, t2⟩ := tile_inv h1
    obtain ⟨rfl, b1, b2⟩ := blob_inv h2
    refine ⟨(t, (n : Int)) :: more, by rw [e1]; simp, by simp [e2], ?_, ⟨t1, t2, by simp, by simpa using b1, by simpa using b2, ?_⟩, ?_⟩
    · rw [e3, List.flatMap_cons]; simp [slT]
    · have : (acc ++ [(t, (n : Int))]).isEmpty = false := by simp
      rw [this] at e4
      simpa using e4
    · rw [e5]; simp [usF]
theorem arch_inv {zs : List Tok} {h : List Int} {bl : List (List Int)} {sl : List (T3 × Int)} (hh : eat archP zs = some (h, bl, sl)) :
    zs = toksA h (bl, sl) ∧ bl.Nodup ∧ bl.length ≤ 341 ∧ sl.length ≤ 341 ∧ SlF bl.length 0 (0, 0, 0) true sl ∧ bl.length ≤ usF 0 sl := by
  unfold archP at hh
  obtain ⟨x1, y1, a1, z1, e1, h1⟩ := eat_bnd_inv _ _ _ _ hh
  obtain ⟨x2, y2, a2, z2, e2, h2⟩ := eat_bnd_inv _ _ _ _ h1
  obtain ⟨x3, y3, a3, z3, e3, h3⟩ := eat_bnd_inv _ _ _ _ h2
  obtain ⟨x4, y4, a4, z4, e4, h4⟩ := eat_bnd_inv _ _ _ _ h3
  obtain ⟨x5, y5, a5, z5, e5, h5⟩ := eat_bnd_inv _ _ _ _ h4
  clear hh h1 h2 h3 h4
  by_cases hc : a5.1 < a3.length
  · rw [if_pos hc] at h5; exact (eat_err h5).elim
  rw [if_neg hc] at h5
  obtain ⟨z6, h6⟩ := eat_ret h5
  clear h5
  subst z6 z5 z4 z3 z2 z1
  injection h6 with q1 q2
  injection q2 with q2 q3
  subst q1 q2 q3
  have := whole_inv e1
  subst this
  obtain ⟨rfl, l2⟩ := up_inv e2
  obtain ⟨m3, f1, f2, rfl, f4⟩ := blobs_inv _ _ _ _ e3 List.nodup_nil
  obtain ⟨rfl, l4⟩ := up_inv e4
  obtain ⟨m5, g1, g2, rfl, g4, g5⟩ := slots_inv _ _ _ _ _ _ _ _ e5
  rw [List.nil_append] at f1 g1
  subst f1
  obtain ⟨u5, s5⟩ := a5
  dsimp only at g1 hc ⊢
  subst g1
  refine ⟨?_, f4, by omega, by omega, g4, by omega⟩
  unfold toksA
  rw [f2, g2]; simp
def entS (bl : List (List Int)) (s : T3 × Int) : Ent := (s.1, bl.getD s.2.toNat [])
theorem getD_idx {α : Type} [BEq α] [LawfulBEq α] {l : List α} (hn : l.Nodup) {n : Nat} (h : n < l.length) (d : α) : l.idxOf (l.getD n d) = n := by
  rw [List.getD_eq_getElem?_getD, List.getElem?_eq_getElem h]
  exact hn.idxOf_getElem n h
theorem arc_back {bl : List (List Int)} (hn : bl.Nodup) : ∀ (sl : List (T3 × Int)) (used : Nat) (last : T3) (first : Bool) (pre : List (T3 × Int)), SlF bl.length used last first sl → used ≤ bl.length →
    (sl.map (entS bl)).foldl stB (bl.take used, pre) = (bl.take (usF used sl), pre ++ sl) ∧ usF used sl ≤ bl.length
  | [], used, last, first, pre, _, hu => by simp [usF, hu]
  | s :: r, used, last, first, pre, h, hu => by
    obtain ⟨h1, h2, h3, h4, h5, h6⟩ := h
    rw [List.map_cons, List.foldl_cons]
    have es : (s.1, ((s.2.toNat : Nat) : Int)) = s := by
      obtain ⟨a, c⟩ := s
      simp only at h3 ⊢
      congr 1; omega
    have hst : stB (bl.take used, pre) (entS bl s) = (bl.take (max used (s.2.toNat + 1)), pre ++ [s]) := by
      unfold stB entS
      dsimp only
      by_cases hlt : s.2.toNat < used
      · have e1 : (bl.take used).getD s.2.toNat [] = bl.getD s.2.toNat [] := getD_take hlt
        have hm : bl.getD s.2.toNat [] ∈ bl.take used := by rw [← e1]; exact getD_mem (by simp; omega)
        have hi : (bl.take used).idxOf (bl.getD s.2.toNat []) = s.2.toNat := by
          rw [← e1]
          exact getD_idx (hn.sublist (List.take_sublist _ _)) (by simp; omega) []
        rw [if_pos hm, hi, es, show max used (s.2.toNat + 1) = used by omega]
      · have eu : s.2.toNat = used := by omega
        have hm : ¬ bl.getD s.2.toNat [] ∈ bl.take used := fun hm => by
          obtain ⟨j, hj, e⟩ := mem_getD (d := ([] : List Int)) hm
          have hj2 : j < used := by simp at hj; omega
          rw [getD_take hj2] at e
          have a1 := getD_idx hn (show j < bl.length by omega) ([] : List Int)
          have a2 := getD_idx hn (show s.2.toNat < bl.length by omega) ([] : List Int)
          rw [e] at a1
          omega
        rw [if_neg hm, show max used (s.2.toNat + 1) = used + 1 by omega, snoc_take ([] : List Int) (show used < bl.length by omega), show ((bl.take used).length : Int) = ((s.2.toNat : Nat) : Int) from by rw [List.length_take]; omega, es, eu]
    rw [hst]
    obtain ⟨g1, g2⟩ := arc_back hn r (max used (s.2.toNat + 1)) s.1 false (pre ++ [s]) h6 (by omega)
    refine ⟨?_, g2⟩
    rw [g1, List.append_assoc]; rfl
theorem slF_ris {bl : List (List Int)} : ∀ (sl : List (T3 × Int)) (used : Nat) (last : T3) (first : Bool), SlF bl.length used last first sl → Ris last first (sl.map (entS bl))
  | [], _, _, _, _ => trivial
  | s :: r, used, last, first, h => ⟨h.1, h.2.1, slF_ris r _ s.1 false h.2.2.2.2.2⟩
theorem ris_all : ∀ (S : List Ent) (last : T3), Ris last false S → ∀ e ∈ S, ltT last e.1 = true
  | [], _, _, e, he => by cases he
  | x :: r, last, h, e, he => by
    obtain ⟨h1, h2, h3⟩ := h
    have h2 : ltT last x.1 = true := by simpa using h2
    rcases List.mem_cons.1 he with he | he
    · rw [he]; exact h2
    · exact wkT.tr h2 (ris_all r x.1 h3 e he)
theorem ris_str : ∀ (S : List Ent) (last : T3) (first : Bool), Ris last first S → Str S ∧ ∀ e ∈ S, rgt e.1 = true
  | [], _, _, _ => ⟨List.Pairwise.nil, fun e he => by cases he⟩
  | x :: r, last, first, h => by
    obtain ⟨h1, h2, h3⟩ := h
    obtain ⟨g1, g2⟩ := ris_str r x.1 false h3
    refine ⟨List.pairwise_cons.2 ⟨ris_all r x.1 h3, g1⟩, fun e he => ?_⟩
    rcases List.mem_cons.1 he with he | he
    · rw [he]; exact h1
    · exact g2 e he
theorem str_inc {S : List Ent} (h : Str S) : Inc ltE S := h.imp fun {a b} hab => by
  show ltT b.1 a.1 = false
  rw [ltT_iff] at hab
  rw [ltT_not]
  omega
theorem str_nodup {S : List Ent} (h : Str S) : (S.map (·.1)).Nodup := by
  rw [List.Nodup, List.pairwise_map]
  exact h.imp fun {a b} hab he => by rw [he, wkT.ir] at hab; cases hab
theorem str_chk {S : List Ent} (h : Str S) (hr : ∀ e ∈ S, rgt e.1 = true) : chk [] S = 0 := (chk_zero S []).2 ⟨hr, fun e _ => by simp, str_nodup h⟩
theorem read_back {b : List Int} (hb : ∀ x ∈ b, U8 x) (hl : b.length ≤ 300) (hp : b.take 4 = [71, 82, 84, 49]) {h : List Int} {bl : List (List Int)} {sl : List (T3 × Int)} {j : Nat} (hr : runA b archP 4 = .inl ((h, bl, sl), j)) (hj : ¬ j < b.length) :
    ∃ S : List Ent, Str S ∧ chk [] S = 0 ∧ S.length < 128 ∧ arc S = (bl, sl) ∧ S.map ofE = sl.map (entD bl) ∧ (∀ e ∈ S, ∀ x ∈ e.2, U8 x) ∧ (∀ e ∈ S, e.2.length ≤ 300) ∧ h.length ≤ 300 ∧ (∀ x ∈ h, U8 x) ∧ bytesA h (arc S) = b := by
  have h4 : 4 ≤ b.length := by
    have := congrArg List.length hp
    simp at this; omega
  obtain ⟨zs, z1, z2, z3, z4, z5⟩ := runA_inv hb archP 4 _ j h4 hr
  obtain ⟨rfl, a1, a2, a3, a4, a5⟩ := arch_inv z2
  have hby : bytesA h (bl, sl) = b := by
    rw [bytes_cat, ← hp]
    have : b.drop j = [] := List.drop_eq_nil_of_le (by omega)
    rw [this, List.append_nil] at z3
    rw [← z3, List.take_append_drop]
  obtain ⟨c1, c2⟩ := arc_back a1 sl 0 (0, 0, 0) true [] a4 (by omega)
  have hA : arc (sl.map (entS bl)) = (bl, sl) := by
    unfold arc
    rw [List.take_zero] at c1
    rw [c1, List.nil_append, List.take_of_length_le (by omega)]
  obtain ⟨d1, d2⟩ := ris_str _ _ _ (slF_ris (bl := bl) sl 0 (0, 0, 0) true a4)
  -- how long the parts are
  have hsub : ∀ c : List Int, (∃ p q, b = p ++ c ++ q) → c.length ≤ 300 ∧ ∀ x ∈ c, U8 x := fun c ⟨p, q, e⟩ => by
    rw [e] at hl hb
    simp only [List.length_append] at hl
    exact ⟨by omega, fun x hx => hb x (by simp [hx])⟩
  have hbl : ∀ c ∈ bl, ∃ p q, b = p ++ c ++ q := fun c hc => by
    obtain ⟨l1, l2, rfl⟩ := List.append_of_mem hc
    rw [← hby]
    unfold bytesA
    refine ⟨[71, 82, 84, 49] ++ wB h ++ vb (l1 ++ c :: l2).length ++ l1.flatMap wB ++ vb c.length, l2.flatMap wB ++ vb sl.length ++ sl.flatMap slB, ?_⟩
    rw [List.flatMap_append, List.flatMap_cons]
    simp only [wB, List.append_assoc]
  have hhd : ∃ p q, b = p ++ h ++ q := by
    rw [← hby]
    unfold bytesA
    refine ⟨[71, 82, 84, 49] ++ vb h.length, vb bl.length ++ bl.flatMap wB ++ vb sl.length ++ sl.flatMap slB, ?_⟩
    simp only [wB, List.append_assoc]
  have hsl : sl.length < 128 := by
    have e : ∀ l : List (T3 × Int), 4 * l.length ≤ (l.flatMap slB).length := by
      intro l
      induction l with
      | nil => simp
      | cons s r ih =>
        rw [List.flatMap_cons, List.length_append, List.length_cons]
        have v1 := vb_pos s.1.1.toNat
        have v2 := vb_pos s.1.2.1.toNat
        have v3 := vb_pos s.1.2.2.toNat
        have v4 := vb_pos s.2.toNat
        have : 4 ≤ (slB s).length := by unfold slB; simp only [List.length_append]; omega
        omega
    have := e sl
    rw [← hby] at hl
    unfold bytesA at hl
    simp only [List.length_append] at hl
    omega
  have hmem : ∀ e ∈ sl.map (entS bl), e.2 ∈ bl := fun e he => by
    have : e.2 ∈ (arc (sl.map (entS bl))).1 := by rw [dd_arc]; exact (dd_mem _ _).2 (List.mem_map.2 ⟨e, he, rfl⟩)
    rwa [hA] at this
  refine ⟨sl.map (entS bl), d1, str_chk d1 d2, by simpa using hsl, hA, by rw [List.map_map]; rfl, fun e he => (hsub _ (hbl _ (hmem e he))).2, fun e he => (hsub _ (hbl _ (hmem e he))).1, (hsub _ hhd).1, (hsub _ hhd).2, by rw [hA]; exact hby⟩
theorem law27_PackOpens_true (x0 : List Int) (x1 : Int × Int × Int) (k0 : ∀ y5 ∈ x0, U8 y5) (k1 : I64 x1.1 ∧ I64 x1.2.1 ∧ I64 x1.2.2) : law27_PackOpens x0 x1 = some true := by
  unfold law27_PackOpens
  rw [show (300 : Int) = ((300 : Nat) : Int) from rfl, cut_mn, bind_some']
  have hb : ∀ x ∈ x0.take 300, U8 x := fun x hx => k0 x (List.mem_of_mem_take hx)
  have hl : (x0.take 300).length ≤ 300 := by simp; omega
  generalize x0.take 300 = b at hb hl
  have wrong : ∀ e : Int, e ≠ 0 → pack_Open b = badO e → ref27_Open b = badD e → ∀ k, rngO (pack_Open b) k (fun n110 => (ref27_Open b).bind fun r112 => (some ((!decide (n110.2 = r112.2)) || (!(false == (decide (r112.2 = 0)))))).bind fun x120 => if x120 then (some false) else (if (!decide (r112.2 = 0)) then ((law27_known).bind fun r127 => some r127) else ((pack_Write ([] : List Int) ([] : List ((Int × Int × Int) × (List Int)))).bind fun r134 => (law27_known).bind fun r138 => (gd r138 (law27_alike_nil r112.1 x1) false).bind fun r139 => (some ((r138 && r139) && (decide (r134.2 = 0)))).bind fun x140 => (gd x140 (ref07_Same r134.1 b) false).bind fun r141 => some (x140 && r141)))) = some true := by
    intro e he h1 h2 k
    rw [h1, h2]
    unfold badO badD
    rw [rngO_inr, bind_some', bind_some', known27]
    dsimp only
    rw [decide_eq_false he]
    simp
  rw [Open_eq hb (by omega), rOpen_eq hb (by omega)]
  rw [Open_eq hb (by omega), rOpen_eq hb (by omega)] at wrong
  by_cases hp : b.take 4 = [71, 82, 84, 49]
  · rw [if_pos hp, if_pos hp]
    rw [if_pos hp, if_pos hp] at wrong
    have herr := er_arch b 4
    cases hr : runA b archP 4 with
    | inr e =>
      rw [hr] at wrong
      exact wrong e (herr e hr) rfl rfl _
    | inl q =>
      obtain ⟨⟨h, bl, sl⟩, j⟩ := q
      rw [hr] at wrong
      by_cases hj : j < b.length
      · have e1 : goR (.inl ((h, bl, sl), j)) (fun (A : List Int × List (List Int) × List (T3 × Int)) j => if j < b.length then badO 3 else some (.inl (A, 0))) badO = badO 3 := if_pos hj
        have e2 : goR (.inl ((h, bl, sl), j)) (fun (A : List Int × List (List Int) × List (T3 × Int)) j => if j < b.length then badD 3 else some ((bsS A.1, A.2.2.map (entD A.2.1)), 0)) badD = badD 3 := if_pos hj
        exact wrong 3 (by decide) e1 e2 _
      · have e1 : goR (.inl ((h, bl, sl), j)) (fun (A : List Int × List (List Int) × List (T3 × Int)) j => if j < b.length then badO 3 else some (.inl (A, 0))) badO = some (.inl ((h, bl, sl), 0)) := if_neg hj
        have e2 : goR (.inl ((h, bl, sl), j)) (fun (A : List Int × List (List Int) × List (T3 × Int)) j => if j < b.length then badD 3 else some ((bsS A.1, A.2.2.map (entD A.2.1)), 0)) badD = some ((bsS h, sl.map (entD bl)), 0) := if_neg hj
        obtain ⟨S, s1, s2, s3, s4, s5, s6, s7, s8, s9, s10⟩ := read_back hb hl hp hr hj
        have hs : isort ltE S = S := isort_of_inc wkE S (str_inc s1)
        rw [e1, e2, rngO_inl, bind_some', ← s4, ← s5]
        dsimp only
        rw [show (!decide ((0 : Int) = 0)) = false from rfl, show (!(true == decide ((0 : Int) = 0))) = false from rfl, Bool.or_self, bind_some', if_neg (by decide), if_neg (by decide)]
        have hb6 : ∀ e ∈ S, e.2.length ≤ 1000000 := fun e he => by have := s7 e he; omega
        rw [show pack_Pack_Head (h, arc S) = some h from by unfold pack_Pack_Head; rw [clone_eq (b := h) (by omega)]; rfl, bind_some', Entries_eq (head := h) s1 (by omega) hb6, bind_some', write_eq s6 s3 (by omega) (fun e he => by have := s7 e he; omega), bind_some', known27, bind_some', gd_true, alike_eq (head := h) s1 (by omega) hb6 s6 (by omega) x1, bind_some', if_pos s2, hs, s10]
        simp only [Bool.and_self, decide_true, bind_some', gd_true]
        rw [Same_eq _ _ (by omega), bind_some', decide_eq_true rfl]
        rfl
  · rw [if_neg hp, if_neg hp]
    rw [if_neg hp, if_neg hp] at wrong
    exact wrong 17 (by decide) rfl rfl _
end Go.Proofs.Ytnmkonlfnpcoiaa.Pl
